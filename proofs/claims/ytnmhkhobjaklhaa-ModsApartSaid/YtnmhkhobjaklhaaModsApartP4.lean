/- Part 4 of the words and walks that the proof behind it uses. -/
import Derived.Test.YtnmhkhobjaklhaaModsApartP3
set_option linter.unusedVariables false
set_option linter.unusedSimpArgs false
set_option maxHeartbeats 1000000
namespace Go.Aw
open Go Go.Proofs
theorem un158 : Try.prog.underlying 158 = some (.int .u64) := by kernel_rfl
set_option maxRecDepth 100000 in
theorem rSameActs_w (s1 s2 : Sl) (l1 l2 : List ActD) (m : Snap) (H : Hp) (hz1 : FzA m s1 l1) (hz2 : FzA m s2 l2) : Fn Try.prog 100 [s1.v, s2.v] m H (fun v _ H' => v = .bool (decide (l1 = l2)) ∧ H' = H) := by
  have hm : m.le m := Snap.le.refl m
  refine fn_end Try.func100 rfl rfl rfl ?_
  refine c_seq (fun K0 hK0 => ?_)
  refine c_region ?_
  refine r_y rfl rfl (y_assign rfl) ?_
  refine r_nil ?_
  refine hK0 _ _ _ ?_
  clear hK0 K0
  refine c_seq (fun K1 hK1 => ?_)
  refine c_seq (fun K2 hK2 => ?_)
  refine c_region ?_
  refine r_y rfl rfl (y_move rfl) ?_
  refine r_y rfl rfl (y_len tl30 rfl) ?_
  refine r_y rfl rfl (y_move rfl) ?_
  refine r_y rfl rfl (y_len tl30 rfl) ?_
  refine r_y rfl rfl (y_iop rfl rfl rfl) ?_
  refine r_nil ?_
  refine hK2 _ _ _ ?_
  clear hK2 K2
  refine c_cond rfl (fun h0 => ?_) (fun h0 => ?_)
  ·
    refine c_seq (fun K3 hK3 => ?_)
    refine c_region ?_
    refine r_y rfl rfl (y_assign rfl) ?_
    refine r_nil ?_
    refine hK3 _ _ _ ?_
    clear hK3 K3
    refine c_ret ?_
    refine e_ret 0 hm (res_tmps rfl) ?_
    refine ⟨congrArg Value.bool ?_, rfl⟩
    have hl1 := hz1.lenA; have hl2 := hz2.lenA
    have : s1.n ≠ s2.n := by simp at h0; omega
    exact (decide_eq_false (by rintro rfl; omega)).symm
  ·
    have hl1 := hz1.lenA
    have hl2 := hz2.lenA
    have hne : s1.n = s2.n := by simp at h0; omega
    have hmx := hz1.max
    have hle := hz1.le
    unfold maxLen at hmx
    refine c_skip ?_
    refine hK1 _ _ _ ?_
    clear hK1 K1
    refine c_seq (fun K4 hK4 => ?_)
    refine c_seq (fun K5 hK5 => ?_)
    refine c_region ?_
    refine r_y rfl rfl (y_assign rfl) ?_
    refine r_nil ?_
    refine hK5 _ _ _ ?_
    clear hK5 K5
    refine c_block ?_
    refine c_loopx (α := Nat) (fun i => [(0, s1.v), (1, s2.v), (5, .int .i64 (i : Nat))]) (fun i => H) (fun k0 i m1 => (i + k0 = s1.n ∧ l1.take i = l2.take i) ∧ m.le m1 ∧ (FzA m1 s1 l1) ∧ (FzA m1 s2 l2)) (s1.n) 0 ⟨rfl, rfl, rfl, trivial⟩ rfl ⟨⟨by omega, rfl⟩, hm, hz1, hz2⟩ ?_
    clear hm hz1 hz2
    rintro k0 i m1 ⟨hi0, hm, hz1, hz2⟩
    obtain ⟨hi, hinv⟩ := hi0
    refine c_seq (fun K6 hK6 => ?_)
    refine c_seq (fun K7 hK7 => ?_)
    refine c_region ?_
    refine r_y rfl rfl (y_move rfl) ?_
    refine r_y rfl rfl (y_move rfl) ?_
    refine r_y rfl rfl (y_len tl30 rfl) ?_
    refine r_y rfl rfl (y_iop rfl rfl rfl) ?_
    refine r_nil ?_
    refine hK7 _ _ _ ?_
    clear hK7 K7
    refine c_cond rfl (fun h1 => ?_) (fun h1 => ?_)
    ·
      have hlt1 : i < s1.n := by simp at h1; omega
      have hlt2 : i < s2.n := by omega
      obtain ⟨x1, hx1⟩ := get_of_lt (l := l1) (k := i) (by omega)
      obtain ⟨x2, hx2⟩ := get_of_lt (l := l2) (k := i) (by omega)
      refine c_skip ?_
      refine hK6 _ _ _ ?_
      clear hK6 K6
      refine c_seq (fun K8 hK8 => ?_)
      refine c_block ?_
      refine c_seq (fun K9 hK9 => ?_)
      refine c_draw ([]) (by kernel_rfl) (fun hg => ?_)
      have hz1_g := hz1
      have hz2_g := hz2
      refine g_y (i := 0) (listed' := #[true, false, false, false, false, false, false, false, false]) rfl (by kernel_rfl) (by kernel_rfl) (by kernel_rfl) (by kernel_rfl) rfl rfl hg alln (fun m' H' hm' hX' => y_move rfl) ?_
      refine g_y (i := 1) (listed' := #[true, true, false, false, false, false, false, false, false]) rfl (by kernel_rfl) (by kernel_rfl) (by kernel_rfl) (by kernel_rfl) rfl rfl hg alln (fun m' H' hm' hX' => y_move rfl) ?_
      refine g_y (i := 2) (listed' := #[true, true, true, false, false, false, false, false, false]) rfl (by kernel_rfl) (by kernel_rfl) (by kernel_rfl) (by kernel_rfl) rfl rfl hg alln (fun m' H' hm' hX' => y_indexAddr_slice rfl rfl tl30 hlt1 (At.fz (hz1_g.mono hm') hlt1)) ?_
      refine g_y (i := 3) (listed' := #[true, true, true, true, false, false, false, false, false]) rfl (by kernel_rfl) (by kernel_rfl) (by kernel_rfl) (by kernel_rfl) rfl rfl hg alln (fun m' H' hm' hX' => y_load_a rfl ts53 (RdA.fz0 (hz1_g.mono hm') (map_get hx1))) ?_
      refine g_y (i := 4) (listed' := #[true, true, true, true, true, false, false, false, false]) rfl (by kernel_rfl) (by kernel_rfl) (by kernel_rfl) (by kernel_rfl) rfl rfl hg alln (fun m' H' hm' hX' => y_move rfl) ?_
      refine g_y (i := 5) (listed' := #[true, true, true, true, true, true, false, false, false]) rfl (by kernel_rfl) (by kernel_rfl) (by kernel_rfl) (by kernel_rfl) rfl rfl hg alln (fun m' H' hm' hX' => y_move rfl) ?_
      refine g_y (i := 6) (listed' := #[true, true, true, true, true, true, true, false, false]) rfl (by kernel_rfl) (by kernel_rfl) (by kernel_rfl) (by kernel_rfl) rfl rfl hg alln (fun m' H' hm' hX' => y_indexAddr_slice rfl rfl tl30 hlt2 (At.fz (hz2_g.mono hm') hlt2)) ?_
      refine g_y (i := 7) (listed' := #[true, true, true, true, true, true, true, true, false]) rfl (by kernel_rfl) (by kernel_rfl) (by kernel_rfl) (by kernel_rfl) rfl rfl hg alln (fun m' H' hm' hX' => y_load_a rfl ts53 (RdA.fz0 (hz2_g.mono hm') (map_get hx2))) ?_
      refine g_y (i := 8) (listed' := #[true, true, true, true, true, true, true, true, true]) rfl (by kernel_rfl) (by kernel_rfl) (by kernel_rfl) (by kernel_rfl) rfl rfl hg alln (fun m' H' hm' hX' => y_neagg (dd := 6)  rfl rfl en53 ia53 rfl Try.eqGuardType53 rfl (alike_act _ _)) ?_
      refine g_done (by kernel_rfl) ?_
      clear hg hz1_g hz2_g
      refine hK9 _ _ _ ?_
      clear hK9 K9
      refine c_cond rfl (fun h2 => ?_) (fun h2 => ?_)
      ·
        refine c_seq (fun K10 hK10 => ?_)
        refine c_region ?_
        refine r_y rfl rfl (y_assign rfl) ?_
        refine r_nil ?_
        refine hK10 _ _ _ ?_
        clear hK10 K10
        refine c_ret ?_
        refine e_ret 0 hm (res_tmps rfl) ?_
        refine ⟨congrArg Value.bool ?_, rfl⟩
        refine (decide_eq_false ?_).symm
        rintro rfl
        rw [hx1] at hx2; cases hx2
        simp [ceq_act] at h2
      ·
        refine c_skip ?_
        refine hK8 _ _ _ ?_
        clear hK8 K8
        refine c_region ?_
        refine r_y rfl rfl (y_move rfl) ?_
        first | refine r_y rfl rfl (y_inc rfl (by omega)) ?_ | refine r_y rfl rfl (y_iop rfl rfl rfl) ?_
        refine r_y rfl rfl (y_assign rfl) ?_
        refine r_nil ?_
        exact ⟨k0 - 1, (i + 1), by omega, ⟨rfl, rfl, rfl, trivial⟩, rfl, ⟨by omega, by rw [List.take_add_one, List.take_add_one, hinv, hx1, hx2]; simp only [ceq_act] at h2; simpa using h2⟩, hm, hz1, hz2⟩
    ·
      refine c_exit ?_
      refine hK4 _ _ _ ?_
      clear hK6 K6 hK4 K4
      refine c_seq (fun K11 hK11 => ?_)
      refine c_region ?_
      refine r_y rfl rfl (y_assign rfl) ?_
      refine r_nil ?_
      refine hK11 _ _ _ ?_
      clear hK11 K11
      refine c_ret ?_
      refine e_ret 0 hm (res_tmps rfl) ?_
      refine ⟨congrArg Value.bool ?_, rfl⟩
      have hie : i = s1.n := by simp at h1; omega
      refine (decide_eq_true ?_).symm
      rw [List.take_of_length_le (by omega), List.take_of_length_le (by omega)] at hinv
      exact hinv
set_option maxRecDepth 100000 in
theorem rKey_w (a b : RuleD) (s1 s2 : Sl) (m : Snap) (H : Hp) : Fn Try.prog 85 [.agg (encRule a s1).toArray, .agg (encRule b s2).toArray] m H (fun v _ H' => v = .bool (decide (a.m = b.m) && (a.prio == b.prio)) ∧ H' = H) := by
  have hm : m.le m := Snap.le.refl m
  refine fn_end Try.func85 rfl rfl rfl ?_
  refine c_seq (fun K0 hK0 => ?_)
  refine c_region ?_
  refine r_s rfl ?_
  refine s_box_a rfl rfl (fun b0 => ?_)
  refine r_s rfl ?_
  refine s_box_a rfl rfl (fun b1 => ?_)
  refine r_y rfl rfl (y_assign rfl) ?_
  refine r_nil ?_
  refine hK0 _ _ _ ?_
  clear hK0 K0
  refine c_seq (fun K1 hK1 => ?_)
  refine c_region ?_
  refine r_y rfl rfl (y_fieldAddr rfl At.lit fo50_0 rfl) ?_
  refine r_y rfl rfl (y_load_a (cs := encCube a.m) rfl ts29 (RdA.blk (i := 1) rfl rfl)) ?_
  refine r_y rfl rfl (y_fieldAddr rfl At.lit fo50_0 rfl) ?_
  refine r_y rfl rfl (y_load_a (cs := encCube b.m) rfl ts29 (RdA.blk (i := 0) rfl rfl)) ?_
  refine r_y rfl rfl (y_eqagg (dd := 6)  rfl rfl en29 ia29 rfl Try.eqGuardType29 rfl (alike_cube a.m b.m)) ?_
  refine r_y rfl rfl (y_move rfl) ?_
  refine r_split (j := 5) rfl (fun h0 => ?_) (fun h0 => ?_)
  ·
    refine r_yg rfl h0 rfl (y_fieldAddr rfl At.lit fo50_1 rfl) ?_
    refine r_yg rfl h0 rfl (y_load_s rfl ts3 (RdS.blk (i := 1) rfl rfl)) ?_
    refine r_yg rfl h0 rfl (y_fieldAddr rfl At.lit fo50_1 rfl) ?_
    refine r_yg rfl h0 rfl (y_load_s rfl ts3 (RdS.blk (i := 0) rfl rfl)) ?_
    refine r_yg rfl h0 rfl (y_iop rfl rfl rfl) ?_
    refine r_y rfl rfl (y_pickt rfl h0 rfl) ?_
    refine r_y rfl rfl (y_assign rfl) ?_
    refine r_nil ?_
    refine hK1 _ _ _ ?_
    clear hK1 K1
    refine c_ret ?_
    refine e_ret 2 hm (res_tmps rfl) ?_
    refine ⟨congrArg Value.bool ?_, rfl⟩
    first | (simp_all [ceq_cube]; done) | (simp_all [ceq_cube]; omega) | (simp_all [ceq_cube]; intros; omega) | (rw [Bool.eq_iff_iff]; simp_all [ceq_cube]; done)
  ·
    refine r_no' rfl rfl h0 ?_
    refine r_no' rfl rfl h0 ?_
    refine r_no' rfl rfl h0 ?_
    refine r_no' rfl rfl h0 ?_
    refine r_no' rfl rfl h0 ?_
    refine r_y rfl rfl (y_pickf rfl h0 rfl) ?_
    refine r_y rfl rfl (y_assign rfl) ?_
    refine r_nil ?_
    refine hK1 _ _ _ ?_
    clear hK1 K1
    refine c_ret ?_
    refine e_ret 2 hm (res_tmps rfl) ?_
    refine ⟨congrArg Value.bool ?_, rfl⟩
    first | (simp_all [ceq_cube]; done) | (simp_all [ceq_cube]; omega) | (simp_all [ceq_cube]; intros; omega) | (rw [Bool.eq_iff_iff]; simp_all [ceq_cube]; done)
set_option maxRecDepth 100000 in
theorem rEqual_w (a b : RuleD) (s1 s2 : Sl) (m : Snap) (H : Hp) (hz1 : FzA m s1 a.acts) (hz2 : FzA m s2 b.acts) : Fn Try.prog 89 [.agg (encRule a s1).toArray, .agg (encRule b s2).toArray] m H (fun v _ H' => v = .bool (decide (a = b)) ∧ H' = H) := by
  have hm : m.le m := Snap.le.refl m
  refine fn_end Try.func89 rfl rfl rfl ?_
  refine c_seq (fun K0 hK0 => ?_)
  refine c_region ?_
  refine r_s rfl ?_
  refine s_box_a rfl rfl (fun b0 => ?_)
  refine r_s rfl ?_
  refine s_box_a rfl rfl (fun b1 => ?_)
  refine r_y rfl rfl (y_assign rfl) ?_
  refine r_nil ?_
  refine hK0 _ _ _ ?_
  clear hK0 K0
  refine c_seq (fun K1 hK1 => ?_)
  refine c_region ?_
  refine r_y rfl rfl (y_load_a (cs := encRule a s1) rfl ts50 (RdA.blk (i := 1) rfl rfl)) ?_
  refine r_y rfl rfl (y_load_a (cs := encRule b s2) rfl ts50 (RdA.blk (i := 0) rfl rfl)) ?_
  refine r_s rfl ?_
  refine s_call0 rfl Try.call85 rfl (rKey_w a b s1 s2 _ _) ?_
  rintro _ m2 _ hm2 ⟨rfl, rfl⟩
  replace hm := hm.trans hm2
  replace hz1 := hz1.mono hm2
  replace hz2 := hz2.mono hm2
  clear hm2
  refine r_y rfl rfl (y_move rfl) ?_
  refine r_split (j := 3) rfl (fun h0 => ?_) (fun h0 => ?_)
  ·
    refine r_yg rfl h0 rfl (y_fieldAddr rfl At.lit fo50_2 rfl) ?_
    refine r_yg rfl h0 rfl (y_load_s rfl ts30 (RdS.blk (i := 1) rfl rfl)) ?_
    refine r_yg rfl h0 rfl (y_fieldAddr rfl At.lit fo50_2 rfl) ?_
    refine r_yg rfl h0 rfl (y_load_s rfl ts30 (RdS.blk (i := 0) rfl rfl)) ?_
    refine r_sg rfl h0 ?_
    refine s_call0 rfl Try.call100 rfl (rSameActs_w s1 s2 a.acts b.acts _ _ hz1 hz2) ?_
    rintro _ m2 _ hm2 ⟨rfl, rfl⟩
    replace hm := hm.trans hm2
    replace hz1 := hz1.mono hm2
    replace hz2 := hz2.mono hm2
    clear hm2
    refine r_y rfl rfl (y_pickt rfl h0 rfl) ?_
    refine r_y rfl rfl (y_move rfl) ?_
    refine r_split (j := 10) rfl (fun h1 => ?_) (fun h1 => ?_)
    ·
      refine r_yg rfl h1 rfl (y_fieldAddr rfl At.lit fo50_3 rfl) ?_
      refine r_yg rfl h1 rfl (y_load_s rfl ts3 (RdS.blk (i := 1) rfl rfl)) ?_
      refine r_yg rfl h1 rfl (y_fieldAddr rfl At.lit fo50_3 rfl) ?_
      refine r_yg rfl h1 rfl (y_load_s rfl ts3 (RdS.blk (i := 0) rfl rfl)) ?_
      refine r_yg rfl h1 rfl (y_iop rfl rfl rfl) ?_
      refine r_y rfl rfl (y_pickt rfl h1 rfl) ?_
      refine r_y rfl rfl (y_move rfl) ?_
      refine r_split (j := 17) rfl (fun h2 => ?_) (fun h2 => ?_)
      ·
        refine r_yg rfl h2 rfl (y_fieldAddr rfl At.lit fo50_4 rfl) ?_
        refine r_yg rfl h2 rfl (y_load_s rfl ts3 (RdS.blk (i := 1) rfl rfl)) ?_
        refine r_yg rfl h2 rfl (y_fieldAddr rfl At.lit fo50_4 rfl) ?_
        refine r_yg rfl h2 rfl (y_load_s rfl ts3 (RdS.blk (i := 0) rfl rfl)) ?_
        refine r_yg rfl h2 rfl (y_iop rfl rfl rfl) ?_
        refine r_y rfl rfl (y_pickt rfl h2 rfl) ?_
        refine r_y rfl rfl (y_move rfl) ?_
        refine r_split (j := 24) rfl (fun h3 => ?_) (fun h3 => ?_)
        ·
          refine r_yg rfl h3 rfl (y_fieldAddr rfl At.lit fo50_5 rfl) ?_
          refine r_yg rfl h3 rfl (y_load_s rfl ts3 (RdS.blk (i := 1) rfl rfl)) ?_
          refine r_yg rfl h3 rfl (y_fieldAddr rfl At.lit fo50_5 rfl) ?_
          refine r_yg rfl h3 rfl (y_load_s rfl ts3 (RdS.blk (i := 0) rfl rfl)) ?_
          refine r_yg rfl h3 rfl (y_iop rfl rfl rfl) ?_
          refine r_y rfl rfl (y_pickt rfl h3 rfl) ?_
          refine r_y rfl rfl (y_move rfl) ?_
          refine r_split (j := 31) rfl (fun h4 => ?_) (fun h4 => ?_)
          ·
            refine r_yg rfl h4 rfl (y_fieldAddr rfl At.lit fo50_6 rfl) ?_
            refine r_yg rfl h4 rfl (y_load_s rfl ts3 (RdS.blk (i := 1) rfl rfl)) ?_
            refine r_yg rfl h4 rfl (y_fieldAddr rfl At.lit fo50_6 rfl) ?_
            refine r_yg rfl h4 rfl (y_load_s rfl ts3 (RdS.blk (i := 0) rfl rfl)) ?_
            refine r_yg rfl h4 rfl (y_iop rfl rfl rfl) ?_
            refine r_y rfl rfl (y_pickt rfl h4 rfl) ?_
            refine r_y rfl rfl (y_move rfl) ?_
            refine r_split (j := 38) rfl (fun h5 => ?_) (fun h5 => ?_)
            ·
              refine r_yg rfl h5 rfl (y_fieldAddr rfl At.lit fo50_7 rfl) ?_
              refine r_yg rfl h5 rfl (y_load_s rfl ts3 (RdS.blk (i := 1) rfl rfl)) ?_
              refine r_yg rfl h5 rfl (y_fieldAddr rfl At.lit fo50_7 rfl) ?_
              refine r_yg rfl h5 rfl (y_load_s rfl ts3 (RdS.blk (i := 0) rfl rfl)) ?_
              refine r_yg rfl h5 rfl (y_iop rfl rfl rfl) ?_
              refine r_y rfl rfl (y_pickt rfl h5 rfl) ?_
              refine r_y rfl rfl (y_move rfl) ?_
              refine r_split (j := 45) rfl (fun h6 => ?_) (fun h6 => ?_)
              ·
                refine r_yg rfl h6 rfl (y_fieldAddr rfl At.lit fo50_8 rfl) ?_
                refine r_yg rfl h6 rfl (y_load_s rfl ts3 (RdS.blk (i := 1) rfl rfl)) ?_
                refine r_yg rfl h6 rfl (y_fieldAddr rfl At.lit fo50_8 rfl) ?_
                refine r_yg rfl h6 rfl (y_load_s rfl ts3 (RdS.blk (i := 0) rfl rfl)) ?_
                refine r_yg rfl h6 rfl (y_iop rfl rfl rfl) ?_
                refine r_y rfl rfl (y_pickt rfl h6 rfl) ?_
                refine r_y rfl rfl (y_assign rfl) ?_
                refine r_nil ?_
                refine hK1 _ _ _ ?_
                clear hK1 K1
                refine c_ret ?_
                refine e_ret 2 hm (res_tmps rfl) ?_
                cases a; cases b
                refine ⟨congrArg Value.bool ?_, rfl⟩
                first | (simp_all [ceq_cube]; done) | (simp_all [ceq_cube]; omega) | (simp_all [ceq_cube]; intros; omega) | (rw [Bool.eq_iff_iff]; simp_all [ceq_cube]; done)
              ·
                refine r_no' rfl rfl h6 ?_
                refine r_no' rfl rfl h6 ?_
                refine r_no' rfl rfl h6 ?_
                refine r_no' rfl rfl h6 ?_
                refine r_no' rfl rfl h6 ?_
                refine r_y rfl rfl (y_pickf rfl h6 rfl) ?_
                refine r_y rfl rfl (y_assign rfl) ?_
                refine r_nil ?_
                refine hK1 _ _ _ ?_
                clear hK1 K1
                refine c_ret ?_
                refine e_ret 2 hm (res_tmps rfl) ?_
                cases a; cases b
                refine ⟨congrArg Value.bool ?_, rfl⟩
                first | (simp_all [ceq_cube]; done) | (simp_all [ceq_cube]; omega) | (simp_all [ceq_cube]; intros; omega) | (rw [Bool.eq_iff_iff]; simp_all [ceq_cube]; done)
            ·
              refine r_no' rfl rfl h5 ?_
              refine r_no' rfl rfl h5 ?_
              refine r_no' rfl rfl h5 ?_
              refine r_no' rfl rfl h5 ?_
              refine r_no' rfl rfl h5 ?_
              refine r_y rfl rfl (y_pickf rfl h5 rfl) ?_
              refine r_y rfl rfl (y_move rfl) ?_
              refine r_no' rfl rfl rfl ?_
              refine r_no' rfl rfl rfl ?_
              refine r_no' rfl rfl rfl ?_
              refine r_no' rfl rfl rfl ?_
              refine r_no' rfl rfl rfl ?_
              refine r_y rfl rfl (y_pickf rfl rfl rfl) ?_
              refine r_y rfl rfl (y_assign rfl) ?_
              refine r_nil ?_
              refine hK1 _ _ _ ?_
              clear hK1 K1
              refine c_ret ?_
              refine e_ret 2 hm (res_tmps rfl) ?_
              cases a; cases b
              refine ⟨congrArg Value.bool ?_, rfl⟩
              first | (simp_all [ceq_cube]; done) | (simp_all [ceq_cube]; omega) | (simp_all [ceq_cube]; intros; omega) | (rw [Bool.eq_iff_iff]; simp_all [ceq_cube]; done)
          ·
            refine r_no' rfl rfl h4 ?_
            refine r_no' rfl rfl h4 ?_
            refine r_no' rfl rfl h4 ?_
            refine r_no' rfl rfl h4 ?_
            refine r_no' rfl rfl h4 ?_
            refine r_y rfl rfl (y_pickf rfl h4 rfl) ?_
            refine r_y rfl rfl (y_move rfl) ?_
            refine r_no' rfl rfl rfl ?_
            refine r_no' rfl rfl rfl ?_
            refine r_no' rfl rfl rfl ?_
            refine r_no' rfl rfl rfl ?_
            refine r_no' rfl rfl rfl ?_
            refine r_y rfl rfl (y_pickf rfl rfl rfl) ?_
            refine r_y rfl rfl (y_move rfl) ?_
            refine r_no' rfl rfl rfl ?_
            refine r_no' rfl rfl rfl ?_
            refine r_no' rfl rfl rfl ?_
            refine r_no' rfl rfl rfl ?_
            refine r_no' rfl rfl rfl ?_
            refine r_y rfl rfl (y_pickf rfl rfl rfl) ?_
            refine r_y rfl rfl (y_assign rfl) ?_
            refine r_nil ?_
            refine hK1 _ _ _ ?_
            clear hK1 K1
            refine c_ret ?_
            refine e_ret 2 hm (res_tmps rfl) ?_
            cases a; cases b
            refine ⟨congrArg Value.bool ?_, rfl⟩
            first | (simp_all [ceq_cube]; done) | (simp_all [ceq_cube]; omega) | (simp_all [ceq_cube]; intros; omega) | (rw [Bool.eq_iff_iff]; simp_all [ceq_cube]; done)
        ·
          refine r_no' rfl rfl h3 ?_
          refine r_no' rfl rfl h3 ?_
          refine r_no' rfl rfl h3 ?_
          refine r_no' rfl rfl h3 ?_
          refine r_no' rfl rfl h3 ?_
          refine r_y rfl rfl (y_pickf rfl h3 rfl) ?_
          refine r_y rfl rfl (y_move rfl) ?_
          refine r_no' rfl rfl rfl ?_
          refine r_no' rfl rfl rfl ?_
          refine r_no' rfl rfl rfl ?_
          refine r_no' rfl rfl rfl ?_
          refine r_no' rfl rfl rfl ?_
          refine r_y rfl rfl (y_pickf rfl rfl rfl) ?_
          refine r_y rfl rfl (y_move rfl) ?_
          refine r_no' rfl rfl rfl ?_
          refine r_no' rfl rfl rfl ?_
          refine r_no' rfl rfl rfl ?_
          refine r_no' rfl rfl rfl ?_
          refine r_no' rfl rfl rfl ?_
          refine r_y rfl rfl (y_pickf rfl rfl rfl) ?_
          refine r_y rfl rfl (y_move rfl) ?_
          refine r_no' rfl rfl rfl ?_
          refine r_no' rfl rfl rfl ?_
          refine r_no' rfl rfl rfl ?_
          refine r_no' rfl rfl rfl ?_
          refine r_no' rfl rfl rfl ?_
          refine r_y rfl rfl (y_pickf rfl rfl rfl) ?_
          refine r_y rfl rfl (y_assign rfl) ?_
          refine r_nil ?_
          refine hK1 _ _ _ ?_
          clear hK1 K1
          refine c_ret ?_
          refine e_ret 2 hm (res_tmps rfl) ?_
          cases a; cases b
          refine ⟨congrArg Value.bool ?_, rfl⟩
          first | (simp_all [ceq_cube]; done) | (simp_all [ceq_cube]; omega) | (simp_all [ceq_cube]; intros; omega) | (rw [Bool.eq_iff_iff]; simp_all [ceq_cube]; done)
      ·
        refine r_no' rfl rfl h2 ?_
        refine r_no' rfl rfl h2 ?_
        refine r_no' rfl rfl h2 ?_
        refine r_no' rfl rfl h2 ?_
        refine r_no' rfl rfl h2 ?_
        refine r_y rfl rfl (y_pickf rfl h2 rfl) ?_
        refine r_y rfl rfl (y_move rfl) ?_
        refine r_no' rfl rfl rfl ?_
        refine r_no' rfl rfl rfl ?_
        refine r_no' rfl rfl rfl ?_
        refine r_no' rfl rfl rfl ?_
        refine r_no' rfl rfl rfl ?_
        refine r_y rfl rfl (y_pickf rfl rfl rfl) ?_
        refine r_y rfl rfl (y_move rfl) ?_
        refine r_no' rfl rfl rfl ?_
        refine r_no' rfl rfl rfl ?_
        refine r_no' rfl rfl rfl ?_
        refine r_no' rfl rfl rfl ?_
        refine r_no' rfl rfl rfl ?_
        refine r_y rfl rfl (y_pickf rfl rfl rfl) ?_
        refine r_y rfl rfl (y_move rfl) ?_
        refine r_no' rfl rfl rfl ?_
        refine r_no' rfl rfl rfl ?_
        refine r_no' rfl rfl rfl ?_
        refine r_no' rfl rfl rfl ?_
        refine r_no' rfl rfl rfl ?_
        refine r_y rfl rfl (y_pickf rfl rfl rfl) ?_
        refine r_y rfl rfl (y_move rfl) ?_
        refine r_no' rfl rfl rfl ?_
        refine r_no' rfl rfl rfl ?_
        refine r_no' rfl rfl rfl ?_
        refine r_no' rfl rfl rfl ?_
        refine r_no' rfl rfl rfl ?_
        refine r_y rfl rfl (y_pickf rfl rfl rfl) ?_
        refine r_y rfl rfl (y_assign rfl) ?_
        refine r_nil ?_
        refine hK1 _ _ _ ?_
        clear hK1 K1
        refine c_ret ?_
        refine e_ret 2 hm (res_tmps rfl) ?_
        cases a; cases b
        refine ⟨congrArg Value.bool ?_, rfl⟩
        first | (simp_all [ceq_cube]; done) | (simp_all [ceq_cube]; omega) | (simp_all [ceq_cube]; intros; omega) | (rw [Bool.eq_iff_iff]; simp_all [ceq_cube]; done)
    ·
      refine r_no' rfl rfl h1 ?_
      refine r_no' rfl rfl h1 ?_
      refine r_no' rfl rfl h1 ?_
      refine r_no' rfl rfl h1 ?_
      refine r_no' rfl rfl h1 ?_
      refine r_y rfl rfl (y_pickf rfl h1 rfl) ?_
      refine r_y rfl rfl (y_move rfl) ?_
      refine r_no' rfl rfl rfl ?_
      refine r_no' rfl rfl rfl ?_
      refine r_no' rfl rfl rfl ?_
      refine r_no' rfl rfl rfl ?_
      refine r_no' rfl rfl rfl ?_
      refine r_y rfl rfl (y_pickf rfl rfl rfl) ?_
      refine r_y rfl rfl (y_move rfl) ?_
      refine r_no' rfl rfl rfl ?_
      refine r_no' rfl rfl rfl ?_
      refine r_no' rfl rfl rfl ?_
      refine r_no' rfl rfl rfl ?_
      refine r_no' rfl rfl rfl ?_
      refine r_y rfl rfl (y_pickf rfl rfl rfl) ?_
      refine r_y rfl rfl (y_move rfl) ?_
      refine r_no' rfl rfl rfl ?_
      refine r_no' rfl rfl rfl ?_
      refine r_no' rfl rfl rfl ?_
      refine r_no' rfl rfl rfl ?_
      refine r_no' rfl rfl rfl ?_
      refine r_y rfl rfl (y_pickf rfl rfl rfl) ?_
      refine r_y rfl rfl (y_move rfl) ?_
      refine r_no' rfl rfl rfl ?_
      refine r_no' rfl rfl rfl ?_
      refine r_no' rfl rfl rfl ?_
      refine r_no' rfl rfl rfl ?_
      refine r_no' rfl rfl rfl ?_
      refine r_y rfl rfl (y_pickf rfl rfl rfl) ?_
      refine r_y rfl rfl (y_move rfl) ?_
      refine r_no' rfl rfl rfl ?_
      refine r_no' rfl rfl rfl ?_
      refine r_no' rfl rfl rfl ?_
      refine r_no' rfl rfl rfl ?_
      refine r_no' rfl rfl rfl ?_
      refine r_y rfl rfl (y_pickf rfl rfl rfl) ?_
      refine r_y rfl rfl (y_assign rfl) ?_
      refine r_nil ?_
      refine hK1 _ _ _ ?_
      clear hK1 K1
      refine c_ret ?_
      refine e_ret 2 hm (res_tmps rfl) ?_
      cases a; cases b
      refine ⟨congrArg Value.bool ?_, rfl⟩
      first | (simp_all [ceq_cube]; done) | (simp_all [ceq_cube]; omega) | (simp_all [ceq_cube]; intros; omega) | (rw [Bool.eq_iff_iff]; simp_all [ceq_cube]; done)
  ·
    refine r_no' rfl rfl h0 ?_
    refine r_no' rfl rfl h0 ?_
    refine r_no' rfl rfl h0 ?_
    refine r_no' rfl rfl h0 ?_
    refine r_no' rfl rfl h0 ?_
    refine r_y rfl rfl (y_pickf rfl h0 rfl) ?_
    refine r_y rfl rfl (y_move rfl) ?_
    refine r_no' rfl rfl rfl ?_
    refine r_no' rfl rfl rfl ?_
    refine r_no' rfl rfl rfl ?_
    refine r_no' rfl rfl rfl ?_
    refine r_no' rfl rfl rfl ?_
    refine r_y rfl rfl (y_pickf rfl rfl rfl) ?_
    refine r_y rfl rfl (y_move rfl) ?_
    refine r_no' rfl rfl rfl ?_
    refine r_no' rfl rfl rfl ?_
    refine r_no' rfl rfl rfl ?_
    refine r_no' rfl rfl rfl ?_
    refine r_no' rfl rfl rfl ?_
    refine r_y rfl rfl (y_pickf rfl rfl rfl) ?_
    refine r_y rfl rfl (y_move rfl) ?_
    refine r_no' rfl rfl rfl ?_
    refine r_no' rfl rfl rfl ?_
    refine r_no' rfl rfl rfl ?_
    refine r_no' rfl rfl rfl ?_
    refine r_no' rfl rfl rfl ?_
    refine r_y rfl rfl (y_pickf rfl rfl rfl) ?_
    refine r_y rfl rfl (y_move rfl) ?_
    refine r_no' rfl rfl rfl ?_
    refine r_no' rfl rfl rfl ?_
    refine r_no' rfl rfl rfl ?_
    refine r_no' rfl rfl rfl ?_
    refine r_no' rfl rfl rfl ?_
    refine r_y rfl rfl (y_pickf rfl rfl rfl) ?_
    refine r_y rfl rfl (y_move rfl) ?_
    refine r_no' rfl rfl rfl ?_
    refine r_no' rfl rfl rfl ?_
    refine r_no' rfl rfl rfl ?_
    refine r_no' rfl rfl rfl ?_
    refine r_no' rfl rfl rfl ?_
    refine r_y rfl rfl (y_pickf rfl rfl rfl) ?_
    refine r_y rfl rfl (y_move rfl) ?_
    refine r_no' rfl rfl rfl ?_
    refine r_no' rfl rfl rfl ?_
    refine r_no' rfl rfl rfl ?_
    refine r_no' rfl rfl rfl ?_
    refine r_no' rfl rfl rfl ?_
    refine r_y rfl rfl (y_pickf rfl rfl rfl) ?_
    refine r_y rfl rfl (y_assign rfl) ?_
    refine r_nil ?_
    refine hK1 _ _ _ ?_
    clear hK1 K1
    refine c_ret ?_
    refine e_ret 2 hm (res_tmps rfl) ?_
    cases a; cases b
    refine ⟨congrArg Value.bool ?_, rfl⟩
    first | (simp_all [ceq_cube]; done) | (simp_all [ceq_cube]; omega) | (simp_all [ceq_cube]; intros; omega) | (rw [Bool.eq_iff_iff]; simp_all [ceq_cube]; done)
set_option maxRecDepth 100000 in
theorem rSize_w (n : Int) (m : Snap) (H : Hp) : Fn Try.prog 117 [.int .i64 n] m H (fun v _ H' => v = .int .i64 (hsz n : Nat) ∧ H' = H) := by
  have hm : m.le m := Snap.le.refl m
  refine fn_end Try.func117 rfl rfl rfl ?_
  refine c_seq (fun K0 hK0 => ?_)
  refine c_region ?_
  refine r_y rfl rfl (y_assign rfl) ?_
  refine r_nil ?_
  refine hK0 _ _ _ ?_
  clear hK0 K0
  refine c_seq (fun K1 hK1 => ?_)
  refine c_seq (fun K2 hK2 => ?_)
  refine c_region ?_
  refine r_y rfl rfl (y_move rfl) ?_
  refine r_y rfl rfl (y_iop rfl rfl rfl) ?_
  refine r_y rfl rfl (y_move rfl) ?_
  refine r_split (j := 2) rfl (fun h0 => ?_) (fun h0 => ?_)
  ·
    refine r_no' rfl rfl h0 ?_
    refine r_no' rfl rfl h0 ?_
    refine r_y rfl rfl (y_pickt rfl h0 rfl) ?_
    refine r_nil ?_
    refine hK2 _ _ _ ?_
    clear hK2 K2
    refine c_ift rfl rfl ?_
    refine c_seq (fun K3 hK3 => ?_)
    refine c_region ?_
    refine r_y rfl rfl (y_assign rfl) ?_
    refine r_nil ?_
    refine hK3 _ _ _ ?_
    clear hK3 K3
    refine c_ret ?_
    refine e_ret 0 hm (res_tmps rfl) ?_
    have ht : there n = false := by simp [there]; simp_all; try omega
    refine ⟨?_, rfl⟩
    simp [hsz, ht]
  ·
    refine r_yg rfl h0 rfl (y_move rfl) ?_
    refine r_yg rfl h0 rfl (y_iop rfl rfl rfl) ?_
    refine r_y rfl rfl (y_pickf rfl h0 rfl) ?_
    refine r_nil ?_
    refine hK2 _ _ _ ?_
    clear hK2 K2
    refine c_cond rfl (fun h1 => ?_) (fun h1 => ?_)
    ·
      refine c_seq (fun K4 hK4 => ?_)
      refine c_region ?_
      refine r_y rfl rfl (y_assign rfl) ?_
      refine r_nil ?_
      refine hK4 _ _ _ ?_
      clear hK4 K4
      refine c_ret ?_
      refine e_ret 0 hm (res_tmps rfl) ?_
      have ht : there n = false := by simp [there]; simp_all; try omega
      refine ⟨?_, rfl⟩
      simp [hsz, ht]
    ·
      obtain ⟨k, hk, rfl⟩ : ∃ k : Nat, k < 12 ∧ n = k := ⟨n.toNat, by simp at *; omega, by simp at *; omega⟩
      refine c_skip ?_
      refine hK1 _ _ _ ?_
      clear hK1 K1
      refine c_seq (fun K5 hK5 => ?_)
      refine c_region ?_
      refine r_s rfl ?_
      refine s_buildSlice (cs := (size12.map fun n => i64 ((n : Nat) : Int))) (e := 3) rfl rfl (fun _ => by kernel_rfl) (fun b0 => ?_)
      refine r_y rfl rfl (y_move rfl) ?_
      refine r_y rfl rfl (y_indexAddr_slice rfl rfl tl77 hk At.lit) ?_
      refine r_y rfl rfl (y_load_s rfl ts3 (RdS.blk (i := 0) rfl (cget_size k hk))) ?_
      refine r_y rfl rfl (y_assign rfl) ?_
      refine r_nil ?_
      refine hK5 _ _ _ ?_
      clear hK5 K5
      refine c_ret ?_
      refine e_ret 1 hm (res_tmps rfl) ?_
      rw [hsz_nat hk]
      exact ⟨rfl, rfl⟩
set_option maxRecDepth 100000 in
theorem rFits_w (x : W) (k : Nat) (m : Snap) (H : Hp) (hk : k ≤ 63) : Fn Try.prog 116 [wv x, .int .i64 (k : Nat)] m H (fun v _ H' => v = .bool ((x >>> k) == 0) ∧ H' = H) := by
  have hm : m.le m := Snap.le.refl m
  refine fn_end Try.func116 rfl rfl rfl ?_
  refine c_seq (fun K0 hK0 => ?_)
  refine c_region ?_
  refine r_y rfl rfl (y_assign rfl) ?_
  refine r_nil ?_
  refine hK0 _ _ _ ?_
  clear hK0 K0
  refine c_seq (fun K1 hK1 => ?_)
  refine c_region ?_
  refine r_y rfl rfl (y_move rfl) ?_
  refine r_y rfl rfl (y_move rfl) ?_
  refine r_y rfl rfl (y_conv_in rfl un3 un158 (by omega)) ?_
  refine r_y rfl rfl (y_wshl (a := 1#64) (b := k) rfl rfl (by omega)) ?_
  refine r_y rfl rfl (y_iop rfl rfl rfl) ?_
  refine r_y rfl rfl (y_assign rfl) ?_
  refine r_nil ?_
  refine hK1 _ _ _ ?_
  clear hK1 K1
  refine c_ret ?_
  refine e_ret 0 hm (res_tmps rfl) ?_
  rw [← fits_lt hk]
  exact ⟨rfl, rfl⟩
set_option maxRecDepth 100000 in
theorem rHead_w (h : Head) (m : Snap) (H : Hp) : Fn Try.prog 64 [.agg (encHead h).toArray] m H (fun v _ H' => v = .bool (headSound h) ∧ H' = H) := by
  have hm : m.le m := Snap.le.refl m
  refine fn_end Try.func64 rfl rfl rfl ?_
  refine c_seq (fun K0 hK0 => ?_)
  refine c_region ?_
  refine r_s rfl ?_
  refine s_box_a rfl rfl (fun b0 => ?_)
  refine r_y rfl rfl (y_assign rfl) ?_
  refine r_nil ?_
  refine hK0 _ _ _ ?_
  clear hK0 K0
  refine c_seq (fun K1 hK1 => ?_)
  refine c_seq (fun K2 hK2 => ?_)
  refine c_region ?_
  refine r_y rfl rfl (y_assign rfl) ?_
  refine r_nil ?_
  refine hK2 _ _ _ ?_
  clear hK2 K2
  refine c_block ?_
  refine c_loopx (α := Nat) (fun i => [(1, .pointer (some ⟨b0, 0, none⟩)), (3, .int .i64 (i : Nat))]) (fun i => .blk b0 (.cells (encHead h).toArray 27) :: H) (fun k0 i m1 => (i + k0 = 12 ∧ (List.range i).all (fun i => fits (i : Int) (h.at i)) = true) ∧ m.le m1) (12) 0 ⟨rfl, rfl, trivial⟩ rfl ⟨⟨by omega, rfl⟩, hm⟩ ?_
  clear hm
  rintro k0 i m1 ⟨hi0, hm⟩
  obtain ⟨hi, hinv⟩ := hi0
  refine c_seq (fun K3 hK3 => ?_)
  refine c_seq (fun K4 hK4 => ?_)
  refine c_region ?_
  refine r_y rfl rfl (y_move rfl) ?_
  refine r_y rfl rfl (y_iop rfl rfl rfl) ?_
  refine r_nil ?_
  refine hK4 _ _ _ ?_
  clear hK4 K4
  refine c_cond rfl (fun h0 => ?_) (fun h0 => ?_)
  ·
    have hlt : i < 12 := by simp at h0; omega
    refine c_skip ?_
    refine hK3 _ _ _ ?_
    clear hK3 K3
    refine c_seq (fun K5 hK5 => ?_)
    refine c_block ?_
    refine c_seq (fun K6 hK6 => ?_)
    refine c_draw ([.blk b0 (.cells (encHead h).toArray 27)]) (by kernel_rfl) (fun hg => ?_)
    refine g_y (i := 0) (listed' := #[true, false, false, false, false, false, false]) rfl (by kernel_rfl) (by kernel_rfl) (by kernel_rfl) (by kernel_rfl) rfl rfl hg (allc (List.Mem.head _) alln) (fun m' H' hm' hX' => y_move rfl) ?_
    refine g_y (i := 1) (listed' := #[true, true, false, false, false, false, false]) rfl (by kernel_rfl) (by kernel_rfl) (by kernel_rfl) (by kernel_rfl) rfl rfl hg (allc (List.Mem.head _) alln) (fun m' H' hm' hX' => y_indexAddr_arr rfl rfl ta27 hlt At.lit) ?_
    refine g_y (i := 2) (listed' := #[true, true, true, false, false, false, false]) rfl (by kernel_rfl) (by kernel_rfl) (by kernel_rfl) (by kernel_rfl) rfl rfl hg (allc (List.Mem.head _) alln) (fun m' H' hm' hX' => y_load_s rfl ts25 (RdS.mem (hX' _ (List.Mem.head _)) (cget_head0 _ _ hlt))) ?_
    refine g_y (i := 3) (listed' := #[true, true, true, true, false, false, false]) rfl (by kernel_rfl) (by kernel_rfl) (by kernel_rfl) (by kernel_rfl) rfl rfl hg (allc (List.Mem.head _) alln) (fun m' H' hm' hX' => y_move rfl) ?_
    refine g_s (i := 4) (listed' := #[true, true, true, true, true, false, false]) rfl (by kernel_rfl) (by kernel_rfl) rfl ?_
    refine s_call0 rfl Try.call117 rfl (rSize_w _ _ _) ?_
    rintro _ m2 _ hm2 ⟨rfl, rfl⟩
    replace hm := hm.trans hm2
    refine ⟨⟨hg.trans hm2, (allc (List.Mem.head _) alln)⟩, ?_⟩
    replace hg := hg.trans hm2
    clear hm2
    refine g_s (i := 5) (listed' := #[true, true, true, true, true, true, false]) rfl (by kernel_rfl) (by kernel_rfl) rfl ?_
    refine s_call0 rfl Try.call116 rfl (rFits_w _ _ _ _ (Nat.le_trans (hsz_le _) (by decide))) ?_
    rintro _ m2 _ hm2 ⟨rfl, rfl⟩
    replace hm := hm.trans hm2
    refine ⟨⟨hg.trans hm2, (allc (List.Mem.head _) alln)⟩, ?_⟩
    replace hg := hg.trans hm2
    clear hm2
    refine g_y (i := 6) (listed' := #[true, true, true, true, true, true, true]) rfl (by kernel_rfl) (by kernel_rfl) (by kernel_rfl) (by kernel_rfl) rfl rfl hg (allc (List.Mem.head _) alln) (fun m' H' hm' hX' => y_not rfl) ?_
    refine g_done (by kernel_rfl) ?_
    clear hg
    refine hK6 _ _ _ ?_
    clear hK6 K6
    refine c_cond rfl (fun h1 => ?_) (fun h1 => ?_)
    ·
      refine c_seq (fun K7 hK7 => ?_)
      refine c_region ?_
      refine r_y rfl rfl (y_assign rfl) ?_
      refine r_nil ?_
      refine hK7 _ _ _ ?_
      clear hK7 K7
      refine c_ret ?_
      refine e_ret 1 hm (res_tmps rfl) ?_
      exact ⟨congrArg Value.bool (all_range_false (by simpa [fits] using h1) hlt).symm, rfl⟩
    ·
      refine c_skip ?_
      refine hK5 _ _ _ ?_
      clear hK5 K5
      refine c_region ?_
      refine r_y rfl rfl (y_move rfl) ?_
      first | refine r_y rfl rfl (y_inc rfl (by omega)) ?_ | refine r_y rfl rfl (y_iop rfl rfl rfl) ?_
      refine r_y rfl rfl (y_assign rfl) ?_
      refine r_nil ?_
      exact ⟨k0 - 1, (i + 1), by omega, ⟨rfl, rfl, trivial⟩, rfl, ⟨by omega, by rw [all_range_succ, hinv]; simpa [fits] using h1⟩, hm⟩
  ·
    refine c_exit ?_
    refine hK1 _ _ _ ?_
    clear hK3 K3 hK1 K1
    refine c_seq (fun K8 hK8 => ?_)
    refine c_region ?_
    refine r_y rfl rfl (y_assign rfl) ?_
    refine r_nil ?_
    refine hK8 _ _ _ ?_
    clear hK8 K8
    refine c_ret ?_
    refine e_ret 1 hm (res_tmps rfl) ?_
    obtain rfl : i = 12 := by simp at h0; omega
    exact ⟨congrArg Value.bool (by rw [headSound, hinv]), rfl⟩
end Go.Aw
namespace Go.Aw
open Go Go.Proofs
theorem zo4 : zeroOk Try.prog 4 = true := by kernel_rfl
theorem tb4 : tbytes Try.prog 4 = some 1 := by kernel_rfl
theorem tl166 : tslice Try.prog 166 = some (4, 1) := by kernel_rfl
set_option maxRecDepth 100000 in
theorem rBits_w (z : W) (k : Nat) (m : Snap) (H : Hp) (hk : k ≤ 63) : Fn Try.prog 140 [wv z, .int .i64 (k : Nat)] m H (fun v m' H' => ∃ sb : Sl, v = sb.v ∧ FzT m' sb (bitsL z k) ∧ H' = H) := by
  have hm : m.le m := Snap.le.refl m
  refine fn_end Try.func140 rfl rfl rfl ?_
  refine c_seq (fun K0 hK0 => ?_)
  refine c_region ?_
  refine r_y rfl rfl (y_assign rfl) ?_
  refine r_nil ?_
  refine hK0 _ _ _ ?_
  clear hK0 K0
  refine c_seq (fun K1 hK1 => ?_)
  refine c_region ?_
  refine r_nilvec 4 1 ?_
  refine r_y rfl rfl (y_assign rfl) ?_
  refine r_nil ?_
  refine hK1 _ _ _ ?_
  clear hK1 K1
  refine c_seq (fun K2 hK2 => ?_)
  refine c_seq (fun K3 hK3 => ?_)
  refine c_region ?_
  refine r_y rfl rfl (y_move rfl) ?_
  refine r_y rfl rfl (y_dec' rfl (by omega)) ?_
  refine r_y rfl rfl (y_assign rfl) ?_
  refine r_nil ?_
  refine hK3 _ _ _ ?_
  clear hK3 K3
  refine c_block ?_
  refine c_loopx (α := Nat × List Bool × Sl) (fun vv => match vv with | (j, l1, sv) => [(0, wv z), (5, sv.v), (6, .int .i64 ((j : Int) - 1))]) (fun vv => match vv with | (j, l1, sv) => .vec sv.a sv.n sv.cap 4 1 (l1.map fun b => [.bool b]) :: H) (fun k0 vv m1 => match vv with | (j, l1, sv) => (j = k0 ∧ sv.n = l1.length ∧ l1.length + j = k ∧ bitsL z k = l1 ++ bitsL z j) ∧ m.le m1) (k) (k, [], zSl) ⟨rfl, rfl, rfl, trivial⟩ rfl ⟨⟨rfl, rfl, by simp, rfl⟩, hm⟩ ?_
  clear hm
  rintro k0 ⟨j, l1, sv⟩ m1 ⟨hi0, hm⟩
  obtain ⟨hi, hsn, hb, hinv⟩ := hi0
  refine c_seq (fun K4 hK4 => ?_)
  refine c_seq (fun K5 hK5 => ?_)
  refine c_region ?_
  refine r_y rfl rfl (y_move rfl) ?_
  refine r_y rfl rfl (y_iop rfl rfl rfl) ?_
  refine r_nil ?_
  refine hK5 _ _ _ ?_
  clear hK5 K5
  refine c_cond rfl (fun h0 => ?_) (fun h0 => ?_)
  ·
    refine c_skip ?_
    refine hK4 _ _ _ ?_
    clear hK4 K4
    refine c_seq (fun K6 hK6 => ?_)
    refine c_block ?_
    refine c_region ?_
    refine r_y rfl rfl (y_move rfl) ?_
    refine r_y rfl rfl (y_move rfl) ?_
    refine r_y rfl rfl (y_move rfl) ?_
    obtain ⟨j, rfl⟩ : ∃ i, j = i + 1 := ⟨j - 1, by simp at h0; omega⟩
    refine r_y rfl rfl (y_conv_ij rfl un3 un158 (by omega)) ?_
    refine r_y rfl rfl (y_wshr (b := j) rfl rfl) ?_
    refine r_y rfl rfl (y_wop rfl (opv_wc 1#64) rfl) ?_
    refine r_y rfl rfl (y_wop rfl (opv_wc 1#64) rfl) ?_
    refine r_s rfl ?_
    refine s_buildSlice (cs := [.bool ((z >>> j) &&& 1#64 == 1#64)]) (e := 4) rfl rfl (fun _ => by kernel_rfl) (fun b0 => ?_)
    refine r_s rfl ?_
    refine s_append rfl rfl rfl tl166 zo4 tb4 (i := 1) rfl (Src.one' (i := 0) rfl rfl (by simp [Value.oneCell'])) (by omega) (by unfold maxLen; omega) (fun a1 c1 => ?_)
    refine r_del 0 rfl ?_
    refine r_y rfl rfl (y_assign rfl) ?_
    refine r_nil ?_
    refine hK6 _ _ _ ?_
    clear hK6 K6
    refine c_region ?_
    refine r_y rfl rfl (y_move rfl) ?_
    refine r_y rfl rfl (y_decj rfl (by omega)) ?_
    refine r_y rfl rfl (y_assign rfl) ?_
    refine r_nil ?_
    exact ⟨k0 - 1, (j, l1 ++ [(z >>> j) &&& 1#64 == 1#64], ⟨a1, sv.n + 1, c1⟩), by omega, ⟨rfl, rfl, rfl, trivial⟩, (by simp only [List.map_append]; rfl), ⟨by omega, by simp [hsn], by simp; omega, by rw [hinv]; simp [bitsL]⟩, hm⟩
  ·
    refine c_exit ?_
    refine hK2 _ _ _ ?_
    clear hK4 K4 hK2 K2
    refine c_seq (fun K7 hK7 => ?_)
    refine c_region ?_
    refine r_freezeVec (i := 0) rfl rfl (fun m3 hm3 hzb hnil => ?_)
    replace hm := hm.trans hm3
    clear hm3
    refine r_y rfl rfl (y_move rfl) ?_
    refine r_y rfl rfl (y_assign rfl) ?_
    refine r_nil ?_
    refine hK7 _ _ _ ?_
    clear hK7 K7
    refine c_ret ?_
    refine e_ret 0 hm (res_tmps rfl) ?_
    obtain rfl : j = 0 := by simp at h0; omega
    rw [hinv]
    exact ⟨sv, rfl, by simpa [bitsL] using hzb, rfl⟩
set_option maxRecDepth 100000 in
theorem rText_w (c : Cube) (m : Snap) (H : Hp) : Fn Try.prog 98 [.agg (encCube c).toArray] m H (fun v _ H' => v = .tuple [.string (strB (textN c 12)), .bool (cubeSound c)].toArray ∧ H' = H) := by
  have hm : m.le m := Snap.le.refl m
  refine fn_end Try.func98 rfl rfl rfl ?_
  refine c_seq (fun K0 hK0 => ?_)
  refine c_region ?_
  refine r_s rfl ?_
  refine s_box_a rfl rfl (fun b0 => ?_)
  refine r_y rfl rfl (y_assign rfl) ?_
  refine r_y rfl rfl (y_assign rfl) ?_
  refine r_nil ?_
  refine hK0 _ _ _ ?_
  clear hK0 K0
  refine c_seq (fun K1 hK1 => ?_)
  refine c_region ?_
  refine r_nilvec 5 1 ?_
  refine r_y rfl rfl (y_assign rfl) ?_
  refine r_nil ?_
  refine hK1 _ _ _ ?_
  clear hK1 K1
  refine c_seq (fun K2 hK2 => ?_)
  refine c_region ?_
  refine r_y rfl rfl (y_fieldAddr rfl At.lit fo29_1 rfl) ?_
  refine r_y rfl rfl (y_load_a (cs := encHead c.care) rfl ts27 (RdA.blk (i := 1) rfl rfl)) ?_
  refine r_s rfl ?_
  refine s_call0 rfl Try.call64 rfl (rHead_w c.care _ _) ?_
  rintro _ m2 _ hm2 ⟨rfl, rfl⟩
  replace hm := hm.trans hm2
  clear hm2
  refine r_y rfl rfl (y_assign rfl) ?_
  refine r_nil ?_
  refine hK2 _ _ _ ?_
  clear hK2 K2
  refine c_seq (fun K3 hK3 => ?_)
  refine c_seq (fun K4 hK4 => ?_)
  refine c_region ?_
  refine r_y rfl rfl (y_assign rfl) ?_
  refine r_nil ?_
  refine hK4 _ _ _ ?_
  clear hK4 K4
  refine c_block ?_
  refine c_loopx (α := Nat × Bool × Sl) (fun vv => match vv with | (i, ok, sv) => [(1, .pointer (some ⟨b0, 0, none⟩)), (4, sv.v), (5, .bool ok), (6, .int .i64 (i : Nat))]) (fun vv => match vv with | (i, ok, sv) => .vec sv.a sv.n sv.cap 5 1 (bytes1 (textN c i)) :: .blk b0 (.cells (encCube c).toArray 29) :: H) (fun k0 vv m1 => match vv with | (i, ok, sv) => (i + k0 = 12 ∧ sv.n = (textN c i).length ∧ ok = (headSound c.care && (List.range i).all fun i => (c.value.at i &&& ~~~(c.care.at i)) == 0)) ∧ m.le m1) (12) (0, headSound c.care, zSl) ⟨rfl, rfl, rfl, rfl, trivial⟩ rfl ⟨⟨by omega, rfl, by simp⟩, hm⟩ ?_
  clear hm
  rintro k0 ⟨i, ok, sv⟩ m1 ⟨hi0, hm⟩
  obtain ⟨hi, hsn, hok⟩ := hi0
  refine c_seq (fun K5 hK5 => ?_)
  refine c_seq (fun K6 hK6 => ?_)
  refine c_region ?_
  refine r_y rfl rfl (y_move rfl) ?_
  refine r_y rfl rfl (y_iop rfl rfl rfl) ?_
  refine r_nil ?_
  refine hK6 _ _ _ ?_
  clear hK6 K6
  refine c_cond rfl (fun h0 => ?_) (fun h0 => ?_)
  ·
    have hlt : i < 12 := by simp at h0; omega
    refine c_skip ?_
    refine hK5 _ _ _ ?_
    clear hK5 K5
    refine c_seq (fun K7 hK7 => ?_)
    refine c_block ?_
    refine c_seq (fun K8 hK8 => ?_)
    refine c_seq (fun K9 hK9 => ?_)
    refine c_draw ([.blk b0 (.cells (encCube c).toArray 29)]) (by kernel_rfl) (fun hg => ?_)
    refine g_y (i := 0) (listed' := #[true, false, false, false, false, false, false, false, false, false]) rfl (by kernel_rfl) (by kernel_rfl) (by kernel_rfl) (by kernel_rfl) rfl rfl hg (allc (List.Mem.tail _ (List.Mem.head _)) alln) (fun m' H' hm' hX' => y_move rfl) ?_
    refine g_y (i := 1) (listed' := #[true, true, false, false, false, false, false, false, false, false]) rfl (by kernel_rfl) (by kernel_rfl) (by kernel_rfl) (by kernel_rfl) rfl rfl hg (allc (List.Mem.tail _ (List.Mem.head _)) alln) (fun m' H' hm' hX' => y_fieldAddr rfl At.lit fo29_0 rfl) ?_
    refine g_y (i := 2) (listed' := #[true, true, true, false, false, false, false, false, false, false]) rfl (by kernel_rfl) (by kernel_rfl) (by kernel_rfl) (by kernel_rfl) rfl rfl hg (allc (List.Mem.tail _ (List.Mem.head _)) alln) (fun m' H' hm' hX' => y_indexAddr_arr rfl rfl ta27 hlt At.lit) ?_
    refine g_y (i := 3) (listed' := #[true, true, true, true, false, false, false, false, false, false]) rfl (by kernel_rfl) (by kernel_rfl) (by kernel_rfl) (by kernel_rfl) rfl rfl hg (allc (List.Mem.tail _ (List.Mem.head _)) alln) (fun m' H' hm' hX' => y_load_s rfl ts25 (RdS.mem (hX' _ (List.Mem.head _)) (cget_value _ _ hlt))) ?_
    refine g_y (i := 4) (listed' := #[true, true, true, true, true, false, false, false, false, false]) rfl (by kernel_rfl) (by kernel_rfl) (by kernel_rfl) (by kernel_rfl) rfl rfl hg (allc (List.Mem.tail _ (List.Mem.head _)) alln) (fun m' H' hm' hX' => y_move rfl) ?_
    refine g_y (i := 5) (listed' := #[true, true, true, true, true, true, false, false, false, false]) rfl (by kernel_rfl) (by kernel_rfl) (by kernel_rfl) (by kernel_rfl) rfl rfl hg (allc (List.Mem.tail _ (List.Mem.head _)) alln) (fun m' H' hm' hX' => y_fieldAddr rfl At.lit fo29_1 rfl) ?_
    refine g_y (i := 6) (listed' := #[true, true, true, true, true, true, true, false, false, false]) rfl (by kernel_rfl) (by kernel_rfl) (by kernel_rfl) (by kernel_rfl) rfl rfl hg (allc (List.Mem.tail _ (List.Mem.head _)) alln) (fun m' H' hm' hX' => y_indexAddr_arr rfl rfl ta27 hlt At.lit) ?_
    refine g_y (i := 7) (listed' := #[true, true, true, true, true, true, true, true, false, false]) rfl (by kernel_rfl) (by kernel_rfl) (by kernel_rfl) (by kernel_rfl) rfl rfl hg (allc (List.Mem.tail _ (List.Mem.head _)) alln) (fun m' H' hm' hX' => y_load_s rfl ts25 (RdS.mem (hX' _ (List.Mem.head _)) (cget_care _ _ hlt))) ?_
    refine g_y (i := 8) (listed' := #[true, true, true, true, true, true, true, true, true, false]) rfl (by kernel_rfl) (by kernel_rfl) (by kernel_rfl) (by kernel_rfl) rfl rfl hg (allc (List.Mem.tail _ (List.Mem.head _)) alln) (fun m' H' hm' hX' => y_wop rfl rfl rfl) ?_
    refine g_y (i := 9) (listed' := #[true, true, true, true, true, true, true, true, true, true]) rfl (by kernel_rfl) (by kernel_rfl) (by kernel_rfl) (by kernel_rfl) rfl rfl hg (allc (List.Mem.tail _ (List.Mem.head _)) alln) (fun m' H' hm' hX' => y_wop rfl (opv_wc 0#64) rfl) ?_
    refine g_done (by kernel_rfl) ?_
    clear hg
    refine hK9 _ _ _ ?_
    clear hK9 K9
    refine c_cond rfl (fun hv => ?_) (fun hv => ?_)
    ·
      refine c_region ?_
      refine r_y rfl rfl (y_assign rfl) ?_
      refine r_nil ?_
      refine hK8 _ _ _ ?_
      clear hK8 K8
      refine c_seq (fun K10 hK10 => ?_)
      refine c_draw ([.blk b0 (.cells (encCube c).toArray 29)]) (by kernel_rfl) (fun hg => ?_)
      refine g_y (i := 0) (listed' := #[true, false, false, false, false, false, false, false, false, false, false, false, false, false, false, false]) rfl (by kernel_rfl) (by kernel_rfl) (by kernel_rfl) (by kernel_rfl) rfl rfl hg (allc (List.Mem.tail _ (List.Mem.head _)) alln) (fun m' H' hm' hX' => y_move rfl) ?_
      refine g_y (i := 1) (listed' := #[true, true, false, false, false, false, false, false, false, false, false, false, false, false, false, false]) rfl (by kernel_rfl) (by kernel_rfl) (by kernel_rfl) (by kernel_rfl) rfl rfl hg (allc (List.Mem.tail _ (List.Mem.head _)) alln) (fun m' H' hm' hX' => y_fieldAddr rfl At.lit fo29_0 rfl) ?_
      refine g_y (i := 2) (listed' := #[true, true, true, false, false, false, false, false, false, false, false, false, false, false, false, false]) rfl (by kernel_rfl) (by kernel_rfl) (by kernel_rfl) (by kernel_rfl) rfl rfl hg (allc (List.Mem.tail _ (List.Mem.head _)) alln) (fun m' H' hm' hX' => y_indexAddr_arr rfl rfl ta27 hlt At.lit) ?_
      refine g_y (i := 3) (listed' := #[true, true, true, true, false, false, false, false, false, false, false, false, false, false, false, false]) rfl (by kernel_rfl) (by kernel_rfl) (by kernel_rfl) (by kernel_rfl) rfl rfl hg (allc (List.Mem.tail _ (List.Mem.head _)) alln) (fun m' H' hm' hX' => y_load_s rfl ts25 (RdS.mem (hX' _ (List.Mem.head _)) (cget_value _ _ hlt))) ?_
      refine g_y (i := 4) (listed' := #[true, true, true, true, true, false, false, false, false, false, false, false, false, false, false, false]) rfl (by kernel_rfl) (by kernel_rfl) (by kernel_rfl) (by kernel_rfl) rfl rfl hg (allc (List.Mem.tail _ (List.Mem.head _)) alln) (fun m' H' hm' hX' => y_move rfl) ?_
      refine g_y (i := 7) (listed' := #[true, true, true, true, true, false, false, true, false, false, false, false, false, false, false, false]) rfl (by kernel_rfl) (by kernel_rfl) (by kernel_rfl) (by kernel_rfl) rfl rfl hg (allc (List.Mem.tail _ (List.Mem.head _)) alln) (fun m' H' hm' hX' => y_move rfl) ?_
      refine g_y (i := 8) (listed' := #[true, true, true, true, true, false, false, true, true, false, false, false, false, false, false, false]) rfl (by kernel_rfl) (by kernel_rfl) (by kernel_rfl) (by kernel_rfl) rfl rfl hg (allc (List.Mem.tail _ (List.Mem.head _)) alln) (fun m' H' hm' hX' => y_fieldAddr rfl At.lit fo29_1 rfl) ?_
      refine g_y (i := 9) (listed' := #[true, true, true, true, true, false, false, true, true, true, false, false, false, false, false, false]) rfl (by kernel_rfl) (by kernel_rfl) (by kernel_rfl) (by kernel_rfl) rfl rfl hg (allc (List.Mem.tail _ (List.Mem.head _)) alln) (fun m' H' hm' hX' => y_indexAddr_arr rfl rfl ta27 hlt At.lit) ?_
      refine g_y (i := 10) (listed' := #[true, true, true, true, true, false, false, true, true, true, true, false, false, false, false, false]) rfl (by kernel_rfl) (by kernel_rfl) (by kernel_rfl) (by kernel_rfl) rfl rfl hg (allc (List.Mem.tail _ (List.Mem.head _)) alln) (fun m' H' hm' hX' => y_load_s rfl ts25 (RdS.mem (hX' _ (List.Mem.head _)) (cget_care _ _ hlt))) ?_
      refine g_y (i := 11) (listed' := #[true, true, true, true, true, false, false, true, true, true, true, true, false, false, false, false]) rfl (by kernel_rfl) (by kernel_rfl) (by kernel_rfl) (by kernel_rfl) rfl rfl hg (allc (List.Mem.tail _ (List.Mem.head _)) alln) (fun m' H' hm' hX' => y_move rfl) ?_
      refine g_s (i := 5) (listed' := #[true, true, true, true, true, true, false, true, true, true, true, true, false, false, false, false]) rfl (by kernel_rfl) (by kernel_rfl) rfl ?_
      refine s_call0 rfl Try.call117 rfl (rSize_w _ _ _) ?_
      rintro _ m2 _ hm2 ⟨rfl, rfl⟩
      replace hm := hm.trans hm2
      refine ⟨⟨hg.trans hm2, (allc (List.Mem.tail _ (List.Mem.head _)) alln)⟩, ?_⟩
      replace hg := hg.trans hm2
      clear hm2
      refine g_s (i := 6) (listed' := #[true, true, true, true, true, true, true, true, true, true, true, true, false, false, false, false]) rfl (by kernel_rfl) (by kernel_rfl) rfl ?_
      refine s_call0 rfl Try.call140 rfl (rBits_w (c.value.at i) (hsz (i : Int)) _ _ (Nat.le_trans (hsz_le _) (by decide))) ?_
      rintro _ m2 _ hm2 ⟨sa1, rfl, hza1, rfl⟩
      replace hm := hm.trans hm2
      refine ⟨⟨hg.trans hm2, (allc (List.Mem.tail _ (List.Mem.head _)) alln)⟩, ?_⟩
      replace hg := hg.trans hm2
      clear hm2
      refine g_s (i := 12) (listed' := #[true, true, true, true, true, true, true, true, true, true, true, true, true, false, false, false]) rfl (by kernel_rfl) (by kernel_rfl) rfl ?_
      refine s_call0 rfl Try.call117 rfl (rSize_w _ _ _) ?_
      rintro _ m2 _ hm2 ⟨rfl, rfl⟩
      replace hm := hm.trans hm2
      refine ⟨⟨hg.trans hm2, (allc (List.Mem.tail _ (List.Mem.head _)) alln)⟩, ?_⟩
      replace hg := hg.trans hm2
      replace hza1 := hza1.mono hm2
      clear hm2
      refine g_s (i := 13) (listed' := #[true, true, true, true, true, true, true, true, true, true, true, true, true, true, false, false]) rfl (by kernel_rfl) (by kernel_rfl) rfl ?_
      refine s_call0 rfl Try.call140 rfl (rBits_w (c.care.at i) (hsz (i : Int)) _ _ (Nat.le_trans (hsz_le _) (by decide))) ?_
      rintro _ m2 _ hm2 ⟨sa2, rfl, hza2, rfl⟩
      replace hm := hm.trans hm2
      refine ⟨⟨hg.trans hm2, (allc (List.Mem.tail _ (List.Mem.head _)) alln)⟩, ?_⟩
      replace hg := hg.trans hm2
      replace hza1 := hza1.mono hm2
      clear hm2
      refine g_y (i := 14) (listed' := #[true, true, true, true, true, true, true, true, true, true, true, true, true, true, true, false]) rfl (by kernel_rfl) (by kernel_rfl) (by kernel_rfl) (by kernel_rfl) rfl rfl hg (allc (List.Mem.tail _ (List.Mem.head _)) alln) (fun m' H' hm' hX' => y_assign rfl) ?_
      refine g_y (i := 15) (listed' := #[true, true, true, true, true, true, true, true, true, true, true, true, true, true, true, true]) rfl (by kernel_rfl) (by kernel_rfl) (by kernel_rfl) (by kernel_rfl) rfl rfl hg (allc (List.Mem.tail _ (List.Mem.head _)) alln) (fun m' H' hm' hX' => y_assign rfl) ?_
      refine g_done (by kernel_rfl) ?_
      clear hg
      refine hK10 _ _ _ ?_
      clear hK10 K10
      refine c_seq (fun K11 hK11 => ?_)
      refine c_region ?_
      refine r_y rfl rfl (y_assign rfl) ?_
      refine r_nil ?_
      refine hK11 _ _ _ ?_
      clear hK11 K11
      refine c_block ?_
      refine c_loopx (α := Nat × Bool × Sl) (fun vv => match vv with | (k, ok2, sv2) => [(1, .pointer (some ⟨b0, 0, none⟩)), (4, sv2.v), (5, .bool ok2), (6, .int .i64 (i : Nat)), (7, sa1.v), (8, sa2.v), (9, .int .i64 (k : Nat))]) (fun vv => match vv with | (k, ok2, sv2) => .vec sv2.a sv2.n sv2.cap 5 1 (bytes1 (textN c i ++ (rowT c i).take k)) :: .blk b0 (.cells (encCube c).toArray 29) :: H) (fun k1 vv m1 => match vv with | (k, ok2, sv2) => (k + k1 = sa1.n ∧ sv2.n = (textN c i ++ (rowT c i).take k).length ∧ ok2 = (headSound c.care && (List.range (i + 1)).all fun i => (c.value.at i &&& ~~~(c.care.at i)) == 0)) ∧ m.le m1 ∧ (FzT m1 sa1 (bitsL (c.value.at i) (hsz (i : Int)))) ∧ (FzT m1 sa2 (bitsL (c.care.at i) (hsz (i : Int))))) (sa1.n) (0, false, sv) ⟨rfl, rfl, rfl, rfl, rfl, rfl, rfl, trivial⟩ (by simp only [List.take_zero, List.append_nil] <;> rfl) ⟨⟨by omega, by simpa using hsn, by rw [all_range_succ]; simp_all⟩, hm, hza1, hza2⟩ ?_
      clear hm hza1 hza2
      rintro k1 ⟨k, ok2, sv2⟩ m1 ⟨hi1, hm, hza1, hza2⟩
      obtain ⟨hki, hsn, hok2⟩ := hi1
      refine c_seq (fun K12 hK12 => ?_)
      refine c_seq (fun K13 hK13 => ?_)
      refine c_region ?_
      refine r_y rfl rfl (y_move rfl) ?_
      refine r_y rfl rfl (y_move rfl) ?_
      refine r_y rfl rfl (y_len tl166 rfl) ?_
      refine r_y rfl rfl (y_iop rfl rfl rfl) ?_
      refine r_nil ?_
      refine hK13 _ _ _ ?_
      clear hK13 K13
      refine c_cond rfl (fun hk => ?_) (fun hk => ?_)
      ·
        have hlt1 : k < sa1.n := by simp at hk; omega
        have hL1 := Fz.lenT hza1
        have hL2 := Fz.lenT hza2
        rw [bitsL_len] at hL1 hL2
        have hlt2 : k < sa2.n := by omega
        obtain ⟨p, hx1⟩ := get_of_lt (l := bitsL (c.value.at i) (hsz (i : Int))) (k := k) (by rw [bitsL_len]; omega)
        obtain ⟨q, hx2⟩ := get_of_lt (l := bitsL (c.care.at i) (hsz (i : Int))) (k := k) (by rw [bitsL_len]; omega)
        have hmx := hza1.max
        have hle1 := hza1.le
        unfold maxLen at hmx
        refine c_skip ?_
        refine hK12 _ _ _ ?_
        clear hK12 K12
        refine c_seq (fun K14 hK14 => ?_)
        refine c_block ?_
        refine c_block ?_
        refine c_seq (fun K15 hK15 => ?_)
        refine c_region ?_
        refine r_y rfl rfl (y_move rfl) ?_
        refine r_y rfl rfl (y_move rfl) ?_
        refine r_y rfl rfl (y_indexAddr_slice rfl rfl tl166 hlt2 (At.fz hza2 hlt2)) ?_
        refine r_y rfl rfl (y_load_s rfl ts4 (RdS.fz (j := 0) hza2 (map_get hx2) rfl)) ?_
        refine r_y rfl rfl (y_not rfl) ?_
        refine r_y rfl rfl (y_assign rfl) ?_
        refine r_nil ?_
        refine hK15 _ _ _ ?_
        clear hK15 K15
        refine c_cond rfl (fun hq => ?_) (fun hq => ?_)
        ·
          refine c_region ?_
          refine r_y rfl rfl (y_move rfl) ?_
          refine r_s rfl ?_
          refine s_buildSlice (cs := [.int .u8 120]) (e := 5) rfl rfl (fun _ => by kernel_rfl) (fun b1 => ?_)
          have hbt := textN_len c i
          have hbr : ((rowT c i).take k).length ≤ 48 := Nat.le_trans (by simp; omega) (hsz_le (i : Int))
          refine r_s rfl ?_
          refine s_append rfl rfl rfl tl22 zo5 tb5 (i := 1) rfl (Src.one' (i := 0) rfl rfl (by simp [Value.oneCell'])) (by rw [List.length_append] at hsn; omega) (by rw [List.length_append] at hsn; unfold maxLen; omega) (fun a1 c1 => ?_)
          refine r_del 0 rfl ?_
          refine r_y rfl rfl (y_assign rfl) ?_
          refine r_nil ?_
          refine hK14 _ _ _ ?_
          clear hK14 K14
          refine c_region ?_
          refine r_y rfl rfl (y_move rfl) ?_
          first | refine r_y rfl rfl (y_inc rfl (by omega)) ?_ | refine r_y rfl rfl (y_iop rfl rfl rfl) ?_
          refine r_y rfl rfl (y_assign rfl) ?_
          refine r_nil ?_
          exact ⟨k1 - 1, (k + 1, ok2, ⟨a1, sv2.n + 1, c1⟩), by omega, ⟨rfl, rfl, rfl, rfl, rfl, rfl, rfl, trivial⟩, (by simp only [rowT_step hx1 hx2, ← List.append_assoc, bytes1_snoc]; first | (rw [tch_x hq]; rfl) | (rw [tch_1 hq hp]; rfl) | (rw [tch_0 hq hp]; rfl)), ⟨by omega, by rw [rowT_step hx1 hx2]; simp only [List.length_append] at hsn ⊢; simp [hsn]; omega, hok2⟩, hm, hza1, hza2⟩
        ·
          refine c_seq (fun K16 hK16 => ?_)
          refine c_region ?_
          refine r_y rfl rfl (y_move rfl) ?_
          refine r_y rfl rfl (y_move rfl) ?_
          refine r_y rfl rfl (y_indexAddr_slice rfl rfl tl166 hlt1 (At.fz hza1 hlt1)) ?_
          refine r_y rfl rfl (y_load_s rfl ts4 (RdS.fz (j := 0) hza1 (map_get hx1) rfl)) ?_
          refine r_y rfl rfl (y_assign rfl) ?_
          refine r_nil ?_
          refine hK16 _ _ _ ?_
          clear hK16 K16
          refine c_cond rfl (fun hp => ?_) (fun hp => ?_)
          ·
            refine c_region ?_
            refine r_y rfl rfl (y_move rfl) ?_
            refine r_s rfl ?_
            refine s_buildSlice (cs := [.int .u8 49]) (e := 5) rfl rfl (fun _ => by kernel_rfl) (fun b1 => ?_)
            have hbt := textN_len c i
            have hbr : ((rowT c i).take k).length ≤ 48 := Nat.le_trans (by simp; omega) (hsz_le (i : Int))
            refine r_s rfl ?_
            refine s_append rfl rfl rfl tl22 zo5 tb5 (i := 1) rfl (Src.one' (i := 0) rfl rfl (by simp [Value.oneCell'])) (by rw [List.length_append] at hsn; omega) (by rw [List.length_append] at hsn; unfold maxLen; omega) (fun a1 c1 => ?_)
            refine r_del 0 rfl ?_
            refine r_y rfl rfl (y_assign rfl) ?_
            refine r_nil ?_
            refine hK14 _ _ _ ?_
            clear hK14 K14
            refine c_region ?_
            refine r_y rfl rfl (y_move rfl) ?_
            first | refine r_y rfl rfl (y_inc rfl (by omega)) ?_ | refine r_y rfl rfl (y_iop rfl rfl rfl) ?_
            refine r_y rfl rfl (y_assign rfl) ?_
            refine r_nil ?_
            exact ⟨k1 - 1, (k + 1, ok2, ⟨a1, sv2.n + 1, c1⟩), by omega, ⟨rfl, rfl, rfl, rfl, rfl, rfl, rfl, trivial⟩, (by simp only [rowT_step hx1 hx2, ← List.append_assoc, bytes1_snoc]; first | (rw [tch_x hq]; rfl) | (rw [tch_1 hq hp]; rfl) | (rw [tch_0 hq hp]; rfl)), ⟨by omega, by rw [rowT_step hx1 hx2]; simp only [List.length_append] at hsn ⊢; simp [hsn]; omega, hok2⟩, hm, hza1, hza2⟩
          ·
            refine c_region ?_
            refine r_y rfl rfl (y_move rfl) ?_
            refine r_s rfl ?_
            refine s_buildSlice (cs := [.int .u8 48]) (e := 5) rfl rfl (fun _ => by kernel_rfl) (fun b1 => ?_)
            have hbt := textN_len c i
            have hbr : ((rowT c i).take k).length ≤ 48 := Nat.le_trans (by simp; omega) (hsz_le (i : Int))
            refine r_s rfl ?_
            refine s_append rfl rfl rfl tl22 zo5 tb5 (i := 1) rfl (Src.one' (i := 0) rfl rfl (by simp [Value.oneCell'])) (by rw [List.length_append] at hsn; omega) (by rw [List.length_append] at hsn; unfold maxLen; omega) (fun a1 c1 => ?_)
            refine r_del 0 rfl ?_
            refine r_y rfl rfl (y_assign rfl) ?_
            refine r_nil ?_
            refine hK14 _ _ _ ?_
            clear hK14 K14
            refine c_region ?_
            refine r_y rfl rfl (y_move rfl) ?_
            first | refine r_y rfl rfl (y_inc rfl (by omega)) ?_ | refine r_y rfl rfl (y_iop rfl rfl rfl) ?_
            refine r_y rfl rfl (y_assign rfl) ?_
            refine r_nil ?_
            exact ⟨k1 - 1, (k + 1, ok2, ⟨a1, sv2.n + 1, c1⟩), by omega, ⟨rfl, rfl, rfl, rfl, rfl, rfl, rfl, trivial⟩, (by simp only [rowT_step hx1 hx2, ← List.append_assoc, bytes1_snoc]; first | (rw [tch_x hq]; rfl) | (rw [tch_1 hq hp]; rfl) | (rw [tch_0 hq hp]; rfl)), ⟨by omega, by rw [rowT_step hx1 hx2]; simp only [List.length_append] at hsn ⊢; simp [hsn]; omega, hok2⟩, hm, hza1, hza2⟩
      ·
        refine c_exit ?_
        refine hK7 _ _ _ ?_
        clear hK12 K12 hK7 K7
        refine c_region ?_
        refine r_y rfl rfl (y_move rfl) ?_
        first | refine r_y rfl rfl (y_inc rfl (by omega)) ?_ | refine r_y rfl rfl (y_iop rfl rfl rfl) ?_
        refine r_y rfl rfl (y_assign rfl) ?_
        refine r_nil ?_
        have hL1 := Fz.lenT hza1
        rw [bitsL_len] at hL1
        have e := textN_step (c := c) (i := i) (k := k) (by simp at hk; omega)
        exact ⟨k0 - 1, (i + 1, ok2, sv2), by omega, ⟨rfl, rfl, rfl, rfl, trivial⟩, (by simp only [e] <;> rfl), ⟨by omega, by rw [e]; exact hsn, hok2⟩, hm⟩
    ·
      refine c_skip ?_
      refine hK8 _ _ _ ?_
      clear hK8 K8
      refine c_seq (fun K17 hK17 => ?_)
      refine c_draw ([.blk b0 (.cells (encCube c).toArray 29)]) (by kernel_rfl) (fun hg => ?_)
      refine g_y (i := 0) (listed' := #[true, false, false, false, false, false, false, false, false, false, false, false, false, false, false, false]) rfl (by kernel_rfl) (by kernel_rfl) (by kernel_rfl) (by kernel_rfl) rfl rfl hg (allc (List.Mem.tail _ (List.Mem.head _)) alln) (fun m' H' hm' hX' => y_move rfl) ?_
      refine g_y (i := 1) (listed' := #[true, true, false, false, false, false, false, false, false, false, false, false, false, false, false, false]) rfl (by kernel_rfl) (by kernel_rfl) (by kernel_rfl) (by kernel_rfl) rfl rfl hg (allc (List.Mem.tail _ (List.Mem.head _)) alln) (fun m' H' hm' hX' => y_fieldAddr rfl At.lit fo29_0 rfl) ?_
      refine g_y (i := 2) (listed' := #[true, true, true, false, false, false, false, false, false, false, false, false, false, false, false, false]) rfl (by kernel_rfl) (by kernel_rfl) (by kernel_rfl) (by kernel_rfl) rfl rfl hg (allc (List.Mem.tail _ (List.Mem.head _)) alln) (fun m' H' hm' hX' => y_indexAddr_arr rfl rfl ta27 hlt At.lit) ?_
      refine g_y (i := 3) (listed' := #[true, true, true, true, false, false, false, false, false, false, false, false, false, false, false, false]) rfl (by kernel_rfl) (by kernel_rfl) (by kernel_rfl) (by kernel_rfl) rfl rfl hg (allc (List.Mem.tail _ (List.Mem.head _)) alln) (fun m' H' hm' hX' => y_load_s rfl ts25 (RdS.mem (hX' _ (List.Mem.head _)) (cget_value _ _ hlt))) ?_
      refine g_y (i := 4) (listed' := #[true, true, true, true, true, false, false, false, false, false, false, false, false, false, false, false]) rfl (by kernel_rfl) (by kernel_rfl) (by kernel_rfl) (by kernel_rfl) rfl rfl hg (allc (List.Mem.tail _ (List.Mem.head _)) alln) (fun m' H' hm' hX' => y_move rfl) ?_
      refine g_y (i := 7) (listed' := #[true, true, true, true, true, false, false, true, false, false, false, false, false, false, false, false]) rfl (by kernel_rfl) (by kernel_rfl) (by kernel_rfl) (by kernel_rfl) rfl rfl hg (allc (List.Mem.tail _ (List.Mem.head _)) alln) (fun m' H' hm' hX' => y_move rfl) ?_
      refine g_y (i := 8) (listed' := #[true, true, true, true, true, false, false, true, true, false, false, false, false, false, false, false]) rfl (by kernel_rfl) (by kernel_rfl) (by kernel_rfl) (by kernel_rfl) rfl rfl hg (allc (List.Mem.tail _ (List.Mem.head _)) alln) (fun m' H' hm' hX' => y_fieldAddr rfl At.lit fo29_1 rfl) ?_
      refine g_y (i := 9) (listed' := #[true, true, true, true, true, false, false, true, true, true, false, false, false, false, false, false]) rfl (by kernel_rfl) (by kernel_rfl) (by kernel_rfl) (by kernel_rfl) rfl rfl hg (allc (List.Mem.tail _ (List.Mem.head _)) alln) (fun m' H' hm' hX' => y_indexAddr_arr rfl rfl ta27 hlt At.lit) ?_
      refine g_y (i := 10) (listed' := #[true, true, true, true, true, false, false, true, true, true, true, false, false, false, false, false]) rfl (by kernel_rfl) (by kernel_rfl) (by kernel_rfl) (by kernel_rfl) rfl rfl hg (allc (List.Mem.tail _ (List.Mem.head _)) alln) (fun m' H' hm' hX' => y_load_s rfl ts25 (RdS.mem (hX' _ (List.Mem.head _)) (cget_care _ _ hlt))) ?_
      refine g_y (i := 11) (listed' := #[true, true, true, true, true, false, false, true, true, true, true, true, false, false, false, false]) rfl (by kernel_rfl) (by kernel_rfl) (by kernel_rfl) (by kernel_rfl) rfl rfl hg (allc (List.Mem.tail _ (List.Mem.head _)) alln) (fun m' H' hm' hX' => y_move rfl) ?_
      refine g_s (i := 5) (listed' := #[true, true, true, true, true, true, false, true, true, true, true, true, false, false, false, false]) rfl (by kernel_rfl) (by kernel_rfl) rfl ?_
      refine s_call0 rfl Try.call117 rfl (rSize_w _ _ _) ?_
      rintro _ m2 _ hm2 ⟨rfl, rfl⟩
      replace hm := hm.trans hm2
      refine ⟨⟨hg.trans hm2, (allc (List.Mem.tail _ (List.Mem.head _)) alln)⟩, ?_⟩
      replace hg := hg.trans hm2
      clear hm2
      refine g_s (i := 6) (listed' := #[true, true, true, true, true, true, true, true, true, true, true, true, false, false, false, false]) rfl (by kernel_rfl) (by kernel_rfl) rfl ?_
      refine s_call0 rfl Try.call140 rfl (rBits_w (c.value.at i) (hsz (i : Int)) _ _ (Nat.le_trans (hsz_le _) (by decide))) ?_
      rintro _ m2 _ hm2 ⟨sa1, rfl, hza1, rfl⟩
      replace hm := hm.trans hm2
      refine ⟨⟨hg.trans hm2, (allc (List.Mem.tail _ (List.Mem.head _)) alln)⟩, ?_⟩
      replace hg := hg.trans hm2
      clear hm2
      refine g_s (i := 12) (listed' := #[true, true, true, true, true, true, true, true, true, true, true, true, true, false, false, false]) rfl (by kernel_rfl) (by kernel_rfl) rfl ?_
      refine s_call0 rfl Try.call117 rfl (rSize_w _ _ _) ?_
      rintro _ m2 _ hm2 ⟨rfl, rfl⟩
      replace hm := hm.trans hm2
      refine ⟨⟨hg.trans hm2, (allc (List.Mem.tail _ (List.Mem.head _)) alln)⟩, ?_⟩
      replace hg := hg.trans hm2
      replace hza1 := hza1.mono hm2
      clear hm2
      refine g_s (i := 13) (listed' := #[true, true, true, true, true, true, true, true, true, true, true, true, true, true, false, false]) rfl (by kernel_rfl) (by kernel_rfl) rfl ?_
      refine s_call0 rfl Try.call140 rfl (rBits_w (c.care.at i) (hsz (i : Int)) _ _ (Nat.le_trans (hsz_le _) (by decide))) ?_
      rintro _ m2 _ hm2 ⟨sa2, rfl, hza2, rfl⟩
      replace hm := hm.trans hm2
      refine ⟨⟨hg.trans hm2, (allc (List.Mem.tail _ (List.Mem.head _)) alln)⟩, ?_⟩
      replace hg := hg.trans hm2
      replace hza1 := hza1.mono hm2
      clear hm2
      refine g_y (i := 14) (listed' := #[true, true, true, true, true, true, true, true, true, true, true, true, true, true, true, false]) rfl (by kernel_rfl) (by kernel_rfl) (by kernel_rfl) (by kernel_rfl) rfl rfl hg (allc (List.Mem.tail _ (List.Mem.head _)) alln) (fun m' H' hm' hX' => y_assign rfl) ?_
      refine g_y (i := 15) (listed' := #[true, true, true, true, true, true, true, true, true, true, true, true, true, true, true, true]) rfl (by kernel_rfl) (by kernel_rfl) (by kernel_rfl) (by kernel_rfl) rfl rfl hg (allc (List.Mem.tail _ (List.Mem.head _)) alln) (fun m' H' hm' hX' => y_assign rfl) ?_
      refine g_done (by kernel_rfl) ?_
      clear hg
      refine hK17 _ _ _ ?_
      clear hK17 K17
      refine c_seq (fun K18 hK18 => ?_)
      refine c_region ?_
      refine r_y rfl rfl (y_assign rfl) ?_
      refine r_nil ?_
      refine hK18 _ _ _ ?_
      clear hK18 K18
      refine c_block ?_
      refine c_loopx (α := Nat × Bool × Sl) (fun vv => match vv with | (k, ok2, sv2) => [(1, .pointer (some ⟨b0, 0, none⟩)), (4, sv2.v), (5, .bool ok2), (6, .int .i64 (i : Nat)), (7, sa1.v), (8, sa2.v), (9, .int .i64 (k : Nat))]) (fun vv => match vv with | (k, ok2, sv2) => .vec sv2.a sv2.n sv2.cap 5 1 (bytes1 (textN c i ++ (rowT c i).take k)) :: .blk b0 (.cells (encCube c).toArray 29) :: H) (fun k1 vv m1 => match vv with | (k, ok2, sv2) => (k + k1 = sa1.n ∧ sv2.n = (textN c i ++ (rowT c i).take k).length ∧ ok2 = (headSound c.care && (List.range (i + 1)).all fun i => (c.value.at i &&& ~~~(c.care.at i)) == 0)) ∧ m.le m1 ∧ (FzT m1 sa1 (bitsL (c.value.at i) (hsz (i : Int)))) ∧ (FzT m1 sa2 (bitsL (c.care.at i) (hsz (i : Int))))) (sa1.n) (0, ok, sv) ⟨rfl, rfl, rfl, rfl, rfl, rfl, rfl, trivial⟩ (by simp only [List.take_zero, List.append_nil] <;> rfl) ⟨⟨by omega, by simpa using hsn, by rw [all_range_succ]; simp_all⟩, hm, hza1, hza2⟩ ?_
      clear hm hza1 hza2
      rintro k1 ⟨k, ok2, sv2⟩ m1 ⟨hi1, hm, hza1, hza2⟩
      obtain ⟨hki, hsn, hok2⟩ := hi1
      refine c_seq (fun K19 hK19 => ?_)
      refine c_seq (fun K20 hK20 => ?_)
      refine c_region ?_
      refine r_y rfl rfl (y_move rfl) ?_
      refine r_y rfl rfl (y_move rfl) ?_
      refine r_y rfl rfl (y_len tl166 rfl) ?_
      refine r_y rfl rfl (y_iop rfl rfl rfl) ?_
      refine r_nil ?_
      refine hK20 _ _ _ ?_
      clear hK20 K20
      refine c_cond rfl (fun hk => ?_) (fun hk => ?_)
      ·
        have hlt1 : k < sa1.n := by simp at hk; omega
        have hL1 := Fz.lenT hza1
        have hL2 := Fz.lenT hza2
        rw [bitsL_len] at hL1 hL2
        have hlt2 : k < sa2.n := by omega
        obtain ⟨p, hx1⟩ := get_of_lt (l := bitsL (c.value.at i) (hsz (i : Int))) (k := k) (by rw [bitsL_len]; omega)
        obtain ⟨q, hx2⟩ := get_of_lt (l := bitsL (c.care.at i) (hsz (i : Int))) (k := k) (by rw [bitsL_len]; omega)
        have hmx := hza1.max
        have hle1 := hza1.le
        unfold maxLen at hmx
        refine c_skip ?_
        refine hK19 _ _ _ ?_
        clear hK19 K19
        refine c_seq (fun K21 hK21 => ?_)
        refine c_block ?_
        refine c_block ?_
        refine c_seq (fun K22 hK22 => ?_)
        refine c_region ?_
        refine r_y rfl rfl (y_move rfl) ?_
        refine r_y rfl rfl (y_move rfl) ?_
        refine r_y rfl rfl (y_indexAddr_slice rfl rfl tl166 hlt2 (At.fz hza2 hlt2)) ?_
        refine r_y rfl rfl (y_load_s rfl ts4 (RdS.fz (j := 0) hza2 (map_get hx2) rfl)) ?_
        refine r_y rfl rfl (y_not rfl) ?_
        refine r_y rfl rfl (y_assign rfl) ?_
        refine r_nil ?_
        refine hK22 _ _ _ ?_
        clear hK22 K22
        refine c_cond rfl (fun hq => ?_) (fun hq => ?_)
        ·
          refine c_region ?_
          refine r_y rfl rfl (y_move rfl) ?_
          refine r_s rfl ?_
          refine s_buildSlice (cs := [.int .u8 120]) (e := 5) rfl rfl (fun _ => by kernel_rfl) (fun b1 => ?_)
          have hbt := textN_len c i
          have hbr : ((rowT c i).take k).length ≤ 48 := Nat.le_trans (by simp; omega) (hsz_le (i : Int))
          refine r_s rfl ?_
          refine s_append rfl rfl rfl tl22 zo5 tb5 (i := 1) rfl (Src.one' (i := 0) rfl rfl (by simp [Value.oneCell'])) (by rw [List.length_append] at hsn; omega) (by rw [List.length_append] at hsn; unfold maxLen; omega) (fun a1 c1 => ?_)
          refine r_del 0 rfl ?_
          refine r_y rfl rfl (y_assign rfl) ?_
          refine r_nil ?_
          refine hK21 _ _ _ ?_
          clear hK21 K21
          refine c_region ?_
          refine r_y rfl rfl (y_move rfl) ?_
          first | refine r_y rfl rfl (y_inc rfl (by omega)) ?_ | refine r_y rfl rfl (y_iop rfl rfl rfl) ?_
          refine r_y rfl rfl (y_assign rfl) ?_
          refine r_nil ?_
          exact ⟨k1 - 1, (k + 1, ok2, ⟨a1, sv2.n + 1, c1⟩), by omega, ⟨rfl, rfl, rfl, rfl, rfl, rfl, rfl, trivial⟩, (by simp only [rowT_step hx1 hx2, ← List.append_assoc, bytes1_snoc]; first | (rw [tch_x hq]; rfl) | (rw [tch_1 hq hp]; rfl) | (rw [tch_0 hq hp]; rfl)), ⟨by omega, by rw [rowT_step hx1 hx2]; simp only [List.length_append] at hsn ⊢; simp [hsn]; omega, hok2⟩, hm, hza1, hza2⟩
        ·
          refine c_seq (fun K23 hK23 => ?_)
          refine c_region ?_
          refine r_y rfl rfl (y_move rfl) ?_
          refine r_y rfl rfl (y_move rfl) ?_
          refine r_y rfl rfl (y_indexAddr_slice rfl rfl tl166 hlt1 (At.fz hza1 hlt1)) ?_
          refine r_y rfl rfl (y_load_s rfl ts4 (RdS.fz (j := 0) hza1 (map_get hx1) rfl)) ?_
          refine r_y rfl rfl (y_assign rfl) ?_
          refine r_nil ?_
          refine hK23 _ _ _ ?_
          clear hK23 K23
          refine c_cond rfl (fun hp => ?_) (fun hp => ?_)
          ·
            refine c_region ?_
            refine r_y rfl rfl (y_move rfl) ?_
            refine r_s rfl ?_
            refine s_buildSlice (cs := [.int .u8 49]) (e := 5) rfl rfl (fun _ => by kernel_rfl) (fun b1 => ?_)
            have hbt := textN_len c i
            have hbr : ((rowT c i).take k).length ≤ 48 := Nat.le_trans (by simp; omega) (hsz_le (i : Int))
            refine r_s rfl ?_
            refine s_append rfl rfl rfl tl22 zo5 tb5 (i := 1) rfl (Src.one' (i := 0) rfl rfl (by simp [Value.oneCell'])) (by rw [List.length_append] at hsn; omega) (by rw [List.length_append] at hsn; unfold maxLen; omega) (fun a1 c1 => ?_)
            refine r_del 0 rfl ?_
            refine r_y rfl rfl (y_assign rfl) ?_
            refine r_nil ?_
            refine hK21 _ _ _ ?_
            clear hK21 K21
            refine c_region ?_
            refine r_y rfl rfl (y_move rfl) ?_
            first | refine r_y rfl rfl (y_inc rfl (by omega)) ?_ | refine r_y rfl rfl (y_iop rfl rfl rfl) ?_
            refine r_y rfl rfl (y_assign rfl) ?_
            refine r_nil ?_
            exact ⟨k1 - 1, (k + 1, ok2, ⟨a1, sv2.n + 1, c1⟩), by omega, ⟨rfl, rfl, rfl, rfl, rfl, rfl, rfl, trivial⟩, (by simp only [rowT_step hx1 hx2, ← List.append_assoc, bytes1_snoc]; first | (rw [tch_x hq]; rfl) | (rw [tch_1 hq hp]; rfl) | (rw [tch_0 hq hp]; rfl)), ⟨by omega, by rw [rowT_step hx1 hx2]; simp only [List.length_append] at hsn ⊢; simp [hsn]; omega, hok2⟩, hm, hza1, hza2⟩
          ·
            refine c_region ?_
            refine r_y rfl rfl (y_move rfl) ?_
            refine r_s rfl ?_
            refine s_buildSlice (cs := [.int .u8 48]) (e := 5) rfl rfl (fun _ => by kernel_rfl) (fun b1 => ?_)
            have hbt := textN_len c i
            have hbr : ((rowT c i).take k).length ≤ 48 := Nat.le_trans (by simp; omega) (hsz_le (i : Int))
            refine r_s rfl ?_
            refine s_append rfl rfl rfl tl22 zo5 tb5 (i := 1) rfl (Src.one' (i := 0) rfl rfl (by simp [Value.oneCell'])) (by rw [List.length_append] at hsn; omega) (by rw [List.length_append] at hsn; unfold maxLen; omega) (fun a1 c1 => ?_)
            refine r_del 0 rfl ?_
            refine r_y rfl rfl (y_assign rfl) ?_
            refine r_nil ?_
            refine hK21 _ _ _ ?_
            clear hK21 K21
            refine c_region ?_
            refine r_y rfl rfl (y_move rfl) ?_
            first | refine r_y rfl rfl (y_inc rfl (by omega)) ?_ | refine r_y rfl rfl (y_iop rfl rfl rfl) ?_
            refine r_y rfl rfl (y_assign rfl) ?_
            refine r_nil ?_
            exact ⟨k1 - 1, (k + 1, ok2, ⟨a1, sv2.n + 1, c1⟩), by omega, ⟨rfl, rfl, rfl, rfl, rfl, rfl, rfl, trivial⟩, (by simp only [rowT_step hx1 hx2, ← List.append_assoc, bytes1_snoc]; first | (rw [tch_x hq]; rfl) | (rw [tch_1 hq hp]; rfl) | (rw [tch_0 hq hp]; rfl)), ⟨by omega, by rw [rowT_step hx1 hx2]; simp only [List.length_append] at hsn ⊢; simp [hsn]; omega, hok2⟩, hm, hza1, hza2⟩
      ·
        refine c_exit ?_
        refine hK7 _ _ _ ?_
        clear hK19 K19 hK7 K7
        refine c_region ?_
        refine r_y rfl rfl (y_move rfl) ?_
        first | refine r_y rfl rfl (y_inc rfl (by omega)) ?_ | refine r_y rfl rfl (y_iop rfl rfl rfl) ?_
        refine r_y rfl rfl (y_assign rfl) ?_
        refine r_nil ?_
        have hL1 := Fz.lenT hza1
        rw [bitsL_len] at hL1
        have e := textN_step (c := c) (i := i) (k := k) (by simp at hk; omega)
        exact ⟨k0 - 1, (i + 1, ok2, sv2), by omega, ⟨rfl, rfl, rfl, rfl, trivial⟩, (by simp only [e] <;> rfl), ⟨by omega, by rw [e]; exact hsn, hok2⟩, hm⟩
  ·
    refine c_exit ?_
    refine hK3 _ _ _ ?_
    clear hK5 K5 hK3 K3
    refine c_seq (fun K24 hK24 => ?_)
    refine c_region ?_
    refine r_freezeVec (i := 0) rfl rfl (fun m3 hm3 hzt hnt => ?_)
    replace hm := hm.trans hm3
    clear hm3
    refine r_y rfl rfl (y_move rfl) ?_
    refine r_y rfl rfl (y_conv_str rfl hzt us22 un5 ut9) ?_
    refine r_y rfl rfl (y_move rfl) ?_
    refine r_y rfl rfl (y_assign rfl) ?_
    refine r_y rfl rfl (y_assign rfl) ?_
    refine r_nil ?_
    refine hK24 _ _ _ ?_
    clear hK24 K24
    refine c_ret ?_
    refine e_ret 1 hm (res_tmps rfl) ?_
    obtain rfl : i = 12 := by simp at h0; omega
    refine ⟨?_, rfl⟩
    rw [hok]; rfl
end Go.Aw
namespace Go.Aw
open Go Go.Proofs
set_option maxRecDepth 100000 in
theorem rSame_w (s1 s2 : Sl) (l1 l2 : List (RuleD × Sl)) (m : Snap) (H : Hp) (hz1 : FzR m s1 l1) (hz2 : FzR m s2 l2) : Fn Try.prog 35 [s1.v, s2.v] m H (fun v _ H' => v = .bool (decide (l1.map (·.1) = l2.map (·.1))) ∧ H' = H) := by
  have hm : m.le m := Snap.le.refl m
  refine fn_end Try.func35 rfl rfl rfl ?_
  refine c_seq (fun K0 hK0 => ?_)
  refine c_region ?_
  refine r_y rfl rfl (y_assign rfl) ?_
  refine r_nil ?_
  refine hK0 _ _ _ ?_
  clear hK0 K0
  refine c_seq (fun K1 hK1 => ?_)
  refine c_seq (fun K2 hK2 => ?_)
  refine c_region ?_
  refine r_y rfl rfl (y_move rfl) ?_
  refine r_y rfl rfl (y_len tl33 rfl) ?_
  refine r_y rfl rfl (y_move rfl) ?_
  refine r_y rfl rfl (y_len tl33 rfl) ?_
  refine r_y rfl rfl (y_iop rfl rfl rfl) ?_
  refine r_nil ?_
  refine hK2 _ _ _ ?_
  clear hK2 K2
  refine c_cond rfl (fun h0 => ?_) (fun h0 => ?_)
  ·
    refine c_seq (fun K3 hK3 => ?_)
    refine c_region ?_
    refine r_y rfl rfl (y_assign rfl) ?_
    refine r_nil ?_
    refine hK3 _ _ _ ?_
    clear hK3 K3
    refine c_ret ?_
    refine e_ret 0 hm (res_tmps rfl) ?_
    refine ⟨congrArg Value.bool ?_, rfl⟩
    have hl1 := hz1.len; have hl2 := hz2.len
    have : s1.n ≠ s2.n := by simp at h0; omega
    exact (decide_eq_false (by intro e; have := congrArg List.length e; simp at this; omega)).symm
  ·
    have hl1 := hz1.len
    have hl2 := hz2.len
    have hne : s1.n = s2.n := by simp at h0; omega
    have hmx := hz1.fz.max
    have hle := hz1.fz.le
    unfold maxLen at hmx
    refine c_skip ?_
    refine hK1 _ _ _ ?_
    clear hK1 K1
    refine c_seq (fun K4 hK4 => ?_)
    refine c_seq (fun K5 hK5 => ?_)
    refine c_region ?_
    refine r_y rfl rfl (y_assign rfl) ?_
    refine r_nil ?_
    refine hK5 _ _ _ ?_
    clear hK5 K5
    refine c_block ?_
    refine c_loopx (α := Nat) (fun i => [(0, s1.v), (1, s2.v), (5, .int .i64 (i : Nat))]) (fun i => H) (fun k0 i m1 => (i + k0 = s1.n ∧ (l1.map (·.1)).take i = (l2.map (·.1)).take i) ∧ m.le m1 ∧ (FzR m1 s1 l1) ∧ (FzR m1 s2 l2)) (s1.n) 0 ⟨rfl, rfl, rfl, trivial⟩ rfl ⟨⟨by omega, rfl⟩, hm, hz1, hz2⟩ ?_
    clear hm hz1 hz2
    rintro k0 i m1 ⟨hi0, hm, hz1, hz2⟩
    obtain ⟨hi, hinv⟩ := hi0
    refine c_seq (fun K6 hK6 => ?_)
    refine c_seq (fun K7 hK7 => ?_)
    refine c_region ?_
    refine r_y rfl rfl (y_move rfl) ?_
    refine r_y rfl rfl (y_move rfl) ?_
    refine r_y rfl rfl (y_len tl33 rfl) ?_
    refine r_y rfl rfl (y_iop rfl rfl rfl) ?_
    refine r_nil ?_
    refine hK7 _ _ _ ?_
    clear hK7 K7
    refine c_cond rfl (fun h1 => ?_) (fun h1 => ?_)
    ·
      have hlt1 : i < s1.n := by simp at h1; omega
      have hlt2 : i < s2.n := by omega
      obtain ⟨x1, hx1⟩ := get_of_lt (l := l1) (k := i) (by omega)
      obtain ⟨x2, hx2⟩ := get_of_lt (l := l2) (k := i) (by omega)
      have hy1 : (l1.map (·.1))[i]? = some x1.1 := map_get hx1
      have hy2 : (l2.map (·.1))[i]? = some x2.1 := map_get hx2
      refine c_skip ?_
      refine hK6 _ _ _ ?_
      clear hK6 K6
      refine c_seq (fun K8 hK8 => ?_)
      refine c_block ?_
      refine c_seq (fun K9 hK9 => ?_)
      refine c_draw ([]) (by kernel_rfl) (fun hg => ?_)
      have hz1_g := hz1
      have hz2_g := hz2
      refine g_y (i := 0) (listed' := #[true, false, false, false, false, false, false, false, false, false]) rfl (by kernel_rfl) (by kernel_rfl) (by kernel_rfl) (by kernel_rfl) rfl rfl hg alln (fun m' H' hm' hX' => y_move rfl) ?_
      refine g_y (i := 1) (listed' := #[true, true, false, false, false, false, false, false, false, false]) rfl (by kernel_rfl) (by kernel_rfl) (by kernel_rfl) (by kernel_rfl) rfl rfl hg alln (fun m' H' hm' hX' => y_move rfl) ?_
      refine g_y (i := 2) (listed' := #[true, true, true, false, false, false, false, false, false, false]) rfl (by kernel_rfl) (by kernel_rfl) (by kernel_rfl) (by kernel_rfl) rfl rfl hg alln (fun m' H' hm' hX' => y_indexAddr_slice rfl rfl tl33 hlt1 (At.fz (hz1_g.fz.mono hm') hlt1)) ?_
      refine g_y (i := 3) (listed' := #[true, true, true, true, false, false, false, false, false, false]) rfl (by kernel_rfl) (by kernel_rfl) (by kernel_rfl) (by kernel_rfl) rfl rfl hg alln (fun m' H' hm' hX' => y_load_a rfl ts50 (RdA.fz0 (hz1_g.fz.mono hm') (map_get hx1))) ?_
      refine g_y (i := 4) (listed' := #[true, true, true, true, true, false, false, false, false, false]) rfl (by kernel_rfl) (by kernel_rfl) (by kernel_rfl) (by kernel_rfl) rfl rfl hg alln (fun m' H' hm' hX' => y_move rfl) ?_
      refine g_y (i := 5) (listed' := #[true, true, true, true, true, true, false, false, false, false]) rfl (by kernel_rfl) (by kernel_rfl) (by kernel_rfl) (by kernel_rfl) rfl rfl hg alln (fun m' H' hm' hX' => y_move rfl) ?_
      refine g_y (i := 6) (listed' := #[true, true, true, true, true, true, true, false, false, false]) rfl (by kernel_rfl) (by kernel_rfl) (by kernel_rfl) (by kernel_rfl) rfl rfl hg alln (fun m' H' hm' hX' => y_indexAddr_slice rfl rfl tl33 hlt2 (At.fz (hz2_g.fz.mono hm') hlt2)) ?_
      refine g_y (i := 7) (listed' := #[true, true, true, true, true, true, true, true, false, false]) rfl (by kernel_rfl) (by kernel_rfl) (by kernel_rfl) (by kernel_rfl) rfl rfl hg alln (fun m' H' hm' hX' => y_load_a rfl ts50 (RdA.fz0 (hz2_g.fz.mono hm') (map_get hx2))) ?_
      refine g_s (i := 8) (listed' := #[true, true, true, true, true, true, true, true, true, false]) rfl (by kernel_rfl) (by kernel_rfl) rfl ?_
      refine s_call0 rfl Try.call89 rfl (rEqual_w x1.1 x2.1 x1.2 x2.2 _ _ (hz1.acts x1 (List.mem_of_getElem? hx1)).1 (hz2.acts x2 (List.mem_of_getElem? hx2)).1) ?_
      rintro _ m2 _ hm2 ⟨rfl, rfl⟩
      replace hm := hm.trans hm2
      refine ⟨⟨hg.trans hm2, alln⟩, ?_⟩
      replace hg := hg.trans hm2
      replace hz1 := hz1.mono hm2
      replace hz2 := hz2.mono hm2
      clear hm2
      refine g_y (i := 9) (listed' := #[true, true, true, true, true, true, true, true, true, true]) rfl (by kernel_rfl) (by kernel_rfl) (by kernel_rfl) (by kernel_rfl) rfl rfl hg alln (fun m' H' hm' hX' => y_not rfl) ?_
      refine g_done (by kernel_rfl) ?_
      clear hg hz1_g hz2_g
      refine hK9 _ _ _ ?_
      clear hK9 K9
      refine c_cond rfl (fun h2 => ?_) (fun h2 => ?_)
      ·
        refine c_seq (fun K10 hK10 => ?_)
        refine c_region ?_
        refine r_y rfl rfl (y_assign rfl) ?_
        refine r_nil ?_
        refine hK10 _ _ _ ?_
        clear hK10 K10
        refine c_ret ?_
        refine e_ret 0 hm (res_tmps rfl) ?_
        refine ⟨congrArg Value.bool ?_, rfl⟩
        refine (decide_eq_false ?_).symm
        intro e
        rw [e, hy2] at hy1
        simp at hy1 h2
        exact h2 hy1.symm
      ·
        refine c_skip ?_
        refine hK8 _ _ _ ?_
        clear hK8 K8
        refine c_region ?_
        refine r_y rfl rfl (y_move rfl) ?_
        first | refine r_y rfl rfl (y_inc rfl (by omega)) ?_ | refine r_y rfl rfl (y_iop rfl rfl rfl) ?_
        refine r_y rfl rfl (y_assign rfl) ?_
        refine r_nil ?_
        exact ⟨k0 - 1, (i + 1), by omega, ⟨rfl, rfl, rfl, trivial⟩, rfl, ⟨by omega, by rw [List.take_add_one, List.take_add_one, hinv, hy1, hy2]; simp at h2; rw [h2]⟩, hm, hz1, hz2⟩
    ·
      refine c_exit ?_
      refine hK4 _ _ _ ?_
      clear hK6 K6 hK4 K4
      refine c_seq (fun K11 hK11 => ?_)
      refine c_region ?_
      refine r_y rfl rfl (y_assign rfl) ?_
      refine r_nil ?_
      refine hK11 _ _ _ ?_
      clear hK11 K11
      refine c_ret ?_
      refine e_ret 0 hm (res_tmps rfl) ?_
      refine ⟨congrArg Value.bool ?_, rfl⟩
      have hie : i = s1.n := by simp at h1; omega
      refine (decide_eq_true ?_).symm
      rw [List.take_of_length_le (by simp; omega), List.take_of_length_le (by simp; omega)] at hinv
      exact hinv
end Go.Aw
namespace Go.Aw
open Go Go.Proofs
set_option maxRecDepth 100000 in
theorem ruleKey_w (a b : RuleD) (s1 s2 : Sl) (m : Snap) (H : Hp) : Fn Try.prog 125 [.agg (encRule a s1).toArray, .agg (encRule b s2).toArray] m H (fun v _ H' => v = .bool (decide (a.m = b.m) && (a.prio == b.prio)) ∧ H' = H) := by
  have hm : m.le m := Snap.le.refl m
  refine fn_end Try.func125 rfl rfl rfl ?_
  refine c_seq (fun K0 hK0 => ?_)
  refine c_region ?_
  refine r_s rfl ?_
  refine s_box_a rfl rfl (fun b0 => ?_)
  refine r_s rfl ?_
  refine s_box_a rfl rfl (fun b1 => ?_)
  refine r_y rfl rfl (y_assign rfl) ?_
  refine r_nil ?_
  refine hK0 _ _ _ ?_
  clear hK0 K0
  refine c_seq (fun K1 hK1 => ?_)
  refine c_region ?_
  refine r_y rfl rfl (y_fieldAddr rfl At.lit fo50_0 rfl) ?_
  refine r_y rfl rfl (y_load_a (cs := encCube a.m) rfl ts29 (RdA.blk (i := 1) rfl rfl)) ?_
  refine r_y rfl rfl (y_fieldAddr rfl At.lit fo50_0 rfl) ?_
  refine r_y rfl rfl (y_load_a (cs := encCube b.m) rfl ts29 (RdA.blk (i := 0) rfl rfl)) ?_
  refine r_y rfl rfl (y_eqagg (dd := 6)  rfl rfl en29 ia29 rfl Try.eqGuardType29 rfl (alike_cube a.m b.m)) ?_
  refine r_y rfl rfl (y_move rfl) ?_
  refine r_split (j := 5) rfl (fun h0 => ?_) (fun h0 => ?_)
  ·
    refine r_yg rfl h0 rfl (y_fieldAddr rfl At.lit fo50_1 rfl) ?_
    refine r_yg rfl h0 rfl (y_load_s rfl ts3 (RdS.blk (i := 1) rfl rfl)) ?_
    refine r_yg rfl h0 rfl (y_fieldAddr rfl At.lit fo50_1 rfl) ?_
    refine r_yg rfl h0 rfl (y_load_s rfl ts3 (RdS.blk (i := 0) rfl rfl)) ?_
    refine r_yg rfl h0 rfl (y_iop rfl rfl rfl) ?_
    refine r_y rfl rfl (y_pickt rfl h0 rfl) ?_
    refine r_y rfl rfl (y_assign rfl) ?_
    refine r_nil ?_
    refine hK1 _ _ _ ?_
    clear hK1 K1
    refine c_ret ?_
    refine e_ret 2 hm (res_tmps rfl) ?_
    refine ⟨congrArg Value.bool ?_, rfl⟩
    first | (simp_all [ceq_cube]; done) | (simp_all [ceq_cube]; omega) | (simp_all [ceq_cube]; intros; omega) | (rw [Bool.eq_iff_iff]; simp_all [ceq_cube]; done)
  ·
    refine r_no' rfl rfl h0 ?_
    refine r_no' rfl rfl h0 ?_
    refine r_no' rfl rfl h0 ?_
    refine r_no' rfl rfl h0 ?_
    refine r_no' rfl rfl h0 ?_
    refine r_y rfl rfl (y_pickf rfl h0 rfl) ?_
    refine r_y rfl rfl (y_assign rfl) ?_
    refine r_nil ?_
    refine hK1 _ _ _ ?_
    clear hK1 K1
    refine c_ret ?_
    refine e_ret 2 hm (res_tmps rfl) ?_
    refine ⟨congrArg Value.bool ?_, rfl⟩
    first | (simp_all [ceq_cube]; done) | (simp_all [ceq_cube]; omega) | (simp_all [ceq_cube]; intros; omega) | (rw [Bool.eq_iff_iff]; simp_all [ceq_cube]; done)
end Go.Aw
namespace Go.Aw
open Go Go.Proofs
set_option maxRecDepth 100000 in
theorem clipA_w (a : Option Addr) (n cap : Nat) (m : Snap) (H : Hp) (hle : n ≤ cap) : Fn Try.prog 83 [.slice a n cap] m H (fun v _ H' => v = .slice a n n ∧ H' = H) := by
  have hm : m.le m := Snap.le.refl m
  refine fn_end Try.func83 rfl rfl rfl ?_
  refine c_seq (fun K0 hK0 => ?_)
  refine c_region ?_
  refine r_y rfl rfl (y_assign rfl) ?_
  refine r_nil ?_
  refine hK0 _ _ _ ?_
  clear hK0 K0
  refine c_seq (fun K1 hK1 => ?_)
  refine c_region ?_
  refine r_y rfl rfl (y_move rfl) ?_
  refine r_y rfl rfl (y_move rfl) ?_
  refine r_y rfl rfl (y_len tl30 rfl) ?_
  refine r_y rfl rfl (y_move rfl) ?_
  refine r_y rfl rfl (y_len tl30 rfl) ?_
  refine r_y rfl rfl (y_clip rfl tl30 rfl rfl hle) ?_
  refine r_y rfl rfl (y_assign rfl) ?_
  refine r_nil ?_
  refine hK1 _ _ _ ?_
  clear hK1 K1
  refine c_ret ?_
  refine e_ret 0 hm (res_tmps rfl) ?_
  exact ⟨rfl, rfl⟩
set_option maxRecDepth 100000 in
theorem clipR_w (a : Option Addr) (n cap : Nat) (m : Snap) (H : Hp) (hle : n ≤ cap) : Fn Try.prog 72 [.slice a n cap] m H (fun v _ H' => v = .slice a n n ∧ H' = H) := by
  have hm : m.le m := Snap.le.refl m
  refine fn_end Try.func72 rfl rfl rfl ?_
  refine c_seq (fun K0 hK0 => ?_)
  refine c_region ?_
  refine r_y rfl rfl (y_assign rfl) ?_
  refine r_nil ?_
  refine hK0 _ _ _ ?_
  clear hK0 K0
  refine c_seq (fun K1 hK1 => ?_)
  refine c_region ?_
  refine r_y rfl rfl (y_move rfl) ?_
  refine r_y rfl rfl (y_move rfl) ?_
  refine r_y rfl rfl (y_len tl33 rfl) ?_
  refine r_y rfl rfl (y_move rfl) ?_
  refine r_y rfl rfl (y_len tl33 rfl) ?_
  refine r_y rfl rfl (y_clip rfl tl33 rfl rfl hle) ?_
  refine r_y rfl rfl (y_assign rfl) ?_
  refine r_nil ?_
  refine hK1 _ _ _ ?_
  clear hK1 K1
  refine c_ret ?_
  refine e_ret 0 hm (res_tmps rfl) ?_
  exact ⟨rfl, rfl⟩
set_option maxRecDepth 100000 in
theorem cloneA_w (s : Sl) (l : List ActD) (m : Snap) (H : Hp) (hz : FzA m s l) (hok : s.ok) (hfit : l.length ≤ 4398046511103) : Fn Try.prog 84 [s.v] m H (fun v m' H' => ∃ s' : Sl, v = s'.v ∧ s'.n = l.length ∧ H' = .vec s'.a s'.n s'.cap 53 4 (l.map encAct) :: H) := by
  have hl := hz.lenA
  have hm : m.le m := Snap.le.refl m
  refine fn_end Try.func84 rfl rfl rfl ?_
  refine c_seq (fun K0 hK0 => ?_)
  refine c_region ?_
  refine r_y rfl rfl (y_assign rfl) ?_
  refine r_nil ?_
  refine hK0 _ _ _ ?_
  clear hK0 K0
  refine c_seq (fun K1 hK1 => ?_)
  refine c_seq (fun K2 hK2 => ?_)
  refine c_region ?_
  refine r_y rfl rfl (y_move rfl) ?_
  refine r_y rfl rfl (y_eqnil Try.underlying30 rfl) ?_
  refine r_nil ?_
  refine hK2 _ _ _ ?_
  clear hK2 K2
  refine c_cond rfl (fun h0 => ?_) (fun h0 => ?_)
  ·
    refine c_seq (fun K3 hK3 => ?_)
    refine c_region ?_
    refine r_nilvec 53 4 ?_
    refine r_y rfl rfl (y_assign rfl) ?_
    refine r_nil ?_
    refine hK3 _ _ _ ?_
    clear hK3 K3
    refine c_ret ?_
    refine e_ret 0 hm (res_tmps rfl) ?_
    have hnil : s.a = none := by simpa using h0
    have h0c := hok hnil
    have hle := hz.le
    obtain rfl : l = [] := List.eq_nil_of_length_eq_zero (by omega)
    exact ⟨zSl, rfl, rfl, rfl⟩
  ·
    refine c_skip ?_
    refine hK1 _ _ _ ?_
    clear hK1 K1
    refine c_seq (fun K4 hK4 => ?_)
    refine c_region ?_
    refine r_s rfl ?_
    refine s_buildSlice (cs := []) (e := 53) rfl rfl (fun _ => by kernel_rfl) (fun b0 => ?_)
    refine r_toVec (i := 0) (s := 4) (k := 0) [] rfl rfl (fun c h => by cases h) rfl (Nat.zero_le _) ?_
    refine r_y rfl rfl (y_move rfl) ?_
    refine r_s rfl ?_
    refine s_append rfl rfl rfl tl30 zo53 tb53 (i := 0) rfl (Src.fz hz (one_acts l) hok) (by omega) (by unfold maxLen; omega) (fun a1 c1 => ?_)
    refine r_y rfl rfl (y_assign rfl) ?_
    refine r_nil ?_
    refine hK4 _ _ _ ?_
    clear hK4 K4
    refine c_ret ?_
    refine e_ret 0 hm (res_tmps rfl) ?_
    exact ⟨⟨a1, 0 + s.n, c1⟩, rfl, by simp [hl], rfl⟩
set_option maxRecDepth 100000 in
theorem copied_w (r : RuleD) (s : Sl) (m : Snap) (H : Hp) (hz : FzA m s r.acts) (hok : s.ok) (hfit : r.acts.length ≤ 4398046511103) : Fn Try.prog 71 [.agg (encRule r s).toArray] m H (fun v m' H' => ∃ o : OwnR, v = .agg o.enc.toArray ∧ o.r = r ∧ o.ok ∧ H' = o.it :: H) := by
  have hm : m.le m := Snap.le.refl m
  refine fn_end Try.func71 rfl rfl rfl ?_
  refine c_seq (fun K0 hK0 => ?_)
  refine c_region ?_
  refine r_s rfl ?_
  refine s_box_a rfl rfl (fun b0 => ?_)
  refine r_s rfl ?_
  refine s_alloc rfl tz50 (fun b1 => ?_)
  refine r_nil ?_
  refine hK0 _ _ _ ?_
  clear hK0 K0
  refine c_seq (fun K1 hK1 => ?_)
  refine c_region ?_
  refine r_y rfl rfl (y_fieldAddr rfl At.lit fo50_2 rfl) ?_
  refine r_y rfl rfl (y_load_s rfl ts30 (RdS.blk (i := 1) rfl rfl)) ?_
  refine r_s rfl ?_
  refine s_call0 rfl Try.call84 rfl (cloneA_w s r.acts _ _ hz hok hfit) ?_
  rintro _ m2 _ hm2 ⟨sc, rfl, hsc, rfl⟩
  replace hm := hm.trans hm2
  replace hz := hz.mono hm2
  clear hm2
  refine r_vecfacts (i := 0) rfl (fun hle _ _ _ _ => ?_)
  refine r_s rfl ?_
  refine s_call0 rfl Try.call83 rfl (clipA_w sc.a sc.n sc.cap _ _ hle) ?_
  rintro _ m2 _ hm2 ⟨rfl, rfl⟩
  replace hm := hm.trans hm2
  replace hz := hz.mono hm2
  clear hm2
  refine r_y rfl rfl (y_fieldAddr rfl At.lit fo50_2 rfl) ?_
  refine r_s rfl ?_
  refine s_store rfl rfl rfl ts30 rfl rfl (by simp [Value.oneCell', wv, Sl.v]) (i := 2) rfl rfl ?_
  refine r_nil ?_
  refine hK1 _ _ _ ?_
  clear hK1 K1
  refine c_seq (fun K2 hK2 => ?_)
  refine c_region ?_
  refine r_y rfl rfl (y_load_a (cs := encRule r ⟨sc.a, sc.n, sc.n⟩) rfl ts50 (RdA.blk (i := 2) rfl rfl)) ?_
  refine r_s rfl ?_
  refine s_store (us := encRule r ⟨sc.a, sc.n, sc.n⟩) rfl rfl rfl ts50 rfl rfl (one_rule _ _) (i := 1) rfl rfl ?_
  refine r_nil ?_
  refine hK2 _ _ _ ?_
  clear hK2 K2
  refine c_ret ?_
  refine e_retf [0, 1, 2] 2 hm (res_cell_a rfl ts50 (RdA.blk (i := 1) rfl rfl)) ?_
  exact ⟨⟨r, ⟨sc.a, sc.n, sc.n⟩, sc.cap⟩, rfl, rfl, rfl, rfl⟩
set_option maxRecDepth 100000 in
theorem ruleCopy_w (s1 : Sl) (l1 : List (RuleD × Sl)) (m : Snap) (H : Hp) (hz : FzR m s1 l1) (hfa : ∀ p ∈ l1, p.1.acts.length ≤ 4398046511103) (hfit : l1.length ≤ 1000000) : Fn Try.prog 27 [s1.v] m H (fun v m' H' => ∃ (a : Option Addr) (n cap : Nat) (lo : List OwnR), v = .slice a n n ∧ n = lo.length ∧ rulesO lo = l1.map (·.1) ∧ (∀ o ∈ lo, o.ok) ∧ H' = rowO a n cap lo :: (itsO lo ++ H)) := by
  have hl := hz.len
  have hmx := hz.fz.max
  have hle0 := hz.fz.le
  unfold maxLen at hmx
  have hm : m.le m := Snap.le.refl m
  refine fn_end Try.func27 rfl rfl rfl ?_
  refine c_seq (fun K0 hK0 => ?_)
  refine c_region ?_
  refine r_y rfl rfl (y_assign rfl) ?_
  refine r_nil ?_
  refine hK0 _ _ _ ?_
  clear hK0 K0
  refine c_seq (fun K1 hK1 => ?_)
  refine c_region ?_
  refine r_y rfl rfl (y_assign rfl) ?_
  refine r_nil ?_
  refine hK1 _ _ _ ?_
  clear hK1 K1
  refine c_seq (fun K2 hK2 => ?_)
  refine c_seq (fun K3 hK3 => ?_)
  refine c_region ?_
  refine r_nilvec 50 32 ?_
  refine r_y rfl rfl (y_move rfl) ?_
  refine r_y rfl rfl (y_len tl33 rfl) ?_
  refine r_y rfl rfl (y_move rfl) ?_
  refine r_nil ?_
  refine hK3 _ _ _ ?_
  clear hK3 K3
  refine c_block ?_
  refine c_loopx (α := Nat × List OwnR × Sl) (fun vv => match vv with | (i, lo, sv) => [(3, sv.v), (6, s1.v), (7, .int .i64 (s1.n : Nat)), (8, .int .i64 (i : Nat))]) (fun vv => match vv with | (i, lo, sv) => rowO sv.a sv.n sv.cap lo :: (itsO lo ++ H)) (fun k0 vv m1 => match vv with | (i, lo, sv) => (i + k0 = s1.n ∧ sv.n = i ∧ rulesO lo = (l1.map (·.1)).take i ∧ (∀ o ∈ lo, o.ok)) ∧ m.le m1 ∧ (FzR m1 s1 l1)) (s1.n) (0, [], zSl) ⟨rfl, rfl, rfl, rfl, trivial⟩ rfl ⟨⟨by omega, rfl, rfl, fun o ho => by cases ho⟩, hm, hz⟩ ?_
  clear hm hz
  rintro k0 ⟨i, lo, sv⟩ m1 ⟨hi0, hm, hz⟩
  obtain ⟨hi, hsn, hro, hoo0⟩ := hi0
  refine c_seq (fun K4 hK4 => ?_)
  refine c_region ?_
  refine r_y rfl rfl (y_iop rfl rfl rfl) ?_
  refine r_nil ?_
  refine hK4 _ _ _ ?_
  clear hK4 K4
  refine c_seq (fun K5 hK5 => ?_)
  refine c_cond rfl (fun h0 => ?_) (fun h0 => ?_)
  ·
    have hlt : i < s1.n := by simp at h0; omega
    obtain ⟨x, hx⟩ := get_of_lt (l := l1) (k := i) (by omega)
    refine c_skip ?_
    refine hK5 _ _ _ ?_
    clear hK5 K5
    refine c_seq (fun K6 hK6 => ?_)
    refine c_block ?_
    refine c_seq (fun K7 hK7 => ?_)
    refine c_region ?_
    refine r_y rfl rfl (y_indexAddr_slice rfl rfl tl33 hlt (At.fz hz.fz hlt)) ?_
    refine r_y rfl rfl (y_load_a rfl ts50 (RdA.fz0 hz.fz (map_get hx))) ?_
    refine r_s rfl ?_
    refine s_alloc rfl tz50 (fun b0 => ?_)
    refine r_s rfl ?_
    refine s_store (us := encRule x.1 x.2) rfl rfl rfl ts50 rfl rfl (one_rule _ _) (i := 0) rfl rfl ?_
    refine r_nil ?_
    refine hK7 _ _ _ ?_
    clear hK7 K7
    refine c_region ?_
    refine r_y rfl rfl (y_move rfl) ?_
    refine r_y rfl rfl (y_load_a (cs := encRule x.1 x.2) rfl ts50 (RdA.blk (i := 0) rfl rfl)) ?_
    refine r_s rfl ?_
    refine s_call0 rfl Try.call71 rfl (copied_w x.1 x.2 _ _ (hz.acts x (List.mem_of_getElem? hx)).1 (hz.acts x (List.mem_of_getElem? hx)).2 (hfa x (List.mem_of_getElem? hx))) ?_
    rintro _ m2 _ hm2 ⟨o, rfl, hor, hoo, rfl⟩
    replace hm := hm.trans hm2
    replace hz := hz.mono hm2
    clear hm2
    refine r_s rfl ?_
    refine s_buildSlice (cs := (o.enc)) (e := 50) rfl rfl (fun _ => by kernel_rfl) (fun b1 => ?_)
    refine r_s rfl ?_
    refine s_append rfl rfl rfl tl33 zo50 tb50 (i := 3) rfl (Src.one' (i := 0) rfl rfl (one_own _)) (by omega) (by unfold maxLen; omega) (fun a1 c1 => ?_)
    refine r_del 0 rfl ?_
    refine r_y rfl rfl (y_assign rfl) ?_
    refine r_nil ?_
    refine hK6 _ _ _ ?_
    clear hK6 K6
    refine c_region ?_
    refine r_del 1 rfl ?_
    refine r_perm _ (perm_snoc _ lo o H) ?_
    first | refine r_y rfl rfl (y_inc rfl (by omega)) ?_ | refine r_y rfl rfl (y_iop rfl rfl rfl) ?_
    refine r_y rfl rfl (y_move rfl) ?_
    refine r_nil ?_
    exact ⟨k0 - 1, (i + 1, lo ++ [o], ⟨a1, sv.n + 1, c1⟩), by omega, ⟨rfl, rfl, rfl, rfl, trivial⟩, (by simp only [rowO, List.map_append]; rfl), ⟨by omega, by simp [hsn], by rw [rulesO_snoc, hro, List.take_add_one, map_get hx, hor]; rfl, ok_snoc hoo0 hoo⟩, hm, hz⟩
  ·
    refine c_exit ?_
    refine hK2 _ _ _ ?_
    clear hK5 K5 hK2 K2
    refine c_seq (fun K8 hK8 => ?_)
    refine c_region ?_
    refine r_y rfl rfl (y_move rfl) ?_
    refine r_vecfacts (i := 0) rfl (fun hle _ _ _ _ => ?_)
    refine r_s rfl ?_
    refine s_call0 rfl Try.call72 rfl (clipR_w sv.a sv.n sv.cap _ _ hle) ?_
    rintro _ m2 _ hm2 ⟨rfl, rfl⟩
    replace hm := hm.trans hm2
    replace hz := hz.mono hm2
    clear hm2
    refine r_y rfl rfl (y_assign rfl) ?_
    refine r_nil ?_
    refine hK8 _ _ _ ?_
    clear hK8 K8
    refine c_ret ?_
    refine e_ret 0 hm (res_tmps rfl) ?_
    obtain rfl : i = s1.n := by simp at h0; omega
    have hrl : rulesO lo = l1.map (·.1) := by rw [hro]; exact List.take_of_length_le (by simp; omega)
    exact ⟨sv.a, sv.n, sv.cap, lo, rfl, by have := congrArg List.length hrl; simp [rulesO] at this; omega, hrl, hoo0, rfl⟩
end Go.Aw
namespace Go.Aw
open Go Go.Proofs
set_option maxRecDepth 100000 in
theorem bsearch_w (a : Option Addr) (n cap : Nat) (lo : List OwnR) (r : RuleD) (sr : Sl) (m : Snap) (H : Hp) (hn : n = lo.length) (hnb : n ≤ 1000000) (hmono : MonoR lo r) : Fn Try.prog 73 [.slice a n cap, .agg (encRule r sr).toArray, .func (.func 74) #[] #[]] m (rowO a n cap lo :: H) (fun v m' H' => ∃ (p : Nat) (f : Bool), v = .tuple [i64 (p : Int), .bool f].toArray ∧ p ≤ n ∧ (LowR lo r p p) ∧ (f = true ↔ ∃ o, lo[p]? = some o ∧ ruleCmp o.r r = 0) ∧ H' = rowO a n cap lo :: H) := by
  have hm : m.le m := Snap.le.refl m
  refine fn_end Try.func73 rfl rfl rfl ?_
  refine c_seq (fun K0 hK0 => ?_)
  refine c_region ?_
  refine r_s rfl ?_
  refine s_box_a rfl rfl (fun b0 => ?_)
  refine r_y rfl rfl (y_assign rfl) ?_
  refine r_y rfl rfl (y_assign rfl) ?_
  refine r_nil ?_
  refine hK0 _ _ _ ?_
  clear hK0 K0
  refine c_seq (fun K1 hK1 => ?_)
  refine c_region ?_
  refine r_y rfl rfl (y_move rfl) ?_
  refine r_y rfl rfl (y_len tl33 rfl) ?_
  refine r_y rfl rfl (y_assign rfl) ?_
  refine r_nil ?_
  refine hK1 _ _ _ ?_
  clear hK1 K1
  refine c_seq (fun K2 hK2 => ?_)
  refine c_region ?_
  refine r_y rfl rfl (y_move rfl) ?_
  refine r_y rfl rfl (y_assign rfl) ?_
  refine r_y rfl rfl (y_assign rfl) ?_
  refine r_nil ?_
  refine hK2 _ _ _ ?_
  clear hK2 K2
  refine c_seq (fun K3 hK3 => ?_)
  refine c_block ?_
  refine c_loopx (α := Nat × Nat) (fun vv => match vv with | (i, j) => [(0, .slice a n cap), (2, .func (.func 74) #[] #[]), (4, .pointer (some ⟨b0, 0, none⟩)), (8, .int .i64 (n : Nat)), (9, .int .i64 (i : Nat)), (10, .int .i64 (j : Nat))]) (fun vv => match vv with | (i, j) => .blk b0 (.cells (encRule r sr).toArray 50) :: rowO a n cap lo :: H) (fun k0 vv m1 => match vv with | (i, j) => (i ≤ j ∧ j ≤ n ∧ j - i ≤ k0 ∧ LowR lo r i j) ∧ m.le m1) (n) (0, n) ⟨rfl, rfl, rfl, rfl, rfl, rfl, trivial⟩ rfl ⟨⟨by omega, by omega, by omega, LowR.start hn⟩, hm⟩ ?_
  clear hm
  rintro k0 ⟨i, j⟩ m1 ⟨hi0, hm⟩
  obtain ⟨hij0, hjn, hk, hlow⟩ := hi0
  refine c_seq (fun K4 hK4 => ?_)
  refine c_seq (fun K5 hK5 => ?_)
  refine c_region ?_
  refine r_y rfl rfl (y_move rfl) ?_
  refine r_y rfl rfl (y_move rfl) ?_
  refine r_y rfl rfl (y_iop rfl rfl rfl) ?_
  refine r_nil ?_
  refine hK5 _ _ _ ?_
  clear hK5 K5
  refine c_cond rfl (fun hij => ?_) (fun hij => ?_)
  ·
    have hij2 : i < j := by simp at hij; omega
    refine c_skip ?_
    refine hK4 _ _ _ ?_
    clear hK4 K4
    refine c_block ?_
    refine c_seq (fun K6 hK6 => ?_)
    refine c_region ?_
    refine r_y rfl rfl (y_move rfl) ?_
    refine r_y rfl rfl (y_move rfl) ?_
    refine r_y rfl rfl (y_addn rfl rfl (by omega)) ?_
    refine r_y rfl rfl (y_conv_in rfl un3 un158 (by omega)) ?_
    refine r_y rfl rfl (y_halfn rfl) ?_
    refine r_y rfl rfl (y_conv_un (k := .u64) rfl un158 un3 (by omega)) ?_
    refine r_y rfl rfl (y_assign rfl) ?_
    refine r_nil ?_
    refine hK6 _ _ _ ?_
    clear hK6 K6
    refine c_seq (fun K7 hK7 => ?_)
    refine c_draw ([rowO a n cap lo, .blk b0 (.cells (encRule r sr).toArray 50)]) (by kernel_rfl) (fun hg => ?_)
    have hlt : (i + j) / 2 < n := by omega
    obtain ⟨o, ho⟩ := get_of_lt (l := lo) (k := (i + j) / 2) (by omega)
    refine g_y (i := 0) (listed' := #[true, false, false, false, false, false, false, false]) rfl (by kernel_rfl) (by kernel_rfl) (by kernel_rfl) (by kernel_rfl) rfl rfl hg (allc (List.Mem.tail _ (List.Mem.head _)) (allc (List.Mem.head _) alln)) (fun m' H' hm' hX' => y_move rfl) ?_
    refine g_y (i := 1) (listed' := #[true, true, false, false, false, false, false, false]) rfl (by kernel_rfl) (by kernel_rfl) (by kernel_rfl) (by kernel_rfl) rfl rfl hg (allc (List.Mem.tail _ (List.Mem.head _)) (allc (List.Mem.head _) alln)) (fun m' H' hm' hX' => y_move rfl) ?_
    refine g_y (i := 2) (listed' := #[true, true, true, false, false, false, false, false]) rfl (by kernel_rfl) (by kernel_rfl) (by kernel_rfl) (by kernel_rfl) rfl rfl hg (allc (List.Mem.tail _ (List.Mem.head _)) (allc (List.Mem.head _) alln)) (fun m' H' hm' hX' => y_move rfl) ?_
    refine g_y (i := 3) (listed' := #[true, true, true, true, false, false, false, false]) rfl (by kernel_rfl) (by kernel_rfl) (by kernel_rfl) (by kernel_rfl) rfl rfl hg (allc (List.Mem.tail _ (List.Mem.head _)) (allc (List.Mem.head _) alln)) (fun m' H' hm' hX' => y_indexAddr_slice (k := ((i + j) / 2)) rfl rfl tl33 hlt (At.memv (hX' _ (List.Mem.head _)) hlt)) ?_
    refine g_y (i := 4) (listed' := #[true, true, true, true, true, false, false, false]) rfl (by kernel_rfl) (by kernel_rfl) (by kernel_rfl) (by kernel_rfl) rfl rfl hg (allc (List.Mem.tail _ (List.Mem.head _)) (allc (List.Mem.head _) alln)) (fun m' H' hm' hX' => y_load_a (cs := o.enc) rfl ts50 (RdA.memv0 (hX' _ (List.Mem.head _)) rfl (map_get ho) rfl)) ?_
    refine g_y (i := 5) (listed' := #[true, true, true, true, true, true, false, false]) rfl (by kernel_rfl) (by kernel_rfl) (by kernel_rfl) (by kernel_rfl) rfl rfl hg (allc (List.Mem.tail _ (List.Mem.head _)) (allc (List.Mem.head _) alln)) (fun m' H' hm' hX' => y_load_a (cs := encRule r sr) rfl ts50 (RdA.mem (hX' _ (List.Mem.tail _ (List.Mem.head _))) rfl)) ?_
    refine g_s (i := 6) (listed' := #[true, true, true, true, true, true, true, false]) rfl (by kernel_rfl) (by kernel_rfl) rfl ?_
    refine s_call rfl Try.call74 rfl rfl (ruleCmp_ok o.r r o.s sr _ _) ?_
    rintro _ m2 _ hm2 ⟨rfl, rfl⟩
    replace hm := hm.trans hm2
    refine ⟨⟨hg.trans hm2, (allc (List.Mem.tail _ (List.Mem.head _)) (allc (List.Mem.head _) alln))⟩, ?_⟩
    replace hg := hg.trans hm2
    clear hm2
    refine g_y (i := 7) (listed' := #[true, true, true, true, true, true, true, true]) rfl (by kernel_rfl) (by kernel_rfl) (by kernel_rfl) (by kernel_rfl) rfl rfl hg (allc (List.Mem.tail _ (List.Mem.head _)) (allc (List.Mem.head _) alln)) (fun m' H' hm' hX' => y_iop rfl rfl rfl) ?_
    refine g_done (by kernel_rfl) ?_
    clear hg
    refine hK7 _ _ _ ?_
    clear hK7 K7
    refine c_cond rfl (fun hc => ?_) (fun hc => ?_)
    ·
      refine c_region ?_
      refine r_y rfl rfl (y_move rfl) ?_
      first | refine r_y rfl rfl (y_inc rfl (by omega)) ?_ | refine r_y rfl rfl (y_iop rfl rfl rfl) ?_
      refine r_y rfl rfl (y_assign rfl) ?_
      refine r_nil ?_
      exact ⟨k0 - 1, ((i + j) / 2 + 1, j), by omega, ⟨rfl, rfl, rfl, rfl, rfl, rfl, trivial⟩, rfl, ⟨by omega, by omega, by omega, hlow.up hmono ho (by simpa using hc)⟩, hm⟩
    ·
      refine c_region ?_
      refine r_y rfl rfl (y_move rfl) ?_
      refine r_y rfl rfl (y_assign rfl) ?_
      refine r_nil ?_
      exact ⟨k0 - 1, (i, (i + j) / 2), by omega, ⟨rfl, rfl, rfl, rfl, rfl, rfl, trivial⟩, rfl, ⟨by omega, by omega, by omega, hlow.down hmono ho (by simpa using hc)⟩, hm⟩
  ·
    obtain rfl : i = j := by simp at hij; omega
    refine c_exit ?_
    refine hK3 _ _ _ ?_
    clear hK4 K4 hK3 K3
    refine c_seq (fun K8 hK8 => ?_)
    refine c_draw ([rowO a n cap lo, .blk b0 (.cells (encRule r sr).toArray 50)]) (by kernel_rfl) (fun hg => ?_)
    refine g_y (i := 0) (listed' := #[true, false, false, false, false, false, false, false, false, false, false, false, false, false, false, false]) rfl (by kernel_rfl) (by kernel_rfl) (by kernel_rfl) (by kernel_rfl) rfl rfl hg (allc (List.Mem.tail _ (List.Mem.head _)) (allc (List.Mem.head _) alln)) (fun m' H' hm' hX' => y_move rfl) ?_
    refine g_y (i := 1) (listed' := #[true, true, false, false, false, false, false, false, false, false, false, false, false, false, false, false]) rfl (by kernel_rfl) (by kernel_rfl) (by kernel_rfl) (by kernel_rfl) rfl rfl hg (allc (List.Mem.tail _ (List.Mem.head _)) (allc (List.Mem.head _) alln)) (fun m' H' hm' hX' => y_move rfl) ?_
    refine g_y (i := 2) (listed' := #[true, true, true, false, false, false, false, false, false, false, false, false, false, false, false, false]) rfl (by kernel_rfl) (by kernel_rfl) (by kernel_rfl) (by kernel_rfl) rfl rfl hg (allc (List.Mem.tail _ (List.Mem.head _)) (allc (List.Mem.head _) alln)) (fun m' H' hm' hX' => y_move rfl) ?_
    refine g_y (i := 3) (listed' := #[true, true, true, true, false, false, false, false, false, false, false, false, false, false, false, false]) rfl (by kernel_rfl) (by kernel_rfl) (by kernel_rfl) (by kernel_rfl) rfl rfl hg (allc (List.Mem.tail _ (List.Mem.head _)) (allc (List.Mem.head _) alln)) (fun m' H' hm' hX' => y_iop rfl rfl rfl) ?_
    refine g_y (i := 4) (listed' := #[true, true, true, true, true, false, false, false, false, false, false, false, false, false, false, false]) rfl (by kernel_rfl) (by kernel_rfl) (by kernel_rfl) (by kernel_rfl) rfl rfl hg (allc (List.Mem.tail _ (List.Mem.head _)) (allc (List.Mem.head _) alln)) (fun m' H' hm' hX' => y_move rfl) ?_
    refine g_split (j := 4) rfl (fun hin => ?_) (fun hin => ?_)
    ·
      have hlt2 : i < n := by simp at hin; omega
      obtain ⟨o2, ho2⟩ := get_of_lt (l := lo) (k := i) (by omega)
      refine g_yg (i := 5) (listed' := #[true, true, true, true, true, true, false, false, false, false, false, false, false, false, false, false]) rfl (by kernel_rfl) (by kernel_rfl) (by kernel_rfl) (by kernel_rfl) rfl rfl hin rfl hg (allc (List.Mem.tail _ (List.Mem.head _)) (allc (List.Mem.head _) alln)) (fun m' H' hm' hX' => y_move rfl) ?_
      refine g_yg (i := 6) (listed' := #[true, true, true, true, true, true, true, false, false, false, false, false, false, false, false, false]) rfl (by kernel_rfl) (by kernel_rfl) (by kernel_rfl) (by kernel_rfl) rfl rfl hin rfl hg (allc (List.Mem.tail _ (List.Mem.head _)) (allc (List.Mem.head _) alln)) (fun m' H' hm' hX' => y_move rfl) ?_
      refine g_yg (i := 7) (listed' := #[true, true, true, true, true, true, true, true, false, false, false, false, false, false, false, false]) rfl (by kernel_rfl) (by kernel_rfl) (by kernel_rfl) (by kernel_rfl) rfl rfl hin rfl hg (allc (List.Mem.tail _ (List.Mem.head _)) (allc (List.Mem.head _) alln)) (fun m' H' hm' hX' => y_move rfl) ?_
      refine g_yg (i := 8) (listed' := #[true, true, true, true, true, true, true, true, true, false, false, false, false, false, false, false]) rfl (by kernel_rfl) (by kernel_rfl) (by kernel_rfl) (by kernel_rfl) rfl rfl hin rfl hg (allc (List.Mem.tail _ (List.Mem.head _)) (allc (List.Mem.head _) alln)) (fun m' H' hm' hX' => y_indexAddr_slice (k := i) rfl rfl tl33 hlt2 (At.memv (hX' _ (List.Mem.head _)) hlt2)) ?_
      refine g_yg (i := 9) (listed' := #[true, true, true, true, true, true, true, true, true, true, false, false, false, false, false, false]) rfl (by kernel_rfl) (by kernel_rfl) (by kernel_rfl) (by kernel_rfl) rfl rfl hin rfl hg (allc (List.Mem.tail _ (List.Mem.head _)) (allc (List.Mem.head _) alln)) (fun m' H' hm' hX' => y_load_a (cs := o2.enc) rfl ts50 (RdA.memv0 (hX' _ (List.Mem.head _)) rfl (map_get ho2) rfl)) ?_
      refine g_yg (i := 10) (listed' := #[true, true, true, true, true, true, true, true, true, true, true, false, false, false, false, false]) rfl (by kernel_rfl) (by kernel_rfl) (by kernel_rfl) (by kernel_rfl) rfl rfl hin rfl hg (allc (List.Mem.tail _ (List.Mem.head _)) (allc (List.Mem.head _) alln)) (fun m' H' hm' hX' => y_load_a (cs := encRule r sr) rfl ts50 (RdA.mem (hX' _ (List.Mem.tail _ (List.Mem.head _))) rfl)) ?_
      refine g_sg (i := 11) (listed' := #[true, true, true, true, true, true, true, true, true, true, true, true, false, false, false, false]) rfl (by kernel_rfl) (by kernel_rfl) rfl rfl hin ?_
      refine s_call rfl Try.call74 rfl rfl (ruleCmp_ok o2.r r o2.s sr _ _) ?_
      rintro _ m2 _ hm2 ⟨rfl, rfl⟩
      replace hm := hm.trans hm2
      refine ⟨⟨hg.trans hm2, (allc (List.Mem.tail _ (List.Mem.head _)) (allc (List.Mem.head _) alln))⟩, ?_⟩
      replace hg := hg.trans hm2
      clear hm2
      refine g_yg (i := 12) (listed' := #[true, true, true, true, true, true, true, true, true, true, true, true, true, false, false, false]) rfl (by kernel_rfl) (by kernel_rfl) (by kernel_rfl) (by kernel_rfl) rfl rfl hin rfl hg (allc (List.Mem.tail _ (List.Mem.head _)) (allc (List.Mem.head _) alln)) (fun m' H' hm' hX' => y_iop rfl rfl rfl) ?_
      refine g_y (i := 13) (listed' := #[true, true, true, true, true, true, true, true, true, true, true, true, true, true, false, false]) rfl (by kernel_rfl) (by kernel_rfl) (by kernel_rfl) (by kernel_rfl) rfl rfl hg (allc (List.Mem.tail _ (List.Mem.head _)) (allc (List.Mem.head _) alln)) (fun m' H' hm' hX' => y_pickt rfl hin rfl) ?_
      refine g_y (i := 14) (listed' := #[true, true, true, true, true, true, true, true, true, true, true, true, true, true, true, false]) rfl (by kernel_rfl) (by kernel_rfl) (by kernel_rfl) (by kernel_rfl) rfl rfl hg (allc (List.Mem.tail _ (List.Mem.head _)) (allc (List.Mem.head _) alln)) (fun m' H' hm' hX' => y_assign rfl) ?_
      refine g_y (i := 15) (listed' := #[true, true, true, true, true, true, true, true, true, true, true, true, true, true, true, true]) rfl (by kernel_rfl) (by kernel_rfl) (by kernel_rfl) (by kernel_rfl) rfl rfl hg (allc (List.Mem.tail _ (List.Mem.head _)) (allc (List.Mem.head _) alln)) (fun m' H' hm' hX' => y_assign rfl) ?_
      refine g_done (by kernel_rfl) ?_
      clear hg
      refine hK8 _ _ _ ?_
      clear hK8 K8
      refine c_ret ?_
      refine e_ret 1 hm (res_tmps rfl) ?_
      first
        | exact ⟨i, _, rfl, hjn, hlow, bs_found ho2, rfl⟩
        | exact ⟨i, _, rfl, hjn, hlow, bs_none (by simp at hin; omega), rfl⟩
    ·
      refine g_no (i := 5) (listed' := #[true, true, true, true, true, true, false, false, false, false, false, false, false, false, false, false]) rfl (by kernel_rfl) (by kernel_rfl) (by kernel_rfl) (by kernel_rfl) rfl rfl hin rfl hg (allc (List.Mem.tail _ (List.Mem.head _)) (allc (List.Mem.head _) alln)) ?_
      refine g_no (i := 6) (listed' := #[true, true, true, true, true, true, true, false, false, false, false, false, false, false, false, false]) rfl (by kernel_rfl) (by kernel_rfl) (by kernel_rfl) (by kernel_rfl) rfl rfl hin rfl hg (allc (List.Mem.tail _ (List.Mem.head _)) (allc (List.Mem.head _) alln)) ?_
      refine g_no (i := 7) (listed' := #[true, true, true, true, true, true, true, true, false, false, false, false, false, false, false, false]) rfl (by kernel_rfl) (by kernel_rfl) (by kernel_rfl) (by kernel_rfl) rfl rfl hin rfl hg (allc (List.Mem.tail _ (List.Mem.head _)) (allc (List.Mem.head _) alln)) ?_
      refine g_no (i := 8) (listed' := #[true, true, true, true, true, true, true, true, true, false, false, false, false, false, false, false]) rfl (by kernel_rfl) (by kernel_rfl) (by kernel_rfl) (by kernel_rfl) rfl rfl hin rfl hg (allc (List.Mem.tail _ (List.Mem.head _)) (allc (List.Mem.head _) alln)) ?_
      refine g_no (i := 9) (listed' := #[true, true, true, true, true, true, true, true, true, true, false, false, false, false, false, false]) rfl (by kernel_rfl) (by kernel_rfl) (by kernel_rfl) (by kernel_rfl) rfl rfl hin rfl hg (allc (List.Mem.tail _ (List.Mem.head _)) (allc (List.Mem.head _) alln)) ?_
      refine g_no (i := 10) (listed' := #[true, true, true, true, true, true, true, true, true, true, true, false, false, false, false, false]) rfl (by kernel_rfl) (by kernel_rfl) (by kernel_rfl) (by kernel_rfl) rfl rfl hin rfl hg (allc (List.Mem.tail _ (List.Mem.head _)) (allc (List.Mem.head _) alln)) ?_
      refine g_no (i := 11) (listed' := #[true, true, true, true, true, true, true, true, true, true, true, true, false, false, false, false]) rfl (by kernel_rfl) (by kernel_rfl) (by kernel_rfl) (by kernel_rfl) rfl rfl hin rfl hg (allc (List.Mem.tail _ (List.Mem.head _)) (allc (List.Mem.head _) alln)) ?_
      refine g_no (i := 12) (listed' := #[true, true, true, true, true, true, true, true, true, true, true, true, true, false, false, false]) rfl (by kernel_rfl) (by kernel_rfl) (by kernel_rfl) (by kernel_rfl) rfl rfl hin rfl hg (allc (List.Mem.tail _ (List.Mem.head _)) (allc (List.Mem.head _) alln)) ?_
      refine g_y (i := 13) (listed' := #[true, true, true, true, true, true, true, true, true, true, true, true, true, true, false, false]) rfl (by kernel_rfl) (by kernel_rfl) (by kernel_rfl) (by kernel_rfl) rfl rfl hg (allc (List.Mem.tail _ (List.Mem.head _)) (allc (List.Mem.head _) alln)) (fun m' H' hm' hX' => y_pickf rfl hin rfl) ?_
      refine g_y (i := 14) (listed' := #[true, true, true, true, true, true, true, true, true, true, true, true, true, true, true, false]) rfl (by kernel_rfl) (by kernel_rfl) (by kernel_rfl) (by kernel_rfl) rfl rfl hg (allc (List.Mem.tail _ (List.Mem.head _)) (allc (List.Mem.head _) alln)) (fun m' H' hm' hX' => y_assign rfl) ?_
      refine g_y (i := 15) (listed' := #[true, true, true, true, true, true, true, true, true, true, true, true, true, true, true, true]) rfl (by kernel_rfl) (by kernel_rfl) (by kernel_rfl) (by kernel_rfl) rfl rfl hg (allc (List.Mem.tail _ (List.Mem.head _)) (allc (List.Mem.head _) alln)) (fun m' H' hm' hX' => y_assign rfl) ?_
      refine g_done (by kernel_rfl) ?_
      clear hg
      refine hK8 _ _ _ ?_
      clear hK8 K8
      refine c_ret ?_
      refine e_ret 1 hm (res_tmps rfl) ?_
      first
        | exact ⟨i, _, rfl, hjn, hlow, bs_found ho2, rfl⟩
        | exact ⟨i, _, rfl, hjn, hlow, bs_none (by simp at hin; omega), rfl⟩
end Go.Aw
namespace Go.Aw
open Go Go.Proofs
set_option maxRecDepth 100000 in
theorem insert_w (a : Option Addr) (n c p b : Nat) (lo : List OwnR) (o : OwnR) (m : Snap) (H : Hp) (hn : n = lo.length) (hnb : n ≤ 1000000) (hp : p ≤ n) : Fn Try.prog 75 [.slice a n c, .int .i64 (p : Nat), .slice (some ⟨b, 0, none⟩) 1 1] m (.blk b (.cells o.enc.toArray 50) :: rowO a n c lo :: H) (fun v m' H' => ∃ a' c', v = .slice a' (n + 1) c' ∧ H' = rowO a' (n + 1) c' (lo.take p ++ o :: lo.drop p) :: H) := by
  have hm : m.le m := Snap.le.refl m
  refine fn_end Try.func75 rfl rfl rfl ?_
  refine c_seq (fun K0 hK0 => ?_)
  refine c_region ?_
  refine r_y rfl rfl (y_assign rfl) ?_
  refine r_nil ?_
  refine hK0 _ _ _ ?_
  clear hK0 K0
  refine c_seq (fun K1 hK1 => ?_)
  refine c_region ?_
  refine r_vecfacts (i := 1) rfl (fun hle hcm hcl hce _ => ?_)
  unfold maxLen at hcm
  refine r_y rfl rfl (y_move rfl) ?_
  refine r_y rfl rfl (y_move rfl) ?_
  refine r_y rfl rfl (y_slice rfl tl33 (bnd_some (kd := .i64) (x := p) rfl) bnd_none hp hle) ?_
  refine r_nil ?_
  refine hK1 _ _ _ ?_
  clear hK1 K1
  refine c_seq (fun K2 hK2 => ?_)
  refine c_region ?_
  refine r_y rfl rfl (y_move rfl) ?_
  refine r_y rfl rfl (y_len tl33 rfl) ?_
  refine r_y rfl rfl (y_assign rfl) ?_
  refine r_nil ?_
  refine hK2 _ _ _ ?_
  clear hK2 K2
  refine c_seq (fun K3 hK3 => ?_)
  refine c_seq (fun K4 hK4 => ?_)
  refine c_region ?_
  refine r_y rfl rfl (y_move rfl) ?_
  refine r_y rfl rfl (y_iop rfl rfl rfl) ?_
  refine r_nil ?_
  refine hK4 _ _ _ ?_
  clear hK4 K4
  refine c_iff rfl rfl ?_
  refine c_skip ?_
  refine hK3 _ _ _ ?_
  clear hK3 K3
  refine c_seq (fun K5 hK5 => ?_)
  refine c_region ?_
  refine r_y rfl rfl (y_move rfl) ?_
  refine r_y rfl rfl (y_len tl33 rfl) ?_
  refine r_y rfl rfl (y_assign rfl) ?_
  refine r_nil ?_
  refine hK5 _ _ _ ?_
  clear hK5 K5
  refine c_seq (fun K6 hK6 => ?_)
  refine c_seq (fun K7 hK7 => ?_)
  refine c_region ?_
  refine r_y rfl rfl (y_move rfl) ?_
  refine r_y rfl rfl (y_move rfl) ?_
  refine r_y rfl rfl (y_iop rfl rfl rfl) ?_
  refine r_nil ?_
  refine hK7 _ _ _ ?_
  clear hK7 K7
  refine c_cond rfl (fun hpn => ?_) (fun hpn => ?_)
  ·
    refine c_seq (fun K8 hK8 => ?_)
    refine c_region ?_
    refine r_y rfl rfl (y_move rfl) ?_
    refine r_y rfl rfl (y_move rfl) ?_
    refine r_s rfl ?_
    refine s_append rfl rfl rfl tl33 zo50 tb50 (i := 1) rfl (Src.one' (i := 0) rfl rfl (one_own _)) (by omega) (by unfold maxLen; omega) (fun a1 c1 => ?_)
    refine r_del 0 rfl ?_
    refine r_y rfl rfl (y_assign rfl) ?_
    refine r_nil ?_
    refine hK8 _ _ _ ?_
    clear hK8 K8
    refine c_ret ?_
    refine e_ret 0 hm (res_tmps rfl) ?_
    obtain rfl : p = n := by simp at hpn; omega
    refine ⟨a1, c1, rfl, ?_⟩
    have e : (lo.take p ++ o :: lo.drop p).map OwnR.enc = lo.map OwnR.enc ++ [o.enc] := by rw [List.take_of_length_le (by omega), List.drop_eq_nil_of_le (by omega)]; simp
    simp only [rowO, e]; rfl
  ·
    refine c_skip ?_
    refine hK6 _ _ _ ?_
    clear hK6 K6
    refine c_seq (fun K9 hK9 => ?_)
    refine c_seq (fun K10 hK10 => ?_)
    refine c_region ?_
    refine r_y rfl rfl (y_move rfl) ?_
    refine r_y rfl rfl (y_move rfl) ?_
    refine r_y rfl rfl (y_addn rfl rfl (by omega)) ?_
    refine r_y rfl rfl (y_move rfl) ?_
    refine r_y rfl rfl (y_cap tl33 rfl) ?_
    refine r_y rfl rfl (y_iop rfl rfl rfl) ?_
    refine r_nil ?_
    refine hK10 _ _ _ ?_
    clear hK10 K10
    refine c_cond rfl (fun hgt => ?_) (fun hgt => ?_)
    ·
      refine c_seq (fun K11 hK11 => ?_)
      refine c_region ?_
      have hpn2 : p < n := lt_of_neq hp hpn
      refine r_y rfl rfl (y_move rfl) ?_
      refine r_y rfl rfl (y_move rfl) ?_
      refine r_y rfl rfl (y_slicel rfl tl33 (hi := p) rfl (by omega)) ?_
      refine r_y rfl rfl (y_move rfl) ?_
      refine r_y rfl rfl (y_move rfl) ?_
      refine r_y rfl rfl (y_addn rfl rfl (by omega)) ?_
      refine r_y rfl rfl (y_move rfl) ?_
      refine r_y rfl rfl (y_subn rfl rfl (by omega) (by omega)) ?_
      refine r_s rfl ?_
      refine s_appendz (kd := .i64) (k := p) (z := n + 1 - p) rfl rfl (fun _ => rfl) (fun _ => by cases a <;> simp) rfl tl33 un3 zo50 tb50 (i := 1) rfl (by omega) (by omega) (by simp at hgt; omega) (by omega) (by unfold maxLen; omega) (fun b2 c2 zs hz1 hz2 => ?_)
      refine r_y rfl rfl (y_assign rfl) ?_
      refine r_nil ?_
      refine hK11 _ _ _ ?_
      clear hK11 K11
      refine c_seq (fun K12 hK12 => ?_)
      refine c_region ?_
      refine r_vecfacts (i := 0) rfl (fun hle2 _ _ _ _ => ?_)
      refine r_y rfl rfl (y_move rfl) ?_
      refine r_y rfl rfl (y_move rfl) ?_
      refine r_y rfl rfl (y_slice rfl tl33 (bnd_some (kd := .i64) (x := p) rfl) bnd_none (by omega) hle2) ?_
      refine r_y rfl rfl (y_move rfl) ?_
      refine r_s rfl ?_
      refine s_copyv (k := p) (c := 1) rfl rfl rfl tl33 (i := 0) rfl (by omega) (by omega) (SrcW.of (Src.one' (i := 1) rfl rfl (one_own _))) (by omega) (by omega) ?_
      refine r_nil ?_
      refine hK12 _ _ _ ?_
      clear hK12 K12
      refine c_seq (fun K13 hK13 => ?_)
      refine c_draw ([]) (by kernel_rfl) (fun hg => ?_)
      refine g_y (i := 0) (listed' := #[true, false, false, false, false, false, false, false, false]) rfl (by kernel_rfl) (by kernel_rfl) (by kernel_rfl) (by kernel_rfl) rfl rfl hg alln (fun m' H' hm' hX' => y_move rfl) ?_
      refine g_y (i := 1) (listed' := #[true, true, false, false, false, false, false, false, false]) rfl (by kernel_rfl) (by kernel_rfl) (by kernel_rfl) (by kernel_rfl) rfl rfl hg alln (fun m' H' hm' hX' => y_move rfl) ?_
      refine g_y (i := 2) (listed' := #[true, true, true, false, false, false, false, false, false]) rfl (by kernel_rfl) (by kernel_rfl) (by kernel_rfl) (by kernel_rfl) rfl rfl hg alln (fun m' H' hm' hX' => y_move rfl) ?_
      refine g_y (i := 3) (listed' := #[true, true, true, true, false, false, false, false, false]) rfl (by kernel_rfl) (by kernel_rfl) (by kernel_rfl) (by kernel_rfl) rfl rfl hg alln (fun m' H' hm' hX' => y_addn rfl rfl (by omega)) ?_
      refine g_y (i := 4) (listed' := #[true, true, true, true, true, false, false, false, false]) rfl (by kernel_rfl) (by kernel_rfl) (by kernel_rfl) (by kernel_rfl) rfl rfl hg alln (fun m' H' hm' hX' => y_slice rfl tl33 (bnd_some (kd := .i64) (x := p + 1) rfl) bnd_none (by omega) hle2) ?_
      refine g_y (i := 5) (listed' := #[true, true, true, true, true, true, false, false, false]) rfl (by kernel_rfl) (by kernel_rfl) (by kernel_rfl) (by kernel_rfl) rfl rfl hg alln (fun m' H' hm' hX' => y_move rfl) ?_
      refine g_y (i := 6) (listed' := #[true, true, true, true, true, true, true, false, false]) rfl (by kernel_rfl) (by kernel_rfl) (by kernel_rfl) (by kernel_rfl) rfl rfl hg alln (fun m' H' hm' hX' => y_move rfl) ?_
      refine g_y (i := 7) (listed' := #[true, true, true, true, true, true, true, true, false]) rfl (by kernel_rfl) (by kernel_rfl) (by kernel_rfl) (by kernel_rfl) rfl rfl hg alln (fun m' H' hm' hX' => y_slice rfl tl33 (bnd_some (kd := .i64) (x := p) rfl) bnd_none hp hle) ?_
      refine g_s (i := 8) (listed' := #[true, true, true, true, true, true, true, true, true]) rfl (by kernel_rfl) (by kernel_rfl) rfl ?_
      refine s_copyv (k := p + 1) (c := n - p) rfl rfl rfl tl33 (i := 0) rfl (by omega) (by omega) (SrcW.vec (i := 2) rfl (by omega) (by omega) hpn2 one_rows lo_enc_len (by simp; omega)) (by omega) (by omega) ?_
      refine ⟨⟨hg, alln⟩, ?_⟩
      refine g_done (by kernel_rfl) ?_
      clear hg
      refine hK13 _ _ _ ?_
      clear hK13 K13
      refine c_seq (fun K14 hK14 => ?_)
      refine c_region ?_
      refine r_y rfl rfl (y_move rfl) ?_
      refine r_y rfl rfl (y_assign rfl) ?_
      refine r_nil ?_
      refine hK14 _ _ _ ?_
      clear hK14 K14
      refine c_ret ?_
      refine e_retf [0, 1, 2] 2 hm (res_tmps rfl) ?_
      have hn2 : p + (n + 1 - p) = n + 1 := by omega
      refine ⟨some ⟨b2, 0, none⟩, c2, congrArg (fun q => Value.slice (some ⟨b2, 0, none⟩) q c2) hn2, ?_⟩
      have e := ins_grow (R := lo.map OwnR.enc) (zs := zs) (x := o.enc) (n := n) (by simp; omega) hp hz1
      simp only [rowO, ins_map, ← e]
      exact congrArg (fun q => Item.vec (some ⟨b2, 0, none⟩) q c2 50 32 _ :: H) hn2
    ·
      refine c_skip ?_
      refine hK9 _ _ _ ?_
      clear hK9 K9
      refine c_seq (fun K15 hK15 => ?_)
      refine c_region ?_
      have hpn2 : p < n := lt_of_neq hp hpn
      have hnc : n + 1 ≤ c := by simp at hgt; omega
      refine r_y rfl rfl (y_move rfl) ?_
      refine r_y rfl rfl (y_move rfl) ?_
      refine r_y rfl rfl (y_move rfl) ?_
      refine r_y rfl rfl (y_addn rfl rfl (by omega)) ?_
      refine r_y rfl rfl (y_slicel rfl tl33 (hi := n + 1) rfl hnc) ?_
      refine r_y rfl rfl (y_assign rfl) ?_
      refine r_nil ?_
      refine hK15 _ _ _ ?_
      clear hK15 K15
      refine c_seq (fun K16 hK16 => ?_)
      refine c_seq (fun K17 hK17 => ?_)
      refine c_region ?_
      refine r_stretch (i := 1) (z := 1) rfl (by omega) hnc (fun zs hz1 hz2 => ?_)
      refine r_y rfl rfl (y_move rfl) ?_
      refine r_y rfl rfl (y_move rfl) ?_
      refine r_y rfl rfl (y_move rfl) ?_
      refine r_y rfl rfl (y_move rfl) ?_
      refine r_y rfl rfl (y_addn rfl rfl (by omega)) ?_
      refine r_y rfl rfl (y_slice rfl tl33 (bnd_some (kd := .i64) (x := p + 1) rfl) bnd_none (by omega) hnc) ?_
      refine r_s rfl ?_
      refine s_overlaps (tR := 4) rfl Try.func122 (by kernel_rfl) (by kernel_rfl) (by kernel_rfl) (by kernel_rfl) tl33 (by decide) rfl rfl (i := 0) (j := 1) rfl rfl (by decide) (by omega) (by omega) ?_
      refine r_y rfl rfl (y_not rfl) ?_
      refine r_nil ?_
      refine hK17 _ _ _ ?_
      clear hK17 K17
      refine c_ift rfl rfl ?_
      refine c_seq (fun K18 hK18 => ?_)
      refine c_draw ([]) (by kernel_rfl) (fun hg => ?_)
      refine g_y (i := 0) (listed' := #[true, false, false, false, false, false, false, false, false]) rfl (by kernel_rfl) (by kernel_rfl) (by kernel_rfl) (by kernel_rfl) rfl rfl hg alln (fun m' H' hm' hX' => y_move rfl) ?_
      refine g_y (i := 1) (listed' := #[true, true, false, false, false, false, false, false, false]) rfl (by kernel_rfl) (by kernel_rfl) (by kernel_rfl) (by kernel_rfl) rfl rfl hg alln (fun m' H' hm' hX' => y_move rfl) ?_
      refine g_y (i := 2) (listed' := #[true, true, true, false, false, false, false, false, false]) rfl (by kernel_rfl) (by kernel_rfl) (by kernel_rfl) (by kernel_rfl) rfl rfl hg alln (fun m' H' hm' hX' => y_move rfl) ?_
      refine g_y (i := 3) (listed' := #[true, true, true, true, false, false, false, false, false]) rfl (by kernel_rfl) (by kernel_rfl) (by kernel_rfl) (by kernel_rfl) rfl rfl hg alln (fun m' H' hm' hX' => y_addn rfl rfl (by omega)) ?_
      refine g_y (i := 4) (listed' := #[true, true, true, true, true, false, false, false, false]) rfl (by kernel_rfl) (by kernel_rfl) (by kernel_rfl) (by kernel_rfl) rfl rfl hg alln (fun m' H' hm' hX' => y_slice rfl tl33 (bnd_some (kd := .i64) (x := p + 1) rfl) bnd_none (by omega) hnc) ?_
      refine g_y (i := 5) (listed' := #[true, true, true, true, true, true, false, false, false]) rfl (by kernel_rfl) (by kernel_rfl) (by kernel_rfl) (by kernel_rfl) rfl rfl hg alln (fun m' H' hm' hX' => y_move rfl) ?_
      refine g_y (i := 6) (listed' := #[true, true, true, true, true, true, true, false, false]) rfl (by kernel_rfl) (by kernel_rfl) (by kernel_rfl) (by kernel_rfl) rfl rfl hg alln (fun m' H' hm' hX' => y_move rfl) ?_
      refine g_y (i := 7) (listed' := #[true, true, true, true, true, true, true, true, false]) rfl (by kernel_rfl) (by kernel_rfl) (by kernel_rfl) (by kernel_rfl) rfl rfl hg alln (fun m' H' hm' hX' => y_slice rfl tl33 (bnd_some (kd := .i64) (x := p) rfl) bnd_none (by omega) hnc) ?_
      refine g_s (i := 8) (listed' := #[true, true, true, true, true, true, true, true, true]) rfl (by kernel_rfl) (by kernel_rfl) rfl ?_
      refine s_copyv (k := p + 1) (c := n - p) rfl rfl rfl tl33 (i := 1) rfl (by omega) (by omega) (SrcW.vec (i := 1) rfl (by omega) (by omega) (by omega) (one_rowsz (by omega)) (lo_encz_len hz2) (by simp; omega)) (by omega) (by omega) ?_
      refine ⟨⟨hg, alln⟩, ?_⟩
      refine g_done (by kernel_rfl) ?_
      clear hg
      refine hK18 _ _ _ ?_
      clear hK18 K18
      refine c_seq (fun K19 hK19 => ?_)
      refine c_region ?_
      refine r_y rfl rfl (y_move rfl) ?_
      refine r_y rfl rfl (y_move rfl) ?_
      refine r_y rfl rfl (y_slice rfl tl33 (bnd_some (kd := .i64) (x := p) rfl) bnd_none (by omega) hnc) ?_
      refine r_y rfl rfl (y_move rfl) ?_
      refine r_s rfl ?_
      refine s_copyv (k := p) (c := 1) rfl rfl rfl tl33 (i := 1) rfl (by omega) (by omega) (SrcW.of (Src.one' (i := 0) rfl rfl (one_own _))) (by omega) (by omega) ?_
      refine r_nil ?_
      refine hK19 _ _ _ ?_
      clear hK19 K19
      refine c_seq (fun K20 hK20 => ?_)
      refine c_region ?_
      refine r_y rfl rfl (y_move rfl) ?_
      refine r_y rfl rfl (y_assign rfl) ?_
      refine r_nil ?_
      refine hK20 _ _ _ ?_
      clear hK20 K20
      refine c_ret ?_
      refine e_ret 1 hm (res_tmps rfl) ?_
      refine ⟨a, c, rfl, ?_⟩
      have e := ins_shift (R := lo.map OwnR.enc) (zs := zs) (x := o.enc) (n := n) (by simp; omega) (by omega) hz1
      simp only [rowO, ins_map, ← e]; rfl
end Go.Aw
namespace Go.Aw
open Go Go.Proofs
set_option maxRecDepth 100000 in
theorem ruleSort_w (s1 : Sl) (l1 : List (RuleD × Sl)) (m : Snap) (H : Hp) (hz : FzR m s1 l1) (hfit : l1.length ≤ 1000000) : Fn Try.prog 28 [s1.v] m H (fun v m' H' => ∃ (a : Option Addr) (n cap : Nat) (lo : List OwnR), v = .slice a n n ∧ n = lo.length ∧ rulesO lo = sortR (l1.map (·.1)) ∧ (∀ o ∈ lo, o.ok) ∧ H' = rowO a n cap lo :: (itsO lo ++ H)) := by
  have hl := hz.len
  have hmx := hz.fz.max
  have hle0 := hz.fz.le
  unfold maxLen at hmx
  have hm : m.le m := Snap.le.refl m
  refine fn_end Try.func28 rfl rfl rfl ?_
  refine c_seq (fun K0 hK0 => ?_)
  refine c_region ?_
  refine r_y rfl rfl (y_assign rfl) ?_
  refine r_nil ?_
  refine hK0 _ _ _ ?_
  clear hK0 K0
  refine c_seq (fun K1 hK1 => ?_)
  refine c_region ?_
  refine r_y rfl rfl (y_assign rfl) ?_
  refine r_nil ?_
  refine hK1 _ _ _ ?_
  clear hK1 K1
  refine c_seq (fun K2 hK2 => ?_)
  refine c_seq (fun K3 hK3 => ?_)
  refine c_region ?_
  refine r_nilvec 50 32 ?_
  refine r_y rfl rfl (y_move rfl) ?_
  refine r_y rfl rfl (y_len tl33 rfl) ?_
  refine r_y rfl rfl (y_move rfl) ?_
  refine r_nil ?_
  refine hK3 _ _ _ ?_
  clear hK3 K3
  refine c_block ?_
  refine c_loopx (α := Nat × List OwnR × Sl) (fun vv => match vv with | (i, lo, sv) => [(3, sv.v), (8, s1.v), (9, .int .i64 (s1.n : Nat)), (10, .int .i64 (i : Nat))]) (fun vv => match vv with | (i, lo, sv) => rowO sv.a sv.n sv.cap lo :: (itsO lo ++ H)) (fun k0 vv m1 => match vv with | (i, lo, sv) => (i + k0 = s1.n ∧ sv.n = lo.length ∧ sv.n ≤ i ∧ rulesO lo = sortR ((l1.map (·.1)).take i) ∧ (∀ o ∈ lo, o.ok)) ∧ m.le m1 ∧ (FzR m1 s1 l1)) (s1.n) (0, [], zSl) ⟨rfl, rfl, rfl, rfl, trivial⟩ rfl ⟨⟨by omega, rfl, by show 0 ≤ 0; omega, rfl, fun o ho => by cases ho⟩, hm, hz⟩ ?_
  clear hm hz
  rintro k0 ⟨i, lo, sv⟩ m1 ⟨hi0, hm, hz⟩
  obtain ⟨hi, hsl, hsi, hro, hoo0⟩ := hi0
  refine c_seq (fun K4 hK4 => ?_)
  refine c_region ?_
  refine r_y rfl rfl (y_iop rfl rfl rfl) ?_
  refine r_nil ?_
  refine hK4 _ _ _ ?_
  clear hK4 K4
  refine c_seq (fun K5 hK5 => ?_)
  refine c_cond rfl (fun h0 => ?_) (fun h0 => ?_)
  ·
    have hlt : i < s1.n := by simp at h0; omega
    obtain ⟨x, hx⟩ := get_of_lt (l := l1) (k := i) (by omega)
    have hsrt : Srt (rulesO lo) := by rw [hro]; exact sortR_srt _
    have hT : sortR ((l1.map (·.1)).take (i + 1)) = if ruleSound x.1 then insR (sortR ((l1.map (·.1)).take i)) x.1 else sortR ((l1.map (·.1)).take i) := by rw [List.take_add_one, map_get hx]; exact sortR_snoc _ _
    refine c_skip ?_
    refine hK5 _ _ _ ?_
    clear hK5 K5
    refine c_seq (fun K6 hK6 => ?_)
    refine c_block ?_
    refine c_seq (fun K7 hK7 => ?_)
    refine c_region ?_
    refine r_y rfl rfl (y_indexAddr_slice rfl rfl tl33 hlt (At.fz hz.fz hlt)) ?_
    refine r_y rfl rfl (y_load_a rfl ts50 (RdA.fz0 hz.fz (map_get hx))) ?_
    refine r_s rfl ?_
    refine s_alloc rfl tz50 (fun b0 => ?_)
    refine r_s rfl ?_
    refine s_store (us := encRule x.1 x.2) rfl rfl rfl ts50 rfl rfl (one_rule _ _) (i := 0) rfl rfl ?_
    refine r_nil ?_
    refine hK7 _ _ _ ?_
    clear hK7 K7
    refine c_seq (fun K8 hK8 => ?_)
    refine c_seq (fun K9 hK9 => ?_)
    refine c_region ?_
    refine r_y rfl rfl (y_load_a (cs := encRule x.1 x.2) rfl ts50 (RdA.blk (i := 0) rfl rfl)) ?_
    refine r_s rfl ?_
    refine s_call0 rfl Try.call70 rfl (ruleSound_ok x.1 x.2 _ _ (hz.acts x (List.mem_of_getElem? hx)).1) ?_
    rintro _ m2 _ hm2 ⟨rfl, rfl⟩
    replace hm := hm.trans hm2
    replace hz := hz.mono hm2
    clear hm2
    refine r_y rfl rfl (y_not rfl) ?_
    refine r_nil ?_
    refine hK9 _ _ _ ?_
    clear hK9 K9
    refine c_cond rfl (fun hs1 => ?_) (fun hs1 => ?_)
    ·
      refine c_exit ?_
      refine hK6 _ _ _ ?_
      clear hK8 K8 hK6 K6
      refine c_region ?_
      refine r_del 0 rfl ?_
      first | refine r_y rfl rfl (y_inc rfl (by omega)) ?_ | refine r_y rfl rfl (y_iop rfl rfl rfl) ?_
      refine r_y rfl rfl (y_move rfl) ?_
      refine r_nil ?_
      exact ⟨k0 - 1, (i + 1, lo, sv), by omega, ⟨rfl, rfl, rfl, rfl, trivial⟩, (by first | rfl | (simp only [rowO, List.map_set]; rfl)), ⟨by omega, hsl, by omega, by rw [hro, hT, if_neg (by simpa using hs1)], hoo0⟩, hm, hz⟩
    ·
      refine c_skip ?_
      refine hK8 _ _ _ ?_
      clear hK8 K8
      refine c_seq (fun K10 hK10 => ?_)
      refine c_region ?_
      refine r_y rfl rfl (y_move rfl) ?_
      refine r_y rfl rfl (y_load_a (cs := encRule x.1 x.2) rfl ts50 (RdA.blk (i := 0) rfl rfl)) ?_
      refine r_front 1 rfl ?_
      refine r_s rfl ?_
      refine s_call0 rfl Try.call73 rfl (bsearch_w sv.a sv.n sv.cap lo x.1 x.2 _ _ hsl (by omega) (mono_of hsrt)) ?_
      rintro _ m2 _ hm2 ⟨p, f, rfl, hp, hlow, hf, rfl⟩
      replace hm := hm.trans hm2
      replace hz := hz.mono hm2
      clear hm2
      refine r_y rfl rfl (y_move rfl) ?_
      refine r_y rfl rfl (y_extract rfl rfl) ?_
      refine r_y rfl rfl (y_extract rfl rfl) ?_
      refine r_y rfl rfl (y_assign rfl) ?_
      refine r_y rfl rfl (y_assign rfl) ?_
      refine r_nil ?_
      refine hK10 _ _ _ ?_
      clear hK10 K10
      refine c_seq (fun K11 hK11 => ?_)
      refine c_region ?_
      refine r_y rfl rfl (y_move rfl) ?_
      refine r_nil ?_
      refine hK11 _ _ _ ?_
      clear hK11 K11
      refine c_cond rfl (fun hf1 => ?_) (fun hf1 => ?_)
      ·
        have hplt : p < lo.length := by obtain ⟨y, hy, _⟩ := hf.1 hf1; exact (List.getElem?_eq_some_iff.1 hy).1
        refine c_region ?_
        refine r_y rfl rfl (y_move rfl) ?_
        refine r_y rfl rfl (y_move rfl) ?_
        refine r_y rfl rfl (y_load_a (cs := encRule x.1 x.2) rfl ts50 (RdA.blk (i := 1) rfl rfl)) ?_
        refine r_s rfl ?_
        refine s_call0 rfl Try.call71 rfl (copied_w x.1 x.2 _ _ (hz.acts x (List.mem_of_getElem? hx)).1 (hz.acts x (List.mem_of_getElem? hx)).2 (by have := ruleSound_acts (x := x.1) (by simpa using hs1); omega)) ?_
        rintro _ m2 _ hm2 ⟨o, rfl, hor, hoo, rfl⟩
        replace hm := hm.trans hm2
        replace hz := hz.mono hm2
        clear hm2
        refine r_y rfl rfl (y_indexAddr_slice (k := p) rfl rfl tl33 (by omega) (At.vec (k := p) (i := 1) rfl (by omega))) ?_
        refine r_s rfl ?_
        refine s_storev (k := p) (j := 0) (c := lo[p].enc) (us := o.enc) rfl rfl rfl ts50 rfl rfl (one_own _) (i := 1) rfl (by simp [hplt]) rfl ?_
        refine r_nil ?_
        refine hK6 _ _ _ ?_
        clear hK6 K6
        refine c_region ?_
        refine r_del 2 rfl ?_
        refine r_ent m2 _ (fun _ hs => St.setIts hplt hs) ?_
        first | refine r_y rfl rfl (y_inc rfl (by omega)) ?_ | refine r_y rfl rfl (y_iop rfl rfl rfl) ?_
        refine r_y rfl rfl (y_move rfl) ?_
        refine r_nil ?_
        exact ⟨k0 - 1, (i + 1, lo.set p o, sv), by omega, ⟨rfl, rfl, rfl, rfl, trivial⟩, (by first | rfl | (simp only [rowO, List.map_set]; rfl)), ⟨by omega, by simpa using hsl, by omega, by rw [sort_found hlow (hf.1 hf1) hor, hro, hT, if_pos (by simpa using hs1)], ok_set hoo0 hoo⟩, hm, hz⟩
      ·
        refine c_region ?_
        refine r_y rfl rfl (y_move rfl) ?_
        refine r_y rfl rfl (y_move rfl) ?_
        refine r_y rfl rfl (y_load_a (cs := encRule x.1 x.2) rfl ts50 (RdA.blk (i := 1) rfl rfl)) ?_
        refine r_s rfl ?_
        refine s_call0 rfl Try.call71 rfl (copied_w x.1 x.2 _ _ (hz.acts x (List.mem_of_getElem? hx)).1 (hz.acts x (List.mem_of_getElem? hx)).2 (by have := ruleSound_acts (x := x.1) (by simpa using hs1); omega)) ?_
        rintro _ m2 _ hm2 ⟨o, rfl, hor, hoo, rfl⟩
        replace hm := hm.trans hm2
        replace hz := hz.mono hm2
        clear hm2
        refine r_s rfl ?_
        refine s_buildSlice (cs := (o.enc)) (e := 50) rfl rfl (fun _ => by kernel_rfl) (fun b1 => ?_)
        refine r_front 2 rfl ?_
        refine r_front 1 rfl ?_
        refine r_s rfl ?_
        refine s_call0 rfl Try.call75 rfl (insert_w sv.a sv.n sv.cap p b1 lo o _ _ hsl (by omega) hp) ?_
        rintro _ m2 _ hm2 ⟨a3, c3, rfl, rfl⟩
        replace hm := hm.trans hm2
        replace hz := hz.mono hm2
        clear hm2
        refine r_y rfl rfl (y_assign rfl) ?_
        refine r_nil ?_
        refine hK6 _ _ _ ?_
        clear hK6 K6
        refine c_region ?_
        refine r_del 2 rfl ?_
        refine r_front 1 rfl ?_
        refine r_perm _ (perm_ins _ lo o p H) ?_
        first | refine r_y rfl rfl (y_inc rfl (by omega)) ?_ | refine r_y rfl rfl (y_iop rfl rfl rfl) ?_
        refine r_y rfl rfl (y_move rfl) ?_
        refine r_nil ?_
        exact ⟨k0 - 1, (i + 1, lo.take p ++ o :: lo.drop p, ⟨a3, sv.n + 1, c3⟩), by omega, ⟨rfl, rfl, rfl, rfl, trivial⟩, (by first | rfl | (simp only [rowO, List.map_set]; rfl)), ⟨by omega, by simp; omega, by show sv.n + 1 ≤ i + 1; omega, by rw [sort_new hlow (by omega) (fun h => by have := hf.2 h; rw [hf1] at this; cases this) hor, hro, hT, if_pos (by simpa using hs1)], ok_ins hoo0 hoo⟩, hm, hz⟩
  ·
    refine c_exit ?_
    refine hK2 _ _ _ ?_
    clear hK5 K5 hK2 K2
    refine c_seq (fun K12 hK12 => ?_)
    refine c_region ?_
    refine r_y rfl rfl (y_move rfl) ?_
    refine r_vecfacts (i := 0) rfl (fun hle _ _ _ _ => ?_)
    refine r_s rfl ?_
    refine s_call0 rfl Try.call72 rfl (clipR_w sv.a sv.n sv.cap _ _ hle) ?_
    rintro _ m2 _ hm2 ⟨rfl, rfl⟩
    replace hm := hm.trans hm2
    replace hz := hz.mono hm2
    clear hm2
    refine r_y rfl rfl (y_assign rfl) ?_
    refine r_nil ?_
    refine hK12 _ _ _ ?_
    clear hK12 K12
    refine c_ret ?_
    refine e_ret 0 hm (res_tmps rfl) ?_
    obtain rfl : i = s1.n := by simp at h0; omega
    have hrl : rulesO lo = sortR (l1.map (·.1)) := by rw [hro, List.take_of_length_le (by simp; omega)]
    exact ⟨sv.a, sv.n, sv.cap, lo, rfl, hsl, hrl, hoo0, rfl⟩
end Go.Aw
