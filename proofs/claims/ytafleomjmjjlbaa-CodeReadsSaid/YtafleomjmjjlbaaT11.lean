import Derived.Test.YtafleomjmjjlbaaT10
import Derived.Test.YtafleomjmjjlbaaData7
namespace Go.Aw
open Go Go.Proofs
theorem un158 : Try.prog.underlying 158 = some (.int .u64) := by kernel_rfl
set_option maxRecDepth 100000 in
theorem rSameActs_w (s1 s2 : Sl) (l1 l2 : List ActD) (m : Snap) (H : Hp) (hz1 : FzA m s1 l1) (hz2 : FzA m s2 l2) : Fn Try.prog 100 [s1.v, s2.v] m H (fun v _ H' => v = .bool (decide (l1 = l2)) ∧ H' = H) := by
  have hm : m.le m := Snap.le.refl m
  refine fn_end Try.func100 rfl rfl rfl ?_
  refine c_seq (fun K0 hK0 => ?_)
  refine c_region ?_
  refine r_y rfl rfl (y_assign rfl) ?_
  refine r_nil ?_
  refine hK0 _ _ _ ?_
  clear hK0 K0
  refine c_seq (fun K1 hK1 => ?_)
  refine c_seq (fun K2 hK2 => ?_)
  refine c_region ?_
  refine r_y rfl rfl (y_move rfl) ?_
  refine r_y rfl rfl (y_len tl30 rfl) ?_
  refine r_y rfl rfl (y_move rfl) ?_
  refine r_y rfl rfl (y_len tl30 rfl) ?_
  refine r_y rfl rfl (y_iop rfl rfl rfl) ?_
  refine r_nil ?_
  refine hK2 _ _ _ ?_
  clear hK2 K2
  refine c_cond rfl (fun h0 => ?_) (fun h0 => ?_)
  ·
    refine c_seq (fun K3 hK3 => ?_)
    refine c_region ?_
    refine r_y rfl rfl (y_assign rfl) ?_
    refine r_nil ?_
    refine hK3 _ _ _ ?_
    clear hK3 K3
    refine c_ret ?_
    refine e_ret 0 hm (res_tmps rfl) ?_
    refine ⟨congrArg Value.bool ?_, rfl⟩
    have hl1 := hz1.lenA; have hl2 := hz2.lenA
    have : s1.n ≠ s2.n := by simp at h0; omega
    exact (decide_eq_false (by rintro rfl; omega)).symm
  ·
    have hl1 := hz1.lenA
    have hl2 := hz2.lenA
    have hne : s1.n = s2.n := by simp at h0; omega
    have hmx := hz1.max
    have hle := hz1.le
    unfold maxLen at hmx
    refine c_skip ?_
    refine hK1 _ _ _ ?_
    clear hK1 K1
    refine c_seq (fun K4 hK4 => ?_)
    refine c_seq (fun K5 hK5 => ?_)
    refine c_region ?_
    refine r_y rfl rfl (y_assign rfl) ?_
    refine r_nil ?_
    refine hK5 _ _ _ ?_
    clear hK5 K5
    refine c_block ?_
    refine c_loopx (α := Nat) (fun i => [(0, s1.v), (1, s2.v), (5, .int .i64 (i : Nat))]) (fun i => H) (fun k0 i m1 => (i + k0 = s1.n ∧ l1.take i = l2.take i) ∧ m.le m1 ∧ (FzA m1 s1 l1) ∧ (FzA m1 s2 l2)) (s1.n) 0 ⟨rfl, rfl, rfl, trivial⟩ rfl ⟨⟨by omega, rfl⟩, hm, hz1, hz2⟩ ?_
    clear hm hz1 hz2
    rintro k0 i m1 ⟨hi0, hm, hz1, hz2⟩
    obtain ⟨hi, hinv⟩ := hi0
    refine c_seq (fun K6 hK6 => ?_)
    refine c_seq (fun K7 hK7 => ?_)
    refine c_region ?_
    refine r_y rfl rfl (y_move rfl) ?_
    refine r_y rfl rfl (y_move rfl) ?_
    refine r_y rfl rfl (y_len tl30 rfl) ?_
    refine r_y rfl rfl (y_iop rfl rfl rfl) ?_
    refine r_nil ?_
    refine hK7 _ _ _ ?_
    clear hK7 K7
    refine c_cond rfl (fun h1 => ?_) (fun h1 => ?_)
    ·
      have hlt1 : i < s1.n := by simp at h1; omega
      have hlt2 : i < s2.n := by omega
      obtain ⟨x1, hx1⟩ := get_of_lt (l := l1) (k := i) (by omega)
      obtain ⟨x2, hx2⟩ := get_of_lt (l := l2) (k := i) (by omega)
      refine c_skip ?_
      refine hK6 _ _ _ ?_
      clear hK6 K6
      refine c_seq (fun K8 hK8 => ?_)
      refine c_block ?_
      refine c_seq (fun K9 hK9 => ?_)
      refine c_draw ([]) (by kernel_rfl) (fun hg => ?_)
      have hz1_g := hz1
      have hz2_g := hz2
      refine g_y (i := 0) (listed' := #[true, false, false, false, false, false, false, false, false]) rfl (by kernel_rfl) (by kernel_rfl) (by kernel_rfl) (by kernel_rfl) rfl rfl hg alln (fun m' H' hm' hX' => y_move rfl) ?_
      refine g_y (i := 1) (listed' := #[true, true, false, false, false, false, false, false, false]) rfl (by kernel_rfl) (by kernel_rfl) (by kernel_rfl) (by kernel_rfl) rfl rfl hg alln (fun m' H' hm' hX' => y_move rfl) ?_
      refine g_y (i := 2) (listed' := #[true, true, true, false, false, false, false, false, false]) rfl (by kernel_rfl) (by kernel_rfl) (by kernel_rfl) (by kernel_rfl) rfl rfl hg alln (fun m' H' hm' hX' => y_indexAddr_slice rfl rfl tl30 hlt1 (At.fz (hz1_g.mono hm') hlt1)) ?_
      refine g_y (i := 3) (listed' := #[true, true, true, true, false, false, false, false, false]) rfl (by kernel_rfl) (by kernel_rfl) (by kernel_rfl) (by kernel_rfl) rfl rfl hg alln (fun m' H' hm' hX' => y_load_a rfl ts53 (RdA.fz0 (hz1_g.mono hm') (map_get hx1))) ?_
      refine g_y (i := 4) (listed' := #[true, true, true, true, true, false, false, false, false]) rfl (by kernel_rfl) (by kernel_rfl) (by kernel_rfl) (by kernel_rfl) rfl rfl hg alln (fun m' H' hm' hX' => y_move rfl) ?_
      refine g_y (i := 5) (listed' := #[true, true, true, true, true, true, false, false, false]) rfl (by kernel_rfl) (by kernel_rfl) (by kernel_rfl) (by kernel_rfl) rfl rfl hg alln (fun m' H' hm' hX' => y_move rfl) ?_
      refine g_y (i := 6) (listed' := #[true, true, true, true, true, true, true, false, false]) rfl (by kernel_rfl) (by kernel_rfl) (by kernel_rfl) (by kernel_rfl) rfl rfl hg alln (fun m' H' hm' hX' => y_indexAddr_slice rfl rfl tl30 hlt2 (At.fz (hz2_g.mono hm') hlt2)) ?_
      refine g_y (i := 7) (listed' := #[true, true, true, true, true, true, true, true, false]) rfl (by kernel_rfl) (by kernel_rfl) (by kernel_rfl) (by kernel_rfl) rfl rfl hg alln (fun m' H' hm' hX' => y_load_a rfl ts53 (RdA.fz0 (hz2_g.mono hm') (map_get hx2))) ?_
      refine g_y (i := 8) (listed' := #[true, true, true, true, true, true, true, true, true]) rfl (by kernel_rfl) (by kernel_rfl) (by kernel_rfl) (by kernel_rfl) rfl rfl hg alln (fun m' H' hm' hX' => y_neagg (dd := 6)  rfl rfl en53 ia53 rfl Try.eqGuardType53 rfl (alike_act _ _)) ?_
      refine g_done (by kernel_rfl) ?_
      clear hg hz1_g hz2_g
      refine hK9 _ _ _ ?_
      clear hK9 K9
      refine c_cond rfl (fun h2 => ?_) (fun h2 => ?_)
      ·
        refine c_seq (fun K10 hK10 => ?_)
        refine c_region ?_
        refine r_y rfl rfl (y_assign rfl) ?_
        refine r_nil ?_
        refine hK10 _ _ _ ?_
        clear hK10 K10
        refine c_ret ?_
        refine e_ret 0 hm (res_tmps rfl) ?_
        refine ⟨congrArg Value.bool ?_, rfl⟩
        refine (decide_eq_false ?_).symm
        rintro rfl
        rw [hx1] at hx2; cases hx2
        simp [ceq_act] at h2
      ·
        refine c_skip ?_
        refine hK8 _ _ _ ?_
        clear hK8 K8
        refine c_region ?_
        refine r_y rfl rfl (y_move rfl) ?_
        first | refine r_y rfl rfl (y_inc rfl (by omega)) ?_ | refine r_y rfl rfl (y_iop rfl rfl rfl) ?_
        refine r_y rfl rfl (y_assign rfl) ?_
        refine r_nil ?_
        exact ⟨k0 - 1, (i + 1), by omega, ⟨rfl, rfl, rfl, trivial⟩, rfl, ⟨by omega, by rw [List.take_add_one, List.take_add_one, hinv, hx1, hx2]; simp only [ceq_act] at h2; simpa using h2⟩, hm, hz1, hz2⟩
    ·
      refine c_exit ?_
      refine hK4 _ _ _ ?_
      clear hK6 K6 hK4 K4
      refine c_seq (fun K11 hK11 => ?_)
      refine c_region ?_
      refine r_y rfl rfl (y_assign rfl) ?_
      refine r_nil ?_
      refine hK11 _ _ _ ?_
      clear hK11 K11
      refine c_ret ?_
      refine e_ret 0 hm (res_tmps rfl) ?_
      refine ⟨congrArg Value.bool ?_, rfl⟩
      have hie : i = s1.n := by simp at h1; omega
      refine (decide_eq_true ?_).symm
      rw [List.take_of_length_le (by omega), List.take_of_length_le (by omega)] at hinv
      exact hinv
set_option maxRecDepth 100000 in
theorem rSameMods_w (a b : ModD) (s1 s2 : Sl) (m : Snap) (H : Hp) (hz1 : FzA m s1 a.acts) (hz2 : FzA m s2 b.acts) : Fn Try.prog 40 [.agg (encMod a s1).toArray, .agg (encMod b s2).toArray] m H (fun v _ H' => v = .bool (decide (a = b)) ∧ H' = H) := by
  have hm : m.le m := Snap.le.refl m
  refine fn_end Try.func40 rfl rfl rfl ?_
  refine c_seq (fun K0 hK0 => ?_)
  refine c_region ?_
  refine r_s rfl ?_
  refine s_box_a rfl rfl (fun b0 => ?_)
  refine r_s rfl ?_
  refine s_box_a rfl rfl (fun b1 => ?_)
  refine r_y rfl rfl (y_assign rfl) ?_
  refine r_nil ?_
  refine hK0 _ _ _ ?_
  clear hK0 K0
  refine c_seq (fun K1 hK1 => ?_)
  refine c_region ?_
  refine r_y rfl rfl (y_fieldAddr rfl At.lit fo32_0 rfl) ?_
  refine r_y rfl rfl (y_load_s rfl ts3 (RdS.blk (i := 1) rfl rfl)) ?_
  refine r_y rfl rfl (y_fieldAddr rfl At.lit fo32_0 rfl) ?_
  refine r_y rfl rfl (y_load_s rfl ts3 (RdS.blk (i := 0) rfl rfl)) ?_
  refine r_y rfl rfl (y_iop rfl rfl rfl) ?_
  refine r_y rfl rfl (y_move rfl) ?_
  refine r_split (j := 5) rfl (fun h0 => ?_) (fun h0 => ?_)
  ·
    refine r_yg rfl h0 rfl (y_fieldAddr rfl At.lit fo32_1 rfl) ?_
    refine r_yg rfl h0 rfl (y_load_a (cs := encCube a.m) rfl ts29 (RdA.blk (i := 1) rfl rfl)) ?_
    refine r_yg rfl h0 rfl (y_fieldAddr rfl At.lit fo32_1 rfl) ?_
    refine r_yg rfl h0 rfl (y_load_a (cs := encCube b.m) rfl ts29 (RdA.blk (i := 0) rfl rfl)) ?_
    refine r_yg rfl h0 rfl (y_eqagg (dd := 6)  rfl rfl en29 ia29 rfl Try.eqGuardType29 rfl (alike_cube a.m b.m)) ?_
    refine r_y rfl rfl (y_pickt rfl h0 rfl) ?_
    refine r_y rfl rfl (y_move rfl) ?_
    refine r_split (j := 12) rfl (fun h1 => ?_) (fun h1 => ?_)
    ·
      refine r_yg rfl h1 rfl (y_fieldAddr rfl At.lit fo32_2 rfl) ?_
      refine r_yg rfl h1 rfl (y_load_s rfl ts3 (RdS.blk (i := 1) rfl rfl)) ?_
      refine r_yg rfl h1 rfl (y_fieldAddr rfl At.lit fo32_2 rfl) ?_
      refine r_yg rfl h1 rfl (y_load_s rfl ts3 (RdS.blk (i := 0) rfl rfl)) ?_
      refine r_yg rfl h1 rfl (y_iop rfl rfl rfl) ?_
      refine r_y rfl rfl (y_pickt rfl h1 rfl) ?_
      refine r_y rfl rfl (y_move rfl) ?_
      refine r_split (j := 19) rfl (fun h2 => ?_) (fun h2 => ?_)
      ·
        refine r_yg rfl h2 rfl (y_fieldAddr rfl At.lit fo32_3 rfl) ?_
        refine r_yg rfl h2 rfl (y_load_s rfl ts30 (RdS.blk (i := 1) rfl rfl)) ?_
        refine r_yg rfl h2 rfl (y_fieldAddr rfl At.lit fo32_3 rfl) ?_
        refine r_yg rfl h2 rfl (y_load_s rfl ts30 (RdS.blk (i := 0) rfl rfl)) ?_
        refine r_sg rfl h2 ?_
        refine s_call0 rfl Try.call100 rfl (rSameActs_w s1 s2 a.acts b.acts _ _ hz1 hz2) ?_
        rintro _ m2 _ hm2 ⟨rfl, rfl⟩
        replace hm := hm.trans hm2
        replace hz1 := hz1.mono hm2
        replace hz2 := hz2.mono hm2
        clear hm2
        refine r_y rfl rfl (y_pickt rfl h2 rfl) ?_
        refine r_y rfl rfl (y_move rfl) ?_
        refine r_split (j := 26) rfl (fun h3 => ?_) (fun h3 => ?_)
        ·
          refine r_yg rfl h3 rfl (y_fieldAddr rfl At.lit fo32_4 rfl) ?_
          refine r_yg rfl h3 rfl (y_load_s rfl ts3 (RdS.blk (i := 1) rfl rfl)) ?_
          refine r_yg rfl h3 rfl (y_fieldAddr rfl At.lit fo32_4 rfl) ?_
          refine r_yg rfl h3 rfl (y_load_s rfl ts3 (RdS.blk (i := 0) rfl rfl)) ?_
          refine r_yg rfl h3 rfl (y_iop rfl rfl rfl) ?_
          refine r_y rfl rfl (y_pickt rfl h3 rfl) ?_
          refine r_y rfl rfl (y_move rfl) ?_
          refine r_split (j := 33) rfl (fun h4 => ?_) (fun h4 => ?_)
          ·
            refine r_yg rfl h4 rfl (y_fieldAddr rfl At.lit fo32_5 rfl) ?_
            refine r_yg rfl h4 rfl (y_load_s rfl ts3 (RdS.blk (i := 1) rfl rfl)) ?_
            refine r_yg rfl h4 rfl (y_fieldAddr rfl At.lit fo32_5 rfl) ?_
            refine r_yg rfl h4 rfl (y_load_s rfl ts3 (RdS.blk (i := 0) rfl rfl)) ?_
            refine r_yg rfl h4 rfl (y_iop rfl rfl rfl) ?_
            refine r_y rfl rfl (y_pickt rfl h4 rfl) ?_
            refine r_y rfl rfl (y_move rfl) ?_
            refine r_split (j := 40) rfl (fun h5 => ?_) (fun h5 => ?_)
            ·
              refine r_yg rfl h5 rfl (y_fieldAddr rfl At.lit fo32_6 rfl) ?_
              refine r_yg rfl h5 rfl (y_load_s rfl ts3 (RdS.blk (i := 1) rfl rfl)) ?_
              refine r_yg rfl h5 rfl (y_fieldAddr rfl At.lit fo32_6 rfl) ?_
              refine r_yg rfl h5 rfl (y_load_s rfl ts3 (RdS.blk (i := 0) rfl rfl)) ?_
              refine r_yg rfl h5 rfl (y_iop rfl rfl rfl) ?_
              refine r_y rfl rfl (y_pickt rfl h5 rfl) ?_
              refine r_y rfl rfl (y_move rfl) ?_
              refine r_split (j := 47) rfl (fun h6 => ?_) (fun h6 => ?_)
              ·
                refine r_yg rfl h6 rfl (y_fieldAddr rfl At.lit fo32_7 rfl) ?_
                refine r_yg rfl h6 rfl (y_load_s rfl ts4 (RdS.blk (i := 1) rfl rfl)) ?_
                refine r_yg rfl h6 rfl (y_fieldAddr rfl At.lit fo32_7 rfl) ?_
                refine r_yg rfl h6 rfl (y_load_s rfl ts4 (RdS.blk (i := 0) rfl rfl)) ?_
                refine r_yg rfl h6 rfl (y_eqbool rfl rfl Try.underlying4) ?_
                refine r_y rfl rfl (y_pickt rfl h6 rfl) ?_
                refine r_y rfl rfl (y_assign rfl) ?_
                refine r_nil ?_
                refine hK1 _ _ _ ?_
                clear hK1 K1
                refine c_ret ?_
                refine e_ret 2 hm (res_tmps rfl) ?_
                cases a; cases b
                refine ⟨congrArg Value.bool ?_, rfl⟩
                first | (simp_all [ceq_cube]; done) | (simp_all [ceq_cube]; omega) | (simp_all [ceq_cube]; intros; omega) | (rw [Bool.eq_iff_iff]; simp_all [ceq_cube]; done)
              ·
                refine r_no' rfl rfl h6 ?_
                refine r_no' rfl rfl h6 ?_
                refine r_no' rfl rfl h6 ?_
                refine r_no' rfl rfl h6 ?_
                refine r_no' rfl rfl h6 ?_
                refine r_y rfl rfl (y_pickf rfl h6 rfl) ?_
                refine r_y rfl rfl (y_assign rfl) ?_
                refine r_nil ?_
                refine hK1 _ _ _ ?_
                clear hK1 K1
                refine c_ret ?_
                refine e_ret 2 hm (res_tmps rfl) ?_
                cases a; cases b
                refine ⟨congrArg Value.bool ?_, rfl⟩
                first | (simp_all [ceq_cube]; done) | (simp_all [ceq_cube]; omega) | (simp_all [ceq_cube]; intros; omega) | (rw [Bool.eq_iff_iff]; simp_all [ceq_cube]; done)
            ·
              refine r_no' rfl rfl h5 ?_
              refine r_no' rfl rfl h5 ?_
              refine r_no' rfl rfl h5 ?_
              refine r_no' rfl rfl h5 ?_
              refine r_no' rfl rfl h5 ?_
              refine r_y rfl rfl (y_pickf rfl h5 rfl) ?_
              refine r_y rfl rfl (y_move rfl) ?_
              refine r_no' rfl rfl rfl ?_
              refine r_no' rfl rfl rfl ?_
              refine r_no' rfl rfl rfl ?_
              refine r_no' rfl rfl rfl ?_
              refine r_no' rfl rfl rfl ?_
              refine r_y rfl rfl (y_pickf rfl rfl rfl) ?_
              refine r_y rfl rfl (y_assign rfl) ?_
              refine r_nil ?_
              refine hK1 _ _ _ ?_
              clear hK1 K1
              refine c_ret ?_
              refine e_ret 2 hm (res_tmps rfl) ?_
              cases a; cases b
              refine ⟨congrArg Value.bool ?_, rfl⟩
              first | (simp_all [ceq_cube]; done) | (simp_all [ceq_cube]; omega) | (simp_all [ceq_cube]; intros; omega) | (rw [Bool.eq_iff_iff]; simp_all [ceq_cube]; done)
          ·
            refine r_no' rfl rfl h4 ?_
            refine r_no' rfl rfl h4 ?_
            refine r_no' rfl rfl h4 ?_
            refine r_no' rfl rfl h4 ?_
            refine r_no' rfl rfl h4 ?_
            refine r_y rfl rfl (y_pickf rfl h4 rfl) ?_
            refine r_y rfl rfl (y_move rfl) ?_
            refine r_no' rfl rfl rfl ?_
            refine r_no' rfl rfl rfl ?_
            refine r_no' rfl rfl rfl ?_
            refine r_no' rfl rfl rfl ?_
            refine r_no' rfl rfl rfl ?_
            refine r_y rfl rfl (y_pickf rfl rfl rfl) ?_
            refine r_y rfl rfl (y_move rfl) ?_
            refine r_no' rfl rfl rfl ?_
            refine r_no' rfl rfl rfl ?_
            refine r_no' rfl rfl rfl ?_
            refine r_no' rfl rfl rfl ?_
            refine r_no' rfl rfl rfl ?_
            refine r_y rfl rfl (y_pickf rfl rfl rfl) ?_
            refine r_y rfl rfl (y_assign rfl) ?_
            refine r_nil ?_
            refine hK1 _ _ _ ?_
            clear hK1 K1
            refine c_ret ?_
            refine e_ret 2 hm (res_tmps rfl) ?_
            cases a; cases b
            refine ⟨congrArg Value.bool ?_, rfl⟩
            first | (simp_all [ceq_cube]; done) | (simp_all [ceq_cube]; omega) | (simp_all [ceq_cube]; intros; omega) | (rw [Bool.eq_iff_iff]; simp_all [ceq_cube]; done)
        ·
          refine r_no' rfl rfl h3 ?_
          refine r_no' rfl rfl h3 ?_
          refine r_no' rfl rfl h3 ?_
          refine r_no' rfl rfl h3 ?_
          refine r_no' rfl rfl h3 ?_
          refine r_y rfl rfl (y_pickf rfl h3 rfl) ?_
          refine r_y rfl rfl (y_move rfl) ?_
          refine r_no' rfl rfl rfl ?_
          refine r_no' rfl rfl rfl ?_
          refine r_no' rfl rfl rfl ?_
          refine r_no' rfl rfl rfl ?_
          refine r_no' rfl rfl rfl ?_
          refine r_y rfl rfl (y_pickf rfl rfl rfl) ?_
          refine r_y rfl rfl (y_move rfl) ?_
          refine r_no' rfl rfl rfl ?_
          refine r_no' rfl rfl rfl ?_
          refine r_no' rfl rfl rfl ?_
          refine r_no' rfl rfl rfl ?_
          refine r_no' rfl rfl rfl ?_
          refine r_y rfl rfl (y_pickf rfl rfl rfl) ?_
          refine r_y rfl rfl (y_move rfl) ?_
          refine r_no' rfl rfl rfl ?_
          refine r_no' rfl rfl rfl ?_
          refine r_no' rfl rfl rfl ?_
          refine r_no' rfl rfl rfl ?_
          refine r_no' rfl rfl rfl ?_
          refine r_y rfl rfl (y_pickf rfl rfl rfl) ?_
          refine r_y rfl rfl (y_assign rfl) ?_
          refine r_nil ?_
          refine hK1 _ _ _ ?_
          clear hK1 K1
          refine c_ret ?_
          refine e_ret 2 hm (res_tmps rfl) ?_
          cases a; cases b
          refine ⟨congrArg Value.bool ?_, rfl⟩
          first | (simp_all [ceq_cube]; done) | (simp_all [ceq_cube]; omega) | (simp_all [ceq_cube]; intros; omega) | (rw [Bool.eq_iff_iff]; simp_all [ceq_cube]; done)
      ·
        refine r_no' rfl rfl h2 ?_
        refine r_no' rfl rfl h2 ?_
        refine r_no' rfl rfl h2 ?_
        refine r_no' rfl rfl h2 ?_
        refine r_no' rfl rfl h2 ?_
        refine r_y rfl rfl (y_pickf rfl h2 rfl) ?_
        refine r_y rfl rfl (y_move rfl) ?_
        refine r_no' rfl rfl rfl ?_
        refine r_no' rfl rfl rfl ?_
        refine r_no' rfl rfl rfl ?_
        refine r_no' rfl rfl rfl ?_
        refine r_no' rfl rfl rfl ?_
        refine r_y rfl rfl (y_pickf rfl rfl rfl) ?_
        refine r_y rfl rfl (y_move rfl) ?_
        refine r_no' rfl rfl rfl ?_
        refine r_no' rfl rfl rfl ?_
        refine r_no' rfl rfl rfl ?_
        refine r_no' rfl rfl rfl ?_
        refine r_no' rfl rfl rfl ?_
        refine r_y rfl rfl (y_pickf rfl rfl rfl) ?_
        refine r_y rfl rfl (y_move rfl) ?_
        refine r_no' rfl rfl rfl ?_
        refine r_no' rfl rfl rfl ?_
        refine r_no' rfl rfl rfl ?_
        refine r_no' rfl rfl rfl ?_
        refine r_no' rfl rfl rfl ?_
        refine r_y rfl rfl (y_pickf rfl rfl rfl) ?_
        refine r_y rfl rfl (y_move rfl) ?_
        refine r_no' rfl rfl rfl ?_
        refine r_no' rfl rfl rfl ?_
        refine r_no' rfl rfl rfl ?_
        refine r_no' rfl rfl rfl ?_
        refine r_no' rfl rfl rfl ?_
        refine r_y rfl rfl (y_pickf rfl rfl rfl) ?_
        refine r_y rfl rfl (y_assign rfl) ?_
        refine r_nil ?_
        refine hK1 _ _ _ ?_
        clear hK1 K1
        refine c_ret ?_
        refine e_ret 2 hm (res_tmps rfl) ?_
        cases a; cases b
        refine ⟨congrArg Value.bool ?_, rfl⟩
        first | (simp_all [ceq_cube]; done) | (simp_all [ceq_cube]; omega) | (simp_all [ceq_cube]; intros; omega) | (rw [Bool.eq_iff_iff]; simp_all [ceq_cube]; done)
    ·
      refine r_no' rfl rfl h1 ?_
      refine r_no' rfl rfl h1 ?_
      refine r_no' rfl rfl h1 ?_
      refine r_no' rfl rfl h1 ?_
      refine r_no' rfl rfl h1 ?_
      refine r_y rfl rfl (y_pickf rfl h1 rfl) ?_
      refine r_y rfl rfl (y_move rfl) ?_
      refine r_no' rfl rfl rfl ?_
      refine r_no' rfl rfl rfl ?_
      refine r_no' rfl rfl rfl ?_
      refine r_no' rfl rfl rfl ?_
      refine r_no' rfl rfl rfl ?_
      refine r_y rfl rfl (y_pickf rfl rfl rfl) ?_
      refine r_y rfl rfl (y_move rfl) ?_
      refine r_no' rfl rfl rfl ?_
      refine r_no' rfl rfl rfl ?_
      refine r_no' rfl rfl rfl ?_
      refine r_no' rfl rfl rfl ?_
      refine r_no' rfl rfl rfl ?_
      refine r_y rfl rfl (y_pickf rfl rfl rfl) ?_
      refine r_y rfl rfl (y_move rfl) ?_
      refine r_no' rfl rfl rfl ?_
      refine r_no' rfl rfl rfl ?_
      refine r_no' rfl rfl rfl ?_
      refine r_no' rfl rfl rfl ?_
      refine r_no' rfl rfl rfl ?_
      refine r_y rfl rfl (y_pickf rfl rfl rfl) ?_
      refine r_y rfl rfl (y_move rfl) ?_
      refine r_no' rfl rfl rfl ?_
      refine r_no' rfl rfl rfl ?_
      refine r_no' rfl rfl rfl ?_
      refine r_no' rfl rfl rfl ?_
      refine r_no' rfl rfl rfl ?_
      refine r_y rfl rfl (y_pickf rfl rfl rfl) ?_
      refine r_y rfl rfl (y_move rfl) ?_
      refine r_no' rfl rfl rfl ?_
      refine r_no' rfl rfl rfl ?_
      refine r_no' rfl rfl rfl ?_
      refine r_no' rfl rfl rfl ?_
      refine r_no' rfl rfl rfl ?_
      refine r_y rfl rfl (y_pickf rfl rfl rfl) ?_
      refine r_y rfl rfl (y_assign rfl) ?_
      refine r_nil ?_
      refine hK1 _ _ _ ?_
      clear hK1 K1
      refine c_ret ?_
      refine e_ret 2 hm (res_tmps rfl) ?_
      cases a; cases b
      refine ⟨congrArg Value.bool ?_, rfl⟩
      first | (simp_all [ceq_cube]; done) | (simp_all [ceq_cube]; omega) | (simp_all [ceq_cube]; intros; omega) | (rw [Bool.eq_iff_iff]; simp_all [ceq_cube]; done)
  ·
    refine r_no' rfl rfl h0 ?_
    refine r_no' rfl rfl h0 ?_
    refine r_no' rfl rfl h0 ?_
    refine r_no' rfl rfl h0 ?_
    refine r_no' rfl rfl h0 ?_
    refine r_y rfl rfl (y_pickf rfl h0 rfl) ?_
    refine r_y rfl rfl (y_move rfl) ?_
    refine r_no' rfl rfl rfl ?_
    refine r_no' rfl rfl rfl ?_
    refine r_no' rfl rfl rfl ?_
    refine r_no' rfl rfl rfl ?_
    refine r_no' rfl rfl rfl ?_
    refine r_y rfl rfl (y_pickf rfl rfl rfl) ?_
    refine r_y rfl rfl (y_move rfl) ?_
    refine r_no' rfl rfl rfl ?_
    refine r_no' rfl rfl rfl ?_
    refine r_no' rfl rfl rfl ?_
    refine r_no' rfl rfl rfl ?_
    refine r_no' rfl rfl rfl ?_
    refine r_y rfl rfl (y_pickf rfl rfl rfl) ?_
    refine r_y rfl rfl (y_move rfl) ?_
    refine r_no' rfl rfl rfl ?_
    refine r_no' rfl rfl rfl ?_
    refine r_no' rfl rfl rfl ?_
    refine r_no' rfl rfl rfl ?_
    refine r_no' rfl rfl rfl ?_
    refine r_y rfl rfl (y_pickf rfl rfl rfl) ?_
    refine r_y rfl rfl (y_move rfl) ?_
    refine r_no' rfl rfl rfl ?_
    refine r_no' rfl rfl rfl ?_
    refine r_no' rfl rfl rfl ?_
    refine r_no' rfl rfl rfl ?_
    refine r_no' rfl rfl rfl ?_
    refine r_y rfl rfl (y_pickf rfl rfl rfl) ?_
    refine r_y rfl rfl (y_move rfl) ?_
    refine r_no' rfl rfl rfl ?_
    refine r_no' rfl rfl rfl ?_
    refine r_no' rfl rfl rfl ?_
    refine r_no' rfl rfl rfl ?_
    refine r_no' rfl rfl rfl ?_
    refine r_y rfl rfl (y_pickf rfl rfl rfl) ?_
    refine r_y rfl rfl (y_move rfl) ?_
    refine r_no' rfl rfl rfl ?_
    refine r_no' rfl rfl rfl ?_
    refine r_no' rfl rfl rfl ?_
    refine r_no' rfl rfl rfl ?_
    refine r_no' rfl rfl rfl ?_
    refine r_y rfl rfl (y_pickf rfl rfl rfl) ?_
    refine r_y rfl rfl (y_assign rfl) ?_
    refine r_nil ?_
    refine hK1 _ _ _ ?_
    clear hK1 K1
    refine c_ret ?_
    refine e_ret 2 hm (res_tmps rfl) ?_
    cases a; cases b
    refine ⟨congrArg Value.bool ?_, rfl⟩
    first | (simp_all [ceq_cube]; done) | (simp_all [ceq_cube]; omega) | (simp_all [ceq_cube]; intros; omega) | (rw [Bool.eq_iff_iff]; simp_all [ceq_cube]; done)
set_option maxRecDepth 100000 in
theorem rKey_w (a b : RuleD) (s1 s2 : Sl) (m : Snap) (H : Hp) : Fn Try.prog 85 [.agg (encRule a s1).toArray, .agg (encRule b s2).toArray] m H (fun v _ H' => v = .bool (decide (a.m = b.m) && (a.prio == b.prio)) ∧ H' = H) := by
  have hm : m.le m := Snap.le.refl m
  refine fn_end Try.func85 rfl rfl rfl ?_
  refine c_seq (fun K0 hK0 => ?_)
  refine c_region ?_
  refine r_s rfl ?_
  refine s_box_a rfl rfl (fun b0 => ?_)
  refine r_s rfl ?_
  refine s_box_a rfl rfl (fun b1 => ?_)
  refine r_y rfl rfl (y_assign rfl) ?_
  refine r_nil ?_
  refine hK0 _ _ _ ?_
  clear hK0 K0
  refine c_seq (fun K1 hK1 => ?_)
  refine c_region ?_
  refine r_y rfl rfl (y_fieldAddr rfl At.lit fo50_0 rfl) ?_
  refine r_y rfl rfl (y_load_a (cs := encCube a.m) rfl ts29 (RdA.blk (i := 1) rfl rfl)) ?_
  refine r_y rfl rfl (y_fieldAddr rfl At.lit fo50_0 rfl) ?_
  refine r_y rfl rfl (y_load_a (cs := encCube b.m) rfl ts29 (RdA.blk (i := 0) rfl rfl)) ?_
  refine r_y rfl rfl (y_eqagg (dd := 6)  rfl rfl en29 ia29 rfl Try.eqGuardType29 rfl (alike_cube a.m b.m)) ?_
  refine r_y rfl rfl (y_move rfl) ?_
  refine r_split (j := 5) rfl (fun h0 => ?_) (fun h0 => ?_)
  ·
    refine r_yg rfl h0 rfl (y_fieldAddr rfl At.lit fo50_1 rfl) ?_
    refine r_yg rfl h0 rfl (y_load_s rfl ts3 (RdS.blk (i := 1) rfl rfl)) ?_
    refine r_yg rfl h0 rfl (y_fieldAddr rfl At.lit fo50_1 rfl) ?_
    refine r_yg rfl h0 rfl (y_load_s rfl ts3 (RdS.blk (i := 0) rfl rfl)) ?_
    refine r_yg rfl h0 rfl (y_iop rfl rfl rfl) ?_
    refine r_y rfl rfl (y_pickt rfl h0 rfl) ?_
    refine r_y rfl rfl (y_assign rfl) ?_
    refine r_nil ?_
    refine hK1 _ _ _ ?_
    clear hK1 K1
    refine c_ret ?_
    refine e_ret 2 hm (res_tmps rfl) ?_
    refine ⟨congrArg Value.bool ?_, rfl⟩
    first | (simp_all [ceq_cube]; done) | (simp_all [ceq_cube]; omega) | (simp_all [ceq_cube]; intros; omega) | (rw [Bool.eq_iff_iff]; simp_all [ceq_cube]; done)
  ·
    refine r_no' rfl rfl h0 ?_
    refine r_no' rfl rfl h0 ?_
    refine r_no' rfl rfl h0 ?_
    refine r_no' rfl rfl h0 ?_
    refine r_no' rfl rfl h0 ?_
    refine r_y rfl rfl (y_pickf rfl h0 rfl) ?_
    refine r_y rfl rfl (y_assign rfl) ?_
    refine r_nil ?_
    refine hK1 _ _ _ ?_
    clear hK1 K1
    refine c_ret ?_
    refine e_ret 2 hm (res_tmps rfl) ?_
    refine ⟨congrArg Value.bool ?_, rfl⟩
    first | (simp_all [ceq_cube]; done) | (simp_all [ceq_cube]; omega) | (simp_all [ceq_cube]; intros; omega) | (rw [Bool.eq_iff_iff]; simp_all [ceq_cube]; done)
set_option maxRecDepth 100000 in
theorem rEqual_w (a b : RuleD) (s1 s2 : Sl) (m : Snap) (H : Hp) (hz1 : FzA m s1 a.acts) (hz2 : FzA m s2 b.acts) : Fn Try.prog 89 [.agg (encRule a s1).toArray, .agg (encRule b s2).toArray] m H (fun v _ H' => v = .bool (decide (a = b)) ∧ H' = H) := by
  have hm : m.le m := Snap.le.refl m
  refine fn_end Try.func89 rfl rfl rfl ?_
  refine c_seq (fun K0 hK0 => ?_)
  refine c_region ?_
  refine r_s rfl ?_
  refine s_box_a rfl rfl (fun b0 => ?_)
  refine r_s rfl ?_
  refine s_box_a rfl rfl (fun b1 => ?_)
  refine r_y rfl rfl (y_assign rfl) ?_
  refine r_nil ?_
  refine hK0 _ _ _ ?_
  clear hK0 K0
  refine c_seq (fun K1 hK1 => ?_)
  refine c_region ?_
  refine r_y rfl rfl (y_load_a (cs := encRule a s1) rfl ts50 (RdA.blk (i := 1) rfl rfl)) ?_
  refine r_y rfl rfl (y_load_a (cs := encRule b s2) rfl ts50 (RdA.blk (i := 0) rfl rfl)) ?_
  refine r_s rfl ?_
  refine s_call0 rfl Try.call85 rfl (rKey_w a b s1 s2 _ _) ?_
  rintro _ m2 _ hm2 ⟨rfl, rfl⟩
  replace hm := hm.trans hm2
  replace hz1 := hz1.mono hm2
  replace hz2 := hz2.mono hm2
  clear hm2
  refine r_y rfl rfl (y_move rfl) ?_
  refine r_split (j := 3) rfl (fun h0 => ?_) (fun h0 => ?_)
  ·
    refine r_yg rfl h0 rfl (y_fieldAddr rfl At.lit fo50_2 rfl) ?_
    refine r_yg rfl h0 rfl (y_load_s rfl ts30 (RdS.blk (i := 1) rfl rfl)) ?_
    refine r_yg rfl h0 rfl (y_fieldAddr rfl At.lit fo50_2 rfl) ?_
    refine r_yg rfl h0 rfl (y_load_s rfl ts30 (RdS.blk (i := 0) rfl rfl)) ?_
    refine r_sg rfl h0 ?_
    refine s_call0 rfl Try.call100 rfl (rSameActs_w s1 s2 a.acts b.acts _ _ hz1 hz2) ?_
    rintro _ m2 _ hm2 ⟨rfl, rfl⟩
    replace hm := hm.trans hm2
    replace hz1 := hz1.mono hm2
    replace hz2 := hz2.mono hm2
    clear hm2
    refine r_y rfl rfl (y_pickt rfl h0 rfl) ?_
    refine r_y rfl rfl (y_move rfl) ?_
    refine r_split (j := 10) rfl (fun h1 => ?_) (fun h1 => ?_)
    ·
      refine r_yg rfl h1 rfl (y_fieldAddr rfl At.lit fo50_3 rfl) ?_
      refine r_yg rfl h1 rfl (y_load_s rfl ts3 (RdS.blk (i := 1) rfl rfl)) ?_
      refine r_yg rfl h1 rfl (y_fieldAddr rfl At.lit fo50_3 rfl) ?_
      refine r_yg rfl h1 rfl (y_load_s rfl ts3 (RdS.blk (i := 0) rfl rfl)) ?_
      refine r_yg rfl h1 rfl (y_iop rfl rfl rfl) ?_
      refine r_y rfl rfl (y_pickt rfl h1 rfl) ?_
      refine r_y rfl rfl (y_move rfl) ?_
      refine r_split (j := 17) rfl (fun h2 => ?_) (fun h2 => ?_)
      ·
        refine r_yg rfl h2 rfl (y_fieldAddr rfl At.lit fo50_4 rfl) ?_
        refine r_yg rfl h2 rfl (y_load_s rfl ts3 (RdS.blk (i := 1) rfl rfl)) ?_
        refine r_yg rfl h2 rfl (y_fieldAddr rfl At.lit fo50_4 rfl) ?_
        refine r_yg rfl h2 rfl (y_load_s rfl ts3 (RdS.blk (i := 0) rfl rfl)) ?_
        refine r_yg rfl h2 rfl (y_iop rfl rfl rfl) ?_
        refine r_y rfl rfl (y_pickt rfl h2 rfl) ?_
        refine r_y rfl rfl (y_move rfl) ?_
        refine r_split (j := 24) rfl (fun h3 => ?_) (fun h3 => ?_)
        ·
          refine r_yg rfl h3 rfl (y_fieldAddr rfl At.lit fo50_5 rfl) ?_
          refine r_yg rfl h3 rfl (y_load_s rfl ts3 (RdS.blk (i := 1) rfl rfl)) ?_
          refine r_yg rfl h3 rfl (y_fieldAddr rfl At.lit fo50_5 rfl) ?_
          refine r_yg rfl h3 rfl (y_load_s rfl ts3 (RdS.blk (i := 0) rfl rfl)) ?_
          refine r_yg rfl h3 rfl (y_iop rfl rfl rfl) ?_
          refine r_y rfl rfl (y_pickt rfl h3 rfl) ?_
          refine r_y rfl rfl (y_move rfl) ?_
          refine r_split (j := 31) rfl (fun h4 => ?_) (fun h4 => ?_)
          ·
            refine r_yg rfl h4 rfl (y_fieldAddr rfl At.lit fo50_6 rfl) ?_
            refine r_yg rfl h4 rfl (y_load_s rfl ts3 (RdS.blk (i := 1) rfl rfl)) ?_
            refine r_yg rfl h4 rfl (y_fieldAddr rfl At.lit fo50_6 rfl) ?_
            refine r_yg rfl h4 rfl (y_load_s rfl ts3 (RdS.blk (i := 0) rfl rfl)) ?_
            refine r_yg rfl h4 rfl (y_iop rfl rfl rfl) ?_
            refine r_y rfl rfl (y_pickt rfl h4 rfl) ?_
            refine r_y rfl rfl (y_move rfl) ?_
            refine r_split (j := 38) rfl (fun h5 => ?_) (fun h5 => ?_)
            ·
              refine r_yg rfl h5 rfl (y_fieldAddr rfl At.lit fo50_7 rfl) ?_
              refine r_yg rfl h5 rfl (y_load_s rfl ts3 (RdS.blk (i := 1) rfl rfl)) ?_
              refine r_yg rfl h5 rfl (y_fieldAddr rfl At.lit fo50_7 rfl) ?_
              refine r_yg rfl h5 rfl (y_load_s rfl ts3 (RdS.blk (i := 0) rfl rfl)) ?_
              refine r_yg rfl h5 rfl (y_iop rfl rfl rfl) ?_
              refine r_y rfl rfl (y_pickt rfl h5 rfl) ?_
              refine r_y rfl rfl (y_move rfl) ?_
              refine r_split (j := 45) rfl (fun h6 => ?_) (fun h6 => ?_)
              ·
                refine r_yg rfl h6 rfl (y_fieldAddr rfl At.lit fo50_8 rfl) ?_
                refine r_yg rfl h6 rfl (y_load_s rfl ts3 (RdS.blk (i := 1) rfl rfl)) ?_
                refine r_yg rfl h6 rfl (y_fieldAddr rfl At.lit fo50_8 rfl) ?_
                refine r_yg rfl h6 rfl (y_load_s rfl ts3 (RdS.blk (i := 0) rfl rfl)) ?_
                refine r_yg rfl h6 rfl (y_iop rfl rfl rfl) ?_
                refine r_y rfl rfl (y_pickt rfl h6 rfl) ?_
                refine r_y rfl rfl (y_assign rfl) ?_
                refine r_nil ?_
                refine hK1 _ _ _ ?_
                clear hK1 K1
                refine c_ret ?_
                refine e_ret 2 hm (res_tmps rfl) ?_
                cases a; cases b
                refine ⟨congrArg Value.bool ?_, rfl⟩
                first | (simp_all [ceq_cube]; done) | (simp_all [ceq_cube]; omega) | (simp_all [ceq_cube]; intros; omega) | (rw [Bool.eq_iff_iff]; simp_all [ceq_cube]; done)
              ·
                refine r_no' rfl rfl h6 ?_
                refine r_no' rfl rfl h6 ?_
                refine r_no' rfl rfl h6 ?_
                refine r_no' rfl rfl h6 ?_
                refine r_no' rfl rfl h6 ?_
                refine r_y rfl rfl (y_pickf rfl h6 rfl) ?_
                refine r_y rfl rfl (y_assign rfl) ?_
                refine r_nil ?_
                refine hK1 _ _ _ ?_
                clear hK1 K1
                refine c_ret ?_
                refine e_ret 2 hm (res_tmps rfl) ?_
                cases a; cases b
                refine ⟨congrArg Value.bool ?_, rfl⟩
                first | (simp_all [ceq_cube]; done) | (simp_all [ceq_cube]; omega) | (simp_all [ceq_cube]; intros; omega) | (rw [Bool.eq_iff_iff]; simp_all [ceq_cube]; done)
            ·
              refine r_no' rfl rfl h5 ?_
              refine r_no' rfl rfl h5 ?_
              refine r_no' rfl rfl h5 ?_
              refine r_no' rfl rfl h5 ?_
              refine r_no' rfl rfl h5 ?_
              refine r_y rfl rfl (y_pickf rfl h5 rfl) ?_
              refine r_y rfl rfl (y_move rfl) ?_
              refine r_no' rfl rfl rfl ?_
              refine r_no' rfl rfl rfl ?_
              refine r_no' rfl rfl rfl ?_
              refine r_no' rfl rfl rfl ?_
              refine r_no' rfl rfl rfl ?_
              refine r_y rfl rfl (y_pickf rfl rfl rfl) ?_
              refine r_y rfl rfl (y_assign rfl) ?_
              refine r_nil ?_
              refine hK1 _ _ _ ?_
              clear hK1 K1
              refine c_ret ?_
              refine e_ret 2 hm (res_tmps rfl) ?_
              cases a; cases b
              refine ⟨congrArg Value.bool ?_, rfl⟩
              first | (simp_all [ceq_cube]; done) | (simp_all [ceq_cube]; omega) | (simp_all [ceq_cube]; intros; omega) | (rw [Bool.eq_iff_iff]; simp_all [ceq_cube]; done)
          ·
            refine r_no' rfl rfl h4 ?_
            refine r_no' rfl rfl h4 ?_
            refine r_no' rfl rfl h4 ?_
            refine r_no' rfl rfl h4 ?_
            refine r_no' rfl rfl h4 ?_
            refine r_y rfl rfl (y_pickf rfl h4 rfl) ?_
            refine r_y rfl rfl (y_move rfl) ?_
            refine r_no' rfl rfl rfl ?_
            refine r_no' rfl rfl rfl ?_
            refine r_no' rfl rfl rfl ?_
            refine r_no' rfl rfl rfl ?_
            refine r_no' rfl rfl rfl ?_
            refine r_y rfl rfl (y_pickf rfl rfl rfl) ?_
            refine r_y rfl rfl (y_move rfl) ?_
            refine r_no' rfl rfl rfl ?_
            refine r_no' rfl rfl rfl ?_
            refine r_no' rfl rfl rfl ?_
            refine r_no' rfl rfl rfl ?_
            refine r_no' rfl rfl rfl ?_
            refine r_y rfl rfl (y_pickf rfl rfl rfl) ?_
            refine r_y rfl rfl (y_assign rfl) ?_
            refine r_nil ?_
            refine hK1 _ _ _ ?_
            clear hK1 K1
            refine c_ret ?_
            refine e_ret 2 hm (res_tmps rfl) ?_
            cases a; cases b
            refine ⟨congrArg Value.bool ?_, rfl⟩
            first | (simp_all [ceq_cube]; done) | (simp_all [ceq_cube]; omega) | (simp_all [ceq_cube]; intros; omega) | (rw [Bool.eq_iff_iff]; simp_all [ceq_cube]; done)
        ·
          refine r_no' rfl rfl h3 ?_
          refine r_no' rfl rfl h3 ?_
          refine r_no' rfl rfl h3 ?_
          refine r_no' rfl rfl h3 ?_
          refine r_no' rfl rfl h3 ?_
          refine r_y rfl rfl (y_pickf rfl h3 rfl) ?_
          refine r_y rfl rfl (y_move rfl) ?_
          refine r_no' rfl rfl rfl ?_
          refine r_no' rfl rfl rfl ?_
          refine r_no' rfl rfl rfl ?_
          refine r_no' rfl rfl rfl ?_
          refine r_no' rfl rfl rfl ?_
          refine r_y rfl rfl (y_pickf rfl rfl rfl) ?_
          refine r_y rfl rfl (y_move rfl) ?_
          refine r_no' rfl rfl rfl ?_
          refine r_no' rfl rfl rfl ?_
          refine r_no' rfl rfl rfl ?_
          refine r_no' rfl rfl rfl ?_
          refine r_no' rfl rfl rfl ?_
          refine r_y rfl rfl (y_pickf rfl rfl rfl) ?_
          refine r_y rfl rfl (y_move rfl) ?_
          refine r_no' rfl rfl rfl ?_
          refine r_no' rfl rfl rfl ?_
          refine r_no' rfl rfl rfl ?_
          refine r_no' rfl rfl rfl ?_
          refine r_no' rfl rfl rfl ?_
          refine r_y rfl rfl (y_pickf rfl rfl rfl) ?_
          refine r_y rfl rfl (y_assign rfl) ?_
          refine r_nil ?_
          refine hK1 _ _ _ ?_
          clear hK1 K1
          refine c_ret ?_
          refine e_ret 2 hm (res_tmps rfl) ?_
          cases a; cases b
          refine ⟨congrArg Value.bool ?_, rfl⟩
          first | (simp_all [ceq_cube]; done) | (simp_all [ceq_cube]; omega) | (simp_all [ceq_cube]; intros; omega) | (rw [Bool.eq_iff_iff]; simp_all [ceq_cube]; done)
      ·
        refine r_no' rfl rfl h2 ?_
        refine r_no' rfl rfl h2 ?_
        refine r_no' rfl rfl h2 ?_
        refine r_no' rfl rfl h2 ?_
        refine r_no' rfl rfl h2 ?_
        refine r_y rfl rfl (y_pickf rfl h2 rfl) ?_
        refine r_y rfl rfl (y_move rfl) ?_
        refine r_no' rfl rfl rfl ?_
        refine r_no' rfl rfl rfl ?_
        refine r_no' rfl rfl rfl ?_
        refine r_no' rfl rfl rfl ?_
        refine r_no' rfl rfl rfl ?_
        refine r_y rfl rfl (y_pickf rfl rfl rfl) ?_
        refine r_y rfl rfl (y_move rfl) ?_
        refine r_no' rfl rfl rfl ?_
        refine r_no' rfl rfl rfl ?_
        refine r_no' rfl rfl rfl ?_
        refine r_no' rfl rfl rfl ?_
        refine r_no' rfl rfl rfl ?_
        refine r_y rfl rfl (y_pickf rfl rfl rfl) ?_
        refine r_y rfl rfl (y_move rfl) ?_
        refine r_no' rfl rfl rfl ?_
        refine r_no' rfl rfl rfl ?_
        refine r_no' rfl rfl rfl ?_
        refine r_no' rfl rfl rfl ?_
        refine r_no' rfl rfl rfl ?_
        refine r_y rfl rfl (y_pickf rfl rfl rfl) ?_
        refine r_y rfl rfl (y_move rfl) ?_
        refine r_no' rfl rfl rfl ?_
        refine r_no' rfl rfl rfl ?_
        refine r_no' rfl rfl rfl ?_
        refine r_no' rfl rfl rfl ?_
        refine r_no' rfl rfl rfl ?_
        refine r_y rfl rfl (y_pickf rfl rfl rfl) ?_
        refine r_y rfl rfl (y_assign rfl) ?_
        refine r_nil ?_
        refine hK1 _ _ _ ?_
        clear hK1 K1
        refine c_ret ?_
        refine e_ret 2 hm (res_tmps rfl) ?_
        cases a; cases b
        refine ⟨congrArg Value.bool ?_, rfl⟩
        first | (simp_all [ceq_cube]; done) | (simp_all [ceq_cube]; omega) | (simp_all [ceq_cube]; intros; omega) | (rw [Bool.eq_iff_iff]; simp_all [ceq_cube]; done)
    ·
      refine r_no' rfl rfl h1 ?_
      refine r_no' rfl rfl h1 ?_
      refine r_no' rfl rfl h1 ?_
      refine r_no' rfl rfl h1 ?_
      refine r_no' rfl rfl h1 ?_
      refine r_y rfl rfl (y_pickf rfl h1 rfl) ?_
      refine r_y rfl rfl (y_move rfl) ?_
      refine r_no' rfl rfl rfl ?_
      refine r_no' rfl rfl rfl ?_
      refine r_no' rfl rfl rfl ?_
      refine r_no' rfl rfl rfl ?_
      refine r_no' rfl rfl rfl ?_
      refine r_y rfl rfl (y_pickf rfl rfl rfl) ?_
      refine r_y rfl rfl (y_move rfl) ?_
      refine r_no' rfl rfl rfl ?_
      refine r_no' rfl rfl rfl ?_
      refine r_no' rfl rfl rfl ?_
      refine r_no' rfl rfl rfl ?_
      refine r_no' rfl rfl rfl ?_
      refine r_y rfl rfl (y_pickf rfl rfl rfl) ?_
      refine r_y rfl rfl (y_move rfl) ?_
      refine r_no' rfl rfl rfl ?_
      refine r_no' rfl rfl rfl ?_
      refine r_no' rfl rfl rfl ?_
      refine r_no' rfl rfl rfl ?_
      refine r_no' rfl rfl rfl ?_
      refine r_y rfl rfl (y_pickf rfl rfl rfl) ?_
      refine r_y rfl rfl (y_move rfl) ?_
      refine r_no' rfl rfl rfl ?_
      refine r_no' rfl rfl rfl ?_
      refine r_no' rfl rfl rfl ?_
      refine r_no' rfl rfl rfl ?_
      refine r_no' rfl rfl rfl ?_
      refine r_y rfl rfl (y_pickf rfl rfl rfl) ?_
      refine r_y rfl rfl (y_move rfl) ?_
      refine r_no' rfl rfl rfl ?_
      refine r_no' rfl rfl rfl ?_
      refine r_no' rfl rfl rfl ?_
      refine r_no' rfl rfl rfl ?_
      refine r_no' rfl rfl rfl ?_
      refine r_y rfl rfl (y_pickf rfl rfl rfl) ?_
      refine r_y rfl rfl (y_assign rfl) ?_
      refine r_nil ?_
      refine hK1 _ _ _ ?_
      clear hK1 K1
      refine c_ret ?_
      refine e_ret 2 hm (res_tmps rfl) ?_
      cases a; cases b
      refine ⟨congrArg Value.bool ?_, rfl⟩
      first | (simp_all [ceq_cube]; done) | (simp_all [ceq_cube]; omega) | (simp_all [ceq_cube]; intros; omega) | (rw [Bool.eq_iff_iff]; simp_all [ceq_cube]; done)
  ·
    refine r_no' rfl rfl h0 ?_
    refine r_no' rfl rfl h0 ?_
    refine r_no' rfl rfl h0 ?_
    refine r_no' rfl rfl h0 ?_
    refine r_no' rfl rfl h0 ?_
    refine r_y rfl rfl (y_pickf rfl h0 rfl) ?_
    refine r_y rfl rfl (y_move rfl) ?_
    refine r_no' rfl rfl rfl ?_
    refine r_no' rfl rfl rfl ?_
    refine r_no' rfl rfl rfl ?_
    refine r_no' rfl rfl rfl ?_
    refine r_no' rfl rfl rfl ?_
    refine r_y rfl rfl (y_pickf rfl rfl rfl) ?_
    refine r_y rfl rfl (y_move rfl) ?_
    refine r_no' rfl rfl rfl ?_
    refine r_no' rfl rfl rfl ?_
    refine r_no' rfl rfl rfl ?_
    refine r_no' rfl rfl rfl ?_
    refine r_no' rfl rfl rfl ?_
    refine r_y rfl rfl (y_pickf rfl rfl rfl) ?_
    refine r_y rfl rfl (y_move rfl) ?_
    refine r_no' rfl rfl rfl ?_
    refine r_no' rfl rfl rfl ?_
    refine r_no' rfl rfl rfl ?_
    refine r_no' rfl rfl rfl ?_
    refine r_no' rfl rfl rfl ?_
    refine r_y rfl rfl (y_pickf rfl rfl rfl) ?_
    refine r_y rfl rfl (y_move rfl) ?_
    refine r_no' rfl rfl rfl ?_
    refine r_no' rfl rfl rfl ?_
    refine r_no' rfl rfl rfl ?_
    refine r_no' rfl rfl rfl ?_
    refine r_no' rfl rfl rfl ?_
    refine r_y rfl rfl (y_pickf rfl rfl rfl) ?_
    refine r_y rfl rfl (y_move rfl) ?_
    refine r_no' rfl rfl rfl ?_
    refine r_no' rfl rfl rfl ?_
    refine r_no' rfl rfl rfl ?_
    refine r_no' rfl rfl rfl ?_
    refine r_no' rfl rfl rfl ?_
    refine r_y rfl rfl (y_pickf rfl rfl rfl) ?_
    refine r_y rfl rfl (y_move rfl) ?_
    refine r_no' rfl rfl rfl ?_
    refine r_no' rfl rfl rfl ?_
    refine r_no' rfl rfl rfl ?_
    refine r_no' rfl rfl rfl ?_
    refine r_no' rfl rfl rfl ?_
    refine r_y rfl rfl (y_pickf rfl rfl rfl) ?_
    refine r_y rfl rfl (y_assign rfl) ?_
    refine r_nil ?_
    refine hK1 _ _ _ ?_
    clear hK1 K1
    refine c_ret ?_
    refine e_ret 2 hm (res_tmps rfl) ?_
    cases a; cases b
    refine ⟨congrArg Value.bool ?_, rfl⟩
    first | (simp_all [ceq_cube]; done) | (simp_all [ceq_cube]; omega) | (simp_all [ceq_cube]; intros; omega) | (rw [Bool.eq_iff_iff]; simp_all [ceq_cube]; done)
set_option maxRecDepth 100000 in
theorem rSize_w (n : Int) (m : Snap) (H : Hp) : Fn Try.prog 117 [.int .i64 n] m H (fun v _ H' => v = .int .i64 (hsz n : Nat) ∧ H' = H) := by
  have hm : m.le m := Snap.le.refl m
  refine fn_end Try.func117 rfl rfl rfl ?_
  refine c_seq (fun K0 hK0 => ?_)
  refine c_region ?_
  refine r_y rfl rfl (y_assign rfl) ?_
  refine r_nil ?_
  refine hK0 _ _ _ ?_
  clear hK0 K0
  refine c_seq (fun K1 hK1 => ?_)
  refine c_seq (fun K2 hK2 => ?_)
  refine c_region ?_
  refine r_y rfl rfl (y_move rfl) ?_
  refine r_y rfl rfl (y_iop rfl rfl rfl) ?_
  refine r_y rfl rfl (y_move rfl) ?_
  refine r_split (j := 2) rfl (fun h0 => ?_) (fun h0 => ?_)
  ·
    refine r_no' rfl rfl h0 ?_
    refine r_no' rfl rfl h0 ?_
    refine r_y rfl rfl (y_pickt rfl h0 rfl) ?_
    refine r_nil ?_
    refine hK2 _ _ _ ?_
    clear hK2 K2
    refine c_ift rfl rfl ?_
    refine c_seq (fun K3 hK3 => ?_)
    refine c_region ?_
    refine r_y rfl rfl (y_assign rfl) ?_
    refine r_nil ?_
    refine hK3 _ _ _ ?_
    clear hK3 K3
    refine c_ret ?_
    refine e_ret 0 hm (res_tmps rfl) ?_
    have ht : there n = false := by simp [there]; simp_all; try omega
    refine ⟨?_, rfl⟩
    simp [hsz, ht]
  ·
    refine r_yg rfl h0 rfl (y_move rfl) ?_
    refine r_yg rfl h0 rfl (y_iop rfl rfl rfl) ?_
    refine r_y rfl rfl (y_pickf rfl h0 rfl) ?_
    refine r_nil ?_
    refine hK2 _ _ _ ?_
    clear hK2 K2
    refine c_cond rfl (fun h1 => ?_) (fun h1 => ?_)
    ·
      refine c_seq (fun K4 hK4 => ?_)
      refine c_region ?_
      refine r_y rfl rfl (y_assign rfl) ?_
      refine r_nil ?_
      refine hK4 _ _ _ ?_
      clear hK4 K4
      refine c_ret ?_
      refine e_ret 0 hm (res_tmps rfl) ?_
      have ht : there n = false := by simp [there]; simp_all; try omega
      refine ⟨?_, rfl⟩
      simp [hsz, ht]
    ·
      obtain ⟨k, hk, rfl⟩ : ∃ k : Nat, k < 12 ∧ n = k := ⟨n.toNat, by simp at *; omega, by simp at *; omega⟩
      refine c_skip ?_
      refine hK1 _ _ _ ?_
      clear hK1 K1
      refine c_seq (fun K5 hK5 => ?_)
      refine c_region ?_
      refine r_s rfl ?_
      refine s_buildSlice (cs := (size12.map fun n => i64 ((n : Nat) : Int))) (e := 3) rfl rfl (fun _ => by kernel_rfl) (fun b0 => ?_)
      refine r_y rfl rfl (y_move rfl) ?_
      refine r_y rfl rfl (y_indexAddr_slice rfl rfl tl77 hk At.lit) ?_
      refine r_y rfl rfl (y_load_s rfl ts3 (RdS.blk (i := 0) rfl (cget_size k hk))) ?_
      refine r_y rfl rfl (y_assign rfl) ?_
      refine r_nil ?_
      refine hK5 _ _ _ ?_
      clear hK5 K5
      refine c_ret ?_
      refine e_ret 1 hm (res_tmps rfl) ?_
      rw [hsz_nat hk]
      exact ⟨rfl, rfl⟩
set_option maxRecDepth 100000 in
theorem rFits_w (x : W) (k : Nat) (m : Snap) (H : Hp) (hk : k ≤ 63) : Fn Try.prog 116 [wv x, .int .i64 (k : Nat)] m H (fun v _ H' => v = .bool ((x >>> k) == 0) ∧ H' = H) := by
  have hm : m.le m := Snap.le.refl m
  refine fn_end Try.func116 rfl rfl rfl ?_
  refine c_seq (fun K0 hK0 => ?_)
  refine c_region ?_
  refine r_y rfl rfl (y_assign rfl) ?_
  refine r_nil ?_
  refine hK0 _ _ _ ?_
  clear hK0 K0
  refine c_seq (fun K1 hK1 => ?_)
  refine c_region ?_
  refine r_y rfl rfl (y_move rfl) ?_
  refine r_y rfl rfl (y_move rfl) ?_
  refine r_y rfl rfl (y_conv_in rfl un3 un158 (by omega)) ?_
  refine r_y rfl rfl (y_wshl (a := 1#64) (b := k) rfl rfl (by omega)) ?_
  refine r_y rfl rfl (y_iop rfl rfl rfl) ?_
  refine r_y rfl rfl (y_assign rfl) ?_
  refine r_nil ?_
  refine hK1 _ _ _ ?_
  clear hK1 K1
  refine c_ret ?_
  refine e_ret 0 hm (res_tmps rfl) ?_
  rw [← fits_lt hk]
  exact ⟨rfl, rfl⟩
set_option maxRecDepth 100000 in
theorem rHead_w (h : Head) (m : Snap) (H : Hp) : Fn Try.prog 64 [.agg (encHead h).toArray] m H (fun v _ H' => v = .bool (headSound h) ∧ H' = H) := by
  have hm : m.le m := Snap.le.refl m
  refine fn_end Try.func64 rfl rfl rfl ?_
  refine c_seq (fun K0 hK0 => ?_)
  refine c_region ?_
  refine r_s rfl ?_
  refine s_box_a rfl rfl (fun b0 => ?_)
  refine r_y rfl rfl (y_assign rfl) ?_
  refine r_nil ?_
  refine hK0 _ _ _ ?_
  clear hK0 K0
  refine c_seq (fun K1 hK1 => ?_)
  refine c_seq (fun K2 hK2 => ?_)
  refine c_region ?_
  refine r_y rfl rfl (y_assign rfl) ?_
  refine r_nil ?_
  refine hK2 _ _ _ ?_
  clear hK2 K2
  refine c_block ?_
  refine c_loopx (α := Nat) (fun i => [(1, .pointer (some ⟨b0, 0, none⟩)), (3, .int .i64 (i : Nat))]) (fun i => .blk b0 (.cells (encHead h).toArray 27) :: H) (fun k0 i m1 => (i + k0 = 12 ∧ (List.range i).all (fun i => fits (i : Int) (h.at i)) = true) ∧ m.le m1) (12) 0 ⟨rfl, rfl, trivial⟩ rfl ⟨⟨by omega, rfl⟩, hm⟩ ?_
  clear hm
  rintro k0 i m1 ⟨hi0, hm⟩
  obtain ⟨hi, hinv⟩ := hi0
  refine c_seq (fun K3 hK3 => ?_)
  refine c_seq (fun K4 hK4 => ?_)
  refine c_region ?_
  refine r_y rfl rfl (y_move rfl) ?_
  refine r_y rfl rfl (y_iop rfl rfl rfl) ?_
  refine r_nil ?_
  refine hK4 _ _ _ ?_
  clear hK4 K4
  refine c_cond rfl (fun h0 => ?_) (fun h0 => ?_)
  ·
    have hlt : i < 12 := by simp at h0; omega
    refine c_skip ?_
    refine hK3 _ _ _ ?_
    clear hK3 K3
    refine c_seq (fun K5 hK5 => ?_)
    refine c_block ?_
    refine c_seq (fun K6 hK6 => ?_)
    refine c_draw ([.blk b0 (.cells (encHead h).toArray 27)]) (by kernel_rfl) (fun hg => ?_)
    refine g_y (i := 0) (listed' := #[true, false, false, false, false, false, false]) rfl (by kernel_rfl) (by kernel_rfl) (by kernel_rfl) (by kernel_rfl) rfl rfl hg (allc (List.Mem.head _) alln) (fun m' H' hm' hX' => y_move rfl) ?_
    refine g_y (i := 1) (listed' := #[true, true, false, false, false, false, false]) rfl (by kernel_rfl) (by kernel_rfl) (by kernel_rfl) (by kernel_rfl) rfl rfl hg (allc (List.Mem.head _) alln) (fun m' H' hm' hX' => y_indexAddr_arr rfl rfl ta27 hlt At.lit) ?_
    refine g_y (i := 2) (listed' := #[true, true, true, false, false, false, false]) rfl (by kernel_rfl) (by kernel_rfl) (by kernel_rfl) (by kernel_rfl) rfl rfl hg (allc (List.Mem.head _) alln) (fun m' H' hm' hX' => y_load_s rfl ts25 (RdS.mem (hX' _ (List.Mem.head _)) (cget_head0 _ _ hlt))) ?_
    refine g_y (i := 3) (listed' := #[true, true, true, true, false, false, false]) rfl (by kernel_rfl) (by kernel_rfl) (by kernel_rfl) (by kernel_rfl) rfl rfl hg (allc (List.Mem.head _) alln) (fun m' H' hm' hX' => y_move rfl) ?_
    refine g_s (i := 4) (listed' := #[true, true, true, true, true, false, false]) rfl (by kernel_rfl) (by kernel_rfl) rfl ?_
    refine s_call0 rfl Try.call117 rfl (rSize_w _ _ _) ?_
    rintro _ m2 _ hm2 ⟨rfl, rfl⟩
    replace hm := hm.trans hm2
    refine ⟨⟨hg.trans hm2, (allc (List.Mem.head _) alln)⟩, ?_⟩
    replace hg := hg.trans hm2
    clear hm2
    refine g_s (i := 5) (listed' := #[true, true, true, true, true, true, false]) rfl (by kernel_rfl) (by kernel_rfl) rfl ?_
    refine s_call0 rfl Try.call116 rfl (rFits_w _ _ _ _ (Nat.le_trans (hsz_le _) (by decide))) ?_
    rintro _ m2 _ hm2 ⟨rfl, rfl⟩
    replace hm := hm.trans hm2
    refine ⟨⟨hg.trans hm2, (allc (List.Mem.head _) alln)⟩, ?_⟩
    replace hg := hg.trans hm2
    clear hm2
    refine g_y (i := 6) (listed' := #[true, true, true, true, true, true, true]) rfl (by kernel_rfl) (by kernel_rfl) (by kernel_rfl) (by kernel_rfl) rfl rfl hg (allc (List.Mem.head _) alln) (fun m' H' hm' hX' => y_not rfl) ?_
    refine g_done (by kernel_rfl) ?_
    clear hg
    refine hK6 _ _ _ ?_
    clear hK6 K6
    refine c_cond rfl (fun h1 => ?_) (fun h1 => ?_)
    ·
      refine c_seq (fun K7 hK7 => ?_)
      refine c_region ?_
      refine r_y rfl rfl (y_assign rfl) ?_
      refine r_nil ?_
      refine hK7 _ _ _ ?_
      clear hK7 K7
      refine c_ret ?_
      refine e_ret 1 hm (res_tmps rfl) ?_
      exact ⟨congrArg Value.bool (all_range_false (by simpa [fits] using h1) hlt).symm, rfl⟩
    ·
      refine c_skip ?_
      refine hK5 _ _ _ ?_
      clear hK5 K5
      refine c_region ?_
      refine r_y rfl rfl (y_move rfl) ?_
      first | refine r_y rfl rfl (y_inc rfl (by omega)) ?_ | refine r_y rfl rfl (y_iop rfl rfl rfl) ?_
      refine r_y rfl rfl (y_assign rfl) ?_
      refine r_nil ?_
      exact ⟨k0 - 1, (i + 1), by omega, ⟨rfl, rfl, trivial⟩, rfl, ⟨by omega, by rw [all_range_succ, hinv]; simpa [fits] using h1⟩, hm⟩
  ·
    refine c_exit ?_
    refine hK1 _ _ _ ?_
    clear hK3 K3 hK1 K1
    refine c_seq (fun K8 hK8 => ?_)
    refine c_region ?_
    refine r_y rfl rfl (y_assign rfl) ?_
    refine r_nil ?_
    refine hK8 _ _ _ ?_
    clear hK8 K8
    refine c_ret ?_
    refine e_ret 1 hm (res_tmps rfl) ?_
    obtain rfl : i = 12 := by simp at h0; omega
    exact ⟨congrArg Value.bool (by rw [headSound, hinv]), rfl⟩
set_option maxRecDepth 100000 in
theorem rOrder_w (a b : Head) (m : Snap) (H : Hp) : Fn Try.prog 157 [.agg (encHead a).toArray, .agg (encHead b).toArray] m H (fun v _ H' => v = .int .i64 (headCmp a b) ∧ H' = H) := by
  have hm : m.le m := Snap.le.refl m
  refine fn_end Try.func157 rfl rfl rfl ?_
  refine c_seq (fun K0 hK0 => ?_)
  refine c_region ?_
  refine r_s rfl ?_
  refine s_box_a rfl rfl (fun b0 => ?_)
  refine r_s rfl ?_
  refine s_box_a rfl rfl (fun b1 => ?_)
  refine r_y rfl rfl (y_assign rfl) ?_
  refine r_nil ?_
  refine hK0 _ _ _ ?_
  clear hK0 K0
  refine c_seq (fun K1 hK1 => ?_)
  refine c_seq (fun K2 hK2 => ?_)
  refine c_region ?_
  refine r_y rfl rfl (y_assign rfl) ?_
  refine r_nil ?_
  refine hK2 _ _ _ ?_
  clear hK2 K2
  refine c_block ?_
  refine c_loopx (α := Nat) (fun i => [(2, .pointer (some ⟨b0, 0, none⟩)), (3, .pointer (some ⟨b1, 0, none⟩)), (5, .int .i64 (i : Nat))]) (fun i => .blk b1 (.cells (encHead b).toArray 27) :: .blk b0 (.cells (encHead a).toArray 27) :: H) (fun k0 i m1 => (i + k0 = 12 ∧ cmpL ((headL a).drop i) ((headL b).drop i) = headCmp a b) ∧ m.le m1) (12) 0 ⟨rfl, rfl, rfl, trivial⟩ rfl ⟨⟨by omega, rfl⟩, hm⟩ ?_
  clear hm
  rintro k0 i m1 ⟨hi0, hm⟩
  obtain ⟨hi, hinv⟩ := hi0
  refine c_seq (fun K3 hK3 => ?_)
  refine c_seq (fun K4 hK4 => ?_)
  refine c_region ?_
  refine r_y rfl rfl (y_move rfl) ?_
  refine r_y rfl rfl (y_iop rfl rfl rfl) ?_
  refine r_nil ?_
  refine hK4 _ _ _ ?_
  clear hK4 K4
  refine c_cond rfl (fun h0 => ?_) (fun h0 => ?_)
  ·
    have hlt : i < 12 := by simp at h0; omega
    refine c_skip ?_
    refine hK3 _ _ _ ?_
    clear hK3 K3
    refine c_seq (fun K5 hK5 => ?_)
    refine c_block ?_
    refine c_seq (fun K6 hK6 => ?_)
    refine c_seq (fun K7 hK7 => ?_)
    refine c_draw ([.blk b0 (.cells (encHead a).toArray 27), .blk b1 (.cells (encHead b).toArray 27)]) (by kernel_rfl) (fun hg => ?_)
    refine g_y (i := 0) (listed' := #[true, false, false, false, false, false, false]) rfl (by kernel_rfl) (by kernel_rfl) (by kernel_rfl) (by kernel_rfl) rfl rfl hg (allc (List.Mem.tail _ (List.Mem.head _)) (allc (List.Mem.head _) alln)) (fun m' H' hm' hX' => y_move rfl) ?_
    refine g_y (i := 1) (listed' := #[true, true, false, false, false, false, false]) rfl (by kernel_rfl) (by kernel_rfl) (by kernel_rfl) (by kernel_rfl) rfl rfl hg (allc (List.Mem.tail _ (List.Mem.head _)) (allc (List.Mem.head _) alln)) (fun m' H' hm' hX' => y_indexAddr_arr rfl rfl ta27 hlt At.lit) ?_
    refine g_y (i := 2) (listed' := #[true, true, true, false, false, false, false]) rfl (by kernel_rfl) (by kernel_rfl) (by kernel_rfl) (by kernel_rfl) rfl rfl hg (allc (List.Mem.tail _ (List.Mem.head _)) (allc (List.Mem.head _) alln)) (fun m' H' hm' hX' => y_load_s rfl ts25 (RdS.mem (hX' _ (List.Mem.head _)) (cget_head0 _ _ hlt))) ?_
    refine g_y (i := 3) (listed' := #[true, true, true, true, false, false, false]) rfl (by kernel_rfl) (by kernel_rfl) (by kernel_rfl) (by kernel_rfl) rfl rfl hg (allc (List.Mem.tail _ (List.Mem.head _)) (allc (List.Mem.head _) alln)) (fun m' H' hm' hX' => y_move rfl) ?_
    refine g_y (i := 4) (listed' := #[true, true, true, true, true, false, false]) rfl (by kernel_rfl) (by kernel_rfl) (by kernel_rfl) (by kernel_rfl) rfl rfl hg (allc (List.Mem.tail _ (List.Mem.head _)) (allc (List.Mem.head _) alln)) (fun m' H' hm' hX' => y_indexAddr_arr rfl rfl ta27 hlt At.lit) ?_
    refine g_y (i := 5) (listed' := #[true, true, true, true, true, true, false]) rfl (by kernel_rfl) (by kernel_rfl) (by kernel_rfl) (by kernel_rfl) rfl rfl hg (allc (List.Mem.tail _ (List.Mem.head _)) (allc (List.Mem.head _) alln)) (fun m' H' hm' hX' => y_load_s rfl ts25 (RdS.mem (hX' _ (List.Mem.tail _ (List.Mem.head _))) (cget_head0 _ _ hlt))) ?_
    refine g_y (i := 6) (listed' := #[true, true, true, true, true, true, true]) rfl (by kernel_rfl) (by kernel_rfl) (by kernel_rfl) (by kernel_rfl) rfl rfl hg (allc (List.Mem.tail _ (List.Mem.head _)) (allc (List.Mem.head _) alln)) (fun m' H' hm' hX' => y_wop rfl rfl rfl) ?_
    refine g_done (by kernel_rfl) ?_
    clear hg
    refine hK7 _ _ _ ?_
    clear hK7 K7
    refine c_cond rfl (fun h1 => ?_) (fun h1 => ?_)
    ·
      refine c_seq (fun K8 hK8 => ?_)
      refine c_region ?_
      refine r_y rfl rfl (y_assign rfl) ?_
      refine r_nil ?_
      refine hK8 _ _ _ ?_
      clear hK8 K8
      refine c_ret ?_
      refine e_ret 2 hm (res_tmps rfl) ?_
      refine ⟨congrArg (Value.int .i64) ?_, rfl⟩
      first
        | (obtain rfl : i = 12 := by simp at h0; omega
           rw [← hinv]; rfl)
        | (rw [← hinv, headCmp_drop a b hlt, cmpW_gt (by simpa using h1) (by simpa using h2)]; rfl)
        | (rw [← hinv, headCmp_drop a b hlt, cmpW_lt (by simpa using h1)]; rfl)
    ·
      refine c_skip ?_
      refine hK6 _ _ _ ?_
      clear hK6 K6
      refine c_seq (fun K9 hK9 => ?_)
      refine c_draw ([.blk b0 (.cells (encHead a).toArray 27), .blk b1 (.cells (encHead b).toArray 27)]) (by kernel_rfl) (fun hg => ?_)
      refine g_y (i := 0) (listed' := #[true, false, false, false, false, false, false]) rfl (by kernel_rfl) (by kernel_rfl) (by kernel_rfl) (by kernel_rfl) rfl rfl hg (allc (List.Mem.tail _ (List.Mem.head _)) (allc (List.Mem.head _) alln)) (fun m' H' hm' hX' => y_move rfl) ?_
      refine g_y (i := 1) (listed' := #[true, true, false, false, false, false, false]) rfl (by kernel_rfl) (by kernel_rfl) (by kernel_rfl) (by kernel_rfl) rfl rfl hg (allc (List.Mem.tail _ (List.Mem.head _)) (allc (List.Mem.head _) alln)) (fun m' H' hm' hX' => y_indexAddr_arr rfl rfl ta27 hlt At.lit) ?_
      refine g_y (i := 2) (listed' := #[true, true, true, false, false, false, false]) rfl (by kernel_rfl) (by kernel_rfl) (by kernel_rfl) (by kernel_rfl) rfl rfl hg (allc (List.Mem.tail _ (List.Mem.head _)) (allc (List.Mem.head _) alln)) (fun m' H' hm' hX' => y_load_s rfl ts25 (RdS.mem (hX' _ (List.Mem.head _)) (cget_head0 _ _ hlt))) ?_
      refine g_y (i := 3) (listed' := #[true, true, true, true, false, false, false]) rfl (by kernel_rfl) (by kernel_rfl) (by kernel_rfl) (by kernel_rfl) rfl rfl hg (allc (List.Mem.tail _ (List.Mem.head _)) (allc (List.Mem.head _) alln)) (fun m' H' hm' hX' => y_move rfl) ?_
      refine g_y (i := 4) (listed' := #[true, true, true, true, true, false, false]) rfl (by kernel_rfl) (by kernel_rfl) (by kernel_rfl) (by kernel_rfl) rfl rfl hg (allc (List.Mem.tail _ (List.Mem.head _)) (allc (List.Mem.head _) alln)) (fun m' H' hm' hX' => y_indexAddr_arr rfl rfl ta27 hlt At.lit) ?_
      refine g_y (i := 5) (listed' := #[true, true, true, true, true, true, false]) rfl (by kernel_rfl) (by kernel_rfl) (by kernel_rfl) (by kernel_rfl) rfl rfl hg (allc (List.Mem.tail _ (List.Mem.head _)) (allc (List.Mem.head _) alln)) (fun m' H' hm' hX' => y_load_s rfl ts25 (RdS.mem (hX' _ (List.Mem.tail _ (List.Mem.head _))) (cget_head0 _ _ hlt))) ?_
      refine g_y (i := 6) (listed' := #[true, true, true, true, true, true, true]) rfl (by kernel_rfl) (by kernel_rfl) (by kernel_rfl) (by kernel_rfl) rfl rfl hg (allc (List.Mem.tail _ (List.Mem.head _)) (allc (List.Mem.head _) alln)) (fun m' H' hm' hX' => y_wop rfl rfl rfl) ?_
      refine g_done (by kernel_rfl) ?_
      clear hg
      refine hK9 _ _ _ ?_
      clear hK9 K9
      refine c_cond rfl (fun h2 => ?_) (fun h2 => ?_)
      ·
        refine c_seq (fun K10 hK10 => ?_)
        refine c_region ?_
        refine r_y rfl rfl (y_assign rfl) ?_
        refine r_nil ?_
        refine hK10 _ _ _ ?_
        clear hK10 K10
        refine c_ret ?_
        refine e_ret 2 hm (res_tmps rfl) ?_
        refine ⟨congrArg (Value.int .i64) ?_, rfl⟩
        first
          | (obtain rfl : i = 12 := by simp at h0; omega
             rw [← hinv]; rfl)
          | (rw [← hinv, headCmp_drop a b hlt, cmpW_gt (by simpa using h1) (by simpa using h2)]; rfl)
          | (rw [← hinv, headCmp_drop a b hlt, cmpW_lt (by simpa using h1)]; rfl)
      ·
        refine c_skip ?_
        refine hK5 _ _ _ ?_
        clear hK5 K5
        refine c_region ?_
        refine r_y rfl rfl (y_move rfl) ?_
        first | refine r_y rfl rfl (y_inc rfl (by omega)) ?_ | refine r_y rfl rfl (y_iop rfl rfl rfl) ?_
        refine r_y rfl rfl (y_assign rfl) ?_
        refine r_nil ?_
        exact ⟨k0 - 1, (i + 1), by omega, ⟨rfl, rfl, rfl, trivial⟩, rfl, ⟨by omega, by rw [← hinv, headCmp_drop a b hlt, cmpW_eq (by simpa using h1) (by simpa using h2)]; rfl⟩, hm⟩
  ·
    refine c_exit ?_
    refine hK1 _ _ _ ?_
    clear hK3 K3 hK1 K1
    refine c_seq (fun K11 hK11 => ?_)
    refine c_region ?_
    refine r_y rfl rfl (y_assign rfl) ?_
    refine r_nil ?_
    refine hK11 _ _ _ ?_
    clear hK11 K11
    refine c_ret ?_
    refine e_ret 2 hm (res_tmps rfl) ?_
    refine ⟨congrArg (Value.int .i64) ?_, rfl⟩
    first
      | (obtain rfl : i = 12 := by simp at h0; omega
         rw [← hinv]; rfl)
      | (rw [← hinv, headCmp_drop a b hlt, cmpW_gt (by simpa using h1) (by simpa using h2)]; rfl)
      | (rw [← hinv, headCmp_drop a b hlt, cmpW_lt (by simpa using h1)]; rfl)
set_option maxRecDepth 100000 in
theorem rCompare_w (a b : Cube) (m : Snap) (H : Hp) : Fn Try.prog 139 [.agg (encCube a).toArray, .agg (encCube b).toArray] m H (fun v _ H' => v = .int .i64 (cubeCmp a b) ∧ H' = H) := by
  have hm : m.le m := Snap.le.refl m
  refine fn_end Try.func139 rfl rfl rfl ?_
  refine c_seq (fun K0 hK0 => ?_)
  refine c_region ?_
  refine r_s rfl ?_
  refine s_box_a rfl rfl (fun b0 => ?_)
  refine r_s rfl ?_
  refine s_box_a rfl rfl (fun b1 => ?_)
  refine r_y rfl rfl (y_assign rfl) ?_
  refine r_nil ?_
  refine hK0 _ _ _ ?_
  clear hK0 K0
  refine c_seq (fun K1 hK1 => ?_)
  refine c_region ?_
  refine r_y rfl rfl (y_fieldAddr rfl At.lit fo29_1 rfl) ?_
  refine r_y rfl rfl (y_load_a (cs := encHead a.care) rfl ts27 (RdA.blk (i := 1) rfl rfl)) ?_
  refine r_y rfl rfl (y_fieldAddr rfl At.lit fo29_1 rfl) ?_
  refine r_y rfl rfl (y_load_a (cs := encHead b.care) rfl ts27 (RdA.blk (i := 0) rfl rfl)) ?_
  refine r_s rfl ?_
  refine s_call0 rfl Try.call157 rfl (rOrder_w a.care b.care _ _) ?_
  rintro _ m2 _ hm2 ⟨rfl, rfl⟩
  replace hm := hm.trans hm2
  clear hm2
  refine r_y rfl rfl (y_assign rfl) ?_
  refine r_nil ?_
  refine hK1 _ _ _ ?_
  clear hK1 K1
  refine c_seq (fun K2 hK2 => ?_)
  refine c_seq (fun K3 hK3 => ?_)
  refine c_region ?_
  refine r_y rfl rfl (y_move rfl) ?_
  refine r_y rfl rfl (y_iop rfl rfl rfl) ?_
  refine r_nil ?_
  refine hK3 _ _ _ ?_
  clear hK3 K3
  refine c_cond rfl (fun h0 => ?_) (fun h0 => ?_)
  ·
    refine c_seq (fun K4 hK4 => ?_)
    refine c_region ?_
    refine r_y rfl rfl (y_move rfl) ?_
    refine r_y rfl rfl (y_assign rfl) ?_
    refine r_nil ?_
    refine hK4 _ _ _ ?_
    clear hK4 K4
    refine c_ret ?_
    refine e_ret 2 hm (res_tmps rfl) ?_
    refine ⟨congrArg (Value.int .i64) ?_, rfl⟩
    by_cases hv : headCmp a.value b.value = 0 <;> simp_all [cubeCmp, orL, List.find?_cons]
  ·
    refine c_skip ?_
    refine hK2 _ _ _ ?_
    clear hK2 K2
    refine c_seq (fun K5 hK5 => ?_)
    refine c_region ?_
    refine r_y rfl rfl (y_fieldAddr rfl At.lit fo29_0 rfl) ?_
    refine r_y rfl rfl (y_load_a (cs := encHead a.value) rfl ts27 (RdA.blk (i := 1) rfl rfl)) ?_
    refine r_y rfl rfl (y_fieldAddr rfl At.lit fo29_0 rfl) ?_
    refine r_y rfl rfl (y_load_a (cs := encHead b.value) rfl ts27 (RdA.blk (i := 0) rfl rfl)) ?_
    refine r_s rfl ?_
    refine s_call0 rfl Try.call157 rfl (rOrder_w a.value b.value _ _) ?_
    rintro _ m2 _ hm2 ⟨rfl, rfl⟩
    replace hm := hm.trans hm2
    clear hm2
    refine r_y rfl rfl (y_assign rfl) ?_
    refine r_nil ?_
    refine hK5 _ _ _ ?_
    clear hK5 K5
    refine c_ret ?_
    refine e_ret 2 hm (res_tmps rfl) ?_
    refine ⟨congrArg (Value.int .i64) ?_, rfl⟩
    by_cases hv : headCmp a.value b.value = 0 <;> simp_all [cubeCmp, orL, List.find?_cons]
set_option maxRecDepth 100000 in
theorem rBefore_w (a b : RuleD) (s1 s2 : Sl) (m : Snap) (H : Hp) : Fn Try.prog 97 [.agg (encRule a s1).toArray, .agg (encRule b s2).toArray] m H (fun v _ H' => v = .bool (ruleBefore a b) ∧ H' = H) := by
  have hm : m.le m := Snap.le.refl m
  refine fn_end Try.func97 rfl rfl rfl ?_
  refine c_seq (fun K0 hK0 => ?_)
  refine c_region ?_
  refine r_s rfl ?_
  refine s_box_a rfl rfl (fun b0 => ?_)
  refine r_s rfl ?_
  refine s_box_a rfl rfl (fun b1 => ?_)
  refine r_y rfl rfl (y_assign rfl) ?_
  refine r_nil ?_
  refine hK0 _ _ _ ?_
  clear hK0 K0
  refine c_seq (fun K1 hK1 => ?_)
  refine c_seq (fun K2 hK2 => ?_)
  refine c_region ?_
  refine r_y rfl rfl (y_fieldAddr rfl At.lit fo50_1 rfl) ?_
  refine r_y rfl rfl (y_load_s rfl ts3 (RdS.blk (i := 1) rfl rfl)) ?_
  refine r_y rfl rfl (y_fieldAddr rfl At.lit fo50_1 rfl) ?_
  refine r_y rfl rfl (y_load_s rfl ts3 (RdS.blk (i := 0) rfl rfl)) ?_
  refine r_y rfl rfl (y_iop rfl rfl rfl) ?_
  refine r_nil ?_
  refine hK2 _ _ _ ?_
  clear hK2 K2
  refine c_cond rfl (fun h0 => ?_) (fun h0 => ?_)
  ·
    refine c_seq (fun K3 hK3 => ?_)
    refine c_region ?_
    refine r_y rfl rfl (y_fieldAddr rfl At.lit fo50_1 rfl) ?_
    refine r_y rfl rfl (y_load_s rfl ts3 (RdS.blk (i := 1) rfl rfl)) ?_
    refine r_y rfl rfl (y_fieldAddr rfl At.lit fo50_1 rfl) ?_
    refine r_y rfl rfl (y_load_s rfl ts3 (RdS.blk (i := 0) rfl rfl)) ?_
    refine r_y rfl rfl (y_iop rfl rfl rfl) ?_
    refine r_y rfl rfl (y_assign rfl) ?_
    refine r_nil ?_
    refine hK3 _ _ _ ?_
    clear hK3 K3
    refine c_ret ?_
    refine e_ret 2 hm (res_tmps rfl) ?_
    refine ⟨congrArg Value.bool ?_, rfl⟩
    simp_all [ruleBefore, ruleCmp]
    try (split <;> simp_all <;> omega)
  ·
    refine c_skip ?_
    refine hK1 _ _ _ ?_
    clear hK1 K1
    refine c_seq (fun K4 hK4 => ?_)
    refine c_region ?_
    refine r_y rfl rfl (y_fieldAddr rfl At.lit fo50_0 rfl) ?_
    refine r_y rfl rfl (y_load_a (cs := encCube a.m) rfl ts29 (RdA.blk (i := 1) rfl rfl)) ?_
    refine r_y rfl rfl (y_fieldAddr rfl At.lit fo50_0 rfl) ?_
    refine r_y rfl rfl (y_load_a (cs := encCube b.m) rfl ts29 (RdA.blk (i := 0) rfl rfl)) ?_
    refine r_s rfl ?_
    refine s_call0 rfl Try.call139 rfl (rCompare_w a.m b.m _ _) ?_
    rintro _ m2 _ hm2 ⟨rfl, rfl⟩
    replace hm := hm.trans hm2
    clear hm2
    refine r_y rfl rfl (y_iop rfl rfl rfl) ?_
    refine r_y rfl rfl (y_assign rfl) ?_
    refine r_nil ?_
    refine hK4 _ _ _ ?_
    clear hK4 K4
    refine c_ret ?_
    refine e_ret 2 hm (res_tmps rfl) ?_
    refine ⟨congrArg Value.bool ?_, rfl⟩
    simp_all [ruleBefore, ruleCmp]
    try (split <;> simp_all <;> omega)
end Go.Aw
