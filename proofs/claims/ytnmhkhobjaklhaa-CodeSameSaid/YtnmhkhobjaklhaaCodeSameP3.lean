/- Part 3 of the words and walks that the proof behind it uses. -/
import Derived.Test.YtnmhkhobjaklhaaCodeSameP2
set_option linter.unusedVariables false
set_option linter.unusedSimpArgs false
namespace Go.Aw
open Go Go.Proofs
theorem tl30 : tslice Try.prog 30 = some (53, 4) := by kernel_rfl
theorem ts53 : tshape Try.prog 53 = some (true, 4) := by kernel_rfl
theorem en53 : eqN Try.prog 6 53 = some 4 := by kernel_rfl
theorem ia53 : isAggT Try.prog 53 = true := by kernel_rfl
theorem fo32_0 : fieldOff Try.prog 32 0 = some 0 := by kernel_rfl
theorem ts3 : tshape Try.prog 3 = some (false, 1) := by kernel_rfl
theorem fo32_1 : fieldOff Try.prog 32 1 = some 1 := by kernel_rfl
theorem en29 : eqN Try.prog 6 29 = some 24 := by kernel_rfl
theorem ia29 : isAggT Try.prog 29 = true := by kernel_rfl
theorem fo32_2 : fieldOff Try.prog 32 2 = some 25 := by kernel_rfl
theorem fo32_3 : fieldOff Try.prog 32 3 = some 26 := by kernel_rfl
theorem ts30 : tshape Try.prog 30 = some (false, 1) := by kernel_rfl
theorem fo32_4 : fieldOff Try.prog 32 4 = some 27 := by kernel_rfl
theorem fo32_5 : fieldOff Try.prog 32 5 = some 28 := by kernel_rfl
theorem fo32_6 : fieldOff Try.prog 32 6 = some 29 := by kernel_rfl
theorem fo32_7 : fieldOff Try.prog 32 7 = some 30 := by kernel_rfl
theorem ts4 : tshape Try.prog 4 = some (false, 1) := by kernel_rfl
theorem tz27 : tzero Try.prog 27 = some [.int .u64 0, .int .u64 0, .int .u64 0, .int .u64 0, .int .u64 0, .int .u64 0, .int .u64 0, .int .u64 0, .int .u64 0, .int .u64 0, .int .u64 0, .int .u64 0] := by kernel_rfl
theorem fk27 : fieldsKnown Try.prog 27 = true := by kernel_rfl
theorem bp27_ : bplaces Try.prog 27 [] = some [] := by kernel_rfl
theorem fo53_0 : fieldOff Try.prog 53 0 = some 0 := by kernel_rfl
theorem fo53_1 : fieldOff Try.prog 53 1 = some 1 := by kernel_rfl
theorem fo53_2 : fieldOff Try.prog 53 2 = some 2 := by kernel_rfl
theorem fo53_3 : fieldOff Try.prog 53 3 = some 3 := by kernel_rfl
theorem tz53 : tzero Try.prog 53 = some [.int .i64 0, .int .i64 0, .int .i64 0, .int .u64 0] := by kernel_rfl
theorem fk53 : fieldsKnown Try.prog 53 = true := by kernel_rfl
theorem bp53_0 : bplaces Try.prog 53 [0] = some [(0, 1)] := by kernel_rfl
set_option maxRecDepth 100000 in
theorem eqActs_ok (s1 s2 : Sl) (l1 l2 : List ActD) (m : Snap) (H : Hp) (hz1 : FzA m s1 l1) (hz2 : FzA m s2 l2) : Fn Try.prog 153 [s1.v, s2.v] m H (fun v _ H' => v = .bool (decide (l1 = l2)) ∧ H' = H) := by
  have hm : m.le m := Snap.le.refl m
  refine fn_end Try.func153 rfl rfl rfl ?_
  refine c_seq (fun K0 hK0 => ?_)
  refine c_region ?_
  refine r_y rfl rfl (y_assign rfl) ?_
  refine r_nil ?_
  refine hK0 _ _ _ ?_
  clear hK0 K0
  refine c_seq (fun K1 hK1 => ?_)
  refine c_seq (fun K2 hK2 => ?_)
  refine c_region ?_
  refine r_y rfl rfl (y_move rfl) ?_
  refine r_y rfl rfl (y_len tl30 rfl) ?_
  refine r_y rfl rfl (y_move rfl) ?_
  refine r_y rfl rfl (y_len tl30 rfl) ?_
  refine r_y rfl rfl (y_iop rfl rfl rfl) ?_
  refine r_nil ?_
  refine hK2 _ _ _ ?_
  clear hK2 K2
  refine c_cond rfl (fun h0 => ?_) (fun h0 => ?_)
  ·
    refine c_seq (fun K3 hK3 => ?_)
    refine c_region ?_
    refine r_y rfl rfl (y_assign rfl) ?_
    refine r_nil ?_
    refine hK3 _ _ _ ?_
    clear hK3 K3
    refine c_ret ?_
    refine e_ret 0 hm (res_tmps rfl) ?_
    refine ⟨congrArg Value.bool ?_, rfl⟩
    have hl1 := hz1.lenA; have hl2 := hz2.lenA
    have : s1.n ≠ s2.n := by simp at h0; omega
    exact (decide_eq_false (by rintro rfl; omega)).symm
  ·
    have hl1 := hz1.lenA
    have hl2 := hz2.lenA
    have hne : s1.n = s2.n := by simp at h0; omega
    have hmx := hz1.max
    have hle := hz1.le
    unfold maxLen at hmx
    refine c_skip ?_
    refine hK1 _ _ _ ?_
    clear hK1 K1
    refine c_seq (fun K4 hK4 => ?_)
    refine c_seq (fun K5 hK5 => ?_)
    refine c_region ?_
    refine r_y rfl rfl (y_move rfl) ?_
    refine r_y rfl rfl (y_len tl30 rfl) ?_
    refine r_y rfl rfl (y_move rfl) ?_
    refine r_nil ?_
    refine hK5 _ _ _ ?_
    clear hK5 K5
    refine c_block ?_
    refine c_loopx (α := Nat) (fun i => [(0, s1.v), (1, s2.v), (12, .int .i64 (s1.n : Nat)), (13, .int .i64 (i : Nat))]) (fun i => H) (fun k0 i m1 => (i + k0 = s1.n ∧ l1.take i = l2.take i) ∧ m.le m1 ∧ (Fz m1 s1.a s1.n s1.cap 4 (l1.map encAct)) ∧ (Fz m1 s2.a s2.n s2.cap 4 (l2.map encAct))) (s1.n) 0 ⟨rfl, rfl, rfl, rfl, trivial⟩ rfl ⟨⟨by omega, rfl⟩, hm, hz1, hz2⟩ ?_
    clear hm hz1 hz2
    rintro k0 i m1 ⟨hi0, hm, hz1, hz2⟩
    obtain ⟨hi, hinv⟩ := hi0
    refine c_seq (fun K6 hK6 => ?_)
    refine c_region ?_
    refine r_y rfl rfl (y_iop rfl rfl rfl) ?_
    refine r_nil ?_
    refine hK6 _ _ _ ?_
    clear hK6 K6
    refine c_seq (fun K7 hK7 => ?_)
    refine c_cond rfl (fun h1 => ?_) (fun h1 => ?_)
    ·
      have hlt1 : i < s1.n := by simp at h1; omega
      have hlt2 : i < s2.n := by omega
      obtain ⟨x1, hx1⟩ := get_of_lt (l := l1) (k := i) (by omega)
      obtain ⟨x2, hx2⟩ := get_of_lt (l := l2) (k := i) (by omega)
      refine c_skip ?_
      refine hK7 _ _ _ ?_
      clear hK7 K7
      refine c_seq (fun K8 hK8 => ?_)
      refine c_block ?_
      refine c_seq (fun K9 hK9 => ?_)
      refine c_region ?_
      refine r_y rfl rfl (y_move rfl) ?_
      refine r_y rfl rfl (y_assign rfl) ?_
      refine r_nil ?_
      refine hK9 _ _ _ ?_
      clear hK9 K9
      refine c_seq (fun K10 hK10 => ?_)
      refine c_draw ([]) (by kernel_rfl) (fun hg => ?_)
      have hz1_g := hz1
      have hz2_g := hz2
      refine g_y (i := 0) (listed' := #[true, false, false, false, false, false, false, false, false]) rfl (by kernel_rfl) (by kernel_rfl) (by kernel_rfl) (by kernel_rfl) rfl rfl hg alln (fun m' H' hm' hX' => y_move rfl) ?_
      refine g_y (i := 1) (listed' := #[true, true, false, false, false, false, false, false, false]) rfl (by kernel_rfl) (by kernel_rfl) (by kernel_rfl) (by kernel_rfl) rfl rfl hg alln (fun m' H' hm' hX' => y_move rfl) ?_
      refine g_y (i := 2) (listed' := #[true, true, true, false, false, false, false, false, false]) rfl (by kernel_rfl) (by kernel_rfl) (by kernel_rfl) (by kernel_rfl) rfl rfl hg alln (fun m' H' hm' hX' => y_indexAddr_slice rfl rfl tl30 hlt1 (At.fz (hz1_g.mono hm') hlt1)) ?_
      refine g_y (i := 3) (listed' := #[true, true, true, true, false, false, false, false, false]) rfl (by kernel_rfl) (by kernel_rfl) (by kernel_rfl) (by kernel_rfl) rfl rfl hg alln (fun m' H' hm' hX' => y_load_a rfl ts53 (RdA.fz0 (hz1_g.mono hm') (map_get hx1))) ?_
      refine g_y (i := 4) (listed' := #[true, true, true, true, true, false, false, false, false]) rfl (by kernel_rfl) (by kernel_rfl) (by kernel_rfl) (by kernel_rfl) rfl rfl hg alln (fun m' H' hm' hX' => y_move rfl) ?_
      refine g_y (i := 5) (listed' := #[true, true, true, true, true, true, false, false, false]) rfl (by kernel_rfl) (by kernel_rfl) (by kernel_rfl) (by kernel_rfl) rfl rfl hg alln (fun m' H' hm' hX' => y_move rfl) ?_
      refine g_y (i := 6) (listed' := #[true, true, true, true, true, true, true, false, false]) rfl (by kernel_rfl) (by kernel_rfl) (by kernel_rfl) (by kernel_rfl) rfl rfl hg alln (fun m' H' hm' hX' => y_indexAddr_slice rfl rfl tl30 hlt2 (At.fz (hz2_g.mono hm') hlt2)) ?_
      refine g_y (i := 7) (listed' := #[true, true, true, true, true, true, true, true, false]) rfl (by kernel_rfl) (by kernel_rfl) (by kernel_rfl) (by kernel_rfl) rfl rfl hg alln (fun m' H' hm' hX' => y_load_a rfl ts53 (RdA.fz0 (hz2_g.mono hm') (map_get hx2))) ?_
      refine g_y (i := 8) (listed' := #[true, true, true, true, true, true, true, true, true]) rfl (by kernel_rfl) (by kernel_rfl) (by kernel_rfl) (by kernel_rfl) rfl rfl hg alln (fun m' H' hm' hX' => y_neagg (dd := 6)  rfl rfl en53 ia53 rfl Try.eqGuardType53 rfl (alike_act _ _)) ?_
      refine g_done (by kernel_rfl) ?_
      clear hg hz1_g hz2_g
      refine hK10 _ _ _ ?_
      clear hK10 K10
      refine c_cond rfl (fun h2 => ?_) (fun h2 => ?_)
      ·
        refine c_seq (fun K11 hK11 => ?_)
        refine c_region ?_
        refine r_y rfl rfl (y_assign rfl) ?_
        refine r_nil ?_
        refine hK11 _ _ _ ?_
        clear hK11 K11
        refine c_ret ?_
        refine e_ret 0 hm (res_tmps rfl) ?_
        refine ⟨congrArg Value.bool ?_, rfl⟩
        refine (decide_eq_false ?_).symm
        rintro rfl
        rw [hx1] at hx2; cases hx2
        simp [ceq_act] at h2
      ·
        refine c_skip ?_
        refine hK8 _ _ _ ?_
        clear hK8 K8
        refine c_region ?_
        first | refine r_y rfl rfl (y_inc rfl (by omega)) ?_ | refine r_y rfl rfl (y_iop rfl rfl rfl) ?_
        refine r_y rfl rfl (y_move rfl) ?_
        refine r_nil ?_
        exact ⟨k0 - 1, (i + 1), by omega, ⟨rfl, rfl, rfl, rfl, trivial⟩, rfl, ⟨by omega, by rw [List.take_add_one, List.take_add_one, hinv, hx1, hx2]; simp only [ceq_act] at h2; simpa using h2⟩, hm, hz1, hz2⟩
    ·
      refine c_exit ?_
      refine hK4 _ _ _ ?_
      clear hK7 K7 hK4 K4
      refine c_seq (fun K12 hK12 => ?_)
      refine c_region ?_
      refine r_y rfl rfl (y_assign rfl) ?_
      refine r_nil ?_
      refine hK12 _ _ _ ?_
      clear hK12 K12
      refine c_ret ?_
      refine e_ret 0 hm (res_tmps rfl) ?_
      refine ⟨congrArg Value.bool ?_, rfl⟩
      have hie : i = s1.n := by simp at h1; omega
      refine (decide_eq_true ?_).symm
      rw [List.take_of_length_le (by omega), List.take_of_length_le (by omega)] at hinv
      exact hinv
set_option maxRecDepth 100000 in
theorem actSame_ok (s1 s2 : Sl) (l1 l2 : List ActD) (m : Snap) (H : Hp) (hz1 : FzA m s1 l1) (hz2 : FzA m s2 l2) : Fn Try.prog 124 [s1.v, s2.v] m H (fun v _ H' => v = .bool (decide (l1 = l2)) ∧ H' = H) := by
  have hm : m.le m := Snap.le.refl m
  refine fn_end Try.func124 rfl rfl rfl ?_
  refine c_seq (fun K0 hK0 => ?_)
  refine c_region ?_
  refine r_y rfl rfl (y_assign rfl) ?_
  refine r_nil ?_
  refine hK0 _ _ _ ?_
  clear hK0 K0
  refine c_seq (fun K1 hK1 => ?_)
  refine c_region ?_
  refine r_y rfl rfl (y_move rfl) ?_
  refine r_y rfl rfl (y_move rfl) ?_
  refine r_s rfl ?_
  refine s_call0 rfl Try.call153 rfl (eqActs_ok s1 s2 l1 l2 _ _ hz1 hz2) ?_
  rintro _ m2 _ hm2 ⟨rfl, rfl⟩
  replace hm := hm.trans hm2
  replace hz1 := hz1.mono hm2
  replace hz2 := hz2.mono hm2
  clear hm2
  refine r_y rfl rfl (y_assign rfl) ?_
  refine r_nil ?_
  refine hK1 _ _ _ ?_
  clear hK1 K1
  refine c_ret ?_
  refine e_ret 0 hm (res_tmps rfl) ?_
  exact ⟨rfl, rfl⟩
set_option maxRecDepth 100000 in
theorem modSame_ok (a b : ModD) (s1 s2 : Sl) (m : Snap) (H : Hp) (hz1 : FzA m s1 a.acts) (hz2 : FzA m s2 b.acts) : Fn Try.prog 79 [.agg (encMod a s1).toArray, .agg (encMod b s2).toArray] m H (fun v _ H' => v = .bool (decide (a = b)) ∧ H' = H) := by
  have hm : m.le m := Snap.le.refl m
  refine fn_end Try.func79 rfl rfl rfl ?_
  refine c_seq (fun K0 hK0 => ?_)
  refine c_region ?_
  refine r_s rfl ?_
  refine s_box_a rfl rfl (fun b0 => ?_)
  refine r_s rfl ?_
  refine s_box_a rfl rfl (fun b1 => ?_)
  refine r_y rfl rfl (y_assign rfl) ?_
  refine r_nil ?_
  refine hK0 _ _ _ ?_
  clear hK0 K0
  refine c_seq (fun K1 hK1 => ?_)
  refine c_region ?_
  refine r_y rfl rfl (y_fieldAddr rfl At.lit fo32_0 rfl) ?_
  refine r_y rfl rfl (y_load_s rfl ts3 (RdS.blk (i := 1) rfl rfl)) ?_
  refine r_y rfl rfl (y_fieldAddr rfl At.lit fo32_0 rfl) ?_
  refine r_y rfl rfl (y_load_s rfl ts3 (RdS.blk (i := 0) rfl rfl)) ?_
  refine r_y rfl rfl (y_iop rfl rfl rfl) ?_
  refine r_y rfl rfl (y_move rfl) ?_
  refine r_split (j := 5) rfl (fun h0 => ?_) (fun h0 => ?_)
  ·
    refine r_yg rfl h0 rfl (y_fieldAddr rfl At.lit fo32_1 rfl) ?_
    refine r_yg rfl h0 rfl (y_load_a (cs := encCube a.m) rfl ts29 (RdA.blk (i := 1) rfl rfl)) ?_
    refine r_yg rfl h0 rfl (y_fieldAddr rfl At.lit fo32_1 rfl) ?_
    refine r_yg rfl h0 rfl (y_load_a (cs := encCube b.m) rfl ts29 (RdA.blk (i := 0) rfl rfl)) ?_
    refine r_yg rfl h0 rfl (y_eqagg (dd := 6)  rfl rfl en29 ia29 rfl Try.eqGuardType29 rfl (alike_cube a.m b.m)) ?_
    refine r_y rfl rfl (y_pickt rfl h0 rfl) ?_
    refine r_y rfl rfl (y_move rfl) ?_
    refine r_split (j := 12) rfl (fun h1 => ?_) (fun h1 => ?_)
    ·
      refine r_yg rfl h1 rfl (y_fieldAddr rfl At.lit fo32_2 rfl) ?_
      refine r_yg rfl h1 rfl (y_load_s rfl ts3 (RdS.blk (i := 1) rfl rfl)) ?_
      refine r_yg rfl h1 rfl (y_fieldAddr rfl At.lit fo32_2 rfl) ?_
      refine r_yg rfl h1 rfl (y_load_s rfl ts3 (RdS.blk (i := 0) rfl rfl)) ?_
      refine r_yg rfl h1 rfl (y_iop rfl rfl rfl) ?_
      refine r_y rfl rfl (y_pickt rfl h1 rfl) ?_
      refine r_y rfl rfl (y_move rfl) ?_
      refine r_split (j := 19) rfl (fun h2 => ?_) (fun h2 => ?_)
      ·
        refine r_yg rfl h2 rfl (y_fieldAddr rfl At.lit fo32_3 rfl) ?_
        refine r_yg rfl h2 rfl (y_load_s rfl ts30 (RdS.blk (i := 1) rfl rfl)) ?_
        refine r_yg rfl h2 rfl (y_fieldAddr rfl At.lit fo32_3 rfl) ?_
        refine r_yg rfl h2 rfl (y_load_s rfl ts30 (RdS.blk (i := 0) rfl rfl)) ?_
        refine r_sg rfl h2 ?_
        refine s_call0 rfl Try.call124 rfl (actSame_ok s1 s2 a.acts b.acts _ _ hz1 hz2) ?_
        rintro _ m2 _ hm2 ⟨rfl, rfl⟩
        replace hm := hm.trans hm2
        replace hz1 := hz1.mono hm2
        replace hz2 := hz2.mono hm2
        clear hm2
        refine r_y rfl rfl (y_pickt rfl h2 rfl) ?_
        refine r_y rfl rfl (y_move rfl) ?_
        refine r_split (j := 26) rfl (fun h3 => ?_) (fun h3 => ?_)
        ·
          refine r_yg rfl h3 rfl (y_fieldAddr rfl At.lit fo32_4 rfl) ?_
          refine r_yg rfl h3 rfl (y_load_s rfl ts3 (RdS.blk (i := 1) rfl rfl)) ?_
          refine r_yg rfl h3 rfl (y_fieldAddr rfl At.lit fo32_4 rfl) ?_
          refine r_yg rfl h3 rfl (y_load_s rfl ts3 (RdS.blk (i := 0) rfl rfl)) ?_
          refine r_yg rfl h3 rfl (y_iop rfl rfl rfl) ?_
          refine r_y rfl rfl (y_pickt rfl h3 rfl) ?_
          refine r_y rfl rfl (y_move rfl) ?_
          refine r_split (j := 33) rfl (fun h4 => ?_) (fun h4 => ?_)
          ·
            refine r_yg rfl h4 rfl (y_fieldAddr rfl At.lit fo32_5 rfl) ?_
            refine r_yg rfl h4 rfl (y_load_s rfl ts3 (RdS.blk (i := 1) rfl rfl)) ?_
            refine r_yg rfl h4 rfl (y_fieldAddr rfl At.lit fo32_5 rfl) ?_
            refine r_yg rfl h4 rfl (y_load_s rfl ts3 (RdS.blk (i := 0) rfl rfl)) ?_
            refine r_yg rfl h4 rfl (y_iop rfl rfl rfl) ?_
            refine r_y rfl rfl (y_pickt rfl h4 rfl) ?_
            refine r_y rfl rfl (y_move rfl) ?_
            refine r_split (j := 40) rfl (fun h5 => ?_) (fun h5 => ?_)
            ·
              refine r_yg rfl h5 rfl (y_fieldAddr rfl At.lit fo32_6 rfl) ?_
              refine r_yg rfl h5 rfl (y_load_s rfl ts3 (RdS.blk (i := 1) rfl rfl)) ?_
              refine r_yg rfl h5 rfl (y_fieldAddr rfl At.lit fo32_6 rfl) ?_
              refine r_yg rfl h5 rfl (y_load_s rfl ts3 (RdS.blk (i := 0) rfl rfl)) ?_
              refine r_yg rfl h5 rfl (y_iop rfl rfl rfl) ?_
              refine r_y rfl rfl (y_pickt rfl h5 rfl) ?_
              refine r_y rfl rfl (y_move rfl) ?_
              refine r_split (j := 47) rfl (fun h6 => ?_) (fun h6 => ?_)
              ·
                refine r_yg rfl h6 rfl (y_fieldAddr rfl At.lit fo32_7 rfl) ?_
                refine r_yg rfl h6 rfl (y_load_s rfl ts4 (RdS.blk (i := 1) rfl rfl)) ?_
                refine r_yg rfl h6 rfl (y_fieldAddr rfl At.lit fo32_7 rfl) ?_
                refine r_yg rfl h6 rfl (y_load_s rfl ts4 (RdS.blk (i := 0) rfl rfl)) ?_
                refine r_yg rfl h6 rfl (y_eqbool rfl rfl Try.underlying4) ?_
                refine r_y rfl rfl (y_pickt rfl h6 rfl) ?_
                refine r_y rfl rfl (y_assign rfl) ?_
                refine r_nil ?_
                refine hK1 _ _ _ ?_
                clear hK1 K1
                refine c_ret ?_
                refine e_ret 2 hm (res_tmps rfl) ?_
                cases a; cases b
                refine ⟨congrArg Value.bool ?_, rfl⟩
                first | (simp_all [ceq_cube]; done) | (simp_all [ceq_cube]; omega) | (simp_all [ceq_cube]; intros; omega) | (rw [Bool.eq_iff_iff]; simp_all [ceq_cube]; done)
              ·
                refine r_no' rfl rfl h6 ?_
                refine r_no' rfl rfl h6 ?_
                refine r_no' rfl rfl h6 ?_
                refine r_no' rfl rfl h6 ?_
                refine r_no' rfl rfl h6 ?_
                refine r_y rfl rfl (y_pickf rfl h6 rfl) ?_
                refine r_y rfl rfl (y_assign rfl) ?_
                refine r_nil ?_
                refine hK1 _ _ _ ?_
                clear hK1 K1
                refine c_ret ?_
                refine e_ret 2 hm (res_tmps rfl) ?_
                cases a; cases b
                refine ⟨congrArg Value.bool ?_, rfl⟩
                first | (simp_all [ceq_cube]; done) | (simp_all [ceq_cube]; omega) | (simp_all [ceq_cube]; intros; omega) | (rw [Bool.eq_iff_iff]; simp_all [ceq_cube]; done)
            ·
              refine r_no' rfl rfl h5 ?_
              refine r_no' rfl rfl h5 ?_
              refine r_no' rfl rfl h5 ?_
              refine r_no' rfl rfl h5 ?_
              refine r_no' rfl rfl h5 ?_
              refine r_y rfl rfl (y_pickf rfl h5 rfl) ?_
              refine r_y rfl rfl (y_move rfl) ?_
              refine r_no' rfl rfl rfl ?_
              refine r_no' rfl rfl rfl ?_
              refine r_no' rfl rfl rfl ?_
              refine r_no' rfl rfl rfl ?_
              refine r_no' rfl rfl rfl ?_
              refine r_y rfl rfl (y_pickf rfl rfl rfl) ?_
              refine r_y rfl rfl (y_assign rfl) ?_
              refine r_nil ?_
              refine hK1 _ _ _ ?_
              clear hK1 K1
              refine c_ret ?_
              refine e_ret 2 hm (res_tmps rfl) ?_
              cases a; cases b
              refine ⟨congrArg Value.bool ?_, rfl⟩
              first | (simp_all [ceq_cube]; done) | (simp_all [ceq_cube]; omega) | (simp_all [ceq_cube]; intros; omega) | (rw [Bool.eq_iff_iff]; simp_all [ceq_cube]; done)
          ·
            refine r_no' rfl rfl h4 ?_
            refine r_no' rfl rfl h4 ?_
            refine r_no' rfl rfl h4 ?_
            refine r_no' rfl rfl h4 ?_
            refine r_no' rfl rfl h4 ?_
            refine r_y rfl rfl (y_pickf rfl h4 rfl) ?_
            refine r_y rfl rfl (y_move rfl) ?_
            refine r_no' rfl rfl rfl ?_
            refine r_no' rfl rfl rfl ?_
            refine r_no' rfl rfl rfl ?_
            refine r_no' rfl rfl rfl ?_
            refine r_no' rfl rfl rfl ?_
            refine r_y rfl rfl (y_pickf rfl rfl rfl) ?_
            refine r_y rfl rfl (y_move rfl) ?_
            refine r_no' rfl rfl rfl ?_
            refine r_no' rfl rfl rfl ?_
            refine r_no' rfl rfl rfl ?_
            refine r_no' rfl rfl rfl ?_
            refine r_no' rfl rfl rfl ?_
            refine r_y rfl rfl (y_pickf rfl rfl rfl) ?_
            refine r_y rfl rfl (y_assign rfl) ?_
            refine r_nil ?_
            refine hK1 _ _ _ ?_
            clear hK1 K1
            refine c_ret ?_
            refine e_ret 2 hm (res_tmps rfl) ?_
            cases a; cases b
            refine ⟨congrArg Value.bool ?_, rfl⟩
            first | (simp_all [ceq_cube]; done) | (simp_all [ceq_cube]; omega) | (simp_all [ceq_cube]; intros; omega) | (rw [Bool.eq_iff_iff]; simp_all [ceq_cube]; done)
        ·
          refine r_no' rfl rfl h3 ?_
          refine r_no' rfl rfl h3 ?_
          refine r_no' rfl rfl h3 ?_
          refine r_no' rfl rfl h3 ?_
          refine r_no' rfl rfl h3 ?_
          refine r_y rfl rfl (y_pickf rfl h3 rfl) ?_
          refine r_y rfl rfl (y_move rfl) ?_
          refine r_no' rfl rfl rfl ?_
          refine r_no' rfl rfl rfl ?_
          refine r_no' rfl rfl rfl ?_
          refine r_no' rfl rfl rfl ?_
          refine r_no' rfl rfl rfl ?_
          refine r_y rfl rfl (y_pickf rfl rfl rfl) ?_
          refine r_y rfl rfl (y_move rfl) ?_
          refine r_no' rfl rfl rfl ?_
          refine r_no' rfl rfl rfl ?_
          refine r_no' rfl rfl rfl ?_
          refine r_no' rfl rfl rfl ?_
          refine r_no' rfl rfl rfl ?_
          refine r_y rfl rfl (y_pickf rfl rfl rfl) ?_
          refine r_y rfl rfl (y_move rfl) ?_
          refine r_no' rfl rfl rfl ?_
          refine r_no' rfl rfl rfl ?_
          refine r_no' rfl rfl rfl ?_
          refine r_no' rfl rfl rfl ?_
          refine r_no' rfl rfl rfl ?_
          refine r_y rfl rfl (y_pickf rfl rfl rfl) ?_
          refine r_y rfl rfl (y_assign rfl) ?_
          refine r_nil ?_
          refine hK1 _ _ _ ?_
          clear hK1 K1
          refine c_ret ?_
          refine e_ret 2 hm (res_tmps rfl) ?_
          cases a; cases b
          refine ⟨congrArg Value.bool ?_, rfl⟩
          first | (simp_all [ceq_cube]; done) | (simp_all [ceq_cube]; omega) | (simp_all [ceq_cube]; intros; omega) | (rw [Bool.eq_iff_iff]; simp_all [ceq_cube]; done)
      ·
        refine r_no' rfl rfl h2 ?_
        refine r_no' rfl rfl h2 ?_
        refine r_no' rfl rfl h2 ?_
        refine r_no' rfl rfl h2 ?_
        refine r_no' rfl rfl h2 ?_
        refine r_y rfl rfl (y_pickf rfl h2 rfl) ?_
        refine r_y rfl rfl (y_move rfl) ?_
        refine r_no' rfl rfl rfl ?_
        refine r_no' rfl rfl rfl ?_
        refine r_no' rfl rfl rfl ?_
        refine r_no' rfl rfl rfl ?_
        refine r_no' rfl rfl rfl ?_
        refine r_y rfl rfl (y_pickf rfl rfl rfl) ?_
        refine r_y rfl rfl (y_move rfl) ?_
        refine r_no' rfl rfl rfl ?_
        refine r_no' rfl rfl rfl ?_
        refine r_no' rfl rfl rfl ?_
        refine r_no' rfl rfl rfl ?_
        refine r_no' rfl rfl rfl ?_
        refine r_y rfl rfl (y_pickf rfl rfl rfl) ?_
        refine r_y rfl rfl (y_move rfl) ?_
        refine r_no' rfl rfl rfl ?_
        refine r_no' rfl rfl rfl ?_
        refine r_no' rfl rfl rfl ?_
        refine r_no' rfl rfl rfl ?_
        refine r_no' rfl rfl rfl ?_
        refine r_y rfl rfl (y_pickf rfl rfl rfl) ?_
        refine r_y rfl rfl (y_move rfl) ?_
        refine r_no' rfl rfl rfl ?_
        refine r_no' rfl rfl rfl ?_
        refine r_no' rfl rfl rfl ?_
        refine r_no' rfl rfl rfl ?_
        refine r_no' rfl rfl rfl ?_
        refine r_y rfl rfl (y_pickf rfl rfl rfl) ?_
        refine r_y rfl rfl (y_assign rfl) ?_
        refine r_nil ?_
        refine hK1 _ _ _ ?_
        clear hK1 K1
        refine c_ret ?_
        refine e_ret 2 hm (res_tmps rfl) ?_
        cases a; cases b
        refine ⟨congrArg Value.bool ?_, rfl⟩
        first | (simp_all [ceq_cube]; done) | (simp_all [ceq_cube]; omega) | (simp_all [ceq_cube]; intros; omega) | (rw [Bool.eq_iff_iff]; simp_all [ceq_cube]; done)
    ·
      refine r_no' rfl rfl h1 ?_
      refine r_no' rfl rfl h1 ?_
      refine r_no' rfl rfl h1 ?_
      refine r_no' rfl rfl h1 ?_
      refine r_no' rfl rfl h1 ?_
      refine r_y rfl rfl (y_pickf rfl h1 rfl) ?_
      refine r_y rfl rfl (y_move rfl) ?_
      refine r_no' rfl rfl rfl ?_
      refine r_no' rfl rfl rfl ?_
      refine r_no' rfl rfl rfl ?_
      refine r_no' rfl rfl rfl ?_
      refine r_no' rfl rfl rfl ?_
      refine r_y rfl rfl (y_pickf rfl rfl rfl) ?_
      refine r_y rfl rfl (y_move rfl) ?_
      refine r_no' rfl rfl rfl ?_
      refine r_no' rfl rfl rfl ?_
      refine r_no' rfl rfl rfl ?_
      refine r_no' rfl rfl rfl ?_
      refine r_no' rfl rfl rfl ?_
      refine r_y rfl rfl (y_pickf rfl rfl rfl) ?_
      refine r_y rfl rfl (y_move rfl) ?_
      refine r_no' rfl rfl rfl ?_
      refine r_no' rfl rfl rfl ?_
      refine r_no' rfl rfl rfl ?_
      refine r_no' rfl rfl rfl ?_
      refine r_no' rfl rfl rfl ?_
      refine r_y rfl rfl (y_pickf rfl rfl rfl) ?_
      refine r_y rfl rfl (y_move rfl) ?_
      refine r_no' rfl rfl rfl ?_
      refine r_no' rfl rfl rfl ?_
      refine r_no' rfl rfl rfl ?_
      refine r_no' rfl rfl rfl ?_
      refine r_no' rfl rfl rfl ?_
      refine r_y rfl rfl (y_pickf rfl rfl rfl) ?_
      refine r_y rfl rfl (y_move rfl) ?_
      refine r_no' rfl rfl rfl ?_
      refine r_no' rfl rfl rfl ?_
      refine r_no' rfl rfl rfl ?_
      refine r_no' rfl rfl rfl ?_
      refine r_no' rfl rfl rfl ?_
      refine r_y rfl rfl (y_pickf rfl rfl rfl) ?_
      refine r_y rfl rfl (y_assign rfl) ?_
      refine r_nil ?_
      refine hK1 _ _ _ ?_
      clear hK1 K1
      refine c_ret ?_
      refine e_ret 2 hm (res_tmps rfl) ?_
      cases a; cases b
      refine ⟨congrArg Value.bool ?_, rfl⟩
      first | (simp_all [ceq_cube]; done) | (simp_all [ceq_cube]; omega) | (simp_all [ceq_cube]; intros; omega) | (rw [Bool.eq_iff_iff]; simp_all [ceq_cube]; done)
  ·
    refine r_no' rfl rfl h0 ?_
    refine r_no' rfl rfl h0 ?_
    refine r_no' rfl rfl h0 ?_
    refine r_no' rfl rfl h0 ?_
    refine r_no' rfl rfl h0 ?_
    refine r_y rfl rfl (y_pickf rfl h0 rfl) ?_
    refine r_y rfl rfl (y_move rfl) ?_
    refine r_no' rfl rfl rfl ?_
    refine r_no' rfl rfl rfl ?_
    refine r_no' rfl rfl rfl ?_
    refine r_no' rfl rfl rfl ?_
    refine r_no' rfl rfl rfl ?_
    refine r_y rfl rfl (y_pickf rfl rfl rfl) ?_
    refine r_y rfl rfl (y_move rfl) ?_
    refine r_no' rfl rfl rfl ?_
    refine r_no' rfl rfl rfl ?_
    refine r_no' rfl rfl rfl ?_
    refine r_no' rfl rfl rfl ?_
    refine r_no' rfl rfl rfl ?_
    refine r_y rfl rfl (y_pickf rfl rfl rfl) ?_
    refine r_y rfl rfl (y_move rfl) ?_
    refine r_no' rfl rfl rfl ?_
    refine r_no' rfl rfl rfl ?_
    refine r_no' rfl rfl rfl ?_
    refine r_no' rfl rfl rfl ?_
    refine r_no' rfl rfl rfl ?_
    refine r_y rfl rfl (y_pickf rfl rfl rfl) ?_
    refine r_y rfl rfl (y_move rfl) ?_
    refine r_no' rfl rfl rfl ?_
    refine r_no' rfl rfl rfl ?_
    refine r_no' rfl rfl rfl ?_
    refine r_no' rfl rfl rfl ?_
    refine r_no' rfl rfl rfl ?_
    refine r_y rfl rfl (y_pickf rfl rfl rfl) ?_
    refine r_y rfl rfl (y_move rfl) ?_
    refine r_no' rfl rfl rfl ?_
    refine r_no' rfl rfl rfl ?_
    refine r_no' rfl rfl rfl ?_
    refine r_no' rfl rfl rfl ?_
    refine r_no' rfl rfl rfl ?_
    refine r_y rfl rfl (y_pickf rfl rfl rfl) ?_
    refine r_y rfl rfl (y_move rfl) ?_
    refine r_no' rfl rfl rfl ?_
    refine r_no' rfl rfl rfl ?_
    refine r_no' rfl rfl rfl ?_
    refine r_no' rfl rfl rfl ?_
    refine r_no' rfl rfl rfl ?_
    refine r_y rfl rfl (y_pickf rfl rfl rfl) ?_
    refine r_y rfl rfl (y_assign rfl) ?_
    refine r_nil ?_
    refine hK1 _ _ _ ?_
    clear hK1 K1
    refine c_ret ?_
    refine e_ret 2 hm (res_tmps rfl) ?_
    cases a; cases b
    refine ⟨congrArg Value.bool ?_, rfl⟩
    first | (simp_all [ceq_cube]; done) | (simp_all [ceq_cube]; omega) | (simp_all [ceq_cube]; intros; omega) | (rw [Bool.eq_iff_iff]; simp_all [ceq_cube]; done)
set_option maxRecDepth 100000 in
theorem idxActs_ok (s : Sl) (l : List ActD) (f : Nat) (cp : List Value) (p : ActD → Bool) (m : Snap) (H : Hp) (hz : FzA m s l) (hr : runs Try.prog f) (hf : ∀ m' x, m.le m' → x ∈ l → Fn Try.prog f (.agg (encAct x).toArray :: cp) m' H (fun v _ H' => v = .bool (p x) ∧ H' = H)) : Fn Try.prog 155 [s.v, .func (.func f) [].toArray cp.toArray] m H (fun v _ H' => v = .int .i64 (idxF p l) ∧ H' = H) := by
  have hm : m.le m := Snap.le.refl m
  refine fn_end Try.func155 rfl rfl rfl ?_
  refine c_seq (fun K0 hK0 => ?_)
  refine c_region ?_
  refine r_y rfl rfl (y_assign rfl) ?_
  refine r_nil ?_
  refine hK0 _ _ _ ?_
  clear hK0 K0
  refine c_seq (fun K1 hK1 => ?_)
  refine c_seq (fun K2 hK2 => ?_)
  refine c_region ?_
  refine r_y rfl rfl (y_move rfl) ?_
  refine r_y rfl rfl (y_len tl30 rfl) ?_
  refine r_y rfl rfl (y_move rfl) ?_
  refine r_nil ?_
  refine hK2 _ _ _ ?_
  clear hK2 K2
  refine c_block ?_
  have hl := hz.lenA
  have hmx := hz.max
  have hle := hz.le
  unfold maxLen at hmx
  refine c_loopx (α := Nat) (fun i => [(0, s.v), (1, .func (.func f) [].toArray cp.toArray), (7, .int .i64 (s.n : Nat)), (8, .int .i64 (i : Nat))]) (fun i => H) (fun k0 i m1 => (i + k0 = s.n ∧ (l.take i).any p = false) ∧ m.le m1 ∧ (Fz m1 s.a s.n s.cap 4 (l.map encAct))) (s.n) 0 ⟨rfl, rfl, rfl, rfl, trivial⟩ rfl ⟨⟨by omega, rfl⟩, hm, hz⟩ ?_
  clear hm hz
  rintro k0 i m1 ⟨hi0, hm, hz⟩
  obtain ⟨hi, hinv⟩ := hi0
  refine c_seq (fun K3 hK3 => ?_)
  refine c_region ?_
  refine r_y rfl rfl (y_iop rfl rfl rfl) ?_
  refine r_nil ?_
  refine hK3 _ _ _ ?_
  clear hK3 K3
  refine c_seq (fun K4 hK4 => ?_)
  refine c_cond rfl (fun h0 => ?_) (fun h0 => ?_)
  ·
    have hlt : i < s.n := by simp at h0; omega
    obtain ⟨x, hx⟩ := get_of_lt (l := l) (k := i) (by omega)
    refine c_skip ?_
    refine hK4 _ _ _ ?_
    clear hK4 K4
    refine c_seq (fun K5 hK5 => ?_)
    refine c_block ?_
    refine c_seq (fun K6 hK6 => ?_)
    refine c_region ?_
    refine r_y rfl rfl (y_move rfl) ?_
    refine r_y rfl rfl (y_assign rfl) ?_
    refine r_nil ?_
    refine hK6 _ _ _ ?_
    clear hK6 K6
    refine c_seq (fun K7 hK7 => ?_)
    refine c_region ?_
    refine r_y rfl rfl (y_move rfl) ?_
    refine r_y rfl rfl (y_move rfl) ?_
    refine r_y rfl rfl (y_move rfl) ?_
    refine r_y rfl rfl (y_indexAddr_slice rfl rfl tl30 hlt (At.fz hz hlt)) ?_
    refine r_y rfl rfl (y_load_a rfl ts53 (RdA.fz0 hz (map_get hx))) ?_
    refine r_s rfl ?_
    refine s_call rfl hr rfl rfl (hf _ x hm (List.mem_of_getElem? hx)) ?_
    rintro _ m2 _ hm2 ⟨rfl, rfl⟩
    replace hm := hm.trans hm2
    replace hz := hz.mono hm2
    clear hm2
    refine r_nil ?_
    refine hK7 _ _ _ ?_
    clear hK7 K7
    refine c_cond rfl (fun h1 => ?_) (fun h1 => ?_)
    ·
      refine c_seq (fun K8 hK8 => ?_)
      refine c_region ?_
      refine r_y rfl rfl (y_move rfl) ?_
      refine r_y rfl rfl (y_assign rfl) ?_
      refine r_nil ?_
      refine hK8 _ _ _ ?_
      clear hK8 K8
      refine c_ret ?_
      refine e_ret 0 hm (res_tmps rfl) ?_
      exact ⟨congrArg _ (idxF_at hinv hx h1).symm, rfl⟩
    ·
      refine c_skip ?_
      refine hK5 _ _ _ ?_
      clear hK5 K5
      refine c_region ?_
      first | refine r_y rfl rfl (y_inc rfl (by omega)) ?_ | refine r_y rfl rfl (y_iop rfl rfl rfl) ?_
      refine r_y rfl rfl (y_move rfl) ?_
      refine r_nil ?_
      exact ⟨k0 - 1, (i + 1), by omega, ⟨rfl, rfl, rfl, rfl, trivial⟩, rfl, ⟨by omega, by rw [any_take_succ hx, hinv]; simpa using h1⟩, hm, hz⟩
  ·
    refine c_exit ?_
    refine hK1 _ _ _ ?_
    clear hK4 K4 hK1 K1
    refine c_seq (fun K9 hK9 => ?_)
    refine c_region ?_
    refine r_y rfl rfl (y_assign rfl) ?_
    refine r_nil ?_
    refine hK9 _ _ _ ?_
    clear hK9 K9
    refine c_ret ?_
    refine e_ret 0 hm (res_tmps rfl) ?_
    refine ⟨congrArg _ (idxF_no ?_).symm, rfl⟩
    have hie : i = s.n := by simp at h0; omega
    rw [List.take_of_length_le (by omega)] at hinv
    exact hinv
set_option maxRecDepth 100000 in
theorem hasActs_ok (s : Sl) (l : List ActD) (f : Nat) (cp : List Value) (p : ActD → Bool) (m : Snap) (H : Hp) (hz : FzA m s l) (hr : runs Try.prog f) (hf : ∀ m' x, m.le m' → x ∈ l → Fn Try.prog f (.agg (encAct x).toArray :: cp) m' H (fun v _ H' => v = .bool (p x) ∧ H' = H)) : Fn Try.prog 136 [s.v, .func (.func f) [].toArray cp.toArray] m H (fun v _ H' => v = .bool (l.any p) ∧ H' = H) := by
  have hm : m.le m := Snap.le.refl m
  refine fn_end Try.func136 rfl rfl rfl ?_
  refine c_seq (fun K0 hK0 => ?_)
  refine c_region ?_
  refine r_y rfl rfl (y_assign rfl) ?_
  refine r_nil ?_
  refine hK0 _ _ _ ?_
  clear hK0 K0
  refine c_seq (fun K1 hK1 => ?_)
  refine c_region ?_
  refine r_y rfl rfl (y_move rfl) ?_
  refine r_y rfl rfl (y_move rfl) ?_
  refine r_s rfl ?_
  refine s_call0 rfl Try.call155 rfl (idxActs_ok s l f cp p _ _ hz hr hf) ?_
  rintro _ m2 _ hm2 ⟨rfl, rfl⟩
  replace hm := hm.trans hm2
  clear hm2
  refine r_y rfl rfl (y_iop rfl rfl rfl) ?_
  refine r_y rfl rfl (y_assign rfl) ?_
  refine r_nil ?_
  refine hK1 _ _ _ ?_
  clear hK1 K1
  refine c_ret ?_
  refine e_ret 0 hm (res_tmps rfl) ?_
  exact ⟨congrArg _ (idxF_nonneg p l), rfl⟩
set_option maxRecDepth 100000 in
theorem headSet_ok (h : Head) (n : Int) (x : W) (m : Snap) (H : Hp) : Fn Try.prog 156 [.agg (encHead h).toArray, .int .i64 n, wv x] m H (fun v _ H' => v = .tuple [.agg (encHead (setF h n x).1).toArray, .int .i64 (setF h n x).2].toArray ∧ H' = H) := by
  have hm : m.le m := Snap.le.refl m
  refine fn_end Try.func156 rfl rfl rfl ?_
  refine c_seq (fun K0 hK0 => ?_)
  refine c_region ?_
  refine r_s rfl ?_
  refine s_box_a rfl rfl (fun b0 => ?_)
  refine r_s rfl ?_
  refine s_alloc rfl tz27 (fun b1 => ?_)
  refine r_y rfl rfl (y_assign rfl) ?_
  refine r_nil ?_
  refine hK0 _ _ _ ?_
  clear hK0 K0
  refine c_seq (fun K1 hK1 => ?_)
  refine c_block ?_
  refine c_seq (fun K2 hK2 => ?_)
  refine c_region ?_
  refine r_y rfl rfl (y_move rfl) ?_
  refine r_s rfl ?_
  refine s_call0 rfl Try.call167 rfl (there_ok _ _ _) ?_
  rintro _ m2 _ hm2 ⟨rfl, rfl⟩
  replace hm := hm.trans hm2
  clear hm2
  refine r_y rfl rfl (y_not rfl) ?_
  refine r_y rfl rfl (y_assign rfl) ?_
  refine r_nil ?_
  refine hK2 _ _ _ ?_
  clear hK2 K2
  refine c_cond rfl (fun h0 => ?_) (fun h0 => ?_)
  ·
    refine c_seq (fun K3 hK3 => ?_)
    refine c_region ?_
    refine r_y rfl rfl (y_bld rfl tz27 fk27 bp27_ rfl rfl) ?_
    refine r_s rfl ?_
    refine s_store rfl rfl rfl ts27 rfl rfl (by simp [Value.oneCell', wv, Sl.v]) (i := 0) rfl rfl ?_
    refine r_y rfl rfl (y_assign rfl) ?_
    refine r_nil ?_
    refine hK3 _ _ _ ?_
    clear hK3 K3
    refine c_ret ?_
    refine e_ret 2 hm (res2 (r1_cell_a rfl ts27 (RdA.blk (i := 0) rfl rfl)) (r1_tmp rfl)) ?_
    simp only [setF, h0, if_true]
    exact ⟨rfl, rfl⟩
  ·
    obtain ⟨k, hk, rfl⟩ := there_spec h0
    refine c_seq (fun K4 hK4 => ?_)
    refine c_region ?_
    refine r_y rfl rfl (y_move rfl) ?_
    refine r_y rfl rfl (y_move rfl) ?_
    refine r_s rfl ?_
    refine s_call0 rfl Try.call154 rfl (fits_ok _ _ _ _) ?_
    rintro _ m2 _ hm2 ⟨rfl, rfl⟩
    replace hm := hm.trans hm2
    clear hm2
    refine r_y rfl rfl (y_not rfl) ?_
    refine r_y rfl rfl (y_assign rfl) ?_
    refine r_nil ?_
    refine hK4 _ _ _ ?_
    clear hK4 K4
    refine c_cond rfl (fun h1 => ?_) (fun h1 => ?_)
    ·
      refine c_seq (fun K5 hK5 => ?_)
      refine c_region ?_
      refine r_y rfl rfl (y_bld rfl tz27 fk27 bp27_ rfl rfl) ?_
      refine r_s rfl ?_
      refine s_store rfl rfl rfl ts27 rfl rfl (by simp [Value.oneCell', wv, Sl.v]) (i := 0) rfl rfl ?_
      refine r_y rfl rfl (y_assign rfl) ?_
      refine r_nil ?_
      refine hK5 _ _ _ ?_
      clear hK5 K5
      refine c_ret ?_
      refine e_ret 2 hm (res2 (r1_cell_a rfl ts27 (RdA.blk (i := 0) rfl rfl)) (r1_tmp rfl)) ?_
      have h0' : (!there (k : Int)) = false := h0
      simp only [setF, h0', h1, if_true, Bool.false_eq_true, if_false]
      exact ⟨rfl, rfl⟩
    ·
      refine c_skip ?_
      refine hK1 _ _ _ ?_
      clear hK1 K1
      refine c_seq (fun K6 hK6 => ?_)
      refine c_region ?_
      refine r_y rfl rfl (y_move rfl) ?_
      refine r_y rfl rfl (y_move rfl) ?_
      refine r_y rfl rfl (y_indexAddr_arr rfl rfl ta27 hk At.lit) ?_
      refine r_s rfl ?_
      refine s_store rfl rfl rfl ts25 rfl rfl (by simp [Value.oneCell', wv]) (i := 1) rfl (cput_head _ _ _ hk) ?_
      refine r_nil ?_
      refine hK6 _ _ _ ?_
      clear hK6 K6
      refine c_seq (fun K7 hK7 => ?_)
      refine c_region ?_
      refine r_y rfl rfl (y_load_a (cs := encHead (h.set k x)) rfl ts27 (RdA.blk (i := 1) rfl rfl)) ?_
      refine r_s rfl ?_
      refine s_store (us := encHead (h.set k x)) rfl rfl rfl ts27 rfl rfl (one_head _) (i := 0) rfl rfl ?_
      refine r_y rfl rfl (y_assign rfl) ?_
      refine r_nil ?_
      refine hK7 _ _ _ ?_
      clear hK7 K7
      refine c_ret ?_
      refine e_ret 2 hm (res2 (r1_cell_a rfl ts27 (RdA.blk (i := 0) rfl rfl)) (r1_tmp rfl)) ?_
      have h0' : (!there (k : Int)) = false := h0
      simp only [setF, h0', h1, Bool.false_eq_true, if_false, Int.toNat_natCast]
      exact ⟨rfl, rfl⟩
set_option maxRecDepth 100000 in
theorem actsound_ok (a : ActD) (m : Snap) (H : Hp) : Fn Try.prog 138 [.agg (encAct a).toArray] m H (fun v _ H' => v = .bool (actSound a) ∧ H' = H) := by
  have hm : m.le m := Snap.le.refl m
  refine fn_end Try.func138 rfl rfl rfl ?_
  refine c_seq (fun K0 hK0 => ?_)
  refine c_region ?_
  refine r_s rfl ?_
  refine s_box_a rfl rfl (fun b0 => ?_)
  refine r_y rfl rfl (y_assign rfl) ?_
  refine r_nil ?_
  refine hK0 _ _ _ ?_
  clear hK0 K0
  refine c_seq (fun K1 hK1 => ?_)
  refine c_seq (fun K2 hK2 => ?_)
  refine c_region ?_
  refine r_y rfl rfl (y_fieldAddr rfl At.lit fo53_0 rfl) ?_
  refine r_y rfl rfl (y_load_s rfl ts3 (RdS.blk (i := 0) rfl rfl)) ?_
  refine r_nil ?_
  refine hK2 _ _ _ ?_
  clear hK2 K2
  refine c_block ?_
  refine c_seq (fun K3 hK3 => ?_)
  refine c_region ?_
  refine r_y rfl rfl (y_iop rfl rfl rfl) ?_
  refine r_y rfl rfl (y_assign rfl) ?_
  refine r_nil ?_
  refine hK3 _ _ _ ?_
  clear hK3 K3
  refine c_cond rfl (fun h0 => ?_) (fun h0 => ?_)
  ·
    refine c_seq (fun K4 hK4 => ?_)
    refine c_region ?_
    refine r_y rfl rfl (y_fieldAddr rfl At.lit fo53_1 rfl) ?_
    refine r_y rfl rfl (y_load_s rfl ts3 (RdS.blk (i := 0) rfl rfl)) ?_
    refine r_y rfl rfl (y_iop rfl rfl rfl) ?_
    refine r_y rfl rfl (y_move rfl) ?_
    refine r_split (j := 3) rfl (fun h1 => ?_) (fun h1 => ?_)
    ·
      refine r_yg rfl h1 rfl (y_fieldAddr rfl At.lit fo53_1 rfl) ?_
      refine r_yg rfl h1 rfl (y_load_s rfl ts3 (RdS.blk (i := 0) rfl rfl)) ?_
      refine r_yg rfl h1 rfl (y_iop rfl rfl rfl) ?_
      refine r_y rfl rfl (y_pickt rfl h1 rfl) ?_
      refine r_y rfl rfl (y_move rfl) ?_
      refine r_split (j := 8) rfl (fun h2 => ?_) (fun h2 => ?_)
      ·
        refine r_yg rfl h2 rfl (y_fieldAddr rfl At.lit fo53_2 rfl) ?_
        refine r_yg rfl h2 rfl (y_load_s rfl ts3 (RdS.blk (i := 0) rfl rfl)) ?_
        refine r_yg rfl h2 rfl (y_iop rfl rfl rfl) ?_
        refine r_y rfl rfl (y_pickt rfl h2 rfl) ?_
        refine r_y rfl rfl (y_move rfl) ?_
        refine r_split (j := 13) rfl (fun h3 => ?_) (fun h3 => ?_)
        ·
          refine r_yg rfl h3 rfl (y_fieldAddr rfl At.lit fo53_3 rfl) ?_
          refine r_yg rfl h3 rfl (y_load_s rfl ts25 (RdS.blk (i := 0) rfl rfl)) ?_
          refine r_yg rfl h3 rfl (y_wop rfl (opv_wc 0#64) rfl) ?_
          refine r_y rfl rfl (y_pickt rfl h3 rfl) ?_
          refine r_y rfl rfl (y_assign rfl) ?_
          refine r_nil ?_
          refine hK4 _ _ _ ?_
          clear hK4 K4
          refine c_ret ?_
          refine e_ret 1 hm (res_tmps rfl) ?_
          refine ⟨congrArg Value.bool ?_, rfl⟩
          first | (simp_all [actSound, ceq_act]; done) | (simp_all [actSound, ceq_act]; omega) | (simp_all [actSound, ceq_act]; intros; omega) | (rw [Bool.eq_iff_iff]; simp_all [actSound, ceq_act]; done)
        ·
          refine r_no' rfl rfl h3 ?_
          refine r_no' rfl rfl h3 ?_
          refine r_no' rfl rfl h3 ?_
          refine r_y rfl rfl (y_pickf rfl h3 rfl) ?_
          refine r_y rfl rfl (y_assign rfl) ?_
          refine r_nil ?_
          refine hK4 _ _ _ ?_
          clear hK4 K4
          refine c_ret ?_
          refine e_ret 1 hm (res_tmps rfl) ?_
          refine ⟨congrArg Value.bool ?_, rfl⟩
          first | (simp_all [actSound, ceq_act]; done) | (simp_all [actSound, ceq_act]; omega) | (simp_all [actSound, ceq_act]; intros; omega) | (rw [Bool.eq_iff_iff]; simp_all [actSound, ceq_act]; done)
      ·
        refine r_no' rfl rfl h2 ?_
        refine r_no' rfl rfl h2 ?_
        refine r_no' rfl rfl h2 ?_
        refine r_y rfl rfl (y_pickf rfl h2 rfl) ?_
        refine r_y rfl rfl (y_move rfl) ?_
        refine r_no' rfl rfl rfl ?_
        refine r_no' rfl rfl rfl ?_
        refine r_no' rfl rfl rfl ?_
        refine r_y rfl rfl (y_pickf rfl rfl rfl) ?_
        refine r_y rfl rfl (y_assign rfl) ?_
        refine r_nil ?_
        refine hK4 _ _ _ ?_
        clear hK4 K4
        refine c_ret ?_
        refine e_ret 1 hm (res_tmps rfl) ?_
        refine ⟨congrArg Value.bool ?_, rfl⟩
        first | (simp_all [actSound, ceq_act]; done) | (simp_all [actSound, ceq_act]; omega) | (simp_all [actSound, ceq_act]; intros; omega) | (rw [Bool.eq_iff_iff]; simp_all [actSound, ceq_act]; done)
    ·
      refine r_no' rfl rfl h1 ?_
      refine r_no' rfl rfl h1 ?_
      refine r_no' rfl rfl h1 ?_
      refine r_y rfl rfl (y_pickf rfl h1 rfl) ?_
      refine r_y rfl rfl (y_move rfl) ?_
      refine r_no' rfl rfl rfl ?_
      refine r_no' rfl rfl rfl ?_
      refine r_no' rfl rfl rfl ?_
      refine r_y rfl rfl (y_pickf rfl rfl rfl) ?_
      refine r_y rfl rfl (y_move rfl) ?_
      refine r_no' rfl rfl rfl ?_
      refine r_no' rfl rfl rfl ?_
      refine r_no' rfl rfl rfl ?_
      refine r_y rfl rfl (y_pickf rfl rfl rfl) ?_
      refine r_y rfl rfl (y_assign rfl) ?_
      refine r_nil ?_
      refine hK4 _ _ _ ?_
      clear hK4 K4
      refine c_ret ?_
      refine e_ret 1 hm (res_tmps rfl) ?_
      refine ⟨congrArg Value.bool ?_, rfl⟩
      first | (simp_all [actSound, ceq_act]; done) | (simp_all [actSound, ceq_act]; omega) | (simp_all [actSound, ceq_act]; intros; omega) | (rw [Bool.eq_iff_iff]; simp_all [actSound, ceq_act]; done)
  ·
    refine c_seq (fun K5 hK5 => ?_)
    refine c_region ?_
    refine r_y rfl rfl (y_iop rfl rfl rfl) ?_
    refine r_y rfl rfl (y_assign rfl) ?_
    refine r_nil ?_
    refine hK5 _ _ _ ?_
    clear hK5 K5
    refine c_cond rfl (fun h4 => ?_) (fun h4 => ?_)
    ·
      refine c_seq (fun K6 hK6 => ?_)
      refine c_region ?_
      refine r_y rfl rfl (y_bld rfl tz27 fk27 bp27_ rfl rfl) ?_
      refine r_y rfl rfl (y_fieldAddr rfl At.lit fo53_2 rfl) ?_
      refine r_y rfl rfl (y_load_s rfl ts3 (RdS.blk (i := 0) rfl rfl)) ?_
      refine r_y rfl rfl (y_fieldAddr rfl At.lit fo53_3 rfl) ?_
      refine r_y rfl rfl (y_load_s rfl ts25 (RdS.blk (i := 0) rfl rfl)) ?_
      refine r_s rfl ?_
      refine s_call0 rfl Try.call156 rfl (headSet_ok zHead a.field a.val _ _) ?_
      rintro _ m2 _ hm2 ⟨rfl, rfl⟩
      replace hm := hm.trans hm2
      clear hm2
      refine r_y rfl rfl (y_move rfl) ?_
      refine r_y rfl rfl (y_extract rfl rfl) ?_
      refine r_y rfl rfl (y_extract rfl rfl) ?_
      refine r_s rfl ?_
      refine s_alloc rfl tz27 (fun b1 => ?_)
      refine r_s rfl ?_
      refine s_store (us := encHead (setF zHead a.field a.val).1) rfl rfl rfl ts27 rfl rfl (one_head _) (i := 0) rfl rfl ?_
      refine r_y rfl rfl (y_assign rfl) ?_
      refine r_nil ?_
      refine hK6 _ _ _ ?_
      clear hK6 K6
      refine c_seq (fun K7 hK7 => ?_)
      refine c_region ?_
      refine r_y rfl rfl (y_move rfl) ?_
      refine r_y rfl rfl (y_iop rfl rfl rfl) ?_
      refine r_y rfl rfl (y_move rfl) ?_
      refine r_split (j := 2) rfl (fun h5 => ?_) (fun h5 => ?_)
      ·
        refine r_yg rfl h5 rfl (y_fieldAddr rfl At.lit fo53_1 rfl) ?_
        refine r_yg rfl h5 rfl (y_load_s rfl ts3 (RdS.blk (i := 1) rfl rfl)) ?_
        refine r_yg rfl h5 rfl (y_iop rfl rfl rfl) ?_
        refine r_y rfl rfl (y_pickt rfl h5 rfl) ?_
        refine r_y rfl rfl (y_assign rfl) ?_
        refine r_nil ?_
        refine hK7 _ _ _ ?_
        clear hK7 K7
        refine c_ret ?_
        refine e_ret 2 hm (res_tmps rfl) ?_
        refine ⟨congrArg Value.bool ?_, rfl⟩
        first | (simp_all [actSound, ceq_act]; done) | (simp_all [actSound, ceq_act]; omega) | (simp_all [actSound, ceq_act]; intros; omega) | (rw [Bool.eq_iff_iff]; simp_all [actSound, ceq_act]; done)
      ·
        refine r_no' rfl rfl h5 ?_
        refine r_no' rfl rfl h5 ?_
        refine r_no' rfl rfl h5 ?_
        refine r_y rfl rfl (y_pickf rfl h5 rfl) ?_
        refine r_y rfl rfl (y_assign rfl) ?_
        refine r_nil ?_
        refine hK7 _ _ _ ?_
        clear hK7 K7
        refine c_ret ?_
        refine e_ret 2 hm (res_tmps rfl) ?_
        refine ⟨congrArg Value.bool ?_, rfl⟩
        first | (simp_all [actSound, ceq_act]; done) | (simp_all [actSound, ceq_act]; omega) | (simp_all [actSound, ceq_act]; intros; omega) | (rw [Bool.eq_iff_iff]; simp_all [actSound, ceq_act]; done)
    ·
      refine c_skip ?_
      refine hK1 _ _ _ ?_
      clear hK1 K1
      refine c_seq (fun K8 hK8 => ?_)
      refine c_region ?_
      refine r_y rfl rfl (y_load_a (cs := encAct a) rfl ts53 (RdA.blk (i := 0) rfl rfl)) ?_
      refine r_y rfl rfl (y_bld rfl tz53 fk53 bp53_0 rfl rfl) ?_
      refine r_y rfl rfl (y_eqagg (dd := 6) (ys := encAct ⟨3, 0, 0, 0⟩) rfl rfl en53 ia53 rfl Try.eqGuardType53 rfl (alike_act _ ⟨3, 0, 0, 0⟩)) ?_
      refine r_y rfl rfl (y_assign rfl) ?_
      refine r_nil ?_
      refine hK8 _ _ _ ?_
      clear hK8 K8
      refine c_ret ?_
      refine e_ret 1 hm (res_tmps rfl) ?_
      refine ⟨congrArg Value.bool ?_, rfl⟩
      first | (simp_all [actSound, ceq_act]; done) | (simp_all [actSound, ceq_act]; omega) | (simp_all [actSound, ceq_act]; intros; omega) | (rw [Bool.eq_iff_iff]; simp_all [actSound, ceq_act]; done)
set_option maxRecDepth 100000 in
theorem actSound1_ok (a : ActD) (m : Snap) (H : Hp) : Fn Try.prog 137 [.agg (encAct a).toArray] m H (fun v _ H' => v = .bool (!actSound a) ∧ H' = H) := by
  have hm : m.le m := Snap.le.refl m
  refine fn_end Try.func137 rfl rfl rfl ?_
  refine c_seq (fun K0 hK0 => ?_)
  refine c_region ?_
  refine r_s rfl ?_
  refine s_box_a rfl rfl (fun b0 => ?_)
  refine r_y rfl rfl (y_assign rfl) ?_
  refine r_nil ?_
  refine hK0 _ _ _ ?_
  clear hK0 K0
  refine c_seq (fun K1 hK1 => ?_)
  refine c_region ?_
  refine r_y rfl rfl (y_load_a (cs := encAct a) rfl ts53 (RdA.blk (i := 0) rfl rfl)) ?_
  refine r_s rfl ?_
  refine s_call0 rfl Try.call138 rfl (actsound_ok a _ _) ?_
  rintro _ m2 _ hm2 ⟨rfl, rfl⟩
  replace hm := hm.trans hm2
  clear hm2
  refine r_y rfl rfl (y_not rfl) ?_
  refine r_y rfl rfl (y_assign rfl) ?_
  refine r_nil ?_
  refine hK1 _ _ _ ?_
  clear hK1 K1
  refine c_ret ?_
  refine e_ret 1 hm (res_tmps rfl) ?_
  exact ⟨rfl, rfl⟩
set_option maxRecDepth 100000 in
theorem actsSound_ok (s : Sl) (l : List ActD) (m : Snap) (H : Hp) (hz : FzA m s l) : Fn Try.prog 91 [s.v] m H (fun v _ H' => v = .bool (actsSound l) ∧ H' = H) := by
  have hl := hz.lenA
  have hm : m.le m := Snap.le.refl m
  refine fn_end Try.func91 rfl rfl rfl ?_
  refine c_seq (fun K0 hK0 => ?_)
  refine c_region ?_
  refine r_y rfl rfl (y_assign rfl) ?_
  refine r_nil ?_
  refine hK0 _ _ _ ?_
  clear hK0 K0
  refine c_seq (fun K1 hK1 => ?_)
  refine c_region ?_
  refine r_y rfl rfl (y_move rfl) ?_
  refine r_y rfl rfl (y_len tl30 rfl) ?_
  refine r_y rfl rfl (y_iop rfl rfl rfl) ?_
  refine r_y rfl rfl (y_move rfl) ?_
  refine r_split (j := 3) rfl (fun h0 => ?_) (fun h0 => ?_)
  ·
    refine r_yg rfl h0 rfl (y_move rfl) ?_
    refine r_sg rfl h0 ?_
    refine s_call0 rfl Try.call136 rfl (hasActs_ok s l 137 [] (fun a => !actSound a) _ _ hz Try.call137 (fun m' x _ _ => actSound1_ok x m' _)) ?_
    rintro _ m2 _ hm2 ⟨rfl, rfl⟩
    replace hm := hm.trans hm2
    replace hz := hz.mono hm2
    clear hm2
    refine r_yg rfl h0 rfl (y_not rfl) ?_
    refine r_y rfl rfl (y_pickt rfl h0 rfl) ?_
    refine r_y rfl rfl (y_assign rfl) ?_
    refine r_nil ?_
    refine hK1 _ _ _ ?_
    clear hK1 K1
    refine c_ret ?_
    refine e_ret 0 hm (res_tmps rfl) ?_
    refine ⟨congrArg Value.bool ?_, rfl⟩
    first | (simp_all [actsSound]; done) | (simp_all [actsSound]; omega) | (simp_all [actsSound]; intros; omega) | (rw [Bool.eq_iff_iff]; simp_all [actsSound]; done)
  ·
    refine r_no' rfl rfl h0 ?_
    refine r_no' rfl rfl h0 ?_
    refine r_no' rfl rfl h0 ?_
    refine r_y rfl rfl (y_pickf rfl h0 rfl) ?_
    refine r_y rfl rfl (y_assign rfl) ?_
    refine r_nil ?_
    refine hK1 _ _ _ ?_
    clear hK1 K1
    refine c_ret ?_
    refine e_ret 0 hm (res_tmps rfl) ?_
    refine ⟨congrArg Value.bool ?_, rfl⟩
    first | (simp_all [actsSound]; done) | (simp_all [actsSound]; omega) | (simp_all [actsSound]; intros; omega) | (rw [Bool.eq_iff_iff]; simp_all [actsSound]; done)
set_option maxRecDepth 100000 in
theorem spanM_ok (n k : Int) (m : Snap) (H : Hp) : Fn Try.prog 92 [.int .i64 n, .int .i64 k] m H (fun v _ H' => v = .bool (span n k) ∧ H' = H) := by
  have hm : m.le m := Snap.le.refl m
  refine fn_end Try.func92 rfl rfl rfl ?_
  refine c_seq (fun K0 hK0 => ?_)
  refine c_region ?_
  refine r_y rfl rfl (y_assign rfl) ?_
  refine r_nil ?_
  refine hK0 _ _ _ ?_
  clear hK0 K0
  refine c_seq (fun K1 hK1 => ?_)
  refine c_region ?_
  refine r_y rfl rfl (y_move rfl) ?_
  refine r_y rfl rfl (y_iop rfl rfl rfl) ?_
  refine r_y rfl rfl (y_move rfl) ?_
  refine r_split (j := 2) rfl (fun h0 => ?_) (fun h0 => ?_)
  ·
    refine r_yg rfl h0 rfl (y_move rfl) ?_
    refine r_yg rfl h0 rfl (y_move rfl) ?_
    refine r_yg rfl h0 rfl (y_iop rfl rfl rfl) ?_
    refine r_y rfl rfl (y_pickt rfl h0 rfl) ?_
    refine r_y rfl rfl (y_assign rfl) ?_
    refine r_nil ?_
    refine hK1 _ _ _ ?_
    clear hK1 K1
    refine c_ret ?_
    refine e_ret 0 hm (res_tmps rfl) ?_
    refine ⟨congrArg Value.bool ?_, rfl⟩
    first | (simp_all [span]; done) | (simp_all [span]; omega) | (simp_all [span]; intros; omega) | (rw [Bool.eq_iff_iff]; simp_all [span]; done)
  ·
    refine r_no' rfl rfl h0 ?_
    refine r_no' rfl rfl h0 ?_
    refine r_no' rfl rfl h0 ?_
    refine r_y rfl rfl (y_pickf rfl h0 rfl) ?_
    refine r_y rfl rfl (y_assign rfl) ?_
    refine r_nil ?_
    refine hK1 _ _ _ ?_
    clear hK1 K1
    refine c_ret ?_
    refine e_ret 0 hm (res_tmps rfl) ?_
    refine ⟨congrArg Value.bool ?_, rfl⟩
    first | (simp_all [span]; done) | (simp_all [span]; omega) | (simp_all [span]; intros; omega) | (rw [Bool.eq_iff_iff]; simp_all [span]; done)
set_option maxRecDepth 100000 in
theorem spanR_ok (n k : Int) (m : Snap) (H : Hp) : Fn Try.prog 120 [.int .i64 n, .int .i64 k] m H (fun v _ H' => v = .bool (span n k) ∧ H' = H) := by
  have hm : m.le m := Snap.le.refl m
  refine fn_end Try.func120 rfl rfl rfl ?_
  refine c_seq (fun K0 hK0 => ?_)
  refine c_region ?_
  refine r_y rfl rfl (y_assign rfl) ?_
  refine r_nil ?_
  refine hK0 _ _ _ ?_
  clear hK0 K0
  refine c_seq (fun K1 hK1 => ?_)
  refine c_region ?_
  refine r_y rfl rfl (y_move rfl) ?_
  refine r_y rfl rfl (y_iop rfl rfl rfl) ?_
  refine r_y rfl rfl (y_move rfl) ?_
  refine r_split (j := 2) rfl (fun h0 => ?_) (fun h0 => ?_)
  ·
    refine r_yg rfl h0 rfl (y_move rfl) ?_
    refine r_yg rfl h0 rfl (y_move rfl) ?_
    refine r_yg rfl h0 rfl (y_iop rfl rfl rfl) ?_
    refine r_y rfl rfl (y_pickt rfl h0 rfl) ?_
    refine r_y rfl rfl (y_assign rfl) ?_
    refine r_nil ?_
    refine hK1 _ _ _ ?_
    clear hK1 K1
    refine c_ret ?_
    refine e_ret 0 hm (res_tmps rfl) ?_
    refine ⟨congrArg Value.bool ?_, rfl⟩
    first | (simp_all [span]; done) | (simp_all [span]; omega) | (simp_all [span]; intros; omega) | (rw [Bool.eq_iff_iff]; simp_all [span]; done)
  ·
    refine r_no' rfl rfl h0 ?_
    refine r_no' rfl rfl h0 ?_
    refine r_no' rfl rfl h0 ?_
    refine r_y rfl rfl (y_pickf rfl h0 rfl) ?_
    refine r_y rfl rfl (y_assign rfl) ?_
    refine r_nil ?_
    refine hK1 _ _ _ ?_
    clear hK1 K1
    refine c_ret ?_
    refine e_ret 0 hm (res_tmps rfl) ?_
    refine ⟨congrArg Value.bool ?_, rfl⟩
    first | (simp_all [span]; done) | (simp_all [span]; omega) | (simp_all [span]; intros; omega) | (rw [Bool.eq_iff_iff]; simp_all [span]; done)
set_option maxRecDepth 100000 in
theorem spanF_ok (n k : Int) (m : Snap) (H : Hp) : Fn Try.prog 96 [.int .i64 n, .int .i64 k] m H (fun v _ H' => v = .bool (span n k) ∧ H' = H) := by
  have hm : m.le m := Snap.le.refl m
  refine fn_end Try.func96 rfl rfl rfl ?_
  refine c_seq (fun K0 hK0 => ?_)
  refine c_region ?_
  refine r_y rfl rfl (y_assign rfl) ?_
  refine r_nil ?_
  refine hK0 _ _ _ ?_
  clear hK0 K0
  refine c_seq (fun K1 hK1 => ?_)
  refine c_region ?_
  refine r_y rfl rfl (y_move rfl) ?_
  refine r_y rfl rfl (y_iop rfl rfl rfl) ?_
  refine r_y rfl rfl (y_move rfl) ?_
  refine r_split (j := 2) rfl (fun h0 => ?_) (fun h0 => ?_)
  ·
    refine r_yg rfl h0 rfl (y_move rfl) ?_
    refine r_yg rfl h0 rfl (y_move rfl) ?_
    refine r_yg rfl h0 rfl (y_iop rfl rfl rfl) ?_
    refine r_y rfl rfl (y_pickt rfl h0 rfl) ?_
    refine r_y rfl rfl (y_assign rfl) ?_
    refine r_nil ?_
    refine hK1 _ _ _ ?_
    clear hK1 K1
    refine c_ret ?_
    refine e_ret 0 hm (res_tmps rfl) ?_
    refine ⟨congrArg Value.bool ?_, rfl⟩
    first | (simp_all [span]; done) | (simp_all [span]; omega) | (simp_all [span]; intros; omega) | (rw [Bool.eq_iff_iff]; simp_all [span]; done)
  ·
    refine r_no' rfl rfl h0 ?_
    refine r_no' rfl rfl h0 ?_
    refine r_no' rfl rfl h0 ?_
    refine r_y rfl rfl (y_pickf rfl h0 rfl) ?_
    refine r_y rfl rfl (y_assign rfl) ?_
    refine r_nil ?_
    refine hK1 _ _ _ ?_
    clear hK1 K1
    refine c_ret ?_
    refine e_ret 0 hm (res_tmps rfl) ?_
    refine ⟨congrArg Value.bool ?_, rfl⟩
    first | (simp_all [span]; done) | (simp_all [span]; omega) | (simp_all [span]; intros; omega) | (rw [Bool.eq_iff_iff]; simp_all [span]; done)
set_option maxRecDepth 100000 in
theorem plain_ok (a : ModD) (s : Sl) (m : Snap) (H : Hp) : Fn Try.prog 93 [.agg (encMod a s).toArray] m H (fun v _ H' => v = .bool (modPlain a) ∧ H' = H) := by
  have hm : m.le m := Snap.le.refl m
  refine fn_end Try.func93 rfl rfl rfl ?_
  refine c_seq (fun K0 hK0 => ?_)
  refine c_region ?_
  refine r_s rfl ?_
  refine s_box_a rfl rfl (fun b0 => ?_)
  refine r_y rfl rfl (y_assign rfl) ?_
  refine r_nil ?_
  refine hK0 _ _ _ ?_
  clear hK0 K0
  refine c_seq (fun K1 hK1 => ?_)
  refine c_region ?_
  refine r_y rfl rfl (y_fieldAddr rfl At.lit fo32_4 rfl) ?_
  refine r_y rfl rfl (y_load_s rfl ts3 (RdS.blk (i := 0) rfl rfl)) ?_
  refine r_y rfl rfl (y_iop rfl rfl rfl) ?_
  refine r_y rfl rfl (y_move rfl) ?_
  refine r_split (j := 3) rfl (fun h0 => ?_) (fun h0 => ?_)
  ·
    refine r_yg rfl h0 rfl (y_fieldAddr rfl At.lit fo32_5 rfl) ?_
    refine r_yg rfl h0 rfl (y_load_s rfl ts3 (RdS.blk (i := 0) rfl rfl)) ?_
    refine r_yg rfl h0 rfl (y_iop rfl rfl rfl) ?_
    refine r_y rfl rfl (y_pickt rfl h0 rfl) ?_
    refine r_y rfl rfl (y_move rfl) ?_
    refine r_split (j := 8) rfl (fun h1 => ?_) (fun h1 => ?_)
    ·
      refine r_yg rfl h1 rfl (y_fieldAddr rfl At.lit fo32_7 rfl) ?_
      refine r_yg rfl h1 rfl (y_load_s rfl ts4 (RdS.blk (i := 0) rfl rfl)) ?_
      refine r_yg rfl h1 rfl (y_not rfl) ?_
      refine r_y rfl rfl (y_pickt rfl h1 rfl) ?_
      refine r_y rfl rfl (y_assign rfl) ?_
      refine r_nil ?_
      refine hK1 _ _ _ ?_
      clear hK1 K1
      refine c_ret ?_
      refine e_ret 1 hm (res_tmps rfl) ?_
      refine ⟨congrArg Value.bool ?_, rfl⟩
      first | (simp_all [modPlain]; done) | (simp_all [modPlain]; omega) | (simp_all [modPlain]; intros; omega) | (rw [Bool.eq_iff_iff]; simp_all [modPlain]; done)
    ·
      refine r_no' rfl rfl h1 ?_
      refine r_no' rfl rfl h1 ?_
      refine r_no' rfl rfl h1 ?_
      refine r_y rfl rfl (y_pickf rfl h1 rfl) ?_
      refine r_y rfl rfl (y_assign rfl) ?_
      refine r_nil ?_
      refine hK1 _ _ _ ?_
      clear hK1 K1
      refine c_ret ?_
      refine e_ret 1 hm (res_tmps rfl) ?_
      refine ⟨congrArg Value.bool ?_, rfl⟩
      first | (simp_all [modPlain]; done) | (simp_all [modPlain]; omega) | (simp_all [modPlain]; intros; omega) | (rw [Bool.eq_iff_iff]; simp_all [modPlain]; done)
  ·
    refine r_no' rfl rfl h0 ?_
    refine r_no' rfl rfl h0 ?_
    refine r_no' rfl rfl h0 ?_
    refine r_y rfl rfl (y_pickf rfl h0 rfl) ?_
    refine r_y rfl rfl (y_move rfl) ?_
    refine r_no' rfl rfl rfl ?_
    refine r_no' rfl rfl rfl ?_
    refine r_no' rfl rfl rfl ?_
    refine r_y rfl rfl (y_pickf rfl rfl rfl) ?_
    refine r_y rfl rfl (y_assign rfl) ?_
    refine r_nil ?_
    refine hK1 _ _ _ ?_
    clear hK1 K1
    refine c_ret ?_
    refine e_ret 1 hm (res_tmps rfl) ?_
    refine ⟨congrArg Value.bool ?_, rfl⟩
    first | (simp_all [modPlain]; done) | (simp_all [modPlain]; omega) | (simp_all [modPlain]; intros; omega) | (rw [Bool.eq_iff_iff]; simp_all [modPlain]; done)
end Go.Aw
