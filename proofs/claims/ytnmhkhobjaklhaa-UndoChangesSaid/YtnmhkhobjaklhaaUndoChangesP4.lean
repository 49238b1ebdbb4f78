/- Part 4 of the words and walks that the proof behind it uses. -/
import Derived.Test.YtnmhkhobjaklhaaUndoChangesP3
set_option linter.unusedVariables false
set_option linter.unusedSimpArgs false
set_option maxHeartbeats 1000000
namespace Go.Aw
open Go Go.Proofs
theorem ts32 : tshape Try.prog 32 = some (true, 31) := by kernel_rfl
theorem fo50_0 : fieldOff Try.prog 50 0 = some 0 := by kernel_rfl
theorem fo50_2 : fieldOff Try.prog 50 2 = some 25 := by kernel_rfl
theorem fo50_1 : fieldOff Try.prog 50 1 = some 24 := by kernel_rfl
theorem fo50_3 : fieldOff Try.prog 50 3 = some 26 := by kernel_rfl
theorem fo50_4 : fieldOff Try.prog 50 4 = some 27 := by kernel_rfl
theorem fo50_5 : fieldOff Try.prog 50 5 = some 28 := by kernel_rfl
theorem fo50_6 : fieldOff Try.prog 50 6 = some 29 := by kernel_rfl
theorem fo50_7 : fieldOff Try.prog 50 7 = some 30 := by kernel_rfl
theorem fo50_8 : fieldOff Try.prog 50 8 = some 31 := by kernel_rfl
theorem tl181 : tslice Try.prog 181 = some (25, 1) := by kernel_rfl
theorem tl77 : tslice Try.prog 77 = some (3, 1) := by kernel_rfl
theorem ts50 : tshape Try.prog 50 = some (true, 32) := by kernel_rfl
theorem tl33 : tslice Try.prog 33 = some (50, 32) := by kernel_rfl
theorem tz50 : tzero Try.prog 50 = some [.int .u64 0, .int .u64 0, .int .u64 0, .int .u64 0, .int .u64 0, .int .u64 0, .int .u64 0, .int .u64 0, .int .u64 0, .int .u64 0, .int .u64 0, .int .u64 0, .int .u64 0, .int .u64 0, .int .u64 0, .int .u64 0, .int .u64 0, .int .u64 0, .int .u64 0, .int .u64 0, .int .u64 0, .int .u64 0, .int .u64 0, .int .u64 0, .int .i64 0, .slice none 0 0, .int .i64 0, .int .i64 0, .int .i64 0, .int .i64 0, .int .i64 0, .int .i64 0] := by kernel_rfl
theorem tz32 : tzero Try.prog 32 = some [.int .i64 0, .int .u64 0, .int .u64 0, .int .u64 0, .int .u64 0, .int .u64 0, .int .u64 0, .int .u64 0, .int .u64 0, .int .u64 0, .int .u64 0, .int .u64 0, .int .u64 0, .int .u64 0, .int .u64 0, .int .u64 0, .int .u64 0, .int .u64 0, .int .u64 0, .int .u64 0, .int .u64 0, .int .u64 0, .int .u64 0, .int .u64 0, .int .u64 0, .int .i64 0, .slice none 0 0, .int .i64 0, .int .i64 0, .int .i64 0, .bool false] := by kernel_rfl
theorem fk32 : fieldsKnown Try.prog 32 = true := by kernel_rfl
theorem ts33 : tshape Try.prog 33 = some (false, 1) := by kernel_rfl
set_option maxRecDepth 100000 in
theorem modSound_ok (a : ModD) (s : Sl) (m : Snap) (H : Hp) (hz : FzA m s a.acts) : Fn Try.prog 36 [.agg (encMod a s).toArray] m H (fun v _ H' => v = .bool (modSound a) ∧ H' = H) := by
  have hm : m.le m := Snap.le.refl m
  refine fn_end Try.func36 rfl rfl rfl ?_
  refine c_seq (fun K0 hK0 => ?_)
  refine c_region ?_
  refine r_s rfl ?_
  refine s_box_a rfl rfl (fun b0 => ?_)
  refine r_y rfl rfl (y_assign rfl) ?_
  refine r_nil ?_
  refine hK0 _ _ _ ?_
  clear hK0 K0
  refine c_seq (fun K1 hK1 => ?_)
  refine c_seq (fun K2 hK2 => ?_)
  refine c_region ?_
  refine r_y rfl rfl (y_fieldAddr rfl At.lit fo32_1 rfl) ?_
  refine r_y rfl rfl (y_load_a (cs := encCube a.m) rfl ts29 (RdA.blk (i := 0) rfl rfl)) ?_
  refine r_s rfl ?_
  refine s_call0 rfl Try.call90 rfl (cubeSound_ok a.m _ _) ?_
  rintro _ m2 _ hm2 ⟨rfl, rfl⟩
  replace hm := hm.trans hm2
  replace hz := hz.mono hm2
  clear hm2
  refine r_y rfl rfl (y_not rfl) ?_
  refine r_y rfl rfl (y_move rfl) ?_
  refine r_split (j := 4) rfl (fun h0 => ?_) (fun h0 => ?_)
  ·
    refine r_no' rfl rfl h0 ?_
    refine r_no' rfl rfl h0 ?_
    refine r_no' rfl rfl h0 ?_
    refine r_no' rfl rfl h0 ?_
    refine r_y rfl rfl (y_pickt rfl h0 rfl) ?_
    refine r_y rfl rfl (y_move rfl) ?_
    refine r_no' rfl rfl rfl ?_
    refine r_no' rfl rfl rfl ?_
    refine r_no' rfl rfl rfl ?_
    refine r_no' rfl rfl rfl ?_
    refine r_y rfl rfl (y_pickt rfl rfl rfl) ?_
    refine r_y rfl rfl (y_move rfl) ?_
    refine r_no' rfl rfl rfl ?_
    refine r_no' rfl rfl rfl ?_
    refine r_no' rfl rfl rfl ?_
    refine r_no' rfl rfl rfl ?_
    refine r_y rfl rfl (y_pickt rfl rfl rfl) ?_
    refine r_nil ?_
    refine hK2 _ _ _ ?_
    clear hK2 K2
    refine c_ift rfl rfl ?_
    refine c_seq (fun K3 hK3 => ?_)
    refine c_region ?_
    refine r_y rfl rfl (y_assign rfl) ?_
    refine r_nil ?_
    refine hK3 _ _ _ ?_
    clear hK3 K3
    refine c_ret ?_
    refine e_ret 1 hm (res_tmps rfl) ?_
    have hl := hz.lenA
    refine ⟨congrArg Value.bool ?_, rfl⟩
    first | (simp_all [modSound]; done) | (simp_all [modSound]; omega) | (simp_all [modSound]; intros; omega) | (rw [Bool.eq_iff_iff]; simp_all [modSound]; done)
  ·
    refine r_yg rfl h0 rfl (y_fieldAddr rfl At.lit fo32_3 rfl) ?_
    refine r_yg rfl h0 rfl (y_load_s rfl ts30 (RdS.blk (i := 0) rfl rfl)) ?_
    refine r_sg rfl h0 ?_
    refine s_call0 rfl Try.call91 rfl (actsSound_ok s a.acts _ _ hz) ?_
    rintro _ m2 _ hm2 ⟨rfl, rfl⟩
    replace hm := hm.trans hm2
    replace hz := hz.mono hm2
    clear hm2
    refine r_yg rfl h0 rfl (y_not rfl) ?_
    refine r_y rfl rfl (y_pickf rfl h0 rfl) ?_
    refine r_y rfl rfl (y_move rfl) ?_
    refine r_split (j := 10) rfl (fun h1 => ?_) (fun h1 => ?_)
    ·
      refine r_no' rfl rfl h1 ?_
      refine r_no' rfl rfl h1 ?_
      refine r_no' rfl rfl h1 ?_
      refine r_no' rfl rfl h1 ?_
      refine r_y rfl rfl (y_pickt rfl h1 rfl) ?_
      refine r_y rfl rfl (y_move rfl) ?_
      refine r_no' rfl rfl rfl ?_
      refine r_no' rfl rfl rfl ?_
      refine r_no' rfl rfl rfl ?_
      refine r_no' rfl rfl rfl ?_
      refine r_y rfl rfl (y_pickt rfl rfl rfl) ?_
      refine r_nil ?_
      refine hK2 _ _ _ ?_
      clear hK2 K2
      refine c_ift rfl rfl ?_
      refine c_seq (fun K4 hK4 => ?_)
      refine c_region ?_
      refine r_y rfl rfl (y_assign rfl) ?_
      refine r_nil ?_
      refine hK4 _ _ _ ?_
      clear hK4 K4
      refine c_ret ?_
      refine e_ret 1 hm (res_tmps rfl) ?_
      have hl := hz.lenA
      refine ⟨congrArg Value.bool ?_, rfl⟩
      first | (simp_all [modSound]; done) | (simp_all [modSound]; omega) | (simp_all [modSound]; intros; omega) | (rw [Bool.eq_iff_iff]; simp_all [modSound]; done)
    ·
      refine r_yg rfl h1 rfl (y_fieldAddr rfl At.lit fo32_2 rfl) ?_
      refine r_yg rfl h1 rfl (y_load_s rfl ts3 (RdS.blk (i := 0) rfl rfl)) ?_
      refine r_sg rfl h1 ?_
      refine s_call0 rfl Try.call92 rfl (spanM_ok _ _ _ _) ?_
      rintro _ m2 _ hm2 ⟨rfl, rfl⟩
      replace hm := hm.trans hm2
      replace hz := hz.mono hm2
      clear hm2
      refine r_yg rfl h1 rfl (y_not rfl) ?_
      refine r_y rfl rfl (y_pickf rfl h1 rfl) ?_
      refine r_y rfl rfl (y_move rfl) ?_
      refine r_split (j := 16) rfl (fun h2 => ?_) (fun h2 => ?_)
      ·
        refine r_no' rfl rfl h2 ?_
        refine r_no' rfl rfl h2 ?_
        refine r_no' rfl rfl h2 ?_
        refine r_no' rfl rfl h2 ?_
        refine r_y rfl rfl (y_pickt rfl h2 rfl) ?_
        refine r_nil ?_
        refine hK2 _ _ _ ?_
        clear hK2 K2
        refine c_ift rfl rfl ?_
        refine c_seq (fun K5 hK5 => ?_)
        refine c_region ?_
        refine r_y rfl rfl (y_assign rfl) ?_
        refine r_nil ?_
        refine hK5 _ _ _ ?_
        clear hK5 K5
        refine c_ret ?_
        refine e_ret 1 hm (res_tmps rfl) ?_
        have hl := hz.lenA
        refine ⟨congrArg Value.bool ?_, rfl⟩
        first | (simp_all [modSound]; done) | (simp_all [modSound]; omega) | (simp_all [modSound]; intros; omega) | (rw [Bool.eq_iff_iff]; simp_all [modSound]; done)
      ·
        refine r_yg rfl h2 rfl (y_fieldAddr rfl At.lit fo32_6 rfl) ?_
        refine r_yg rfl h2 rfl (y_load_s rfl ts3 (RdS.blk (i := 0) rfl rfl)) ?_
        refine r_sg rfl h2 ?_
        refine s_call0 rfl Try.call92 rfl (spanM_ok _ _ _ _) ?_
        rintro _ m2 _ hm2 ⟨rfl, rfl⟩
        replace hm := hm.trans hm2
        replace hz := hz.mono hm2
        clear hm2
        refine r_yg rfl h2 rfl (y_not rfl) ?_
        refine r_y rfl rfl (y_pickf rfl h2 rfl) ?_
        refine r_nil ?_
        refine hK2 _ _ _ ?_
        clear hK2 K2
        refine c_cond rfl (fun h3 => ?_) (fun h3 => ?_)
        ·
          refine c_seq (fun K6 hK6 => ?_)
          refine c_region ?_
          refine r_y rfl rfl (y_assign rfl) ?_
          refine r_nil ?_
          refine hK6 _ _ _ ?_
          clear hK6 K6
          refine c_ret ?_
          refine e_ret 1 hm (res_tmps rfl) ?_
          have hl := hz.lenA
          refine ⟨congrArg Value.bool ?_, rfl⟩
          first | (simp_all [modSound]; done) | (simp_all [modSound]; omega) | (simp_all [modSound]; intros; omega) | (rw [Bool.eq_iff_iff]; simp_all [modSound]; done)
        ·
          refine c_skip ?_
          refine hK1 _ _ _ ?_
          clear hK1 K1
          refine c_seq (fun K7 hK7 => ?_)
          refine c_seq (fun K8 hK8 => ?_)
          refine c_region ?_
          refine r_y rfl rfl (y_fieldAddr rfl At.lit fo32_0 rfl) ?_
          refine r_y rfl rfl (y_load_s rfl ts3 (RdS.blk (i := 0) rfl rfl)) ?_
          refine r_nil ?_
          refine hK8 _ _ _ ?_
          clear hK8 K8
          refine c_block ?_
          refine c_seq (fun K9 hK9 => ?_)
          refine c_region ?_
          refine r_y rfl rfl (y_iop rfl rfl rfl) ?_
          refine r_y rfl rfl (y_assign rfl) ?_
          refine r_nil ?_
          refine hK9 _ _ _ ?_
          clear hK9 K9
          refine c_cond rfl (fun h4 => ?_) (fun h4 => ?_)
          ·
            refine c_seq (fun K10 hK10 => ?_)
            refine c_region ?_
            refine r_y rfl rfl (y_fieldAddr rfl At.lit fo32_4 rfl) ?_
            refine r_y rfl rfl (y_load_s rfl ts3 (RdS.blk (i := 0) rfl rfl)) ?_
            refine r_s rfl ?_
            refine s_call0 rfl Try.call92 rfl (spanM_ok _ _ _ _) ?_
            rintro _ m2 _ hm2 ⟨rfl, rfl⟩
            replace hm := hm.trans hm2
            replace hz := hz.mono hm2
            clear hm2
            refine r_y rfl rfl (y_move rfl) ?_
            refine r_split (j := 3) rfl (fun h5 => ?_) (fun h5 => ?_)
            ·
              refine r_yg rfl h5 rfl (y_fieldAddr rfl At.lit fo32_5 rfl) ?_
              refine r_yg rfl h5 rfl (y_load_s rfl ts3 (RdS.blk (i := 0) rfl rfl)) ?_
              refine r_sg rfl h5 ?_
              refine s_call0 rfl Try.call92 rfl (spanM_ok _ _ _ _) ?_
              rintro _ m2 _ hm2 ⟨rfl, rfl⟩
              replace hm := hm.trans hm2
              replace hz := hz.mono hm2
              clear hm2
              refine r_y rfl rfl (y_pickt rfl h5 rfl) ?_
              refine r_y rfl rfl (y_assign rfl) ?_
              refine r_nil ?_
              refine hK10 _ _ _ ?_
              clear hK10 K10
              refine c_ret ?_
              refine e_ret 1 hm (res_tmps rfl) ?_
              have hl := hz.lenA
              refine ⟨congrArg Value.bool ?_, rfl⟩
              first | (simp_all [modSound]; done) | (simp_all [modSound]; omega) | (simp_all [modSound]; intros; omega) | (rw [Bool.eq_iff_iff]; simp_all [modSound]; done)
            ·
              refine r_no' rfl rfl h5 ?_
              refine r_no' rfl rfl h5 ?_
              refine r_no' rfl rfl h5 ?_
              refine r_y rfl rfl (y_pickf rfl h5 rfl) ?_
              refine r_y rfl rfl (y_assign rfl) ?_
              refine r_nil ?_
              refine hK10 _ _ _ ?_
              clear hK10 K10
              refine c_ret ?_
              refine e_ret 1 hm (res_tmps rfl) ?_
              have hl := hz.lenA
              refine ⟨congrArg Value.bool ?_, rfl⟩
              first | (simp_all [modSound]; done) | (simp_all [modSound]; omega) | (simp_all [modSound]; intros; omega) | (rw [Bool.eq_iff_iff]; simp_all [modSound]; done)
          ·
            refine c_seq (fun K11 hK11 => ?_)
            refine c_region ?_
            refine r_y rfl rfl (y_iop rfl rfl rfl) ?_
            refine r_y rfl rfl (y_assign rfl) ?_
            refine r_nil ?_
            refine hK11 _ _ _ ?_
            clear hK11 K11
            refine c_cond rfl (fun h6 => ?_) (fun h6 => ?_)
            ·
              refine c_seq (fun K12 hK12 => ?_)
              refine c_region ?_
              refine r_y rfl rfl (y_load_a (cs := encMod a s) rfl ts32 (RdA.blk (i := 0) rfl rfl)) ?_
              refine r_s rfl ?_
              refine s_call0 rfl Try.call93 rfl (plain_ok a s _ _) ?_
              rintro _ m2 _ hm2 ⟨rfl, rfl⟩
              replace hm := hm.trans hm2
              replace hz := hz.mono hm2
              clear hm2
              refine r_y rfl rfl (y_move rfl) ?_
              refine r_split (j := 2) rfl (fun h7 => ?_) (fun h7 => ?_)
              ·
                refine r_yg rfl h7 rfl (y_fieldAddr rfl At.lit fo32_2 rfl) ?_
                refine r_yg rfl h7 rfl (y_load_s rfl ts3 (RdS.blk (i := 0) rfl rfl)) ?_
                refine r_yg rfl h7 rfl (y_iop rfl rfl rfl) ?_
                refine r_y rfl rfl (y_pickt rfl h7 rfl) ?_
                refine r_y rfl rfl (y_assign rfl) ?_
                refine r_nil ?_
                refine hK12 _ _ _ ?_
                clear hK12 K12
                refine c_ret ?_
                refine e_ret 1 hm (res_tmps rfl) ?_
                have hl := hz.lenA
                refine ⟨congrArg Value.bool ?_, rfl⟩
                first | (simp_all [modSound]; done) | (simp_all [modSound]; omega) | (simp_all [modSound]; intros; omega) | (rw [Bool.eq_iff_iff]; simp_all [modSound]; done)
              ·
                refine r_no' rfl rfl h7 ?_
                refine r_no' rfl rfl h7 ?_
                refine r_no' rfl rfl h7 ?_
                refine r_y rfl rfl (y_pickf rfl h7 rfl) ?_
                refine r_y rfl rfl (y_assign rfl) ?_
                refine r_nil ?_
                refine hK12 _ _ _ ?_
                clear hK12 K12
                refine c_ret ?_
                refine e_ret 1 hm (res_tmps rfl) ?_
                have hl := hz.lenA
                refine ⟨congrArg Value.bool ?_, rfl⟩
                first | (simp_all [modSound]; done) | (simp_all [modSound]; omega) | (simp_all [modSound]; intros; omega) | (rw [Bool.eq_iff_iff]; simp_all [modSound]; done)
            ·
              refine c_seq (fun K13 hK13 => ?_)
              refine c_region ?_
              refine r_y rfl rfl (y_iop rfl rfl rfl) ?_
              refine r_y rfl rfl (y_assign rfl) ?_
              refine r_nil ?_
              refine hK13 _ _ _ ?_
              clear hK13 K13
              refine c_cond rfl (fun h8 => ?_) (fun h8 => ?_)
              ·
                refine c_seq (fun K14 hK14 => ?_)
                refine c_region ?_
                refine r_y rfl rfl (y_load_a (cs := encMod a s) rfl ts32 (RdA.blk (i := 0) rfl rfl)) ?_
                refine r_s rfl ?_
                refine s_call0 rfl Try.call93 rfl (plain_ok a s _ _) ?_
                rintro _ m2 _ hm2 ⟨rfl, rfl⟩
                replace hm := hm.trans hm2
                replace hz := hz.mono hm2
                clear hm2
                refine r_y rfl rfl (y_move rfl) ?_
                refine r_split (j := 2) rfl (fun h9 => ?_) (fun h9 => ?_)
                ·
                  refine r_yg rfl h9 rfl (y_fieldAddr rfl At.lit fo32_2 rfl) ?_
                  refine r_yg rfl h9 rfl (y_load_s rfl ts3 (RdS.blk (i := 0) rfl rfl)) ?_
                  refine r_yg rfl h9 rfl (y_iop rfl rfl rfl) ?_
                  refine r_y rfl rfl (y_pickt rfl h9 rfl) ?_
                  refine r_y rfl rfl (y_move rfl) ?_
                  refine r_split (j := 7) rfl (fun h10 => ?_) (fun h10 => ?_)
                  ·
                    refine r_yg rfl h10 rfl (y_fieldAddr rfl At.lit fo32_3 rfl) ?_
                    refine r_yg rfl h10 rfl (y_load_s rfl ts30 (RdS.blk (i := 0) rfl rfl)) ?_
                    refine r_yg rfl h10 rfl (y_len tl30 rfl) ?_
                    refine r_yg rfl h10 rfl (y_iop rfl rfl rfl) ?_
                    refine r_y rfl rfl (y_pickt rfl h10 rfl) ?_
                    refine r_y rfl rfl (y_assign rfl) ?_
                    refine r_nil ?_
                    refine hK14 _ _ _ ?_
                    clear hK14 K14
                    refine c_ret ?_
                    refine e_ret 1 hm (res_tmps rfl) ?_
                    have hl := hz.lenA
                    refine ⟨congrArg Value.bool ?_, rfl⟩
                    first | (simp_all [modSound]; done) | (simp_all [modSound]; omega) | (simp_all [modSound]; intros; omega) | (rw [Bool.eq_iff_iff]; simp_all [modSound]; done)
                  ·
                    refine r_no' rfl rfl h10 ?_
                    refine r_no' rfl rfl h10 ?_
                    refine r_no' rfl rfl h10 ?_
                    refine r_no' rfl rfl h10 ?_
                    refine r_y rfl rfl (y_pickf rfl h10 rfl) ?_
                    refine r_y rfl rfl (y_assign rfl) ?_
                    refine r_nil ?_
                    refine hK14 _ _ _ ?_
                    clear hK14 K14
                    refine c_ret ?_
                    refine e_ret 1 hm (res_tmps rfl) ?_
                    have hl := hz.lenA
                    refine ⟨congrArg Value.bool ?_, rfl⟩
                    first | (simp_all [modSound]; done) | (simp_all [modSound]; omega) | (simp_all [modSound]; intros; omega) | (rw [Bool.eq_iff_iff]; simp_all [modSound]; done)
                ·
                  refine r_no' rfl rfl h9 ?_
                  refine r_no' rfl rfl h9 ?_
                  refine r_no' rfl rfl h9 ?_
                  refine r_y rfl rfl (y_pickf rfl h9 rfl) ?_
                  refine r_y rfl rfl (y_move rfl) ?_
                  refine r_no' rfl rfl rfl ?_
                  refine r_no' rfl rfl rfl ?_
                  refine r_no' rfl rfl rfl ?_
                  refine r_no' rfl rfl rfl ?_
                  refine r_y rfl rfl (y_pickf rfl rfl rfl) ?_
                  refine r_y rfl rfl (y_assign rfl) ?_
                  refine r_nil ?_
                  refine hK14 _ _ _ ?_
                  clear hK14 K14
                  refine c_ret ?_
                  refine e_ret 1 hm (res_tmps rfl) ?_
                  have hl := hz.lenA
                  refine ⟨congrArg Value.bool ?_, rfl⟩
                  first | (simp_all [modSound]; done) | (simp_all [modSound]; omega) | (simp_all [modSound]; intros; omega) | (rw [Bool.eq_iff_iff]; simp_all [modSound]; done)
              ·
                refine c_seq (fun K15 hK15 => ?_)
                refine c_region ?_
                refine r_y rfl rfl (y_iop rfl rfl rfl) ?_
                refine r_y rfl rfl (y_assign rfl) ?_
                refine r_nil ?_
                refine hK15 _ _ _ ?_
                clear hK15 K15
                refine c_cond rfl (fun h11 => ?_) (fun h11 => ?_)
                ·
                  refine c_seq (fun K16 hK16 => ?_)
                  refine c_region ?_
                  refine r_y rfl rfl (y_load_a (cs := encMod a s) rfl ts32 (RdA.blk (i := 0) rfl rfl)) ?_
                  refine r_s rfl ?_
                  refine s_call0 rfl Try.call93 rfl (plain_ok a s _ _) ?_
                  rintro _ m2 _ hm2 ⟨rfl, rfl⟩
                  replace hm := hm.trans hm2
                  replace hz := hz.mono hm2
                  clear hm2
                  refine r_y rfl rfl (y_assign rfl) ?_
                  refine r_nil ?_
                  refine hK16 _ _ _ ?_
                  clear hK16 K16
                  refine c_ret ?_
                  refine e_ret 1 hm (res_tmps rfl) ?_
                  have hl := hz.lenA
                  refine ⟨congrArg Value.bool ?_, rfl⟩
                  first | (simp_all [modSound]; done) | (simp_all [modSound]; omega) | (simp_all [modSound]; intros; omega) | (rw [Bool.eq_iff_iff]; simp_all [modSound]; done)
                ·
                  refine c_seq (fun K17 hK17 => ?_)
                  refine c_region ?_
                  refine r_y rfl rfl (y_iop rfl rfl rfl) ?_
                  refine r_y rfl rfl (y_assign rfl) ?_
                  refine r_nil ?_
                  refine hK17 _ _ _ ?_
                  clear hK17 K17
                  refine c_cond rfl (fun h12 => ?_) (fun h12 => ?_)
                  ·
                    refine c_seq (fun K18 hK18 => ?_)
                    refine c_region ?_
                    refine r_y rfl rfl (y_load_a (cs := encMod a s) rfl ts32 (RdA.blk (i := 0) rfl rfl)) ?_
                    refine r_s rfl ?_
                    refine s_call0 rfl Try.call93 rfl (plain_ok a s _ _) ?_
                    rintro _ m2 _ hm2 ⟨rfl, rfl⟩
                    replace hm := hm.trans hm2
                    replace hz := hz.mono hm2
                    clear hm2
                    refine r_y rfl rfl (y_move rfl) ?_
                    refine r_split (j := 2) rfl (fun h13 => ?_) (fun h13 => ?_)
                    ·
                      refine r_yg rfl h13 rfl (y_fieldAddr rfl At.lit fo32_3 rfl) ?_
                      refine r_yg rfl h13 rfl (y_load_s rfl ts30 (RdS.blk (i := 0) rfl rfl)) ?_
                      refine r_yg rfl h13 rfl (y_len tl30 rfl) ?_
                      refine r_yg rfl h13 rfl (y_iop rfl rfl rfl) ?_
                      refine r_y rfl rfl (y_pickt rfl h13 rfl) ?_
                      refine r_y rfl rfl (y_assign rfl) ?_
                      refine r_nil ?_
                      refine hK18 _ _ _ ?_
                      clear hK18 K18
                      refine c_ret ?_
                      refine e_ret 1 hm (res_tmps rfl) ?_
                      have hl := hz.lenA
                      refine ⟨congrArg Value.bool ?_, rfl⟩
                      first | (simp_all [modSound]; done) | (simp_all [modSound]; omega) | (simp_all [modSound]; intros; omega) | (rw [Bool.eq_iff_iff]; simp_all [modSound]; done)
                    ·
                      refine r_no' rfl rfl h13 ?_
                      refine r_no' rfl rfl h13 ?_
                      refine r_no' rfl rfl h13 ?_
                      refine r_no' rfl rfl h13 ?_
                      refine r_y rfl rfl (y_pickf rfl h13 rfl) ?_
                      refine r_y rfl rfl (y_assign rfl) ?_
                      refine r_nil ?_
                      refine hK18 _ _ _ ?_
                      clear hK18 K18
                      refine c_ret ?_
                      refine e_ret 1 hm (res_tmps rfl) ?_
                      have hl := hz.lenA
                      refine ⟨congrArg Value.bool ?_, rfl⟩
                      first | (simp_all [modSound]; done) | (simp_all [modSound]; omega) | (simp_all [modSound]; intros; omega) | (rw [Bool.eq_iff_iff]; simp_all [modSound]; done)
                  ·
                    refine c_skip ?_
                    refine hK7 _ _ _ ?_
                    clear hK7 K7
                    refine c_seq (fun K19 hK19 => ?_)
                    refine c_region ?_
                    refine r_y rfl rfl (y_assign rfl) ?_
                    refine r_nil ?_
                    refine hK19 _ _ _ ?_
                    clear hK19 K19
                    refine c_ret ?_
                    refine e_ret 1 hm (res_tmps rfl) ?_
                    have hl := hz.lenA
                    refine ⟨congrArg Value.bool ?_, rfl⟩
                    first | (simp_all [modSound]; done) | (simp_all [modSound]; omega) | (simp_all [modSound]; intros; omega) | (rw [Bool.eq_iff_iff]; simp_all [modSound]; done)
set_option maxRecDepth 100000 in
theorem ruleSound_ok (a : RuleD) (s : Sl) (m : Snap) (H : Hp) (hz : FzA m s a.acts) : Fn Try.prog 70 [.agg (encRule a s).toArray] m H (fun v _ H' => v = .bool (ruleSound a) ∧ H' = H) := by
  have hm : m.le m := Snap.le.refl m
  refine fn_end Try.func70 rfl rfl rfl ?_
  refine c_seq (fun K0 hK0 => ?_)
  refine c_region ?_
  refine r_s rfl ?_
  refine s_box_a rfl rfl (fun b0 => ?_)
  refine r_y rfl rfl (y_assign rfl) ?_
  refine r_nil ?_
  refine hK0 _ _ _ ?_
  clear hK0 K0
  refine c_seq (fun K1 hK1 => ?_)
  refine c_region ?_
  refine r_y rfl rfl (y_fieldAddr rfl At.lit fo50_0 rfl) ?_
  refine r_y rfl rfl (y_load_a (cs := encCube a.m) rfl ts29 (RdA.blk (i := 0) rfl rfl)) ?_
  refine r_s rfl ?_
  refine s_call0 rfl Try.call90 rfl (cubeSound_ok a.m _ _) ?_
  rintro _ m2 _ hm2 ⟨rfl, rfl⟩
  replace hm := hm.trans hm2
  replace hz := hz.mono hm2
  clear hm2
  refine r_y rfl rfl (y_move rfl) ?_
  refine r_split (j := 3) rfl (fun h0 => ?_) (fun h0 => ?_)
  ·
    refine r_yg rfl h0 rfl (y_fieldAddr rfl At.lit fo50_2 rfl) ?_
    refine r_yg rfl h0 rfl (y_load_s rfl ts30 (RdS.blk (i := 0) rfl rfl)) ?_
    refine r_sg rfl h0 ?_
    refine s_call0 rfl Try.call91 rfl (actsSound_ok s a.acts _ _ hz) ?_
    rintro _ m2 _ hm2 ⟨rfl, rfl⟩
    replace hm := hm.trans hm2
    replace hz := hz.mono hm2
    clear hm2
    refine r_y rfl rfl (y_pickt rfl h0 rfl) ?_
    refine r_y rfl rfl (y_move rfl) ?_
    refine r_split (j := 8) rfl (fun h1 => ?_) (fun h1 => ?_)
    ·
      refine r_yg rfl h1 rfl (y_fieldAddr rfl At.lit fo50_1 rfl) ?_
      refine r_yg rfl h1 rfl (y_load_s rfl ts3 (RdS.blk (i := 0) rfl rfl)) ?_
      refine r_sg rfl h1 ?_
      refine s_call0 rfl Try.call120 rfl (spanR_ok _ _ _ _) ?_
      rintro _ m2 _ hm2 ⟨rfl, rfl⟩
      replace hm := hm.trans hm2
      replace hz := hz.mono hm2
      clear hm2
      refine r_y rfl rfl (y_pickt rfl h1 rfl) ?_
      refine r_y rfl rfl (y_move rfl) ?_
      refine r_split (j := 13) rfl (fun h2 => ?_) (fun h2 => ?_)
      ·
        refine r_yg rfl h2 rfl (y_fieldAddr rfl At.lit fo50_3 rfl) ?_
        refine r_yg rfl h2 rfl (y_load_s rfl ts3 (RdS.blk (i := 0) rfl rfl)) ?_
        refine r_sg rfl h2 ?_
        refine s_call0 rfl Try.call120 rfl (spanR_ok _ _ _ _) ?_
        rintro _ m2 _ hm2 ⟨rfl, rfl⟩
        replace hm := hm.trans hm2
        replace hz := hz.mono hm2
        clear hm2
        refine r_y rfl rfl (y_pickt rfl h2 rfl) ?_
        refine r_y rfl rfl (y_move rfl) ?_
        refine r_split (j := 18) rfl (fun h3 => ?_) (fun h3 => ?_)
        ·
          refine r_yg rfl h3 rfl (y_fieldAddr rfl At.lit fo50_4 rfl) ?_
          refine r_yg rfl h3 rfl (y_load_s rfl ts3 (RdS.blk (i := 0) rfl rfl)) ?_
          refine r_sg rfl h3 ?_
          refine s_call0 rfl Try.call120 rfl (spanR_ok _ _ _ _) ?_
          rintro _ m2 _ hm2 ⟨rfl, rfl⟩
          replace hm := hm.trans hm2
          replace hz := hz.mono hm2
          clear hm2
          refine r_y rfl rfl (y_pickt rfl h3 rfl) ?_
          refine r_y rfl rfl (y_move rfl) ?_
          refine r_split (j := 23) rfl (fun h4 => ?_) (fun h4 => ?_)
          ·
            refine r_yg rfl h4 rfl (y_fieldAddr rfl At.lit fo50_5 rfl) ?_
            refine r_yg rfl h4 rfl (y_load_s rfl ts3 (RdS.blk (i := 0) rfl rfl)) ?_
            refine r_sg rfl h4 ?_
            refine s_call0 rfl Try.call120 rfl (spanR_ok _ _ _ _) ?_
            rintro _ m2 _ hm2 ⟨rfl, rfl⟩
            replace hm := hm.trans hm2
            replace hz := hz.mono hm2
            clear hm2
            refine r_y rfl rfl (y_pickt rfl h4 rfl) ?_
            refine r_y rfl rfl (y_move rfl) ?_
            refine r_split (j := 28) rfl (fun h5 => ?_) (fun h5 => ?_)
            ·
              refine r_yg rfl h5 rfl (y_fieldAddr rfl At.lit fo50_6 rfl) ?_
              refine r_yg rfl h5 rfl (y_load_s rfl ts3 (RdS.blk (i := 0) rfl rfl)) ?_
              refine r_yg rfl h5 rfl (y_fieldAddr rfl At.lit fo50_7 rfl) ?_
              refine r_yg rfl h5 rfl (y_load_s rfl ts3 (RdS.blk (i := 0) rfl rfl)) ?_
              refine r_yg rfl h5 rfl (y_fieldAddr rfl At.lit fo50_8 rfl) ?_
              refine r_yg rfl h5 rfl (y_load_s rfl ts3 (RdS.blk (i := 0) rfl rfl)) ?_
              refine r_yg rfl h5 rfl (y_min3 rfl rfl rfl) ?_
              refine r_yg rfl h5 rfl (y_iop rfl rfl rfl) ?_
              refine r_y rfl rfl (y_pickt rfl h5 rfl) ?_
              refine r_y rfl rfl (y_assign rfl) ?_
              refine r_nil ?_
              refine hK1 _ _ _ ?_
              clear hK1 K1
              refine c_ret ?_
              refine e_ret 1 hm (res_tmps rfl) ?_
              refine ⟨congrArg Value.bool ?_, rfl⟩
              first | (simp_all [ruleSound]; done) | (simp_all [ruleSound]; omega) | (simp_all [ruleSound]; intros; omega) | (rw [Bool.eq_iff_iff]; simp_all [ruleSound]; done)
            ·
              refine r_no' rfl rfl h5 ?_
              refine r_no' rfl rfl h5 ?_
              refine r_no' rfl rfl h5 ?_
              refine r_no' rfl rfl h5 ?_
              refine r_no' rfl rfl h5 ?_
              refine r_no' rfl rfl h5 ?_
              refine r_no' rfl rfl h5 ?_
              refine r_no' rfl rfl h5 ?_
              refine r_y rfl rfl (y_pickf rfl h5 rfl) ?_
              refine r_y rfl rfl (y_assign rfl) ?_
              refine r_nil ?_
              refine hK1 _ _ _ ?_
              clear hK1 K1
              refine c_ret ?_
              refine e_ret 1 hm (res_tmps rfl) ?_
              refine ⟨congrArg Value.bool ?_, rfl⟩
              first | (simp_all [ruleSound]; done) | (simp_all [ruleSound]; omega) | (simp_all [ruleSound]; intros; omega) | (rw [Bool.eq_iff_iff]; simp_all [ruleSound]; done)
          ·
            refine r_no' rfl rfl h4 ?_
            refine r_no' rfl rfl h4 ?_
            refine r_no' rfl rfl h4 ?_
            refine r_y rfl rfl (y_pickf rfl h4 rfl) ?_
            refine r_y rfl rfl (y_move rfl) ?_
            refine r_no' rfl rfl rfl ?_
            refine r_no' rfl rfl rfl ?_
            refine r_no' rfl rfl rfl ?_
            refine r_no' rfl rfl rfl ?_
            refine r_no' rfl rfl rfl ?_
            refine r_no' rfl rfl rfl ?_
            refine r_no' rfl rfl rfl ?_
            refine r_no' rfl rfl rfl ?_
            refine r_y rfl rfl (y_pickf rfl rfl rfl) ?_
            refine r_y rfl rfl (y_assign rfl) ?_
            refine r_nil ?_
            refine hK1 _ _ _ ?_
            clear hK1 K1
            refine c_ret ?_
            refine e_ret 1 hm (res_tmps rfl) ?_
            refine ⟨congrArg Value.bool ?_, rfl⟩
            first | (simp_all [ruleSound]; done) | (simp_all [ruleSound]; omega) | (simp_all [ruleSound]; intros; omega) | (rw [Bool.eq_iff_iff]; simp_all [ruleSound]; done)
        ·
          refine r_no' rfl rfl h3 ?_
          refine r_no' rfl rfl h3 ?_
          refine r_no' rfl rfl h3 ?_
          refine r_y rfl rfl (y_pickf rfl h3 rfl) ?_
          refine r_y rfl rfl (y_move rfl) ?_
          refine r_no' rfl rfl rfl ?_
          refine r_no' rfl rfl rfl ?_
          refine r_no' rfl rfl rfl ?_
          refine r_y rfl rfl (y_pickf rfl rfl rfl) ?_
          refine r_y rfl rfl (y_move rfl) ?_
          refine r_no' rfl rfl rfl ?_
          refine r_no' rfl rfl rfl ?_
          refine r_no' rfl rfl rfl ?_
          refine r_no' rfl rfl rfl ?_
          refine r_no' rfl rfl rfl ?_
          refine r_no' rfl rfl rfl ?_
          refine r_no' rfl rfl rfl ?_
          refine r_no' rfl rfl rfl ?_
          refine r_y rfl rfl (y_pickf rfl rfl rfl) ?_
          refine r_y rfl rfl (y_assign rfl) ?_
          refine r_nil ?_
          refine hK1 _ _ _ ?_
          clear hK1 K1
          refine c_ret ?_
          refine e_ret 1 hm (res_tmps rfl) ?_
          refine ⟨congrArg Value.bool ?_, rfl⟩
          first | (simp_all [ruleSound]; done) | (simp_all [ruleSound]; omega) | (simp_all [ruleSound]; intros; omega) | (rw [Bool.eq_iff_iff]; simp_all [ruleSound]; done)
      ·
        refine r_no' rfl rfl h2 ?_
        refine r_no' rfl rfl h2 ?_
        refine r_no' rfl rfl h2 ?_
        refine r_y rfl rfl (y_pickf rfl h2 rfl) ?_
        refine r_y rfl rfl (y_move rfl) ?_
        refine r_no' rfl rfl rfl ?_
        refine r_no' rfl rfl rfl ?_
        refine r_no' rfl rfl rfl ?_
        refine r_y rfl rfl (y_pickf rfl rfl rfl) ?_
        refine r_y rfl rfl (y_move rfl) ?_
        refine r_no' rfl rfl rfl ?_
        refine r_no' rfl rfl rfl ?_
        refine r_no' rfl rfl rfl ?_
        refine r_y rfl rfl (y_pickf rfl rfl rfl) ?_
        refine r_y rfl rfl (y_move rfl) ?_
        refine r_no' rfl rfl rfl ?_
        refine r_no' rfl rfl rfl ?_
        refine r_no' rfl rfl rfl ?_
        refine r_no' rfl rfl rfl ?_
        refine r_no' rfl rfl rfl ?_
        refine r_no' rfl rfl rfl ?_
        refine r_no' rfl rfl rfl ?_
        refine r_no' rfl rfl rfl ?_
        refine r_y rfl rfl (y_pickf rfl rfl rfl) ?_
        refine r_y rfl rfl (y_assign rfl) ?_
        refine r_nil ?_
        refine hK1 _ _ _ ?_
        clear hK1 K1
        refine c_ret ?_
        refine e_ret 1 hm (res_tmps rfl) ?_
        refine ⟨congrArg Value.bool ?_, rfl⟩
        first | (simp_all [ruleSound]; done) | (simp_all [ruleSound]; omega) | (simp_all [ruleSound]; intros; omega) | (rw [Bool.eq_iff_iff]; simp_all [ruleSound]; done)
    ·
      refine r_no' rfl rfl h1 ?_
      refine r_no' rfl rfl h1 ?_
      refine r_no' rfl rfl h1 ?_
      refine r_y rfl rfl (y_pickf rfl h1 rfl) ?_
      refine r_y rfl rfl (y_move rfl) ?_
      refine r_no' rfl rfl rfl ?_
      refine r_no' rfl rfl rfl ?_
      refine r_no' rfl rfl rfl ?_
      refine r_y rfl rfl (y_pickf rfl rfl rfl) ?_
      refine r_y rfl rfl (y_move rfl) ?_
      refine r_no' rfl rfl rfl ?_
      refine r_no' rfl rfl rfl ?_
      refine r_no' rfl rfl rfl ?_
      refine r_y rfl rfl (y_pickf rfl rfl rfl) ?_
      refine r_y rfl rfl (y_move rfl) ?_
      refine r_no' rfl rfl rfl ?_
      refine r_no' rfl rfl rfl ?_
      refine r_no' rfl rfl rfl ?_
      refine r_y rfl rfl (y_pickf rfl rfl rfl) ?_
      refine r_y rfl rfl (y_move rfl) ?_
      refine r_no' rfl rfl rfl ?_
      refine r_no' rfl rfl rfl ?_
      refine r_no' rfl rfl rfl ?_
      refine r_no' rfl rfl rfl ?_
      refine r_no' rfl rfl rfl ?_
      refine r_no' rfl rfl rfl ?_
      refine r_no' rfl rfl rfl ?_
      refine r_no' rfl rfl rfl ?_
      refine r_y rfl rfl (y_pickf rfl rfl rfl) ?_
      refine r_y rfl rfl (y_assign rfl) ?_
      refine r_nil ?_
      refine hK1 _ _ _ ?_
      clear hK1 K1
      refine c_ret ?_
      refine e_ret 1 hm (res_tmps rfl) ?_
      refine ⟨congrArg Value.bool ?_, rfl⟩
      first | (simp_all [ruleSound]; done) | (simp_all [ruleSound]; omega) | (simp_all [ruleSound]; intros; omega) | (rw [Bool.eq_iff_iff]; simp_all [ruleSound]; done)
  ·
    refine r_no' rfl rfl h0 ?_
    refine r_no' rfl rfl h0 ?_
    refine r_no' rfl rfl h0 ?_
    refine r_y rfl rfl (y_pickf rfl h0 rfl) ?_
    refine r_y rfl rfl (y_move rfl) ?_
    refine r_no' rfl rfl rfl ?_
    refine r_no' rfl rfl rfl ?_
    refine r_no' rfl rfl rfl ?_
    refine r_y rfl rfl (y_pickf rfl rfl rfl) ?_
    refine r_y rfl rfl (y_move rfl) ?_
    refine r_no' rfl rfl rfl ?_
    refine r_no' rfl rfl rfl ?_
    refine r_no' rfl rfl rfl ?_
    refine r_y rfl rfl (y_pickf rfl rfl rfl) ?_
    refine r_y rfl rfl (y_move rfl) ?_
    refine r_no' rfl rfl rfl ?_
    refine r_no' rfl rfl rfl ?_
    refine r_no' rfl rfl rfl ?_
    refine r_y rfl rfl (y_pickf rfl rfl rfl) ?_
    refine r_y rfl rfl (y_move rfl) ?_
    refine r_no' rfl rfl rfl ?_
    refine r_no' rfl rfl rfl ?_
    refine r_no' rfl rfl rfl ?_
    refine r_y rfl rfl (y_pickf rfl rfl rfl) ?_
    refine r_y rfl rfl (y_move rfl) ?_
    refine r_no' rfl rfl rfl ?_
    refine r_no' rfl rfl rfl ?_
    refine r_no' rfl rfl rfl ?_
    refine r_no' rfl rfl rfl ?_
    refine r_no' rfl rfl rfl ?_
    refine r_no' rfl rfl rfl ?_
    refine r_no' rfl rfl rfl ?_
    refine r_no' rfl rfl rfl ?_
    refine r_y rfl rfl (y_pickf rfl rfl rfl) ?_
    refine r_y rfl rfl (y_assign rfl) ?_
    refine r_nil ?_
    refine hK1 _ _ _ ?_
    clear hK1 K1
    refine c_ret ?_
    refine e_ret 1 hm (res_tmps rfl) ?_
    refine ⟨congrArg Value.bool ?_, rfl⟩
    first | (simp_all [ruleSound]; done) | (simp_all [ruleSound]; omega) | (simp_all [ruleSound]; intros; omega) | (rw [Bool.eq_iff_iff]; simp_all [ruleSound]; done)
set_option maxRecDepth 100000 in
theorem isNaN_ok (x : W) (m : Snap) (H : Hp) : Fn Try.prog 179 [wv x] m H (fun v _ H' => v = .bool false ∧ H' = H) := by
  have hm : m.le m := Snap.le.refl m
  refine fn_end Try.func179 rfl rfl rfl ?_
  refine c_seq (fun K0 hK0 => ?_)
  refine c_region ?_
  refine r_y rfl rfl (y_assign rfl) ?_
  refine r_nil ?_
  refine hK0 _ _ _ ?_
  clear hK0 K0
  refine c_seq (fun K1 hK1 => ?_)
  refine c_region ?_
  refine r_y rfl rfl (y_move rfl) ?_
  refine r_y rfl rfl (y_move rfl) ?_
  refine r_y rfl rfl (y_wop rfl rfl rfl) ?_
  refine r_y rfl rfl (y_assign rfl) ?_
  refine r_nil ?_
  refine hK1 _ _ _ ?_
  clear hK1 K1
  refine c_ret ?_
  refine e_ret 0 hm (res_tmps rfl) ?_
  exact ⟨congrArg Value.bool (by simp), rfl⟩
set_option maxRecDepth 100000 in
theorem cmpW_ok (x y : W) (m : Snap) (H : Hp) : Fn Try.prog 164 [wv x, wv y] m H (fun v _ H' => v = .int .i64 (cmpW x y) ∧ H' = H) := by
  have hm : m.le m := Snap.le.refl m
  refine fn_end Try.func164 rfl rfl rfl ?_
  refine c_seq (fun K0 hK0 => ?_)
  refine c_region ?_
  refine r_y rfl rfl (y_assign rfl) ?_
  refine r_nil ?_
  refine hK0 _ _ _ ?_
  clear hK0 K0
  refine c_seq (fun K1 hK1 => ?_)
  refine c_region ?_
  refine r_y rfl rfl (y_move rfl) ?_
  refine r_s rfl ?_
  refine s_call0 rfl Try.call179 rfl (isNaN_ok _ _ _) ?_
  rintro _ m2 _ hm2 ⟨rfl, rfl⟩
  replace hm := hm.trans hm2
  clear hm2
  refine r_y rfl rfl (y_assign rfl) ?_
  refine r_nil ?_
  refine hK1 _ _ _ ?_
  clear hK1 K1
  refine c_seq (fun K2 hK2 => ?_)
  refine c_region ?_
  refine r_y rfl rfl (y_move rfl) ?_
  refine r_s rfl ?_
  refine s_call0 rfl Try.call179 rfl (isNaN_ok _ _ _) ?_
  rintro _ m2 _ hm2 ⟨rfl, rfl⟩
  replace hm := hm.trans hm2
  clear hm2
  refine r_y rfl rfl (y_assign rfl) ?_
  refine r_nil ?_
  refine hK2 _ _ _ ?_
  clear hK2 K2
  refine c_seq (fun K3 hK3 => ?_)
  refine c_seq (fun K4 hK4 => ?_)
  refine c_region ?_
  refine r_y rfl rfl (y_move rfl) ?_
  refine r_nil ?_
  refine hK4 _ _ _ ?_
  clear hK4 K4
  refine c_cond rfl (fun h0 => ?_) (fun h0 => ?_)
  ·
    cases h0
  ·
    refine c_skip ?_
    refine hK3 _ _ _ ?_
    clear hK3 K3
    refine c_seq (fun K5 hK5 => ?_)
    refine c_seq (fun K6 hK6 => ?_)
    refine c_region ?_
    refine r_y rfl rfl (y_move rfl) ?_
    refine r_nil ?_
    refine hK6 _ _ _ ?_
    clear hK6 K6
    refine c_cond rfl (fun h1 => ?_) (fun h1 => ?_)
    ·
      cases h1
    ·
      refine c_skip ?_
      refine hK5 _ _ _ ?_
      clear hK5 K5
      refine c_seq (fun K7 hK7 => ?_)
      refine c_seq (fun K8 hK8 => ?_)
      refine c_region ?_
      refine r_y rfl rfl (y_move rfl) ?_
      refine r_y rfl rfl (y_move rfl) ?_
      refine r_y rfl rfl (y_wop rfl rfl rfl) ?_
      refine r_nil ?_
      refine hK8 _ _ _ ?_
      clear hK8 K8
      refine c_cond rfl (fun h2 => ?_) (fun h2 => ?_)
      ·
        refine c_seq (fun K9 hK9 => ?_)
        refine c_region ?_
        refine r_y rfl rfl (y_assign rfl) ?_
        refine r_nil ?_
        refine hK9 _ _ _ ?_
        clear hK9 K9
        refine c_ret ?_
        refine e_ret 0 hm (res_tmps rfl) ?_
        refine ⟨congrArg (Value.int .i64) ?_, rfl⟩
        unfold cmpW
        simp only [decide_eq_true_eq, decide_eq_false_iff_not] at *
        first | (rw [if_pos ‹_›]; done) | (rw [if_neg ‹_›, if_pos ‹_›]; done) | (rw [if_neg ‹_›, if_neg ‹_›]; done)
      ·
        refine c_skip ?_
        refine hK7 _ _ _ ?_
        clear hK7 K7
        refine c_seq (fun K10 hK10 => ?_)
        refine c_seq (fun K11 hK11 => ?_)
        refine c_region ?_
        refine r_y rfl rfl (y_move rfl) ?_
        refine r_y rfl rfl (y_move rfl) ?_
        refine r_y rfl rfl (y_wop rfl rfl rfl) ?_
        refine r_nil ?_
        refine hK11 _ _ _ ?_
        clear hK11 K11
        refine c_cond rfl (fun h3 => ?_) (fun h3 => ?_)
        ·
          refine c_seq (fun K12 hK12 => ?_)
          refine c_region ?_
          refine r_y rfl rfl (y_assign rfl) ?_
          refine r_nil ?_
          refine hK12 _ _ _ ?_
          clear hK12 K12
          refine c_ret ?_
          refine e_ret 0 hm (res_tmps rfl) ?_
          refine ⟨congrArg (Value.int .i64) ?_, rfl⟩
          unfold cmpW
          simp only [decide_eq_true_eq, decide_eq_false_iff_not] at *
          first | (rw [if_pos ‹_›]; done) | (rw [if_neg ‹_›, if_pos ‹_›]; done) | (rw [if_neg ‹_›, if_neg ‹_›]; done)
        ·
          refine c_skip ?_
          refine hK10 _ _ _ ?_
          clear hK10 K10
          refine c_seq (fun K13 hK13 => ?_)
          refine c_region ?_
          refine r_y rfl rfl (y_assign rfl) ?_
          refine r_nil ?_
          refine hK13 _ _ _ ?_
          clear hK13 K13
          refine c_ret ?_
          refine e_ret 0 hm (res_tmps rfl) ?_
          refine ⟨congrArg (Value.int .i64) ?_, rfl⟩
          unfold cmpW
          simp only [decide_eq_true_eq, decide_eq_false_iff_not] at *
          first | (rw [if_pos ‹_›]; done) | (rw [if_neg ‹_›, if_pos ‹_›]; done) | (rw [if_neg ‹_›, if_neg ‹_›]; done)
set_option maxRecDepth 100000 in
theorem cmpL_ok (s1 s2 : Sl) (l1 l2 : List W) (m : Snap) (H : Hp) (hz1 : Fz m s1.a s1.n s1.cap 1 (words1 l1)) (hz2 : Fz m s2.a s2.n s2.cap 1 (words1 l2)) : Fn Try.prog 163 [s1.v, s2.v, .func (.func 164) #[] #[]] m H (fun v _ H' => v = .int .i64 (cmpL l1 l2) ∧ H' = H) := by
  have hl1 : s1.n = l1.length := by have := hz1.len; simpa [words1] using this.symm
  have hl2 : s2.n = l2.length := by have := hz2.len; simpa [words1] using this.symm
  have hmx := hz1.max
  have hle := hz1.le
  unfold maxLen at hmx
  have hm : m.le m := Snap.le.refl m
  refine fn_end Try.func163 rfl rfl rfl ?_
  refine c_seq (fun K0 hK0 => ?_)
  refine c_region ?_
  refine r_y rfl rfl (y_assign rfl) ?_
  refine r_nil ?_
  refine hK0 _ _ _ ?_
  clear hK0 K0
  refine c_seq (fun K1 hK1 => ?_)
  refine c_seq (fun K2 hK2 => ?_)
  refine c_region ?_
  refine r_y rfl rfl (y_move rfl) ?_
  refine r_y rfl rfl (y_len tl181 rfl) ?_
  refine r_y rfl rfl (y_move rfl) ?_
  refine r_nil ?_
  refine hK2 _ _ _ ?_
  clear hK2 K2
  refine c_block ?_
  refine c_loopx (α := Nat) (fun i => [(0, s1.v), (1, s2.v), (2, .func (.func 164) #[] #[]), (11, s1.v), (12, .int .i64 (s1.n : Nat)), (13, .int .i64 (i : Nat))]) (fun i => H) (fun k0 i m1 => (i + k0 = s1.n ∧ cmpL (l1.drop i) (l2.drop i) = cmpL l1 l2) ∧ m.le m1 ∧ (Fz m1 s1.a s1.n s1.cap 1 (words1 l1)) ∧ (Fz m1 s2.a s2.n s2.cap 1 (words1 l2))) (s1.n) 0 ⟨rfl, rfl, rfl, rfl, rfl, rfl, trivial⟩ rfl ⟨⟨by omega, rfl⟩, hm, hz1, hz2⟩ ?_
  clear hm hz1 hz2
  rintro k0 i m1 ⟨hi0, hm, hz1, hz2⟩
  obtain ⟨hi, hinv⟩ := hi0
  refine c_seq (fun K3 hK3 => ?_)
  refine c_region ?_
  refine r_y rfl rfl (y_iop rfl rfl rfl) ?_
  refine r_nil ?_
  refine hK3 _ _ _ ?_
  clear hK3 K3
  refine c_seq (fun K4 hK4 => ?_)
  refine c_cond rfl (fun h0 => ?_) (fun h0 => ?_)
  ·
    have hlt : i < s1.n := by simp at h0; omega
    obtain ⟨x1, hx1⟩ := get_of_lt (l := l1) (k := i) (by omega)
    refine c_skip ?_
    refine hK4 _ _ _ ?_
    clear hK4 K4
    refine c_seq (fun K5 hK5 => ?_)
    refine c_block ?_
    refine c_seq (fun K6 hK6 => ?_)
    refine c_region ?_
    refine r_y rfl rfl (y_move rfl) ?_
    refine r_y rfl rfl (y_indexAddr_slice rfl rfl tl181 hlt (At.fz hz1 hlt)) ?_
    refine r_y rfl rfl (y_load_s rfl ts25 (RdS.fz (j := 0) hz1 (map_get hx1) rfl)) ?_
    refine r_y rfl rfl (y_assign rfl) ?_
    refine r_y rfl rfl (y_assign rfl) ?_
    refine r_nil ?_
    refine hK6 _ _ _ ?_
    clear hK6 K6
    refine c_seq (fun K7 hK7 => ?_)
    refine c_seq (fun K8 hK8 => ?_)
    refine c_region ?_
    refine r_y rfl rfl (y_move rfl) ?_
    refine r_y rfl rfl (y_move rfl) ?_
    refine r_y rfl rfl (y_len tl181 rfl) ?_
    refine r_y rfl rfl (y_iop rfl rfl rfl) ?_
    refine r_nil ?_
    refine hK8 _ _ _ ?_
    clear hK8 K8
    refine c_cond rfl (fun h1 => ?_) (fun h1 => ?_)
    ·
      refine c_seq (fun K9 hK9 => ?_)
      refine c_region ?_
      refine r_y rfl rfl (y_assign rfl) ?_
      refine r_nil ?_
      refine hK9 _ _ _ ?_
      clear hK9 K9
      refine c_ret ?_
      refine e_ret 0 hm (res_tmps rfl) ?_
      refine ⟨congrArg (Value.int .i64) ?_, rfl⟩
      rw [drop_cons hx1, show l2.drop i = [] from List.drop_eq_nil_of_le (by simp at h1; omega)] at hinv
      exact hinv
    ·
      have hlt2 : i < s2.n := by simp at h1; omega
      obtain ⟨x2, hx2⟩ := get_of_lt (l := l2) (k := i) (by omega)
      refine c_skip ?_
      refine hK7 _ _ _ ?_
      clear hK7 K7
      refine c_seq (fun K10 hK10 => ?_)
      refine c_region ?_
      refine r_y rfl rfl (y_move rfl) ?_
      refine r_y rfl rfl (y_move rfl) ?_
      refine r_y rfl rfl (y_indexAddr_slice rfl rfl tl181 hlt2 (At.fz hz2 hlt2)) ?_
      refine r_y rfl rfl (y_load_s rfl ts25 (RdS.fz (j := 0) hz2 (map_get hx2) rfl)) ?_
      refine r_y rfl rfl (y_assign rfl) ?_
      refine r_nil ?_
      refine hK10 _ _ _ ?_
      clear hK10 K10
      refine c_seq (fun K11 hK11 => ?_)
      refine c_region ?_
      refine r_y rfl rfl (y_move rfl) ?_
      refine r_y rfl rfl (y_move rfl) ?_
      refine r_y rfl rfl (y_move rfl) ?_
      refine r_s rfl ?_
      refine s_call rfl Try.call164 rfl rfl (cmpW_ok x1 x2 _ _) ?_
      rintro _ m2 _ hm2 ⟨rfl, rfl⟩
      replace hm := hm.trans hm2
      replace hz1 := hz1.mono hm2
      replace hz2 := hz2.mono hm2
      clear hm2
      refine r_y rfl rfl (y_assign rfl) ?_
      refine r_nil ?_
      refine hK11 _ _ _ ?_
      clear hK11 K11
      refine c_seq (fun K12 hK12 => ?_)
      refine c_region ?_
      refine r_y rfl rfl (y_move rfl) ?_
      refine r_y rfl rfl (y_iop rfl rfl rfl) ?_
      refine r_nil ?_
      refine hK12 _ _ _ ?_
      clear hK12 K12
      refine c_cond rfl (fun h2 => ?_) (fun h2 => ?_)
      ·
        refine c_seq (fun K13 hK13 => ?_)
        refine c_region ?_
        refine r_y rfl rfl (y_move rfl) ?_
        refine r_y rfl rfl (y_assign rfl) ?_
        refine r_nil ?_
        refine hK13 _ _ _ ?_
        clear hK13 K13
        refine c_ret ?_
        refine e_ret 0 hm (res_tmps rfl) ?_
        refine ⟨congrArg (Value.int .i64) ?_, rfl⟩
        rw [drop_cons hx1, drop_cons hx2] at hinv
        simp only [cmpL] at hinv
        rw [if_pos (by simpa using h2)] at hinv
        exact hinv
      ·
        refine c_skip ?_
        refine hK5 _ _ _ ?_
        clear hK5 K5
        refine c_region ?_
        first | refine r_y rfl rfl (y_inc rfl (by omega)) ?_ | refine r_y rfl rfl (y_iop rfl rfl rfl) ?_
        refine r_y rfl rfl (y_move rfl) ?_
        refine r_nil ?_
        exact ⟨k0 - 1, (i + 1), by omega, ⟨rfl, rfl, rfl, rfl, rfl, rfl, trivial⟩, rfl, ⟨by omega, by rw [drop_cons hx1, drop_cons hx2] at hinv; simp only [cmpL] at hinv; rw [if_neg (by simpa using h2)] at hinv; exact hinv⟩, hm, hz1, hz2⟩
  ·
    refine c_exit ?_
    refine hK1 _ _ _ ?_
    clear hK4 K4 hK1 K1
    refine c_seq (fun K14 hK14 => ?_)
    refine c_seq (fun K15 hK15 => ?_)
    refine c_region ?_
    refine r_y rfl rfl (y_move rfl) ?_
    refine r_y rfl rfl (y_len tl181 rfl) ?_
    refine r_y rfl rfl (y_move rfl) ?_
    refine r_y rfl rfl (y_len tl181 rfl) ?_
    refine r_y rfl rfl (y_iop rfl rfl rfl) ?_
    refine r_nil ?_
    refine hK15 _ _ _ ?_
    clear hK15 K15
    refine c_cond rfl (fun h3 => ?_) (fun h3 => ?_)
    ·
      refine c_seq (fun K16 hK16 => ?_)
      refine c_region ?_
      refine r_y rfl rfl (y_assign rfl) ?_
      refine r_nil ?_
      refine hK16 _ _ _ ?_
      clear hK16 K16
      refine c_ret ?_
      refine e_ret 0 hm (res_tmps rfl) ?_
      refine ⟨congrArg (Value.int .i64) ?_, rfl⟩
      have hie : i = s1.n := by simp at h0; omega
      have : l1.drop i = [] := List.drop_eq_nil_of_le (by omega)
      obtain ⟨x2, hx2⟩ := get_of_lt (l := l2) (k := i) (by simp at h3; omega)
      rw [this, drop_cons hx2] at hinv
      exact hinv
    ·
      refine c_skip ?_
      refine hK14 _ _ _ ?_
      clear hK14 K14
      refine c_seq (fun K17 hK17 => ?_)
      refine c_region ?_
      refine r_y rfl rfl (y_assign rfl) ?_
      refine r_nil ?_
      refine hK17 _ _ _ ?_
      clear hK17 K17
      refine c_ret ?_
      refine e_ret 0 hm (res_tmps rfl) ?_
      refine ⟨congrArg (Value.int .i64) ?_, rfl⟩
      have hie : i = s1.n := by simp at h0; omega
      rw [List.drop_eq_nil_of_le (by omega), List.drop_eq_nil_of_le (by simp at h3; omega)] at hinv
      exact hinv
set_option maxRecDepth 100000 in
theorem headCmp_ok (x y : Head) (m : Snap) (H : Hp) : Fn Try.prog 151 [.agg (encHead x).toArray, .agg (encHead y).toArray] m H (fun v _ H' => v = .int .i64 (headCmp x y) ∧ H' = H) := by
  have hm : m.le m := Snap.le.refl m
  refine fn_end Try.func151 rfl rfl rfl ?_
  refine c_seq (fun K0 hK0 => ?_)
  refine c_region ?_
  refine r_s rfl ?_
  refine s_box_a rfl rfl (fun b0 => ?_)
  refine r_s rfl ?_
  refine s_box_a rfl rfl (fun b1 => ?_)
  refine r_freeze (i := 1) rfl (fun m3 hm3 hc0 => ?_)
  replace hm := hm.trans hm3
  try replace hc0 := fun j v h => hm3.cell (hc0 j v h)
  try replace hc1 := fun j v h => hm3.cell (hc1 j v h)
  clear hm3
  refine r_freeze (i := 0) rfl (fun m3 hm3 hc1 => ?_)
  replace hm := hm.trans hm3
  try replace hc0 := fun j v h => hm3.cell (hc0 j v h)
  try replace hc1 := fun j v h => hm3.cell (hc1 j v h)
  clear hm3
  have hz1 := Fz.of_cells (n := 12) (s := 1) (ch := words1 (headL x)) hc0 rfl (by simp [words1]) (by rw [flatten_words1]; rfl) (by decide)
  have hz2 := Fz.of_cells (n := 12) (s := 1) (ch := words1 (headL y)) hc1 rfl (by simp [words1]) (by rw [flatten_words1]; rfl) (by decide)
  refine r_y rfl rfl (y_assign rfl) ?_
  refine r_nil ?_
  refine hK0 _ _ _ ?_
  clear hK0 K0
  refine c_seq (fun K1 hK1 => ?_)
  refine c_draw ([]) (by kernel_rfl) (fun hg => ?_)
  refine g_y (i := 0) (listed' := #[true, false, false, false]) rfl (by kernel_rfl) (by kernel_rfl) (by kernel_rfl) (by kernel_rfl) rfl rfl hg alln (fun m' H' hm' hX' => y_slice_arr rfl ta27) ?_
  refine g_y (i := 1) (listed' := #[true, true, false, false]) rfl (by kernel_rfl) (by kernel_rfl) (by kernel_rfl) (by kernel_rfl) rfl rfl hg alln (fun m' H' hm' hX' => y_slice_arr rfl ta27) ?_
  refine g_s (i := 2) (listed' := #[true, true, true, false]) rfl (by kernel_rfl) (by kernel_rfl) rfl ?_
  refine s_call0 rfl Try.call163 rfl (cmpL_ok ⟨some ⟨b0, 0, none⟩, 12, 12⟩ ⟨some ⟨b1, 0, none⟩, 12, 12⟩ (headL x) (headL y) _ _ hz1 hz2) ?_
  rintro _ m2 _ hm2 ⟨rfl, rfl⟩
  replace hm := hm.trans hm2
  refine ⟨⟨hg.trans hm2, alln⟩, ?_⟩
  replace hg := hg.trans hm2
  clear hm2
  refine g_y (i := 3) (listed' := #[true, true, true, true]) rfl (by kernel_rfl) (by kernel_rfl) (by kernel_rfl) (by kernel_rfl) rfl rfl hg alln (fun m' H' hm' hX' => y_assign rfl) ?_
  refine g_done (by kernel_rfl) ?_
  clear hg
  refine hK1 _ _ _ ?_
  clear hK1 K1
  refine c_ret ?_
  refine e_ret 0 hm (res_tmps rfl) ?_
  exact ⟨rfl, rfl⟩
set_option maxRecDepth 100000 in
theorem orL_ok (s : Sl) (l : List Int) (m : Snap) (H : Hp) (hz : Fz m s.a s.n s.cap 1 (ints1 l)) : Fn Try.prog 150 [s.v] m H (fun v _ H' => v = .int .i64 (orL l) ∧ H' = H) := by
  have hl : s.n = l.length := by have := hz.len; simpa [ints1] using this.symm
  have hmx := hz.max
  have hle := hz.le
  unfold maxLen at hmx
  have hm : m.le m := Snap.le.refl m
  refine fn_end Try.func150 rfl rfl rfl ?_
  refine c_seq (fun K0 hK0 => ?_)
  refine c_region ?_
  refine r_y rfl rfl (y_assign rfl) ?_
  refine r_nil ?_
  refine hK0 _ _ _ ?_
  clear hK0 K0
  refine c_seq (fun K1 hK1 => ?_)
  refine c_region ?_
  refine r_y rfl rfl (y_assign rfl) ?_
  refine r_nil ?_
  refine hK1 _ _ _ ?_
  clear hK1 K1
  refine c_seq (fun K2 hK2 => ?_)
  refine c_seq (fun K3 hK3 => ?_)
  refine c_region ?_
  refine r_y rfl rfl (y_move rfl) ?_
  refine r_y rfl rfl (y_len tl77 rfl) ?_
  refine r_y rfl rfl (y_move rfl) ?_
  refine r_nil ?_
  refine hK3 _ _ _ ?_
  clear hK3 K3
  refine c_block ?_
  refine c_loopx (α := Nat) (fun i => [(3, .int .i64 0), (6, s.v), (7, .int .i64 (s.n : Nat)), (8, .int .i64 (i : Nat))]) (fun i => H) (fun k0 i m1 => (i + k0 = s.n ∧ orL (l.drop i) = orL l) ∧ m.le m1 ∧ (Fz m1 s.a s.n s.cap 1 (ints1 l))) (s.n) 0 ⟨rfl, rfl, rfl, rfl, trivial⟩ rfl ⟨⟨by omega, rfl⟩, hm, hz⟩ ?_
  clear hm hz
  rintro k0 i m1 ⟨hi0, hm, hz⟩
  obtain ⟨hi, hinv⟩ := hi0
  refine c_seq (fun K4 hK4 => ?_)
  refine c_region ?_
  refine r_y rfl rfl (y_iop rfl rfl rfl) ?_
  refine r_nil ?_
  refine hK4 _ _ _ ?_
  clear hK4 K4
  refine c_seq (fun K5 hK5 => ?_)
  refine c_cond rfl (fun h0 => ?_) (fun h0 => ?_)
  ·
    have hlt : i < s.n := by simp at h0; omega
    obtain ⟨x, hx⟩ := get_of_lt (l := l) (k := i) (by omega)
    refine c_skip ?_
    refine hK5 _ _ _ ?_
    clear hK5 K5
    refine c_seq (fun K6 hK6 => ?_)
    refine c_block ?_
    refine c_seq (fun K7 hK7 => ?_)
    refine c_region ?_
    refine r_y rfl rfl (y_indexAddr_slice rfl rfl tl77 hlt (At.fz hz hlt)) ?_
    refine r_y rfl rfl (y_load_s rfl ts3 (RdS.fz (j := 0) hz (map_get hx) rfl)) ?_
    refine r_y rfl rfl (y_assign rfl) ?_
    refine r_nil ?_
    refine hK7 _ _ _ ?_
    clear hK7 K7
    refine c_seq (fun K8 hK8 => ?_)
    refine c_region ?_
    refine r_y rfl rfl (y_move rfl) ?_
    refine r_y rfl rfl (y_move rfl) ?_
    refine r_y rfl rfl (y_iop rfl rfl rfl) ?_
    refine r_nil ?_
    refine hK8 _ _ _ ?_
    clear hK8 K8
    refine c_cond rfl (fun h1 => ?_) (fun h1 => ?_)
    ·
      refine c_seq (fun K9 hK9 => ?_)
      refine c_region ?_
      refine r_y rfl rfl (y_move rfl) ?_
      refine r_y rfl rfl (y_assign rfl) ?_
      refine r_nil ?_
      refine hK9 _ _ _ ?_
      clear hK9 K9
      refine c_ret ?_
      refine e_ret 0 hm (res_tmps rfl) ?_
      refine ⟨congrArg (Value.int .i64) ?_, rfl⟩
      rw [drop_cons hx] at hinv; simp only [orL, List.find?_cons, h1] at hinv ⊢; exact hinv
    ·
      refine c_skip ?_
      refine hK6 _ _ _ ?_
      clear hK6 K6
      refine c_region ?_
      first | refine r_y rfl rfl (y_inc rfl (by omega)) ?_ | refine r_y rfl rfl (y_iop rfl rfl rfl) ?_
      refine r_y rfl rfl (y_move rfl) ?_
      refine r_nil ?_
      exact ⟨k0 - 1, (i + 1), by omega, ⟨rfl, rfl, rfl, rfl, trivial⟩, rfl, ⟨by omega, by rw [drop_cons hx] at hinv; simp only [orL, List.find?_cons, h1] at hinv ⊢; exact hinv⟩, hm, hz⟩
  ·
    refine c_exit ?_
    refine hK2 _ _ _ ?_
    clear hK5 K5 hK2 K2
    refine c_seq (fun K10 hK10 => ?_)
    refine c_region ?_
    refine r_y rfl rfl (y_move rfl) ?_
    refine r_y rfl rfl (y_assign rfl) ?_
    refine r_nil ?_
    refine hK10 _ _ _ ?_
    clear hK10 K10
    refine c_ret ?_
    refine e_ret 0 hm (res_tmps rfl) ?_
    refine ⟨congrArg (Value.int .i64) ?_, rfl⟩
    rw [List.drop_eq_nil_of_le (by simp at h0; omega)] at hinv
    exact hinv
set_option maxRecDepth 100000 in
theorem cubeCmp_ok (x y : Cube) (m : Snap) (H : Hp) : Fn Try.prog 121 [.agg (encCube x).toArray, .agg (encCube y).toArray] m H (fun v _ H' => v = .int .i64 (cubeCmp x y) ∧ H' = H) := by
  have hm : m.le m := Snap.le.refl m
  refine fn_end Try.func121 rfl rfl rfl ?_
  refine c_seq (fun K0 hK0 => ?_)
  refine c_region ?_
  refine r_s rfl ?_
  refine s_box_a rfl rfl (fun b0 => ?_)
  refine r_s rfl ?_
  refine s_box_a rfl rfl (fun b1 => ?_)
  refine r_y rfl rfl (y_assign rfl) ?_
  refine r_nil ?_
  refine hK0 _ _ _ ?_
  clear hK0 K0
  refine c_seq (fun K1 hK1 => ?_)
  refine c_draw ([.blk b0 (.cells (encCube x).toArray 29), .blk b1 (.cells (encCube y).toArray 29)]) (by kernel_rfl) (fun hg => ?_)
  refine g_y (i := 0) (listed' := #[true, false, false, false, false, false, false, false, false, false, false, false, false]) rfl (by kernel_rfl) (by kernel_rfl) (by kernel_rfl) (by kernel_rfl) rfl rfl hg (allc (List.Mem.tail _ (List.Mem.head _)) (allc (List.Mem.head _) alln)) (fun m' H' hm' hX' => y_fieldAddr rfl At.lit fo29_1 rfl) ?_
  refine g_y (i := 1) (listed' := #[true, true, false, false, false, false, false, false, false, false, false, false, false]) rfl (by kernel_rfl) (by kernel_rfl) (by kernel_rfl) (by kernel_rfl) rfl rfl hg (allc (List.Mem.tail _ (List.Mem.head _)) (allc (List.Mem.head _) alln)) (fun m' H' hm' hX' => y_load_a (cs := encHead x.care) rfl ts27 (RdA.mem (hX' _ (List.Mem.head _)) rfl)) ?_
  refine g_y (i := 2) (listed' := #[true, true, true, false, false, false, false, false, false, false, false, false, false]) rfl (by kernel_rfl) (by kernel_rfl) (by kernel_rfl) (by kernel_rfl) rfl rfl hg (allc (List.Mem.tail _ (List.Mem.head _)) (allc (List.Mem.head _) alln)) (fun m' H' hm' hX' => y_fieldAddr rfl At.lit fo29_1 rfl) ?_
  refine g_y (i := 3) (listed' := #[true, true, true, true, false, false, false, false, false, false, false, false, false]) rfl (by kernel_rfl) (by kernel_rfl) (by kernel_rfl) (by kernel_rfl) rfl rfl hg (allc (List.Mem.tail _ (List.Mem.head _)) (allc (List.Mem.head _) alln)) (fun m' H' hm' hX' => y_load_a (cs := encHead y.care) rfl ts27 (RdA.mem (hX' _ (List.Mem.tail _ (List.Mem.head _))) rfl)) ?_
  refine g_y (i := 5) (listed' := #[true, true, true, true, false, true, false, false, false, false, false, false, false]) rfl (by kernel_rfl) (by kernel_rfl) (by kernel_rfl) (by kernel_rfl) rfl rfl hg (allc (List.Mem.tail _ (List.Mem.head _)) (allc (List.Mem.head _) alln)) (fun m' H' hm' hX' => y_fieldAddr rfl At.lit fo29_0 rfl) ?_
  refine g_y (i := 6) (listed' := #[true, true, true, true, false, true, true, false, false, false, false, false, false]) rfl (by kernel_rfl) (by kernel_rfl) (by kernel_rfl) (by kernel_rfl) rfl rfl hg (allc (List.Mem.tail _ (List.Mem.head _)) (allc (List.Mem.head _) alln)) (fun m' H' hm' hX' => y_load_a (cs := encHead x.value) rfl ts27 (RdA.mem (hX' _ (List.Mem.head _)) rfl)) ?_
  refine g_y (i := 7) (listed' := #[true, true, true, true, false, true, true, true, false, false, false, false, false]) rfl (by kernel_rfl) (by kernel_rfl) (by kernel_rfl) (by kernel_rfl) rfl rfl hg (allc (List.Mem.tail _ (List.Mem.head _)) (allc (List.Mem.head _) alln)) (fun m' H' hm' hX' => y_fieldAddr rfl At.lit fo29_0 rfl) ?_
  refine g_y (i := 8) (listed' := #[true, true, true, true, false, true, true, true, true, false, false, false, false]) rfl (by kernel_rfl) (by kernel_rfl) (by kernel_rfl) (by kernel_rfl) rfl rfl hg (allc (List.Mem.tail _ (List.Mem.head _)) (allc (List.Mem.head _) alln)) (fun m' H' hm' hX' => y_load_a (cs := encHead y.value) rfl ts27 (RdA.mem (hX' _ (List.Mem.tail _ (List.Mem.head _))) rfl)) ?_
  refine g_s (i := 4) (listed' := #[true, true, true, true, true, true, true, true, true, false, false, false, false]) rfl (by kernel_rfl) (by kernel_rfl) rfl ?_
  refine s_call0 rfl Try.call151 rfl (headCmp_ok x.care y.care _ _) ?_
  rintro _ m2 _ hm2 ⟨rfl, rfl⟩
  replace hm := hm.trans hm2
  refine ⟨⟨hg.trans hm2, (allc (List.Mem.tail _ (List.Mem.head _)) (allc (List.Mem.head _) alln))⟩, ?_⟩
  replace hg := hg.trans hm2
  clear hm2
  refine g_s (i := 9) (listed' := #[true, true, true, true, true, true, true, true, true, true, false, false, false]) rfl (by kernel_rfl) (by kernel_rfl) rfl ?_
  refine s_call0 rfl Try.call151 rfl (headCmp_ok x.value y.value _ _) ?_
  rintro _ m2 _ hm2 ⟨rfl, rfl⟩
  replace hm := hm.trans hm2
  refine ⟨⟨hg.trans hm2, (allc (List.Mem.tail _ (List.Mem.head _)) (allc (List.Mem.head _) alln))⟩, ?_⟩
  replace hg := hg.trans hm2
  clear hm2
  refine g_s (i := 10) (listed' := #[true, true, true, true, true, true, true, true, true, true, true, false, false]) rfl (by kernel_rfl) (by kernel_rfl) rfl ?_
  refine s_buildSlice (cs := [i64 (headCmp x.care y.care), i64 (headCmp x.value y.value)]) (e := 3) rfl rfl (fun _ => by kernel_rfl) (fun b2 => ?_)
  refine ⟨⟨hg, (allc (List.Mem.tail _ (List.Mem.tail _ (List.Mem.head _))) (allc (List.Mem.tail _ (List.Mem.head _)) alln))⟩, ?_⟩
  refine g_freeze (i := 0) rfl (fun m3 hm3 hc0 => ?_)
  replace hm := hm.trans hm3
  replace hg := hg.trans hm3
  clear hm3
  have hz := Fz.of_cells (n := 2) (s := 1) (ch := ints1 [headCmp x.care y.care, headCmp x.value y.value]) hc0 rfl (by simp [ints1]) rfl (by decide)
  refine g_s (i := 11) (listed' := #[true, true, true, true, true, true, true, true, true, true, true, true, false]) rfl (by kernel_rfl) (by kernel_rfl) rfl ?_
  refine s_call0 rfl Try.call150 rfl (orL_ok ⟨some ⟨b2, 0, none⟩, 2, 2⟩ [headCmp x.care y.care, headCmp x.value y.value] _ _ hz) ?_
  rintro _ m2 _ hm2 ⟨rfl, rfl⟩
  replace hm := hm.trans hm2
  refine ⟨⟨hg.trans hm2, (allc (List.Mem.tail _ (List.Mem.head _)) (allc (List.Mem.head _) alln))⟩, ?_⟩
  replace hg := hg.trans hm2
  clear hm2
  refine g_y (i := 12) (listed' := #[true, true, true, true, true, true, true, true, true, true, true, true, true]) rfl (by kernel_rfl) (by kernel_rfl) (by kernel_rfl) (by kernel_rfl) rfl rfl hg (allc (List.Mem.tail _ (List.Mem.head _)) (allc (List.Mem.head _) alln)) (fun m' H' hm' hX' => y_assign rfl) ?_
  refine g_done (by kernel_rfl) ?_
  clear hg
  refine hK1 _ _ _ ?_
  clear hK1 K1
  refine c_ret ?_
  refine e_ret 2 hm (res_tmps rfl) ?_
  exact ⟨rfl, rfl⟩
set_option maxRecDepth 100000 in
theorem ruleCmp_ok (x y : RuleD) (s1 s2 : Sl) (m : Snap) (H : Hp) : Fn Try.prog 74 [.agg (encRule x s1).toArray, .agg (encRule y s2).toArray] m H (fun v _ H' => v = .int .i64 (ruleCmp x y) ∧ H' = H) := by
  have hm : m.le m := Snap.le.refl m
  refine fn_end Try.func74 rfl rfl rfl ?_
  refine c_seq (fun K0 hK0 => ?_)
  refine c_region ?_
  refine r_s rfl ?_
  refine s_box_a rfl rfl (fun b0 => ?_)
  refine r_s rfl ?_
  refine s_box_a rfl rfl (fun b1 => ?_)
  refine r_y rfl rfl (y_assign rfl) ?_
  refine r_nil ?_
  refine hK0 _ _ _ ?_
  clear hK0 K0
  refine c_seq (fun K1 hK1 => ?_)
  refine c_seq (fun K2 hK2 => ?_)
  refine c_region ?_
  refine r_y rfl rfl (y_fieldAddr rfl At.lit fo50_1 rfl) ?_
  refine r_y rfl rfl (y_load_s rfl ts3 (RdS.blk (i := 1) rfl rfl)) ?_
  refine r_y rfl rfl (y_fieldAddr rfl At.lit fo50_1 rfl) ?_
  refine r_y rfl rfl (y_load_s rfl ts3 (RdS.blk (i := 0) rfl rfl)) ?_
  refine r_y rfl rfl (y_iop rfl rfl rfl) ?_
  refine r_nil ?_
  refine hK2 _ _ _ ?_
  clear hK2 K2
  refine c_cond rfl (fun h0 => ?_) (fun h0 => ?_)
  ·
    refine c_seq (fun K3 hK3 => ?_)
    refine c_seq (fun K4 hK4 => ?_)
    refine c_region ?_
    refine r_y rfl rfl (y_fieldAddr rfl At.lit fo50_1 rfl) ?_
    refine r_y rfl rfl (y_load_s rfl ts3 (RdS.blk (i := 1) rfl rfl)) ?_
    refine r_y rfl rfl (y_fieldAddr rfl At.lit fo50_1 rfl) ?_
    refine r_y rfl rfl (y_load_s rfl ts3 (RdS.blk (i := 0) rfl rfl)) ?_
    refine r_y rfl rfl (y_iop rfl rfl rfl) ?_
    refine r_nil ?_
    refine hK4 _ _ _ ?_
    clear hK4 K4
    refine c_cond rfl (fun h1 => ?_) (fun h1 => ?_)
    ·
      refine c_seq (fun K5 hK5 => ?_)
      refine c_region ?_
      refine r_y rfl rfl (y_assign rfl) ?_
      refine r_nil ?_
      refine hK5 _ _ _ ?_
      clear hK5 K5
      refine c_ret ?_
      refine e_ret 2 hm (res_tmps rfl) ?_
      refine ⟨congrArg (Value.int .i64) ?_, rfl⟩
      simp_all [ruleCmp]
      try omega
    ·
      refine c_skip ?_
      refine hK3 _ _ _ ?_
      clear hK3 K3
      refine c_seq (fun K6 hK6 => ?_)
      refine c_region ?_
      refine r_y rfl rfl (y_assign rfl) ?_
      refine r_nil ?_
      refine hK6 _ _ _ ?_
      clear hK6 K6
      refine c_ret ?_
      refine e_ret 2 hm (res_tmps rfl) ?_
      refine ⟨congrArg (Value.int .i64) ?_, rfl⟩
      simp_all [ruleCmp]
      try omega
  ·
    refine c_skip ?_
    refine hK1 _ _ _ ?_
    clear hK1 K1
    refine c_seq (fun K7 hK7 => ?_)
    refine c_region ?_
    refine r_y rfl rfl (y_fieldAddr rfl At.lit fo50_0 rfl) ?_
    refine r_y rfl rfl (y_load_a (cs := encCube x.m) rfl ts29 (RdA.blk (i := 1) rfl rfl)) ?_
    refine r_y rfl rfl (y_fieldAddr rfl At.lit fo50_0 rfl) ?_
    refine r_y rfl rfl (y_load_a (cs := encCube y.m) rfl ts29 (RdA.blk (i := 0) rfl rfl)) ?_
    refine r_s rfl ?_
    refine s_call0 rfl Try.call121 rfl (cubeCmp_ok x.m y.m _ _) ?_
    rintro _ m2 _ hm2 ⟨rfl, rfl⟩
    replace hm := hm.trans hm2
    clear hm2
    refine r_y rfl rfl (y_assign rfl) ?_
    refine r_nil ?_
    refine hK7 _ _ _ ?_
    clear hK7 K7
    refine c_ret ?_
    refine e_ret 2 hm (res_tmps rfl) ?_
    refine ⟨congrArg (Value.int .i64) ?_, rfl⟩
    simp_all [ruleCmp]
    try omega
set_option maxRecDepth 100000 in
theorem ruleBefore_ok (x y : RuleD) (s1 s2 : Sl) (m : Snap) (H : Hp) : Fn Try.prog 128 [.agg (encRule x s1).toArray, .agg (encRule y s2).toArray] m H (fun v _ H' => v = .bool (ruleBefore x y) ∧ H' = H) := by
  have hm : m.le m := Snap.le.refl m
  refine fn_end Try.func128 rfl rfl rfl ?_
  refine c_seq (fun K0 hK0 => ?_)
  refine c_region ?_
  refine r_s rfl ?_
  refine s_box_a rfl rfl (fun b0 => ?_)
  refine r_s rfl ?_
  refine s_box_a rfl rfl (fun b1 => ?_)
  refine r_y rfl rfl (y_assign rfl) ?_
  refine r_nil ?_
  refine hK0 _ _ _ ?_
  clear hK0 K0
  refine c_seq (fun K1 hK1 => ?_)
  refine c_region ?_
  refine r_y rfl rfl (y_load_a (cs := encRule x s1) rfl ts50 (RdA.blk (i := 1) rfl rfl)) ?_
  refine r_y rfl rfl (y_load_a (cs := encRule y s2) rfl ts50 (RdA.blk (i := 0) rfl rfl)) ?_
  refine r_s rfl ?_
  refine s_call0 rfl Try.call74 rfl (ruleCmp_ok x y s1 s2 _ _) ?_
  rintro _ m2 _ hm2 ⟨rfl, rfl⟩
  replace hm := hm.trans hm2
  clear hm2
  refine r_y rfl rfl (y_iop rfl rfl rfl) ?_
  refine r_y rfl rfl (y_assign rfl) ?_
  refine r_nil ?_
  refine hK1 _ _ _ ?_
  clear hK1 K1
  refine c_ret ?_
  refine e_ret 2 hm (res_tmps rfl) ?_
  exact ⟨rfl, rfl⟩
set_option maxRecDepth 100000 in
theorem ruleTable_ok (s : Sl) (l : List (RuleD × Sl)) (m : Snap) (H : Hp) (hz : FzR m s l) : Fn Try.prog 80 [s.v] m H (fun v _ H' => v = .bool (ruleTable (l.map (·.1))) ∧ H' = H) := by
  have hl := hz.len
  have hmx := hz.fz.max
  have hle := hz.fz.le
  unfold maxLen at hmx
  have hm : m.le m := Snap.le.refl m
  refine fn_end Try.func80 rfl rfl rfl ?_
  refine c_seq (fun K0 hK0 => ?_)
  refine c_region ?_
  refine r_y rfl rfl (y_assign rfl) ?_
  refine r_nil ?_
  refine hK0 _ _ _ ?_
  clear hK0 K0
  refine c_seq (fun K1 hK1 => ?_)
  refine c_seq (fun K2 hK2 => ?_)
  refine c_region ?_
  refine r_y rfl rfl (y_move rfl) ?_
  refine r_y rfl rfl (y_len tl33 rfl) ?_
  refine r_y rfl rfl (y_move rfl) ?_
  refine r_nil ?_
  refine hK2 _ _ _ ?_
  clear hK2 K2
  refine c_block ?_
  refine c_loopx (α := Nat) (fun i => [(0, s.v), (5, s.v), (6, .int .i64 (s.n : Nat)), (7, .int .i64 (i : Nat))]) (fun i => H) (fun k0 i m1 => (i + k0 = s.n ∧ (List.range i).all (okAt (l.map (·.1))) = true) ∧ m.le m1 ∧ (FzR m1 s l)) (s.n) 0 ⟨rfl, rfl, rfl, rfl, trivial⟩ rfl ⟨⟨by omega, rfl⟩, hm, hz⟩ ?_
  clear hm hz
  rintro k0 i m1 ⟨hi0, hm, hz⟩
  obtain ⟨hi, hinv⟩ := hi0
  refine c_seq (fun K3 hK3 => ?_)
  refine c_region ?_
  refine r_y rfl rfl (y_iop rfl rfl rfl) ?_
  refine r_nil ?_
  refine hK3 _ _ _ ?_
  clear hK3 K3
  refine c_seq (fun K4 hK4 => ?_)
  refine c_cond rfl (fun h0 => ?_) (fun h0 => ?_)
  ·
    have hlt : i < s.n := by simp at h0; omega
    obtain ⟨x, hx⟩ := get_of_lt (l := l) (k := i) (by omega)
    refine c_skip ?_
    refine hK4 _ _ _ ?_
    clear hK4 K4
    refine c_seq (fun K5 hK5 => ?_)
    refine c_block ?_
    refine c_seq (fun K6 hK6 => ?_)
    refine c_region ?_
    refine r_y rfl rfl (y_move rfl) ?_
    refine r_y rfl rfl (y_indexAddr_slice rfl rfl tl33 hlt (At.fz hz.fz hlt)) ?_
    refine r_y rfl rfl (y_load_a rfl ts50 (RdA.fz0 hz.fz (map_get hx))) ?_
    refine r_s rfl ?_
    refine s_alloc rfl tz50 (fun b0 => ?_)
    refine r_y rfl rfl (y_assign rfl) ?_
    refine r_s rfl ?_
    refine s_store (us := encRule x.1 x.2) rfl rfl rfl ts50 rfl rfl (one_rule _ _) (i := 0) rfl rfl ?_
    refine r_nil ?_
    refine hK6 _ _ _ ?_
    clear hK6 K6
    refine c_seq (fun K7 hK7 => ?_)
    refine c_draw ([.blk b0 (.cells (encRule x.1 x.2).toArray 50)]) (by kernel_rfl) (fun hg => ?_)
    have hz_g := hz
    refine g_y (i := 0) (listed' := #[true, false, false, false, false, false, false, false, false, false, false, false, false, false, false, false, false]) rfl (by kernel_rfl) (by kernel_rfl) (by kernel_rfl) (by kernel_rfl) rfl rfl hg (allc (List.Mem.head _) alln) (fun m' H' hm' hX' => y_load_a (cs := encRule x.1 x.2) rfl ts50 (RdA.mem (hX' _ (List.Mem.head _)) rfl)) ?_
    refine g_s (i := 1) (listed' := #[true, true, false, false, false, false, false, false, false, false, false, false, false, false, false, false, false]) rfl (by kernel_rfl) (by kernel_rfl) rfl ?_
    refine s_call0 rfl Try.call70 rfl (ruleSound_ok x.1 x.2 _ _ (hz.acts x (List.mem_of_getElem? hx)).1) ?_
    rintro _ m2 _ hm2 ⟨rfl, rfl⟩
    replace hm := hm.trans hm2
    refine ⟨⟨hg.trans hm2, (allc (List.Mem.head _) alln)⟩, ?_⟩
    replace hg := hg.trans hm2
    replace hz := hz.mono hm2
    clear hm2
    refine g_y (i := 2) (listed' := #[true, true, true, false, false, false, false, false, false, false, false, false, false, false, false, false, false]) rfl (by kernel_rfl) (by kernel_rfl) (by kernel_rfl) (by kernel_rfl) rfl rfl hg (allc (List.Mem.head _) alln) (fun m' H' hm' hX' => y_not rfl) ?_
    refine g_y (i := 3) (listed' := #[true, true, true, true, false, false, false, false, false, false, false, false, false, false, false, false, false]) rfl (by kernel_rfl) (by kernel_rfl) (by kernel_rfl) (by kernel_rfl) rfl rfl hg (allc (List.Mem.head _) alln) (fun m' H' hm' hX' => y_move rfl) ?_
    refine g_split (j := 3) rfl (fun h1 => ?_) (fun h1 => ?_)
    ·
      refine g_no (i := 4) (listed' := #[true, true, true, true, true, false, false, false, false, false, false, false, false, false, false, false, false]) rfl (by kernel_rfl) (by kernel_rfl) (by kernel_rfl) (by kernel_rfl) rfl rfl h1 rfl hg (allc (List.Mem.head _) alln) ?_
      refine g_no (i := 5) (listed' := #[true, true, true, true, true, true, false, false, false, false, false, false, false, false, false, false, false]) rfl (by kernel_rfl) (by kernel_rfl) (by kernel_rfl) (by kernel_rfl) rfl rfl h1 rfl hg (allc (List.Mem.head _) alln) ?_
      refine g_no (i := 6) (listed' := #[true, true, true, true, true, true, true, false, false, false, false, false, false, false, false, false, false]) rfl (by kernel_rfl) (by kernel_rfl) (by kernel_rfl) (by kernel_rfl) rfl rfl h1 rfl hg (allc (List.Mem.head _) alln) ?_
      refine g_nou (i := 7) (listed' := #[true, true, true, true, true, true, true, true, false, false, false, false, false, false, false, false, false]) rfl (by kernel_rfl) (by kernel_rfl) (by kernel_rfl) (by kernel_rfl) rfl rfl rfl hg (allc (List.Mem.head _) alln) ?_
      refine g_nou (i := 8) (listed' := #[true, true, true, true, true, true, true, true, true, false, false, false, false, false, false, false, false]) rfl (by kernel_rfl) (by kernel_rfl) (by kernel_rfl) (by kernel_rfl) rfl rfl rfl hg (allc (List.Mem.head _) alln) ?_
      refine g_nou (i := 9) (listed' := #[true, true, true, true, true, true, true, true, true, true, false, false, false, false, false, false, false]) rfl (by kernel_rfl) (by kernel_rfl) (by kernel_rfl) (by kernel_rfl) rfl rfl rfl hg (allc (List.Mem.head _) alln) ?_
      refine g_nou (i := 10) (listed' := #[true, true, true, true, true, true, true, true, true, true, true, false, false, false, false, false, false]) rfl (by kernel_rfl) (by kernel_rfl) (by kernel_rfl) (by kernel_rfl) rfl rfl rfl hg (allc (List.Mem.head _) alln) ?_
      refine g_nou (i := 11) (listed' := #[true, true, true, true, true, true, true, true, true, true, true, true, false, false, false, false, false]) rfl (by kernel_rfl) (by kernel_rfl) (by kernel_rfl) (by kernel_rfl) rfl rfl rfl hg (allc (List.Mem.head _) alln) ?_
      refine g_nou (i := 12) (listed' := #[true, true, true, true, true, true, true, true, true, true, true, true, true, false, false, false, false]) rfl (by kernel_rfl) (by kernel_rfl) (by kernel_rfl) (by kernel_rfl) rfl rfl rfl hg (allc (List.Mem.head _) alln) ?_
      refine g_nou (i := 13) (listed' := #[true, true, true, true, true, true, true, true, true, true, true, true, true, true, false, false, false]) rfl (by kernel_rfl) (by kernel_rfl) (by kernel_rfl) (by kernel_rfl) rfl rfl rfl hg (allc (List.Mem.head _) alln) ?_
      refine g_nou (i := 14) (listed' := #[true, true, true, true, true, true, true, true, true, true, true, true, true, true, true, false, false]) rfl (by kernel_rfl) (by kernel_rfl) (by kernel_rfl) (by kernel_rfl) rfl rfl rfl hg (allc (List.Mem.head _) alln) ?_
      refine g_no (i := 15) (listed' := #[true, true, true, true, true, true, true, true, true, true, true, true, true, true, true, true, false]) rfl (by kernel_rfl) (by kernel_rfl) (by kernel_rfl) (by kernel_rfl) rfl rfl h1 rfl hg (allc (List.Mem.head _) alln) ?_
      refine g_y (i := 16) (listed' := #[true, true, true, true, true, true, true, true, true, true, true, true, true, true, true, true, true]) rfl (by kernel_rfl) (by kernel_rfl) (by kernel_rfl) (by kernel_rfl) rfl rfl hg (allc (List.Mem.head _) alln) (fun m' H' hm' hX' => y_pickt rfl h1 rfl) ?_
      refine g_done (by kernel_rfl) ?_
      clear hg hz_g
      refine hK7 _ _ _ ?_
      clear hK7 K7
      refine c_ift rfl rfl ?_
      refine c_seq (fun K8 hK8 => ?_)
      refine c_region ?_
      refine r_y rfl rfl (y_assign rfl) ?_
      refine r_nil ?_
      refine hK8 _ _ _ ?_
      clear hK8 K8
      refine c_ret ?_
      refine e_ret 1 hm (res_tmps rfl) ?_
      refine ⟨congrArg Value.bool ?_, rfl⟩
      refine (all_range_false (i := i) ?_ (by simp; omega)).symm
      simp_all [okAt]
      try omega
    ·
      refine g_yg (i := 4) (listed' := #[true, true, true, true, true, false, false, false, false, false, false, false, false, false, false, false, false]) rfl (by kernel_rfl) (by kernel_rfl) (by kernel_rfl) (by kernel_rfl) rfl rfl h1 rfl hg (allc (List.Mem.head _) alln) (fun m' H' hm' hX' => y_move rfl) ?_
      refine g_yg (i := 5) (listed' := #[true, true, true, true, true, true, false, false, false, false, false, false, false, false, false, false, false]) rfl (by kernel_rfl) (by kernel_rfl) (by kernel_rfl) (by kernel_rfl) rfl rfl h1 rfl hg (allc (List.Mem.head _) alln) (fun m' H' hm' hX' => y_iop rfl rfl rfl) ?_
      refine g_yg (i := 6) (listed' := #[true, true, true, true, true, true, true, false, false, false, false, false, false, false, false, false, false]) rfl (by kernel_rfl) (by kernel_rfl) (by kernel_rfl) (by kernel_rfl) rfl rfl h1 rfl hg (allc (List.Mem.head _) alln) (fun m' H' hm' hX' => y_move rfl) ?_
      refine g_split (j := 6) rfl (fun h2 => ?_) (fun h2 => ?_)
      ·
        have hi1 : 0 < i := by have := of_decide_eq_true ‹decide ((i : Int) > 0) = true›; omega
        have hlt3 : i - 1 < s.n := by omega
        obtain ⟨y, hy⟩ := get_of_lt (l := l) (k := i - 1) (by omega)
        refine g_yg (i := 7) (listed' := #[true, true, true, true, true, true, true, true, false, false, false, false, false, false, false, false, false]) rfl (by kernel_rfl) (by kernel_rfl) (by kernel_rfl) (by kernel_rfl) rfl rfl h2 rfl hg (allc (List.Mem.head _) alln) (fun m' H' hm' hX' => y_move rfl) ?_
        refine g_yg (i := 8) (listed' := #[true, true, true, true, true, true, true, true, true, false, false, false, false, false, false, false, false]) rfl (by kernel_rfl) (by kernel_rfl) (by kernel_rfl) (by kernel_rfl) rfl rfl h2 rfl hg (allc (List.Mem.head _) alln) (fun m' H' hm' hX' => y_move rfl) ?_
        refine g_yg (i := 9) (listed' := #[true, true, true, true, true, true, true, true, true, true, false, false, false, false, false, false, false]) rfl (by kernel_rfl) (by kernel_rfl) (by kernel_rfl) (by kernel_rfl) rfl rfl h2 rfl hg (allc (List.Mem.head _) alln) (fun m' H' hm' hX' => y_dec rfl hi1 (by omega)) ?_
        refine g_yg (i := 10) (listed' := #[true, true, true, true, true, true, true, true, true, true, true, false, false, false, false, false, false]) rfl (by kernel_rfl) (by kernel_rfl) (by kernel_rfl) (by kernel_rfl) rfl rfl h2 rfl hg (allc (List.Mem.head _) alln) (fun m' H' hm' hX' => y_indexAddr_slice rfl rfl tl33 hlt3 (At.fz (hz_g.fz.mono hm') hlt3)) ?_
        refine g_yg (i := 11) (listed' := #[true, true, true, true, true, true, true, true, true, true, true, true, false, false, false, false, false]) rfl (by kernel_rfl) (by kernel_rfl) (by kernel_rfl) (by kernel_rfl) rfl rfl h2 rfl hg (allc (List.Mem.head _) alln) (fun m' H' hm' hX' => y_load_a rfl ts50 (RdA.fz0 (hz_g.fz.mono hm') (map_get hy))) ?_
        refine g_yg (i := 12) (listed' := #[true, true, true, true, true, true, true, true, true, true, true, true, true, false, false, false, false]) rfl (by kernel_rfl) (by kernel_rfl) (by kernel_rfl) (by kernel_rfl) rfl rfl h2 rfl hg (allc (List.Mem.head _) alln) (fun m' H' hm' hX' => y_load_a (cs := encRule x.1 x.2) rfl ts50 (RdA.mem (hX' _ (List.Mem.head _)) rfl)) ?_
        refine g_sg (i := 13) (listed' := #[true, true, true, true, true, true, true, true, true, true, true, true, true, true, false, false, false]) rfl (by kernel_rfl) (by kernel_rfl) rfl rfl h2 ?_
        refine s_call0 rfl Try.call128 rfl (ruleBefore_ok y.1 x.1 y.2 x.2 _ _) ?_
        rintro _ m2 _ hm2 ⟨rfl, rfl⟩
        replace hm := hm.trans hm2
        refine ⟨⟨hg.trans hm2, (allc (List.Mem.head _) alln)⟩, ?_⟩
        replace hg := hg.trans hm2
        replace hz := hz.mono hm2
        clear hm2
        refine g_yg (i := 14) (listed' := #[true, true, true, true, true, true, true, true, true, true, true, true, true, true, true, false, false]) rfl (by kernel_rfl) (by kernel_rfl) (by kernel_rfl) (by kernel_rfl) rfl rfl h2 rfl hg (allc (List.Mem.head _) alln) (fun m' H' hm' hX' => y_not rfl) ?_
        refine g_yg (i := 15) (listed' := #[true, true, true, true, true, true, true, true, true, true, true, true, true, true, true, true, false]) rfl (by kernel_rfl) (by kernel_rfl) (by kernel_rfl) (by kernel_rfl) rfl rfl h1 rfl hg (allc (List.Mem.head _) alln) (fun m' H' hm' hX' => y_pickt rfl h2 rfl) ?_
        refine g_y (i := 16) (listed' := #[true, true, true, true, true, true, true, true, true, true, true, true, true, true, true, true, true]) rfl (by kernel_rfl) (by kernel_rfl) (by kernel_rfl) (by kernel_rfl) rfl rfl hg (allc (List.Mem.head _) alln) (fun m' H' hm' hX' => y_pickf rfl h1 rfl) ?_
        refine g_done (by kernel_rfl) ?_
        clear hg hz_g
        refine hK7 _ _ _ ?_
        clear hK7 K7
        refine c_cond rfl (fun h3 => ?_) (fun h3 => ?_)
        ·
          refine c_seq (fun K9 hK9 => ?_)
          refine c_region ?_
          refine r_y rfl rfl (y_assign rfl) ?_
          refine r_nil ?_
          refine hK9 _ _ _ ?_
          clear hK9 K9
          refine c_ret ?_
          refine e_ret 1 hm (res_tmps rfl) ?_
          refine ⟨congrArg Value.bool ?_, rfl⟩
          refine (all_range_false (i := i) ?_ (by simp; omega)).symm
          simp_all [okAt]
          try omega
        ·
          refine c_skip ?_
          refine hK5 _ _ _ ?_
          clear hK5 K5
          refine c_region ?_
          refine r_del 0 rfl ?_
          first | refine r_y rfl rfl (y_inc rfl (by omega)) ?_ | refine r_y rfl rfl (y_iop rfl rfl rfl) ?_
          refine r_y rfl rfl (y_move rfl) ?_
          refine r_nil ?_
          exact ⟨k0 - 1, (i + 1), by omega, ⟨rfl, rfl, rfl, rfl, trivial⟩, rfl, ⟨by omega, by rw [all_range_succ, hinv]; simp_all [okAt]⟩, hm, hz⟩
      ·
        refine g_no (i := 7) (listed' := #[true, true, true, true, true, true, true, true, false, false, false, false, false, false, false, false, false]) rfl (by kernel_rfl) (by kernel_rfl) (by kernel_rfl) (by kernel_rfl) rfl rfl h2 rfl hg (allc (List.Mem.head _) alln) ?_
        refine g_no (i := 8) (listed' := #[true, true, true, true, true, true, true, true, true, false, false, false, false, false, false, false, false]) rfl (by kernel_rfl) (by kernel_rfl) (by kernel_rfl) (by kernel_rfl) rfl rfl h2 rfl hg (allc (List.Mem.head _) alln) ?_
        refine g_no (i := 9) (listed' := #[true, true, true, true, true, true, true, true, true, true, false, false, false, false, false, false, false]) rfl (by kernel_rfl) (by kernel_rfl) (by kernel_rfl) (by kernel_rfl) rfl rfl h2 rfl hg (allc (List.Mem.head _) alln) ?_
        refine g_no (i := 10) (listed' := #[true, true, true, true, true, true, true, true, true, true, true, false, false, false, false, false, false]) rfl (by kernel_rfl) (by kernel_rfl) (by kernel_rfl) (by kernel_rfl) rfl rfl h2 rfl hg (allc (List.Mem.head _) alln) ?_
        refine g_no (i := 11) (listed' := #[true, true, true, true, true, true, true, true, true, true, true, true, false, false, false, false, false]) rfl (by kernel_rfl) (by kernel_rfl) (by kernel_rfl) (by kernel_rfl) rfl rfl h2 rfl hg (allc (List.Mem.head _) alln) ?_
        refine g_no (i := 12) (listed' := #[true, true, true, true, true, true, true, true, true, true, true, true, true, false, false, false, false]) rfl (by kernel_rfl) (by kernel_rfl) (by kernel_rfl) (by kernel_rfl) rfl rfl h2 rfl hg (allc (List.Mem.head _) alln) ?_
        refine g_no (i := 13) (listed' := #[true, true, true, true, true, true, true, true, true, true, true, true, true, true, false, false, false]) rfl (by kernel_rfl) (by kernel_rfl) (by kernel_rfl) (by kernel_rfl) rfl rfl h2 rfl hg (allc (List.Mem.head _) alln) ?_
        refine g_no (i := 14) (listed' := #[true, true, true, true, true, true, true, true, true, true, true, true, true, true, true, false, false]) rfl (by kernel_rfl) (by kernel_rfl) (by kernel_rfl) (by kernel_rfl) rfl rfl h2 rfl hg (allc (List.Mem.head _) alln) ?_
        refine g_yg (i := 15) (listed' := #[true, true, true, true, true, true, true, true, true, true, true, true, true, true, true, true, false]) rfl (by kernel_rfl) (by kernel_rfl) (by kernel_rfl) (by kernel_rfl) rfl rfl h1 rfl hg (allc (List.Mem.head _) alln) (fun m' H' hm' hX' => y_pickf rfl h2 rfl) ?_
        refine g_y (i := 16) (listed' := #[true, true, true, true, true, true, true, true, true, true, true, true, true, true, true, true, true]) rfl (by kernel_rfl) (by kernel_rfl) (by kernel_rfl) (by kernel_rfl) rfl rfl hg (allc (List.Mem.head _) alln) (fun m' H' hm' hX' => y_pickf rfl h1 rfl) ?_
        refine g_done (by kernel_rfl) ?_
        clear hg hz_g
        refine hK7 _ _ _ ?_
        clear hK7 K7
        refine c_iff rfl rfl ?_
        refine c_skip ?_
        refine hK5 _ _ _ ?_
        clear hK5 K5
        refine c_region ?_
        refine r_del 0 rfl ?_
        first | refine r_y rfl rfl (y_inc rfl (by omega)) ?_ | refine r_y rfl rfl (y_iop rfl rfl rfl) ?_
        refine r_y rfl rfl (y_move rfl) ?_
        refine r_nil ?_
        exact ⟨k0 - 1, (i + 1), by omega, ⟨rfl, rfl, rfl, rfl, trivial⟩, rfl, ⟨by omega, by rw [all_range_succ, hinv]; simp_all [okAt]⟩, hm, hz⟩
  ·
    refine c_exit ?_
    refine hK1 _ _ _ ?_
    clear hK4 K4 hK1 K1
    refine c_seq (fun K10 hK10 => ?_)
    refine c_region ?_
    refine r_y rfl rfl (y_assign rfl) ?_
    refine r_nil ?_
    refine hK10 _ _ _ ?_
    clear hK10 K10
    refine c_ret ?_
    refine e_ret 0 hm (res_tmps rfl) ?_
    refine ⟨congrArg Value.bool ?_, rfl⟩
    have hie : i = s.n := by simp at h0; omega
    rw [ruleTable]; simp; rw [← hl, ← hie]; simpa using hinv
end Go.Aw
namespace Go.Aw
open Go Go.Proofs
theorem tl22 : tslice Try.prog 22 = some (5, 1) := by kernel_rfl
theorem ts5 : tshape Try.prog 5 = some (false, 1) := by kernel_rfl
theorem un5 : Try.prog.underlying 5 = some (.int .u8) := by kernel_rfl
theorem un3 : Try.prog.underlying 3 = some (.int .i64) := by kernel_rfl
theorem tz29 : tzero Try.prog 29 = some [.int .u64 0, .int .u64 0, .int .u64 0, .int .u64 0, .int .u64 0, .int .u64 0, .int .u64 0, .int .u64 0, .int .u64 0, .int .u64 0, .int .u64 0, .int .u64 0, .int .u64 0, .int .u64 0, .int .u64 0, .int .u64 0, .int .u64 0, .int .u64 0, .int .u64 0, .int .u64 0, .int .u64 0, .int .u64 0, .int .u64 0, .int .u64 0] := by kernel_rfl
theorem fk29 : fieldsKnown Try.prog 29 = true := by kernel_rfl
theorem zo53 : zeroOk Try.prog 53 = true := by kernel_rfl
theorem tb53 : tbytes Try.prog 53 = some 32 := by kernel_rfl
theorem fk50 : fieldsKnown Try.prog 50 = true := by kernel_rfl
theorem zo50 : zeroOk Try.prog 50 = true := by kernel_rfl
theorem tb50 : tbytes Try.prog 50 = some 272 := by kernel_rfl
end Go.Aw
namespace Go.Aw
open Go Go.Proofs
theorem zo5 : zeroOk Try.prog 5 = true := by kernel_rfl
theorem tb5 : tbytes Try.prog 5 = some 1 := by kernel_rfl
end Go.Aw
namespace Go.Aw
open Go Go.Proofs
theorem us22 : Try.prog.underlying 22 = some (.slice 5) := by kernel_rfl
theorem ut9 : Try.prog.underlying 9 = some .string := by kernel_rfl
end Go.Aw
namespace Go.Aw
open Go Go.Proofs
theorem un158 : Try.prog.underlying 158 = some (.int .u64) := by kernel_rfl
set_option maxRecDepth 100000 in
theorem rSameActs_w (s1 s2 : Sl) (l1 l2 : List ActD) (m : Snap) (H : Hp) (hz1 : FzA m s1 l1) (hz2 : FzA m s2 l2) : Fn Try.prog 100 [s1.v, s2.v] m H (fun v _ H' => v = .bool (decide (l1 = l2)) ∧ H' = H) := by
  have hm : m.le m := Snap.le.refl m
  refine fn_end Try.func100 rfl rfl rfl ?_
  refine c_seq (fun K0 hK0 => ?_)
  refine c_region ?_
  refine r_y rfl rfl (y_assign rfl) ?_
  refine r_nil ?_
  refine hK0 _ _ _ ?_
  clear hK0 K0
  refine c_seq (fun K1 hK1 => ?_)
  refine c_seq (fun K2 hK2 => ?_)
  refine c_region ?_
  refine r_y rfl rfl (y_move rfl) ?_
  refine r_y rfl rfl (y_len tl30 rfl) ?_
  refine r_y rfl rfl (y_move rfl) ?_
  refine r_y rfl rfl (y_len tl30 rfl) ?_
  refine r_y rfl rfl (y_iop rfl rfl rfl) ?_
  refine r_nil ?_
  refine hK2 _ _ _ ?_
  clear hK2 K2
  refine c_cond rfl (fun h0 => ?_) (fun h0 => ?_)
  ·
    refine c_seq (fun K3 hK3 => ?_)
    refine c_region ?_
    refine r_y rfl rfl (y_assign rfl) ?_
    refine r_nil ?_
    refine hK3 _ _ _ ?_
    clear hK3 K3
    refine c_ret ?_
    refine e_ret 0 hm (res_tmps rfl) ?_
    refine ⟨congrArg Value.bool ?_, rfl⟩
    have hl1 := hz1.lenA; have hl2 := hz2.lenA
    have : s1.n ≠ s2.n := by simp at h0; omega
    exact (decide_eq_false (by rintro rfl; omega)).symm
  ·
    have hl1 := hz1.lenA
    have hl2 := hz2.lenA
    have hne : s1.n = s2.n := by simp at h0; omega
    have hmx := hz1.max
    have hle := hz1.le
    unfold maxLen at hmx
    refine c_skip ?_
    refine hK1 _ _ _ ?_
    clear hK1 K1
    refine c_seq (fun K4 hK4 => ?_)
    refine c_seq (fun K5 hK5 => ?_)
    refine c_region ?_
    refine r_y rfl rfl (y_assign rfl) ?_
    refine r_nil ?_
    refine hK5 _ _ _ ?_
    clear hK5 K5
    refine c_block ?_
    refine c_loopx (α := Nat) (fun i => [(0, s1.v), (1, s2.v), (5, .int .i64 (i : Nat))]) (fun i => H) (fun k0 i m1 => (i + k0 = s1.n ∧ l1.take i = l2.take i) ∧ m.le m1 ∧ (FzA m1 s1 l1) ∧ (FzA m1 s2 l2)) (s1.n) 0 ⟨rfl, rfl, rfl, trivial⟩ rfl ⟨⟨by omega, rfl⟩, hm, hz1, hz2⟩ ?_
    clear hm hz1 hz2
    rintro k0 i m1 ⟨hi0, hm, hz1, hz2⟩
    obtain ⟨hi, hinv⟩ := hi0
    refine c_seq (fun K6 hK6 => ?_)
    refine c_seq (fun K7 hK7 => ?_)
    refine c_region ?_
    refine r_y rfl rfl (y_move rfl) ?_
    refine r_y rfl rfl (y_move rfl) ?_
    refine r_y rfl rfl (y_len tl30 rfl) ?_
    refine r_y rfl rfl (y_iop rfl rfl rfl) ?_
    refine r_nil ?_
    refine hK7 _ _ _ ?_
    clear hK7 K7
    refine c_cond rfl (fun h1 => ?_) (fun h1 => ?_)
    ·
      have hlt1 : i < s1.n := by simp at h1; omega
      have hlt2 : i < s2.n := by omega
      obtain ⟨x1, hx1⟩ := get_of_lt (l := l1) (k := i) (by omega)
      obtain ⟨x2, hx2⟩ := get_of_lt (l := l2) (k := i) (by omega)
      refine c_skip ?_
      refine hK6 _ _ _ ?_
      clear hK6 K6
      refine c_seq (fun K8 hK8 => ?_)
      refine c_block ?_
      refine c_seq (fun K9 hK9 => ?_)
      refine c_draw ([]) (by kernel_rfl) (fun hg => ?_)
      have hz1_g := hz1
      have hz2_g := hz2
      refine g_y (i := 0) (listed' := #[true, false, false, false, false, false, false, false, false]) rfl (by kernel_rfl) (by kernel_rfl) (by kernel_rfl) (by kernel_rfl) rfl rfl hg alln (fun m' H' hm' hX' => y_move rfl) ?_
      refine g_y (i := 1) (listed' := #[true, true, false, false, false, false, false, false, false]) rfl (by kernel_rfl) (by kernel_rfl) (by kernel_rfl) (by kernel_rfl) rfl rfl hg alln (fun m' H' hm' hX' => y_move rfl) ?_
      refine g_y (i := 2) (listed' := #[true, true, true, false, false, false, false, false, false]) rfl (by kernel_rfl) (by kernel_rfl) (by kernel_rfl) (by kernel_rfl) rfl rfl hg alln (fun m' H' hm' hX' => y_indexAddr_slice rfl rfl tl30 hlt1 (At.fz (hz1_g.mono hm') hlt1)) ?_
      refine g_y (i := 3) (listed' := #[true, true, true, true, false, false, false, false, false]) rfl (by kernel_rfl) (by kernel_rfl) (by kernel_rfl) (by kernel_rfl) rfl rfl hg alln (fun m' H' hm' hX' => y_load_a rfl ts53 (RdA.fz0 (hz1_g.mono hm') (map_get hx1))) ?_
      refine g_y (i := 4) (listed' := #[true, true, true, true, true, false, false, false, false]) rfl (by kernel_rfl) (by kernel_rfl) (by kernel_rfl) (by kernel_rfl) rfl rfl hg alln (fun m' H' hm' hX' => y_move rfl) ?_
      refine g_y (i := 5) (listed' := #[true, true, true, true, true, true, false, false, false]) rfl (by kernel_rfl) (by kernel_rfl) (by kernel_rfl) (by kernel_rfl) rfl rfl hg alln (fun m' H' hm' hX' => y_move rfl) ?_
      refine g_y (i := 6) (listed' := #[true, true, true, true, true, true, true, false, false]) rfl (by kernel_rfl) (by kernel_rfl) (by kernel_rfl) (by kernel_rfl) rfl rfl hg alln (fun m' H' hm' hX' => y_indexAddr_slice rfl rfl tl30 hlt2 (At.fz (hz2_g.mono hm') hlt2)) ?_
      refine g_y (i := 7) (listed' := #[true, true, true, true, true, true, true, true, false]) rfl (by kernel_rfl) (by kernel_rfl) (by kernel_rfl) (by kernel_rfl) rfl rfl hg alln (fun m' H' hm' hX' => y_load_a rfl ts53 (RdA.fz0 (hz2_g.mono hm') (map_get hx2))) ?_
      refine g_y (i := 8) (listed' := #[true, true, true, true, true, true, true, true, true]) rfl (by kernel_rfl) (by kernel_rfl) (by kernel_rfl) (by kernel_rfl) rfl rfl hg alln (fun m' H' hm' hX' => y_neagg (dd := 6)  rfl rfl en53 ia53 rfl Try.eqGuardType53 rfl (alike_act _ _)) ?_
      refine g_done (by kernel_rfl) ?_
      clear hg hz1_g hz2_g
      refine hK9 _ _ _ ?_
      clear hK9 K9
      refine c_cond rfl (fun h2 => ?_) (fun h2 => ?_)
      ·
        refine c_seq (fun K10 hK10 => ?_)
        refine c_region ?_
        refine r_y rfl rfl (y_assign rfl) ?_
        refine r_nil ?_
        refine hK10 _ _ _ ?_
        clear hK10 K10
        refine c_ret ?_
        refine e_ret 0 hm (res_tmps rfl) ?_
        refine ⟨congrArg Value.bool ?_, rfl⟩
        refine (decide_eq_false ?_).symm
        rintro rfl
        rw [hx1] at hx2; cases hx2
        simp [ceq_act] at h2
      ·
        refine c_skip ?_
        refine hK8 _ _ _ ?_
        clear hK8 K8
        refine c_region ?_
        refine r_y rfl rfl (y_move rfl) ?_
        first | refine r_y rfl rfl (y_inc rfl (by omega)) ?_ | refine r_y rfl rfl (y_iop rfl rfl rfl) ?_
        refine r_y rfl rfl (y_assign rfl) ?_
        refine r_nil ?_
        exact ⟨k0 - 1, (i + 1), by omega, ⟨rfl, rfl, rfl, trivial⟩, rfl, ⟨by omega, by rw [List.take_add_one, List.take_add_one, hinv, hx1, hx2]; simp only [ceq_act] at h2; simpa using h2⟩, hm, hz1, hz2⟩
    ·
      refine c_exit ?_
      refine hK4 _ _ _ ?_
      clear hK6 K6 hK4 K4
      refine c_seq (fun K11 hK11 => ?_)
      refine c_region ?_
      refine r_y rfl rfl (y_assign rfl) ?_
      refine r_nil ?_
      refine hK11 _ _ _ ?_
      clear hK11 K11
      refine c_ret ?_
      refine e_ret 0 hm (res_tmps rfl) ?_
      refine ⟨congrArg Value.bool ?_, rfl⟩
      have hie : i = s1.n := by simp at h1; omega
      refine (decide_eq_true ?_).symm
      rw [List.take_of_length_le (by omega), List.take_of_length_le (by omega)] at hinv
      exact hinv
set_option maxRecDepth 100000 in
theorem rKey_w (a b : RuleD) (s1 s2 : Sl) (m : Snap) (H : Hp) : Fn Try.prog 85 [.agg (encRule a s1).toArray, .agg (encRule b s2).toArray] m H (fun v _ H' => v = .bool (decide (a.m = b.m) && (a.prio == b.prio)) ∧ H' = H) := by
  have hm : m.le m := Snap.le.refl m
  refine fn_end Try.func85 rfl rfl rfl ?_
  refine c_seq (fun K0 hK0 => ?_)
  refine c_region ?_
  refine r_s rfl ?_
  refine s_box_a rfl rfl (fun b0 => ?_)
  refine r_s rfl ?_
  refine s_box_a rfl rfl (fun b1 => ?_)
  refine r_y rfl rfl (y_assign rfl) ?_
  refine r_nil ?_
  refine hK0 _ _ _ ?_
  clear hK0 K0
  refine c_seq (fun K1 hK1 => ?_)
  refine c_region ?_
  refine r_y rfl rfl (y_fieldAddr rfl At.lit fo50_0 rfl) ?_
  refine r_y rfl rfl (y_load_a (cs := encCube a.m) rfl ts29 (RdA.blk (i := 1) rfl rfl)) ?_
  refine r_y rfl rfl (y_fieldAddr rfl At.lit fo50_0 rfl) ?_
  refine r_y rfl rfl (y_load_a (cs := encCube b.m) rfl ts29 (RdA.blk (i := 0) rfl rfl)) ?_
  refine r_y rfl rfl (y_eqagg (dd := 6)  rfl rfl en29 ia29 rfl Try.eqGuardType29 rfl (alike_cube a.m b.m)) ?_
  refine r_y rfl rfl (y_move rfl) ?_
  refine r_split (j := 5) rfl (fun h0 => ?_) (fun h0 => ?_)
  ·
    refine r_yg rfl h0 rfl (y_fieldAddr rfl At.lit fo50_1 rfl) ?_
    refine r_yg rfl h0 rfl (y_load_s rfl ts3 (RdS.blk (i := 1) rfl rfl)) ?_
    refine r_yg rfl h0 rfl (y_fieldAddr rfl At.lit fo50_1 rfl) ?_
    refine r_yg rfl h0 rfl (y_load_s rfl ts3 (RdS.blk (i := 0) rfl rfl)) ?_
    refine r_yg rfl h0 rfl (y_iop rfl rfl rfl) ?_
    refine r_y rfl rfl (y_pickt rfl h0 rfl) ?_
    refine r_y rfl rfl (y_assign rfl) ?_
    refine r_nil ?_
    refine hK1 _ _ _ ?_
    clear hK1 K1
    refine c_ret ?_
    refine e_ret 2 hm (res_tmps rfl) ?_
    refine ⟨congrArg Value.bool ?_, rfl⟩
    first | (simp_all [ceq_cube]; done) | (simp_all [ceq_cube]; omega) | (simp_all [ceq_cube]; intros; omega) | (rw [Bool.eq_iff_iff]; simp_all [ceq_cube]; done)
  ·
    refine r_no' rfl rfl h0 ?_
    refine r_no' rfl rfl h0 ?_
    refine r_no' rfl rfl h0 ?_
    refine r_no' rfl rfl h0 ?_
    refine r_no' rfl rfl h0 ?_
    refine r_y rfl rfl (y_pickf rfl h0 rfl) ?_
    refine r_y rfl rfl (y_assign rfl) ?_
    refine r_nil ?_
    refine hK1 _ _ _ ?_
    clear hK1 K1
    refine c_ret ?_
    refine e_ret 2 hm (res_tmps rfl) ?_
    refine ⟨congrArg Value.bool ?_, rfl⟩
    first | (simp_all [ceq_cube]; done) | (simp_all [ceq_cube]; omega) | (simp_all [ceq_cube]; intros; omega) | (rw [Bool.eq_iff_iff]; simp_all [ceq_cube]; done)
set_option maxRecDepth 100000 in
theorem rEqual_w (a b : RuleD) (s1 s2 : Sl) (m : Snap) (H : Hp) (hz1 : FzA m s1 a.acts) (hz2 : FzA m s2 b.acts) : Fn Try.prog 89 [.agg (encRule a s1).toArray, .agg (encRule b s2).toArray] m H (fun v _ H' => v = .bool (decide (a = b)) ∧ H' = H) := by
  have hm : m.le m := Snap.le.refl m
  refine fn_end Try.func89 rfl rfl rfl ?_
  refine c_seq (fun K0 hK0 => ?_)
  refine c_region ?_
  refine r_s rfl ?_
  refine s_box_a rfl rfl (fun b0 => ?_)
  refine r_s rfl ?_
  refine s_box_a rfl rfl (fun b1 => ?_)
  refine r_y rfl rfl (y_assign rfl) ?_
  refine r_nil ?_
  refine hK0 _ _ _ ?_
  clear hK0 K0
  refine c_seq (fun K1 hK1 => ?_)
  refine c_region ?_
  refine r_y rfl rfl (y_load_a (cs := encRule a s1) rfl ts50 (RdA.blk (i := 1) rfl rfl)) ?_
  refine r_y rfl rfl (y_load_a (cs := encRule b s2) rfl ts50 (RdA.blk (i := 0) rfl rfl)) ?_
  refine r_s rfl ?_
  refine s_call0 rfl Try.call85 rfl (rKey_w a b s1 s2 _ _) ?_
  rintro _ m2 _ hm2 ⟨rfl, rfl⟩
  replace hm := hm.trans hm2
  replace hz1 := hz1.mono hm2
  replace hz2 := hz2.mono hm2
  clear hm2
  refine r_y rfl rfl (y_move rfl) ?_
  refine r_split (j := 3) rfl (fun h0 => ?_) (fun h0 => ?_)
  ·
    refine r_yg rfl h0 rfl (y_fieldAddr rfl At.lit fo50_2 rfl) ?_
    refine r_yg rfl h0 rfl (y_load_s rfl ts30 (RdS.blk (i := 1) rfl rfl)) ?_
    refine r_yg rfl h0 rfl (y_fieldAddr rfl At.lit fo50_2 rfl) ?_
    refine r_yg rfl h0 rfl (y_load_s rfl ts30 (RdS.blk (i := 0) rfl rfl)) ?_
    refine r_sg rfl h0 ?_
    refine s_call0 rfl Try.call100 rfl (rSameActs_w s1 s2 a.acts b.acts _ _ hz1 hz2) ?_
    rintro _ m2 _ hm2 ⟨rfl, rfl⟩
    replace hm := hm.trans hm2
    replace hz1 := hz1.mono hm2
    replace hz2 := hz2.mono hm2
    clear hm2
    refine r_y rfl rfl (y_pickt rfl h0 rfl) ?_
    refine r_y rfl rfl (y_move rfl) ?_
    refine r_split (j := 10) rfl (fun h1 => ?_) (fun h1 => ?_)
    ·
      refine r_yg rfl h1 rfl (y_fieldAddr rfl At.lit fo50_3 rfl) ?_
      refine r_yg rfl h1 rfl (y_load_s rfl ts3 (RdS.blk (i := 1) rfl rfl)) ?_
      refine r_yg rfl h1 rfl (y_fieldAddr rfl At.lit fo50_3 rfl) ?_
      refine r_yg rfl h1 rfl (y_load_s rfl ts3 (RdS.blk (i := 0) rfl rfl)) ?_
      refine r_yg rfl h1 rfl (y_iop rfl rfl rfl) ?_
      refine r_y rfl rfl (y_pickt rfl h1 rfl) ?_
      refine r_y rfl rfl (y_move rfl) ?_
      refine r_split (j := 17) rfl (fun h2 => ?_) (fun h2 => ?_)
      ·
        refine r_yg rfl h2 rfl (y_fieldAddr rfl At.lit fo50_4 rfl) ?_
        refine r_yg rfl h2 rfl (y_load_s rfl ts3 (RdS.blk (i := 1) rfl rfl)) ?_
        refine r_yg rfl h2 rfl (y_fieldAddr rfl At.lit fo50_4 rfl) ?_
        refine r_yg rfl h2 rfl (y_load_s rfl ts3 (RdS.blk (i := 0) rfl rfl)) ?_
        refine r_yg rfl h2 rfl (y_iop rfl rfl rfl) ?_
        refine r_y rfl rfl (y_pickt rfl h2 rfl) ?_
        refine r_y rfl rfl (y_move rfl) ?_
        refine r_split (j := 24) rfl (fun h3 => ?_) (fun h3 => ?_)
        ·
          refine r_yg rfl h3 rfl (y_fieldAddr rfl At.lit fo50_5 rfl) ?_
          refine r_yg rfl h3 rfl (y_load_s rfl ts3 (RdS.blk (i := 1) rfl rfl)) ?_
          refine r_yg rfl h3 rfl (y_fieldAddr rfl At.lit fo50_5 rfl) ?_
          refine r_yg rfl h3 rfl (y_load_s rfl ts3 (RdS.blk (i := 0) rfl rfl)) ?_
          refine r_yg rfl h3 rfl (y_iop rfl rfl rfl) ?_
          refine r_y rfl rfl (y_pickt rfl h3 rfl) ?_
          refine r_y rfl rfl (y_move rfl) ?_
          refine r_split (j := 31) rfl (fun h4 => ?_) (fun h4 => ?_)
          ·
            refine r_yg rfl h4 rfl (y_fieldAddr rfl At.lit fo50_6 rfl) ?_
            refine r_yg rfl h4 rfl (y_load_s rfl ts3 (RdS.blk (i := 1) rfl rfl)) ?_
            refine r_yg rfl h4 rfl (y_fieldAddr rfl At.lit fo50_6 rfl) ?_
            refine r_yg rfl h4 rfl (y_load_s rfl ts3 (RdS.blk (i := 0) rfl rfl)) ?_
            refine r_yg rfl h4 rfl (y_iop rfl rfl rfl) ?_
            refine r_y rfl rfl (y_pickt rfl h4 rfl) ?_
            refine r_y rfl rfl (y_move rfl) ?_
            refine r_split (j := 38) rfl (fun h5 => ?_) (fun h5 => ?_)
            ·
              refine r_yg rfl h5 rfl (y_fieldAddr rfl At.lit fo50_7 rfl) ?_
              refine r_yg rfl h5 rfl (y_load_s rfl ts3 (RdS.blk (i := 1) rfl rfl)) ?_
              refine r_yg rfl h5 rfl (y_fieldAddr rfl At.lit fo50_7 rfl) ?_
              refine r_yg rfl h5 rfl (y_load_s rfl ts3 (RdS.blk (i := 0) rfl rfl)) ?_
              refine r_yg rfl h5 rfl (y_iop rfl rfl rfl) ?_
              refine r_y rfl rfl (y_pickt rfl h5 rfl) ?_
              refine r_y rfl rfl (y_move rfl) ?_
              refine r_split (j := 45) rfl (fun h6 => ?_) (fun h6 => ?_)
              ·
                refine r_yg rfl h6 rfl (y_fieldAddr rfl At.lit fo50_8 rfl) ?_
                refine r_yg rfl h6 rfl (y_load_s rfl ts3 (RdS.blk (i := 1) rfl rfl)) ?_
                refine r_yg rfl h6 rfl (y_fieldAddr rfl At.lit fo50_8 rfl) ?_
                refine r_yg rfl h6 rfl (y_load_s rfl ts3 (RdS.blk (i := 0) rfl rfl)) ?_
                refine r_yg rfl h6 rfl (y_iop rfl rfl rfl) ?_
                refine r_y rfl rfl (y_pickt rfl h6 rfl) ?_
                refine r_y rfl rfl (y_assign rfl) ?_
                refine r_nil ?_
                refine hK1 _ _ _ ?_
                clear hK1 K1
                refine c_ret ?_
                refine e_ret 2 hm (res_tmps rfl) ?_
                cases a; cases b
                refine ⟨congrArg Value.bool ?_, rfl⟩
                first | (simp_all [ceq_cube]; done) | (simp_all [ceq_cube]; omega) | (simp_all [ceq_cube]; intros; omega) | (rw [Bool.eq_iff_iff]; simp_all [ceq_cube]; done)
              ·
                refine r_no' rfl rfl h6 ?_
                refine r_no' rfl rfl h6 ?_
                refine r_no' rfl rfl h6 ?_
                refine r_no' rfl rfl h6 ?_
                refine r_no' rfl rfl h6 ?_
                refine r_y rfl rfl (y_pickf rfl h6 rfl) ?_
                refine r_y rfl rfl (y_assign rfl) ?_
                refine r_nil ?_
                refine hK1 _ _ _ ?_
                clear hK1 K1
                refine c_ret ?_
                refine e_ret 2 hm (res_tmps rfl) ?_
                cases a; cases b
                refine ⟨congrArg Value.bool ?_, rfl⟩
                first | (simp_all [ceq_cube]; done) | (simp_all [ceq_cube]; omega) | (simp_all [ceq_cube]; intros; omega) | (rw [Bool.eq_iff_iff]; simp_all [ceq_cube]; done)
            ·
              refine r_no' rfl rfl h5 ?_
              refine r_no' rfl rfl h5 ?_
              refine r_no' rfl rfl h5 ?_
              refine r_no' rfl rfl h5 ?_
              refine r_no' rfl rfl h5 ?_
              refine r_y rfl rfl (y_pickf rfl h5 rfl) ?_
              refine r_y rfl rfl (y_move rfl) ?_
              refine r_no' rfl rfl rfl ?_
              refine r_no' rfl rfl rfl ?_
              refine r_no' rfl rfl rfl ?_
              refine r_no' rfl rfl rfl ?_
              refine r_no' rfl rfl rfl ?_
              refine r_y rfl rfl (y_pickf rfl rfl rfl) ?_
              refine r_y rfl rfl (y_assign rfl) ?_
              refine r_nil ?_
              refine hK1 _ _ _ ?_
              clear hK1 K1
              refine c_ret ?_
              refine e_ret 2 hm (res_tmps rfl) ?_
              cases a; cases b
              refine ⟨congrArg Value.bool ?_, rfl⟩
              first | (simp_all [ceq_cube]; done) | (simp_all [ceq_cube]; omega) | (simp_all [ceq_cube]; intros; omega) | (rw [Bool.eq_iff_iff]; simp_all [ceq_cube]; done)
          ·
            refine r_no' rfl rfl h4 ?_
            refine r_no' rfl rfl h4 ?_
            refine r_no' rfl rfl h4 ?_
            refine r_no' rfl rfl h4 ?_
            refine r_no' rfl rfl h4 ?_
            refine r_y rfl rfl (y_pickf rfl h4 rfl) ?_
            refine r_y rfl rfl (y_move rfl) ?_
            refine r_no' rfl rfl rfl ?_
            refine r_no' rfl rfl rfl ?_
            refine r_no' rfl rfl rfl ?_
            refine r_no' rfl rfl rfl ?_
            refine r_no' rfl rfl rfl ?_
            refine r_y rfl rfl (y_pickf rfl rfl rfl) ?_
            refine r_y rfl rfl (y_move rfl) ?_
            refine r_no' rfl rfl rfl ?_
            refine r_no' rfl rfl rfl ?_
            refine r_no' rfl rfl rfl ?_
            refine r_no' rfl rfl rfl ?_
            refine r_no' rfl rfl rfl ?_
            refine r_y rfl rfl (y_pickf rfl rfl rfl) ?_
            refine r_y rfl rfl (y_assign rfl) ?_
            refine r_nil ?_
            refine hK1 _ _ _ ?_
            clear hK1 K1
            refine c_ret ?_
            refine e_ret 2 hm (res_tmps rfl) ?_
            cases a; cases b
            refine ⟨congrArg Value.bool ?_, rfl⟩
            first | (simp_all [ceq_cube]; done) | (simp_all [ceq_cube]; omega) | (simp_all [ceq_cube]; intros; omega) | (rw [Bool.eq_iff_iff]; simp_all [ceq_cube]; done)
        ·
          refine r_no' rfl rfl h3 ?_
          refine r_no' rfl rfl h3 ?_
          refine r_no' rfl rfl h3 ?_
          refine r_no' rfl rfl h3 ?_
          refine r_no' rfl rfl h3 ?_
          refine r_y rfl rfl (y_pickf rfl h3 rfl) ?_
          refine r_y rfl rfl (y_move rfl) ?_
          refine r_no' rfl rfl rfl ?_
          refine r_no' rfl rfl rfl ?_
          refine r_no' rfl rfl rfl ?_
          refine r_no' rfl rfl rfl ?_
          refine r_no' rfl rfl rfl ?_
          refine r_y rfl rfl (y_pickf rfl rfl rfl) ?_
          refine r_y rfl rfl (y_move rfl) ?_
          refine r_no' rfl rfl rfl ?_
          refine r_no' rfl rfl rfl ?_
          refine r_no' rfl rfl rfl ?_
          refine r_no' rfl rfl rfl ?_
          refine r_no' rfl rfl rfl ?_
          refine r_y rfl rfl (y_pickf rfl rfl rfl) ?_
          refine r_y rfl rfl (y_move rfl) ?_
          refine r_no' rfl rfl rfl ?_
          refine r_no' rfl rfl rfl ?_
          refine r_no' rfl rfl rfl ?_
          refine r_no' rfl rfl rfl ?_
          refine r_no' rfl rfl rfl ?_
          refine r_y rfl rfl (y_pickf rfl rfl rfl) ?_
          refine r_y rfl rfl (y_assign rfl) ?_
          refine r_nil ?_
          refine hK1 _ _ _ ?_
          clear hK1 K1
          refine c_ret ?_
          refine e_ret 2 hm (res_tmps rfl) ?_
          cases a; cases b
          refine ⟨congrArg Value.bool ?_, rfl⟩
          first | (simp_all [ceq_cube]; done) | (simp_all [ceq_cube]; omega) | (simp_all [ceq_cube]; intros; omega) | (rw [Bool.eq_iff_iff]; simp_all [ceq_cube]; done)
      ·
        refine r_no' rfl rfl h2 ?_
        refine r_no' rfl rfl h2 ?_
        refine r_no' rfl rfl h2 ?_
        refine r_no' rfl rfl h2 ?_
        refine r_no' rfl rfl h2 ?_
        refine r_y rfl rfl (y_pickf rfl h2 rfl) ?_
        refine r_y rfl rfl (y_move rfl) ?_
        refine r_no' rfl rfl rfl ?_
        refine r_no' rfl rfl rfl ?_
        refine r_no' rfl rfl rfl ?_
        refine r_no' rfl rfl rfl ?_
        refine r_no' rfl rfl rfl ?_
        refine r_y rfl rfl (y_pickf rfl rfl rfl) ?_
        refine r_y rfl rfl (y_move rfl) ?_
        refine r_no' rfl rfl rfl ?_
        refine r_no' rfl rfl rfl ?_
        refine r_no' rfl rfl rfl ?_
        refine r_no' rfl rfl rfl ?_
        refine r_no' rfl rfl rfl ?_
        refine r_y rfl rfl (y_pickf rfl rfl rfl) ?_
        refine r_y rfl rfl (y_move rfl) ?_
        refine r_no' rfl rfl rfl ?_
        refine r_no' rfl rfl rfl ?_
        refine r_no' rfl rfl rfl ?_
        refine r_no' rfl rfl rfl ?_
        refine r_no' rfl rfl rfl ?_
        refine r_y rfl rfl (y_pickf rfl rfl rfl) ?_
        refine r_y rfl rfl (y_move rfl) ?_
        refine r_no' rfl rfl rfl ?_
        refine r_no' rfl rfl rfl ?_
        refine r_no' rfl rfl rfl ?_
        refine r_no' rfl rfl rfl ?_
        refine r_no' rfl rfl rfl ?_
        refine r_y rfl rfl (y_pickf rfl rfl rfl) ?_
        refine r_y rfl rfl (y_assign rfl) ?_
        refine r_nil ?_
        refine hK1 _ _ _ ?_
        clear hK1 K1
        refine c_ret ?_
        refine e_ret 2 hm (res_tmps rfl) ?_
        cases a; cases b
        refine ⟨congrArg Value.bool ?_, rfl⟩
        first | (simp_all [ceq_cube]; done) | (simp_all [ceq_cube]; omega) | (simp_all [ceq_cube]; intros; omega) | (rw [Bool.eq_iff_iff]; simp_all [ceq_cube]; done)
    ·
      refine r_no' rfl rfl h1 ?_
      refine r_no' rfl rfl h1 ?_
      refine r_no' rfl rfl h1 ?_
      refine r_no' rfl rfl h1 ?_
      refine r_no' rfl rfl h1 ?_
      refine r_y rfl rfl (y_pickf rfl h1 rfl) ?_
      refine r_y rfl rfl (y_move rfl) ?_
      refine r_no' rfl rfl rfl ?_
      refine r_no' rfl rfl rfl ?_
      refine r_no' rfl rfl rfl ?_
      refine r_no' rfl rfl rfl ?_
      refine r_no' rfl rfl rfl ?_
      refine r_y rfl rfl (y_pickf rfl rfl rfl) ?_
      refine r_y rfl rfl (y_move rfl) ?_
      refine r_no' rfl rfl rfl ?_
      refine r_no' rfl rfl rfl ?_
      refine r_no' rfl rfl rfl ?_
      refine r_no' rfl rfl rfl ?_
      refine r_no' rfl rfl rfl ?_
      refine r_y rfl rfl (y_pickf rfl rfl rfl) ?_
      refine r_y rfl rfl (y_move rfl) ?_
      refine r_no' rfl rfl rfl ?_
      refine r_no' rfl rfl rfl ?_
      refine r_no' rfl rfl rfl ?_
      refine r_no' rfl rfl rfl ?_
      refine r_no' rfl rfl rfl ?_
      refine r_y rfl rfl (y_pickf rfl rfl rfl) ?_
      refine r_y rfl rfl (y_move rfl) ?_
      refine r_no' rfl rfl rfl ?_
      refine r_no' rfl rfl rfl ?_
      refine r_no' rfl rfl rfl ?_
      refine r_no' rfl rfl rfl ?_
      refine r_no' rfl rfl rfl ?_
      refine r_y rfl rfl (y_pickf rfl rfl rfl) ?_
      refine r_y rfl rfl (y_move rfl) ?_
      refine r_no' rfl rfl rfl ?_
      refine r_no' rfl rfl rfl ?_
      refine r_no' rfl rfl rfl ?_
      refine r_no' rfl rfl rfl ?_
      refine r_no' rfl rfl rfl ?_
      refine r_y rfl rfl (y_pickf rfl rfl rfl) ?_
      refine r_y rfl rfl (y_assign rfl) ?_
      refine r_nil ?_
      refine hK1 _ _ _ ?_
      clear hK1 K1
      refine c_ret ?_
      refine e_ret 2 hm (res_tmps rfl) ?_
      cases a; cases b
      refine ⟨congrArg Value.bool ?_, rfl⟩
      first | (simp_all [ceq_cube]; done) | (simp_all [ceq_cube]; omega) | (simp_all [ceq_cube]; intros; omega) | (rw [Bool.eq_iff_iff]; simp_all [ceq_cube]; done)
  ·
    refine r_no' rfl rfl h0 ?_
    refine r_no' rfl rfl h0 ?_
    refine r_no' rfl rfl h0 ?_
    refine r_no' rfl rfl h0 ?_
    refine r_no' rfl rfl h0 ?_
    refine r_y rfl rfl (y_pickf rfl h0 rfl) ?_
    refine r_y rfl rfl (y_move rfl) ?_
    refine r_no' rfl rfl rfl ?_
    refine r_no' rfl rfl rfl ?_
    refine r_no' rfl rfl rfl ?_
    refine r_no' rfl rfl rfl ?_
    refine r_no' rfl rfl rfl ?_
    refine r_y rfl rfl (y_pickf rfl rfl rfl) ?_
    refine r_y rfl rfl (y_move rfl) ?_
    refine r_no' rfl rfl rfl ?_
    refine r_no' rfl rfl rfl ?_
    refine r_no' rfl rfl rfl ?_
    refine r_no' rfl rfl rfl ?_
    refine r_no' rfl rfl rfl ?_
    refine r_y rfl rfl (y_pickf rfl rfl rfl) ?_
    refine r_y rfl rfl (y_move rfl) ?_
    refine r_no' rfl rfl rfl ?_
    refine r_no' rfl rfl rfl ?_
    refine r_no' rfl rfl rfl ?_
    refine r_no' rfl rfl rfl ?_
    refine r_no' rfl rfl rfl ?_
    refine r_y rfl rfl (y_pickf rfl rfl rfl) ?_
    refine r_y rfl rfl (y_move rfl) ?_
    refine r_no' rfl rfl rfl ?_
    refine r_no' rfl rfl rfl ?_
    refine r_no' rfl rfl rfl ?_
    refine r_no' rfl rfl rfl ?_
    refine r_no' rfl rfl rfl ?_
    refine r_y rfl rfl (y_pickf rfl rfl rfl) ?_
    refine r_y rfl rfl (y_move rfl) ?_
    refine r_no' rfl rfl rfl ?_
    refine r_no' rfl rfl rfl ?_
    refine r_no' rfl rfl rfl ?_
    refine r_no' rfl rfl rfl ?_
    refine r_no' rfl rfl rfl ?_
    refine r_y rfl rfl (y_pickf rfl rfl rfl) ?_
    refine r_y rfl rfl (y_move rfl) ?_
    refine r_no' rfl rfl rfl ?_
    refine r_no' rfl rfl rfl ?_
    refine r_no' rfl rfl rfl ?_
    refine r_no' rfl rfl rfl ?_
    refine r_no' rfl rfl rfl ?_
    refine r_y rfl rfl (y_pickf rfl rfl rfl) ?_
    refine r_y rfl rfl (y_assign rfl) ?_
    refine r_nil ?_
    refine hK1 _ _ _ ?_
    clear hK1 K1
    refine c_ret ?_
    refine e_ret 2 hm (res_tmps rfl) ?_
    cases a; cases b
    refine ⟨congrArg Value.bool ?_, rfl⟩
    first | (simp_all [ceq_cube]; done) | (simp_all [ceq_cube]; omega) | (simp_all [ceq_cube]; intros; omega) | (rw [Bool.eq_iff_iff]; simp_all [ceq_cube]; done)
set_option maxRecDepth 100000 in
theorem rSize_w (n : Int) (m : Snap) (H : Hp) : Fn Try.prog 117 [.int .i64 n] m H (fun v _ H' => v = .int .i64 (hsz n : Nat) ∧ H' = H) := by
  have hm : m.le m := Snap.le.refl m
  refine fn_end Try.func117 rfl rfl rfl ?_
  refine c_seq (fun K0 hK0 => ?_)
  refine c_region ?_
  refine r_y rfl rfl (y_assign rfl) ?_
  refine r_nil ?_
  refine hK0 _ _ _ ?_
  clear hK0 K0
  refine c_seq (fun K1 hK1 => ?_)
  refine c_seq (fun K2 hK2 => ?_)
  refine c_region ?_
  refine r_y rfl rfl (y_move rfl) ?_
  refine r_y rfl rfl (y_iop rfl rfl rfl) ?_
  refine r_y rfl rfl (y_move rfl) ?_
  refine r_split (j := 2) rfl (fun h0 => ?_) (fun h0 => ?_)
  ·
    refine r_no' rfl rfl h0 ?_
    refine r_no' rfl rfl h0 ?_
    refine r_y rfl rfl (y_pickt rfl h0 rfl) ?_
    refine r_nil ?_
    refine hK2 _ _ _ ?_
    clear hK2 K2
    refine c_ift rfl rfl ?_
    refine c_seq (fun K3 hK3 => ?_)
    refine c_region ?_
    refine r_y rfl rfl (y_assign rfl) ?_
    refine r_nil ?_
    refine hK3 _ _ _ ?_
    clear hK3 K3
    refine c_ret ?_
    refine e_ret 0 hm (res_tmps rfl) ?_
    have ht : there n = false := by simp [there]; simp_all; try omega
    refine ⟨?_, rfl⟩
    simp [hsz, ht]
  ·
    refine r_yg rfl h0 rfl (y_move rfl) ?_
    refine r_yg rfl h0 rfl (y_iop rfl rfl rfl) ?_
    refine r_y rfl rfl (y_pickf rfl h0 rfl) ?_
    refine r_nil ?_
    refine hK2 _ _ _ ?_
    clear hK2 K2
    refine c_cond rfl (fun h1 => ?_) (fun h1 => ?_)
    ·
      refine c_seq (fun K4 hK4 => ?_)
      refine c_region ?_
      refine r_y rfl rfl (y_assign rfl) ?_
      refine r_nil ?_
      refine hK4 _ _ _ ?_
      clear hK4 K4
      refine c_ret ?_
      refine e_ret 0 hm (res_tmps rfl) ?_
      have ht : there n = false := by simp [there]; simp_all; try omega
      refine ⟨?_, rfl⟩
      simp [hsz, ht]
    ·
      obtain ⟨k, hk, rfl⟩ : ∃ k : Nat, k < 12 ∧ n = k := ⟨n.toNat, by simp at *; omega, by simp at *; omega⟩
      refine c_skip ?_
      refine hK1 _ _ _ ?_
      clear hK1 K1
      refine c_seq (fun K5 hK5 => ?_)
      refine c_region ?_
      refine r_s rfl ?_
      refine s_buildSlice (cs := (size12.map fun n => i64 ((n : Nat) : Int))) (e := 3) rfl rfl (fun _ => by kernel_rfl) (fun b0 => ?_)
      refine r_y rfl rfl (y_move rfl) ?_
      refine r_y rfl rfl (y_indexAddr_slice rfl rfl tl77 hk At.lit) ?_
      refine r_y rfl rfl (y_load_s rfl ts3 (RdS.blk (i := 0) rfl (cget_size k hk))) ?_
      refine r_y rfl rfl (y_assign rfl) ?_
      refine r_nil ?_
      refine hK5 _ _ _ ?_
      clear hK5 K5
      refine c_ret ?_
      refine e_ret 1 hm (res_tmps rfl) ?_
      rw [hsz_nat hk]
      exact ⟨rfl, rfl⟩
set_option maxRecDepth 100000 in
theorem rFits_w (x : W) (k : Nat) (m : Snap) (H : Hp) (hk : k ≤ 63) : Fn Try.prog 116 [wv x, .int .i64 (k : Nat)] m H (fun v _ H' => v = .bool ((x >>> k) == 0) ∧ H' = H) := by
  have hm : m.le m := Snap.le.refl m
  refine fn_end Try.func116 rfl rfl rfl ?_
  refine c_seq (fun K0 hK0 => ?_)
  refine c_region ?_
  refine r_y rfl rfl (y_assign rfl) ?_
  refine r_nil ?_
  refine hK0 _ _ _ ?_
  clear hK0 K0
  refine c_seq (fun K1 hK1 => ?_)
  refine c_region ?_
  refine r_y rfl rfl (y_move rfl) ?_
  refine r_y rfl rfl (y_move rfl) ?_
  refine r_y rfl rfl (y_conv_in rfl un3 un158 (by omega)) ?_
  refine r_y rfl rfl (y_wshl (a := 1#64) (b := k) rfl rfl (by omega)) ?_
  refine r_y rfl rfl (y_iop rfl rfl rfl) ?_
  refine r_y rfl rfl (y_assign rfl) ?_
  refine r_nil ?_
  refine hK1 _ _ _ ?_
  clear hK1 K1
  refine c_ret ?_
  refine e_ret 0 hm (res_tmps rfl) ?_
  rw [← fits_lt hk]
  exact ⟨rfl, rfl⟩
set_option maxRecDepth 100000 in
theorem rHead_w (h : Head) (m : Snap) (H : Hp) : Fn Try.prog 64 [.agg (encHead h).toArray] m H (fun v _ H' => v = .bool (headSound h) ∧ H' = H) := by
  have hm : m.le m := Snap.le.refl m
  refine fn_end Try.func64 rfl rfl rfl ?_
  refine c_seq (fun K0 hK0 => ?_)
  refine c_region ?_
  refine r_s rfl ?_
  refine s_box_a rfl rfl (fun b0 => ?_)
  refine r_y rfl rfl (y_assign rfl) ?_
  refine r_nil ?_
  refine hK0 _ _ _ ?_
  clear hK0 K0
  refine c_seq (fun K1 hK1 => ?_)
  refine c_seq (fun K2 hK2 => ?_)
  refine c_region ?_
  refine r_y rfl rfl (y_assign rfl) ?_
  refine r_nil ?_
  refine hK2 _ _ _ ?_
  clear hK2 K2
  refine c_block ?_
  refine c_loopx (α := Nat) (fun i => [(1, .pointer (some ⟨b0, 0, none⟩)), (3, .int .i64 (i : Nat))]) (fun i => .blk b0 (.cells (encHead h).toArray 27) :: H) (fun k0 i m1 => (i + k0 = 12 ∧ (List.range i).all (fun i => fits (i : Int) (h.at i)) = true) ∧ m.le m1) (12) 0 ⟨rfl, rfl, trivial⟩ rfl ⟨⟨by omega, rfl⟩, hm⟩ ?_
  clear hm
  rintro k0 i m1 ⟨hi0, hm⟩
  obtain ⟨hi, hinv⟩ := hi0
  refine c_seq (fun K3 hK3 => ?_)
  refine c_seq (fun K4 hK4 => ?_)
  refine c_region ?_
  refine r_y rfl rfl (y_move rfl) ?_
  refine r_y rfl rfl (y_iop rfl rfl rfl) ?_
  refine r_nil ?_
  refine hK4 _ _ _ ?_
  clear hK4 K4
  refine c_cond rfl (fun h0 => ?_) (fun h0 => ?_)
  ·
    have hlt : i < 12 := by simp at h0; omega
    refine c_skip ?_
    refine hK3 _ _ _ ?_
    clear hK3 K3
    refine c_seq (fun K5 hK5 => ?_)
    refine c_block ?_
    refine c_seq (fun K6 hK6 => ?_)
    refine c_draw ([.blk b0 (.cells (encHead h).toArray 27)]) (by kernel_rfl) (fun hg => ?_)
    refine g_y (i := 0) (listed' := #[true, false, false, false, false, false, false]) rfl (by kernel_rfl) (by kernel_rfl) (by kernel_rfl) (by kernel_rfl) rfl rfl hg (allc (List.Mem.head _) alln) (fun m' H' hm' hX' => y_move rfl) ?_
    refine g_y (i := 1) (listed' := #[true, true, false, false, false, false, false]) rfl (by kernel_rfl) (by kernel_rfl) (by kernel_rfl) (by kernel_rfl) rfl rfl hg (allc (List.Mem.head _) alln) (fun m' H' hm' hX' => y_indexAddr_arr rfl rfl ta27 hlt At.lit) ?_
    refine g_y (i := 2) (listed' := #[true, true, true, false, false, false, false]) rfl (by kernel_rfl) (by kernel_rfl) (by kernel_rfl) (by kernel_rfl) rfl rfl hg (allc (List.Mem.head _) alln) (fun m' H' hm' hX' => y_load_s rfl ts25 (RdS.mem (hX' _ (List.Mem.head _)) (cget_head0 _ _ hlt))) ?_
    refine g_y (i := 3) (listed' := #[true, true, true, true, false, false, false]) rfl (by kernel_rfl) (by kernel_rfl) (by kernel_rfl) (by kernel_rfl) rfl rfl hg (allc (List.Mem.head _) alln) (fun m' H' hm' hX' => y_move rfl) ?_
    refine g_s (i := 4) (listed' := #[true, true, true, true, true, false, false]) rfl (by kernel_rfl) (by kernel_rfl) rfl ?_
    refine s_call0 rfl Try.call117 rfl (rSize_w _ _ _) ?_
    rintro _ m2 _ hm2 ⟨rfl, rfl⟩
    replace hm := hm.trans hm2
    refine ⟨⟨hg.trans hm2, (allc (List.Mem.head _) alln)⟩, ?_⟩
    replace hg := hg.trans hm2
    clear hm2
    refine g_s (i := 5) (listed' := #[true, true, true, true, true, true, false]) rfl (by kernel_rfl) (by kernel_rfl) rfl ?_
    refine s_call0 rfl Try.call116 rfl (rFits_w _ _ _ _ (Nat.le_trans (hsz_le _) (by decide))) ?_
    rintro _ m2 _ hm2 ⟨rfl, rfl⟩
    replace hm := hm.trans hm2
    refine ⟨⟨hg.trans hm2, (allc (List.Mem.head _) alln)⟩, ?_⟩
    replace hg := hg.trans hm2
    clear hm2
    refine g_y (i := 6) (listed' := #[true, true, true, true, true, true, true]) rfl (by kernel_rfl) (by kernel_rfl) (by kernel_rfl) (by kernel_rfl) rfl rfl hg (allc (List.Mem.head _) alln) (fun m' H' hm' hX' => y_not rfl) ?_
    refine g_done (by kernel_rfl) ?_
    clear hg
    refine hK6 _ _ _ ?_
    clear hK6 K6
    refine c_cond rfl (fun h1 => ?_) (fun h1 => ?_)
    ·
      refine c_seq (fun K7 hK7 => ?_)
      refine c_region ?_
      refine r_y rfl rfl (y_assign rfl) ?_
      refine r_nil ?_
      refine hK7 _ _ _ ?_
      clear hK7 K7
      refine c_ret ?_
      refine e_ret 1 hm (res_tmps rfl) ?_
      exact ⟨congrArg Value.bool (all_range_false (by simpa [fits] using h1) hlt).symm, rfl⟩
    ·
      refine c_skip ?_
      refine hK5 _ _ _ ?_
      clear hK5 K5
      refine c_region ?_
      refine r_y rfl rfl (y_move rfl) ?_
      first | refine r_y rfl rfl (y_inc rfl (by omega)) ?_ | refine r_y rfl rfl (y_iop rfl rfl rfl) ?_
      refine r_y rfl rfl (y_assign rfl) ?_
      refine r_nil ?_
      exact ⟨k0 - 1, (i + 1), by omega, ⟨rfl, rfl, trivial⟩, rfl, ⟨by omega, by rw [all_range_succ, hinv]; simpa [fits] using h1⟩, hm⟩
  ·
    refine c_exit ?_
    refine hK1 _ _ _ ?_
    clear hK3 K3 hK1 K1
    refine c_seq (fun K8 hK8 => ?_)
    refine c_region ?_
    refine r_y rfl rfl (y_assign rfl) ?_
    refine r_nil ?_
    refine hK8 _ _ _ ?_
    clear hK8 K8
    refine c_ret ?_
    refine e_ret 1 hm (res_tmps rfl) ?_
    obtain rfl : i = 12 := by simp at h0; omega
    exact ⟨congrArg Value.bool (by rw [headSound, hinv]), rfl⟩
set_option maxRecDepth 100000 in
theorem rOrder_w (a b : Head) (m : Snap) (H : Hp) : Fn Try.prog 157 [.agg (encHead a).toArray, .agg (encHead b).toArray] m H (fun v _ H' => v = .int .i64 (headCmp a b) ∧ H' = H) := by
  have hm : m.le m := Snap.le.refl m
  refine fn_end Try.func157 rfl rfl rfl ?_
  refine c_seq (fun K0 hK0 => ?_)
  refine c_region ?_
  refine r_s rfl ?_
  refine s_box_a rfl rfl (fun b0 => ?_)
  refine r_s rfl ?_
  refine s_box_a rfl rfl (fun b1 => ?_)
  refine r_y rfl rfl (y_assign rfl) ?_
  refine r_nil ?_
  refine hK0 _ _ _ ?_
  clear hK0 K0
  refine c_seq (fun K1 hK1 => ?_)
  refine c_seq (fun K2 hK2 => ?_)
  refine c_region ?_
  refine r_y rfl rfl (y_assign rfl) ?_
  refine r_nil ?_
  refine hK2 _ _ _ ?_
  clear hK2 K2
  refine c_block ?_
  refine c_loopx (α := Nat) (fun i => [(2, .pointer (some ⟨b0, 0, none⟩)), (3, .pointer (some ⟨b1, 0, none⟩)), (5, .int .i64 (i : Nat))]) (fun i => .blk b1 (.cells (encHead b).toArray 27) :: .blk b0 (.cells (encHead a).toArray 27) :: H) (fun k0 i m1 => (i + k0 = 12 ∧ cmpL ((headL a).drop i) ((headL b).drop i) = headCmp a b) ∧ m.le m1) (12) 0 ⟨rfl, rfl, rfl, trivial⟩ rfl ⟨⟨by omega, rfl⟩, hm⟩ ?_
  clear hm
  rintro k0 i m1 ⟨hi0, hm⟩
  obtain ⟨hi, hinv⟩ := hi0
  refine c_seq (fun K3 hK3 => ?_)
  refine c_seq (fun K4 hK4 => ?_)
  refine c_region ?_
  refine r_y rfl rfl (y_move rfl) ?_
  refine r_y rfl rfl (y_iop rfl rfl rfl) ?_
  refine r_nil ?_
  refine hK4 _ _ _ ?_
  clear hK4 K4
  refine c_cond rfl (fun h0 => ?_) (fun h0 => ?_)
  ·
    have hlt : i < 12 := by simp at h0; omega
    refine c_skip ?_
    refine hK3 _ _ _ ?_
    clear hK3 K3
    refine c_seq (fun K5 hK5 => ?_)
    refine c_block ?_
    refine c_seq (fun K6 hK6 => ?_)
    refine c_seq (fun K7 hK7 => ?_)
    refine c_draw ([.blk b0 (.cells (encHead a).toArray 27), .blk b1 (.cells (encHead b).toArray 27)]) (by kernel_rfl) (fun hg => ?_)
    refine g_y (i := 0) (listed' := #[true, false, false, false, false, false, false]) rfl (by kernel_rfl) (by kernel_rfl) (by kernel_rfl) (by kernel_rfl) rfl rfl hg (allc (List.Mem.tail _ (List.Mem.head _)) (allc (List.Mem.head _) alln)) (fun m' H' hm' hX' => y_move rfl) ?_
    refine g_y (i := 1) (listed' := #[true, true, false, false, false, false, false]) rfl (by kernel_rfl) (by kernel_rfl) (by kernel_rfl) (by kernel_rfl) rfl rfl hg (allc (List.Mem.tail _ (List.Mem.head _)) (allc (List.Mem.head _) alln)) (fun m' H' hm' hX' => y_indexAddr_arr rfl rfl ta27 hlt At.lit) ?_
    refine g_y (i := 2) (listed' := #[true, true, true, false, false, false, false]) rfl (by kernel_rfl) (by kernel_rfl) (by kernel_rfl) (by kernel_rfl) rfl rfl hg (allc (List.Mem.tail _ (List.Mem.head _)) (allc (List.Mem.head _) alln)) (fun m' H' hm' hX' => y_load_s rfl ts25 (RdS.mem (hX' _ (List.Mem.head _)) (cget_head0 _ _ hlt))) ?_
    refine g_y (i := 3) (listed' := #[true, true, true, true, false, false, false]) rfl (by kernel_rfl) (by kernel_rfl) (by kernel_rfl) (by kernel_rfl) rfl rfl hg (allc (List.Mem.tail _ (List.Mem.head _)) (allc (List.Mem.head _) alln)) (fun m' H' hm' hX' => y_move rfl) ?_
    refine g_y (i := 4) (listed' := #[true, true, true, true, true, false, false]) rfl (by kernel_rfl) (by kernel_rfl) (by kernel_rfl) (by kernel_rfl) rfl rfl hg (allc (List.Mem.tail _ (List.Mem.head _)) (allc (List.Mem.head _) alln)) (fun m' H' hm' hX' => y_indexAddr_arr rfl rfl ta27 hlt At.lit) ?_
    refine g_y (i := 5) (listed' := #[true, true, true, true, true, true, false]) rfl (by kernel_rfl) (by kernel_rfl) (by kernel_rfl) (by kernel_rfl) rfl rfl hg (allc (List.Mem.tail _ (List.Mem.head _)) (allc (List.Mem.head _) alln)) (fun m' H' hm' hX' => y_load_s rfl ts25 (RdS.mem (hX' _ (List.Mem.tail _ (List.Mem.head _))) (cget_head0 _ _ hlt))) ?_
    refine g_y (i := 6) (listed' := #[true, true, true, true, true, true, true]) rfl (by kernel_rfl) (by kernel_rfl) (by kernel_rfl) (by kernel_rfl) rfl rfl hg (allc (List.Mem.tail _ (List.Mem.head _)) (allc (List.Mem.head _) alln)) (fun m' H' hm' hX' => y_wop rfl rfl rfl) ?_
    refine g_done (by kernel_rfl) ?_
    clear hg
    refine hK7 _ _ _ ?_
    clear hK7 K7
    refine c_cond rfl (fun h1 => ?_) (fun h1 => ?_)
    ·
      refine c_seq (fun K8 hK8 => ?_)
      refine c_region ?_
      refine r_y rfl rfl (y_assign rfl) ?_
      refine r_nil ?_
      refine hK8 _ _ _ ?_
      clear hK8 K8
      refine c_ret ?_
      refine e_ret 2 hm (res_tmps rfl) ?_
      refine ⟨congrArg (Value.int .i64) ?_, rfl⟩
      first
        | (obtain rfl : i = 12 := by simp at h0; omega
           rw [← hinv]; rfl)
        | (rw [← hinv, headCmp_drop a b hlt, cmpW_gt (by simpa using h1) (by simpa using h2)]; rfl)
        | (rw [← hinv, headCmp_drop a b hlt, cmpW_lt (by simpa using h1)]; rfl)
    ·
      refine c_skip ?_
      refine hK6 _ _ _ ?_
      clear hK6 K6
      refine c_seq (fun K9 hK9 => ?_)
      refine c_draw ([.blk b0 (.cells (encHead a).toArray 27), .blk b1 (.cells (encHead b).toArray 27)]) (by kernel_rfl) (fun hg => ?_)
      refine g_y (i := 0) (listed' := #[true, false, false, false, false, false, false]) rfl (by kernel_rfl) (by kernel_rfl) (by kernel_rfl) (by kernel_rfl) rfl rfl hg (allc (List.Mem.tail _ (List.Mem.head _)) (allc (List.Mem.head _) alln)) (fun m' H' hm' hX' => y_move rfl) ?_
      refine g_y (i := 1) (listed' := #[true, true, false, false, false, false, false]) rfl (by kernel_rfl) (by kernel_rfl) (by kernel_rfl) (by kernel_rfl) rfl rfl hg (allc (List.Mem.tail _ (List.Mem.head _)) (allc (List.Mem.head _) alln)) (fun m' H' hm' hX' => y_indexAddr_arr rfl rfl ta27 hlt At.lit) ?_
      refine g_y (i := 2) (listed' := #[true, true, true, false, false, false, false]) rfl (by kernel_rfl) (by kernel_rfl) (by kernel_rfl) (by kernel_rfl) rfl rfl hg (allc (List.Mem.tail _ (List.Mem.head _)) (allc (List.Mem.head _) alln)) (fun m' H' hm' hX' => y_load_s rfl ts25 (RdS.mem (hX' _ (List.Mem.head _)) (cget_head0 _ _ hlt))) ?_
      refine g_y (i := 3) (listed' := #[true, true, true, true, false, false, false]) rfl (by kernel_rfl) (by kernel_rfl) (by kernel_rfl) (by kernel_rfl) rfl rfl hg (allc (List.Mem.tail _ (List.Mem.head _)) (allc (List.Mem.head _) alln)) (fun m' H' hm' hX' => y_move rfl) ?_
      refine g_y (i := 4) (listed' := #[true, true, true, true, true, false, false]) rfl (by kernel_rfl) (by kernel_rfl) (by kernel_rfl) (by kernel_rfl) rfl rfl hg (allc (List.Mem.tail _ (List.Mem.head _)) (allc (List.Mem.head _) alln)) (fun m' H' hm' hX' => y_indexAddr_arr rfl rfl ta27 hlt At.lit) ?_
      refine g_y (i := 5) (listed' := #[true, true, true, true, true, true, false]) rfl (by kernel_rfl) (by kernel_rfl) (by kernel_rfl) (by kernel_rfl) rfl rfl hg (allc (List.Mem.tail _ (List.Mem.head _)) (allc (List.Mem.head _) alln)) (fun m' H' hm' hX' => y_load_s rfl ts25 (RdS.mem (hX' _ (List.Mem.tail _ (List.Mem.head _))) (cget_head0 _ _ hlt))) ?_
      refine g_y (i := 6) (listed' := #[true, true, true, true, true, true, true]) rfl (by kernel_rfl) (by kernel_rfl) (by kernel_rfl) (by kernel_rfl) rfl rfl hg (allc (List.Mem.tail _ (List.Mem.head _)) (allc (List.Mem.head _) alln)) (fun m' H' hm' hX' => y_wop rfl rfl rfl) ?_
      refine g_done (by kernel_rfl) ?_
      clear hg
      refine hK9 _ _ _ ?_
      clear hK9 K9
      refine c_cond rfl (fun h2 => ?_) (fun h2 => ?_)
      ·
        refine c_seq (fun K10 hK10 => ?_)
        refine c_region ?_
        refine r_y rfl rfl (y_assign rfl) ?_
        refine r_nil ?_
        refine hK10 _ _ _ ?_
        clear hK10 K10
        refine c_ret ?_
        refine e_ret 2 hm (res_tmps rfl) ?_
        refine ⟨congrArg (Value.int .i64) ?_, rfl⟩
        first
          | (obtain rfl : i = 12 := by simp at h0; omega
             rw [← hinv]; rfl)
          | (rw [← hinv, headCmp_drop a b hlt, cmpW_gt (by simpa using h1) (by simpa using h2)]; rfl)
          | (rw [← hinv, headCmp_drop a b hlt, cmpW_lt (by simpa using h1)]; rfl)
      ·
        refine c_skip ?_
        refine hK5 _ _ _ ?_
        clear hK5 K5
        refine c_region ?_
        refine r_y rfl rfl (y_move rfl) ?_
        first | refine r_y rfl rfl (y_inc rfl (by omega)) ?_ | refine r_y rfl rfl (y_iop rfl rfl rfl) ?_
        refine r_y rfl rfl (y_assign rfl) ?_
        refine r_nil ?_
        exact ⟨k0 - 1, (i + 1), by omega, ⟨rfl, rfl, rfl, trivial⟩, rfl, ⟨by omega, by rw [← hinv, headCmp_drop a b hlt, cmpW_eq (by simpa using h1) (by simpa using h2)]; rfl⟩, hm⟩
  ·
    refine c_exit ?_
    refine hK1 _ _ _ ?_
    clear hK3 K3 hK1 K1
    refine c_seq (fun K11 hK11 => ?_)
    refine c_region ?_
    refine r_y rfl rfl (y_assign rfl) ?_
    refine r_nil ?_
    refine hK11 _ _ _ ?_
    clear hK11 K11
    refine c_ret ?_
    refine e_ret 2 hm (res_tmps rfl) ?_
    refine ⟨congrArg (Value.int .i64) ?_, rfl⟩
    first
      | (obtain rfl : i = 12 := by simp at h0; omega
         rw [← hinv]; rfl)
      | (rw [← hinv, headCmp_drop a b hlt, cmpW_gt (by simpa using h1) (by simpa using h2)]; rfl)
      | (rw [← hinv, headCmp_drop a b hlt, cmpW_lt (by simpa using h1)]; rfl)
set_option maxRecDepth 100000 in
theorem rCompare_w (a b : Cube) (m : Snap) (H : Hp) : Fn Try.prog 139 [.agg (encCube a).toArray, .agg (encCube b).toArray] m H (fun v _ H' => v = .int .i64 (cubeCmp a b) ∧ H' = H) := by
  have hm : m.le m := Snap.le.refl m
  refine fn_end Try.func139 rfl rfl rfl ?_
  refine c_seq (fun K0 hK0 => ?_)
  refine c_region ?_
  refine r_s rfl ?_
  refine s_box_a rfl rfl (fun b0 => ?_)
  refine r_s rfl ?_
  refine s_box_a rfl rfl (fun b1 => ?_)
  refine r_y rfl rfl (y_assign rfl) ?_
  refine r_nil ?_
  refine hK0 _ _ _ ?_
  clear hK0 K0
  refine c_seq (fun K1 hK1 => ?_)
  refine c_region ?_
  refine r_y rfl rfl (y_fieldAddr rfl At.lit fo29_1 rfl) ?_
  refine r_y rfl rfl (y_load_a (cs := encHead a.care) rfl ts27 (RdA.blk (i := 1) rfl rfl)) ?_
  refine r_y rfl rfl (y_fieldAddr rfl At.lit fo29_1 rfl) ?_
  refine r_y rfl rfl (y_load_a (cs := encHead b.care) rfl ts27 (RdA.blk (i := 0) rfl rfl)) ?_
  refine r_s rfl ?_
  refine s_call0 rfl Try.call157 rfl (rOrder_w a.care b.care _ _) ?_
  rintro _ m2 _ hm2 ⟨rfl, rfl⟩
  replace hm := hm.trans hm2
  clear hm2
  refine r_y rfl rfl (y_assign rfl) ?_
  refine r_nil ?_
  refine hK1 _ _ _ ?_
  clear hK1 K1
  refine c_seq (fun K2 hK2 => ?_)
  refine c_seq (fun K3 hK3 => ?_)
  refine c_region ?_
  refine r_y rfl rfl (y_move rfl) ?_
  refine r_y rfl rfl (y_iop rfl rfl rfl) ?_
  refine r_nil ?_
  refine hK3 _ _ _ ?_
  clear hK3 K3
  refine c_cond rfl (fun h0 => ?_) (fun h0 => ?_)
  ·
    refine c_seq (fun K4 hK4 => ?_)
    refine c_region ?_
    refine r_y rfl rfl (y_move rfl) ?_
    refine r_y rfl rfl (y_assign rfl) ?_
    refine r_nil ?_
    refine hK4 _ _ _ ?_
    clear hK4 K4
    refine c_ret ?_
    refine e_ret 2 hm (res_tmps rfl) ?_
    refine ⟨congrArg (Value.int .i64) ?_, rfl⟩
    by_cases hv : headCmp a.value b.value = 0 <;> simp_all [cubeCmp, orL, List.find?_cons]
  ·
    refine c_skip ?_
    refine hK2 _ _ _ ?_
    clear hK2 K2
    refine c_seq (fun K5 hK5 => ?_)
    refine c_region ?_
    refine r_y rfl rfl (y_fieldAddr rfl At.lit fo29_0 rfl) ?_
    refine r_y rfl rfl (y_load_a (cs := encHead a.value) rfl ts27 (RdA.blk (i := 1) rfl rfl)) ?_
    refine r_y rfl rfl (y_fieldAddr rfl At.lit fo29_0 rfl) ?_
    refine r_y rfl rfl (y_load_a (cs := encHead b.value) rfl ts27 (RdA.blk (i := 0) rfl rfl)) ?_
    refine r_s rfl ?_
    refine s_call0 rfl Try.call157 rfl (rOrder_w a.value b.value _ _) ?_
    rintro _ m2 _ hm2 ⟨rfl, rfl⟩
    replace hm := hm.trans hm2
    clear hm2
    refine r_y rfl rfl (y_assign rfl) ?_
    refine r_nil ?_
    refine hK5 _ _ _ ?_
    clear hK5 K5
    refine c_ret ?_
    refine e_ret 2 hm (res_tmps rfl) ?_
    refine ⟨congrArg (Value.int .i64) ?_, rfl⟩
    by_cases hv : headCmp a.value b.value = 0 <;> simp_all [cubeCmp, orL, List.find?_cons]
set_option maxRecDepth 100000 in
theorem rBefore_w (a b : RuleD) (s1 s2 : Sl) (m : Snap) (H : Hp) : Fn Try.prog 97 [.agg (encRule a s1).toArray, .agg (encRule b s2).toArray] m H (fun v _ H' => v = .bool (ruleBefore a b) ∧ H' = H) := by
  have hm : m.le m := Snap.le.refl m
  refine fn_end Try.func97 rfl rfl rfl ?_
  refine c_seq (fun K0 hK0 => ?_)
  refine c_region ?_
  refine r_s rfl ?_
  refine s_box_a rfl rfl (fun b0 => ?_)
  refine r_s rfl ?_
  refine s_box_a rfl rfl (fun b1 => ?_)
  refine r_y rfl rfl (y_assign rfl) ?_
  refine r_nil ?_
  refine hK0 _ _ _ ?_
  clear hK0 K0
  refine c_seq (fun K1 hK1 => ?_)
  refine c_seq (fun K2 hK2 => ?_)
  refine c_region ?_
  refine r_y rfl rfl (y_fieldAddr rfl At.lit fo50_1 rfl) ?_
  refine r_y rfl rfl (y_load_s rfl ts3 (RdS.blk (i := 1) rfl rfl)) ?_
  refine r_y rfl rfl (y_fieldAddr rfl At.lit fo50_1 rfl) ?_
  refine r_y rfl rfl (y_load_s rfl ts3 (RdS.blk (i := 0) rfl rfl)) ?_
  refine r_y rfl rfl (y_iop rfl rfl rfl) ?_
  refine r_nil ?_
  refine hK2 _ _ _ ?_
  clear hK2 K2
  refine c_cond rfl (fun h0 => ?_) (fun h0 => ?_)
  ·
    refine c_seq (fun K3 hK3 => ?_)
    refine c_region ?_
    refine r_y rfl rfl (y_fieldAddr rfl At.lit fo50_1 rfl) ?_
    refine r_y rfl rfl (y_load_s rfl ts3 (RdS.blk (i := 1) rfl rfl)) ?_
    refine r_y rfl rfl (y_fieldAddr rfl At.lit fo50_1 rfl) ?_
    refine r_y rfl rfl (y_load_s rfl ts3 (RdS.blk (i := 0) rfl rfl)) ?_
    refine r_y rfl rfl (y_iop rfl rfl rfl) ?_
    refine r_y rfl rfl (y_assign rfl) ?_
    refine r_nil ?_
    refine hK3 _ _ _ ?_
    clear hK3 K3
    refine c_ret ?_
    refine e_ret 2 hm (res_tmps rfl) ?_
    refine ⟨congrArg Value.bool ?_, rfl⟩
    simp_all [ruleBefore, ruleCmp]
    try (split <;> simp_all <;> omega)
  ·
    refine c_skip ?_
    refine hK1 _ _ _ ?_
    clear hK1 K1
    refine c_seq (fun K4 hK4 => ?_)
    refine c_region ?_
    refine r_y rfl rfl (y_fieldAddr rfl At.lit fo50_0 rfl) ?_
    refine r_y rfl rfl (y_load_a (cs := encCube a.m) rfl ts29 (RdA.blk (i := 1) rfl rfl)) ?_
    refine r_y rfl rfl (y_fieldAddr rfl At.lit fo50_0 rfl) ?_
    refine r_y rfl rfl (y_load_a (cs := encCube b.m) rfl ts29 (RdA.blk (i := 0) rfl rfl)) ?_
    refine r_s rfl ?_
    refine s_call0 rfl Try.call139 rfl (rCompare_w a.m b.m _ _) ?_
    rintro _ m2 _ hm2 ⟨rfl, rfl⟩
    replace hm := hm.trans hm2
    clear hm2
    refine r_y rfl rfl (y_iop rfl rfl rfl) ?_
    refine r_y rfl rfl (y_assign rfl) ?_
    refine r_nil ?_
    refine hK4 _ _ _ ?_
    clear hK4 K4
    refine c_ret ?_
    refine e_ret 2 hm (res_tmps rfl) ?_
    refine ⟨congrArg Value.bool ?_, rfl⟩
    simp_all [ruleBefore, ruleCmp]
    try (split <;> simp_all <;> omega)
end Go.Aw
