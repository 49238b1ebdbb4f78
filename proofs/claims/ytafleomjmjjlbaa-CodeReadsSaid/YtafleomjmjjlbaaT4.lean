import Derived.Test.YtafleomjmjjlbaaT3
import Derived.Test.YtafleomjmjjlbaaData2
namespace Go.Aw
open Go Go.Proofs
theorem ts35 : tshape Try.prog 35 = some (true, 48) := by kernel_rfl
theorem tz35 : tzero Try.prog 35 = some [.int .i64 0, .int .i64 0, .int .i64 0, .int .i64 0, .int .u64 0, .int .u64 0, .int .u64 0, .int .u64 0, .int .u64 0, .int .u64 0, .int .u64 0, .int .u64 0, .int .u64 0, .int .u64 0, .int .u64 0, .int .u64 0, .int .u64 0, .int .u64 0, .int .u64 0, .int .u64 0, .int .u64 0, .int .u64 0, .int .u64 0, .int .u64 0, .int .u64 0, .int .u64 0, .int .u64 0, .int .u64 0, .int .i64 0, .slice none 0 0, .int .i64 0, .int .i64 0, .int .i64 0, .bool false, .int .i64 0, .int .u64 0, .int .u64 0, .int .u64 0, .int .u64 0, .int .u64 0, .int .u64 0, .int .u64 0, .int .u64 0, .int .u64 0, .int .u64 0, .int .u64 0, .int .u64 0, .slice none 0 0] := by kernel_rfl
theorem fo35_0 : fieldOff Try.prog 35 0 = some 0 := by kernel_rfl
theorem fo35_1 : fieldOff Try.prog 35 1 = some 1 := by kernel_rfl
set_option maxRecDepth 100000 in
theorem body_ok (x : MsgD) (sm sr : Sl) (lr : List (RuleD × Sl)) (m : Snap) (H : Hp) (hz : MsgOk m x sm sr lr) : Fn Try.prog 78 [.agg (encMsg x sm sr).toArray] m H (fun v _ H' => v = .bool (msgBody x) ∧ H' = H) := by
  have hl := hz.len
  have hm : m.le m := Snap.le.refl m
  refine fn_end Try.func78 rfl rfl rfl ?_
  refine c_seq (fun K0 hK0 => ?_)
  refine c_region ?_
  refine r_s rfl ?_
  refine s_box_a rfl rfl (fun b0 => ?_)
  refine r_y rfl rfl (y_assign rfl) ?_
  refine r_nil ?_
  refine hK0 _ _ _ ?_
  clear hK0 K0
  refine c_seq (fun K1 hK1 => ?_)
  refine c_region ?_
  refine r_y rfl rfl (y_load_a (cs := encMsg x sm sr) rfl ts35 (RdA.blk (i := 0) rfl rfl)) ?_
  refine r_s rfl ?_
  refine s_alloc rfl tz35 (fun b1 => ?_)
  refine r_s rfl ?_
  refine s_store (us := encMsg x sm sr) rfl rfl rfl ts35 rfl rfl (one_msg _ _ _) (i := 0) rfl rfl ?_
  refine r_nil ?_
  refine hK1 _ _ _ ?_
  clear hK1 K1
  refine c_seq (fun K2 hK2 => ?_)
  refine c_seq (fun K3 hK3 => ?_)
  refine c_region ?_
  refine r_y rfl rfl (y_fieldAddr rfl At.lit fo35_0 rfl) ?_
  refine r_y rfl rfl (y_load_s rfl ts3 (RdS.blk (i := 1) rfl rfl)) ?_
  refine r_nil ?_
  refine hK3 _ _ _ ?_
  clear hK3 K3
  refine c_block ?_
  refine c_seq (fun K4 hK4 => ?_)
  refine c_region ?_
  refine r_y rfl rfl (y_iop rfl rfl rfl) ?_
  refine r_y rfl rfl (y_assign rfl) ?_
  refine r_nil ?_
  refine hK4 _ _ _ ?_
  clear hK4 K4
  refine c_cond rfl (fun h0 => ?_) (fun h0 => ?_)
  ·
    refine c_seq (fun K5 hK5 => ?_)
    refine c_region ?_
    refine r_y rfl rfl (y_bld rfl tz32 fk32 bp32_ rfl rfl) ?_
    refine r_y rfl rfl (y_fieldAddr rfl At.lit fo35_3 rfl) ?_
    refine r_s rfl ?_
    refine s_store rfl rfl rfl ts32 rfl rfl (by simp [Value.oneCell', wv, Sl.v]) (i := 0) rfl rfl ?_
    refine r_nil ?_
    refine hK5 _ _ _ ?_
    clear hK5 K5
    refine c_seq (fun K6 hK6 => ?_)
    refine c_region ?_
    refine r_y rfl rfl (y_load_a (cs := encMsg { x with mod := zMod } zSl sr) rfl ts35 (RdA.blk (i := 0) rfl rfl)) ?_
    refine r_s rfl ?_
    refine s_call0 rfl Try.call126 rfl (empty_ok { x with mod := zMod } zSl sr lr _ _ ⟨fzA_nil _, fun _ => rfl, hz.rules, hz.eq⟩) ?_
    rintro _ m2 _ hm2 ⟨rfl, rfl⟩
    replace hm := hm.trans hm2
    replace hz := hz.mono hm2
    clear hm2
    refine r_y rfl rfl (y_move rfl) ?_
    refine r_split (j := 2) rfl (fun h1 => ?_) (fun h1 => ?_)
    ·
      refine r_yg rfl h1 rfl (y_fieldAddr rfl At.lit fo35_3 rfl) ?_
      refine r_yg rfl h1 rfl (y_load_a (cs := encMod x.mod sm) rfl ts32 (RdA.blk (i := 1) rfl rfl)) ?_
      refine r_sg rfl h1 ?_
      refine s_call0 rfl Try.call36 rfl (modSound_ok x.mod sm _ _ hz.mod) ?_
      rintro _ m2 _ hm2 ⟨rfl, rfl⟩
      replace hm := hm.trans hm2
      replace hz := hz.mono hm2
      clear hm2
      refine r_y rfl rfl (y_pickt rfl h1 rfl) ?_
      refine r_y rfl rfl (y_assign rfl) ?_
      refine r_nil ?_
      refine hK6 _ _ _ ?_
      clear hK6 K6
      refine c_ret ?_
      refine e_ret 2 hm (res_tmps rfl) ?_
      have hlr := hz.eq
      refine ⟨congrArg Value.bool ?_, rfl⟩
      first | (simp_all [msgBody]; done) | (simp_all [msgBody]; omega) | (simp_all [msgBody]; intros; omega) | (rw [Bool.eq_iff_iff]; simp_all [msgBody]; done)
    ·
      refine r_no' rfl rfl h1 ?_
      refine r_no' rfl rfl h1 ?_
      refine r_no' rfl rfl h1 ?_
      refine r_y rfl rfl (y_pickf rfl h1 rfl) ?_
      refine r_y rfl rfl (y_assign rfl) ?_
      refine r_nil ?_
      refine hK6 _ _ _ ?_
      clear hK6 K6
      refine c_ret ?_
      refine e_ret 2 hm (res_tmps rfl) ?_
      have hlr := hz.eq
      refine ⟨congrArg Value.bool ?_, rfl⟩
      first | (simp_all [msgBody]; done) | (simp_all [msgBody]; omega) | (simp_all [msgBody]; intros; omega) | (rw [Bool.eq_iff_iff]; simp_all [msgBody]; done)
  ·
    refine c_seq (fun K7 hK7 => ?_)
    refine c_region ?_
    refine r_y rfl rfl (y_iop rfl rfl rfl) ?_
    refine r_y rfl rfl (y_assign rfl) ?_
    refine r_nil ?_
    refine hK7 _ _ _ ?_
    clear hK7 K7
    refine c_cond rfl (fun h2 => ?_) (fun h2 => ?_)
    ·
      refine c_seq (fun K8 hK8 => ?_)
      refine c_region ?_
      refine r_y rfl rfl (y_fieldAddr rfl At.lit fo35_2 rfl) ?_
      refine r_s rfl ?_
      refine s_store rfl rfl rfl ts24 rfl rfl (by simp [Value.oneCell', wv, Sl.v]) (i := 0) rfl rfl ?_
      refine r_nil ?_
      refine hK8 _ _ _ ?_
      clear hK8 K8
      refine c_seq (fun K9 hK9 => ?_)
      refine c_region ?_
      refine r_y rfl rfl (y_load_a (cs := encMsg { x with e := 0 } sm sr) rfl ts35 (RdA.blk (i := 0) rfl rfl)) ?_
      refine r_s rfl ?_
      refine s_call0 rfl Try.call126 rfl (empty_ok { x with e := 0 } sm sr lr _ _ ⟨hz.mod, hz.modok, hz.rules, hz.eq⟩) ?_
      rintro _ m2 _ hm2 ⟨rfl, rfl⟩
      replace hm := hm.trans hm2
      replace hz := hz.mono hm2
      clear hm2
      refine r_y rfl rfl (y_move rfl) ?_
      refine r_split (j := 2) rfl (fun h3 => ?_) (fun h3 => ?_)
      ·
        refine r_yg rfl h3 rfl (y_fieldAddr rfl At.lit fo35_2 rfl) ?_
        refine r_yg rfl h3 rfl (y_load_s rfl ts24 (RdS.blk (i := 1) rfl rfl)) ?_
        refine r_yg rfl h3 rfl (y_iop rfl rfl rfl) ?_
        refine r_y rfl rfl (y_pickt rfl h3 rfl) ?_
        refine r_y rfl rfl (y_move rfl) ?_
        refine r_split (j := 7) rfl (fun h4 => ?_) (fun h4 => ?_)
        ·
          refine r_yg rfl h4 rfl (y_fieldAddr rfl At.lit fo35_2 rfl) ?_
          refine r_yg rfl h4 rfl (y_load_s rfl ts24 (RdS.blk (i := 1) rfl rfl)) ?_
          refine r_yg rfl h4 rfl (y_iop rfl rfl rfl) ?_
          refine r_y rfl rfl (y_pickt rfl h4 rfl) ?_
          refine r_y rfl rfl (y_assign rfl) ?_
          refine r_nil ?_
          refine hK9 _ _ _ ?_
          clear hK9 K9
          refine c_ret ?_
          refine e_ret 2 hm (res_tmps rfl) ?_
          have hlr := hz.eq
          refine ⟨congrArg Value.bool ?_, rfl⟩
          first | (simp_all [msgBody]; done) | (simp_all [msgBody]; omega) | (simp_all [msgBody]; intros; omega) | (rw [Bool.eq_iff_iff]; simp_all [msgBody]; done)
        ·
          refine r_no' rfl rfl h4 ?_
          refine r_no' rfl rfl h4 ?_
          refine r_no' rfl rfl h4 ?_
          refine r_y rfl rfl (y_pickf rfl h4 rfl) ?_
          refine r_y rfl rfl (y_assign rfl) ?_
          refine r_nil ?_
          refine hK9 _ _ _ ?_
          clear hK9 K9
          refine c_ret ?_
          refine e_ret 2 hm (res_tmps rfl) ?_
          have hlr := hz.eq
          refine ⟨congrArg Value.bool ?_, rfl⟩
          first | (simp_all [msgBody]; done) | (simp_all [msgBody]; omega) | (simp_all [msgBody]; intros; omega) | (rw [Bool.eq_iff_iff]; simp_all [msgBody]; done)
      ·
        refine r_no' rfl rfl h3 ?_
        refine r_no' rfl rfl h3 ?_
        refine r_no' rfl rfl h3 ?_
        refine r_y rfl rfl (y_pickf rfl h3 rfl) ?_
        refine r_y rfl rfl (y_move rfl) ?_
        refine r_no' rfl rfl rfl ?_
        refine r_no' rfl rfl rfl ?_
        refine r_no' rfl rfl rfl ?_
        refine r_y rfl rfl (y_pickf rfl rfl rfl) ?_
        refine r_y rfl rfl (y_assign rfl) ?_
        refine r_nil ?_
        refine hK9 _ _ _ ?_
        clear hK9 K9
        refine c_ret ?_
        refine e_ret 2 hm (res_tmps rfl) ?_
        have hlr := hz.eq
        refine ⟨congrArg Value.bool ?_, rfl⟩
        first | (simp_all [msgBody]; done) | (simp_all [msgBody]; omega) | (simp_all [msgBody]; intros; omega) | (rw [Bool.eq_iff_iff]; simp_all [msgBody]; done)
    ·
      refine c_seq (fun K10 hK10 => ?_)
      refine c_region ?_
      refine r_y rfl rfl (y_iop rfl rfl rfl) ?_
      refine r_y rfl rfl (y_assign rfl) ?_
      refine r_nil ?_
      refine hK10 _ _ _ ?_
      clear hK10 K10
      refine c_cond rfl (fun h5 => ?_) (fun h5 => ?_)
      ·
        refine c_seq (fun K11 hK11 => ?_)
        refine c_region ?_
        refine r_y rfl rfl (y_bld rfl tz27 fk27 bp27_ rfl rfl) ?_
        refine r_y rfl rfl (y_fieldAddr rfl At.lit fo35_4 rfl) ?_
        refine r_s rfl ?_
        refine s_store rfl rfl rfl ts3 rfl rfl (by simp [Value.oneCell', wv, Sl.v]) (i := 0) rfl rfl ?_
        refine r_y rfl rfl (y_fieldAddr rfl At.lit fo35_5 rfl) ?_
        refine r_s rfl ?_
        refine s_store rfl rfl rfl ts27 rfl rfl (by simp [Value.oneCell', wv, Sl.v]) (i := 0) rfl rfl ?_
        refine r_nil ?_
        refine hK11 _ _ _ ?_
        clear hK11 K11
        refine c_seq (fun K12 hK12 => ?_)
        refine c_region ?_
        refine r_y rfl rfl (y_load_a (cs := encMsg { x with port := 0, head := zHead } sm sr) rfl ts35 (RdA.blk (i := 0) rfl rfl)) ?_
        refine r_s rfl ?_
        refine s_call0 rfl Try.call126 rfl (empty_ok { x with port := 0, head := zHead } sm sr lr _ _ ⟨hz.mod, hz.modok, hz.rules, hz.eq⟩) ?_
        rintro _ m2 _ hm2 ⟨rfl, rfl⟩
        replace hm := hm.trans hm2
        replace hz := hz.mono hm2
        clear hm2
        refine r_y rfl rfl (y_move rfl) ?_
        refine r_split (j := 2) rfl (fun h6 => ?_) (fun h6 => ?_)
        ·
          refine r_yg rfl h6 rfl (y_fieldAddr rfl At.lit fo35_4 rfl) ?_
          refine r_yg rfl h6 rfl (y_load_s rfl ts3 (RdS.blk (i := 1) rfl rfl)) ?_
          refine r_yg rfl h6 rfl (y_iop rfl rfl rfl) ?_
          refine r_y rfl rfl (y_pickt rfl h6 rfl) ?_
          refine r_y rfl rfl (y_move rfl) ?_
          refine r_split (j := 7) rfl (fun h7 => ?_) (fun h7 => ?_)
          ·
            refine r_yg rfl h7 rfl (y_fieldAddr rfl At.lit fo35_4 rfl) ?_
            refine r_yg rfl h7 rfl (y_load_s rfl ts3 (RdS.blk (i := 1) rfl rfl)) ?_
            refine r_yg rfl h7 rfl (y_iop rfl rfl rfl) ?_
            refine r_y rfl rfl (y_pickt rfl h7 rfl) ?_
            refine r_y rfl rfl (y_move rfl) ?_
            refine r_split (j := 12) rfl (fun h8 => ?_) (fun h8 => ?_)
            ·
              refine r_yg rfl h8 rfl (y_fieldAddr rfl At.lit fo35_5 rfl) ?_
              refine r_yg rfl h8 rfl (y_load_a (cs := encHead x.head) rfl ts27 (RdA.blk (i := 1) rfl rfl)) ?_
              refine r_sg rfl h8 ?_
              refine s_call0 rfl Try.call127 rfl (headSound_ok x.head _ _) ?_
              rintro _ m2 _ hm2 ⟨rfl, rfl⟩
              replace hm := hm.trans hm2
              replace hz := hz.mono hm2
              clear hm2
              refine r_y rfl rfl (y_pickt rfl h8 rfl) ?_
              refine r_y rfl rfl (y_assign rfl) ?_
              refine r_nil ?_
              refine hK12 _ _ _ ?_
              clear hK12 K12
              refine c_ret ?_
              refine e_ret 2 hm (res_tmps rfl) ?_
              have hlr := hz.eq
              refine ⟨congrArg Value.bool ?_, rfl⟩
              first | (simp_all [msgBody]; done) | (simp_all [msgBody]; omega) | (simp_all [msgBody]; intros; omega) | (rw [Bool.eq_iff_iff]; simp_all [msgBody]; done)
            ·
              refine r_no' rfl rfl h8 ?_
              refine r_no' rfl rfl h8 ?_
              refine r_no' rfl rfl h8 ?_
              refine r_y rfl rfl (y_pickf rfl h8 rfl) ?_
              refine r_y rfl rfl (y_assign rfl) ?_
              refine r_nil ?_
              refine hK12 _ _ _ ?_
              clear hK12 K12
              refine c_ret ?_
              refine e_ret 2 hm (res_tmps rfl) ?_
              have hlr := hz.eq
              refine ⟨congrArg Value.bool ?_, rfl⟩
              first | (simp_all [msgBody]; done) | (simp_all [msgBody]; omega) | (simp_all [msgBody]; intros; omega) | (rw [Bool.eq_iff_iff]; simp_all [msgBody]; done)
          ·
            refine r_no' rfl rfl h7 ?_
            refine r_no' rfl rfl h7 ?_
            refine r_no' rfl rfl h7 ?_
            refine r_y rfl rfl (y_pickf rfl h7 rfl) ?_
            refine r_y rfl rfl (y_move rfl) ?_
            refine r_no' rfl rfl rfl ?_
            refine r_no' rfl rfl rfl ?_
            refine r_no' rfl rfl rfl ?_
            refine r_y rfl rfl (y_pickf rfl rfl rfl) ?_
            refine r_y rfl rfl (y_assign rfl) ?_
            refine r_nil ?_
            refine hK12 _ _ _ ?_
            clear hK12 K12
            refine c_ret ?_
            refine e_ret 2 hm (res_tmps rfl) ?_
            have hlr := hz.eq
            refine ⟨congrArg Value.bool ?_, rfl⟩
            first | (simp_all [msgBody]; done) | (simp_all [msgBody]; omega) | (simp_all [msgBody]; intros; omega) | (rw [Bool.eq_iff_iff]; simp_all [msgBody]; done)
        ·
          refine r_no' rfl rfl h6 ?_
          refine r_no' rfl rfl h6 ?_
          refine r_no' rfl rfl h6 ?_
          refine r_y rfl rfl (y_pickf rfl h6 rfl) ?_
          refine r_y rfl rfl (y_move rfl) ?_
          refine r_no' rfl rfl rfl ?_
          refine r_no' rfl rfl rfl ?_
          refine r_no' rfl rfl rfl ?_
          refine r_y rfl rfl (y_pickf rfl rfl rfl) ?_
          refine r_y rfl rfl (y_move rfl) ?_
          refine r_no' rfl rfl rfl ?_
          refine r_no' rfl rfl rfl ?_
          refine r_no' rfl rfl rfl ?_
          refine r_y rfl rfl (y_pickf rfl rfl rfl) ?_
          refine r_y rfl rfl (y_assign rfl) ?_
          refine r_nil ?_
          refine hK12 _ _ _ ?_
          clear hK12 K12
          refine c_ret ?_
          refine e_ret 2 hm (res_tmps rfl) ?_
          have hlr := hz.eq
          refine ⟨congrArg Value.bool ?_, rfl⟩
          first | (simp_all [msgBody]; done) | (simp_all [msgBody]; omega) | (simp_all [msgBody]; intros; omega) | (rw [Bool.eq_iff_iff]; simp_all [msgBody]; done)
      ·
        refine c_seq (fun K13 hK13 => ?_)
        refine c_seq (fun K14 hK14 => ?_)
        refine c_region ?_
        refine r_y rfl rfl (y_iop rfl rfl rfl) ?_
        refine r_y rfl rfl (y_assign rfl) ?_
        refine r_nil ?_
        refine hK14 _ _ _ ?_
        clear hK14 K14
        refine c_cond rfl (fun h9 => ?_) (fun h9 => ?_)
        ·
          refine c_skip ?_
          refine hK13 _ _ _ ?_
          clear hK13 K13
          refine c_ift rfl h9 ?_
          refine c_seq (fun K15 hK15 => ?_)
          refine c_region ?_
          refine r_y rfl rfl (y_fieldAddr rfl At.lit fo35_6 rfl) ?_
          refine r_s rfl ?_
          refine s_store rfl rfl rfl ts33 rfl rfl (by simp [Value.oneCell', wv, Sl.v]) (i := 0) rfl rfl ?_
          refine r_nil ?_
          refine hK15 _ _ _ ?_
          clear hK15 K15
          refine c_seq (fun K16 hK16 => ?_)
          refine c_region ?_
          refine r_y rfl rfl (y_load_a (cs := encMsg { x with rules := [] } sm zSl) rfl ts35 (RdA.blk (i := 0) rfl rfl)) ?_
          refine r_s rfl ?_
          refine s_call0 rfl Try.call126 rfl (empty_ok { x with rules := [] } sm zSl [] _ _ ⟨hz.mod, hz.modok, fzR_nil _, rfl⟩) ?_
          rintro _ m2 _ hm2 ⟨rfl, rfl⟩
          replace hm := hm.trans hm2
          replace hz := hz.mono hm2
          clear hm2
          refine r_y rfl rfl (y_move rfl) ?_
          refine r_split (j := 2) rfl (fun h10 => ?_) (fun h10 => ?_)
          ·
            refine r_yg rfl h10 rfl (y_fieldAddr rfl At.lit fo35_6 rfl) ?_
            refine r_yg rfl h10 rfl (y_load_s rfl ts33 (RdS.blk (i := 1) rfl rfl)) ?_
            refine r_sg rfl h10 ?_
            refine s_call0 rfl Try.call80 rfl (ruleTable_ok sr lr _ _ hz.rules) ?_
            rintro _ m2 _ hm2 ⟨rfl, rfl⟩
            replace hm := hm.trans hm2
            replace hz := hz.mono hm2
            clear hm2
            refine r_y rfl rfl (y_pickt rfl h10 rfl) ?_
            refine r_y rfl rfl (y_move rfl) ?_
            refine r_split (j := 7) rfl (fun h11 => ?_) (fun h11 => ?_)
            ·
              refine r_yg rfl h11 rfl (y_fieldAddr rfl At.lit fo35_0 rfl) ?_
              refine r_yg rfl h11 rfl (y_load_s rfl ts3 (RdS.blk (i := 1) rfl rfl)) ?_
              refine r_yg rfl h11 rfl (y_iop rfl rfl rfl) ?_
              refine r_yg rfl h11 rfl (y_move rfl) ?_
              refine r_split (j := 11) rfl (fun h12 => ?_) (fun h12 => ?_)
              ·
                refine r_no' rfl rfl h12 ?_
                refine r_no' rfl rfl h12 ?_
                refine r_no' rfl rfl h12 ?_
                refine r_no' rfl rfl h12 ?_
                refine r_yg rfl h11 rfl (y_pickt rfl h12 rfl) ?_
                refine r_y rfl rfl (y_pickt rfl h11 rfl) ?_
                refine r_y rfl rfl (y_assign rfl) ?_
                refine r_nil ?_
                refine hK16 _ _ _ ?_
                clear hK16 K16
                refine c_ret ?_
                refine e_ret 2 hm (res_tmps rfl) ?_
                have hlr := hz.eq
                refine ⟨congrArg Value.bool ?_, rfl⟩
                first | (simp_all [msgBody]; done) | (simp_all [msgBody]; omega) | (simp_all [msgBody]; intros; omega) | (rw [Bool.eq_iff_iff]; simp_all [msgBody]; done)
              ·
                refine r_yg rfl h12 rfl (y_fieldAddr rfl At.lit fo35_6 rfl) ?_
                refine r_yg rfl h12 rfl (y_load_s rfl ts33 (RdS.blk (i := 1) rfl rfl)) ?_
                refine r_yg rfl h12 rfl (y_len tl33 rfl) ?_
                refine r_yg rfl h12 rfl (y_iop rfl rfl rfl) ?_
                refine r_yg rfl h11 rfl (y_pickf rfl h12 rfl) ?_
                refine r_y rfl rfl (y_pickt rfl h11 rfl) ?_
                refine r_y rfl rfl (y_assign rfl) ?_
                refine r_nil ?_
                refine hK16 _ _ _ ?_
                clear hK16 K16
                refine c_ret ?_
                refine e_ret 2 hm (res_tmps rfl) ?_
                have hlr := hz.eq
                refine ⟨congrArg Value.bool ?_, rfl⟩
                first | (simp_all [msgBody]; done) | (simp_all [msgBody]; omega) | (simp_all [msgBody]; intros; omega) | (rw [Bool.eq_iff_iff]; simp_all [msgBody]; done)
            ·
              refine r_no' rfl rfl h11 ?_
              refine r_no' rfl rfl h11 ?_
              refine r_no' rfl rfl h11 ?_
              refine r_no' rfl rfl h11 ?_
              refine r_nou rfl rfl ?_
              refine r_nou rfl rfl ?_
              refine r_nou rfl rfl ?_
              refine r_nou rfl rfl ?_
              refine r_no' rfl rfl h11 ?_
              refine r_y rfl rfl (y_pickf rfl h11 rfl) ?_
              refine r_y rfl rfl (y_assign rfl) ?_
              refine r_nil ?_
              refine hK16 _ _ _ ?_
              clear hK16 K16
              refine c_ret ?_
              refine e_ret 2 hm (res_tmps rfl) ?_
              have hlr := hz.eq
              refine ⟨congrArg Value.bool ?_, rfl⟩
              first | (simp_all [msgBody]; done) | (simp_all [msgBody]; omega) | (simp_all [msgBody]; intros; omega) | (rw [Bool.eq_iff_iff]; simp_all [msgBody]; done)
          ·
            refine r_no' rfl rfl h10 ?_
            refine r_no' rfl rfl h10 ?_
            refine r_no' rfl rfl h10 ?_
            refine r_y rfl rfl (y_pickf rfl h10 rfl) ?_
            refine r_y rfl rfl (y_move rfl) ?_
            refine r_no' rfl rfl rfl ?_
            refine r_no' rfl rfl rfl ?_
            refine r_no' rfl rfl rfl ?_
            refine r_no' rfl rfl rfl ?_
            refine r_nou rfl rfl ?_
            refine r_nou rfl rfl ?_
            refine r_nou rfl rfl ?_
            refine r_nou rfl rfl ?_
            refine r_no' rfl rfl rfl ?_
            refine r_y rfl rfl (y_pickf rfl rfl rfl) ?_
            refine r_y rfl rfl (y_assign rfl) ?_
            refine r_nil ?_
            refine hK16 _ _ _ ?_
            clear hK16 K16
            refine c_ret ?_
            refine e_ret 2 hm (res_tmps rfl) ?_
            have hlr := hz.eq
            refine ⟨congrArg Value.bool ?_, rfl⟩
            first | (simp_all [msgBody]; done) | (simp_all [msgBody]; omega) | (simp_all [msgBody]; intros; omega) | (rw [Bool.eq_iff_iff]; simp_all [msgBody]; done)
        ·
          refine c_region ?_
          refine r_y rfl rfl (y_iop rfl rfl rfl) ?_
          refine r_y rfl rfl (y_assign rfl) ?_
          refine r_nil ?_
          refine hK13 _ _ _ ?_
          clear hK13 K13
          refine c_cond rfl (fun h13 => ?_) (fun h13 => ?_)
          ·
            refine c_seq (fun K17 hK17 => ?_)
            refine c_region ?_
            refine r_y rfl rfl (y_fieldAddr rfl At.lit fo35_6 rfl) ?_
            refine r_s rfl ?_
            refine s_store rfl rfl rfl ts33 rfl rfl (by simp [Value.oneCell', wv, Sl.v]) (i := 0) rfl rfl ?_
            refine r_nil ?_
            refine hK17 _ _ _ ?_
            clear hK17 K17
            refine c_seq (fun K18 hK18 => ?_)
            refine c_region ?_
            refine r_y rfl rfl (y_load_a (cs := encMsg { x with rules := [] } sm zSl) rfl ts35 (RdA.blk (i := 0) rfl rfl)) ?_
            refine r_s rfl ?_
            refine s_call0 rfl Try.call126 rfl (empty_ok { x with rules := [] } sm zSl [] _ _ ⟨hz.mod, hz.modok, fzR_nil _, rfl⟩) ?_
            rintro _ m2 _ hm2 ⟨rfl, rfl⟩
            replace hm := hm.trans hm2
            replace hz := hz.mono hm2
            clear hm2
            refine r_y rfl rfl (y_move rfl) ?_
            refine r_split (j := 2) rfl (fun h14 => ?_) (fun h14 => ?_)
            ·
              refine r_yg rfl h14 rfl (y_fieldAddr rfl At.lit fo35_6 rfl) ?_
              refine r_yg rfl h14 rfl (y_load_s rfl ts33 (RdS.blk (i := 1) rfl rfl)) ?_
              refine r_sg rfl h14 ?_
              refine s_call0 rfl Try.call80 rfl (ruleTable_ok sr lr _ _ hz.rules) ?_
              rintro _ m2 _ hm2 ⟨rfl, rfl⟩
              replace hm := hm.trans hm2
              replace hz := hz.mono hm2
              clear hm2
              refine r_y rfl rfl (y_pickt rfl h14 rfl) ?_
              refine r_y rfl rfl (y_move rfl) ?_
              refine r_split (j := 7) rfl (fun h15 => ?_) (fun h15 => ?_)
              ·
                refine r_yg rfl h15 rfl (y_fieldAddr rfl At.lit fo35_0 rfl) ?_
                refine r_yg rfl h15 rfl (y_load_s rfl ts3 (RdS.blk (i := 1) rfl rfl)) ?_
                refine r_yg rfl h15 rfl (y_iop rfl rfl rfl) ?_
                refine r_yg rfl h15 rfl (y_move rfl) ?_
                refine r_split (j := 11) rfl (fun h16 => ?_) (fun h16 => ?_)
                ·
                  refine r_no' rfl rfl h16 ?_
                  refine r_no' rfl rfl h16 ?_
                  refine r_no' rfl rfl h16 ?_
                  refine r_no' rfl rfl h16 ?_
                  refine r_yg rfl h15 rfl (y_pickt rfl h16 rfl) ?_
                  refine r_y rfl rfl (y_pickt rfl h15 rfl) ?_
                  refine r_y rfl rfl (y_assign rfl) ?_
                  refine r_nil ?_
                  refine hK18 _ _ _ ?_
                  clear hK18 K18
                  refine c_ret ?_
                  refine e_ret 2 hm (res_tmps rfl) ?_
                  have hlr := hz.eq
                  refine ⟨congrArg Value.bool ?_, rfl⟩
                  first | (simp_all [msgBody]; done) | (simp_all [msgBody]; omega) | (simp_all [msgBody]; intros; omega) | (rw [Bool.eq_iff_iff]; simp_all [msgBody]; done)
                ·
                  refine r_yg rfl h16 rfl (y_fieldAddr rfl At.lit fo35_6 rfl) ?_
                  refine r_yg rfl h16 rfl (y_load_s rfl ts33 (RdS.blk (i := 1) rfl rfl)) ?_
                  refine r_yg rfl h16 rfl (y_len tl33 rfl) ?_
                  refine r_yg rfl h16 rfl (y_iop rfl rfl rfl) ?_
                  refine r_yg rfl h15 rfl (y_pickf rfl h16 rfl) ?_
                  refine r_y rfl rfl (y_pickt rfl h15 rfl) ?_
                  refine r_y rfl rfl (y_assign rfl) ?_
                  refine r_nil ?_
                  refine hK18 _ _ _ ?_
                  clear hK18 K18
                  refine c_ret ?_
                  refine e_ret 2 hm (res_tmps rfl) ?_
                  have hlr := hz.eq
                  refine ⟨congrArg Value.bool ?_, rfl⟩
                  first | (simp_all [msgBody]; done) | (simp_all [msgBody]; omega) | (simp_all [msgBody]; intros; omega) | (rw [Bool.eq_iff_iff]; simp_all [msgBody]; done)
              ·
                refine r_no' rfl rfl h15 ?_
                refine r_no' rfl rfl h15 ?_
                refine r_no' rfl rfl h15 ?_
                refine r_no' rfl rfl h15 ?_
                refine r_nou rfl rfl ?_
                refine r_nou rfl rfl ?_
                refine r_nou rfl rfl ?_
                refine r_nou rfl rfl ?_
                refine r_no' rfl rfl h15 ?_
                refine r_y rfl rfl (y_pickf rfl h15 rfl) ?_
                refine r_y rfl rfl (y_assign rfl) ?_
                refine r_nil ?_
                refine hK18 _ _ _ ?_
                clear hK18 K18
                refine c_ret ?_
                refine e_ret 2 hm (res_tmps rfl) ?_
                have hlr := hz.eq
                refine ⟨congrArg Value.bool ?_, rfl⟩
                first | (simp_all [msgBody]; done) | (simp_all [msgBody]; omega) | (simp_all [msgBody]; intros; omega) | (rw [Bool.eq_iff_iff]; simp_all [msgBody]; done)
            ·
              refine r_no' rfl rfl h14 ?_
              refine r_no' rfl rfl h14 ?_
              refine r_no' rfl rfl h14 ?_
              refine r_y rfl rfl (y_pickf rfl h14 rfl) ?_
              refine r_y rfl rfl (y_move rfl) ?_
              refine r_no' rfl rfl rfl ?_
              refine r_no' rfl rfl rfl ?_
              refine r_no' rfl rfl rfl ?_
              refine r_no' rfl rfl rfl ?_
              refine r_nou rfl rfl ?_
              refine r_nou rfl rfl ?_
              refine r_nou rfl rfl ?_
              refine r_nou rfl rfl ?_
              refine r_no' rfl rfl rfl ?_
              refine r_y rfl rfl (y_pickf rfl rfl rfl) ?_
              refine r_y rfl rfl (y_assign rfl) ?_
              refine r_nil ?_
              refine hK18 _ _ _ ?_
              clear hK18 K18
              refine c_ret ?_
              refine e_ret 2 hm (res_tmps rfl) ?_
              have hlr := hz.eq
              refine ⟨congrArg Value.bool ?_, rfl⟩
              first | (simp_all [msgBody]; done) | (simp_all [msgBody]; omega) | (simp_all [msgBody]; intros; omega) | (rw [Bool.eq_iff_iff]; simp_all [msgBody]; done)
          ·
            refine c_skip ?_
            refine hK2 _ _ _ ?_
            clear hK2 K2
            refine c_seq (fun K19 hK19 => ?_)
            refine c_region ?_
            refine r_y rfl rfl (y_load_a (cs := encMsg x sm sr) rfl ts35 (RdA.blk (i := 1) rfl rfl)) ?_
            refine r_s rfl ?_
            refine s_call0 rfl Try.call126 rfl (empty_ok x sm sr lr _ _ hz) ?_
            rintro _ m2 _ hm2 ⟨rfl, rfl⟩
            replace hm := hm.trans hm2
            replace hz := hz.mono hm2
            clear hm2
            refine r_y rfl rfl (y_move rfl) ?_
            refine r_split (j := 2) rfl (fun h17 => ?_) (fun h17 => ?_)
            ·
              refine r_yg rfl h17 rfl (y_fieldAddr rfl At.lit fo35_0 rfl) ?_
              refine r_yg rfl h17 rfl (y_load_s rfl ts3 (RdS.blk (i := 1) rfl rfl)) ?_
              refine r_yg rfl h17 rfl (y_iop rfl rfl rfl) ?_
              refine r_y rfl rfl (y_pickt rfl h17 rfl) ?_
              refine r_y rfl rfl (y_move rfl) ?_
              refine r_split (j := 7) rfl (fun h18 => ?_) (fun h18 => ?_)
              ·
                refine r_yg rfl h18 rfl (y_fieldAddr rfl At.lit fo35_0 rfl) ?_
                refine r_yg rfl h18 rfl (y_load_s rfl ts3 (RdS.blk (i := 1) rfl rfl)) ?_
                refine r_yg rfl h18 rfl (y_iop rfl rfl rfl) ?_
                refine r_y rfl rfl (y_pickt rfl h18 rfl) ?_
                refine r_y rfl rfl (y_assign rfl) ?_
                refine r_nil ?_
                refine hK19 _ _ _ ?_
                clear hK19 K19
                refine c_ret ?_
                refine e_ret 2 hm (res_tmps rfl) ?_
                have hlr := hz.eq
                refine ⟨congrArg Value.bool ?_, rfl⟩
                first | (simp_all [msgBody]; done) | (simp_all [msgBody]; omega) | (simp_all [msgBody]; intros; omega) | (rw [Bool.eq_iff_iff]; simp_all [msgBody]; done)
              ·
                refine r_no' rfl rfl h18 ?_
                refine r_no' rfl rfl h18 ?_
                refine r_no' rfl rfl h18 ?_
                refine r_y rfl rfl (y_pickf rfl h18 rfl) ?_
                refine r_y rfl rfl (y_assign rfl) ?_
                refine r_nil ?_
                refine hK19 _ _ _ ?_
                clear hK19 K19
                refine c_ret ?_
                refine e_ret 2 hm (res_tmps rfl) ?_
                have hlr := hz.eq
                refine ⟨congrArg Value.bool ?_, rfl⟩
                first | (simp_all [msgBody]; done) | (simp_all [msgBody]; omega) | (simp_all [msgBody]; intros; omega) | (rw [Bool.eq_iff_iff]; simp_all [msgBody]; done)
            ·
              refine r_no' rfl rfl h17 ?_
              refine r_no' rfl rfl h17 ?_
              refine r_no' rfl rfl h17 ?_
              refine r_y rfl rfl (y_pickf rfl h17 rfl) ?_
              refine r_y rfl rfl (y_move rfl) ?_
              refine r_no' rfl rfl rfl ?_
              refine r_no' rfl rfl rfl ?_
              refine r_no' rfl rfl rfl ?_
              refine r_y rfl rfl (y_pickf rfl rfl rfl) ?_
              refine r_y rfl rfl (y_assign rfl) ?_
              refine r_nil ?_
              refine hK19 _ _ _ ?_
              clear hK19 K19
              refine c_ret ?_
              refine e_ret 2 hm (res_tmps rfl) ?_
              have hlr := hz.eq
              refine ⟨congrArg Value.bool ?_, rfl⟩
              first | (simp_all [msgBody]; done) | (simp_all [msgBody]; omega) | (simp_all [msgBody]; intros; omega) | (rw [Bool.eq_iff_iff]; simp_all [msgBody]; done)
set_option maxRecDepth 100000 in
theorem msgSound_ok (x : MsgD) (sm sr : Sl) (lr : List (RuleD × Sl)) (m : Snap) (H : Hp) (hz : MsgOk m x sm sr lr) : Fn Try.prog 30 [.agg (encMsg x sm sr).toArray] m H (fun v _ H' => v = .bool (msgSound x) ∧ H' = H) := by
  have hm : m.le m := Snap.le.refl m
  refine fn_end Try.func30 rfl rfl rfl ?_
  refine c_seq (fun K0 hK0 => ?_)
  refine c_region ?_
  refine r_s rfl ?_
  refine s_box_a rfl rfl (fun b0 => ?_)
  refine r_y rfl rfl (y_assign rfl) ?_
  refine r_nil ?_
  refine hK0 _ _ _ ?_
  clear hK0 K0
  refine c_seq (fun K1 hK1 => ?_)
  refine c_region ?_
  refine r_y rfl rfl (y_fieldAddr rfl At.lit fo35_1 rfl) ?_
  refine r_y rfl rfl (y_load_s rfl ts3 (RdS.blk (i := 0) rfl rfl)) ?_
  refine r_y rfl rfl (y_iop rfl rfl rfl) ?_
  refine r_y rfl rfl (y_move rfl) ?_
  refine r_split (j := 3) rfl (fun h0 => ?_) (fun h0 => ?_)
  ·
    refine r_yg rfl h0 rfl (y_fieldAddr rfl At.lit fo35_1 rfl) ?_
    refine r_yg rfl h0 rfl (y_load_s rfl ts3 (RdS.blk (i := 0) rfl rfl)) ?_
    refine r_yg rfl h0 rfl (y_iop rfl rfl rfl) ?_
    refine r_y rfl rfl (y_pickt rfl h0 rfl) ?_
    refine r_y rfl rfl (y_move rfl) ?_
    refine r_split (j := 8) rfl (fun h1 => ?_) (fun h1 => ?_)
    ·
      refine r_yg rfl h1 rfl (y_load_a (cs := encMsg x sm sr) rfl ts35 (RdA.blk (i := 0) rfl rfl)) ?_
      refine r_sg rfl h1 ?_
      refine s_call0 rfl Try.call78 rfl (body_ok x sm sr lr _ _ hz) ?_
      rintro _ m2 _ hm2 ⟨rfl, rfl⟩
      replace hm := hm.trans hm2
      replace hz := hz.mono hm2
      clear hm2
      refine r_y rfl rfl (y_pickt rfl h1 rfl) ?_
      refine r_y rfl rfl (y_assign rfl) ?_
      refine r_nil ?_
      refine hK1 _ _ _ ?_
      clear hK1 K1
      refine c_ret ?_
      refine e_ret 1 hm (res_tmps rfl) ?_
      refine ⟨congrArg Value.bool ?_, rfl⟩
      first | (simp_all [msgSound]; done) | (simp_all [msgSound]; omega) | (simp_all [msgSound]; intros; omega) | (rw [Bool.eq_iff_iff]; simp_all [msgSound]; done)
    ·
      refine r_no' rfl rfl h1 ?_
      refine r_no' rfl rfl h1 ?_
      refine r_y rfl rfl (y_pickf rfl h1 rfl) ?_
      refine r_y rfl rfl (y_assign rfl) ?_
      refine r_nil ?_
      refine hK1 _ _ _ ?_
      clear hK1 K1
      refine c_ret ?_
      refine e_ret 1 hm (res_tmps rfl) ?_
      refine ⟨congrArg Value.bool ?_, rfl⟩
      first | (simp_all [msgSound]; done) | (simp_all [msgSound]; omega) | (simp_all [msgSound]; intros; omega) | (rw [Bool.eq_iff_iff]; simp_all [msgSound]; done)
  ·
    refine r_no' rfl rfl h0 ?_
    refine r_no' rfl rfl h0 ?_
    refine r_no' rfl rfl h0 ?_
    refine r_y rfl rfl (y_pickf rfl h0 rfl) ?_
    refine r_y rfl rfl (y_move rfl) ?_
    refine r_no' rfl rfl rfl ?_
    refine r_no' rfl rfl rfl ?_
    refine r_y rfl rfl (y_pickf rfl rfl rfl) ?_
    refine r_y rfl rfl (y_assign rfl) ?_
    refine r_nil ?_
    refine hK1 _ _ _ ?_
    clear hK1 K1
    refine c_ret ?_
    refine e_ret 1 hm (res_tmps rfl) ?_
    refine ⟨congrArg Value.bool ?_, rfl⟩
    first | (simp_all [msgSound]; done) | (simp_all [msgSound]; omega) | (simp_all [msgSound]; intros; omega) | (rw [Bool.eq_iff_iff]; simp_all [msgSound]; done)
end Go.Aw
