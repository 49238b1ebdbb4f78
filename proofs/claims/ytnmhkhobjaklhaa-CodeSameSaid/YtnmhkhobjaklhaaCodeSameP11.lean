/- Part 11 of the words and walks that the proof behind it uses. -/
import Derived.Test.YtnmhkhobjaklhaaCodeSameP10
set_option linter.unusedVariables false
set_option linter.unusedSimpArgs false
namespace Go.Aw
open Go Go.Proofs
set_option maxRecDepth 100000 in
theorem ruleKey_w (a b : RuleD) (s1 s2 : Sl) (m : Snap) (H : Hp) : Fn Try.prog 125 [.agg (encRule a s1).toArray, .agg (encRule b s2).toArray] m H (fun v _ H' => v = .bool (decide (a.m = b.m) && (a.prio == b.prio)) ∧ H' = H) := by
  have hm : m.le m := Snap.le.refl m
  refine fn_end Try.func125 rfl rfl rfl ?_
  refine c_seq (fun K0 hK0 => ?_)
  refine c_region ?_
  refine r_s rfl ?_
  refine s_box_a rfl rfl (fun b0 => ?_)
  refine r_s rfl ?_
  refine s_box_a rfl rfl (fun b1 => ?_)
  refine r_y rfl rfl (y_assign rfl) ?_
  refine r_nil ?_
  refine hK0 _ _ _ ?_
  clear hK0 K0
  refine c_seq (fun K1 hK1 => ?_)
  refine c_region ?_
  refine r_y rfl rfl (y_fieldAddr rfl At.lit fo50_0 rfl) ?_
  refine r_y rfl rfl (y_load_a (cs := encCube a.m) rfl ts29 (RdA.blk (i := 1) rfl rfl)) ?_
  refine r_y rfl rfl (y_fieldAddr rfl At.lit fo50_0 rfl) ?_
  refine r_y rfl rfl (y_load_a (cs := encCube b.m) rfl ts29 (RdA.blk (i := 0) rfl rfl)) ?_
  refine r_y rfl rfl (y_eqagg (dd := 6)  rfl rfl en29 ia29 rfl Try.eqGuardType29 rfl (alike_cube a.m b.m)) ?_
  refine r_y rfl rfl (y_move rfl) ?_
  refine r_split (j := 5) rfl (fun h0 => ?_) (fun h0 => ?_)
  ·
    refine r_yg rfl h0 rfl (y_fieldAddr rfl At.lit fo50_1 rfl) ?_
    refine r_yg rfl h0 rfl (y_load_s rfl ts3 (RdS.blk (i := 1) rfl rfl)) ?_
    refine r_yg rfl h0 rfl (y_fieldAddr rfl At.lit fo50_1 rfl) ?_
    refine r_yg rfl h0 rfl (y_load_s rfl ts3 (RdS.blk (i := 0) rfl rfl)) ?_
    refine r_yg rfl h0 rfl (y_iop rfl rfl rfl) ?_
    refine r_y rfl rfl (y_pickt rfl h0 rfl) ?_
    refine r_y rfl rfl (y_assign rfl) ?_
    refine r_nil ?_
    refine hK1 _ _ _ ?_
    clear hK1 K1
    refine c_ret ?_
    refine e_ret 2 hm (res_tmps rfl) ?_
    refine ⟨congrArg Value.bool ?_, rfl⟩
    first | (simp_all [ceq_cube]; done) | (simp_all [ceq_cube]; omega) | (simp_all [ceq_cube]; intros; omega) | (rw [Bool.eq_iff_iff]; simp_all [ceq_cube]; done)
  ·
    refine r_no' rfl rfl h0 ?_
    refine r_no' rfl rfl h0 ?_
    refine r_no' rfl rfl h0 ?_
    refine r_no' rfl rfl h0 ?_
    refine r_no' rfl rfl h0 ?_
    refine r_y rfl rfl (y_pickf rfl h0 rfl) ?_
    refine r_y rfl rfl (y_assign rfl) ?_
    refine r_nil ?_
    refine hK1 _ _ _ ?_
    clear hK1 K1
    refine c_ret ?_
    refine e_ret 2 hm (res_tmps rfl) ?_
    refine ⟨congrArg Value.bool ?_, rfl⟩
    first | (simp_all [ceq_cube]; done) | (simp_all [ceq_cube]; omega) | (simp_all [ceq_cube]; intros; omega) | (rw [Bool.eq_iff_iff]; simp_all [ceq_cube]; done)
set_option maxRecDepth 100000 in
theorem ruleEqual_w (a b : RuleD) (s1 s2 : Sl) (m : Snap) (H : Hp) (hz1 : FzA m s1 a.acts) (hz2 : FzA m s2 b.acts) : Fn Try.prog 77 [.agg (encRule a s1).toArray, .agg (encRule b s2).toArray] m H (fun v _ H' => v = .bool (decide (a = b)) ∧ H' = H) := by
  have hm : m.le m := Snap.le.refl m
  refine fn_end Try.func77 rfl rfl rfl ?_
  refine c_seq (fun K0 hK0 => ?_)
  refine c_region ?_
  refine r_s rfl ?_
  refine s_box_a rfl rfl (fun b0 => ?_)
  refine r_s rfl ?_
  refine s_box_a rfl rfl (fun b1 => ?_)
  refine r_y rfl rfl (y_assign rfl) ?_
  refine r_nil ?_
  refine hK0 _ _ _ ?_
  clear hK0 K0
  refine c_seq (fun K1 hK1 => ?_)
  refine c_draw ([.blk b0 (.cells (encRule a s1).toArray 50), .blk b1 (.cells (encRule b s2).toArray 50)]) (by kernel_rfl) (fun hg => ?_)
  have hz1_g := hz1
  have hz2_g := hz2
  refine g_y (i := 0) (listed' := #[true, false, false, false, false, false]) rfl (by kernel_rfl) (by kernel_rfl) (by kernel_rfl) (by kernel_rfl) rfl rfl hg (allc (List.Mem.tail _ (List.Mem.head _)) (allc (List.Mem.head _) alln)) (fun m' H' hm' hX' => y_load_a (cs := encRule a s1) rfl ts50 (RdA.mem (hX' _ (List.Mem.head _)) rfl)) ?_
  refine g_y (i := 1) (listed' := #[true, true, false, false, false, false]) rfl (by kernel_rfl) (by kernel_rfl) (by kernel_rfl) (by kernel_rfl) rfl rfl hg (allc (List.Mem.tail _ (List.Mem.head _)) (allc (List.Mem.head _) alln)) (fun m' H' hm' hX' => y_load_a (cs := encRule b s2) rfl ts50 (RdA.mem (hX' _ (List.Mem.tail _ (List.Mem.head _))) rfl)) ?_
  refine g_each (rs := [2, 3]) (by kernel_rfl) (by simp) ⟨⟨_, rfl, rfl, ?_⟩, ⟨_, rfl, rfl, ?_⟩, trivial⟩
  ·
    refine s_alloc rfl tz50 (fun b2 => ?_)
    refine ⟨⟨hg, (allc (List.Mem.tail _ (List.Mem.tail _ (List.Mem.head _))) (allc (List.Mem.tail _ (List.Mem.head _)) alln))⟩, ?_⟩
    refine g_s (i := 3) (listed' := #[true, true, true, true, false, false]) rfl (by kernel_rfl) (by kernel_rfl) rfl ?_
    refine s_alloc rfl tz50 (fun b3 => ?_)
    refine ⟨⟨hg, (allc (List.Mem.tail _ (List.Mem.tail _ (List.Mem.tail _ (List.Mem.head _)))) (allc (List.Mem.tail _ (List.Mem.tail _ (List.Mem.head _))) alln))⟩, ?_⟩
    refine g_s (i := 4) (listed' := #[true, true, true, true, true, false]) rfl (by kernel_rfl) (by kernel_rfl) rfl ?_
    refine s_store (us := encRule a s1) rfl rfl rfl ts50 rfl rfl (one_rule _ _) (i := 1) rfl rfl ?_
    refine ⟨⟨hg, (allc (List.Mem.tail _ (List.Mem.tail _ (List.Mem.tail _ (List.Mem.head _)))) (allc (List.Mem.tail _ (List.Mem.tail _ (List.Mem.head _))) alln))⟩, ?_⟩
    refine g_s (i := 5) (listed' := #[true, true, true, true, true, true]) rfl (by kernel_rfl) (by kernel_rfl) rfl ?_
    refine s_store (us := encRule b s2) rfl rfl rfl ts50 rfl rfl (one_rule _ _) (i := 0) rfl rfl ?_
    refine ⟨⟨hg, (allc (List.Mem.tail _ (List.Mem.tail _ (List.Mem.tail _ (List.Mem.head _)))) (allc (List.Mem.tail _ (List.Mem.tail _ (List.Mem.head _))) alln))⟩, ?_⟩
    refine g_done (by kernel_rfl) ?_
    clear hg hz1_g hz2_g
    refine hK1 _ _ _ ?_
    clear hK1 K1
    refine c_seq (fun K2 hK2 => ?_)
    refine c_region ?_
    refine r_y rfl rfl (y_fieldAddr rfl At.lit fo50_2 rfl) ?_
    refine r_s rfl ?_
    refine s_store rfl rfl rfl ts30 rfl rfl (by simp [Value.oneCell', wv, Sl.v]) (i := 1) rfl rfl ?_
    refine r_y rfl rfl (y_fieldAddr rfl At.lit fo50_2 rfl) ?_
    refine r_s rfl ?_
    refine s_store rfl rfl rfl ts30 rfl rfl (by simp [Value.oneCell', wv, Sl.v]) (i := 0) rfl rfl ?_
    refine r_nil ?_
    refine hK2 _ _ _ ?_
    clear hK2 K2
    refine c_seq (fun K3 hK3 => ?_)
    refine c_region ?_
    refine r_y rfl rfl (y_fieldAddr rfl At.lit fo50_2 rfl) ?_
    refine r_y rfl rfl (y_load_s rfl ts30 (RdS.blk (i := 3) rfl rfl)) ?_
    refine r_y rfl rfl (y_fieldAddr rfl At.lit fo50_2 rfl) ?_
    refine r_y rfl rfl (y_load_s rfl ts30 (RdS.blk (i := 2) rfl rfl)) ?_
    refine r_s rfl ?_
    refine s_call0 rfl Try.call124 rfl (actSame_ok s1 s2 a.acts b.acts _ _ hz1 hz2) ?_
    rintro _ m2 _ hm2 ⟨rfl, rfl⟩
    replace hm := hm.trans hm2
    replace hz1 := hz1.mono hm2
    replace hz2 := hz2.mono hm2
    clear hm2
    refine r_y rfl rfl (y_move rfl) ?_
    refine r_split (j := 5) rfl (fun h0 => ?_) (fun h0 => ?_)
    ·
      refine r_yg rfl h0 rfl (y_load_a (cs := encRule { a with acts := [] } zSl) rfl ts50 (RdA.blk (i := 1) rfl rfl)) ?_
      refine r_yg rfl h0 rfl (y_load_a (cs := encRule { b with acts := [] } zSl) rfl ts50 (RdA.blk (i := 0) rfl rfl)) ?_
      refine r_sg rfl h0 ?_
      refine s_call0 rfl Try.call125 rfl (ruleKey_w { a with acts := [] } { b with acts := [] } zSl zSl _ _) ?_
      rintro _ m2 _ hm2 ⟨rfl, rfl⟩
      replace hm := hm.trans hm2
      replace hz1 := hz1.mono hm2
      replace hz2 := hz2.mono hm2
      clear hm2
      refine r_y rfl rfl (y_pickt rfl h0 rfl) ?_
      refine r_y rfl rfl (y_move rfl) ?_
      refine r_split (j := 10) rfl (fun h1 => ?_) (fun h1 => ?_)
      ·
        refine r_yg rfl h1 rfl (y_fieldAddr rfl At.lit fo50_3 rfl) ?_
        refine r_yg rfl h1 rfl (y_load_s rfl ts3 (RdS.blk (i := 1) rfl rfl)) ?_
        refine r_yg rfl h1 rfl (y_fieldAddr rfl At.lit fo50_3 rfl) ?_
        refine r_yg rfl h1 rfl (y_load_s rfl ts3 (RdS.blk (i := 0) rfl rfl)) ?_
        refine r_yg rfl h1 rfl (y_iop rfl rfl rfl) ?_
        refine r_y rfl rfl (y_pickt rfl h1 rfl) ?_
        refine r_y rfl rfl (y_move rfl) ?_
        refine r_split (j := 17) rfl (fun h2 => ?_) (fun h2 => ?_)
        ·
          refine r_yg rfl h2 rfl (y_fieldAddr rfl At.lit fo50_4 rfl) ?_
          refine r_yg rfl h2 rfl (y_load_s rfl ts3 (RdS.blk (i := 1) rfl rfl)) ?_
          refine r_yg rfl h2 rfl (y_fieldAddr rfl At.lit fo50_4 rfl) ?_
          refine r_yg rfl h2 rfl (y_load_s rfl ts3 (RdS.blk (i := 0) rfl rfl)) ?_
          refine r_yg rfl h2 rfl (y_iop rfl rfl rfl) ?_
          refine r_y rfl rfl (y_pickt rfl h2 rfl) ?_
          refine r_y rfl rfl (y_move rfl) ?_
          refine r_split (j := 24) rfl (fun h3 => ?_) (fun h3 => ?_)
          ·
            refine r_yg rfl h3 rfl (y_fieldAddr rfl At.lit fo50_5 rfl) ?_
            refine r_yg rfl h3 rfl (y_load_s rfl ts3 (RdS.blk (i := 1) rfl rfl)) ?_
            refine r_yg rfl h3 rfl (y_fieldAddr rfl At.lit fo50_5 rfl) ?_
            refine r_yg rfl h3 rfl (y_load_s rfl ts3 (RdS.blk (i := 0) rfl rfl)) ?_
            refine r_yg rfl h3 rfl (y_iop rfl rfl rfl) ?_
            refine r_y rfl rfl (y_pickt rfl h3 rfl) ?_
            refine r_y rfl rfl (y_move rfl) ?_
            refine r_split (j := 31) rfl (fun h4 => ?_) (fun h4 => ?_)
            ·
              refine r_yg rfl h4 rfl (y_fieldAddr rfl At.lit fo50_6 rfl) ?_
              refine r_yg rfl h4 rfl (y_load_s rfl ts3 (RdS.blk (i := 1) rfl rfl)) ?_
              refine r_yg rfl h4 rfl (y_fieldAddr rfl At.lit fo50_6 rfl) ?_
              refine r_yg rfl h4 rfl (y_load_s rfl ts3 (RdS.blk (i := 0) rfl rfl)) ?_
              refine r_yg rfl h4 rfl (y_iop rfl rfl rfl) ?_
              refine r_y rfl rfl (y_pickt rfl h4 rfl) ?_
              refine r_y rfl rfl (y_move rfl) ?_
              refine r_split (j := 38) rfl (fun h5 => ?_) (fun h5 => ?_)
              ·
                refine r_yg rfl h5 rfl (y_fieldAddr rfl At.lit fo50_7 rfl) ?_
                refine r_yg rfl h5 rfl (y_load_s rfl ts3 (RdS.blk (i := 1) rfl rfl)) ?_
                refine r_yg rfl h5 rfl (y_fieldAddr rfl At.lit fo50_7 rfl) ?_
                refine r_yg rfl h5 rfl (y_load_s rfl ts3 (RdS.blk (i := 0) rfl rfl)) ?_
                refine r_yg rfl h5 rfl (y_iop rfl rfl rfl) ?_
                refine r_y rfl rfl (y_pickt rfl h5 rfl) ?_
                refine r_y rfl rfl (y_move rfl) ?_
                refine r_split (j := 45) rfl (fun h6 => ?_) (fun h6 => ?_)
                ·
                  refine r_yg rfl h6 rfl (y_fieldAddr rfl At.lit fo50_8 rfl) ?_
                  refine r_yg rfl h6 rfl (y_load_s rfl ts3 (RdS.blk (i := 1) rfl rfl)) ?_
                  refine r_yg rfl h6 rfl (y_fieldAddr rfl At.lit fo50_8 rfl) ?_
                  refine r_yg rfl h6 rfl (y_load_s rfl ts3 (RdS.blk (i := 0) rfl rfl)) ?_
                  refine r_yg rfl h6 rfl (y_iop rfl rfl rfl) ?_
                  refine r_y rfl rfl (y_pickt rfl h6 rfl) ?_
                  refine r_y rfl rfl (y_assign rfl) ?_
                  refine r_nil ?_
                  refine hK3 _ _ _ ?_
                  clear hK3 K3
                  refine c_ret ?_
                  refine e_ret 4 hm (res_tmps rfl) ?_
                  cases a; cases b
                  refine ⟨congrArg Value.bool ?_, rfl⟩
                  first | (simp_all [ceq_cube]; done) | (simp_all [ceq_cube]; omega) | (simp_all [ceq_cube]; intros; omega) | (rw [Bool.eq_iff_iff]; simp_all [ceq_cube]; done)
                ·
                  refine r_no' rfl rfl h6 ?_
                  refine r_no' rfl rfl h6 ?_
                  refine r_no' rfl rfl h6 ?_
                  refine r_no' rfl rfl h6 ?_
                  refine r_no' rfl rfl h6 ?_
                  refine r_y rfl rfl (y_pickf rfl h6 rfl) ?_
                  refine r_y rfl rfl (y_assign rfl) ?_
                  refine r_nil ?_
                  refine hK3 _ _ _ ?_
                  clear hK3 K3
                  refine c_ret ?_
                  refine e_ret 4 hm (res_tmps rfl) ?_
                  cases a; cases b
                  refine ⟨congrArg Value.bool ?_, rfl⟩
                  first | (simp_all [ceq_cube]; done) | (simp_all [ceq_cube]; omega) | (simp_all [ceq_cube]; intros; omega) | (rw [Bool.eq_iff_iff]; simp_all [ceq_cube]; done)
              ·
                refine r_no' rfl rfl h5 ?_
                refine r_no' rfl rfl h5 ?_
                refine r_no' rfl rfl h5 ?_
                refine r_no' rfl rfl h5 ?_
                refine r_no' rfl rfl h5 ?_
                refine r_y rfl rfl (y_pickf rfl h5 rfl) ?_
                refine r_y rfl rfl (y_move rfl) ?_
                refine r_no' rfl rfl rfl ?_
                refine r_no' rfl rfl rfl ?_
                refine r_no' rfl rfl rfl ?_
                refine r_no' rfl rfl rfl ?_
                refine r_no' rfl rfl rfl ?_
                refine r_y rfl rfl (y_pickf rfl rfl rfl) ?_
                refine r_y rfl rfl (y_assign rfl) ?_
                refine r_nil ?_
                refine hK3 _ _ _ ?_
                clear hK3 K3
                refine c_ret ?_
                refine e_ret 4 hm (res_tmps rfl) ?_
                cases a; cases b
                refine ⟨congrArg Value.bool ?_, rfl⟩
                first | (simp_all [ceq_cube]; done) | (simp_all [ceq_cube]; omega) | (simp_all [ceq_cube]; intros; omega) | (rw [Bool.eq_iff_iff]; simp_all [ceq_cube]; done)
            ·
              refine r_no' rfl rfl h4 ?_
              refine r_no' rfl rfl h4 ?_
              refine r_no' rfl rfl h4 ?_
              refine r_no' rfl rfl h4 ?_
              refine r_no' rfl rfl h4 ?_
              refine r_y rfl rfl (y_pickf rfl h4 rfl) ?_
              refine r_y rfl rfl (y_move rfl) ?_
              refine r_no' rfl rfl rfl ?_
              refine r_no' rfl rfl rfl ?_
              refine r_no' rfl rfl rfl ?_
              refine r_no' rfl rfl rfl ?_
              refine r_no' rfl rfl rfl ?_
              refine r_y rfl rfl (y_pickf rfl rfl rfl) ?_
              refine r_y rfl rfl (y_move rfl) ?_
              refine r_no' rfl rfl rfl ?_
              refine r_no' rfl rfl rfl ?_
              refine r_no' rfl rfl rfl ?_
              refine r_no' rfl rfl rfl ?_
              refine r_no' rfl rfl rfl ?_
              refine r_y rfl rfl (y_pickf rfl rfl rfl) ?_
              refine r_y rfl rfl (y_assign rfl) ?_
              refine r_nil ?_
              refine hK3 _ _ _ ?_
              clear hK3 K3
              refine c_ret ?_
              refine e_ret 4 hm (res_tmps rfl) ?_
              cases a; cases b
              refine ⟨congrArg Value.bool ?_, rfl⟩
              first | (simp_all [ceq_cube]; done) | (simp_all [ceq_cube]; omega) | (simp_all [ceq_cube]; intros; omega) | (rw [Bool.eq_iff_iff]; simp_all [ceq_cube]; done)
          ·
            refine r_no' rfl rfl h3 ?_
            refine r_no' rfl rfl h3 ?_
            refine r_no' rfl rfl h3 ?_
            refine r_no' rfl rfl h3 ?_
            refine r_no' rfl rfl h3 ?_
            refine r_y rfl rfl (y_pickf rfl h3 rfl) ?_
            refine r_y rfl rfl (y_move rfl) ?_
            refine r_no' rfl rfl rfl ?_
            refine r_no' rfl rfl rfl ?_
            refine r_no' rfl rfl rfl ?_
            refine r_no' rfl rfl rfl ?_
            refine r_no' rfl rfl rfl ?_
            refine r_y rfl rfl (y_pickf rfl rfl rfl) ?_
            refine r_y rfl rfl (y_move rfl) ?_
            refine r_no' rfl rfl rfl ?_
            refine r_no' rfl rfl rfl ?_
            refine r_no' rfl rfl rfl ?_
            refine r_no' rfl rfl rfl ?_
            refine r_no' rfl rfl rfl ?_
            refine r_y rfl rfl (y_pickf rfl rfl rfl) ?_
            refine r_y rfl rfl (y_move rfl) ?_
            refine r_no' rfl rfl rfl ?_
            refine r_no' rfl rfl rfl ?_
            refine r_no' rfl rfl rfl ?_
            refine r_no' rfl rfl rfl ?_
            refine r_no' rfl rfl rfl ?_
            refine r_y rfl rfl (y_pickf rfl rfl rfl) ?_
            refine r_y rfl rfl (y_assign rfl) ?_
            refine r_nil ?_
            refine hK3 _ _ _ ?_
            clear hK3 K3
            refine c_ret ?_
            refine e_ret 4 hm (res_tmps rfl) ?_
            cases a; cases b
            refine ⟨congrArg Value.bool ?_, rfl⟩
            first | (simp_all [ceq_cube]; done) | (simp_all [ceq_cube]; omega) | (simp_all [ceq_cube]; intros; omega) | (rw [Bool.eq_iff_iff]; simp_all [ceq_cube]; done)
        ·
          refine r_no' rfl rfl h2 ?_
          refine r_no' rfl rfl h2 ?_
          refine r_no' rfl rfl h2 ?_
          refine r_no' rfl rfl h2 ?_
          refine r_no' rfl rfl h2 ?_
          refine r_y rfl rfl (y_pickf rfl h2 rfl) ?_
          refine r_y rfl rfl (y_move rfl) ?_
          refine r_no' rfl rfl rfl ?_
          refine r_no' rfl rfl rfl ?_
          refine r_no' rfl rfl rfl ?_
          refine r_no' rfl rfl rfl ?_
          refine r_no' rfl rfl rfl ?_
          refine r_y rfl rfl (y_pickf rfl rfl rfl) ?_
          refine r_y rfl rfl (y_move rfl) ?_
          refine r_no' rfl rfl rfl ?_
          refine r_no' rfl rfl rfl ?_
          refine r_no' rfl rfl rfl ?_
          refine r_no' rfl rfl rfl ?_
          refine r_no' rfl rfl rfl ?_
          refine r_y rfl rfl (y_pickf rfl rfl rfl) ?_
          refine r_y rfl rfl (y_move rfl) ?_
          refine r_no' rfl rfl rfl ?_
          refine r_no' rfl rfl rfl ?_
          refine r_no' rfl rfl rfl ?_
          refine r_no' rfl rfl rfl ?_
          refine r_no' rfl rfl rfl ?_
          refine r_y rfl rfl (y_pickf rfl rfl rfl) ?_
          refine r_y rfl rfl (y_move rfl) ?_
          refine r_no' rfl rfl rfl ?_
          refine r_no' rfl rfl rfl ?_
          refine r_no' rfl rfl rfl ?_
          refine r_no' rfl rfl rfl ?_
          refine r_no' rfl rfl rfl ?_
          refine r_y rfl rfl (y_pickf rfl rfl rfl) ?_
          refine r_y rfl rfl (y_assign rfl) ?_
          refine r_nil ?_
          refine hK3 _ _ _ ?_
          clear hK3 K3
          refine c_ret ?_
          refine e_ret 4 hm (res_tmps rfl) ?_
          cases a; cases b
          refine ⟨congrArg Value.bool ?_, rfl⟩
          first | (simp_all [ceq_cube]; done) | (simp_all [ceq_cube]; omega) | (simp_all [ceq_cube]; intros; omega) | (rw [Bool.eq_iff_iff]; simp_all [ceq_cube]; done)
      ·
        refine r_no' rfl rfl h1 ?_
        refine r_no' rfl rfl h1 ?_
        refine r_no' rfl rfl h1 ?_
        refine r_no' rfl rfl h1 ?_
        refine r_no' rfl rfl h1 ?_
        refine r_y rfl rfl (y_pickf rfl h1 rfl) ?_
        refine r_y rfl rfl (y_move rfl) ?_
        refine r_no' rfl rfl rfl ?_
        refine r_no' rfl rfl rfl ?_
        refine r_no' rfl rfl rfl ?_
        refine r_no' rfl rfl rfl ?_
        refine r_no' rfl rfl rfl ?_
        refine r_y rfl rfl (y_pickf rfl rfl rfl) ?_
        refine r_y rfl rfl (y_move rfl) ?_
        refine r_no' rfl rfl rfl ?_
        refine r_no' rfl rfl rfl ?_
        refine r_no' rfl rfl rfl ?_
        refine r_no' rfl rfl rfl ?_
        refine r_no' rfl rfl rfl ?_
        refine r_y rfl rfl (y_pickf rfl rfl rfl) ?_
        refine r_y rfl rfl (y_move rfl) ?_
        refine r_no' rfl rfl rfl ?_
        refine r_no' rfl rfl rfl ?_
        refine r_no' rfl rfl rfl ?_
        refine r_no' rfl rfl rfl ?_
        refine r_no' rfl rfl rfl ?_
        refine r_y rfl rfl (y_pickf rfl rfl rfl) ?_
        refine r_y rfl rfl (y_move rfl) ?_
        refine r_no' rfl rfl rfl ?_
        refine r_no' rfl rfl rfl ?_
        refine r_no' rfl rfl rfl ?_
        refine r_no' rfl rfl rfl ?_
        refine r_no' rfl rfl rfl ?_
        refine r_y rfl rfl (y_pickf rfl rfl rfl) ?_
        refine r_y rfl rfl (y_move rfl) ?_
        refine r_no' rfl rfl rfl ?_
        refine r_no' rfl rfl rfl ?_
        refine r_no' rfl rfl rfl ?_
        refine r_no' rfl rfl rfl ?_
        refine r_no' rfl rfl rfl ?_
        refine r_y rfl rfl (y_pickf rfl rfl rfl) ?_
        refine r_y rfl rfl (y_assign rfl) ?_
        refine r_nil ?_
        refine hK3 _ _ _ ?_
        clear hK3 K3
        refine c_ret ?_
        refine e_ret 4 hm (res_tmps rfl) ?_
        cases a; cases b
        refine ⟨congrArg Value.bool ?_, rfl⟩
        first | (simp_all [ceq_cube]; done) | (simp_all [ceq_cube]; omega) | (simp_all [ceq_cube]; intros; omega) | (rw [Bool.eq_iff_iff]; simp_all [ceq_cube]; done)
    ·
      refine r_no' rfl rfl h0 ?_
      refine r_no' rfl rfl h0 ?_
      refine r_no' rfl rfl h0 ?_
      refine r_y rfl rfl (y_pickf rfl h0 rfl) ?_
      refine r_y rfl rfl (y_move rfl) ?_
      refine r_no' rfl rfl rfl ?_
      refine r_no' rfl rfl rfl ?_
      refine r_no' rfl rfl rfl ?_
      refine r_no' rfl rfl rfl ?_
      refine r_no' rfl rfl rfl ?_
      refine r_y rfl rfl (y_pickf rfl rfl rfl) ?_
      refine r_y rfl rfl (y_move rfl) ?_
      refine r_no' rfl rfl rfl ?_
      refine r_no' rfl rfl rfl ?_
      refine r_no' rfl rfl rfl ?_
      refine r_no' rfl rfl rfl ?_
      refine r_no' rfl rfl rfl ?_
      refine r_y rfl rfl (y_pickf rfl rfl rfl) ?_
      refine r_y rfl rfl (y_move rfl) ?_
      refine r_no' rfl rfl rfl ?_
      refine r_no' rfl rfl rfl ?_
      refine r_no' rfl rfl rfl ?_
      refine r_no' rfl rfl rfl ?_
      refine r_no' rfl rfl rfl ?_
      refine r_y rfl rfl (y_pickf rfl rfl rfl) ?_
      refine r_y rfl rfl (y_move rfl) ?_
      refine r_no' rfl rfl rfl ?_
      refine r_no' rfl rfl rfl ?_
      refine r_no' rfl rfl rfl ?_
      refine r_no' rfl rfl rfl ?_
      refine r_no' rfl rfl rfl ?_
      refine r_y rfl rfl (y_pickf rfl rfl rfl) ?_
      refine r_y rfl rfl (y_move rfl) ?_
      refine r_no' rfl rfl rfl ?_
      refine r_no' rfl rfl rfl ?_
      refine r_no' rfl rfl rfl ?_
      refine r_no' rfl rfl rfl ?_
      refine r_no' rfl rfl rfl ?_
      refine r_y rfl rfl (y_pickf rfl rfl rfl) ?_
      refine r_y rfl rfl (y_move rfl) ?_
      refine r_no' rfl rfl rfl ?_
      refine r_no' rfl rfl rfl ?_
      refine r_no' rfl rfl rfl ?_
      refine r_no' rfl rfl rfl ?_
      refine r_no' rfl rfl rfl ?_
      refine r_y rfl rfl (y_pickf rfl rfl rfl) ?_
      refine r_y rfl rfl (y_assign rfl) ?_
      refine r_nil ?_
      refine hK3 _ _ _ ?_
      clear hK3 K3
      refine c_ret ?_
      refine e_ret 4 hm (res_tmps rfl) ?_
      cases a; cases b
      refine ⟨congrArg Value.bool ?_, rfl⟩
      first | (simp_all [ceq_cube]; done) | (simp_all [ceq_cube]; omega) | (simp_all [ceq_cube]; intros; omega) | (rw [Bool.eq_iff_iff]; simp_all [ceq_cube]; done)
  ·
    refine s_alloc rfl tz50 (fun b2 => ?_)
    refine ⟨⟨hg, (allc (List.Mem.tail _ (List.Mem.tail _ (List.Mem.head _))) (allc (List.Mem.tail _ (List.Mem.head _)) alln))⟩, ?_⟩
    refine g_s (i := 2) (listed' := #[true, true, true, true, false, false]) rfl (by kernel_rfl) (by kernel_rfl) rfl ?_
    refine s_alloc rfl tz50 (fun b3 => ?_)
    refine ⟨⟨hg, (allc (List.Mem.tail _ (List.Mem.tail _ (List.Mem.tail _ (List.Mem.head _)))) (allc (List.Mem.tail _ (List.Mem.tail _ (List.Mem.head _))) alln))⟩, ?_⟩
    refine g_s (i := 4) (listed' := #[true, true, true, true, true, false]) rfl (by kernel_rfl) (by kernel_rfl) rfl ?_
    refine s_store (us := encRule a s1) rfl rfl rfl ts50 rfl rfl (one_rule _ _) (i := 0) rfl rfl ?_
    refine ⟨⟨hg, (allc (List.Mem.tail _ (List.Mem.tail _ (List.Mem.tail _ (List.Mem.head _)))) (allc (List.Mem.tail _ (List.Mem.tail _ (List.Mem.head _))) alln))⟩, ?_⟩
    refine g_s (i := 5) (listed' := #[true, true, true, true, true, true]) rfl (by kernel_rfl) (by kernel_rfl) rfl ?_
    refine s_store (us := encRule b s2) rfl rfl rfl ts50 rfl rfl (one_rule _ _) (i := 1) rfl rfl ?_
    refine ⟨⟨hg, (allc (List.Mem.tail _ (List.Mem.tail _ (List.Mem.tail _ (List.Mem.head _)))) (allc (List.Mem.tail _ (List.Mem.tail _ (List.Mem.head _))) alln))⟩, ?_⟩
    refine g_done (by kernel_rfl) ?_
    clear hg hz1_g hz2_g
    refine hK1 _ _ _ ?_
    clear hK1 K1
    refine c_seq (fun K4 hK4 => ?_)
    refine c_region ?_
    refine r_y rfl rfl (y_fieldAddr rfl At.lit fo50_2 rfl) ?_
    refine r_s rfl ?_
    refine s_store rfl rfl rfl ts30 rfl rfl (by simp [Value.oneCell', wv, Sl.v]) (i := 0) rfl rfl ?_
    refine r_y rfl rfl (y_fieldAddr rfl At.lit fo50_2 rfl) ?_
    refine r_s rfl ?_
    refine s_store rfl rfl rfl ts30 rfl rfl (by simp [Value.oneCell', wv, Sl.v]) (i := 1) rfl rfl ?_
    refine r_nil ?_
    refine hK4 _ _ _ ?_
    clear hK4 K4
    refine c_seq (fun K5 hK5 => ?_)
    refine c_region ?_
    refine r_y rfl rfl (y_fieldAddr rfl At.lit fo50_2 rfl) ?_
    refine r_y rfl rfl (y_load_s rfl ts30 (RdS.blk (i := 3) rfl rfl)) ?_
    refine r_y rfl rfl (y_fieldAddr rfl At.lit fo50_2 rfl) ?_
    refine r_y rfl rfl (y_load_s rfl ts30 (RdS.blk (i := 2) rfl rfl)) ?_
    refine r_s rfl ?_
    refine s_call0 rfl Try.call124 rfl (actSame_ok s1 s2 a.acts b.acts _ _ hz1 hz2) ?_
    rintro _ m2 _ hm2 ⟨rfl, rfl⟩
    replace hm := hm.trans hm2
    replace hz1 := hz1.mono hm2
    replace hz2 := hz2.mono hm2
    clear hm2
    refine r_y rfl rfl (y_move rfl) ?_
    refine r_split (j := 5) rfl (fun h7 => ?_) (fun h7 => ?_)
    ·
      refine r_yg rfl h7 rfl (y_load_a (cs := encRule { a with acts := [] } zSl) rfl ts50 (RdA.blk (i := 0) rfl rfl)) ?_
      refine r_yg rfl h7 rfl (y_load_a (cs := encRule { b with acts := [] } zSl) rfl ts50 (RdA.blk (i := 1) rfl rfl)) ?_
      refine r_sg rfl h7 ?_
      refine s_call0 rfl Try.call125 rfl (ruleKey_w { a with acts := [] } { b with acts := [] } zSl zSl _ _) ?_
      rintro _ m2 _ hm2 ⟨rfl, rfl⟩
      replace hm := hm.trans hm2
      replace hz1 := hz1.mono hm2
      replace hz2 := hz2.mono hm2
      clear hm2
      refine r_y rfl rfl (y_pickt rfl h7 rfl) ?_
      refine r_y rfl rfl (y_move rfl) ?_
      refine r_split (j := 10) rfl (fun h8 => ?_) (fun h8 => ?_)
      ·
        refine r_yg rfl h8 rfl (y_fieldAddr rfl At.lit fo50_3 rfl) ?_
        refine r_yg rfl h8 rfl (y_load_s rfl ts3 (RdS.blk (i := 0) rfl rfl)) ?_
        refine r_yg rfl h8 rfl (y_fieldAddr rfl At.lit fo50_3 rfl) ?_
        refine r_yg rfl h8 rfl (y_load_s rfl ts3 (RdS.blk (i := 1) rfl rfl)) ?_
        refine r_yg rfl h8 rfl (y_iop rfl rfl rfl) ?_
        refine r_y rfl rfl (y_pickt rfl h8 rfl) ?_
        refine r_y rfl rfl (y_move rfl) ?_
        refine r_split (j := 17) rfl (fun h9 => ?_) (fun h9 => ?_)
        ·
          refine r_yg rfl h9 rfl (y_fieldAddr rfl At.lit fo50_4 rfl) ?_
          refine r_yg rfl h9 rfl (y_load_s rfl ts3 (RdS.blk (i := 0) rfl rfl)) ?_
          refine r_yg rfl h9 rfl (y_fieldAddr rfl At.lit fo50_4 rfl) ?_
          refine r_yg rfl h9 rfl (y_load_s rfl ts3 (RdS.blk (i := 1) rfl rfl)) ?_
          refine r_yg rfl h9 rfl (y_iop rfl rfl rfl) ?_
          refine r_y rfl rfl (y_pickt rfl h9 rfl) ?_
          refine r_y rfl rfl (y_move rfl) ?_
          refine r_split (j := 24) rfl (fun h10 => ?_) (fun h10 => ?_)
          ·
            refine r_yg rfl h10 rfl (y_fieldAddr rfl At.lit fo50_5 rfl) ?_
            refine r_yg rfl h10 rfl (y_load_s rfl ts3 (RdS.blk (i := 0) rfl rfl)) ?_
            refine r_yg rfl h10 rfl (y_fieldAddr rfl At.lit fo50_5 rfl) ?_
            refine r_yg rfl h10 rfl (y_load_s rfl ts3 (RdS.blk (i := 1) rfl rfl)) ?_
            refine r_yg rfl h10 rfl (y_iop rfl rfl rfl) ?_
            refine r_y rfl rfl (y_pickt rfl h10 rfl) ?_
            refine r_y rfl rfl (y_move rfl) ?_
            refine r_split (j := 31) rfl (fun h11 => ?_) (fun h11 => ?_)
            ·
              refine r_yg rfl h11 rfl (y_fieldAddr rfl At.lit fo50_6 rfl) ?_
              refine r_yg rfl h11 rfl (y_load_s rfl ts3 (RdS.blk (i := 0) rfl rfl)) ?_
              refine r_yg rfl h11 rfl (y_fieldAddr rfl At.lit fo50_6 rfl) ?_
              refine r_yg rfl h11 rfl (y_load_s rfl ts3 (RdS.blk (i := 1) rfl rfl)) ?_
              refine r_yg rfl h11 rfl (y_iop rfl rfl rfl) ?_
              refine r_y rfl rfl (y_pickt rfl h11 rfl) ?_
              refine r_y rfl rfl (y_move rfl) ?_
              refine r_split (j := 38) rfl (fun h12 => ?_) (fun h12 => ?_)
              ·
                refine r_yg rfl h12 rfl (y_fieldAddr rfl At.lit fo50_7 rfl) ?_
                refine r_yg rfl h12 rfl (y_load_s rfl ts3 (RdS.blk (i := 0) rfl rfl)) ?_
                refine r_yg rfl h12 rfl (y_fieldAddr rfl At.lit fo50_7 rfl) ?_
                refine r_yg rfl h12 rfl (y_load_s rfl ts3 (RdS.blk (i := 1) rfl rfl)) ?_
                refine r_yg rfl h12 rfl (y_iop rfl rfl rfl) ?_
                refine r_y rfl rfl (y_pickt rfl h12 rfl) ?_
                refine r_y rfl rfl (y_move rfl) ?_
                refine r_split (j := 45) rfl (fun h13 => ?_) (fun h13 => ?_)
                ·
                  refine r_yg rfl h13 rfl (y_fieldAddr rfl At.lit fo50_8 rfl) ?_
                  refine r_yg rfl h13 rfl (y_load_s rfl ts3 (RdS.blk (i := 0) rfl rfl)) ?_
                  refine r_yg rfl h13 rfl (y_fieldAddr rfl At.lit fo50_8 rfl) ?_
                  refine r_yg rfl h13 rfl (y_load_s rfl ts3 (RdS.blk (i := 1) rfl rfl)) ?_
                  refine r_yg rfl h13 rfl (y_iop rfl rfl rfl) ?_
                  refine r_y rfl rfl (y_pickt rfl h13 rfl) ?_
                  refine r_y rfl rfl (y_assign rfl) ?_
                  refine r_nil ?_
                  refine hK5 _ _ _ ?_
                  clear hK5 K5
                  refine c_ret ?_
                  refine e_ret 4 hm (res_tmps rfl) ?_
                  cases a; cases b
                  refine ⟨congrArg Value.bool ?_, rfl⟩
                  first | (simp_all [ceq_cube]; done) | (simp_all [ceq_cube]; omega) | (simp_all [ceq_cube]; intros; omega) | (rw [Bool.eq_iff_iff]; simp_all [ceq_cube]; done)
                ·
                  refine r_no' rfl rfl h13 ?_
                  refine r_no' rfl rfl h13 ?_
                  refine r_no' rfl rfl h13 ?_
                  refine r_no' rfl rfl h13 ?_
                  refine r_no' rfl rfl h13 ?_
                  refine r_y rfl rfl (y_pickf rfl h13 rfl) ?_
                  refine r_y rfl rfl (y_assign rfl) ?_
                  refine r_nil ?_
                  refine hK5 _ _ _ ?_
                  clear hK5 K5
                  refine c_ret ?_
                  refine e_ret 4 hm (res_tmps rfl) ?_
                  cases a; cases b
                  refine ⟨congrArg Value.bool ?_, rfl⟩
                  first | (simp_all [ceq_cube]; done) | (simp_all [ceq_cube]; omega) | (simp_all [ceq_cube]; intros; omega) | (rw [Bool.eq_iff_iff]; simp_all [ceq_cube]; done)
              ·
                refine r_no' rfl rfl h12 ?_
                refine r_no' rfl rfl h12 ?_
                refine r_no' rfl rfl h12 ?_
                refine r_no' rfl rfl h12 ?_
                refine r_no' rfl rfl h12 ?_
                refine r_y rfl rfl (y_pickf rfl h12 rfl) ?_
                refine r_y rfl rfl (y_move rfl) ?_
                refine r_no' rfl rfl rfl ?_
                refine r_no' rfl rfl rfl ?_
                refine r_no' rfl rfl rfl ?_
                refine r_no' rfl rfl rfl ?_
                refine r_no' rfl rfl rfl ?_
                refine r_y rfl rfl (y_pickf rfl rfl rfl) ?_
                refine r_y rfl rfl (y_assign rfl) ?_
                refine r_nil ?_
                refine hK5 _ _ _ ?_
                clear hK5 K5
                refine c_ret ?_
                refine e_ret 4 hm (res_tmps rfl) ?_
                cases a; cases b
                refine ⟨congrArg Value.bool ?_, rfl⟩
                first | (simp_all [ceq_cube]; done) | (simp_all [ceq_cube]; omega) | (simp_all [ceq_cube]; intros; omega) | (rw [Bool.eq_iff_iff]; simp_all [ceq_cube]; done)
            ·
              refine r_no' rfl rfl h11 ?_
              refine r_no' rfl rfl h11 ?_
              refine r_no' rfl rfl h11 ?_
              refine r_no' rfl rfl h11 ?_
              refine r_no' rfl rfl h11 ?_
              refine r_y rfl rfl (y_pickf rfl h11 rfl) ?_
              refine r_y rfl rfl (y_move rfl) ?_
              refine r_no' rfl rfl rfl ?_
              refine r_no' rfl rfl rfl ?_
              refine r_no' rfl rfl rfl ?_
              refine r_no' rfl rfl rfl ?_
              refine r_no' rfl rfl rfl ?_
              refine r_y rfl rfl (y_pickf rfl rfl rfl) ?_
              refine r_y rfl rfl (y_move rfl) ?_
              refine r_no' rfl rfl rfl ?_
              refine r_no' rfl rfl rfl ?_
              refine r_no' rfl rfl rfl ?_
              refine r_no' rfl rfl rfl ?_
              refine r_no' rfl rfl rfl ?_
              refine r_y rfl rfl (y_pickf rfl rfl rfl) ?_
              refine r_y rfl rfl (y_assign rfl) ?_
              refine r_nil ?_
              refine hK5 _ _ _ ?_
              clear hK5 K5
              refine c_ret ?_
              refine e_ret 4 hm (res_tmps rfl) ?_
              cases a; cases b
              refine ⟨congrArg Value.bool ?_, rfl⟩
              first | (simp_all [ceq_cube]; done) | (simp_all [ceq_cube]; omega) | (simp_all [ceq_cube]; intros; omega) | (rw [Bool.eq_iff_iff]; simp_all [ceq_cube]; done)
          ·
            refine r_no' rfl rfl h10 ?_
            refine r_no' rfl rfl h10 ?_
            refine r_no' rfl rfl h10 ?_
            refine r_no' rfl rfl h10 ?_
            refine r_no' rfl rfl h10 ?_
            refine r_y rfl rfl (y_pickf rfl h10 rfl) ?_
            refine r_y rfl rfl (y_move rfl) ?_
            refine r_no' rfl rfl rfl ?_
            refine r_no' rfl rfl rfl ?_
            refine r_no' rfl rfl rfl ?_
            refine r_no' rfl rfl rfl ?_
            refine r_no' rfl rfl rfl ?_
            refine r_y rfl rfl (y_pickf rfl rfl rfl) ?_
            refine r_y rfl rfl (y_move rfl) ?_
            refine r_no' rfl rfl rfl ?_
            refine r_no' rfl rfl rfl ?_
            refine r_no' rfl rfl rfl ?_
            refine r_no' rfl rfl rfl ?_
            refine r_no' rfl rfl rfl ?_
            refine r_y rfl rfl (y_pickf rfl rfl rfl) ?_
            refine r_y rfl rfl (y_move rfl) ?_
            refine r_no' rfl rfl rfl ?_
            refine r_no' rfl rfl rfl ?_
            refine r_no' rfl rfl rfl ?_
            refine r_no' rfl rfl rfl ?_
            refine r_no' rfl rfl rfl ?_
            refine r_y rfl rfl (y_pickf rfl rfl rfl) ?_
            refine r_y rfl rfl (y_assign rfl) ?_
            refine r_nil ?_
            refine hK5 _ _ _ ?_
            clear hK5 K5
            refine c_ret ?_
            refine e_ret 4 hm (res_tmps rfl) ?_
            cases a; cases b
            refine ⟨congrArg Value.bool ?_, rfl⟩
            first | (simp_all [ceq_cube]; done) | (simp_all [ceq_cube]; omega) | (simp_all [ceq_cube]; intros; omega) | (rw [Bool.eq_iff_iff]; simp_all [ceq_cube]; done)
        ·
          refine r_no' rfl rfl h9 ?_
          refine r_no' rfl rfl h9 ?_
          refine r_no' rfl rfl h9 ?_
          refine r_no' rfl rfl h9 ?_
          refine r_no' rfl rfl h9 ?_
          refine r_y rfl rfl (y_pickf rfl h9 rfl) ?_
          refine r_y rfl rfl (y_move rfl) ?_
          refine r_no' rfl rfl rfl ?_
          refine r_no' rfl rfl rfl ?_
          refine r_no' rfl rfl rfl ?_
          refine r_no' rfl rfl rfl ?_
          refine r_no' rfl rfl rfl ?_
          refine r_y rfl rfl (y_pickf rfl rfl rfl) ?_
          refine r_y rfl rfl (y_move rfl) ?_
          refine r_no' rfl rfl rfl ?_
          refine r_no' rfl rfl rfl ?_
          refine r_no' rfl rfl rfl ?_
          refine r_no' rfl rfl rfl ?_
          refine r_no' rfl rfl rfl ?_
          refine r_y rfl rfl (y_pickf rfl rfl rfl) ?_
          refine r_y rfl rfl (y_move rfl) ?_
          refine r_no' rfl rfl rfl ?_
          refine r_no' rfl rfl rfl ?_
          refine r_no' rfl rfl rfl ?_
          refine r_no' rfl rfl rfl ?_
          refine r_no' rfl rfl rfl ?_
          refine r_y rfl rfl (y_pickf rfl rfl rfl) ?_
          refine r_y rfl rfl (y_move rfl) ?_
          refine r_no' rfl rfl rfl ?_
          refine r_no' rfl rfl rfl ?_
          refine r_no' rfl rfl rfl ?_
          refine r_no' rfl rfl rfl ?_
          refine r_no' rfl rfl rfl ?_
          refine r_y rfl rfl (y_pickf rfl rfl rfl) ?_
          refine r_y rfl rfl (y_assign rfl) ?_
          refine r_nil ?_
          refine hK5 _ _ _ ?_
          clear hK5 K5
          refine c_ret ?_
          refine e_ret 4 hm (res_tmps rfl) ?_
          cases a; cases b
          refine ⟨congrArg Value.bool ?_, rfl⟩
          first | (simp_all [ceq_cube]; done) | (simp_all [ceq_cube]; omega) | (simp_all [ceq_cube]; intros; omega) | (rw [Bool.eq_iff_iff]; simp_all [ceq_cube]; done)
      ·
        refine r_no' rfl rfl h8 ?_
        refine r_no' rfl rfl h8 ?_
        refine r_no' rfl rfl h8 ?_
        refine r_no' rfl rfl h8 ?_
        refine r_no' rfl rfl h8 ?_
        refine r_y rfl rfl (y_pickf rfl h8 rfl) ?_
        refine r_y rfl rfl (y_move rfl) ?_
        refine r_no' rfl rfl rfl ?_
        refine r_no' rfl rfl rfl ?_
        refine r_no' rfl rfl rfl ?_
        refine r_no' rfl rfl rfl ?_
        refine r_no' rfl rfl rfl ?_
        refine r_y rfl rfl (y_pickf rfl rfl rfl) ?_
        refine r_y rfl rfl (y_move rfl) ?_
        refine r_no' rfl rfl rfl ?_
        refine r_no' rfl rfl rfl ?_
        refine r_no' rfl rfl rfl ?_
        refine r_no' rfl rfl rfl ?_
        refine r_no' rfl rfl rfl ?_
        refine r_y rfl rfl (y_pickf rfl rfl rfl) ?_
        refine r_y rfl rfl (y_move rfl) ?_
        refine r_no' rfl rfl rfl ?_
        refine r_no' rfl rfl rfl ?_
        refine r_no' rfl rfl rfl ?_
        refine r_no' rfl rfl rfl ?_
        refine r_no' rfl rfl rfl ?_
        refine r_y rfl rfl (y_pickf rfl rfl rfl) ?_
        refine r_y rfl rfl (y_move rfl) ?_
        refine r_no' rfl rfl rfl ?_
        refine r_no' rfl rfl rfl ?_
        refine r_no' rfl rfl rfl ?_
        refine r_no' rfl rfl rfl ?_
        refine r_no' rfl rfl rfl ?_
        refine r_y rfl rfl (y_pickf rfl rfl rfl) ?_
        refine r_y rfl rfl (y_move rfl) ?_
        refine r_no' rfl rfl rfl ?_
        refine r_no' rfl rfl rfl ?_
        refine r_no' rfl rfl rfl ?_
        refine r_no' rfl rfl rfl ?_
        refine r_no' rfl rfl rfl ?_
        refine r_y rfl rfl (y_pickf rfl rfl rfl) ?_
        refine r_y rfl rfl (y_assign rfl) ?_
        refine r_nil ?_
        refine hK5 _ _ _ ?_
        clear hK5 K5
        refine c_ret ?_
        refine e_ret 4 hm (res_tmps rfl) ?_
        cases a; cases b
        refine ⟨congrArg Value.bool ?_, rfl⟩
        first | (simp_all [ceq_cube]; done) | (simp_all [ceq_cube]; omega) | (simp_all [ceq_cube]; intros; omega) | (rw [Bool.eq_iff_iff]; simp_all [ceq_cube]; done)
    ·
      refine r_no' rfl rfl h7 ?_
      refine r_no' rfl rfl h7 ?_
      refine r_no' rfl rfl h7 ?_
      refine r_y rfl rfl (y_pickf rfl h7 rfl) ?_
      refine r_y rfl rfl (y_move rfl) ?_
      refine r_no' rfl rfl rfl ?_
      refine r_no' rfl rfl rfl ?_
      refine r_no' rfl rfl rfl ?_
      refine r_no' rfl rfl rfl ?_
      refine r_no' rfl rfl rfl ?_
      refine r_y rfl rfl (y_pickf rfl rfl rfl) ?_
      refine r_y rfl rfl (y_move rfl) ?_
      refine r_no' rfl rfl rfl ?_
      refine r_no' rfl rfl rfl ?_
      refine r_no' rfl rfl rfl ?_
      refine r_no' rfl rfl rfl ?_
      refine r_no' rfl rfl rfl ?_
      refine r_y rfl rfl (y_pickf rfl rfl rfl) ?_
      refine r_y rfl rfl (y_move rfl) ?_
      refine r_no' rfl rfl rfl ?_
      refine r_no' rfl rfl rfl ?_
      refine r_no' rfl rfl rfl ?_
      refine r_no' rfl rfl rfl ?_
      refine r_no' rfl rfl rfl ?_
      refine r_y rfl rfl (y_pickf rfl rfl rfl) ?_
      refine r_y rfl rfl (y_move rfl) ?_
      refine r_no' rfl rfl rfl ?_
      refine r_no' rfl rfl rfl ?_
      refine r_no' rfl rfl rfl ?_
      refine r_no' rfl rfl rfl ?_
      refine r_no' rfl rfl rfl ?_
      refine r_y rfl rfl (y_pickf rfl rfl rfl) ?_
      refine r_y rfl rfl (y_move rfl) ?_
      refine r_no' rfl rfl rfl ?_
      refine r_no' rfl rfl rfl ?_
      refine r_no' rfl rfl rfl ?_
      refine r_no' rfl rfl rfl ?_
      refine r_no' rfl rfl rfl ?_
      refine r_y rfl rfl (y_pickf rfl rfl rfl) ?_
      refine r_y rfl rfl (y_move rfl) ?_
      refine r_no' rfl rfl rfl ?_
      refine r_no' rfl rfl rfl ?_
      refine r_no' rfl rfl rfl ?_
      refine r_no' rfl rfl rfl ?_
      refine r_no' rfl rfl rfl ?_
      refine r_y rfl rfl (y_pickf rfl rfl rfl) ?_
      refine r_y rfl rfl (y_assign rfl) ?_
      refine r_nil ?_
      refine hK5 _ _ _ ?_
      clear hK5 K5
      refine c_ret ?_
      refine e_ret 4 hm (res_tmps rfl) ?_
      cases a; cases b
      refine ⟨congrArg Value.bool ?_, rfl⟩
      first | (simp_all [ceq_cube]; done) | (simp_all [ceq_cube]; omega) | (simp_all [ceq_cube]; intros; omega) | (rw [Bool.eq_iff_iff]; simp_all [ceq_cube]; done)
set_option maxRecDepth 100000 in
theorem ruleEqualF_w (s1 s2 : Sl) (l1 l2 : List (RuleD × Sl)) (m : Snap) (H : Hp) (hz1 : FzR m s1 l1) (hz2 : FzR m s2 l2) : Fn Try.prog 76 [s1.v, s2.v, .func (.func 77) #[] #[]] m H (fun v _ H' => v = .bool (decide (l1.map (·.1) = l2.map (·.1))) ∧ H' = H) := by
  have hm : m.le m := Snap.le.refl m
  refine fn_end Try.func76 rfl rfl rfl ?_
  refine c_seq (fun K0 hK0 => ?_)
  refine c_region ?_
  refine r_y rfl rfl (y_assign rfl) ?_
  refine r_nil ?_
  refine hK0 _ _ _ ?_
  clear hK0 K0
  refine c_seq (fun K1 hK1 => ?_)
  refine c_seq (fun K2 hK2 => ?_)
  refine c_region ?_
  refine r_y rfl rfl (y_move rfl) ?_
  refine r_y rfl rfl (y_len tl33 rfl) ?_
  refine r_y rfl rfl (y_move rfl) ?_
  refine r_y rfl rfl (y_len tl33 rfl) ?_
  refine r_y rfl rfl (y_iop rfl rfl rfl) ?_
  refine r_nil ?_
  refine hK2 _ _ _ ?_
  clear hK2 K2
  refine c_cond rfl (fun h0 => ?_) (fun h0 => ?_)
  ·
    refine c_seq (fun K3 hK3 => ?_)
    refine c_region ?_
    refine r_y rfl rfl (y_assign rfl) ?_
    refine r_nil ?_
    refine hK3 _ _ _ ?_
    clear hK3 K3
    refine c_ret ?_
    refine e_ret 0 hm (res_tmps rfl) ?_
    refine ⟨congrArg Value.bool ?_, rfl⟩
    have hl1 := hz1.len; have hl2 := hz2.len
    have : s1.n ≠ s2.n := by simp at h0; omega
    exact (decide_eq_false (by intro e; have := congrArg List.length e; simp at this; omega)).symm
  ·
    have hl1 := hz1.len
    have hl2 := hz2.len
    have hne : s1.n = s2.n := by simp at h0; omega
    have hmx := hz1.fz.max
    have hle := hz1.fz.le
    unfold maxLen at hmx
    refine c_skip ?_
    refine hK1 _ _ _ ?_
    clear hK1 K1
    refine c_seq (fun K4 hK4 => ?_)
    refine c_seq (fun K5 hK5 => ?_)
    refine c_region ?_
    refine r_y rfl rfl (y_move rfl) ?_
    refine r_y rfl rfl (y_len tl33 rfl) ?_
    refine r_y rfl rfl (y_move rfl) ?_
    refine r_nil ?_
    refine hK5 _ _ _ ?_
    clear hK5 K5
    refine c_block ?_
    refine c_loopx (α := Nat) (fun i => [(0, s1.v), (1, s2.v), (2, .func (.func 77) #[] #[]), (15, s1.v), (16, .int .i64 (s1.n : Nat)), (17, .int .i64 (i : Nat))]) (fun i => H) (fun k0 i m1 => (i + k0 = s1.n ∧ (l1.map (·.1)).take i = (l2.map (·.1)).take i) ∧ m.le m1 ∧ (FzR m1 s1 l1) ∧ (FzR m1 s2 l2)) (s1.n) 0 ⟨rfl, rfl, rfl, rfl, rfl, rfl, trivial⟩ rfl ⟨⟨by omega, rfl⟩, hm, hz1, hz2⟩ ?_
    clear hm hz1 hz2
    rintro k0 i m1 ⟨hi0, hm, hz1, hz2⟩
    obtain ⟨hi, hinv⟩ := hi0
    refine c_seq (fun K6 hK6 => ?_)
    refine c_region ?_
    refine r_y rfl rfl (y_iop rfl rfl rfl) ?_
    refine r_nil ?_
    refine hK6 _ _ _ ?_
    clear hK6 K6
    refine c_seq (fun K7 hK7 => ?_)
    refine c_cond rfl (fun h1 => ?_) (fun h1 => ?_)
    ·
      have hlt1 : i < s1.n := by simp at h1; omega
      have hlt2 : i < s2.n := by omega
      obtain ⟨x1, hx1⟩ := get_of_lt (l := l1) (k := i) (by omega)
      obtain ⟨x2, hx2⟩ := get_of_lt (l := l2) (k := i) (by omega)
      have hy1 : (l1.map (·.1))[i]? = some x1.1 := map_get hx1
      have hy2 : (l2.map (·.1))[i]? = some x2.1 := map_get hx2
      refine c_skip ?_
      refine hK7 _ _ _ ?_
      clear hK7 K7
      refine c_seq (fun K8 hK8 => ?_)
      refine c_block ?_
      refine c_seq (fun K9 hK9 => ?_)
      refine c_region ?_
      refine r_y rfl rfl (y_move rfl) ?_
      refine r_y rfl rfl (y_indexAddr_slice rfl rfl tl33 hlt1 (At.fz hz1.fz hlt1)) ?_
      refine r_y rfl rfl (y_load_a rfl ts50 (RdA.fz0 hz1.fz (map_get hx1))) ?_
      refine r_s rfl ?_
      refine s_alloc rfl tz50 (fun b0 => ?_)
      refine r_y rfl rfl (y_assign rfl) ?_
      refine r_s rfl ?_
      refine s_store (us := encRule x1.1 x1.2) rfl rfl rfl ts50 rfl rfl (one_rule _ _) (i := 0) rfl rfl ?_
      refine r_nil ?_
      refine hK9 _ _ _ ?_
      clear hK9 K9
      refine c_seq (fun K10 hK10 => ?_)
      refine c_region ?_
      refine r_y rfl rfl (y_move rfl) ?_
      refine r_y rfl rfl (y_move rfl) ?_
      refine r_y rfl rfl (y_indexAddr_slice rfl rfl tl33 hlt2 (At.fz hz2.fz hlt2)) ?_
      refine r_y rfl rfl (y_load_a rfl ts50 (RdA.fz0 hz2.fz (map_get hx2))) ?_
      refine r_s rfl ?_
      refine s_alloc rfl tz50 (fun b1 => ?_)
      refine r_s rfl ?_
      refine s_store (us := encRule x2.1 x2.2) rfl rfl rfl ts50 rfl rfl (one_rule _ _) (i := 0) rfl rfl ?_
      refine r_nil ?_
      refine hK10 _ _ _ ?_
      clear hK10 K10
      refine c_seq (fun K11 hK11 => ?_)
      refine c_region ?_
      refine r_y rfl rfl (y_move rfl) ?_
      refine r_y rfl rfl (y_load_a (cs := encRule x1.1 x1.2) rfl ts50 (RdA.blk (i := 1) rfl rfl)) ?_
      refine r_y rfl rfl (y_load_a (cs := encRule x2.1 x2.2) rfl ts50 (RdA.blk (i := 0) rfl rfl)) ?_
      refine r_s rfl ?_
      refine s_call rfl Try.call77 rfl rfl (ruleEqual_w x1.1 x2.1 x1.2 x2.2 _ _ (hz1.acts x1 (List.mem_of_getElem? hx1)).1 (hz2.acts x2 (List.mem_of_getElem? hx2)).1) ?_
      rintro _ m2 _ hm2 ⟨rfl, rfl⟩
      replace hm := hm.trans hm2
      replace hz1 := hz1.mono hm2
      replace hz2 := hz2.mono hm2
      clear hm2
      refine r_y rfl rfl (y_not rfl) ?_
      refine r_nil ?_
      refine hK11 _ _ _ ?_
      clear hK11 K11
      refine c_cond rfl (fun h2 => ?_) (fun h2 => ?_)
      ·
        refine c_seq (fun K12 hK12 => ?_)
        refine c_region ?_
        refine r_y rfl rfl (y_assign rfl) ?_
        refine r_nil ?_
        refine hK12 _ _ _ ?_
        clear hK12 K12
        refine c_ret ?_
        refine e_ret 2 hm (res_tmps rfl) ?_
        refine ⟨congrArg Value.bool ?_, rfl⟩
        refine (decide_eq_false ?_).symm
        intro e
        rw [e, hy2] at hy1
        simp at hy1 h2
        exact h2 hy1.symm
      ·
        refine c_skip ?_
        refine hK8 _ _ _ ?_
        clear hK8 K8
        refine c_region ?_
        refine r_del 1 rfl ?_
        refine r_del 0 rfl ?_
        first | refine r_y rfl rfl (y_inc rfl (by omega)) ?_ | refine r_y rfl rfl (y_iop rfl rfl rfl) ?_
        refine r_y rfl rfl (y_move rfl) ?_
        refine r_nil ?_
        exact ⟨k0 - 1, (i + 1), by omega, ⟨rfl, rfl, rfl, rfl, rfl, rfl, trivial⟩, rfl, ⟨by omega, by rw [List.take_add_one, List.take_add_one, hinv, hy1, hy2]; simp at h2; rw [h2]⟩, hm, hz1, hz2⟩
    ·
      refine c_exit ?_
      refine hK4 _ _ _ ?_
      clear hK7 K7 hK4 K4
      refine c_seq (fun K13 hK13 => ?_)
      refine c_region ?_
      refine r_y rfl rfl (y_assign rfl) ?_
      refine r_nil ?_
      refine hK13 _ _ _ ?_
      clear hK13 K13
      refine c_ret ?_
      refine e_ret 0 hm (res_tmps rfl) ?_
      refine ⟨congrArg Value.bool ?_, rfl⟩
      have hie : i = s1.n := by simp at h1; omega
      refine (decide_eq_true ?_).symm
      rw [List.take_of_length_le (by simp; omega), List.take_of_length_le (by simp; omega)] at hinv
      exact hinv
set_option maxRecDepth 100000 in
theorem ruleSame_w (s1 s2 : Sl) (l1 l2 : List (RuleD × Sl)) (m : Snap) (H : Hp) (hz1 : FzR m s1 l1) (hz2 : FzR m s2 l2) : Fn Try.prog 29 [s1.v, s2.v] m H (fun v _ H' => v = .bool (decide (l1.map (·.1) = l2.map (·.1))) ∧ H' = H) := by
  have hm : m.le m := Snap.le.refl m
  refine fn_end Try.func29 rfl rfl rfl ?_
  refine c_seq (fun K0 hK0 => ?_)
  refine c_region ?_
  refine r_y rfl rfl (y_assign rfl) ?_
  refine r_nil ?_
  refine hK0 _ _ _ ?_
  clear hK0 K0
  refine c_seq (fun K1 hK1 => ?_)
  refine c_region ?_
  refine r_y rfl rfl (y_move rfl) ?_
  refine r_y rfl rfl (y_move rfl) ?_
  refine r_s rfl ?_
  refine s_call0 rfl Try.call76 rfl (ruleEqualF_w s1 s2 l1 l2 _ _ hz1 hz2) ?_
  rintro _ m2 _ hm2 ⟨rfl, rfl⟩
  replace hm := hm.trans hm2
  replace hz1 := hz1.mono hm2
  replace hz2 := hz2.mono hm2
  clear hm2
  refine r_y rfl rfl (y_assign rfl) ?_
  refine r_nil ?_
  refine hK1 _ _ _ ?_
  clear hK1 K1
  refine c_ret ?_
  refine e_ret 0 hm (res_tmps rfl) ?_
  exact ⟨rfl, rfl⟩
set_option maxRecDepth 100000 in
theorem msgSame_w (x y : MsgD) (sm sr sm2 sr2 : Sl) (lr lr2 : List (RuleD × Sl)) (m : Snap) (H : Hp) (hz1 : MsgOk m x sm sr lr) (hz2 : MsgOk m y sm2 sr2 lr2) : Fn Try.prog 31 [.agg (encMsg x sm sr).toArray, .agg (encMsg y sm2 sr2).toArray] m H (fun v _ H' => v = .bool (decide (x = y)) ∧ H' = H) := by
  have hq1 := hz1.eq
  have hq2 := hz2.eq
  have hm : m.le m := Snap.le.refl m
  refine fn_end Try.func31 rfl rfl rfl ?_
  refine c_seq (fun K0 hK0 => ?_)
  refine c_region ?_
  refine r_s rfl ?_
  refine s_box_a rfl rfl (fun b0 => ?_)
  refine r_s rfl ?_
  refine s_box_a rfl rfl (fun b1 => ?_)
  refine r_y rfl rfl (y_assign rfl) ?_
  refine r_nil ?_
  refine hK0 _ _ _ ?_
  clear hK0 K0
  refine c_seq (fun K1 hK1 => ?_)
  refine c_region ?_
  refine r_y rfl rfl (y_fieldAddr rfl At.lit fo35_0 rfl) ?_
  refine r_y rfl rfl (y_load_s rfl ts3 (RdS.blk (i := 1) rfl rfl)) ?_
  refine r_y rfl rfl (y_fieldAddr rfl At.lit fo35_0 rfl) ?_
  refine r_y rfl rfl (y_load_s rfl ts3 (RdS.blk (i := 0) rfl rfl)) ?_
  refine r_y rfl rfl (y_iop rfl rfl rfl) ?_
  refine r_y rfl rfl (y_move rfl) ?_
  refine r_split (j := 5) rfl (fun h0 => ?_) (fun h0 => ?_)
  ·
    refine r_yg rfl h0 rfl (y_fieldAddr rfl At.lit fo35_1 rfl) ?_
    refine r_yg rfl h0 rfl (y_load_s rfl ts3 (RdS.blk (i := 1) rfl rfl)) ?_
    refine r_yg rfl h0 rfl (y_fieldAddr rfl At.lit fo35_1 rfl) ?_
    refine r_yg rfl h0 rfl (y_load_s rfl ts3 (RdS.blk (i := 0) rfl rfl)) ?_
    refine r_yg rfl h0 rfl (y_iop rfl rfl rfl) ?_
    refine r_y rfl rfl (y_pickt rfl h0 rfl) ?_
    refine r_y rfl rfl (y_move rfl) ?_
    refine r_split (j := 12) rfl (fun h1 => ?_) (fun h1 => ?_)
    ·
      refine r_yg rfl h1 rfl (y_fieldAddr rfl At.lit fo35_2 rfl) ?_
      refine r_yg rfl h1 rfl (y_load_s rfl ts24 (RdS.blk (i := 1) rfl rfl)) ?_
      refine r_yg rfl h1 rfl (y_fieldAddr rfl At.lit fo35_2 rfl) ?_
      refine r_yg rfl h1 rfl (y_load_s rfl ts24 (RdS.blk (i := 0) rfl rfl)) ?_
      refine r_yg rfl h1 rfl (y_iop rfl rfl rfl) ?_
      refine r_y rfl rfl (y_pickt rfl h1 rfl) ?_
      refine r_y rfl rfl (y_move rfl) ?_
      refine r_split (j := 19) rfl (fun h2 => ?_) (fun h2 => ?_)
      ·
        refine r_yg rfl h2 rfl (y_fieldAddr rfl At.lit fo35_3 rfl) ?_
        refine r_yg rfl h2 rfl (y_load_a (cs := encMod x.mod sm) rfl ts32 (RdA.blk (i := 1) rfl rfl)) ?_
        refine r_yg rfl h2 rfl (y_fieldAddr rfl At.lit fo35_3 rfl) ?_
        refine r_yg rfl h2 rfl (y_load_a (cs := encMod y.mod sm2) rfl ts32 (RdA.blk (i := 0) rfl rfl)) ?_
        refine r_sg rfl h2 ?_
        refine s_call0 rfl Try.call79 rfl (modSame_ok x.mod y.mod sm sm2 _ _ hz1.mod hz2.mod) ?_
        rintro _ m2 _ hm2 ⟨rfl, rfl⟩
        replace hm := hm.trans hm2
        replace hz1 := hz1.mono hm2
        replace hz2 := hz2.mono hm2
        clear hm2
        refine r_y rfl rfl (y_pickt rfl h2 rfl) ?_
        refine r_y rfl rfl (y_move rfl) ?_
        refine r_split (j := 26) rfl (fun h3 => ?_) (fun h3 => ?_)
        ·
          refine r_yg rfl h3 rfl (y_fieldAddr rfl At.lit fo35_4 rfl) ?_
          refine r_yg rfl h3 rfl (y_load_s rfl ts3 (RdS.blk (i := 1) rfl rfl)) ?_
          refine r_yg rfl h3 rfl (y_fieldAddr rfl At.lit fo35_4 rfl) ?_
          refine r_yg rfl h3 rfl (y_load_s rfl ts3 (RdS.blk (i := 0) rfl rfl)) ?_
          refine r_yg rfl h3 rfl (y_iop rfl rfl rfl) ?_
          refine r_y rfl rfl (y_pickt rfl h3 rfl) ?_
          refine r_y rfl rfl (y_move rfl) ?_
          refine r_split (j := 33) rfl (fun h4 => ?_) (fun h4 => ?_)
          ·
            refine r_yg rfl h4 rfl (y_fieldAddr rfl At.lit fo35_5 rfl) ?_
            refine r_yg rfl h4 rfl (y_load_a (cs := encHead x.head) rfl ts27 (RdA.blk (i := 1) rfl rfl)) ?_
            refine r_yg rfl h4 rfl (y_fieldAddr rfl At.lit fo35_5 rfl) ?_
            refine r_yg rfl h4 rfl (y_load_a (cs := encHead y.head) rfl ts27 (RdA.blk (i := 0) rfl rfl)) ?_
            refine r_yg rfl h4 rfl (y_eqagg (dd := 6)  rfl rfl en27 ia27 rfl Try.eqGuardType27 rfl (alike_head _ _)) ?_
            refine r_y rfl rfl (y_pickt rfl h4 rfl) ?_
            refine r_y rfl rfl (y_move rfl) ?_
            refine r_split (j := 40) rfl (fun h5 => ?_) (fun h5 => ?_)
            ·
              refine r_yg rfl h5 rfl (y_fieldAddr rfl At.lit fo35_6 rfl) ?_
              refine r_yg rfl h5 rfl (y_load_s rfl ts33 (RdS.blk (i := 1) rfl rfl)) ?_
              refine r_yg rfl h5 rfl (y_fieldAddr rfl At.lit fo35_6 rfl) ?_
              refine r_yg rfl h5 rfl (y_load_s rfl ts33 (RdS.blk (i := 0) rfl rfl)) ?_
              refine r_sg rfl h5 ?_
              refine s_call0 rfl Try.call29 rfl (ruleSame_w sr sr2 lr lr2 _ _ hz1.rules hz2.rules) ?_
              rintro _ m2 _ hm2 ⟨rfl, rfl⟩
              replace hm := hm.trans hm2
              replace hz1 := hz1.mono hm2
              replace hz2 := hz2.mono hm2
              clear hm2
              refine r_y rfl rfl (y_pickt rfl h5 rfl) ?_
              refine r_y rfl rfl (y_assign rfl) ?_
              refine r_nil ?_
              refine hK1 _ _ _ ?_
              clear hK1 K1
              refine c_ret ?_
              refine e_ret 2 hm (res_tmps rfl) ?_
              refine ⟨congrArg Value.bool ?_, rfl⟩
              rw [← hq1, ← hq2] at *
              clear hz1 hz2 hm hq1 hq2
              cases x; cases y
              simp_all [ceq_head]
            ·
              refine r_no' rfl rfl h5 ?_
              refine r_no' rfl rfl h5 ?_
              refine r_no' rfl rfl h5 ?_
              refine r_no' rfl rfl h5 ?_
              refine r_no' rfl rfl h5 ?_
              refine r_y rfl rfl (y_pickf rfl h5 rfl) ?_
              refine r_y rfl rfl (y_assign rfl) ?_
              refine r_nil ?_
              refine hK1 _ _ _ ?_
              clear hK1 K1
              refine c_ret ?_
              refine e_ret 2 hm (res_tmps rfl) ?_
              refine ⟨congrArg Value.bool ?_, rfl⟩
              rw [← hq1, ← hq2] at *
              clear hz1 hz2 hm hq1 hq2
              cases x; cases y
              simp_all [ceq_head]
          ·
            refine r_no' rfl rfl h4 ?_
            refine r_no' rfl rfl h4 ?_
            refine r_no' rfl rfl h4 ?_
            refine r_no' rfl rfl h4 ?_
            refine r_no' rfl rfl h4 ?_
            refine r_y rfl rfl (y_pickf rfl h4 rfl) ?_
            refine r_y rfl rfl (y_move rfl) ?_
            refine r_no' rfl rfl rfl ?_
            refine r_no' rfl rfl rfl ?_
            refine r_no' rfl rfl rfl ?_
            refine r_no' rfl rfl rfl ?_
            refine r_no' rfl rfl rfl ?_
            refine r_y rfl rfl (y_pickf rfl rfl rfl) ?_
            refine r_y rfl rfl (y_assign rfl) ?_
            refine r_nil ?_
            refine hK1 _ _ _ ?_
            clear hK1 K1
            refine c_ret ?_
            refine e_ret 2 hm (res_tmps rfl) ?_
            refine ⟨congrArg Value.bool ?_, rfl⟩
            rw [← hq1, ← hq2] at *
            clear hz1 hz2 hm hq1 hq2
            cases x; cases y
            simp_all [ceq_head]
        ·
          refine r_no' rfl rfl h3 ?_
          refine r_no' rfl rfl h3 ?_
          refine r_no' rfl rfl h3 ?_
          refine r_no' rfl rfl h3 ?_
          refine r_no' rfl rfl h3 ?_
          refine r_y rfl rfl (y_pickf rfl h3 rfl) ?_
          refine r_y rfl rfl (y_move rfl) ?_
          refine r_no' rfl rfl rfl ?_
          refine r_no' rfl rfl rfl ?_
          refine r_no' rfl rfl rfl ?_
          refine r_no' rfl rfl rfl ?_
          refine r_no' rfl rfl rfl ?_
          refine r_y rfl rfl (y_pickf rfl rfl rfl) ?_
          refine r_y rfl rfl (y_move rfl) ?_
          refine r_no' rfl rfl rfl ?_
          refine r_no' rfl rfl rfl ?_
          refine r_no' rfl rfl rfl ?_
          refine r_no' rfl rfl rfl ?_
          refine r_no' rfl rfl rfl ?_
          refine r_y rfl rfl (y_pickf rfl rfl rfl) ?_
          refine r_y rfl rfl (y_assign rfl) ?_
          refine r_nil ?_
          refine hK1 _ _ _ ?_
          clear hK1 K1
          refine c_ret ?_
          refine e_ret 2 hm (res_tmps rfl) ?_
          refine ⟨congrArg Value.bool ?_, rfl⟩
          rw [← hq1, ← hq2] at *
          clear hz1 hz2 hm hq1 hq2
          cases x; cases y
          simp_all [ceq_head]
      ·
        refine r_no' rfl rfl h2 ?_
        refine r_no' rfl rfl h2 ?_
        refine r_no' rfl rfl h2 ?_
        refine r_no' rfl rfl h2 ?_
        refine r_no' rfl rfl h2 ?_
        refine r_y rfl rfl (y_pickf rfl h2 rfl) ?_
        refine r_y rfl rfl (y_move rfl) ?_
        refine r_no' rfl rfl rfl ?_
        refine r_no' rfl rfl rfl ?_
        refine r_no' rfl rfl rfl ?_
        refine r_no' rfl rfl rfl ?_
        refine r_no' rfl rfl rfl ?_
        refine r_y rfl rfl (y_pickf rfl rfl rfl) ?_
        refine r_y rfl rfl (y_move rfl) ?_
        refine r_no' rfl rfl rfl ?_
        refine r_no' rfl rfl rfl ?_
        refine r_no' rfl rfl rfl ?_
        refine r_no' rfl rfl rfl ?_
        refine r_no' rfl rfl rfl ?_
        refine r_y rfl rfl (y_pickf rfl rfl rfl) ?_
        refine r_y rfl rfl (y_move rfl) ?_
        refine r_no' rfl rfl rfl ?_
        refine r_no' rfl rfl rfl ?_
        refine r_no' rfl rfl rfl ?_
        refine r_no' rfl rfl rfl ?_
        refine r_no' rfl rfl rfl ?_
        refine r_y rfl rfl (y_pickf rfl rfl rfl) ?_
        refine r_y rfl rfl (y_assign rfl) ?_
        refine r_nil ?_
        refine hK1 _ _ _ ?_
        clear hK1 K1
        refine c_ret ?_
        refine e_ret 2 hm (res_tmps rfl) ?_
        refine ⟨congrArg Value.bool ?_, rfl⟩
        rw [← hq1, ← hq2] at *
        clear hz1 hz2 hm hq1 hq2
        cases x; cases y
        simp_all [ceq_head]
    ·
      refine r_no' rfl rfl h1 ?_
      refine r_no' rfl rfl h1 ?_
      refine r_no' rfl rfl h1 ?_
      refine r_no' rfl rfl h1 ?_
      refine r_no' rfl rfl h1 ?_
      refine r_y rfl rfl (y_pickf rfl h1 rfl) ?_
      refine r_y rfl rfl (y_move rfl) ?_
      refine r_no' rfl rfl rfl ?_
      refine r_no' rfl rfl rfl ?_
      refine r_no' rfl rfl rfl ?_
      refine r_no' rfl rfl rfl ?_
      refine r_no' rfl rfl rfl ?_
      refine r_y rfl rfl (y_pickf rfl rfl rfl) ?_
      refine r_y rfl rfl (y_move rfl) ?_
      refine r_no' rfl rfl rfl ?_
      refine r_no' rfl rfl rfl ?_
      refine r_no' rfl rfl rfl ?_
      refine r_no' rfl rfl rfl ?_
      refine r_no' rfl rfl rfl ?_
      refine r_y rfl rfl (y_pickf rfl rfl rfl) ?_
      refine r_y rfl rfl (y_move rfl) ?_
      refine r_no' rfl rfl rfl ?_
      refine r_no' rfl rfl rfl ?_
      refine r_no' rfl rfl rfl ?_
      refine r_no' rfl rfl rfl ?_
      refine r_no' rfl rfl rfl ?_
      refine r_y rfl rfl (y_pickf rfl rfl rfl) ?_
      refine r_y rfl rfl (y_move rfl) ?_
      refine r_no' rfl rfl rfl ?_
      refine r_no' rfl rfl rfl ?_
      refine r_no' rfl rfl rfl ?_
      refine r_no' rfl rfl rfl ?_
      refine r_no' rfl rfl rfl ?_
      refine r_y rfl rfl (y_pickf rfl rfl rfl) ?_
      refine r_y rfl rfl (y_assign rfl) ?_
      refine r_nil ?_
      refine hK1 _ _ _ ?_
      clear hK1 K1
      refine c_ret ?_
      refine e_ret 2 hm (res_tmps rfl) ?_
      refine ⟨congrArg Value.bool ?_, rfl⟩
      rw [← hq1, ← hq2] at *
      clear hz1 hz2 hm hq1 hq2
      cases x; cases y
      simp_all [ceq_head]
  ·
    refine r_no' rfl rfl h0 ?_
    refine r_no' rfl rfl h0 ?_
    refine r_no' rfl rfl h0 ?_
    refine r_no' rfl rfl h0 ?_
    refine r_no' rfl rfl h0 ?_
    refine r_y rfl rfl (y_pickf rfl h0 rfl) ?_
    refine r_y rfl rfl (y_move rfl) ?_
    refine r_no' rfl rfl rfl ?_
    refine r_no' rfl rfl rfl ?_
    refine r_no' rfl rfl rfl ?_
    refine r_no' rfl rfl rfl ?_
    refine r_no' rfl rfl rfl ?_
    refine r_y rfl rfl (y_pickf rfl rfl rfl) ?_
    refine r_y rfl rfl (y_move rfl) ?_
    refine r_no' rfl rfl rfl ?_
    refine r_no' rfl rfl rfl ?_
    refine r_no' rfl rfl rfl ?_
    refine r_no' rfl rfl rfl ?_
    refine r_no' rfl rfl rfl ?_
    refine r_y rfl rfl (y_pickf rfl rfl rfl) ?_
    refine r_y rfl rfl (y_move rfl) ?_
    refine r_no' rfl rfl rfl ?_
    refine r_no' rfl rfl rfl ?_
    refine r_no' rfl rfl rfl ?_
    refine r_no' rfl rfl rfl ?_
    refine r_no' rfl rfl rfl ?_
    refine r_y rfl rfl (y_pickf rfl rfl rfl) ?_
    refine r_y rfl rfl (y_move rfl) ?_
    refine r_no' rfl rfl rfl ?_
    refine r_no' rfl rfl rfl ?_
    refine r_no' rfl rfl rfl ?_
    refine r_no' rfl rfl rfl ?_
    refine r_no' rfl rfl rfl ?_
    refine r_y rfl rfl (y_pickf rfl rfl rfl) ?_
    refine r_y rfl rfl (y_move rfl) ?_
    refine r_no' rfl rfl rfl ?_
    refine r_no' rfl rfl rfl ?_
    refine r_no' rfl rfl rfl ?_
    refine r_no' rfl rfl rfl ?_
    refine r_no' rfl rfl rfl ?_
    refine r_y rfl rfl (y_pickf rfl rfl rfl) ?_
    refine r_y rfl rfl (y_assign rfl) ?_
    refine r_nil ?_
    refine hK1 _ _ _ ?_
    clear hK1 K1
    refine c_ret ?_
    refine e_ret 2 hm (res_tmps rfl) ?_
    refine ⟨congrArg Value.bool ?_, rfl⟩
    rw [← hq1, ← hq2] at *
    clear hz1 hz2 hm hq1 hq2
    cases x; cases y
    simp_all [ceq_head]
set_option maxRecDepth 100000 in
theorem small_w (x : MsgD) (sm sr : Sl) (lr : List (RuleD × Sl)) (m : Snap) (H : Hp) (hz : MsgOk m x sm sr lr) : Fn Try.prog 23 [.agg (encMsg x sm sr).toArray] m H (fun v _ H' => v = .bool (decide (x.rules.length ≤ 40) && decide (x.mod.acts.length ≤ 300)) ∧ H' = H) := by
  have hl := hz.len
  have hl2 := hz.mod.lenA
  have hm : m.le m := Snap.le.refl m
  refine fn_end Try.func23 rfl rfl rfl ?_
  refine c_seq (fun K0 hK0 => ?_)
  refine c_region ?_
  refine r_s rfl ?_
  refine s_box_a rfl rfl (fun b0 => ?_)
  refine r_y rfl rfl (y_assign rfl) ?_
  refine r_nil ?_
  refine hK0 _ _ _ ?_
  clear hK0 K0
  refine c_seq (fun K1 hK1 => ?_)
  refine c_region ?_
  refine r_y rfl rfl (y_fieldAddr rfl At.lit fo35_6 rfl) ?_
  refine r_y rfl rfl (y_load_s rfl ts33 (RdS.blk (i := 0) rfl rfl)) ?_
  refine r_y rfl rfl (y_len tl33 rfl) ?_
  refine r_y rfl rfl (y_iop rfl rfl rfl) ?_
  refine r_y rfl rfl (y_move rfl) ?_
  refine r_split (j := 4) rfl (fun h0 => ?_) (fun h0 => ?_)
  ·
    refine r_yg rfl h0 rfl (y_fieldAddr rfl At.lit fo35_3 rfl) ?_
    refine r_yg rfl h0 rfl (y_fieldAddr rfl At.lit fo32_3 rfl) ?_
    refine r_yg rfl h0 rfl (y_load_s rfl ts30 (RdS.blk (i := 0) rfl rfl)) ?_
    refine r_yg rfl h0 rfl (y_len tl30 rfl) ?_
    refine r_yg rfl h0 rfl (y_iop rfl rfl rfl) ?_
    refine r_y rfl rfl (y_pickt rfl h0 rfl) ?_
    refine r_y rfl rfl (y_assign rfl) ?_
    refine r_nil ?_
    refine hK1 _ _ _ ?_
    clear hK1 K1
    refine c_ret ?_
    refine e_ret 1 hm (res_tmps rfl) ?_
    refine ⟨congrArg Value.bool ?_, rfl⟩
    rw [Bool.eq_iff_iff]
    simp at h0 ⊢
    omega
  ·
    refine r_no' rfl rfl h0 ?_
    refine r_no' rfl rfl h0 ?_
    refine r_no' rfl rfl h0 ?_
    refine r_no' rfl rfl h0 ?_
    refine r_no' rfl rfl h0 ?_
    refine r_y rfl rfl (y_pickf rfl h0 rfl) ?_
    refine r_y rfl rfl (y_assign rfl) ?_
    refine r_nil ?_
    refine hK1 _ _ _ ?_
    clear hK1 K1
    refine c_ret ?_
    refine e_ret 1 hm (res_tmps rfl) ?_
    refine ⟨congrArg Value.bool ?_, rfl⟩
    rw [Bool.eq_iff_iff]
    simp at h0 ⊢
    omega
end Go.Aw
namespace Go.Aw
open Go
section
variable {P : Program} {n : Nat} {Q : Post} {L : Slots} {m : Snap} {H : Hp} {ops : Array Oper} {rest : List Oper} {d : Option Tmp} {ty : TypeId} {ps : String} {af : Array Edge} {gd : Option (Nat × Bool)}
end
/-- A contract whose end may be told otherwise. -/
theorem Fn.post {P : Program} {f : FuncId} {args : List Value} {m : Snap} {H : Hp} {R R' : Value → Snap → Hp → Prop} (h : Fn P f args m H R)
    (hr : ∀ v m' H' w, m.le m' → St m' H' w → R v m' H' → ∃ m2 H2, m'.le m2 ∧ St m2 H2 w ∧ R' v m2 H2) : Fn P f args m H R' :=
  fun w hs => (h w hs).mono fun _ _ ⟨v, m', H', h1, h2, h3, h4⟩ => by
    obtain ⟨m2, H2, g1, g2, g3⟩ := hr v m' H' _ h2 h3 h4
    exact ⟨v, m2, H2, h1, h2.trans g1, g2, g3⟩
end Go.Aw
namespace Go.Aw
open Go
theorem same_iff {x y : MsgD} {l1 l2 : List UInt8} (h1 : encode x = some l1) (h2 : encode y = some l2) (i1 : MsgI x) (i2 : MsgI y) : (l1 = l2) ↔ (x = y) := by
  constructor
  · rintro rfl; exact encode_inj h1 h2 i1 i2
  · rintro rfl; rw [h1] at h2; exact Option.some.inj h2
section
variable {P : Program} {n : Nat} {L : Slots} {m : Snap} {H : Hp} {d : Option Tmp} {ty : TypeId} {ps : String} {af : Array Edge} {gd : Option (Nat × Bool)}
end
end Go.Aw
namespace Go.Aw
open Go Go.Proofs
theorem rEncodeF_w (x : MsgD) (sm sr : Sl) (lr : List (RuleD × Sl)) (m : Snap) (H : Hp) (hz : MsgOk m x sm sr lr) (l : List UInt8) (he : encode x = some l) : Fn Try.prog 25 [.agg (encMsg x sm sr).toArray] m H (fun v m' H' => ∃ s' : Sl, v = s'.v ∧ FzB m' s' l ∧ s'.ok ∧ H' = H) :=
  (rEncode_w x sm sr lr m H hz l he).post fun v m' H' w hm hs ⟨s', h1, h2, h3⟩ => by
    subst h3
    obtain ⟨m2, g1, g2, g3, g4⟩ := hs.freezeVec (i := 0) rfl (by decide)
    exact ⟨m2, H, g1, g2, s', h1, g3, g4, rfl⟩
theorem sameTwo_w (s1 s2 : Sl) (p1 p2 : MsgS) (m : Snap) (H : Hp) (hz1 : FzMs m s1 [p1]) (hz2 : FzMs m s2 [p2]) : Fn Try.prog 20 [s1.v, s2.v] m H (fun v _ H' => v = .bool (decide (p1.x = p2.x)) ∧ H' = H) :=
  (rSameMsgs_w s1 s2 [p1] [p2] m H hz1 hz2).mono fun v m' H' _ ⟨h1, h2⟩ => ⟨by rw [h1]; simp, h2⟩
set_option maxRecDepth 100000 in
theorem codeSame_w (x y : MsgD) (sm sr sm2 sr2 : Sl) (lr lr2 : List (RuleD × Sl)) (m : Snap) (H : Hp) (hz1 : MsgOk m x sm sr lr) (hz2 : MsgOk m y sm2 sr2 lr2) (hx1 : MsgI x) (hx2 : MsgI y) : Fn Try.prog 8 [.agg (encMsg x sm sr).toArray, .agg (encMsg y sm2 sr2).toArray] m H (fun v _ H' => v = .bool true ∧ H' = H) := by
  have hm : m.le m := Snap.le.refl m
  refine fn_end Try.func8 rfl rfl rfl ?_
  refine c_seq (fun K0 hK0 => ?_)
  refine c_region ?_
  refine r_s rfl ?_
  refine s_box_a rfl rfl (fun b0 => ?_)
  refine r_s rfl ?_
  refine s_box_a rfl rfl (fun b1 => ?_)
  refine r_y rfl rfl (y_assign rfl) ?_
  refine r_nil ?_
  refine hK0 _ _ _ ?_
  clear hK0 K0
  refine c_seq (fun K1 hK1 => ?_)
  refine c_seq (fun K2 hK2 => ?_)
  refine c_region ?_
  refine r_y rfl rfl (y_load_a (cs := encMsg x sm sr) rfl ts35 (RdA.blk (i := 1) rfl rfl)) ?_
  refine r_s rfl ?_
  refine s_call0 rfl Try.call23 rfl (small_w x sm sr lr _ _ hz1) ?_
  rintro _ m2 _ hm2 ⟨rfl, rfl⟩
  replace hm := hm.trans hm2
  replace hz1 := hz1.mono hm2
  replace hz2 := hz2.mono hm2
  clear hm2
  refine r_y rfl rfl (y_not rfl) ?_
  refine r_y rfl rfl (y_move rfl) ?_
  refine r_split (j := 3) rfl (fun h0 => ?_) (fun h0 => ?_)
  ·
    refine r_no' rfl rfl h0 ?_
    refine r_no' rfl rfl h0 ?_
    refine r_no' rfl rfl h0 ?_
    refine r_y rfl rfl (y_pickt rfl h0 rfl) ?_
    refine r_nil ?_
    refine hK2 _ _ _ ?_
    clear hK2 K2
    refine c_ift rfl rfl ?_
    refine c_seq (fun K3 hK3 => ?_)
    refine c_region ?_
    refine r_s rfl ?_
    refine s_call0 rfl Try.call17 rfl (answers_w _ _) ?_
    rintro _ m2 _ hm2 ⟨rfl, rfl⟩
    replace hm := hm.trans hm2
    replace hz1 := hz1.mono hm2
    replace hz2 := hz2.mono hm2
    clear hm2
    refine r_y rfl rfl (y_assign rfl) ?_
    refine r_nil ?_
    refine hK3 _ _ _ ?_
    clear hK3 K3
    refine c_ret ?_
    refine e_ret 2 hm (res_tmps rfl) ?_
    first
      | exact ⟨rfl, rfl⟩
      | (refine ⟨congrArg Value.bool ?_, rfl⟩
         have : (l1 = l2) ↔ (x = y) := same_iff he1 he2 hx1 hx2
         simp [this])
  ·
    refine r_yg rfl h0 rfl (y_load_a (cs := encMsg y sm2 sr2) rfl ts35 (RdA.blk (i := 0) rfl rfl)) ?_
    refine r_sg rfl h0 ?_
    refine s_call0 rfl Try.call23 rfl (small_w y sm2 sr2 lr2 _ _ hz2) ?_
    rintro _ m2 _ hm2 ⟨rfl, rfl⟩
    replace hm := hm.trans hm2
    replace hz1 := hz1.mono hm2
    replace hz2 := hz2.mono hm2
    clear hm2
    refine r_yg rfl h0 rfl (y_not rfl) ?_
    refine r_y rfl rfl (y_pickf rfl h0 rfl) ?_
    refine r_nil ?_
    refine hK2 _ _ _ ?_
    clear hK2 K2
    refine c_cond rfl (fun h1 => ?_) (fun h1 => ?_)
    ·
      refine c_seq (fun K4 hK4 => ?_)
      refine c_region ?_
      refine r_s rfl ?_
      refine s_call0 rfl Try.call17 rfl (answers_w _ _) ?_
      rintro _ m2 _ hm2 ⟨rfl, rfl⟩
      replace hm := hm.trans hm2
      replace hz1 := hz1.mono hm2
      replace hz2 := hz2.mono hm2
      clear hm2
      refine r_y rfl rfl (y_assign rfl) ?_
      refine r_nil ?_
      refine hK4 _ _ _ ?_
      clear hK4 K4
      refine c_ret ?_
      refine e_ret 2 hm (res_tmps rfl) ?_
      first
        | exact ⟨rfl, rfl⟩
        | (refine ⟨congrArg Value.bool ?_, rfl⟩
           have : (l1 = l2) ↔ (x = y) := same_iff he1 he2 hx1 hx2
           simp [this])
    ·
      refine c_skip ?_
      refine hK1 _ _ _ ?_
      clear hK1 K1
      refine c_seq (fun K5 hK5 => ?_)
      refine c_region ?_
      refine r_y rfl rfl (y_load_a (cs := encMsg x sm sr) rfl ts35 (RdA.blk (i := 1) rfl rfl)) ?_
      refine r_s rfl ?_
      refine s_buildSlice (cs := (encMsg x sm sr)) (e := 35) rfl rfl (fun _ => by kernel_rfl) (fun b2 => ?_)
      refine r_y rfl rfl (y_load_a (cs := encMsg y sm2 sr2) rfl ts35 (RdA.blk (i := 1) rfl rfl)) ?_
      refine r_s rfl ?_
      refine s_buildSlice (cs := (encMsg y sm2 sr2)) (e := 35) rfl rfl (fun _ => by kernel_rfl) (fun b3 => ?_)
      refine r_freeze (i := 1) rfl (fun m3 hm3 hc0 => ?_)
      replace hm := hm.trans hm3
      replace hz1 := hz1.mono hm3
      replace hz2 := hz2.mono hm3
      try replace hc0 := fun j v h => hm3.cell (hc0 j v h)
      try replace hc1 := fun j v h => hm3.cell (hc1 j v h)
      clear hm3
      refine r_freeze (i := 0) rfl (fun m3 hm3 hc1 => ?_)
      replace hm := hm.trans hm3
      replace hz1 := hz1.mono hm3
      replace hz2 := hz2.mono hm3
      try replace hc0 := fun j v h => hm3.cell (hc0 j v h)
      try replace hc1 := fun j v h => hm3.cell (hc1 j v h)
      clear hm3
      have hM1 : FzMs _ ⟨some ⟨b2, 0, none⟩, 1, 1⟩ [⟨x, sm, sr, lr⟩] := fzMs_one hc0 hz1
      have hM2 : FzMs _ ⟨some ⟨b3, 0, none⟩, 1, 1⟩ [⟨y, sm2, sr2, lr2⟩] := fzMs_one hc1 hz2
      refine r_s rfl ?_
      refine s_call0 rfl Try.call20 rfl (sameTwo_w ⟨some ⟨b2, 0, none⟩, 1, 1⟩ ⟨some ⟨b3, 0, none⟩, 1, 1⟩ ⟨x, sm, sr, lr⟩ ⟨y, sm2, sr2, lr2⟩ _ _ hM1 hM2) ?_
      rintro _ m2 _ hm2 ⟨rfl, rfl⟩
      replace hm := hm.trans hm2
      replace hz1 := hz1.mono hm2
      replace hz2 := hz2.mono hm2
      clear hm2
      refine r_y rfl rfl (y_assign rfl) ?_
      refine r_nil ?_
      refine hK5 _ _ _ ?_
      clear hK5 K5
      refine c_seq (fun K6 hK6 => ?_)
      refine c_seq (fun K7 hK7 => ?_)
      refine c_region ?_
      refine r_s rfl ?_
      refine s_call0 rfl Try.call17 rfl (answers_w _ _) ?_
      rintro _ m2 _ hm2 ⟨rfl, rfl⟩
      replace hm := hm.trans hm2
      replace hz1 := hz1.mono hm2
      replace hz2 := hz2.mono hm2
      clear hm2
      refine r_y rfl rfl (y_not rfl) ?_
      refine r_y rfl rfl (y_move rfl) ?_
      refine r_yg rfl rfl rfl (y_load_a (cs := encMsg x sm sr) rfl ts35 (RdA.blk (i := 1) rfl rfl)) ?_
      refine r_yg rfl rfl rfl (y_load_a (cs := encMsg y sm2 sr2) rfl ts35 (RdA.blk (i := 0) rfl rfl)) ?_
      refine r_sg rfl rfl ?_
      refine s_call0 rfl Try.call31 rfl (msgSame_w x y sm sr sm2 sr2 lr lr2 _ _ hz1 hz2) ?_
      rintro _ m2 _ hm2 ⟨rfl, rfl⟩
      replace hm := hm.trans hm2
      replace hz1 := hz1.mono hm2
      replace hz2 := hz2.mono hm2
      clear hm2
      refine r_yg rfl rfl rfl (y_move rfl) ?_
      refine r_yg rfl rfl rfl (y_nebool rfl rfl Try.underlying4) ?_
      refine r_y rfl rfl (y_pickf rfl rfl rfl) ?_
      refine r_y rfl rfl (y_move rfl) ?_
      refine r_yg rfl (by simp) rfl (y_load_a (cs := encMsg x sm sr) rfl ts35 (RdA.blk (i := 1) rfl rfl)) ?_
      refine r_yg rfl (by simp) rfl (y_load_a (cs := encMsg x sm sr) rfl ts35 (RdA.blk (i := 1) rfl rfl)) ?_
      refine r_sg rfl (by simp) ?_
      refine s_call0 rfl Try.call31 rfl (msgSame_w x x sm sr sm sr lr lr _ _ hz1 hz1) ?_
      rintro _ m2 _ hm2 ⟨rfl, rfl⟩
      replace hm := hm.trans hm2
      replace hz1 := hz1.mono hm2
      replace hz2 := hz2.mono hm2
      clear hm2
      refine r_yg rfl (by simp) rfl (y_not rfl) ?_
      refine r_y rfl rfl (y_pickf rfl (by simp) rfl) ?_
      refine r_nil ?_
      refine hK7 _ _ _ ?_
      clear hK7 K7
      refine c_iff rfl (by simp) ?_
      refine c_skip ?_
      refine hK6 _ _ _ ?_
      clear hK6 K6
      refine c_seq (fun K8 hK8 => ?_)
      refine c_draw ([.blk b0 (.cells (encMsg x sm sr).toArray 35), .blk b1 (.cells (encMsg y sm2 sr2).toArray 35)]) (by kernel_rfl) (fun hg => ?_)
      have hz1_g := hz1
      have hz2_g := hz2
      refine g_y (i := 0) (listed' := #[true, false, false, false, false, false, false, false, false, false, false, false, false, false, false, false, false, false]) rfl (by kernel_rfl) (by kernel_rfl) (by kernel_rfl) (by kernel_rfl) rfl rfl hg (allc (List.Mem.tail _ (List.Mem.head _)) (allc (List.Mem.head _) alln)) (fun m' H' hm' hX' => y_load_a (cs := encMsg x sm sr) rfl ts35 (RdA.mem (hX' _ (List.Mem.head _)) rfl)) ?_
      refine g_s (i := 1) (listed' := #[true, true, false, false, false, false, false, false, false, false, false, false, false, false, false, false, false, false]) rfl (by kernel_rfl) (by kernel_rfl) rfl ?_
      refine s_call0 rfl Try.call24 rfl (rMsg_w x sm sr lr _ _ hz1) ?_
      rintro _ m2 _ hm2 ⟨rfl, rfl⟩
      replace hm := hm.trans hm2
      refine ⟨⟨hg.trans hm2, (allc (List.Mem.tail _ (List.Mem.head _)) (allc (List.Mem.head _) alln))⟩, ?_⟩
      replace hg := hg.trans hm2
      replace hz1 := hz1.mono hm2
      replace hz2 := hz2.mono hm2
      clear hm2
      refine g_y (i := 2) (listed' := #[true, true, true, false, false, false, false, false, false, false, false, false, false, false, false, false, false, false]) rfl (by kernel_rfl) (by kernel_rfl) (by kernel_rfl) (by kernel_rfl) rfl rfl hg (allc (List.Mem.tail _ (List.Mem.head _)) (allc (List.Mem.head _) alln)) (fun m' H' hm' hX' => y_not rfl) ?_
      refine g_y (i := 3) (listed' := #[true, true, true, true, false, false, false, false, false, false, false, false, false, false, false, false, false, false]) rfl (by kernel_rfl) (by kernel_rfl) (by kernel_rfl) (by kernel_rfl) rfl rfl hg (allc (List.Mem.tail _ (List.Mem.head _)) (allc (List.Mem.head _) alln)) (fun m' H' hm' hX' => y_move rfl) ?_
      refine g_split (j := 3) rfl (fun hA => ?_) (fun hA => ?_)
      ·
        refine g_no (i := 4) (listed' := #[true, true, true, true, true, false, false, false, false, false, false, false, false, false, false, false, false, false]) rfl (by kernel_rfl) (by kernel_rfl) (by kernel_rfl) (by kernel_rfl) rfl rfl hA rfl hg (allc (List.Mem.tail _ (List.Mem.head _)) (allc (List.Mem.head _) alln)) ?_
        refine g_no (i := 5) (listed' := #[true, true, true, true, true, true, false, false, false, false, false, false, false, false, false, false, false, false]) rfl (by kernel_rfl) (by kernel_rfl) (by kernel_rfl) (by kernel_rfl) rfl rfl hA rfl hg (allc (List.Mem.tail _ (List.Mem.head _)) (allc (List.Mem.head _) alln)) ?_
        refine g_no (i := 6) (listed' := #[true, true, true, true, true, true, true, false, false, false, false, false, false, false, false, false, false, false]) rfl (by kernel_rfl) (by kernel_rfl) (by kernel_rfl) (by kernel_rfl) rfl rfl hA rfl hg (allc (List.Mem.tail _ (List.Mem.head _)) (allc (List.Mem.head _) alln)) ?_
        refine g_y (i := 7) (listed' := #[true, true, true, true, true, true, true, true, false, false, false, false, false, false, false, false, false, false]) rfl (by kernel_rfl) (by kernel_rfl) (by kernel_rfl) (by kernel_rfl) rfl rfl hg (allc (List.Mem.tail _ (List.Mem.head _)) (allc (List.Mem.head _) alln)) (fun m' H' hm' hX' => y_pickt rfl hA rfl) ?_
        refine g_y (i := 8) (listed' := #[true, true, true, true, true, true, true, true, true, false, false, false, false, false, false, false, false, false]) rfl (by kernel_rfl) (by kernel_rfl) (by kernel_rfl) (by kernel_rfl) rfl rfl hg (allc (List.Mem.tail _ (List.Mem.head _)) (allc (List.Mem.head _) alln)) (fun m' H' hm' hX' => y_move rfl) ?_
        refine g_no (i := 9) (listed' := #[true, true, true, true, true, true, true, true, true, true, false, false, false, false, false, false, false, false]) rfl (by kernel_rfl) (by kernel_rfl) (by kernel_rfl) (by kernel_rfl) rfl rfl rfl rfl hg (allc (List.Mem.tail _ (List.Mem.head _)) (allc (List.Mem.head _) alln)) ?_
        refine g_no (i := 10) (listed' := #[true, true, true, true, true, true, true, true, true, true, true, false, false, false, false, false, false, false]) rfl (by kernel_rfl) (by kernel_rfl) (by kernel_rfl) (by kernel_rfl) rfl rfl rfl rfl hg (allc (List.Mem.tail _ (List.Mem.head _)) (allc (List.Mem.head _) alln)) ?_
        refine g_no (i := 11) (listed' := #[true, true, true, true, true, true, true, true, true, true, true, true, false, false, false, false, false, false]) rfl (by kernel_rfl) (by kernel_rfl) (by kernel_rfl) (by kernel_rfl) rfl rfl rfl rfl hg (allc (List.Mem.tail _ (List.Mem.head _)) (allc (List.Mem.head _) alln)) ?_
        refine g_no (i := 12) (listed' := #[true, true, true, true, true, true, true, true, true, true, true, true, true, false, false, false, false, false]) rfl (by kernel_rfl) (by kernel_rfl) (by kernel_rfl) (by kernel_rfl) rfl rfl rfl rfl hg (allc (List.Mem.tail _ (List.Mem.head _)) (allc (List.Mem.head _) alln)) ?_
        refine g_no (i := 13) (listed' := #[true, true, true, true, true, true, true, true, true, true, true, true, true, true, false, false, false, false]) rfl (by kernel_rfl) (by kernel_rfl) (by kernel_rfl) (by kernel_rfl) rfl rfl rfl rfl hg (allc (List.Mem.tail _ (List.Mem.head _)) (allc (List.Mem.head _) alln)) ?_
        refine g_no (i := 14) (listed' := #[true, true, true, true, true, true, true, true, true, true, true, true, true, true, true, false, false, false]) rfl (by kernel_rfl) (by kernel_rfl) (by kernel_rfl) (by kernel_rfl) rfl rfl rfl rfl hg (allc (List.Mem.tail _ (List.Mem.head _)) (allc (List.Mem.head _) alln)) ?_
        refine g_no (i := 15) (listed' := #[true, true, true, true, true, true, true, true, true, true, true, true, true, true, true, true, false, false]) rfl (by kernel_rfl) (by kernel_rfl) (by kernel_rfl) (by kernel_rfl) rfl rfl rfl rfl hg (allc (List.Mem.tail _ (List.Mem.head _)) (allc (List.Mem.head _) alln)) ?_
        refine g_y (i := 16) (listed' := #[true, true, true, true, true, true, true, true, true, true, true, true, true, true, true, true, true, false]) rfl (by kernel_rfl) (by kernel_rfl) (by kernel_rfl) (by kernel_rfl) rfl rfl hg (allc (List.Mem.tail _ (List.Mem.head _)) (allc (List.Mem.head _) alln)) (fun m' H' hm' hX' => y_pickt rfl rfl rfl) ?_
        refine g_y (i := 17) (listed' := #[true, true, true, true, true, true, true, true, true, true, true, true, true, true, true, true, true, true]) rfl (by kernel_rfl) (by kernel_rfl) (by kernel_rfl) (by kernel_rfl) rfl rfl hg (allc (List.Mem.tail _ (List.Mem.head _)) (allc (List.Mem.head _) alln)) (fun m' H' hm' hX' => y_assign rfl) ?_
        refine g_done (by kernel_rfl) ?_
        clear hg hz1_g hz2_g
        refine hK8 _ _ _ ?_
        clear hK8 K8
        refine c_ret ?_
        refine e_ret 2 hm (res_tmps rfl) ?_
        first
          | exact ⟨rfl, rfl⟩
          | (refine ⟨congrArg Value.bool ?_, rfl⟩
             have : (l1 = l2) ↔ (x = y) := same_iff he1 he2 hx1 hx2
             simp [this])
      ·
        refine g_yg (i := 4) (listed' := #[true, true, true, true, true, false, false, false, false, false, false, false, false, false, false, false, false, false]) rfl (by kernel_rfl) (by kernel_rfl) (by kernel_rfl) (by kernel_rfl) rfl rfl hA rfl hg (allc (List.Mem.tail _ (List.Mem.head _)) (allc (List.Mem.head _) alln)) (fun m' H' hm' hX' => y_load_a (cs := encMsg y sm2 sr2) rfl ts35 (RdA.mem (hX' _ (List.Mem.tail _ (List.Mem.head _))) rfl)) ?_
        refine g_sg (i := 5) (listed' := #[true, true, true, true, true, true, false, false, false, false, false, false, false, false, false, false, false, false]) rfl (by kernel_rfl) (by kernel_rfl) rfl rfl hA ?_
        refine s_call0 rfl Try.call24 rfl (rMsg_w y sm2 sr2 lr2 _ _ hz2) ?_
        rintro _ m2 _ hm2 ⟨rfl, rfl⟩
        replace hm := hm.trans hm2
        refine ⟨⟨hg.trans hm2, (allc (List.Mem.tail _ (List.Mem.head _)) (allc (List.Mem.head _) alln))⟩, ?_⟩
        replace hg := hg.trans hm2
        replace hz1 := hz1.mono hm2
        replace hz2 := hz2.mono hm2
        clear hm2
        refine g_yg (i := 6) (listed' := #[true, true, true, true, true, true, true, false, false, false, false, false, false, false, false, false, false, false]) rfl (by kernel_rfl) (by kernel_rfl) (by kernel_rfl) (by kernel_rfl) rfl rfl hA rfl hg (allc (List.Mem.tail _ (List.Mem.head _)) (allc (List.Mem.head _) alln)) (fun m' H' hm' hX' => y_not rfl) ?_
        refine g_y (i := 7) (listed' := #[true, true, true, true, true, true, true, true, false, false, false, false, false, false, false, false, false, false]) rfl (by kernel_rfl) (by kernel_rfl) (by kernel_rfl) (by kernel_rfl) rfl rfl hg (allc (List.Mem.tail _ (List.Mem.head _)) (allc (List.Mem.head _) alln)) (fun m' H' hm' hX' => y_pickf rfl hA rfl) ?_
        refine g_y (i := 8) (listed' := #[true, true, true, true, true, true, true, true, true, false, false, false, false, false, false, false, false, false]) rfl (by kernel_rfl) (by kernel_rfl) (by kernel_rfl) (by kernel_rfl) rfl rfl hg (allc (List.Mem.tail _ (List.Mem.head _)) (allc (List.Mem.head _) alln)) (fun m' H' hm' hX' => y_move rfl) ?_
        refine g_split (j := 8) rfl (fun hB => ?_) (fun hB => ?_)
        ·
          refine g_no (i := 9) (listed' := #[true, true, true, true, true, true, true, true, true, true, false, false, false, false, false, false, false, false]) rfl (by kernel_rfl) (by kernel_rfl) (by kernel_rfl) (by kernel_rfl) rfl rfl hB rfl hg (allc (List.Mem.tail _ (List.Mem.head _)) (allc (List.Mem.head _) alln)) ?_
          refine g_no (i := 10) (listed' := #[true, true, true, true, true, true, true, true, true, true, true, false, false, false, false, false, false, false]) rfl (by kernel_rfl) (by kernel_rfl) (by kernel_rfl) (by kernel_rfl) rfl rfl hB rfl hg (allc (List.Mem.tail _ (List.Mem.head _)) (allc (List.Mem.head _) alln)) ?_
          refine g_no (i := 11) (listed' := #[true, true, true, true, true, true, true, true, true, true, true, true, false, false, false, false, false, false]) rfl (by kernel_rfl) (by kernel_rfl) (by kernel_rfl) (by kernel_rfl) rfl rfl hB rfl hg (allc (List.Mem.tail _ (List.Mem.head _)) (allc (List.Mem.head _) alln)) ?_
          refine g_no (i := 12) (listed' := #[true, true, true, true, true, true, true, true, true, true, true, true, true, false, false, false, false, false]) rfl (by kernel_rfl) (by kernel_rfl) (by kernel_rfl) (by kernel_rfl) rfl rfl hB rfl hg (allc (List.Mem.tail _ (List.Mem.head _)) (allc (List.Mem.head _) alln)) ?_
          refine g_no (i := 13) (listed' := #[true, true, true, true, true, true, true, true, true, true, true, true, true, true, false, false, false, false]) rfl (by kernel_rfl) (by kernel_rfl) (by kernel_rfl) (by kernel_rfl) rfl rfl hB rfl hg (allc (List.Mem.tail _ (List.Mem.head _)) (allc (List.Mem.head _) alln)) ?_
          refine g_no (i := 14) (listed' := #[true, true, true, true, true, true, true, true, true, true, true, true, true, true, true, false, false, false]) rfl (by kernel_rfl) (by kernel_rfl) (by kernel_rfl) (by kernel_rfl) rfl rfl hB rfl hg (allc (List.Mem.tail _ (List.Mem.head _)) (allc (List.Mem.head _) alln)) ?_
          refine g_no (i := 15) (listed' := #[true, true, true, true, true, true, true, true, true, true, true, true, true, true, true, true, false, false]) rfl (by kernel_rfl) (by kernel_rfl) (by kernel_rfl) (by kernel_rfl) rfl rfl hB rfl hg (allc (List.Mem.tail _ (List.Mem.head _)) (allc (List.Mem.head _) alln)) ?_
          refine g_y (i := 16) (listed' := #[true, true, true, true, true, true, true, true, true, true, true, true, true, true, true, true, true, false]) rfl (by kernel_rfl) (by kernel_rfl) (by kernel_rfl) (by kernel_rfl) rfl rfl hg (allc (List.Mem.tail _ (List.Mem.head _)) (allc (List.Mem.head _) alln)) (fun m' H' hm' hX' => y_pickt rfl hB rfl) ?_
          refine g_y (i := 17) (listed' := #[true, true, true, true, true, true, true, true, true, true, true, true, true, true, true, true, true, true]) rfl (by kernel_rfl) (by kernel_rfl) (by kernel_rfl) (by kernel_rfl) rfl rfl hg (allc (List.Mem.tail _ (List.Mem.head _)) (allc (List.Mem.head _) alln)) (fun m' H' hm' hX' => y_assign rfl) ?_
          refine g_done (by kernel_rfl) ?_
          clear hg hz1_g hz2_g
          refine hK8 _ _ _ ?_
          clear hK8 K8
          refine c_ret ?_
          refine e_ret 2 hm (res_tmps rfl) ?_
          first
            | exact ⟨rfl, rfl⟩
            | (refine ⟨congrArg Value.bool ?_, rfl⟩
               have : (l1 = l2) ↔ (x = y) := same_iff he1 he2 hx1 hx2
               simp [this])
        ·
          refine g_yg (i := 9) (listed' := #[true, true, true, true, true, true, true, true, true, true, false, false, false, false, false, false, false, false]) rfl (by kernel_rfl) (by kernel_rfl) (by kernel_rfl) (by kernel_rfl) rfl rfl hB rfl hg (allc (List.Mem.tail _ (List.Mem.head _)) (allc (List.Mem.head _) alln)) (fun m' H' hm' hX' => y_load_a (cs := encMsg x sm sr) rfl ts35 (RdA.mem (hX' _ (List.Mem.head _)) rfl)) ?_
          refine g_yg (i := 11) (listed' := #[true, true, true, true, true, true, true, true, true, true, false, true, false, false, false, false, false, false]) rfl (by kernel_rfl) (by kernel_rfl) (by kernel_rfl) (by kernel_rfl) rfl rfl hB rfl hg (allc (List.Mem.tail _ (List.Mem.head _)) (allc (List.Mem.head _) alln)) (fun m' H' hm' hX' => y_load_a (cs := encMsg y sm2 sr2) rfl ts35 (RdA.mem (hX' _ (List.Mem.tail _ (List.Mem.head _))) rfl)) ?_
          refine g_yg (i := 14) (listed' := #[true, true, true, true, true, true, true, true, true, true, false, true, false, false, true, false, false, false]) rfl (by kernel_rfl) (by kernel_rfl) (by kernel_rfl) (by kernel_rfl) rfl rfl hB rfl hg (allc (List.Mem.tail _ (List.Mem.head _)) (allc (List.Mem.head _) alln)) (fun m' H' hm' hX' => y_move rfl) ?_
          have hA1 := hA
          simp only [Bool.and_eq_true, decide_eq_true_eq, Bool.not_eq_eq_eq_not, Bool.not_false] at hA1
          obtain ⟨l1, he1⟩ := encode_of_sound hA1.1 hA1.2
          refine g_sg (i := 10) (listed' := #[true, true, true, true, true, true, true, true, true, true, true, true, false, false, true, false, false, false]) rfl (by kernel_rfl) (by kernel_rfl) rfl rfl hB ?_
          refine s_call0 rfl Try.call25 rfl (rEncodeF_w x sm sr lr _ _ hz1 l1 he1) ?_
          rintro _ m2 _ hm2 ⟨sv1, rfl, hzv1, hov1, rfl⟩
          replace hm := hm.trans hm2
          refine ⟨⟨hg.trans hm2, (allc (List.Mem.tail _ (List.Mem.head _)) (allc (List.Mem.head _) alln))⟩, ?_⟩
          replace hg := hg.trans hm2
          replace hz1 := hz1.mono hm2
          replace hz2 := hz2.mono hm2
          clear hm2
          have hB1 := hB
          simp only [Bool.and_eq_true, decide_eq_true_eq, Bool.not_eq_eq_eq_not, Bool.not_false] at hB1
          obtain ⟨l2, he2⟩ := encode_of_sound hB1.1 hB1.2
          refine g_sg (i := 12) (listed' := #[true, true, true, true, true, true, true, true, true, true, true, true, true, false, true, false, false, false]) rfl (by kernel_rfl) (by kernel_rfl) rfl rfl hB ?_
          refine s_call0 rfl Try.call25 rfl (rEncodeF_w y sm2 sr2 lr2 _ _ hz2 l2 he2) ?_
          rintro _ m2 _ hm2 ⟨sv2, rfl, hzv2, hov2, rfl⟩
          replace hm := hm.trans hm2
          refine ⟨⟨hg.trans hm2, (allc (List.Mem.tail _ (List.Mem.head _)) (allc (List.Mem.head _) alln))⟩, ?_⟩
          replace hg := hg.trans hm2
          replace hz1 := hz1.mono hm2
          replace hz2 := hz2.mono hm2
          replace hzv1 := hzv1.mono hm2
          clear hm2
          refine g_sg (i := 13) (listed' := #[true, true, true, true, true, true, true, true, true, true, true, true, true, true, true, false, false, false]) rfl (by kernel_rfl) (by kernel_rfl) rfl rfl hB ?_
          refine s_call0 rfl Try.call22 rfl (rBytes_w sv1 sv2 l1 l2 _ _ hzv1 hzv2) ?_
          rintro _ m2 _ hm2 ⟨rfl, rfl⟩
          replace hm := hm.trans hm2
          refine ⟨⟨hg.trans hm2, (allc (List.Mem.tail _ (List.Mem.head _)) (allc (List.Mem.head _) alln))⟩, ?_⟩
          replace hg := hg.trans hm2
          replace hz1 := hz1.mono hm2
          replace hz2 := hz2.mono hm2
          replace hzv1 := hzv1.mono hm2
          replace hzv2 := hzv2.mono hm2
          clear hm2
          refine g_yg (i := 15) (listed' := #[true, true, true, true, true, true, true, true, true, true, true, true, true, true, true, true, false, false]) rfl (by kernel_rfl) (by kernel_rfl) (by kernel_rfl) (by kernel_rfl) rfl rfl hB rfl hg (allc (List.Mem.tail _ (List.Mem.head _)) (allc (List.Mem.head _) alln)) (fun m' H' hm' hX' => y_eqbool rfl rfl Try.underlying4) ?_
          refine g_y (i := 16) (listed' := #[true, true, true, true, true, true, true, true, true, true, true, true, true, true, true, true, true, false]) rfl (by kernel_rfl) (by kernel_rfl) (by kernel_rfl) (by kernel_rfl) rfl rfl hg (allc (List.Mem.tail _ (List.Mem.head _)) (allc (List.Mem.head _) alln)) (fun m' H' hm' hX' => y_pickf rfl hB rfl) ?_
          refine g_y (i := 17) (listed' := #[true, true, true, true, true, true, true, true, true, true, true, true, true, true, true, true, true, true]) rfl (by kernel_rfl) (by kernel_rfl) (by kernel_rfl) (by kernel_rfl) rfl rfl hg (allc (List.Mem.tail _ (List.Mem.head _)) (allc (List.Mem.head _) alln)) (fun m' H' hm' hX' => y_assign rfl) ?_
          refine g_done (by kernel_rfl) ?_
          clear hg hz1_g hz2_g
          refine hK8 _ _ _ ?_
          clear hK8 K8
          refine c_ret ?_
          refine e_ret 2 hm (res_tmps rfl) ?_
          first
            | exact ⟨rfl, rfl⟩
            | (refine ⟨congrArg Value.bool ?_, rfl⟩
               have : (l1 = l2) ↔ (x = y) := same_iff he1 he2 hx1 hx2
               simp [this])
end Go.Aw
