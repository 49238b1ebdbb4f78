/- Part 8 of the words and walks that the proof behind it uses. -/
import Derived.Test.YtnmhkhobjaklhaaCodeSameP7
set_option linter.unusedVariables false
set_option linter.unusedSimpArgs false
namespace Go.Aw
open Go Go.Proofs
set_option maxRecDepth 100000 in
theorem rTable_w (s : Sl) (l : List (RuleD × Sl)) (m : Snap) (H : Hp) (hz : FzR m s l) : Fn Try.prog 38 [s.v] m H (fun v _ H' => v = .bool (ruleTable (l.map (·.1))) ∧ H' = H) := by
  have hl := hz.len
  have hmx := hz.fz.max
  have hle := hz.fz.le
  unfold maxLen at hmx
  have hm : m.le m := Snap.le.refl m
  refine fn_end Try.func38 rfl rfl rfl ?_
  refine c_seq (fun K0 hK0 => ?_)
  refine c_region ?_
  refine r_y rfl rfl (y_assign rfl) ?_
  refine r_nil ?_
  refine hK0 _ _ _ ?_
  clear hK0 K0
  refine c_seq (fun K1 hK1 => ?_)
  refine c_seq (fun K2 hK2 => ?_)
  refine c_region ?_
  refine r_y rfl rfl (y_assign rfl) ?_
  refine r_nil ?_
  refine hK2 _ _ _ ?_
  clear hK2 K2
  refine c_block ?_
  refine c_loopx (α := Nat) (fun i => [(0, s.v), (3, .int .i64 (i : Nat))]) (fun i => H) (fun k0 i m1 => (i + k0 = s.n ∧ (List.range i).all (okAt (l.map (·.1))) = true) ∧ m.le m1 ∧ (FzR m1 s l)) (s.n) 0 ⟨rfl, rfl, trivial⟩ rfl ⟨⟨by omega, rfl⟩, hm, hz⟩ ?_
  clear hm hz
  rintro k0 i m1 ⟨hi0, hm, hz⟩
  obtain ⟨hi, hinv⟩ := hi0
  refine c_seq (fun K3 hK3 => ?_)
  refine c_seq (fun K4 hK4 => ?_)
  refine c_region ?_
  refine r_y rfl rfl (y_move rfl) ?_
  refine r_y rfl rfl (y_move rfl) ?_
  refine r_y rfl rfl (y_len tl33 rfl) ?_
  refine r_y rfl rfl (y_iop rfl rfl rfl) ?_
  refine r_nil ?_
  refine hK4 _ _ _ ?_
  clear hK4 K4
  refine c_cond rfl (fun h0 => ?_) (fun h0 => ?_)
  ·
    have hlt : i < s.n := by simp at h0; omega
    obtain ⟨x, hx⟩ := get_of_lt (l := l) (k := i) (by omega)
    refine c_skip ?_
    refine hK3 _ _ _ ?_
    clear hK3 K3
    refine c_seq (fun K5 hK5 => ?_)
    refine c_block ?_
    refine c_seq (fun K6 hK6 => ?_)
    refine c_draw ([]) (by kernel_rfl) (fun hg => ?_)
    have hz_g := hz
    refine g_y (i := 0) (listed' := #[true, false, false, false, false, false, false, false, false, false, false, false, false, false, false, false, false, false, false, false, false, false, false]) rfl (by kernel_rfl) (by kernel_rfl) (by kernel_rfl) (by kernel_rfl) rfl rfl hg alln (fun m' H' hm' hX' => y_move rfl) ?_
    refine g_y (i := 1) (listed' := #[true, true, false, false, false, false, false, false, false, false, false, false, false, false, false, false, false, false, false, false, false, false, false]) rfl (by kernel_rfl) (by kernel_rfl) (by kernel_rfl) (by kernel_rfl) rfl rfl hg alln (fun m' H' hm' hX' => y_move rfl) ?_
    refine g_y (i := 2) (listed' := #[true, true, true, false, false, false, false, false, false, false, false, false, false, false, false, false, false, false, false, false, false, false, false]) rfl (by kernel_rfl) (by kernel_rfl) (by kernel_rfl) (by kernel_rfl) rfl rfl hg alln (fun m' H' hm' hX' => y_indexAddr_slice rfl rfl tl33 hlt (At.fz (hz_g.fz.mono hm') hlt)) ?_
    refine g_y (i := 3) (listed' := #[true, true, true, true, false, false, false, false, false, false, false, false, false, false, false, false, false, false, false, false, false, false, false]) rfl (by kernel_rfl) (by kernel_rfl) (by kernel_rfl) (by kernel_rfl) rfl rfl hg alln (fun m' H' hm' hX' => y_load_a rfl ts50 (RdA.fz0 (hz_g.fz.mono hm') (map_get hx))) ?_
    refine g_s (i := 4) (listed' := #[true, true, true, true, true, false, false, false, false, false, false, false, false, false, false, false, false, false, false, false, false, false, false]) rfl (by kernel_rfl) (by kernel_rfl) rfl ?_
    refine s_call0 rfl Try.call65 rfl (rRule_w x.1 x.2 _ _ (hz.acts x (List.mem_of_getElem? hx)).1) ?_
    rintro _ m2 _ hm2 ⟨rfl, rfl⟩
    replace hm := hm.trans hm2
    refine ⟨⟨hg.trans hm2, alln⟩, ?_⟩
    replace hg := hg.trans hm2
    replace hz := hz.mono hm2
    clear hm2
    refine g_y (i := 5) (listed' := #[true, true, true, true, true, true, false, false, false, false, false, false, false, false, false, false, false, false, false, false, false, false, false]) rfl (by kernel_rfl) (by kernel_rfl) (by kernel_rfl) (by kernel_rfl) rfl rfl hg alln (fun m' H' hm' hX' => y_not rfl) ?_
    refine g_y (i := 6) (listed' := #[true, true, true, true, true, true, true, false, false, false, false, false, false, false, false, false, false, false, false, false, false, false, false]) rfl (by kernel_rfl) (by kernel_rfl) (by kernel_rfl) (by kernel_rfl) rfl rfl hg alln (fun m' H' hm' hX' => y_move rfl) ?_
    refine g_split (j := 6) rfl (fun h1 => ?_) (fun h1 => ?_)
    ·
      refine g_no (i := 7) (listed' := #[true, true, true, true, true, true, true, true, false, false, false, false, false, false, false, false, false, false, false, false, false, false, false]) rfl (by kernel_rfl) (by kernel_rfl) (by kernel_rfl) (by kernel_rfl) rfl rfl h1 rfl hg alln ?_
      refine g_no (i := 8) (listed' := #[true, true, true, true, true, true, true, true, true, false, false, false, false, false, false, false, false, false, false, false, false, false, false]) rfl (by kernel_rfl) (by kernel_rfl) (by kernel_rfl) (by kernel_rfl) rfl rfl h1 rfl hg alln ?_
      refine g_no (i := 9) (listed' := #[true, true, true, true, true, true, true, true, true, true, false, false, false, false, false, false, false, false, false, false, false, false, false]) rfl (by kernel_rfl) (by kernel_rfl) (by kernel_rfl) (by kernel_rfl) rfl rfl h1 rfl hg alln ?_
      refine g_nou (i := 10) (listed' := #[true, true, true, true, true, true, true, true, true, true, true, false, false, false, false, false, false, false, false, false, false, false, false]) rfl (by kernel_rfl) (by kernel_rfl) (by kernel_rfl) (by kernel_rfl) rfl rfl rfl hg alln ?_
      refine g_nou (i := 11) (listed' := #[true, true, true, true, true, true, true, true, true, true, true, true, false, false, false, false, false, false, false, false, false, false, false]) rfl (by kernel_rfl) (by kernel_rfl) (by kernel_rfl) (by kernel_rfl) rfl rfl rfl hg alln ?_
      refine g_nou (i := 12) (listed' := #[true, true, true, true, true, true, true, true, true, true, true, true, true, false, false, false, false, false, false, false, false, false, false]) rfl (by kernel_rfl) (by kernel_rfl) (by kernel_rfl) (by kernel_rfl) rfl rfl rfl hg alln ?_
      refine g_nou (i := 13) (listed' := #[true, true, true, true, true, true, true, true, true, true, true, true, true, true, false, false, false, false, false, false, false, false, false]) rfl (by kernel_rfl) (by kernel_rfl) (by kernel_rfl) (by kernel_rfl) rfl rfl rfl hg alln ?_
      refine g_nou (i := 14) (listed' := #[true, true, true, true, true, true, true, true, true, true, true, true, true, true, true, false, false, false, false, false, false, false, false]) rfl (by kernel_rfl) (by kernel_rfl) (by kernel_rfl) (by kernel_rfl) rfl rfl rfl hg alln ?_
      refine g_nou (i := 15) (listed' := #[true, true, true, true, true, true, true, true, true, true, true, true, true, true, true, true, false, false, false, false, false, false, false]) rfl (by kernel_rfl) (by kernel_rfl) (by kernel_rfl) (by kernel_rfl) rfl rfl rfl hg alln ?_
      refine g_nou (i := 16) (listed' := #[true, true, true, true, true, true, true, true, true, true, true, true, true, true, true, true, true, false, false, false, false, false, false]) rfl (by kernel_rfl) (by kernel_rfl) (by kernel_rfl) (by kernel_rfl) rfl rfl rfl hg alln ?_
      refine g_nou (i := 17) (listed' := #[true, true, true, true, true, true, true, true, true, true, true, true, true, true, true, true, true, true, false, false, false, false, false]) rfl (by kernel_rfl) (by kernel_rfl) (by kernel_rfl) (by kernel_rfl) rfl rfl rfl hg alln ?_
      refine g_nou (i := 18) (listed' := #[true, true, true, true, true, true, true, true, true, true, true, true, true, true, true, true, true, true, true, false, false, false, false]) rfl (by kernel_rfl) (by kernel_rfl) (by kernel_rfl) (by kernel_rfl) rfl rfl rfl hg alln ?_
      refine g_nou (i := 19) (listed' := #[true, true, true, true, true, true, true, true, true, true, true, true, true, true, true, true, true, true, true, true, false, false, false]) rfl (by kernel_rfl) (by kernel_rfl) (by kernel_rfl) (by kernel_rfl) rfl rfl rfl hg alln ?_
      refine g_nou (i := 20) (listed' := #[true, true, true, true, true, true, true, true, true, true, true, true, true, true, true, true, true, true, true, true, true, false, false]) rfl (by kernel_rfl) (by kernel_rfl) (by kernel_rfl) (by kernel_rfl) rfl rfl rfl hg alln ?_
      refine g_no (i := 21) (listed' := #[true, true, true, true, true, true, true, true, true, true, true, true, true, true, true, true, true, true, true, true, true, true, false]) rfl (by kernel_rfl) (by kernel_rfl) (by kernel_rfl) (by kernel_rfl) rfl rfl h1 rfl hg alln ?_
      refine g_y (i := 22) (listed' := #[true, true, true, true, true, true, true, true, true, true, true, true, true, true, true, true, true, true, true, true, true, true, true]) rfl (by kernel_rfl) (by kernel_rfl) (by kernel_rfl) (by kernel_rfl) rfl rfl hg alln (fun m' H' hm' hX' => y_pickt rfl h1 rfl) ?_
      refine g_done (by kernel_rfl) ?_
      clear hg hz_g
      refine hK6 _ _ _ ?_
      clear hK6 K6
      refine c_ift rfl rfl ?_
      refine c_seq (fun K7 hK7 => ?_)
      refine c_region ?_
      refine r_y rfl rfl (y_assign rfl) ?_
      refine r_nil ?_
      refine hK7 _ _ _ ?_
      clear hK7 K7
      refine c_ret ?_
      refine e_ret 0 hm (res_tmps rfl) ?_
      refine ⟨congrArg Value.bool ?_, rfl⟩
      refine (all_range_false (i := i) ?_ (by simp; omega)).symm
      simp_all [okAt]
      try omega
    ·
      refine g_yg (i := 7) (listed' := #[true, true, true, true, true, true, true, true, false, false, false, false, false, false, false, false, false, false, false, false, false, false, false]) rfl (by kernel_rfl) (by kernel_rfl) (by kernel_rfl) (by kernel_rfl) rfl rfl h1 rfl hg alln (fun m' H' hm' hX' => y_move rfl) ?_
      refine g_yg (i := 8) (listed' := #[true, true, true, true, true, true, true, true, true, false, false, false, false, false, false, false, false, false, false, false, false, false, false]) rfl (by kernel_rfl) (by kernel_rfl) (by kernel_rfl) (by kernel_rfl) rfl rfl h1 rfl hg alln (fun m' H' hm' hX' => y_iop rfl rfl rfl) ?_
      refine g_yg (i := 9) (listed' := #[true, true, true, true, true, true, true, true, true, true, false, false, false, false, false, false, false, false, false, false, false, false, false]) rfl (by kernel_rfl) (by kernel_rfl) (by kernel_rfl) (by kernel_rfl) rfl rfl h1 rfl hg alln (fun m' H' hm' hX' => y_move rfl) ?_
      refine g_split (j := 9) rfl (fun h2 => ?_) (fun h2 => ?_)
      ·
        have hi1 : 0 < i := by have := of_decide_eq_true ‹decide ((i : Int) > 0) = true›; omega
        have hlt3 : i - 1 < s.n := by omega
        obtain ⟨y, hy⟩ := get_of_lt (l := l) (k := i - 1) (by omega)
        refine g_yg (i := 10) (listed' := #[true, true, true, true, true, true, true, true, true, true, true, false, false, false, false, false, false, false, false, false, false, false, false]) rfl (by kernel_rfl) (by kernel_rfl) (by kernel_rfl) (by kernel_rfl) rfl rfl h2 rfl hg alln (fun m' H' hm' hX' => y_move rfl) ?_
        refine g_yg (i := 11) (listed' := #[true, true, true, true, true, true, true, true, true, true, true, true, false, false, false, false, false, false, false, false, false, false, false]) rfl (by kernel_rfl) (by kernel_rfl) (by kernel_rfl) (by kernel_rfl) rfl rfl h2 rfl hg alln (fun m' H' hm' hX' => y_move rfl) ?_
        refine g_yg (i := 12) (listed' := #[true, true, true, true, true, true, true, true, true, true, true, true, true, false, false, false, false, false, false, false, false, false, false]) rfl (by kernel_rfl) (by kernel_rfl) (by kernel_rfl) (by kernel_rfl) rfl rfl h2 rfl hg alln (fun m' H' hm' hX' => y_dec rfl hi1 (by omega)) ?_
        refine g_yg (i := 13) (listed' := #[true, true, true, true, true, true, true, true, true, true, true, true, true, true, false, false, false, false, false, false, false, false, false]) rfl (by kernel_rfl) (by kernel_rfl) (by kernel_rfl) (by kernel_rfl) rfl rfl h2 rfl hg alln (fun m' H' hm' hX' => y_indexAddr_slice rfl rfl tl33 hlt3 (At.fz (hz_g.fz.mono hm') hlt3)) ?_
        refine g_yg (i := 14) (listed' := #[true, true, true, true, true, true, true, true, true, true, true, true, true, true, true, false, false, false, false, false, false, false, false]) rfl (by kernel_rfl) (by kernel_rfl) (by kernel_rfl) (by kernel_rfl) rfl rfl h2 rfl hg alln (fun m' H' hm' hX' => y_load_a rfl ts50 (RdA.fz0 (hz_g.fz.mono hm') (map_get hy))) ?_
        refine g_yg (i := 15) (listed' := #[true, true, true, true, true, true, true, true, true, true, true, true, true, true, true, true, false, false, false, false, false, false, false]) rfl (by kernel_rfl) (by kernel_rfl) (by kernel_rfl) (by kernel_rfl) rfl rfl h2 rfl hg alln (fun m' H' hm' hX' => y_move rfl) ?_
        refine g_yg (i := 16) (listed' := #[true, true, true, true, true, true, true, true, true, true, true, true, true, true, true, true, true, false, false, false, false, false, false]) rfl (by kernel_rfl) (by kernel_rfl) (by kernel_rfl) (by kernel_rfl) rfl rfl h2 rfl hg alln (fun m' H' hm' hX' => y_move rfl) ?_
        refine g_yg (i := 17) (listed' := #[true, true, true, true, true, true, true, true, true, true, true, true, true, true, true, true, true, true, false, false, false, false, false]) rfl (by kernel_rfl) (by kernel_rfl) (by kernel_rfl) (by kernel_rfl) rfl rfl h2 rfl hg alln (fun m' H' hm' hX' => y_indexAddr_slice rfl rfl tl33 hlt (At.fz (hz_g.fz.mono hm') hlt)) ?_
        refine g_yg (i := 18) (listed' := #[true, true, true, true, true, true, true, true, true, true, true, true, true, true, true, true, true, true, true, false, false, false, false]) rfl (by kernel_rfl) (by kernel_rfl) (by kernel_rfl) (by kernel_rfl) rfl rfl h2 rfl hg alln (fun m' H' hm' hX' => y_load_a rfl ts50 (RdA.fz0 (hz_g.fz.mono hm') (map_get hx))) ?_
        refine g_sg (i := 19) (listed' := #[true, true, true, true, true, true, true, true, true, true, true, true, true, true, true, true, true, true, true, true, false, false, false]) rfl (by kernel_rfl) (by kernel_rfl) rfl rfl h2 ?_
        refine s_call0 rfl Try.call97 rfl (rBefore_w y.1 x.1 y.2 x.2 _ _) ?_
        rintro _ m2 _ hm2 ⟨rfl, rfl⟩
        replace hm := hm.trans hm2
        refine ⟨⟨hg.trans hm2, alln⟩, ?_⟩
        replace hg := hg.trans hm2
        replace hz := hz.mono hm2
        clear hm2
        refine g_yg (i := 20) (listed' := #[true, true, true, true, true, true, true, true, true, true, true, true, true, true, true, true, true, true, true, true, true, false, false]) rfl (by kernel_rfl) (by kernel_rfl) (by kernel_rfl) (by kernel_rfl) rfl rfl h2 rfl hg alln (fun m' H' hm' hX' => y_not rfl) ?_
        refine g_yg (i := 21) (listed' := #[true, true, true, true, true, true, true, true, true, true, true, true, true, true, true, true, true, true, true, true, true, true, false]) rfl (by kernel_rfl) (by kernel_rfl) (by kernel_rfl) (by kernel_rfl) rfl rfl h1 rfl hg alln (fun m' H' hm' hX' => y_pickt rfl h2 rfl) ?_
        refine g_y (i := 22) (listed' := #[true, true, true, true, true, true, true, true, true, true, true, true, true, true, true, true, true, true, true, true, true, true, true]) rfl (by kernel_rfl) (by kernel_rfl) (by kernel_rfl) (by kernel_rfl) rfl rfl hg alln (fun m' H' hm' hX' => y_pickf rfl h1 rfl) ?_
        refine g_done (by kernel_rfl) ?_
        clear hg hz_g
        refine hK6 _ _ _ ?_
        clear hK6 K6
        refine c_cond rfl (fun h3 => ?_) (fun h3 => ?_)
        ·
          refine c_seq (fun K8 hK8 => ?_)
          refine c_region ?_
          refine r_y rfl rfl (y_assign rfl) ?_
          refine r_nil ?_
          refine hK8 _ _ _ ?_
          clear hK8 K8
          refine c_ret ?_
          refine e_ret 0 hm (res_tmps rfl) ?_
          refine ⟨congrArg Value.bool ?_, rfl⟩
          refine (all_range_false (i := i) ?_ (by simp; omega)).symm
          simp_all [okAt]
          try omega
        ·
          refine c_skip ?_
          refine hK5 _ _ _ ?_
          clear hK5 K5
          refine c_region ?_
          refine r_y rfl rfl (y_move rfl) ?_
          first | refine r_y rfl rfl (y_inc rfl (by omega)) ?_ | refine r_y rfl rfl (y_iop rfl rfl rfl) ?_
          refine r_y rfl rfl (y_assign rfl) ?_
          refine r_nil ?_
          exact ⟨k0 - 1, (i + 1), by omega, ⟨rfl, rfl, trivial⟩, rfl, ⟨by omega, by rw [all_range_succ, hinv]; simp_all [okAt]⟩, hm, hz⟩
      ·
        refine g_no (i := 10) (listed' := #[true, true, true, true, true, true, true, true, true, true, true, false, false, false, false, false, false, false, false, false, false, false, false]) rfl (by kernel_rfl) (by kernel_rfl) (by kernel_rfl) (by kernel_rfl) rfl rfl h2 rfl hg alln ?_
        refine g_no (i := 11) (listed' := #[true, true, true, true, true, true, true, true, true, true, true, true, false, false, false, false, false, false, false, false, false, false, false]) rfl (by kernel_rfl) (by kernel_rfl) (by kernel_rfl) (by kernel_rfl) rfl rfl h2 rfl hg alln ?_
        refine g_no (i := 12) (listed' := #[true, true, true, true, true, true, true, true, true, true, true, true, true, false, false, false, false, false, false, false, false, false, false]) rfl (by kernel_rfl) (by kernel_rfl) (by kernel_rfl) (by kernel_rfl) rfl rfl h2 rfl hg alln ?_
        refine g_no (i := 13) (listed' := #[true, true, true, true, true, true, true, true, true, true, true, true, true, true, false, false, false, false, false, false, false, false, false]) rfl (by kernel_rfl) (by kernel_rfl) (by kernel_rfl) (by kernel_rfl) rfl rfl h2 rfl hg alln ?_
        refine g_no (i := 14) (listed' := #[true, true, true, true, true, true, true, true, true, true, true, true, true, true, true, false, false, false, false, false, false, false, false]) rfl (by kernel_rfl) (by kernel_rfl) (by kernel_rfl) (by kernel_rfl) rfl rfl h2 rfl hg alln ?_
        refine g_no (i := 15) (listed' := #[true, true, true, true, true, true, true, true, true, true, true, true, true, true, true, true, false, false, false, false, false, false, false]) rfl (by kernel_rfl) (by kernel_rfl) (by kernel_rfl) (by kernel_rfl) rfl rfl h2 rfl hg alln ?_
        refine g_no (i := 16) (listed' := #[true, true, true, true, true, true, true, true, true, true, true, true, true, true, true, true, true, false, false, false, false, false, false]) rfl (by kernel_rfl) (by kernel_rfl) (by kernel_rfl) (by kernel_rfl) rfl rfl h2 rfl hg alln ?_
        refine g_no (i := 17) (listed' := #[true, true, true, true, true, true, true, true, true, true, true, true, true, true, true, true, true, true, false, false, false, false, false]) rfl (by kernel_rfl) (by kernel_rfl) (by kernel_rfl) (by kernel_rfl) rfl rfl h2 rfl hg alln ?_
        refine g_no (i := 18) (listed' := #[true, true, true, true, true, true, true, true, true, true, true, true, true, true, true, true, true, true, true, false, false, false, false]) rfl (by kernel_rfl) (by kernel_rfl) (by kernel_rfl) (by kernel_rfl) rfl rfl h2 rfl hg alln ?_
        refine g_no (i := 19) (listed' := #[true, true, true, true, true, true, true, true, true, true, true, true, true, true, true, true, true, true, true, true, false, false, false]) rfl (by kernel_rfl) (by kernel_rfl) (by kernel_rfl) (by kernel_rfl) rfl rfl h2 rfl hg alln ?_
        refine g_no (i := 20) (listed' := #[true, true, true, true, true, true, true, true, true, true, true, true, true, true, true, true, true, true, true, true, true, false, false]) rfl (by kernel_rfl) (by kernel_rfl) (by kernel_rfl) (by kernel_rfl) rfl rfl h2 rfl hg alln ?_
        refine g_yg (i := 21) (listed' := #[true, true, true, true, true, true, true, true, true, true, true, true, true, true, true, true, true, true, true, true, true, true, false]) rfl (by kernel_rfl) (by kernel_rfl) (by kernel_rfl) (by kernel_rfl) rfl rfl h1 rfl hg alln (fun m' H' hm' hX' => y_pickf rfl h2 rfl) ?_
        refine g_y (i := 22) (listed' := #[true, true, true, true, true, true, true, true, true, true, true, true, true, true, true, true, true, true, true, true, true, true, true]) rfl (by kernel_rfl) (by kernel_rfl) (by kernel_rfl) (by kernel_rfl) rfl rfl hg alln (fun m' H' hm' hX' => y_pickf rfl h1 rfl) ?_
        refine g_done (by kernel_rfl) ?_
        clear hg hz_g
        refine hK6 _ _ _ ?_
        clear hK6 K6
        refine c_iff rfl rfl ?_
        refine c_skip ?_
        refine hK5 _ _ _ ?_
        clear hK5 K5
        refine c_region ?_
        refine r_y rfl rfl (y_move rfl) ?_
        first | refine r_y rfl rfl (y_inc rfl (by omega)) ?_ | refine r_y rfl rfl (y_iop rfl rfl rfl) ?_
        refine r_y rfl rfl (y_assign rfl) ?_
        refine r_nil ?_
        exact ⟨k0 - 1, (i + 1), by omega, ⟨rfl, rfl, trivial⟩, rfl, ⟨by omega, by rw [all_range_succ, hinv]; simp_all [okAt]⟩, hm, hz⟩
  ·
    refine c_exit ?_
    refine hK1 _ _ _ ?_
    clear hK3 K3 hK1 K1
    refine c_seq (fun K9 hK9 => ?_)
    refine c_region ?_
    refine r_y rfl rfl (y_assign rfl) ?_
    refine r_nil ?_
    refine hK9 _ _ _ ?_
    clear hK9 K9
    refine c_ret ?_
    refine e_ret 0 hm (res_tmps rfl) ?_
    refine ⟨congrArg Value.bool ?_, rfl⟩
    have hie : i = s.n := by simp at h0; omega
    rw [ruleTable]; simp; rw [← hl, ← hie]; simpa using hinv
set_option maxRecDepth 100000 in
theorem rSame_w (s1 s2 : Sl) (l1 l2 : List (RuleD × Sl)) (m : Snap) (H : Hp) (hz1 : FzR m s1 l1) (hz2 : FzR m s2 l2) : Fn Try.prog 35 [s1.v, s2.v] m H (fun v _ H' => v = .bool (decide (l1.map (·.1) = l2.map (·.1))) ∧ H' = H) := by
  have hm : m.le m := Snap.le.refl m
  refine fn_end Try.func35 rfl rfl rfl ?_
  refine c_seq (fun K0 hK0 => ?_)
  refine c_region ?_
  refine r_y rfl rfl (y_assign rfl) ?_
  refine r_nil ?_
  refine hK0 _ _ _ ?_
  clear hK0 K0
  refine c_seq (fun K1 hK1 => ?_)
  refine c_seq (fun K2 hK2 => ?_)
  refine c_region ?_
  refine r_y rfl rfl (y_move rfl) ?_
  refine r_y rfl rfl (y_len tl33 rfl) ?_
  refine r_y rfl rfl (y_move rfl) ?_
  refine r_y rfl rfl (y_len tl33 rfl) ?_
  refine r_y rfl rfl (y_iop rfl rfl rfl) ?_
  refine r_nil ?_
  refine hK2 _ _ _ ?_
  clear hK2 K2
  refine c_cond rfl (fun h0 => ?_) (fun h0 => ?_)
  ·
    refine c_seq (fun K3 hK3 => ?_)
    refine c_region ?_
    refine r_y rfl rfl (y_assign rfl) ?_
    refine r_nil ?_
    refine hK3 _ _ _ ?_
    clear hK3 K3
    refine c_ret ?_
    refine e_ret 0 hm (res_tmps rfl) ?_
    refine ⟨congrArg Value.bool ?_, rfl⟩
    have hl1 := hz1.len; have hl2 := hz2.len
    have : s1.n ≠ s2.n := by simp at h0; omega
    exact (decide_eq_false (by intro e; have := congrArg List.length e; simp at this; omega)).symm
  ·
    have hl1 := hz1.len
    have hl2 := hz2.len
    have hne : s1.n = s2.n := by simp at h0; omega
    have hmx := hz1.fz.max
    have hle := hz1.fz.le
    unfold maxLen at hmx
    refine c_skip ?_
    refine hK1 _ _ _ ?_
    clear hK1 K1
    refine c_seq (fun K4 hK4 => ?_)
    refine c_seq (fun K5 hK5 => ?_)
    refine c_region ?_
    refine r_y rfl rfl (y_assign rfl) ?_
    refine r_nil ?_
    refine hK5 _ _ _ ?_
    clear hK5 K5
    refine c_block ?_
    refine c_loopx (α := Nat) (fun i => [(0, s1.v), (1, s2.v), (5, .int .i64 (i : Nat))]) (fun i => H) (fun k0 i m1 => (i + k0 = s1.n ∧ (l1.map (·.1)).take i = (l2.map (·.1)).take i) ∧ m.le m1 ∧ (FzR m1 s1 l1) ∧ (FzR m1 s2 l2)) (s1.n) 0 ⟨rfl, rfl, rfl, trivial⟩ rfl ⟨⟨by omega, rfl⟩, hm, hz1, hz2⟩ ?_
    clear hm hz1 hz2
    rintro k0 i m1 ⟨hi0, hm, hz1, hz2⟩
    obtain ⟨hi, hinv⟩ := hi0
    refine c_seq (fun K6 hK6 => ?_)
    refine c_seq (fun K7 hK7 => ?_)
    refine c_region ?_
    refine r_y rfl rfl (y_move rfl) ?_
    refine r_y rfl rfl (y_move rfl) ?_
    refine r_y rfl rfl (y_len tl33 rfl) ?_
    refine r_y rfl rfl (y_iop rfl rfl rfl) ?_
    refine r_nil ?_
    refine hK7 _ _ _ ?_
    clear hK7 K7
    refine c_cond rfl (fun h1 => ?_) (fun h1 => ?_)
    ·
      have hlt1 : i < s1.n := by simp at h1; omega
      have hlt2 : i < s2.n := by omega
      obtain ⟨x1, hx1⟩ := get_of_lt (l := l1) (k := i) (by omega)
      obtain ⟨x2, hx2⟩ := get_of_lt (l := l2) (k := i) (by omega)
      have hy1 : (l1.map (·.1))[i]? = some x1.1 := map_get hx1
      have hy2 : (l2.map (·.1))[i]? = some x2.1 := map_get hx2
      refine c_skip ?_
      refine hK6 _ _ _ ?_
      clear hK6 K6
      refine c_seq (fun K8 hK8 => ?_)
      refine c_block ?_
      refine c_seq (fun K9 hK9 => ?_)
      refine c_draw ([]) (by kernel_rfl) (fun hg => ?_)
      have hz1_g := hz1
      have hz2_g := hz2
      refine g_y (i := 0) (listed' := #[true, false, false, false, false, false, false, false, false, false]) rfl (by kernel_rfl) (by kernel_rfl) (by kernel_rfl) (by kernel_rfl) rfl rfl hg alln (fun m' H' hm' hX' => y_move rfl) ?_
      refine g_y (i := 1) (listed' := #[true, true, false, false, false, false, false, false, false, false]) rfl (by kernel_rfl) (by kernel_rfl) (by kernel_rfl) (by kernel_rfl) rfl rfl hg alln (fun m' H' hm' hX' => y_move rfl) ?_
      refine g_y (i := 2) (listed' := #[true, true, true, false, false, false, false, false, false, false]) rfl (by kernel_rfl) (by kernel_rfl) (by kernel_rfl) (by kernel_rfl) rfl rfl hg alln (fun m' H' hm' hX' => y_indexAddr_slice rfl rfl tl33 hlt1 (At.fz (hz1_g.fz.mono hm') hlt1)) ?_
      refine g_y (i := 3) (listed' := #[true, true, true, true, false, false, false, false, false, false]) rfl (by kernel_rfl) (by kernel_rfl) (by kernel_rfl) (by kernel_rfl) rfl rfl hg alln (fun m' H' hm' hX' => y_load_a rfl ts50 (RdA.fz0 (hz1_g.fz.mono hm') (map_get hx1))) ?_
      refine g_y (i := 4) (listed' := #[true, true, true, true, true, false, false, false, false, false]) rfl (by kernel_rfl) (by kernel_rfl) (by kernel_rfl) (by kernel_rfl) rfl rfl hg alln (fun m' H' hm' hX' => y_move rfl) ?_
      refine g_y (i := 5) (listed' := #[true, true, true, true, true, true, false, false, false, false]) rfl (by kernel_rfl) (by kernel_rfl) (by kernel_rfl) (by kernel_rfl) rfl rfl hg alln (fun m' H' hm' hX' => y_move rfl) ?_
      refine g_y (i := 6) (listed' := #[true, true, true, true, true, true, true, false, false, false]) rfl (by kernel_rfl) (by kernel_rfl) (by kernel_rfl) (by kernel_rfl) rfl rfl hg alln (fun m' H' hm' hX' => y_indexAddr_slice rfl rfl tl33 hlt2 (At.fz (hz2_g.fz.mono hm') hlt2)) ?_
      refine g_y (i := 7) (listed' := #[true, true, true, true, true, true, true, true, false, false]) rfl (by kernel_rfl) (by kernel_rfl) (by kernel_rfl) (by kernel_rfl) rfl rfl hg alln (fun m' H' hm' hX' => y_load_a rfl ts50 (RdA.fz0 (hz2_g.fz.mono hm') (map_get hx2))) ?_
      refine g_s (i := 8) (listed' := #[true, true, true, true, true, true, true, true, true, false]) rfl (by kernel_rfl) (by kernel_rfl) rfl ?_
      refine s_call0 rfl Try.call89 rfl (rEqual_w x1.1 x2.1 x1.2 x2.2 _ _ (hz1.acts x1 (List.mem_of_getElem? hx1)).1 (hz2.acts x2 (List.mem_of_getElem? hx2)).1) ?_
      rintro _ m2 _ hm2 ⟨rfl, rfl⟩
      replace hm := hm.trans hm2
      refine ⟨⟨hg.trans hm2, alln⟩, ?_⟩
      replace hg := hg.trans hm2
      replace hz1 := hz1.mono hm2
      replace hz2 := hz2.mono hm2
      clear hm2
      refine g_y (i := 9) (listed' := #[true, true, true, true, true, true, true, true, true, true]) rfl (by kernel_rfl) (by kernel_rfl) (by kernel_rfl) (by kernel_rfl) rfl rfl hg alln (fun m' H' hm' hX' => y_not rfl) ?_
      refine g_done (by kernel_rfl) ?_
      clear hg hz1_g hz2_g
      refine hK9 _ _ _ ?_
      clear hK9 K9
      refine c_cond rfl (fun h2 => ?_) (fun h2 => ?_)
      ·
        refine c_seq (fun K10 hK10 => ?_)
        refine c_region ?_
        refine r_y rfl rfl (y_assign rfl) ?_
        refine r_nil ?_
        refine hK10 _ _ _ ?_
        clear hK10 K10
        refine c_ret ?_
        refine e_ret 0 hm (res_tmps rfl) ?_
        refine ⟨congrArg Value.bool ?_, rfl⟩
        refine (decide_eq_false ?_).symm
        intro e
        rw [e, hy2] at hy1
        simp at hy1 h2
        exact h2 hy1.symm
      ·
        refine c_skip ?_
        refine hK8 _ _ _ ?_
        clear hK8 K8
        refine c_region ?_
        refine r_y rfl rfl (y_move rfl) ?_
        first | refine r_y rfl rfl (y_inc rfl (by omega)) ?_ | refine r_y rfl rfl (y_iop rfl rfl rfl) ?_
        refine r_y rfl rfl (y_assign rfl) ?_
        refine r_nil ?_
        exact ⟨k0 - 1, (i + 1), by omega, ⟨rfl, rfl, rfl, trivial⟩, rfl, ⟨by omega, by rw [List.take_add_one, List.take_add_one, hinv, hy1, hy2]; simp at h2; rw [h2]⟩, hm, hz1, hz2⟩
    ·
      refine c_exit ?_
      refine hK4 _ _ _ ?_
      clear hK6 K6 hK4 K4
      refine c_seq (fun K11 hK11 => ?_)
      refine c_region ?_
      refine r_y rfl rfl (y_assign rfl) ?_
      refine r_nil ?_
      refine hK11 _ _ _ ?_
      clear hK11 K11
      refine c_ret ?_
      refine e_ret 0 hm (res_tmps rfl) ?_
      refine ⟨congrArg Value.bool ?_, rfl⟩
      have hie : i = s1.n := by simp at h1; omega
      refine (decide_eq_true ?_).symm
      rw [List.take_of_length_le (by simp; omega), List.take_of_length_le (by simp; omega)] at hinv
      exact hinv
set_option maxRecDepth 100000 in
theorem rBytes_w (s1 s2 : Sl) (l1 l2 : List UInt8) (m : Snap) (H : Hp) (hz1 : FzB m s1 l1) (hz2 : FzB m s2 l2) : Fn Try.prog 22 [s1.v, s2.v] m H (fun v _ H' => v = .bool (decide (l1 = l2)) ∧ H' = H) := by
  have hm : m.le m := Snap.le.refl m
  refine fn_end Try.func22 rfl rfl rfl ?_
  refine c_seq (fun K0 hK0 => ?_)
  refine c_region ?_
  refine r_y rfl rfl (y_assign rfl) ?_
  refine r_nil ?_
  refine hK0 _ _ _ ?_
  clear hK0 K0
  refine c_seq (fun K1 hK1 => ?_)
  refine c_seq (fun K2 hK2 => ?_)
  refine c_region ?_
  refine r_y rfl rfl (y_move rfl) ?_
  refine r_y rfl rfl (y_len tl22 rfl) ?_
  refine r_y rfl rfl (y_move rfl) ?_
  refine r_y rfl rfl (y_len tl22 rfl) ?_
  refine r_y rfl rfl (y_iop rfl rfl rfl) ?_
  refine r_nil ?_
  refine hK2 _ _ _ ?_
  clear hK2 K2
  refine c_cond rfl (fun h0 => ?_) (fun h0 => ?_)
  ·
    refine c_seq (fun K3 hK3 => ?_)
    refine c_region ?_
    refine r_y rfl rfl (y_assign rfl) ?_
    refine r_nil ?_
    refine hK3 _ _ _ ?_
    clear hK3 K3
    refine c_ret ?_
    refine e_ret 0 hm (res_tmps rfl) ?_
    refine ⟨congrArg Value.bool ?_, rfl⟩
    have hl1 := Fz.lenB hz1; have hl2 := Fz.lenB hz2
    have : s1.n ≠ s2.n := by simp at h0; omega
    exact (decide_eq_false (by rintro rfl; omega)).symm
  ·
    have hl1 := Fz.lenB hz1
    have hl2 := Fz.lenB hz2
    have hne : s1.n = s2.n := by simp at h0; omega
    have hmx := hz1.max
    have hle := hz1.le
    unfold maxLen at hmx
    refine c_skip ?_
    refine hK1 _ _ _ ?_
    clear hK1 K1
    refine c_seq (fun K4 hK4 => ?_)
    refine c_seq (fun K5 hK5 => ?_)
    refine c_region ?_
    refine r_y rfl rfl (y_assign rfl) ?_
    refine r_nil ?_
    refine hK5 _ _ _ ?_
    clear hK5 K5
    refine c_block ?_
    refine c_loopx (α := Nat) (fun i => [(0, s1.v), (1, s2.v), (5, .int .i64 (i : Nat))]) (fun i => H) (fun k0 i m1 => (i + k0 = s1.n ∧ l1.take i = l2.take i) ∧ m.le m1 ∧ (FzB m1 s1 l1) ∧ (FzB m1 s2 l2)) (s1.n) 0 ⟨rfl, rfl, rfl, trivial⟩ rfl ⟨⟨by omega, rfl⟩, hm, hz1, hz2⟩ ?_
    clear hm hz1 hz2
    rintro k0 i m1 ⟨hi0, hm, hz1, hz2⟩
    obtain ⟨hi, hinv⟩ := hi0
    refine c_seq (fun K6 hK6 => ?_)
    refine c_seq (fun K7 hK7 => ?_)
    refine c_region ?_
    refine r_y rfl rfl (y_move rfl) ?_
    refine r_y rfl rfl (y_move rfl) ?_
    refine r_y rfl rfl (y_len tl22 rfl) ?_
    refine r_y rfl rfl (y_iop rfl rfl rfl) ?_
    refine r_nil ?_
    refine hK7 _ _ _ ?_
    clear hK7 K7
    refine c_cond rfl (fun h1 => ?_) (fun h1 => ?_)
    ·
      have hlt1 : i < s1.n := by simp at h1; omega
      have hlt2 : i < s2.n := by omega
      obtain ⟨x1, hx1⟩ := get_of_lt (l := l1) (k := i) (by omega)
      obtain ⟨x2, hx2⟩ := get_of_lt (l := l2) (k := i) (by omega)
      refine c_skip ?_
      refine hK6 _ _ _ ?_
      clear hK6 K6
      refine c_seq (fun K8 hK8 => ?_)
      refine c_block ?_
      refine c_seq (fun K9 hK9 => ?_)
      refine c_draw ([]) (by kernel_rfl) (fun hg => ?_)
      have hz1_g := hz1
      have hz2_g := hz2
      refine g_y (i := 0) (listed' := #[true, false, false, false, false, false, false, false, false]) rfl (by kernel_rfl) (by kernel_rfl) (by kernel_rfl) (by kernel_rfl) rfl rfl hg alln (fun m' H' hm' hX' => y_move rfl) ?_
      refine g_y (i := 1) (listed' := #[true, true, false, false, false, false, false, false, false]) rfl (by kernel_rfl) (by kernel_rfl) (by kernel_rfl) (by kernel_rfl) rfl rfl hg alln (fun m' H' hm' hX' => y_move rfl) ?_
      refine g_y (i := 2) (listed' := #[true, true, true, false, false, false, false, false, false]) rfl (by kernel_rfl) (by kernel_rfl) (by kernel_rfl) (by kernel_rfl) rfl rfl hg alln (fun m' H' hm' hX' => y_indexAddr_slice rfl rfl tl22 hlt1 (At.fz (hz1_g.mono hm') hlt1)) ?_
      refine g_y (i := 3) (listed' := #[true, true, true, true, false, false, false, false, false]) rfl (by kernel_rfl) (by kernel_rfl) (by kernel_rfl) (by kernel_rfl) rfl rfl hg alln (fun m' H' hm' hX' => y_load_s rfl ts5 (RdS.fz (j := 0) (hz1_g.mono hm') (bytes1_get hx1) rfl)) ?_
      refine g_y (i := 4) (listed' := #[true, true, true, true, true, false, false, false, false]) rfl (by kernel_rfl) (by kernel_rfl) (by kernel_rfl) (by kernel_rfl) rfl rfl hg alln (fun m' H' hm' hX' => y_move rfl) ?_
      refine g_y (i := 5) (listed' := #[true, true, true, true, true, true, false, false, false]) rfl (by kernel_rfl) (by kernel_rfl) (by kernel_rfl) (by kernel_rfl) rfl rfl hg alln (fun m' H' hm' hX' => y_move rfl) ?_
      refine g_y (i := 6) (listed' := #[true, true, true, true, true, true, true, false, false]) rfl (by kernel_rfl) (by kernel_rfl) (by kernel_rfl) (by kernel_rfl) rfl rfl hg alln (fun m' H' hm' hX' => y_indexAddr_slice rfl rfl tl22 hlt2 (At.fz (hz2_g.mono hm') hlt2)) ?_
      refine g_y (i := 7) (listed' := #[true, true, true, true, true, true, true, true, false]) rfl (by kernel_rfl) (by kernel_rfl) (by kernel_rfl) (by kernel_rfl) rfl rfl hg alln (fun m' H' hm' hX' => y_load_s rfl ts5 (RdS.fz (j := 0) (hz2_g.mono hm') (bytes1_get hx2) rfl)) ?_
      refine g_y (i := 8) (listed' := #[true, true, true, true, true, true, true, true, true]) rfl (by kernel_rfl) (by kernel_rfl) (by kernel_rfl) (by kernel_rfl) rfl rfl hg alln (fun m' H' hm' hX' => y_iop rfl rfl rfl) ?_
      refine g_done (by kernel_rfl) ?_
      clear hg hz1_g hz2_g
      refine hK9 _ _ _ ?_
      clear hK9 K9
      refine c_cond rfl (fun h2 => ?_) (fun h2 => ?_)
      ·
        refine c_seq (fun K10 hK10 => ?_)
        refine c_region ?_
        refine r_y rfl rfl (y_assign rfl) ?_
        refine r_nil ?_
        refine hK10 _ _ _ ?_
        clear hK10 K10
        refine c_ret ?_
        refine e_ret 0 hm (res_tmps rfl) ?_
        refine ⟨congrArg Value.bool ?_, rfl⟩
        refine (decide_eq_false ?_).symm
        rintro rfl
        rw [hx1] at hx2; cases hx2
        simp at h2
      ·
        refine c_skip ?_
        refine hK8 _ _ _ ?_
        clear hK8 K8
        refine c_region ?_
        refine r_y rfl rfl (y_move rfl) ?_
        first | refine r_y rfl rfl (y_inc rfl (by omega)) ?_ | refine r_y rfl rfl (y_iop rfl rfl rfl) ?_
        refine r_y rfl rfl (y_assign rfl) ?_
        refine r_nil ?_
        exact ⟨k0 - 1, (i + 1), by omega, ⟨rfl, rfl, rfl, trivial⟩, rfl, ⟨by omega, by rw [List.take_add_one, List.take_add_one, hinv, hx1, hx2]; simp at h2; rw [UInt8.toNat_inj.1 (by omega : x1.toNat = x2.toNat)]⟩, hm, hz1, hz2⟩
    ·
      refine c_exit ?_
      refine hK4 _ _ _ ?_
      clear hK6 K6 hK4 K4
      refine c_seq (fun K11 hK11 => ?_)
      refine c_region ?_
      refine r_y rfl rfl (y_assign rfl) ?_
      refine r_nil ?_
      refine hK11 _ _ _ ?_
      clear hK11 K11
      refine c_ret ?_
      refine e_ret 0 hm (res_tmps rfl) ?_
      refine ⟨congrArg Value.bool ?_, rfl⟩
      have hie : i = s1.n := by simp at h1; omega
      refine (decide_eq_true ?_).symm
      rw [List.take_of_length_le (by omega), List.take_of_length_le (by omega)] at hinv
      exact hinv
end Go.Aw
namespace Go.Aw
open Go Go.Proofs
set_option maxRecDepth 100000 in
theorem rMsg_w (x : MsgD) (sm sr : Sl) (lr : List (RuleD × Sl)) (m : Snap) (H : Hp) (hz : MsgOk m x sm sr lr) : Fn Try.prog 24 [.agg (encMsg x sm sr).toArray] m H (fun v _ H' => v = .bool (msgSound x && decide (x.rules.length ≤ 65535)) ∧ H' = H) := by
  have hl := hz.len
  have hm : m.le m := Snap.le.refl m
  refine fn_end Try.func24 rfl rfl rfl ?_
  refine c_seq (fun K0 hK0 => ?_)
  refine c_region ?_
  refine r_s rfl ?_
  refine s_box_a rfl rfl (fun b0 => ?_)
  refine r_y rfl rfl (y_assign rfl) ?_
  refine r_nil ?_
  refine hK0 _ _ _ ?_
  clear hK0 K0
  refine c_seq (fun K1 hK1 => ?_)
  refine c_region ?_
  refine r_y rfl rfl (y_fieldAddr rfl At.lit fo35_3 rfl) ?_
  refine r_y rfl rfl (y_load_a (cs := encMod x.mod sm) rfl ts32 (RdA.blk (i := 0) rfl rfl)) ?_
  refine r_y rfl rfl (y_bld rfl tz32 fk32 bp32_ rfl rfl) ?_
  refine r_s rfl ?_
  refine s_call0 rfl Try.call40 rfl (rSameMods_w x.mod zMod sm zSl _ _ hz.mod (fzA_nil _)) ?_
  rintro _ m2 _ hm2 ⟨rfl, rfl⟩
  replace hm := hm.trans hm2
  replace hz := hz.mono hm2
  clear hm2
  refine r_y rfl rfl (y_assign rfl) ?_
  refine r_nil ?_
  refine hK1 _ _ _ ?_
  clear hK1 K1
  refine c_seq (fun K2 hK2 => ?_)
  refine c_region ?_
  refine r_y rfl rfl (y_fieldAddr rfl At.lit fo35_4 rfl) ?_
  refine r_y rfl rfl (y_load_s rfl ts3 (RdS.blk (i := 0) rfl rfl)) ?_
  refine r_y rfl rfl (y_iop rfl rfl rfl) ?_
  refine r_y rfl rfl (y_move rfl) ?_
  refine r_split (j := 3) rfl (fun h0 => ?_) (fun h0 => ?_)
  ·
    refine r_yg rfl h0 rfl (y_fieldAddr rfl At.lit fo35_5 rfl) ?_
    refine r_yg rfl h0 rfl (y_load_a (cs := encHead x.head) rfl ts27 (RdA.blk (i := 0) rfl rfl)) ?_
    refine r_yg rfl h0 rfl (y_bld rfl tz27 fk27 bp27_ rfl rfl) ?_
    refine r_yg rfl h0 rfl (y_eqagg (dd := 6) (ys := encHead zHead) rfl rfl en27 ia27 rfl Try.eqGuardType27 rfl (alike_head _ _)) ?_
    refine r_y rfl rfl (y_pickt rfl h0 rfl) ?_
    refine r_y rfl rfl (y_assign rfl) ?_
    refine r_nil ?_
    refine hK2 _ _ _ ?_
    clear hK2 K2
    refine c_seq (fun K3 hK3 => ?_)
    refine c_seq (fun K4 hK4 => ?_)
    refine c_region ?_
    refine r_y rfl rfl (y_fieldAddr rfl At.lit fo35_1 rfl) ?_
    refine r_y rfl rfl (y_load_s rfl ts3 (RdS.blk (i := 0) rfl rfl)) ?_
    refine r_y rfl rfl (y_iop rfl rfl rfl) ?_
    refine r_y rfl rfl (y_move rfl) ?_
    refine r_split (j := 3) rfl (fun h1 => ?_) (fun h1 => ?_)
    ·
      refine r_no' rfl rfl h1 ?_
      refine r_no' rfl rfl h1 ?_
      refine r_no' rfl rfl h1 ?_
      refine r_y rfl rfl (y_pickt rfl h1 rfl) ?_
      refine r_nil ?_
      refine hK4 _ _ _ ?_
      clear hK4 K4
      refine c_ift rfl rfl ?_
      refine c_seq (fun K5 hK5 => ?_)
      refine c_region ?_
      refine r_y rfl rfl (y_assign rfl) ?_
      refine r_nil ?_
      refine hK5 _ _ _ ?_
      clear hK5 K5
      refine c_ret ?_
      refine e_ret 1 hm (res_tmps rfl) ?_
      refine ⟨congrArg Value.bool ?_, rfl⟩
      try clear hx
      clear hz hm
      unfold msgSound msgBody
      simp_all [msgEmpty, ceq_head]
      all_goals (first | omega | (rw [Bool.eq_iff_iff]; simp; omega))
    ·
      refine r_yg rfl h1 rfl (y_fieldAddr rfl At.lit fo35_1 rfl) ?_
      refine r_yg rfl h1 rfl (y_load_s rfl ts3 (RdS.blk (i := 0) rfl rfl)) ?_
      refine r_yg rfl h1 rfl (y_iop rfl rfl rfl) ?_
      refine r_y rfl rfl (y_pickf rfl h1 rfl) ?_
      refine r_nil ?_
      refine hK4 _ _ _ ?_
      clear hK4 K4
      refine c_cond rfl (fun h2 => ?_) (fun h2 => ?_)
      ·
        refine c_seq (fun K6 hK6 => ?_)
        refine c_region ?_
        refine r_y rfl rfl (y_assign rfl) ?_
        refine r_nil ?_
        refine hK6 _ _ _ ?_
        clear hK6 K6
        refine c_ret ?_
        refine e_ret 1 hm (res_tmps rfl) ?_
        refine ⟨congrArg Value.bool ?_, rfl⟩
        try clear hx
        clear hz hm
        unfold msgSound msgBody
        simp_all [msgEmpty, ceq_head]
        all_goals (first | omega | (rw [Bool.eq_iff_iff]; simp; omega))
      ·
        refine c_skip ?_
        refine hK3 _ _ _ ?_
        clear hK3 K3
        refine c_seq (fun K7 hK7 => ?_)
        refine c_seq (fun K8 hK8 => ?_)
        refine c_region ?_
        refine r_y rfl rfl (y_fieldAddr rfl At.lit fo35_0 rfl) ?_
        refine r_y rfl rfl (y_load_s rfl ts3 (RdS.blk (i := 0) rfl rfl)) ?_
        refine r_nil ?_
        refine hK8 _ _ _ ?_
        clear hK8 K8
        refine c_block ?_
        refine c_seq (fun K9 hK9 => ?_)
        refine c_region ?_
        refine r_y rfl rfl (y_iop rfl rfl rfl) ?_
        refine r_y rfl rfl (y_assign rfl) ?_
        refine r_nil ?_
        refine hK9 _ _ _ ?_
        clear hK9 K9
        refine c_cond rfl (fun h3 => ?_) (fun h3 => ?_)
        ·
          refine c_seq (fun K10 hK10 => ?_)
          refine c_region ?_
          refine r_y rfl rfl (y_fieldAddr rfl At.lit fo35_3 rfl) ?_
          refine r_y rfl rfl (y_load_a (cs := encMod x.mod sm) rfl ts32 (RdA.blk (i := 0) rfl rfl)) ?_
          refine r_s rfl ?_
          refine s_call0 rfl Try.call37 rfl (rMod_w x.mod sm _ _ hz.mod) ?_
          rintro _ m2 _ hm2 ⟨rfl, rfl⟩
          replace hm := hm.trans hm2
          replace hz := hz.mono hm2
          clear hm2
          refine r_y rfl rfl (y_move rfl) ?_
          refine r_split (j := 3) rfl (fun h4 => ?_) (fun h4 => ?_)
          ·
            refine r_yg rfl h4 rfl (y_fieldAddr rfl At.lit fo35_2 rfl) ?_
            refine r_yg rfl h4 rfl (y_load_s rfl ts24 (RdS.blk (i := 0) rfl rfl)) ?_
            refine r_yg rfl h4 rfl (y_iop rfl rfl rfl) ?_
            refine r_y rfl rfl (y_pickt rfl h4 rfl) ?_
            refine r_y rfl rfl (y_move rfl) ?_
            refine r_split (j := 8) rfl (fun h5 => ?_) (fun h5 => ?_)
            ·
              refine r_yg rfl h5 rfl (y_move rfl) ?_
              refine r_y rfl rfl (y_pickt rfl h5 rfl) ?_
              refine r_y rfl rfl (y_move rfl) ?_
              refine r_split (j := 11) rfl (fun h6 => ?_) (fun h6 => ?_)
              ·
                refine r_yg rfl h6 rfl (y_fieldAddr rfl At.lit fo35_6 rfl) ?_
                refine r_yg rfl h6 rfl (y_load_s rfl ts33 (RdS.blk (i := 0) rfl rfl)) ?_
                refine r_yg rfl h6 rfl (y_len tl33 rfl) ?_
                refine r_yg rfl h6 rfl (y_iop rfl rfl rfl) ?_
                refine r_y rfl rfl (y_pickt rfl h6 rfl) ?_
                refine r_y rfl rfl (y_assign rfl) ?_
                refine r_nil ?_
                refine hK10 _ _ _ ?_
                clear hK10 K10
                refine c_ret ?_
                refine e_ret 1 hm (res_tmps rfl) ?_
                refine ⟨congrArg Value.bool ?_, rfl⟩
                try clear hx
                clear hz hm
                unfold msgSound msgBody
                simp_all [msgEmpty, ceq_head]
                all_goals (first | omega | (rw [Bool.eq_iff_iff]; simp; omega))
              ·
                refine r_no' rfl rfl h6 ?_
                refine r_no' rfl rfl h6 ?_
                refine r_no' rfl rfl h6 ?_
                refine r_no' rfl rfl h6 ?_
                refine r_y rfl rfl (y_pickf rfl h6 rfl) ?_
                refine r_y rfl rfl (y_assign rfl) ?_
                refine r_nil ?_
                refine hK10 _ _ _ ?_
                clear hK10 K10
                refine c_ret ?_
                refine e_ret 1 hm (res_tmps rfl) ?_
                refine ⟨congrArg Value.bool ?_, rfl⟩
                try clear hx
                clear hz hm
                unfold msgSound msgBody
                simp_all [msgEmpty, ceq_head]
                all_goals (first | omega | (rw [Bool.eq_iff_iff]; simp; omega))
            ·
              refine r_no' rfl rfl h5 ?_
              refine r_y rfl rfl (y_pickf rfl h5 rfl) ?_
              refine r_y rfl rfl (y_move rfl) ?_
              refine r_no' rfl rfl rfl ?_
              refine r_no' rfl rfl rfl ?_
              refine r_no' rfl rfl rfl ?_
              refine r_no' rfl rfl rfl ?_
              refine r_y rfl rfl (y_pickf rfl rfl rfl) ?_
              refine r_y rfl rfl (y_assign rfl) ?_
              refine r_nil ?_
              refine hK10 _ _ _ ?_
              clear hK10 K10
              refine c_ret ?_
              refine e_ret 1 hm (res_tmps rfl) ?_
              refine ⟨congrArg Value.bool ?_, rfl⟩
              try clear hx
              clear hz hm
              unfold msgSound msgBody
              simp_all [msgEmpty, ceq_head]
              all_goals (first | omega | (rw [Bool.eq_iff_iff]; simp; omega))
          ·
            refine r_no' rfl rfl h4 ?_
            refine r_no' rfl rfl h4 ?_
            refine r_no' rfl rfl h4 ?_
            refine r_y rfl rfl (y_pickf rfl h4 rfl) ?_
            refine r_y rfl rfl (y_move rfl) ?_
            refine r_no' rfl rfl rfl ?_
            refine r_y rfl rfl (y_pickf rfl rfl rfl) ?_
            refine r_y rfl rfl (y_move rfl) ?_
            refine r_no' rfl rfl rfl ?_
            refine r_no' rfl rfl rfl ?_
            refine r_no' rfl rfl rfl ?_
            refine r_no' rfl rfl rfl ?_
            refine r_y rfl rfl (y_pickf rfl rfl rfl) ?_
            refine r_y rfl rfl (y_assign rfl) ?_
            refine r_nil ?_
            refine hK10 _ _ _ ?_
            clear hK10 K10
            refine c_ret ?_
            refine e_ret 1 hm (res_tmps rfl) ?_
            refine ⟨congrArg Value.bool ?_, rfl⟩
            try clear hx
            clear hz hm
            unfold msgSound msgBody
            simp_all [msgEmpty, ceq_head]
            all_goals (first | omega | (rw [Bool.eq_iff_iff]; simp; omega))
        ·
          refine c_seq (fun K11 hK11 => ?_)
          refine c_region ?_
          refine r_y rfl rfl (y_iop rfl rfl rfl) ?_
          refine r_y rfl rfl (y_assign rfl) ?_
          refine r_nil ?_
          refine hK11 _ _ _ ?_
          clear hK11 K11
          refine c_cond rfl (fun h7 => ?_) (fun h7 => ?_)
          ·
            refine c_seq (fun K12 hK12 => ?_)
            refine c_region ?_
            refine r_y rfl rfl (y_move rfl) ?_
            refine r_y rfl rfl (y_move rfl) ?_
            refine r_split (j := 1) rfl (fun h8 => ?_) (fun h8 => ?_)
            ·
              refine r_yg rfl h8 rfl (y_fieldAddr rfl At.lit fo35_2 rfl) ?_
              refine r_yg rfl h8 rfl (y_load_s rfl ts24 (RdS.blk (i := 0) rfl rfl)) ?_
              refine r_yg rfl h8 rfl (y_iop rfl rfl rfl) ?_
              refine r_y rfl rfl (y_pickt rfl h8 rfl) ?_
              refine r_y rfl rfl (y_move rfl) ?_
              refine r_split (j := 6) rfl (fun h9 => ?_) (fun h9 => ?_)
              ·
                refine r_yg rfl h9 rfl (y_fieldAddr rfl At.lit fo35_2 rfl) ?_
                refine r_yg rfl h9 rfl (y_load_s rfl ts24 (RdS.blk (i := 0) rfl rfl)) ?_
                refine r_yg rfl h9 rfl (y_iop rfl rfl rfl) ?_
                refine r_y rfl rfl (y_pickt rfl h9 rfl) ?_
                refine r_y rfl rfl (y_move rfl) ?_
                refine r_split (j := 11) rfl (fun h10 => ?_) (fun h10 => ?_)
                ·
                  refine r_yg rfl h10 rfl (y_move rfl) ?_
                  refine r_y rfl rfl (y_pickt rfl h10 rfl) ?_
                  refine r_y rfl rfl (y_move rfl) ?_
                  refine r_split (j := 14) rfl (fun h11 => ?_) (fun h11 => ?_)
                  ·
                    refine r_yg rfl h11 rfl (y_fieldAddr rfl At.lit fo35_6 rfl) ?_
                    refine r_yg rfl h11 rfl (y_load_s rfl ts33 (RdS.blk (i := 0) rfl rfl)) ?_
                    refine r_yg rfl h11 rfl (y_len tl33 rfl) ?_
                    refine r_yg rfl h11 rfl (y_iop rfl rfl rfl) ?_
                    refine r_y rfl rfl (y_pickt rfl h11 rfl) ?_
                    refine r_y rfl rfl (y_assign rfl) ?_
                    refine r_nil ?_
                    refine hK12 _ _ _ ?_
                    clear hK12 K12
                    refine c_ret ?_
                    refine e_ret 1 hm (res_tmps rfl) ?_
                    refine ⟨congrArg Value.bool ?_, rfl⟩
                    try clear hx
                    clear hz hm
                    unfold msgSound msgBody
                    simp_all [msgEmpty, ceq_head]
                    all_goals (first | omega | (rw [Bool.eq_iff_iff]; simp; omega))
                  ·
                    refine r_no' rfl rfl h11 ?_
                    refine r_no' rfl rfl h11 ?_
                    refine r_no' rfl rfl h11 ?_
                    refine r_no' rfl rfl h11 ?_
                    refine r_y rfl rfl (y_pickf rfl h11 rfl) ?_
                    refine r_y rfl rfl (y_assign rfl) ?_
                    refine r_nil ?_
                    refine hK12 _ _ _ ?_
                    clear hK12 K12
                    refine c_ret ?_
                    refine e_ret 1 hm (res_tmps rfl) ?_
                    refine ⟨congrArg Value.bool ?_, rfl⟩
                    try clear hx
                    clear hz hm
                    unfold msgSound msgBody
                    simp_all [msgEmpty, ceq_head]
                    all_goals (first | omega | (rw [Bool.eq_iff_iff]; simp; omega))
                ·
                  refine r_no' rfl rfl h10 ?_
                  refine r_y rfl rfl (y_pickf rfl h10 rfl) ?_
                  refine r_y rfl rfl (y_move rfl) ?_
                  refine r_no' rfl rfl rfl ?_
                  refine r_no' rfl rfl rfl ?_
                  refine r_no' rfl rfl rfl ?_
                  refine r_no' rfl rfl rfl ?_
                  refine r_y rfl rfl (y_pickf rfl rfl rfl) ?_
                  refine r_y rfl rfl (y_assign rfl) ?_
                  refine r_nil ?_
                  refine hK12 _ _ _ ?_
                  clear hK12 K12
                  refine c_ret ?_
                  refine e_ret 1 hm (res_tmps rfl) ?_
                  refine ⟨congrArg Value.bool ?_, rfl⟩
                  try clear hx
                  clear hz hm
                  unfold msgSound msgBody
                  simp_all [msgEmpty, ceq_head]
                  all_goals (first | omega | (rw [Bool.eq_iff_iff]; simp; omega))
              ·
                refine r_no' rfl rfl h9 ?_
                refine r_no' rfl rfl h9 ?_
                refine r_no' rfl rfl h9 ?_
                refine r_y rfl rfl (y_pickf rfl h9 rfl) ?_
                refine r_y rfl rfl (y_move rfl) ?_
                refine r_no' rfl rfl rfl ?_
                refine r_y rfl rfl (y_pickf rfl rfl rfl) ?_
                refine r_y rfl rfl (y_move rfl) ?_
                refine r_no' rfl rfl rfl ?_
                refine r_no' rfl rfl rfl ?_
                refine r_no' rfl rfl rfl ?_
                refine r_no' rfl rfl rfl ?_
                refine r_y rfl rfl (y_pickf rfl rfl rfl) ?_
                refine r_y rfl rfl (y_assign rfl) ?_
                refine r_nil ?_
                refine hK12 _ _ _ ?_
                clear hK12 K12
                refine c_ret ?_
                refine e_ret 1 hm (res_tmps rfl) ?_
                refine ⟨congrArg Value.bool ?_, rfl⟩
                try clear hx
                clear hz hm
                unfold msgSound msgBody
                simp_all [msgEmpty, ceq_head]
                all_goals (first | omega | (rw [Bool.eq_iff_iff]; simp; omega))
            ·
              refine r_no' rfl rfl h8 ?_
              refine r_no' rfl rfl h8 ?_
              refine r_no' rfl rfl h8 ?_
              refine r_y rfl rfl (y_pickf rfl h8 rfl) ?_
              refine r_y rfl rfl (y_move rfl) ?_
              refine r_no' rfl rfl rfl ?_
              refine r_no' rfl rfl rfl ?_
              refine r_no' rfl rfl rfl ?_
              refine r_y rfl rfl (y_pickf rfl rfl rfl) ?_
              refine r_y rfl rfl (y_move rfl) ?_
              refine r_no' rfl rfl rfl ?_
              refine r_y rfl rfl (y_pickf rfl rfl rfl) ?_
              refine r_y rfl rfl (y_move rfl) ?_
              refine r_no' rfl rfl rfl ?_
              refine r_no' rfl rfl rfl ?_
              refine r_no' rfl rfl rfl ?_
              refine r_no' rfl rfl rfl ?_
              refine r_y rfl rfl (y_pickf rfl rfl rfl) ?_
              refine r_y rfl rfl (y_assign rfl) ?_
              refine r_nil ?_
              refine hK12 _ _ _ ?_
              clear hK12 K12
              refine c_ret ?_
              refine e_ret 1 hm (res_tmps rfl) ?_
              refine ⟨congrArg Value.bool ?_, rfl⟩
              try clear hx
              clear hz hm
              unfold msgSound msgBody
              simp_all [msgEmpty, ceq_head]
              all_goals (first | omega | (rw [Bool.eq_iff_iff]; simp; omega))
          ·
            refine c_seq (fun K13 hK13 => ?_)
            refine c_region ?_
            refine r_y rfl rfl (y_iop rfl rfl rfl) ?_
            refine r_y rfl rfl (y_assign rfl) ?_
            refine r_nil ?_
            refine hK13 _ _ _ ?_
            clear hK13 K13
            refine c_cond rfl (fun h12 => ?_) (fun h12 => ?_)
            ·
              refine c_seq (fun K14 hK14 => ?_)
              refine c_region ?_
              refine r_y rfl rfl (y_move rfl) ?_
              refine r_y rfl rfl (y_move rfl) ?_
              refine r_split (j := 1) rfl (fun h13 => ?_) (fun h13 => ?_)
              ·
                refine r_yg rfl h13 rfl (y_fieldAddr rfl At.lit fo35_2 rfl) ?_
                refine r_yg rfl h13 rfl (y_load_s rfl ts24 (RdS.blk (i := 0) rfl rfl)) ?_
                refine r_yg rfl h13 rfl (y_iop rfl rfl rfl) ?_
                refine r_y rfl rfl (y_pickt rfl h13 rfl) ?_
                refine r_y rfl rfl (y_move rfl) ?_
                refine r_split (j := 6) rfl (fun h14 => ?_) (fun h14 => ?_)
                ·
                  refine r_yg rfl h14 rfl (y_fieldAddr rfl At.lit fo35_4 rfl) ?_
                  refine r_yg rfl h14 rfl (y_load_s rfl ts3 (RdS.blk (i := 0) rfl rfl)) ?_
                  refine r_yg rfl h14 rfl (y_iop rfl rfl rfl) ?_
                  refine r_y rfl rfl (y_pickt rfl h14 rfl) ?_
                  refine r_y rfl rfl (y_move rfl) ?_
                  refine r_split (j := 11) rfl (fun h15 => ?_) (fun h15 => ?_)
                  ·
                    refine r_yg rfl h15 rfl (y_fieldAddr rfl At.lit fo35_4 rfl) ?_
                    refine r_yg rfl h15 rfl (y_load_s rfl ts3 (RdS.blk (i := 0) rfl rfl)) ?_
                    refine r_yg rfl h15 rfl (y_iop rfl rfl rfl) ?_
                    refine r_y rfl rfl (y_pickt rfl h15 rfl) ?_
                    refine r_y rfl rfl (y_move rfl) ?_
                    refine r_split (j := 16) rfl (fun h16 => ?_) (fun h16 => ?_)
                    ·
                      refine r_yg rfl h16 rfl (y_fieldAddr rfl At.lit fo35_5 rfl) ?_
                      refine r_yg rfl h16 rfl (y_load_a (cs := encHead x.head) rfl ts27 (RdA.blk (i := 0) rfl rfl)) ?_
                      refine r_sg rfl h16 ?_
                      refine s_call0 rfl Try.call64 rfl (rHead_w x.head _ _) ?_
                      rintro _ m2 _ hm2 ⟨rfl, rfl⟩
                      replace hm := hm.trans hm2
                      replace hz := hz.mono hm2
                      clear hm2
                      refine r_y rfl rfl (y_pickt rfl h16 rfl) ?_
                      refine r_y rfl rfl (y_move rfl) ?_
                      refine r_split (j := 21) rfl (fun h17 => ?_) (fun h17 => ?_)
                      ·
                        refine r_yg rfl h17 rfl (y_fieldAddr rfl At.lit fo35_6 rfl) ?_
                        refine r_yg rfl h17 rfl (y_load_s rfl ts33 (RdS.blk (i := 0) rfl rfl)) ?_
                        refine r_yg rfl h17 rfl (y_len tl33 rfl) ?_
                        refine r_yg rfl h17 rfl (y_iop rfl rfl rfl) ?_
                        refine r_y rfl rfl (y_pickt rfl h17 rfl) ?_
                        refine r_y rfl rfl (y_assign rfl) ?_
                        refine r_nil ?_
                        refine hK14 _ _ _ ?_
                        clear hK14 K14
                        refine c_ret ?_
                        refine e_ret 1 hm (res_tmps rfl) ?_
                        refine ⟨congrArg Value.bool ?_, rfl⟩
                        try clear hx
                        clear hz hm
                        unfold msgSound msgBody
                        simp_all [msgEmpty, ceq_head]
                        all_goals (first | omega | (rw [Bool.eq_iff_iff]; simp; omega))
                      ·
                        refine r_no' rfl rfl h17 ?_
                        refine r_no' rfl rfl h17 ?_
                        refine r_no' rfl rfl h17 ?_
                        refine r_no' rfl rfl h17 ?_
                        refine r_y rfl rfl (y_pickf rfl h17 rfl) ?_
                        refine r_y rfl rfl (y_assign rfl) ?_
                        refine r_nil ?_
                        refine hK14 _ _ _ ?_
                        clear hK14 K14
                        refine c_ret ?_
                        refine e_ret 1 hm (res_tmps rfl) ?_
                        refine ⟨congrArg Value.bool ?_, rfl⟩
                        try clear hx
                        clear hz hm
                        unfold msgSound msgBody
                        simp_all [msgEmpty, ceq_head]
                        all_goals (first | omega | (rw [Bool.eq_iff_iff]; simp; omega))
                    ·
                      refine r_no' rfl rfl h16 ?_
                      refine r_no' rfl rfl h16 ?_
                      refine r_no' rfl rfl h16 ?_
                      refine r_y rfl rfl (y_pickf rfl h16 rfl) ?_
                      refine r_y rfl rfl (y_move rfl) ?_
                      refine r_no' rfl rfl rfl ?_
                      refine r_no' rfl rfl rfl ?_
                      refine r_no' rfl rfl rfl ?_
                      refine r_no' rfl rfl rfl ?_
                      refine r_y rfl rfl (y_pickf rfl rfl rfl) ?_
                      refine r_y rfl rfl (y_assign rfl) ?_
                      refine r_nil ?_
                      refine hK14 _ _ _ ?_
                      clear hK14 K14
                      refine c_ret ?_
                      refine e_ret 1 hm (res_tmps rfl) ?_
                      refine ⟨congrArg Value.bool ?_, rfl⟩
                      try clear hx
                      clear hz hm
                      unfold msgSound msgBody
                      simp_all [msgEmpty, ceq_head]
                      all_goals (first | omega | (rw [Bool.eq_iff_iff]; simp; omega))
                  ·
                    refine r_no' rfl rfl h15 ?_
                    refine r_no' rfl rfl h15 ?_
                    refine r_no' rfl rfl h15 ?_
                    refine r_y rfl rfl (y_pickf rfl h15 rfl) ?_
                    refine r_y rfl rfl (y_move rfl) ?_
                    refine r_no' rfl rfl rfl ?_
                    refine r_no' rfl rfl rfl ?_
                    refine r_no' rfl rfl rfl ?_
                    refine r_y rfl rfl (y_pickf rfl rfl rfl) ?_
                    refine r_y rfl rfl (y_move rfl) ?_
                    refine r_no' rfl rfl rfl ?_
                    refine r_no' rfl rfl rfl ?_
                    refine r_no' rfl rfl rfl ?_
                    refine r_no' rfl rfl rfl ?_
                    refine r_y rfl rfl (y_pickf rfl rfl rfl) ?_
                    refine r_y rfl rfl (y_assign rfl) ?_
                    refine r_nil ?_
                    refine hK14 _ _ _ ?_
                    clear hK14 K14
                    refine c_ret ?_
                    refine e_ret 1 hm (res_tmps rfl) ?_
                    refine ⟨congrArg Value.bool ?_, rfl⟩
                    try clear hx
                    clear hz hm
                    unfold msgSound msgBody
                    simp_all [msgEmpty, ceq_head]
                    all_goals (first | omega | (rw [Bool.eq_iff_iff]; simp; omega))
                ·
                  refine r_no' rfl rfl h14 ?_
                  refine r_no' rfl rfl h14 ?_
                  refine r_no' rfl rfl h14 ?_
                  refine r_y rfl rfl (y_pickf rfl h14 rfl) ?_
                  refine r_y rfl rfl (y_move rfl) ?_
                  refine r_no' rfl rfl rfl ?_
                  refine r_no' rfl rfl rfl ?_
                  refine r_no' rfl rfl rfl ?_
                  refine r_y rfl rfl (y_pickf rfl rfl rfl) ?_
                  refine r_y rfl rfl (y_move rfl) ?_
                  refine r_no' rfl rfl rfl ?_
                  refine r_no' rfl rfl rfl ?_
                  refine r_no' rfl rfl rfl ?_
                  refine r_y rfl rfl (y_pickf rfl rfl rfl) ?_
                  refine r_y rfl rfl (y_move rfl) ?_
                  refine r_no' rfl rfl rfl ?_
                  refine r_no' rfl rfl rfl ?_
                  refine r_no' rfl rfl rfl ?_
                  refine r_no' rfl rfl rfl ?_
                  refine r_y rfl rfl (y_pickf rfl rfl rfl) ?_
                  refine r_y rfl rfl (y_assign rfl) ?_
                  refine r_nil ?_
                  refine hK14 _ _ _ ?_
                  clear hK14 K14
                  refine c_ret ?_
                  refine e_ret 1 hm (res_tmps rfl) ?_
                  refine ⟨congrArg Value.bool ?_, rfl⟩
                  try clear hx
                  clear hz hm
                  unfold msgSound msgBody
                  simp_all [msgEmpty, ceq_head]
                  all_goals (first | omega | (rw [Bool.eq_iff_iff]; simp; omega))
              ·
                refine r_no' rfl rfl h13 ?_
                refine r_no' rfl rfl h13 ?_
                refine r_no' rfl rfl h13 ?_
                refine r_y rfl rfl (y_pickf rfl h13 rfl) ?_
                refine r_y rfl rfl (y_move rfl) ?_
                refine r_no' rfl rfl rfl ?_
                refine r_no' rfl rfl rfl ?_
                refine r_no' rfl rfl rfl ?_
                refine r_y rfl rfl (y_pickf rfl rfl rfl) ?_
                refine r_y rfl rfl (y_move rfl) ?_
                refine r_no' rfl rfl rfl ?_
                refine r_no' rfl rfl rfl ?_
                refine r_no' rfl rfl rfl ?_
                refine r_y rfl rfl (y_pickf rfl rfl rfl) ?_
                refine r_y rfl rfl (y_move rfl) ?_
                refine r_no' rfl rfl rfl ?_
                refine r_no' rfl rfl rfl ?_
                refine r_no' rfl rfl rfl ?_
                refine r_y rfl rfl (y_pickf rfl rfl rfl) ?_
                refine r_y rfl rfl (y_move rfl) ?_
                refine r_no' rfl rfl rfl ?_
                refine r_no' rfl rfl rfl ?_
                refine r_no' rfl rfl rfl ?_
                refine r_no' rfl rfl rfl ?_
                refine r_y rfl rfl (y_pickf rfl rfl rfl) ?_
                refine r_y rfl rfl (y_assign rfl) ?_
                refine r_nil ?_
                refine hK14 _ _ _ ?_
                clear hK14 K14
                refine c_ret ?_
                refine e_ret 1 hm (res_tmps rfl) ?_
                refine ⟨congrArg Value.bool ?_, rfl⟩
                try clear hx
                clear hz hm
                unfold msgSound msgBody
                simp_all [msgEmpty, ceq_head]
                all_goals (first | omega | (rw [Bool.eq_iff_iff]; simp; omega))
            ·
              refine c_seq (fun K15 hK15 => ?_)
              refine c_region ?_
              refine r_y rfl rfl (y_iop rfl rfl rfl) ?_
              refine r_y rfl rfl (y_assign rfl) ?_
              refine r_nil ?_
              refine hK15 _ _ _ ?_
              clear hK15 K15
              refine c_cond rfl (fun h18 => ?_) (fun h18 => ?_)
              ·
                refine c_seq (fun K16 hK16 => ?_)
                refine c_region ?_
                refine r_y rfl rfl (y_move rfl) ?_
                refine r_y rfl rfl (y_move rfl) ?_
                refine r_split (j := 1) rfl (fun h19 => ?_) (fun h19 => ?_)
                ·
                  refine r_yg rfl h19 rfl (y_fieldAddr rfl At.lit fo35_2 rfl) ?_
                  refine r_yg rfl h19 rfl (y_load_s rfl ts24 (RdS.blk (i := 0) rfl rfl)) ?_
                  refine r_yg rfl h19 rfl (y_iop rfl rfl rfl) ?_
                  refine r_y rfl rfl (y_pickt rfl h19 rfl) ?_
                  refine r_y rfl rfl (y_move rfl) ?_
                  refine r_split (j := 6) rfl (fun h20 => ?_) (fun h20 => ?_)
                  ·
                    refine r_yg rfl h20 rfl (y_move rfl) ?_
                    refine r_y rfl rfl (y_pickt rfl h20 rfl) ?_
                    refine r_y rfl rfl (y_move rfl) ?_
                    refine r_split (j := 9) rfl (fun h21 => ?_) (fun h21 => ?_)
                    ·
                      refine r_yg rfl h21 rfl (y_fieldAddr rfl At.lit fo35_6 rfl) ?_
                      refine r_yg rfl h21 rfl (y_load_s rfl ts33 (RdS.blk (i := 0) rfl rfl)) ?_
                      refine r_yg rfl h21 rfl (y_len tl33 rfl) ?_
                      refine r_yg rfl h21 rfl (y_iop rfl rfl rfl) ?_
                      refine r_y rfl rfl (y_pickt rfl h21 rfl) ?_
                      refine r_y rfl rfl (y_move rfl) ?_
                      refine r_split (j := 15) rfl (fun h22 => ?_) (fun h22 => ?_)
                      ·
                        have hone : lr.length = 1 := by have e := hz.rules.len; simp at *; omega
                        obtain ⟨x0, hx⟩ := get_of_lt (l := lr) (k := 0) (by omega)
                        have hlt : 0 < sr.n := by have e := hz.rules.len; omega
                        have hrt : ruleTable x.rules = ruleSound x0.1 := by rw [hz.eq]; exact ruleTable_one hone hx
                        refine r_yg rfl h22 rfl (y_fieldAddr rfl At.lit fo35_6 rfl) ?_
                        refine r_yg rfl h22 rfl (y_load_s rfl ts33 (RdS.blk (i := 0) rfl rfl)) ?_
                        refine r_yg rfl h22 rfl (y_indexAddr_slice (k := 0) rfl rfl tl33 hlt (At.fz hz.rules.fz hlt)) ?_
                        refine r_yg rfl h22 rfl (y_load_a rfl ts50 (RdA.fz0 hz.rules.fz (map_get hx))) ?_
                        refine r_sg rfl h22 ?_
                        refine s_call0 rfl Try.call65 rfl (rRule_w x0.1 x0.2 _ _ (hz.rules.acts x0 (List.mem_of_getElem? hx)).1) ?_
                        rintro _ m2 _ hm2 ⟨rfl, rfl⟩
                        replace hm := hm.trans hm2
                        replace hz := hz.mono hm2
                        clear hm2
                        refine r_y rfl rfl (y_pickt rfl h22 rfl) ?_
                        refine r_y rfl rfl (y_assign rfl) ?_
                        refine r_nil ?_
                        refine hK16 _ _ _ ?_
                        clear hK16 K16
                        refine c_ret ?_
                        refine e_ret 1 hm (res_tmps rfl) ?_
                        refine ⟨congrArg Value.bool ?_, rfl⟩
                        try clear hx
                        clear hz hm
                        unfold msgSound msgBody
                        simp_all [msgEmpty, ceq_head]
                        all_goals (first | omega | (rw [Bool.eq_iff_iff]; simp; omega))
                      ·
                        refine r_no' rfl rfl h22 ?_
                        refine r_no' rfl rfl h22 ?_
                        refine r_no' rfl rfl h22 ?_
                        refine r_no' rfl rfl h22 ?_
                        refine r_no' rfl rfl h22 ?_
                        refine r_y rfl rfl (y_pickf rfl h22 rfl) ?_
                        refine r_y rfl rfl (y_assign rfl) ?_
                        refine r_nil ?_
                        refine hK16 _ _ _ ?_
                        clear hK16 K16
                        refine c_ret ?_
                        refine e_ret 1 hm (res_tmps rfl) ?_
                        refine ⟨congrArg Value.bool ?_, rfl⟩
                        try clear hx
                        clear hz hm
                        unfold msgSound msgBody
                        simp_all [msgEmpty, ceq_head]
                        all_goals (first | omega | (rw [Bool.eq_iff_iff]; simp; omega))
                    ·
                      refine r_no' rfl rfl h21 ?_
                      refine r_no' rfl rfl h21 ?_
                      refine r_no' rfl rfl h21 ?_
                      refine r_no' rfl rfl h21 ?_
                      refine r_y rfl rfl (y_pickf rfl h21 rfl) ?_
                      refine r_y rfl rfl (y_move rfl) ?_
                      refine r_no' rfl rfl rfl ?_
                      refine r_no' rfl rfl rfl ?_
                      refine r_no' rfl rfl rfl ?_
                      refine r_no' rfl rfl rfl ?_
                      refine r_no' rfl rfl rfl ?_
                      refine r_y rfl rfl (y_pickf rfl rfl rfl) ?_
                      refine r_y rfl rfl (y_assign rfl) ?_
                      refine r_nil ?_
                      refine hK16 _ _ _ ?_
                      clear hK16 K16
                      refine c_ret ?_
                      refine e_ret 1 hm (res_tmps rfl) ?_
                      refine ⟨congrArg Value.bool ?_, rfl⟩
                      try clear hx
                      clear hz hm
                      unfold msgSound msgBody
                      simp_all [msgEmpty, ceq_head]
                      all_goals (first | omega | (rw [Bool.eq_iff_iff]; simp; omega))
                  ·
                    refine r_no' rfl rfl h20 ?_
                    refine r_y rfl rfl (y_pickf rfl h20 rfl) ?_
                    refine r_y rfl rfl (y_move rfl) ?_
                    refine r_no' rfl rfl rfl ?_
                    refine r_no' rfl rfl rfl ?_
                    refine r_no' rfl rfl rfl ?_
                    refine r_no' rfl rfl rfl ?_
                    refine r_y rfl rfl (y_pickf rfl rfl rfl) ?_
                    refine r_y rfl rfl (y_move rfl) ?_
                    refine r_no' rfl rfl rfl ?_
                    refine r_no' rfl rfl rfl ?_
                    refine r_no' rfl rfl rfl ?_
                    refine r_no' rfl rfl rfl ?_
                    refine r_no' rfl rfl rfl ?_
                    refine r_y rfl rfl (y_pickf rfl rfl rfl) ?_
                    refine r_y rfl rfl (y_assign rfl) ?_
                    refine r_nil ?_
                    refine hK16 _ _ _ ?_
                    clear hK16 K16
                    refine c_ret ?_
                    refine e_ret 1 hm (res_tmps rfl) ?_
                    refine ⟨congrArg Value.bool ?_, rfl⟩
                    try clear hx
                    clear hz hm
                    unfold msgSound msgBody
                    simp_all [msgEmpty, ceq_head]
                    all_goals (first | omega | (rw [Bool.eq_iff_iff]; simp; omega))
                ·
                  refine r_no' rfl rfl h19 ?_
                  refine r_no' rfl rfl h19 ?_
                  refine r_no' rfl rfl h19 ?_
                  refine r_y rfl rfl (y_pickf rfl h19 rfl) ?_
                  refine r_y rfl rfl (y_move rfl) ?_
                  refine r_no' rfl rfl rfl ?_
                  refine r_y rfl rfl (y_pickf rfl rfl rfl) ?_
                  refine r_y rfl rfl (y_move rfl) ?_
                  refine r_no' rfl rfl rfl ?_
                  refine r_no' rfl rfl rfl ?_
                  refine r_no' rfl rfl rfl ?_
                  refine r_no' rfl rfl rfl ?_
                  refine r_y rfl rfl (y_pickf rfl rfl rfl) ?_
                  refine r_y rfl rfl (y_move rfl) ?_
                  refine r_no' rfl rfl rfl ?_
                  refine r_no' rfl rfl rfl ?_
                  refine r_no' rfl rfl rfl ?_
                  refine r_no' rfl rfl rfl ?_
                  refine r_no' rfl rfl rfl ?_
                  refine r_y rfl rfl (y_pickf rfl rfl rfl) ?_
                  refine r_y rfl rfl (y_assign rfl) ?_
                  refine r_nil ?_
                  refine hK16 _ _ _ ?_
                  clear hK16 K16
                  refine c_ret ?_
                  refine e_ret 1 hm (res_tmps rfl) ?_
                  refine ⟨congrArg Value.bool ?_, rfl⟩
                  try clear hx
                  clear hz hm
                  unfold msgSound msgBody
                  simp_all [msgEmpty, ceq_head]
                  all_goals (first | omega | (rw [Bool.eq_iff_iff]; simp; omega))
              ·
                refine c_seq (fun K17 hK17 => ?_)
                refine c_region ?_
                refine r_y rfl rfl (y_iop rfl rfl rfl) ?_
                refine r_y rfl rfl (y_assign rfl) ?_
                refine r_nil ?_
                refine hK17 _ _ _ ?_
                clear hK17 K17
                refine c_cond rfl (fun h23 => ?_) (fun h23 => ?_)
                ·
                  refine c_seq (fun K18 hK18 => ?_)
                  refine c_region ?_
                  refine r_y rfl rfl (y_move rfl) ?_
                  refine r_y rfl rfl (y_move rfl) ?_
                  refine r_split (j := 1) rfl (fun h24 => ?_) (fun h24 => ?_)
                  ·
                    refine r_yg rfl h24 rfl (y_fieldAddr rfl At.lit fo35_2 rfl) ?_
                    refine r_yg rfl h24 rfl (y_load_s rfl ts24 (RdS.blk (i := 0) rfl rfl)) ?_
                    refine r_yg rfl h24 rfl (y_iop rfl rfl rfl) ?_
                    refine r_y rfl rfl (y_pickt rfl h24 rfl) ?_
                    refine r_y rfl rfl (y_move rfl) ?_
                    refine r_split (j := 6) rfl (fun h25 => ?_) (fun h25 => ?_)
                    ·
                      refine r_yg rfl h25 rfl (y_move rfl) ?_
                      refine r_y rfl rfl (y_pickt rfl h25 rfl) ?_
                      refine r_y rfl rfl (y_move rfl) ?_
                      refine r_split (j := 9) rfl (fun h26 => ?_) (fun h26 => ?_)
                      ·
                        refine r_yg rfl h26 rfl (y_fieldAddr rfl At.lit fo35_6 rfl) ?_
                        refine r_yg rfl h26 rfl (y_load_s rfl ts33 (RdS.blk (i := 0) rfl rfl)) ?_
                        refine r_yg rfl h26 rfl (y_len tl33 rfl) ?_
                        refine r_yg rfl h26 rfl (y_iop rfl rfl rfl) ?_
                        refine r_y rfl rfl (y_pickt rfl h26 rfl) ?_
                        refine r_y rfl rfl (y_move rfl) ?_
                        refine r_split (j := 15) rfl (fun h27 => ?_) (fun h27 => ?_)
                        ·
                          refine r_yg rfl h27 rfl (y_fieldAddr rfl At.lit fo35_6 rfl) ?_
                          refine r_yg rfl h27 rfl (y_load_s rfl ts33 (RdS.blk (i := 0) rfl rfl)) ?_
                          have hrt : ruleTable (lr.map (·.1)) = ruleTable x.rules := by rw [hz.eq]
                          refine r_sg rfl h27 ?_
                          refine s_call0 rfl Try.call38 rfl (rTable_w sr lr _ _ hz.rules) ?_
                          rintro _ m2 _ hm2 ⟨rfl, rfl⟩
                          replace hm := hm.trans hm2
                          replace hz := hz.mono hm2
                          clear hm2
                          refine r_y rfl rfl (y_pickt rfl h27 rfl) ?_
                          refine r_y rfl rfl (y_assign rfl) ?_
                          refine r_nil ?_
                          refine hK18 _ _ _ ?_
                          clear hK18 K18
                          refine c_ret ?_
                          refine e_ret 1 hm (res_tmps rfl) ?_
                          refine ⟨congrArg Value.bool ?_, rfl⟩
                          try clear hx
                          clear hz hm
                          unfold msgSound msgBody
                          simp_all [msgEmpty, ceq_head]
                          all_goals (first | omega | (rw [Bool.eq_iff_iff]; simp; omega))
                        ·
                          refine r_no' rfl rfl h27 ?_
                          refine r_no' rfl rfl h27 ?_
                          refine r_no' rfl rfl h27 ?_
                          refine r_y rfl rfl (y_pickf rfl h27 rfl) ?_
                          refine r_y rfl rfl (y_assign rfl) ?_
                          refine r_nil ?_
                          refine hK18 _ _ _ ?_
                          clear hK18 K18
                          refine c_ret ?_
                          refine e_ret 1 hm (res_tmps rfl) ?_
                          refine ⟨congrArg Value.bool ?_, rfl⟩
                          try clear hx
                          clear hz hm
                          unfold msgSound msgBody
                          simp_all [msgEmpty, ceq_head]
                          all_goals (first | omega | (rw [Bool.eq_iff_iff]; simp; omega))
                      ·
                        refine r_no' rfl rfl h26 ?_
                        refine r_no' rfl rfl h26 ?_
                        refine r_no' rfl rfl h26 ?_
                        refine r_no' rfl rfl h26 ?_
                        refine r_y rfl rfl (y_pickf rfl h26 rfl) ?_
                        refine r_y rfl rfl (y_move rfl) ?_
                        refine r_no' rfl rfl rfl ?_
                        refine r_no' rfl rfl rfl ?_
                        refine r_no' rfl rfl rfl ?_
                        refine r_y rfl rfl (y_pickf rfl rfl rfl) ?_
                        refine r_y rfl rfl (y_assign rfl) ?_
                        refine r_nil ?_
                        refine hK18 _ _ _ ?_
                        clear hK18 K18
                        refine c_ret ?_
                        refine e_ret 1 hm (res_tmps rfl) ?_
                        refine ⟨congrArg Value.bool ?_, rfl⟩
                        try clear hx
                        clear hz hm
                        unfold msgSound msgBody
                        simp_all [msgEmpty, ceq_head]
                        all_goals (first | omega | (rw [Bool.eq_iff_iff]; simp; omega))
                    ·
                      refine r_no' rfl rfl h25 ?_
                      refine r_y rfl rfl (y_pickf rfl h25 rfl) ?_
                      refine r_y rfl rfl (y_move rfl) ?_
                      refine r_no' rfl rfl rfl ?_
                      refine r_no' rfl rfl rfl ?_
                      refine r_no' rfl rfl rfl ?_
                      refine r_no' rfl rfl rfl ?_
                      refine r_y rfl rfl (y_pickf rfl rfl rfl) ?_
                      refine r_y rfl rfl (y_move rfl) ?_
                      refine r_no' rfl rfl rfl ?_
                      refine r_no' rfl rfl rfl ?_
                      refine r_no' rfl rfl rfl ?_
                      refine r_y rfl rfl (y_pickf rfl rfl rfl) ?_
                      refine r_y rfl rfl (y_assign rfl) ?_
                      refine r_nil ?_
                      refine hK18 _ _ _ ?_
                      clear hK18 K18
                      refine c_ret ?_
                      refine e_ret 1 hm (res_tmps rfl) ?_
                      refine ⟨congrArg Value.bool ?_, rfl⟩
                      try clear hx
                      clear hz hm
                      unfold msgSound msgBody
                      simp_all [msgEmpty, ceq_head]
                      all_goals (first | omega | (rw [Bool.eq_iff_iff]; simp; omega))
                  ·
                    refine r_no' rfl rfl h24 ?_
                    refine r_no' rfl rfl h24 ?_
                    refine r_no' rfl rfl h24 ?_
                    refine r_y rfl rfl (y_pickf rfl h24 rfl) ?_
                    refine r_y rfl rfl (y_move rfl) ?_
                    refine r_no' rfl rfl rfl ?_
                    refine r_y rfl rfl (y_pickf rfl rfl rfl) ?_
                    refine r_y rfl rfl (y_move rfl) ?_
                    refine r_no' rfl rfl rfl ?_
                    refine r_no' rfl rfl rfl ?_
                    refine r_no' rfl rfl rfl ?_
                    refine r_no' rfl rfl rfl ?_
                    refine r_y rfl rfl (y_pickf rfl rfl rfl) ?_
                    refine r_y rfl rfl (y_move rfl) ?_
                    refine r_no' rfl rfl rfl ?_
                    refine r_no' rfl rfl rfl ?_
                    refine r_no' rfl rfl rfl ?_
                    refine r_y rfl rfl (y_pickf rfl rfl rfl) ?_
                    refine r_y rfl rfl (y_assign rfl) ?_
                    refine r_nil ?_
                    refine hK18 _ _ _ ?_
                    clear hK18 K18
                    refine c_ret ?_
                    refine e_ret 1 hm (res_tmps rfl) ?_
                    refine ⟨congrArg Value.bool ?_, rfl⟩
                    try clear hx
                    clear hz hm
                    unfold msgSound msgBody
                    simp_all [msgEmpty, ceq_head]
                    all_goals (first | omega | (rw [Bool.eq_iff_iff]; simp; omega))
                ·
                  refine c_skip ?_
                  refine hK7 _ _ _ ?_
                  clear hK7 K7
                  refine c_seq (fun K19 hK19 => ?_)
                  refine c_region ?_
                  refine r_y rfl rfl (y_move rfl) ?_
                  refine r_y rfl rfl (y_move rfl) ?_
                  refine r_split (j := 1) rfl (fun h28 => ?_) (fun h28 => ?_)
                  ·
                    refine r_yg rfl h28 rfl (y_fieldAddr rfl At.lit fo35_2 rfl) ?_
                    refine r_yg rfl h28 rfl (y_load_s rfl ts24 (RdS.blk (i := 0) rfl rfl)) ?_
                    refine r_yg rfl h28 rfl (y_iop rfl rfl rfl) ?_
                    refine r_y rfl rfl (y_pickt rfl h28 rfl) ?_
                    refine r_y rfl rfl (y_move rfl) ?_
                    refine r_split (j := 6) rfl (fun h29 => ?_) (fun h29 => ?_)
                    ·
                      refine r_yg rfl h29 rfl (y_move rfl) ?_
                      refine r_y rfl rfl (y_pickt rfl h29 rfl) ?_
                      refine r_y rfl rfl (y_move rfl) ?_
                      refine r_split (j := 9) rfl (fun h30 => ?_) (fun h30 => ?_)
                      ·
                        refine r_yg rfl h30 rfl (y_fieldAddr rfl At.lit fo35_6 rfl) ?_
                        refine r_yg rfl h30 rfl (y_load_s rfl ts33 (RdS.blk (i := 0) rfl rfl)) ?_
                        refine r_yg rfl h30 rfl (y_len tl33 rfl) ?_
                        refine r_yg rfl h30 rfl (y_iop rfl rfl rfl) ?_
                        refine r_y rfl rfl (y_pickt rfl h30 rfl) ?_
                        refine r_y rfl rfl (y_move rfl) ?_
                        refine r_split (j := 15) rfl (fun h31 => ?_) (fun h31 => ?_)
                        ·
                          refine r_yg rfl h31 rfl (y_fieldAddr rfl At.lit fo35_0 rfl) ?_
                          refine r_yg rfl h31 rfl (y_load_s rfl ts3 (RdS.blk (i := 0) rfl rfl)) ?_
                          refine r_yg rfl h31 rfl (y_iop rfl rfl rfl) ?_
                          refine r_y rfl rfl (y_pickt rfl h31 rfl) ?_
                          refine r_y rfl rfl (y_move rfl) ?_
                          refine r_split (j := 20) rfl (fun h32 => ?_) (fun h32 => ?_)
                          ·
                            refine r_yg rfl h32 rfl (y_fieldAddr rfl At.lit fo35_0 rfl) ?_
                            refine r_yg rfl h32 rfl (y_load_s rfl ts3 (RdS.blk (i := 0) rfl rfl)) ?_
                            refine r_yg rfl h32 rfl (y_iop rfl rfl rfl) ?_
                            refine r_y rfl rfl (y_pickt rfl h32 rfl) ?_
                            refine r_y rfl rfl (y_assign rfl) ?_
                            refine r_nil ?_
                            refine hK19 _ _ _ ?_
                            clear hK19 K19
                            refine c_ret ?_
                            refine e_ret 1 hm (res_tmps rfl) ?_
                            refine ⟨congrArg Value.bool ?_, rfl⟩
                            try clear hx
                            clear hz hm
                            unfold msgSound msgBody
                            simp_all [msgEmpty, ceq_head]
                            all_goals (first | omega | (rw [Bool.eq_iff_iff]; simp; omega))
                          ·
                            refine r_no' rfl rfl h32 ?_
                            refine r_no' rfl rfl h32 ?_
                            refine r_no' rfl rfl h32 ?_
                            refine r_y rfl rfl (y_pickf rfl h32 rfl) ?_
                            refine r_y rfl rfl (y_assign rfl) ?_
                            refine r_nil ?_
                            refine hK19 _ _ _ ?_
                            clear hK19 K19
                            refine c_ret ?_
                            refine e_ret 1 hm (res_tmps rfl) ?_
                            refine ⟨congrArg Value.bool ?_, rfl⟩
                            try clear hx
                            clear hz hm
                            unfold msgSound msgBody
                            simp_all [msgEmpty, ceq_head]
                            all_goals (first | omega | (rw [Bool.eq_iff_iff]; simp; omega))
                        ·
                          refine r_no' rfl rfl h31 ?_
                          refine r_no' rfl rfl h31 ?_
                          refine r_no' rfl rfl h31 ?_
                          refine r_y rfl rfl (y_pickf rfl h31 rfl) ?_
                          refine r_y rfl rfl (y_move rfl) ?_
                          refine r_no' rfl rfl rfl ?_
                          refine r_no' rfl rfl rfl ?_
                          refine r_no' rfl rfl rfl ?_
                          refine r_y rfl rfl (y_pickf rfl rfl rfl) ?_
                          refine r_y rfl rfl (y_assign rfl) ?_
                          refine r_nil ?_
                          refine hK19 _ _ _ ?_
                          clear hK19 K19
                          refine c_ret ?_
                          refine e_ret 1 hm (res_tmps rfl) ?_
                          refine ⟨congrArg Value.bool ?_, rfl⟩
                          try clear hx
                          clear hz hm
                          unfold msgSound msgBody
                          simp_all [msgEmpty, ceq_head]
                          all_goals (first | omega | (rw [Bool.eq_iff_iff]; simp; omega))
                      ·
                        refine r_no' rfl rfl h30 ?_
                        refine r_no' rfl rfl h30 ?_
                        refine r_no' rfl rfl h30 ?_
                        refine r_no' rfl rfl h30 ?_
                        refine r_y rfl rfl (y_pickf rfl h30 rfl) ?_
                        refine r_y rfl rfl (y_move rfl) ?_
                        refine r_no' rfl rfl rfl ?_
                        refine r_no' rfl rfl rfl ?_
                        refine r_no' rfl rfl rfl ?_
                        refine r_y rfl rfl (y_pickf rfl rfl rfl) ?_
                        refine r_y rfl rfl (y_move rfl) ?_
                        refine r_no' rfl rfl rfl ?_
                        refine r_no' rfl rfl rfl ?_
                        refine r_no' rfl rfl rfl ?_
                        refine r_y rfl rfl (y_pickf rfl rfl rfl) ?_
                        refine r_y rfl rfl (y_assign rfl) ?_
                        refine r_nil ?_
                        refine hK19 _ _ _ ?_
                        clear hK19 K19
                        refine c_ret ?_
                        refine e_ret 1 hm (res_tmps rfl) ?_
                        refine ⟨congrArg Value.bool ?_, rfl⟩
                        try clear hx
                        clear hz hm
                        unfold msgSound msgBody
                        simp_all [msgEmpty, ceq_head]
                        all_goals (first | omega | (rw [Bool.eq_iff_iff]; simp; omega))
                    ·
                      refine r_no' rfl rfl h29 ?_
                      refine r_y rfl rfl (y_pickf rfl h29 rfl) ?_
                      refine r_y rfl rfl (y_move rfl) ?_
                      refine r_no' rfl rfl rfl ?_
                      refine r_no' rfl rfl rfl ?_
                      refine r_no' rfl rfl rfl ?_
                      refine r_no' rfl rfl rfl ?_
                      refine r_y rfl rfl (y_pickf rfl rfl rfl) ?_
                      refine r_y rfl rfl (y_move rfl) ?_
                      refine r_no' rfl rfl rfl ?_
                      refine r_no' rfl rfl rfl ?_
                      refine r_no' rfl rfl rfl ?_
                      refine r_y rfl rfl (y_pickf rfl rfl rfl) ?_
                      refine r_y rfl rfl (y_move rfl) ?_
                      refine r_no' rfl rfl rfl ?_
                      refine r_no' rfl rfl rfl ?_
                      refine r_no' rfl rfl rfl ?_
                      refine r_y rfl rfl (y_pickf rfl rfl rfl) ?_
                      refine r_y rfl rfl (y_assign rfl) ?_
                      refine r_nil ?_
                      refine hK19 _ _ _ ?_
                      clear hK19 K19
                      refine c_ret ?_
                      refine e_ret 1 hm (res_tmps rfl) ?_
                      refine ⟨congrArg Value.bool ?_, rfl⟩
                      try clear hx
                      clear hz hm
                      unfold msgSound msgBody
                      simp_all [msgEmpty, ceq_head]
                      all_goals (first | omega | (rw [Bool.eq_iff_iff]; simp; omega))
                  ·
                    refine r_no' rfl rfl h28 ?_
                    refine r_no' rfl rfl h28 ?_
                    refine r_no' rfl rfl h28 ?_
                    refine r_y rfl rfl (y_pickf rfl h28 rfl) ?_
                    refine r_y rfl rfl (y_move rfl) ?_
                    refine r_no' rfl rfl rfl ?_
                    refine r_y rfl rfl (y_pickf rfl rfl rfl) ?_
                    refine r_y rfl rfl (y_move rfl) ?_
                    refine r_no' rfl rfl rfl ?_
                    refine r_no' rfl rfl rfl ?_
                    refine r_no' rfl rfl rfl ?_
                    refine r_no' rfl rfl rfl ?_
                    refine r_y rfl rfl (y_pickf rfl rfl rfl) ?_
                    refine r_y rfl rfl (y_move rfl) ?_
                    refine r_no' rfl rfl rfl ?_
                    refine r_no' rfl rfl rfl ?_
                    refine r_no' rfl rfl rfl ?_
                    refine r_y rfl rfl (y_pickf rfl rfl rfl) ?_
                    refine r_y rfl rfl (y_move rfl) ?_
                    refine r_no' rfl rfl rfl ?_
                    refine r_no' rfl rfl rfl ?_
                    refine r_no' rfl rfl rfl ?_
                    refine r_y rfl rfl (y_pickf rfl rfl rfl) ?_
                    refine r_y rfl rfl (y_assign rfl) ?_
                    refine r_nil ?_
                    refine hK19 _ _ _ ?_
                    clear hK19 K19
                    refine c_ret ?_
                    refine e_ret 1 hm (res_tmps rfl) ?_
                    refine ⟨congrArg Value.bool ?_, rfl⟩
                    try clear hx
                    clear hz hm
                    unfold msgSound msgBody
                    simp_all [msgEmpty, ceq_head]
                    all_goals (first | omega | (rw [Bool.eq_iff_iff]; simp; omega))
  ·
    refine r_no' rfl rfl h0 ?_
    refine r_no' rfl rfl h0 ?_
    refine r_no' rfl rfl h0 ?_
    refine r_no' rfl rfl h0 ?_
    refine r_y rfl rfl (y_pickf rfl h0 rfl) ?_
    refine r_y rfl rfl (y_assign rfl) ?_
    refine r_nil ?_
    refine hK2 _ _ _ ?_
    clear hK2 K2
    refine c_seq (fun K20 hK20 => ?_)
    refine c_seq (fun K21 hK21 => ?_)
    refine c_region ?_
    refine r_y rfl rfl (y_fieldAddr rfl At.lit fo35_1 rfl) ?_
    refine r_y rfl rfl (y_load_s rfl ts3 (RdS.blk (i := 0) rfl rfl)) ?_
    refine r_y rfl rfl (y_iop rfl rfl rfl) ?_
    refine r_y rfl rfl (y_move rfl) ?_
    refine r_split (j := 3) rfl (fun h33 => ?_) (fun h33 => ?_)
    ·
      refine r_no' rfl rfl h33 ?_
      refine r_no' rfl rfl h33 ?_
      refine r_no' rfl rfl h33 ?_
      refine r_y rfl rfl (y_pickt rfl h33 rfl) ?_
      refine r_nil ?_
      refine hK21 _ _ _ ?_
      clear hK21 K21
      refine c_ift rfl rfl ?_
      refine c_seq (fun K22 hK22 => ?_)
      refine c_region ?_
      refine r_y rfl rfl (y_assign rfl) ?_
      refine r_nil ?_
      refine hK22 _ _ _ ?_
      clear hK22 K22
      refine c_ret ?_
      refine e_ret 1 hm (res_tmps rfl) ?_
      refine ⟨congrArg Value.bool ?_, rfl⟩
      try clear hx
      clear hz hm
      unfold msgSound msgBody
      simp_all [msgEmpty, ceq_head]
      all_goals (first | omega | (rw [Bool.eq_iff_iff]; simp; omega))
    ·
      refine r_yg rfl h33 rfl (y_fieldAddr rfl At.lit fo35_1 rfl) ?_
      refine r_yg rfl h33 rfl (y_load_s rfl ts3 (RdS.blk (i := 0) rfl rfl)) ?_
      refine r_yg rfl h33 rfl (y_iop rfl rfl rfl) ?_
      refine r_y rfl rfl (y_pickf rfl h33 rfl) ?_
      refine r_nil ?_
      refine hK21 _ _ _ ?_
      clear hK21 K21
      refine c_cond rfl (fun h34 => ?_) (fun h34 => ?_)
      ·
        refine c_seq (fun K23 hK23 => ?_)
        refine c_region ?_
        refine r_y rfl rfl (y_assign rfl) ?_
        refine r_nil ?_
        refine hK23 _ _ _ ?_
        clear hK23 K23
        refine c_ret ?_
        refine e_ret 1 hm (res_tmps rfl) ?_
        refine ⟨congrArg Value.bool ?_, rfl⟩
        try clear hx
        clear hz hm
        unfold msgSound msgBody
        simp_all [msgEmpty, ceq_head]
        all_goals (first | omega | (rw [Bool.eq_iff_iff]; simp; omega))
      ·
        refine c_skip ?_
        refine hK20 _ _ _ ?_
        clear hK20 K20
        refine c_seq (fun K24 hK24 => ?_)
        refine c_seq (fun K25 hK25 => ?_)
        refine c_region ?_
        refine r_y rfl rfl (y_fieldAddr rfl At.lit fo35_0 rfl) ?_
        refine r_y rfl rfl (y_load_s rfl ts3 (RdS.blk (i := 0) rfl rfl)) ?_
        refine r_nil ?_
        refine hK25 _ _ _ ?_
        clear hK25 K25
        refine c_block ?_
        refine c_seq (fun K26 hK26 => ?_)
        refine c_region ?_
        refine r_y rfl rfl (y_iop rfl rfl rfl) ?_
        refine r_y rfl rfl (y_assign rfl) ?_
        refine r_nil ?_
        refine hK26 _ _ _ ?_
        clear hK26 K26
        refine c_cond rfl (fun h35 => ?_) (fun h35 => ?_)
        ·
          refine c_seq (fun K27 hK27 => ?_)
          refine c_region ?_
          refine r_y rfl rfl (y_fieldAddr rfl At.lit fo35_3 rfl) ?_
          refine r_y rfl rfl (y_load_a (cs := encMod x.mod sm) rfl ts32 (RdA.blk (i := 0) rfl rfl)) ?_
          refine r_s rfl ?_
          refine s_call0 rfl Try.call37 rfl (rMod_w x.mod sm _ _ hz.mod) ?_
          rintro _ m2 _ hm2 ⟨rfl, rfl⟩
          replace hm := hm.trans hm2
          replace hz := hz.mono hm2
          clear hm2
          refine r_y rfl rfl (y_move rfl) ?_
          refine r_split (j := 3) rfl (fun h36 => ?_) (fun h36 => ?_)
          ·
            refine r_yg rfl h36 rfl (y_fieldAddr rfl At.lit fo35_2 rfl) ?_
            refine r_yg rfl h36 rfl (y_load_s rfl ts24 (RdS.blk (i := 0) rfl rfl)) ?_
            refine r_yg rfl h36 rfl (y_iop rfl rfl rfl) ?_
            refine r_y rfl rfl (y_pickt rfl h36 rfl) ?_
            refine r_y rfl rfl (y_move rfl) ?_
            refine r_split (j := 8) rfl (fun h37 => ?_) (fun h37 => ?_)
            ·
              refine r_yg rfl h37 rfl (y_move rfl) ?_
              refine r_y rfl rfl (y_pickt rfl h37 rfl) ?_
              refine r_y rfl rfl (y_move rfl) ?_
              refine r_no' rfl rfl rfl ?_
              refine r_no' rfl rfl rfl ?_
              refine r_no' rfl rfl rfl ?_
              refine r_no' rfl rfl rfl ?_
              refine r_y rfl rfl (y_pickf rfl rfl rfl) ?_
              refine r_y rfl rfl (y_assign rfl) ?_
              refine r_nil ?_
              refine hK27 _ _ _ ?_
              clear hK27 K27
              refine c_ret ?_
              refine e_ret 1 hm (res_tmps rfl) ?_
              refine ⟨congrArg Value.bool ?_, rfl⟩
              try clear hx
              clear hz hm
              unfold msgSound msgBody
              simp_all [msgEmpty, ceq_head]
              all_goals (first | omega | (rw [Bool.eq_iff_iff]; simp; omega))
            ·
              refine r_no' rfl rfl h37 ?_
              refine r_y rfl rfl (y_pickf rfl h37 rfl) ?_
              refine r_y rfl rfl (y_move rfl) ?_
              refine r_no' rfl rfl rfl ?_
              refine r_no' rfl rfl rfl ?_
              refine r_no' rfl rfl rfl ?_
              refine r_no' rfl rfl rfl ?_
              refine r_y rfl rfl (y_pickf rfl rfl rfl) ?_
              refine r_y rfl rfl (y_assign rfl) ?_
              refine r_nil ?_
              refine hK27 _ _ _ ?_
              clear hK27 K27
              refine c_ret ?_
              refine e_ret 1 hm (res_tmps rfl) ?_
              refine ⟨congrArg Value.bool ?_, rfl⟩
              try clear hx
              clear hz hm
              unfold msgSound msgBody
              simp_all [msgEmpty, ceq_head]
              all_goals (first | omega | (rw [Bool.eq_iff_iff]; simp; omega))
          ·
            refine r_no' rfl rfl h36 ?_
            refine r_no' rfl rfl h36 ?_
            refine r_no' rfl rfl h36 ?_
            refine r_y rfl rfl (y_pickf rfl h36 rfl) ?_
            refine r_y rfl rfl (y_move rfl) ?_
            refine r_no' rfl rfl rfl ?_
            refine r_y rfl rfl (y_pickf rfl rfl rfl) ?_
            refine r_y rfl rfl (y_move rfl) ?_
            refine r_no' rfl rfl rfl ?_
            refine r_no' rfl rfl rfl ?_
            refine r_no' rfl rfl rfl ?_
            refine r_no' rfl rfl rfl ?_
            refine r_y rfl rfl (y_pickf rfl rfl rfl) ?_
            refine r_y rfl rfl (y_assign rfl) ?_
            refine r_nil ?_
            refine hK27 _ _ _ ?_
            clear hK27 K27
            refine c_ret ?_
            refine e_ret 1 hm (res_tmps rfl) ?_
            refine ⟨congrArg Value.bool ?_, rfl⟩
            try clear hx
            clear hz hm
            unfold msgSound msgBody
            simp_all [msgEmpty, ceq_head]
            all_goals (first | omega | (rw [Bool.eq_iff_iff]; simp; omega))
        ·
          refine c_seq (fun K28 hK28 => ?_)
          refine c_region ?_
          refine r_y rfl rfl (y_iop rfl rfl rfl) ?_
          refine r_y rfl rfl (y_assign rfl) ?_
          refine r_nil ?_
          refine hK28 _ _ _ ?_
          clear hK28 K28
          refine c_cond rfl (fun h38 => ?_) (fun h38 => ?_)
          ·
            refine c_seq (fun K29 hK29 => ?_)
            refine c_region ?_
            refine r_y rfl rfl (y_move rfl) ?_
            refine r_y rfl rfl (y_move rfl) ?_
            refine r_split (j := 1) rfl (fun h39 => ?_) (fun h39 => ?_)
            ·
              refine r_yg rfl h39 rfl (y_fieldAddr rfl At.lit fo35_2 rfl) ?_
              refine r_yg rfl h39 rfl (y_load_s rfl ts24 (RdS.blk (i := 0) rfl rfl)) ?_
              refine r_yg rfl h39 rfl (y_iop rfl rfl rfl) ?_
              refine r_y rfl rfl (y_pickt rfl h39 rfl) ?_
              refine r_y rfl rfl (y_move rfl) ?_
              refine r_split (j := 6) rfl (fun h40 => ?_) (fun h40 => ?_)
              ·
                refine r_yg rfl h40 rfl (y_fieldAddr rfl At.lit fo35_2 rfl) ?_
                refine r_yg rfl h40 rfl (y_load_s rfl ts24 (RdS.blk (i := 0) rfl rfl)) ?_
                refine r_yg rfl h40 rfl (y_iop rfl rfl rfl) ?_
                refine r_y rfl rfl (y_pickt rfl h40 rfl) ?_
                refine r_y rfl rfl (y_move rfl) ?_
                refine r_split (j := 11) rfl (fun h41 => ?_) (fun h41 => ?_)
                ·
                  refine r_yg rfl h41 rfl (y_move rfl) ?_
                  refine r_y rfl rfl (y_pickt rfl h41 rfl) ?_
                  refine r_y rfl rfl (y_move rfl) ?_
                  refine r_no' rfl rfl rfl ?_
                  refine r_no' rfl rfl rfl ?_
                  refine r_no' rfl rfl rfl ?_
                  refine r_no' rfl rfl rfl ?_
                  refine r_y rfl rfl (y_pickf rfl rfl rfl) ?_
                  refine r_y rfl rfl (y_assign rfl) ?_
                  refine r_nil ?_
                  refine hK29 _ _ _ ?_
                  clear hK29 K29
                  refine c_ret ?_
                  refine e_ret 1 hm (res_tmps rfl) ?_
                  refine ⟨congrArg Value.bool ?_, rfl⟩
                  try clear hx
                  clear hz hm
                  unfold msgSound msgBody
                  simp_all [msgEmpty, ceq_head]
                  all_goals (first | omega | (rw [Bool.eq_iff_iff]; simp; omega))
                ·
                  refine r_no' rfl rfl h41 ?_
                  refine r_y rfl rfl (y_pickf rfl h41 rfl) ?_
                  refine r_y rfl rfl (y_move rfl) ?_
                  refine r_no' rfl rfl rfl ?_
                  refine r_no' rfl rfl rfl ?_
                  refine r_no' rfl rfl rfl ?_
                  refine r_no' rfl rfl rfl ?_
                  refine r_y rfl rfl (y_pickf rfl rfl rfl) ?_
                  refine r_y rfl rfl (y_assign rfl) ?_
                  refine r_nil ?_
                  refine hK29 _ _ _ ?_
                  clear hK29 K29
                  refine c_ret ?_
                  refine e_ret 1 hm (res_tmps rfl) ?_
                  refine ⟨congrArg Value.bool ?_, rfl⟩
                  try clear hx
                  clear hz hm
                  unfold msgSound msgBody
                  simp_all [msgEmpty, ceq_head]
                  all_goals (first | omega | (rw [Bool.eq_iff_iff]; simp; omega))
              ·
                refine r_no' rfl rfl h40 ?_
                refine r_no' rfl rfl h40 ?_
                refine r_no' rfl rfl h40 ?_
                refine r_y rfl rfl (y_pickf rfl h40 rfl) ?_
                refine r_y rfl rfl (y_move rfl) ?_
                refine r_no' rfl rfl rfl ?_
                refine r_y rfl rfl (y_pickf rfl rfl rfl) ?_
                refine r_y rfl rfl (y_move rfl) ?_
                refine r_no' rfl rfl rfl ?_
                refine r_no' rfl rfl rfl ?_
                refine r_no' rfl rfl rfl ?_
                refine r_no' rfl rfl rfl ?_
                refine r_y rfl rfl (y_pickf rfl rfl rfl) ?_
                refine r_y rfl rfl (y_assign rfl) ?_
                refine r_nil ?_
                refine hK29 _ _ _ ?_
                clear hK29 K29
                refine c_ret ?_
                refine e_ret 1 hm (res_tmps rfl) ?_
                refine ⟨congrArg Value.bool ?_, rfl⟩
                try clear hx
                clear hz hm
                unfold msgSound msgBody
                simp_all [msgEmpty, ceq_head]
                all_goals (first | omega | (rw [Bool.eq_iff_iff]; simp; omega))
            ·
              refine r_no' rfl rfl h39 ?_
              refine r_no' rfl rfl h39 ?_
              refine r_no' rfl rfl h39 ?_
              refine r_y rfl rfl (y_pickf rfl h39 rfl) ?_
              refine r_y rfl rfl (y_move rfl) ?_
              refine r_no' rfl rfl rfl ?_
              refine r_no' rfl rfl rfl ?_
              refine r_no' rfl rfl rfl ?_
              refine r_y rfl rfl (y_pickf rfl rfl rfl) ?_
              refine r_y rfl rfl (y_move rfl) ?_
              refine r_no' rfl rfl rfl ?_
              refine r_y rfl rfl (y_pickf rfl rfl rfl) ?_
              refine r_y rfl rfl (y_move rfl) ?_
              refine r_no' rfl rfl rfl ?_
              refine r_no' rfl rfl rfl ?_
              refine r_no' rfl rfl rfl ?_
              refine r_no' rfl rfl rfl ?_
              refine r_y rfl rfl (y_pickf rfl rfl rfl) ?_
              refine r_y rfl rfl (y_assign rfl) ?_
              refine r_nil ?_
              refine hK29 _ _ _ ?_
              clear hK29 K29
              refine c_ret ?_
              refine e_ret 1 hm (res_tmps rfl) ?_
              refine ⟨congrArg Value.bool ?_, rfl⟩
              try clear hx
              clear hz hm
              unfold msgSound msgBody
              simp_all [msgEmpty, ceq_head]
              all_goals (first | omega | (rw [Bool.eq_iff_iff]; simp; omega))
          ·
            refine c_seq (fun K30 hK30 => ?_)
            refine c_region ?_
            refine r_y rfl rfl (y_iop rfl rfl rfl) ?_
            refine r_y rfl rfl (y_assign rfl) ?_
            refine r_nil ?_
            refine hK30 _ _ _ ?_
            clear hK30 K30
            refine c_cond rfl (fun h42 => ?_) (fun h42 => ?_)
            ·
              refine c_seq (fun K31 hK31 => ?_)
              refine c_region ?_
              refine r_y rfl rfl (y_move rfl) ?_
              refine r_y rfl rfl (y_move rfl) ?_
              refine r_split (j := 1) rfl (fun h43 => ?_) (fun h43 => ?_)
              ·
                refine r_yg rfl h43 rfl (y_fieldAddr rfl At.lit fo35_2 rfl) ?_
                refine r_yg rfl h43 rfl (y_load_s rfl ts24 (RdS.blk (i := 0) rfl rfl)) ?_
                refine r_yg rfl h43 rfl (y_iop rfl rfl rfl) ?_
                refine r_y rfl rfl (y_pickt rfl h43 rfl) ?_
                refine r_y rfl rfl (y_move rfl) ?_
                refine r_split (j := 6) rfl (fun h44 => ?_) (fun h44 => ?_)
                ·
                  refine r_yg rfl h44 rfl (y_fieldAddr rfl At.lit fo35_4 rfl) ?_
                  refine r_yg rfl h44 rfl (y_load_s rfl ts3 (RdS.blk (i := 0) rfl rfl)) ?_
                  refine r_yg rfl h44 rfl (y_iop rfl rfl rfl) ?_
                  refine r_y rfl rfl (y_pickt rfl h44 rfl) ?_
                  refine r_y rfl rfl (y_move rfl) ?_
                  refine r_split (j := 11) rfl (fun h45 => ?_) (fun h45 => ?_)
                  ·
                    refine r_yg rfl h45 rfl (y_fieldAddr rfl At.lit fo35_4 rfl) ?_
                    refine r_yg rfl h45 rfl (y_load_s rfl ts3 (RdS.blk (i := 0) rfl rfl)) ?_
                    refine r_yg rfl h45 rfl (y_iop rfl rfl rfl) ?_
                    refine r_y rfl rfl (y_pickt rfl h45 rfl) ?_
                    refine r_y rfl rfl (y_move rfl) ?_
                    refine r_split (j := 16) rfl (fun h46 => ?_) (fun h46 => ?_)
                    ·
                      refine r_yg rfl h46 rfl (y_fieldAddr rfl At.lit fo35_5 rfl) ?_
                      refine r_yg rfl h46 rfl (y_load_a (cs := encHead x.head) rfl ts27 (RdA.blk (i := 0) rfl rfl)) ?_
                      refine r_sg rfl h46 ?_
                      refine s_call0 rfl Try.call64 rfl (rHead_w x.head _ _) ?_
                      rintro _ m2 _ hm2 ⟨rfl, rfl⟩
                      replace hm := hm.trans hm2
                      replace hz := hz.mono hm2
                      clear hm2
                      refine r_y rfl rfl (y_pickt rfl h46 rfl) ?_
                      refine r_y rfl rfl (y_move rfl) ?_
                      refine r_split (j := 21) rfl (fun h47 => ?_) (fun h47 => ?_)
                      ·
                        refine r_yg rfl h47 rfl (y_fieldAddr rfl At.lit fo35_6 rfl) ?_
                        refine r_yg rfl h47 rfl (y_load_s rfl ts33 (RdS.blk (i := 0) rfl rfl)) ?_
                        refine r_yg rfl h47 rfl (y_len tl33 rfl) ?_
                        refine r_yg rfl h47 rfl (y_iop rfl rfl rfl) ?_
                        refine r_y rfl rfl (y_pickt rfl h47 rfl) ?_
                        refine r_y rfl rfl (y_assign rfl) ?_
                        refine r_nil ?_
                        refine hK31 _ _ _ ?_
                        clear hK31 K31
                        refine c_ret ?_
                        refine e_ret 1 hm (res_tmps rfl) ?_
                        refine ⟨congrArg Value.bool ?_, rfl⟩
                        try clear hx
                        clear hz hm
                        unfold msgSound msgBody
                        simp_all [msgEmpty, ceq_head]
                        all_goals (first | omega | (rw [Bool.eq_iff_iff]; simp; omega))
                      ·
                        refine r_no' rfl rfl h47 ?_
                        refine r_no' rfl rfl h47 ?_
                        refine r_no' rfl rfl h47 ?_
                        refine r_no' rfl rfl h47 ?_
                        refine r_y rfl rfl (y_pickf rfl h47 rfl) ?_
                        refine r_y rfl rfl (y_assign rfl) ?_
                        refine r_nil ?_
                        refine hK31 _ _ _ ?_
                        clear hK31 K31
                        refine c_ret ?_
                        refine e_ret 1 hm (res_tmps rfl) ?_
                        refine ⟨congrArg Value.bool ?_, rfl⟩
                        try clear hx
                        clear hz hm
                        unfold msgSound msgBody
                        simp_all [msgEmpty, ceq_head]
                        all_goals (first | omega | (rw [Bool.eq_iff_iff]; simp; omega))
                    ·
                      refine r_no' rfl rfl h46 ?_
                      refine r_no' rfl rfl h46 ?_
                      refine r_no' rfl rfl h46 ?_
                      refine r_y rfl rfl (y_pickf rfl h46 rfl) ?_
                      refine r_y rfl rfl (y_move rfl) ?_
                      refine r_no' rfl rfl rfl ?_
                      refine r_no' rfl rfl rfl ?_
                      refine r_no' rfl rfl rfl ?_
                      refine r_no' rfl rfl rfl ?_
                      refine r_y rfl rfl (y_pickf rfl rfl rfl) ?_
                      refine r_y rfl rfl (y_assign rfl) ?_
                      refine r_nil ?_
                      refine hK31 _ _ _ ?_
                      clear hK31 K31
                      refine c_ret ?_
                      refine e_ret 1 hm (res_tmps rfl) ?_
                      refine ⟨congrArg Value.bool ?_, rfl⟩
                      try clear hx
                      clear hz hm
                      unfold msgSound msgBody
                      simp_all [msgEmpty, ceq_head]
                      all_goals (first | omega | (rw [Bool.eq_iff_iff]; simp; omega))
                  ·
                    refine r_no' rfl rfl h45 ?_
                    refine r_no' rfl rfl h45 ?_
                    refine r_no' rfl rfl h45 ?_
                    refine r_y rfl rfl (y_pickf rfl h45 rfl) ?_
                    refine r_y rfl rfl (y_move rfl) ?_
                    refine r_no' rfl rfl rfl ?_
                    refine r_no' rfl rfl rfl ?_
                    refine r_no' rfl rfl rfl ?_
                    refine r_y rfl rfl (y_pickf rfl rfl rfl) ?_
                    refine r_y rfl rfl (y_move rfl) ?_
                    refine r_no' rfl rfl rfl ?_
                    refine r_no' rfl rfl rfl ?_
                    refine r_no' rfl rfl rfl ?_
                    refine r_no' rfl rfl rfl ?_
                    refine r_y rfl rfl (y_pickf rfl rfl rfl) ?_
                    refine r_y rfl rfl (y_assign rfl) ?_
                    refine r_nil ?_
                    refine hK31 _ _ _ ?_
                    clear hK31 K31
                    refine c_ret ?_
                    refine e_ret 1 hm (res_tmps rfl) ?_
                    refine ⟨congrArg Value.bool ?_, rfl⟩
                    try clear hx
                    clear hz hm
                    unfold msgSound msgBody
                    simp_all [msgEmpty, ceq_head]
                    all_goals (first | omega | (rw [Bool.eq_iff_iff]; simp; omega))
                ·
                  refine r_no' rfl rfl h44 ?_
                  refine r_no' rfl rfl h44 ?_
                  refine r_no' rfl rfl h44 ?_
                  refine r_y rfl rfl (y_pickf rfl h44 rfl) ?_
                  refine r_y rfl rfl (y_move rfl) ?_
                  refine r_no' rfl rfl rfl ?_
                  refine r_no' rfl rfl rfl ?_
                  refine r_no' rfl rfl rfl ?_
                  refine r_y rfl rfl (y_pickf rfl rfl rfl) ?_
                  refine r_y rfl rfl (y_move rfl) ?_
                  refine r_no' rfl rfl rfl ?_
                  refine r_no' rfl rfl rfl ?_
                  refine r_no' rfl rfl rfl ?_
                  refine r_y rfl rfl (y_pickf rfl rfl rfl) ?_
                  refine r_y rfl rfl (y_move rfl) ?_
                  refine r_no' rfl rfl rfl ?_
                  refine r_no' rfl rfl rfl ?_
                  refine r_no' rfl rfl rfl ?_
                  refine r_no' rfl rfl rfl ?_
                  refine r_y rfl rfl (y_pickf rfl rfl rfl) ?_
                  refine r_y rfl rfl (y_assign rfl) ?_
                  refine r_nil ?_
                  refine hK31 _ _ _ ?_
                  clear hK31 K31
                  refine c_ret ?_
                  refine e_ret 1 hm (res_tmps rfl) ?_
                  refine ⟨congrArg Value.bool ?_, rfl⟩
                  try clear hx
                  clear hz hm
                  unfold msgSound msgBody
                  simp_all [msgEmpty, ceq_head]
                  all_goals (first | omega | (rw [Bool.eq_iff_iff]; simp; omega))
              ·
                refine r_no' rfl rfl h43 ?_
                refine r_no' rfl rfl h43 ?_
                refine r_no' rfl rfl h43 ?_
                refine r_y rfl rfl (y_pickf rfl h43 rfl) ?_
                refine r_y rfl rfl (y_move rfl) ?_
                refine r_no' rfl rfl rfl ?_
                refine r_no' rfl rfl rfl ?_
                refine r_no' rfl rfl rfl ?_
                refine r_y rfl rfl (y_pickf rfl rfl rfl) ?_
                refine r_y rfl rfl (y_move rfl) ?_
                refine r_no' rfl rfl rfl ?_
                refine r_no' rfl rfl rfl ?_
                refine r_no' rfl rfl rfl ?_
                refine r_y rfl rfl (y_pickf rfl rfl rfl) ?_
                refine r_y rfl rfl (y_move rfl) ?_
                refine r_no' rfl rfl rfl ?_
                refine r_no' rfl rfl rfl ?_
                refine r_no' rfl rfl rfl ?_
                refine r_y rfl rfl (y_pickf rfl rfl rfl) ?_
                refine r_y rfl rfl (y_move rfl) ?_
                refine r_no' rfl rfl rfl ?_
                refine r_no' rfl rfl rfl ?_
                refine r_no' rfl rfl rfl ?_
                refine r_no' rfl rfl rfl ?_
                refine r_y rfl rfl (y_pickf rfl rfl rfl) ?_
                refine r_y rfl rfl (y_assign rfl) ?_
                refine r_nil ?_
                refine hK31 _ _ _ ?_
                clear hK31 K31
                refine c_ret ?_
                refine e_ret 1 hm (res_tmps rfl) ?_
                refine ⟨congrArg Value.bool ?_, rfl⟩
                try clear hx
                clear hz hm
                unfold msgSound msgBody
                simp_all [msgEmpty, ceq_head]
                all_goals (first | omega | (rw [Bool.eq_iff_iff]; simp; omega))
            ·
              refine c_seq (fun K32 hK32 => ?_)
              refine c_region ?_
              refine r_y rfl rfl (y_iop rfl rfl rfl) ?_
              refine r_y rfl rfl (y_assign rfl) ?_
              refine r_nil ?_
              refine hK32 _ _ _ ?_
              clear hK32 K32
              refine c_cond rfl (fun h48 => ?_) (fun h48 => ?_)
              ·
                refine c_seq (fun K33 hK33 => ?_)
                refine c_region ?_
                refine r_y rfl rfl (y_move rfl) ?_
                refine r_y rfl rfl (y_move rfl) ?_
                refine r_split (j := 1) rfl (fun h49 => ?_) (fun h49 => ?_)
                ·
                  refine r_yg rfl h49 rfl (y_fieldAddr rfl At.lit fo35_2 rfl) ?_
                  refine r_yg rfl h49 rfl (y_load_s rfl ts24 (RdS.blk (i := 0) rfl rfl)) ?_
                  refine r_yg rfl h49 rfl (y_iop rfl rfl rfl) ?_
                  refine r_y rfl rfl (y_pickt rfl h49 rfl) ?_
                  refine r_y rfl rfl (y_move rfl) ?_
                  refine r_split (j := 6) rfl (fun h50 => ?_) (fun h50 => ?_)
                  ·
                    refine r_yg rfl h50 rfl (y_move rfl) ?_
                    refine r_y rfl rfl (y_pickt rfl h50 rfl) ?_
                    refine r_y rfl rfl (y_move rfl) ?_
                    refine r_no' rfl rfl rfl ?_
                    refine r_no' rfl rfl rfl ?_
                    refine r_no' rfl rfl rfl ?_
                    refine r_no' rfl rfl rfl ?_
                    refine r_y rfl rfl (y_pickf rfl rfl rfl) ?_
                    refine r_y rfl rfl (y_move rfl) ?_
                    refine r_no' rfl rfl rfl ?_
                    refine r_no' rfl rfl rfl ?_
                    refine r_no' rfl rfl rfl ?_
                    refine r_no' rfl rfl rfl ?_
                    refine r_no' rfl rfl rfl ?_
                    refine r_y rfl rfl (y_pickf rfl rfl rfl) ?_
                    refine r_y rfl rfl (y_assign rfl) ?_
                    refine r_nil ?_
                    refine hK33 _ _ _ ?_
                    clear hK33 K33
                    refine c_ret ?_
                    refine e_ret 1 hm (res_tmps rfl) ?_
                    refine ⟨congrArg Value.bool ?_, rfl⟩
                    try clear hx
                    clear hz hm
                    unfold msgSound msgBody
                    simp_all [msgEmpty, ceq_head]
                    all_goals (first | omega | (rw [Bool.eq_iff_iff]; simp; omega))
                  ·
                    refine r_no' rfl rfl h50 ?_
                    refine r_y rfl rfl (y_pickf rfl h50 rfl) ?_
                    refine r_y rfl rfl (y_move rfl) ?_
                    refine r_no' rfl rfl rfl ?_
                    refine r_no' rfl rfl rfl ?_
                    refine r_no' rfl rfl rfl ?_
                    refine r_no' rfl rfl rfl ?_
                    refine r_y rfl rfl (y_pickf rfl rfl rfl) ?_
                    refine r_y rfl rfl (y_move rfl) ?_
                    refine r_no' rfl rfl rfl ?_
                    refine r_no' rfl rfl rfl ?_
                    refine r_no' rfl rfl rfl ?_
                    refine r_no' rfl rfl rfl ?_
                    refine r_no' rfl rfl rfl ?_
                    refine r_y rfl rfl (y_pickf rfl rfl rfl) ?_
                    refine r_y rfl rfl (y_assign rfl) ?_
                    refine r_nil ?_
                    refine hK33 _ _ _ ?_
                    clear hK33 K33
                    refine c_ret ?_
                    refine e_ret 1 hm (res_tmps rfl) ?_
                    refine ⟨congrArg Value.bool ?_, rfl⟩
                    try clear hx
                    clear hz hm
                    unfold msgSound msgBody
                    simp_all [msgEmpty, ceq_head]
                    all_goals (first | omega | (rw [Bool.eq_iff_iff]; simp; omega))
                ·
                  refine r_no' rfl rfl h49 ?_
                  refine r_no' rfl rfl h49 ?_
                  refine r_no' rfl rfl h49 ?_
                  refine r_y rfl rfl (y_pickf rfl h49 rfl) ?_
                  refine r_y rfl rfl (y_move rfl) ?_
                  refine r_no' rfl rfl rfl ?_
                  refine r_y rfl rfl (y_pickf rfl rfl rfl) ?_
                  refine r_y rfl rfl (y_move rfl) ?_
                  refine r_no' rfl rfl rfl ?_
                  refine r_no' rfl rfl rfl ?_
                  refine r_no' rfl rfl rfl ?_
                  refine r_no' rfl rfl rfl ?_
                  refine r_y rfl rfl (y_pickf rfl rfl rfl) ?_
                  refine r_y rfl rfl (y_move rfl) ?_
                  refine r_no' rfl rfl rfl ?_
                  refine r_no' rfl rfl rfl ?_
                  refine r_no' rfl rfl rfl ?_
                  refine r_no' rfl rfl rfl ?_
                  refine r_no' rfl rfl rfl ?_
                  refine r_y rfl rfl (y_pickf rfl rfl rfl) ?_
                  refine r_y rfl rfl (y_assign rfl) ?_
                  refine r_nil ?_
                  refine hK33 _ _ _ ?_
                  clear hK33 K33
                  refine c_ret ?_
                  refine e_ret 1 hm (res_tmps rfl) ?_
                  refine ⟨congrArg Value.bool ?_, rfl⟩
                  try clear hx
                  clear hz hm
                  unfold msgSound msgBody
                  simp_all [msgEmpty, ceq_head]
                  all_goals (first | omega | (rw [Bool.eq_iff_iff]; simp; omega))
              ·
                refine c_seq (fun K34 hK34 => ?_)
                refine c_region ?_
                refine r_y rfl rfl (y_iop rfl rfl rfl) ?_
                refine r_y rfl rfl (y_assign rfl) ?_
                refine r_nil ?_
                refine hK34 _ _ _ ?_
                clear hK34 K34
                refine c_cond rfl (fun h51 => ?_) (fun h51 => ?_)
                ·
                  refine c_seq (fun K35 hK35 => ?_)
                  refine c_region ?_
                  refine r_y rfl rfl (y_move rfl) ?_
                  refine r_y rfl rfl (y_move rfl) ?_
                  refine r_split (j := 1) rfl (fun h52 => ?_) (fun h52 => ?_)
                  ·
                    refine r_yg rfl h52 rfl (y_fieldAddr rfl At.lit fo35_2 rfl) ?_
                    refine r_yg rfl h52 rfl (y_load_s rfl ts24 (RdS.blk (i := 0) rfl rfl)) ?_
                    refine r_yg rfl h52 rfl (y_iop rfl rfl rfl) ?_
                    refine r_y rfl rfl (y_pickt rfl h52 rfl) ?_
                    refine r_y rfl rfl (y_move rfl) ?_
                    refine r_split (j := 6) rfl (fun h53 => ?_) (fun h53 => ?_)
                    ·
                      refine r_yg rfl h53 rfl (y_move rfl) ?_
                      refine r_y rfl rfl (y_pickt rfl h53 rfl) ?_
                      refine r_y rfl rfl (y_move rfl) ?_
                      refine r_no' rfl rfl rfl ?_
                      refine r_no' rfl rfl rfl ?_
                      refine r_no' rfl rfl rfl ?_
                      refine r_no' rfl rfl rfl ?_
                      refine r_y rfl rfl (y_pickf rfl rfl rfl) ?_
                      refine r_y rfl rfl (y_move rfl) ?_
                      refine r_no' rfl rfl rfl ?_
                      refine r_no' rfl rfl rfl ?_
                      refine r_no' rfl rfl rfl ?_
                      refine r_y rfl rfl (y_pickf rfl rfl rfl) ?_
                      refine r_y rfl rfl (y_assign rfl) ?_
                      refine r_nil ?_
                      refine hK35 _ _ _ ?_
                      clear hK35 K35
                      refine c_ret ?_
                      refine e_ret 1 hm (res_tmps rfl) ?_
                      refine ⟨congrArg Value.bool ?_, rfl⟩
                      try clear hx
                      clear hz hm
                      unfold msgSound msgBody
                      simp_all [msgEmpty, ceq_head]
                      all_goals (first | omega | (rw [Bool.eq_iff_iff]; simp; omega))
                    ·
                      refine r_no' rfl rfl h53 ?_
                      refine r_y rfl rfl (y_pickf rfl h53 rfl) ?_
                      refine r_y rfl rfl (y_move rfl) ?_
                      refine r_no' rfl rfl rfl ?_
                      refine r_no' rfl rfl rfl ?_
                      refine r_no' rfl rfl rfl ?_
                      refine r_no' rfl rfl rfl ?_
                      refine r_y rfl rfl (y_pickf rfl rfl rfl) ?_
                      refine r_y rfl rfl (y_move rfl) ?_
                      refine r_no' rfl rfl rfl ?_
                      refine r_no' rfl rfl rfl ?_
                      refine r_no' rfl rfl rfl ?_
                      refine r_y rfl rfl (y_pickf rfl rfl rfl) ?_
                      refine r_y rfl rfl (y_assign rfl) ?_
                      refine r_nil ?_
                      refine hK35 _ _ _ ?_
                      clear hK35 K35
                      refine c_ret ?_
                      refine e_ret 1 hm (res_tmps rfl) ?_
                      refine ⟨congrArg Value.bool ?_, rfl⟩
                      try clear hx
                      clear hz hm
                      unfold msgSound msgBody
                      simp_all [msgEmpty, ceq_head]
                      all_goals (first | omega | (rw [Bool.eq_iff_iff]; simp; omega))
                  ·
                    refine r_no' rfl rfl h52 ?_
                    refine r_no' rfl rfl h52 ?_
                    refine r_no' rfl rfl h52 ?_
                    refine r_y rfl rfl (y_pickf rfl h52 rfl) ?_
                    refine r_y rfl rfl (y_move rfl) ?_
                    refine r_no' rfl rfl rfl ?_
                    refine r_y rfl rfl (y_pickf rfl rfl rfl) ?_
                    refine r_y rfl rfl (y_move rfl) ?_
                    refine r_no' rfl rfl rfl ?_
                    refine r_no' rfl rfl rfl ?_
                    refine r_no' rfl rfl rfl ?_
                    refine r_no' rfl rfl rfl ?_
                    refine r_y rfl rfl (y_pickf rfl rfl rfl) ?_
                    refine r_y rfl rfl (y_move rfl) ?_
                    refine r_no' rfl rfl rfl ?_
                    refine r_no' rfl rfl rfl ?_
                    refine r_no' rfl rfl rfl ?_
                    refine r_y rfl rfl (y_pickf rfl rfl rfl) ?_
                    refine r_y rfl rfl (y_assign rfl) ?_
                    refine r_nil ?_
                    refine hK35 _ _ _ ?_
                    clear hK35 K35
                    refine c_ret ?_
                    refine e_ret 1 hm (res_tmps rfl) ?_
                    refine ⟨congrArg Value.bool ?_, rfl⟩
                    try clear hx
                    clear hz hm
                    unfold msgSound msgBody
                    simp_all [msgEmpty, ceq_head]
                    all_goals (first | omega | (rw [Bool.eq_iff_iff]; simp; omega))
                ·
                  refine c_skip ?_
                  refine hK24 _ _ _ ?_
                  clear hK24 K24
                  refine c_seq (fun K36 hK36 => ?_)
                  refine c_region ?_
                  refine r_y rfl rfl (y_move rfl) ?_
                  refine r_y rfl rfl (y_move rfl) ?_
                  refine r_split (j := 1) rfl (fun h54 => ?_) (fun h54 => ?_)
                  ·
                    refine r_yg rfl h54 rfl (y_fieldAddr rfl At.lit fo35_2 rfl) ?_
                    refine r_yg rfl h54 rfl (y_load_s rfl ts24 (RdS.blk (i := 0) rfl rfl)) ?_
                    refine r_yg rfl h54 rfl (y_iop rfl rfl rfl) ?_
                    refine r_y rfl rfl (y_pickt rfl h54 rfl) ?_
                    refine r_y rfl rfl (y_move rfl) ?_
                    refine r_split (j := 6) rfl (fun h55 => ?_) (fun h55 => ?_)
                    ·
                      refine r_yg rfl h55 rfl (y_move rfl) ?_
                      refine r_y rfl rfl (y_pickt rfl h55 rfl) ?_
                      refine r_y rfl rfl (y_move rfl) ?_
                      refine r_no' rfl rfl rfl ?_
                      refine r_no' rfl rfl rfl ?_
                      refine r_no' rfl rfl rfl ?_
                      refine r_no' rfl rfl rfl ?_
                      refine r_y rfl rfl (y_pickf rfl rfl rfl) ?_
                      refine r_y rfl rfl (y_move rfl) ?_
                      refine r_no' rfl rfl rfl ?_
                      refine r_no' rfl rfl rfl ?_
                      refine r_no' rfl rfl rfl ?_
                      refine r_y rfl rfl (y_pickf rfl rfl rfl) ?_
                      refine r_y rfl rfl (y_move rfl) ?_
                      refine r_no' rfl rfl rfl ?_
                      refine r_no' rfl rfl rfl ?_
                      refine r_no' rfl rfl rfl ?_
                      refine r_y rfl rfl (y_pickf rfl rfl rfl) ?_
                      refine r_y rfl rfl (y_assign rfl) ?_
                      refine r_nil ?_
                      refine hK36 _ _ _ ?_
                      clear hK36 K36
                      refine c_ret ?_
                      refine e_ret 1 hm (res_tmps rfl) ?_
                      refine ⟨congrArg Value.bool ?_, rfl⟩
                      try clear hx
                      clear hz hm
                      unfold msgSound msgBody
                      simp_all [msgEmpty, ceq_head]
                      all_goals (first | omega | (rw [Bool.eq_iff_iff]; simp; omega))
                    ·
                      refine r_no' rfl rfl h55 ?_
                      refine r_y rfl rfl (y_pickf rfl h55 rfl) ?_
                      refine r_y rfl rfl (y_move rfl) ?_
                      refine r_no' rfl rfl rfl ?_
                      refine r_no' rfl rfl rfl ?_
                      refine r_no' rfl rfl rfl ?_
                      refine r_no' rfl rfl rfl ?_
                      refine r_y rfl rfl (y_pickf rfl rfl rfl) ?_
                      refine r_y rfl rfl (y_move rfl) ?_
                      refine r_no' rfl rfl rfl ?_
                      refine r_no' rfl rfl rfl ?_
                      refine r_no' rfl rfl rfl ?_
                      refine r_y rfl rfl (y_pickf rfl rfl rfl) ?_
                      refine r_y rfl rfl (y_move rfl) ?_
                      refine r_no' rfl rfl rfl ?_
                      refine r_no' rfl rfl rfl ?_
                      refine r_no' rfl rfl rfl ?_
                      refine r_y rfl rfl (y_pickf rfl rfl rfl) ?_
                      refine r_y rfl rfl (y_assign rfl) ?_
                      refine r_nil ?_
                      refine hK36 _ _ _ ?_
                      clear hK36 K36
                      refine c_ret ?_
                      refine e_ret 1 hm (res_tmps rfl) ?_
                      refine ⟨congrArg Value.bool ?_, rfl⟩
                      try clear hx
                      clear hz hm
                      unfold msgSound msgBody
                      simp_all [msgEmpty, ceq_head]
                      all_goals (first | omega | (rw [Bool.eq_iff_iff]; simp; omega))
                  ·
                    refine r_no' rfl rfl h54 ?_
                    refine r_no' rfl rfl h54 ?_
                    refine r_no' rfl rfl h54 ?_
                    refine r_y rfl rfl (y_pickf rfl h54 rfl) ?_
                    refine r_y rfl rfl (y_move rfl) ?_
                    refine r_no' rfl rfl rfl ?_
                    refine r_y rfl rfl (y_pickf rfl rfl rfl) ?_
                    refine r_y rfl rfl (y_move rfl) ?_
                    refine r_no' rfl rfl rfl ?_
                    refine r_no' rfl rfl rfl ?_
                    refine r_no' rfl rfl rfl ?_
                    refine r_no' rfl rfl rfl ?_
                    refine r_y rfl rfl (y_pickf rfl rfl rfl) ?_
                    refine r_y rfl rfl (y_move rfl) ?_
                    refine r_no' rfl rfl rfl ?_
                    refine r_no' rfl rfl rfl ?_
                    refine r_no' rfl rfl rfl ?_
                    refine r_y rfl rfl (y_pickf rfl rfl rfl) ?_
                    refine r_y rfl rfl (y_move rfl) ?_
                    refine r_no' rfl rfl rfl ?_
                    refine r_no' rfl rfl rfl ?_
                    refine r_no' rfl rfl rfl ?_
                    refine r_y rfl rfl (y_pickf rfl rfl rfl) ?_
                    refine r_y rfl rfl (y_assign rfl) ?_
                    refine r_nil ?_
                    refine hK36 _ _ _ ?_
                    clear hK36 K36
                    refine c_ret ?_
                    refine e_ret 1 hm (res_tmps rfl) ?_
                    refine ⟨congrArg Value.bool ?_, rfl⟩
                    try clear hx
                    clear hz hm
                    unfold msgSound msgBody
                    simp_all [msgEmpty, ceq_head]
                    all_goals (first | omega | (rw [Bool.eq_iff_iff]; simp; omega))
end Go.Aw
