/- Part 9 of the words and walks that the proof behind it uses. -/
import Derived.Test.YtnmhkhobjaklhaaCodeSameP8
set_option linter.unusedVariables false
set_option linter.unusedSimpArgs false
namespace Go.Aw
open Go Go.Proofs
theorem tl39 : tslice Try.prog 39 = some (35, 48) := by kernel_rfl
set_option maxRecDepth 100000 in
theorem rSameMsgs_w (s1 s2 : Sl) (l1 l2 : List MsgS) (m : Snap) (H : Hp) (hz1 : FzMs m s1 l1) (hz2 : FzMs m s2 l2) : Fn Try.prog 20 [s1.v, s2.v] m H (fun v _ H' => v = .bool (decide (l1.map (·.x) = l2.map (·.x))) ∧ H' = H) := by
  have hm : m.le m := Snap.le.refl m
  refine fn_end Try.func20 rfl rfl rfl ?_
  refine c_seq (fun K0 hK0 => ?_)
  refine c_region ?_
  refine r_y rfl rfl (y_assign rfl) ?_
  refine r_nil ?_
  refine hK0 _ _ _ ?_
  clear hK0 K0
  refine c_seq (fun K1 hK1 => ?_)
  refine c_seq (fun K2 hK2 => ?_)
  refine c_region ?_
  refine r_y rfl rfl (y_move rfl) ?_
  refine r_y rfl rfl (y_len tl39 rfl) ?_
  refine r_y rfl rfl (y_move rfl) ?_
  refine r_y rfl rfl (y_len tl39 rfl) ?_
  refine r_y rfl rfl (y_iop rfl rfl rfl) ?_
  refine r_nil ?_
  refine hK2 _ _ _ ?_
  clear hK2 K2
  refine c_cond rfl (fun h0 => ?_) (fun h0 => ?_)
  ·
    refine c_seq (fun K3 hK3 => ?_)
    refine c_region ?_
    refine r_y rfl rfl (y_assign rfl) ?_
    refine r_nil ?_
    refine hK3 _ _ _ ?_
    clear hK3 K3
    refine c_ret ?_
    refine e_ret 0 hm (res_tmps rfl) ?_
    refine ⟨congrArg Value.bool ?_, rfl⟩
    have hl1 := hz1.len; have hl2 := hz2.len
    have : s1.n ≠ s2.n := by simp at h0; omega
    exact (decide_eq_false (by intro e; have := congrArg List.length e; simp at this; omega)).symm
  ·
    have hl1 := hz1.len
    have hl2 := hz2.len
    have hne : s1.n = s2.n := by simp at h0; omega
    have hmx := hz1.fz.max
    have hle := hz1.fz.le
    unfold maxLen at hmx
    refine c_skip ?_
    refine hK1 _ _ _ ?_
    clear hK1 K1
    refine c_seq (fun K4 hK4 => ?_)
    refine c_seq (fun K5 hK5 => ?_)
    refine c_region ?_
    refine r_y rfl rfl (y_assign rfl) ?_
    refine r_nil ?_
    refine hK5 _ _ _ ?_
    clear hK5 K5
    refine c_block ?_
    refine c_loopx (α := Nat) (fun i => [(0, s1.v), (1, s2.v), (5, .int .i64 (i : Nat))]) (fun i => H) (fun k0 i m1 => (i + k0 = s1.n ∧ (l1.map (·.x)).take i = (l2.map (·.x)).take i) ∧ m.le m1 ∧ (FzMs m1 s1 l1) ∧ (FzMs m1 s2 l2)) (s1.n) 0 ⟨rfl, rfl, rfl, trivial⟩ rfl ⟨⟨by omega, rfl⟩, hm, hz1, hz2⟩ ?_
    clear hm hz1 hz2
    rintro k0 i m1 ⟨hi0, hm, hz1, hz2⟩
    obtain ⟨hi, hinv⟩ := hi0
    refine c_seq (fun K6 hK6 => ?_)
    refine c_seq (fun K7 hK7 => ?_)
    refine c_region ?_
    refine r_y rfl rfl (y_move rfl) ?_
    refine r_y rfl rfl (y_move rfl) ?_
    refine r_y rfl rfl (y_len tl39 rfl) ?_
    refine r_y rfl rfl (y_iop rfl rfl rfl) ?_
    refine r_nil ?_
    refine hK7 _ _ _ ?_
    clear hK7 K7
    refine c_cond rfl (fun h1 => ?_) (fun h1 => ?_)
    ·
      have hlt1 : i < s1.n := by simp at h1; omega
      have hlt2 : i < s2.n := by omega
      obtain ⟨x1, hx1⟩ := get_of_lt (l := l1) (k := i) (by omega)
      obtain ⟨x2, hx2⟩ := get_of_lt (l := l2) (k := i) (by omega)
      have hy1 : (l1.map (·.x))[i]? = some x1.x := map_get hx1
      have hy2 : (l2.map (·.x))[i]? = some x2.x := map_get hx2
      refine c_skip ?_
      refine hK6 _ _ _ ?_
      clear hK6 K6
      refine c_seq (fun K8 hK8 => ?_)
      refine c_block ?_
      refine c_seq (fun K9 hK9 => ?_)
      refine c_draw ([]) (by kernel_rfl) (fun hg => ?_)
      have hz1_g := hz1
      have hz2_g := hz2
      refine g_y (i := 0) (listed' := #[true, false, false, false, false, false, false, false, false, false, false, false]) rfl (by kernel_rfl) (by kernel_rfl) (by kernel_rfl) (by kernel_rfl) rfl rfl hg alln (fun m' H' hm' hX' => y_move rfl) ?_
      refine g_y (i := 1) (listed' := #[true, true, false, false, false, false, false, false, false, false, false, false]) rfl (by kernel_rfl) (by kernel_rfl) (by kernel_rfl) (by kernel_rfl) rfl rfl hg alln (fun m' H' hm' hX' => y_move rfl) ?_
      refine g_y (i := 2) (listed' := #[true, true, true, false, false, false, false, false, false, false, false, false]) rfl (by kernel_rfl) (by kernel_rfl) (by kernel_rfl) (by kernel_rfl) rfl rfl hg alln (fun m' H' hm' hX' => y_indexAddr_slice rfl rfl tl39 hlt1 (At.fz (hz1_g.fz.mono hm') hlt1)) ?_
      refine g_y (i := 3) (listed' := #[true, true, true, true, false, false, false, false, false, false, false, false]) rfl (by kernel_rfl) (by kernel_rfl) (by kernel_rfl) (by kernel_rfl) rfl rfl hg alln (fun m' H' hm' hX' => y_load_a rfl ts35 (RdA.fz0 (hz1_g.fz.mono hm') (map_get hx1))) ?_
      refine g_y (i := 4) (listed' := #[true, true, true, true, true, false, false, false, false, false, false, false]) rfl (by kernel_rfl) (by kernel_rfl) (by kernel_rfl) (by kernel_rfl) rfl rfl hg alln (fun m' H' hm' hX' => y_move rfl) ?_
      refine g_y (i := 5) (listed' := #[true, true, true, true, true, true, false, false, false, false, false, false]) rfl (by kernel_rfl) (by kernel_rfl) (by kernel_rfl) (by kernel_rfl) rfl rfl hg alln (fun m' H' hm' hX' => y_move rfl) ?_
      refine g_y (i := 6) (listed' := #[true, true, true, true, true, true, true, false, false, false, false, false]) rfl (by kernel_rfl) (by kernel_rfl) (by kernel_rfl) (by kernel_rfl) rfl rfl hg alln (fun m' H' hm' hX' => y_indexAddr_slice rfl rfl tl39 hlt2 (At.fz (hz2_g.fz.mono hm') hlt2)) ?_
      refine g_y (i := 7) (listed' := #[true, true, true, true, true, true, true, true, false, false, false, false]) rfl (by kernel_rfl) (by kernel_rfl) (by kernel_rfl) (by kernel_rfl) rfl rfl hg alln (fun m' H' hm' hX' => y_load_a rfl ts35 (RdA.fz0 (hz2_g.fz.mono hm') (map_get hx2))) ?_
      refine g_each (rs := [8, 9]) (by kernel_rfl) (by simp) ⟨⟨_, rfl, rfl, ?_⟩, ⟨_, rfl, rfl, ?_⟩, trivial⟩
      ·
        refine s_alloc rfl tz35 (fun b0 => ?_)
        refine ⟨⟨hg, alln⟩, ?_⟩
        refine g_s (i := 9) (listed' := #[true, true, true, true, true, true, true, true, true, true, false, false]) rfl (by kernel_rfl) (by kernel_rfl) rfl ?_
        refine s_alloc rfl tz35 (fun b1 => ?_)
        refine ⟨⟨hg, alln⟩, ?_⟩
        refine g_s (i := 10) (listed' := #[true, true, true, true, true, true, true, true, true, true, true, false]) rfl (by kernel_rfl) (by kernel_rfl) rfl ?_
        refine s_store (us := encMsg x1.x x1.sm x1.sr) rfl rfl rfl ts35 rfl rfl (one_msg _ _ _) (i := 1) rfl rfl ?_
        refine ⟨⟨hg, alln⟩, ?_⟩
        refine g_s (i := 11) (listed' := #[true, true, true, true, true, true, true, true, true, true, true, true]) rfl (by kernel_rfl) (by kernel_rfl) rfl ?_
        refine s_store (us := encMsg x2.x x2.sm x2.sr) rfl rfl rfl ts35 rfl rfl (one_msg _ _ _) (i := 0) rfl rfl ?_
        refine ⟨⟨hg, alln⟩, ?_⟩
        refine g_done (by kernel_rfl) ?_
        clear hg hz1_g hz2_g
        refine hK9 _ _ _ ?_
        clear hK9 K9
        refine c_seq (fun K10 hK10 => ?_)
        refine c_region ?_
        refine r_y rfl rfl (y_fieldAddr rfl At.lit fo35_0 rfl) ?_
        refine r_y rfl rfl (y_load_s rfl ts3 (RdS.blk (i := 1) rfl rfl)) ?_
        refine r_y rfl rfl (y_fieldAddr rfl At.lit fo35_0 rfl) ?_
        refine r_y rfl rfl (y_load_s rfl ts3 (RdS.blk (i := 0) rfl rfl)) ?_
        refine r_y rfl rfl (y_iop rfl rfl rfl) ?_
        refine r_y rfl rfl (y_move rfl) ?_
        refine r_split (j := 5) rfl (fun h2 => ?_) (fun h2 => ?_)
        ·
          refine r_no' rfl rfl h2 ?_
          refine r_no' rfl rfl h2 ?_
          refine r_no' rfl rfl h2 ?_
          refine r_no' rfl rfl h2 ?_
          refine r_no' rfl rfl h2 ?_
          refine r_y rfl rfl (y_pickt rfl h2 rfl) ?_
          refine r_y rfl rfl (y_move rfl) ?_
          refine r_no' rfl rfl rfl ?_
          refine r_no' rfl rfl rfl ?_
          refine r_no' rfl rfl rfl ?_
          refine r_no' rfl rfl rfl ?_
          refine r_no' rfl rfl rfl ?_
          refine r_y rfl rfl (y_pickt rfl rfl rfl) ?_
          refine r_y rfl rfl (y_move rfl) ?_
          refine r_no' rfl rfl rfl ?_
          refine r_no' rfl rfl rfl ?_
          refine r_no' rfl rfl rfl ?_
          refine r_no' rfl rfl rfl ?_
          refine r_no' rfl rfl rfl ?_
          refine r_no' rfl rfl rfl ?_
          refine r_y rfl rfl (y_pickt rfl rfl rfl) ?_
          refine r_y rfl rfl (y_move rfl) ?_
          refine r_no' rfl rfl rfl ?_
          refine r_no' rfl rfl rfl ?_
          refine r_no' rfl rfl rfl ?_
          refine r_no' rfl rfl rfl ?_
          refine r_no' rfl rfl rfl ?_
          refine r_y rfl rfl (y_pickt rfl rfl rfl) ?_
          refine r_y rfl rfl (y_move rfl) ?_
          refine r_no' rfl rfl rfl ?_
          refine r_no' rfl rfl rfl ?_
          refine r_no' rfl rfl rfl ?_
          refine r_no' rfl rfl rfl ?_
          refine r_no' rfl rfl rfl ?_
          refine r_y rfl rfl (y_pickt rfl rfl rfl) ?_
          refine r_y rfl rfl (y_move rfl) ?_
          refine r_no' rfl rfl rfl ?_
          refine r_no' rfl rfl rfl ?_
          refine r_no' rfl rfl rfl ?_
          refine r_no' rfl rfl rfl ?_
          refine r_no' rfl rfl rfl ?_
          refine r_no' rfl rfl rfl ?_
          refine r_y rfl rfl (y_pickt rfl rfl rfl) ?_
          refine r_nil ?_
          refine hK10 _ _ _ ?_
          clear hK10 K10
          refine c_ift rfl rfl ?_
          refine c_seq (fun K11 hK11 => ?_)
          refine c_region ?_
          refine r_y rfl rfl (y_assign rfl) ?_
          refine r_nil ?_
          refine hK11 _ _ _ ?_
          clear hK11 K11
          refine c_ret ?_
          refine e_ret 2 hm (res_tmps rfl) ?_
          refine ⟨congrArg Value.bool ?_, rfl⟩
          refine (decide_eq_false ?_).symm
          have hr1 := (hz1.ok x1 (List.mem_of_getElem? hx1)).eq
          have hr2 := (hz2.ok x2 (List.mem_of_getElem? hx2)).eq
          intro e
          have hxx : x1.x = x2.x := by rw [e, hy2] at hy1; exact (Option.some.inj hy1).symm
          have hr : x1.lr.map (·.1) = x2.lr.map (·.1) := by rw [← hr1, ← hr2, hxx]
          clear e hy1 hy2 hx1 hx2 hinv hr1 hr2 hz1 hz2
          simp_all [ceq_head]
        ·
          refine r_yg rfl h2 rfl (y_fieldAddr rfl At.lit fo35_1 rfl) ?_
          refine r_yg rfl h2 rfl (y_load_s rfl ts3 (RdS.blk (i := 1) rfl rfl)) ?_
          refine r_yg rfl h2 rfl (y_fieldAddr rfl At.lit fo35_1 rfl) ?_
          refine r_yg rfl h2 rfl (y_load_s rfl ts3 (RdS.blk (i := 0) rfl rfl)) ?_
          refine r_yg rfl h2 rfl (y_iop rfl rfl rfl) ?_
          refine r_y rfl rfl (y_pickf rfl h2 rfl) ?_
          refine r_y rfl rfl (y_move rfl) ?_
          refine r_split (j := 12) rfl (fun h3 => ?_) (fun h3 => ?_)
          ·
            refine r_no' rfl rfl h3 ?_
            refine r_no' rfl rfl h3 ?_
            refine r_no' rfl rfl h3 ?_
            refine r_no' rfl rfl h3 ?_
            refine r_no' rfl rfl h3 ?_
            refine r_y rfl rfl (y_pickt rfl h3 rfl) ?_
            refine r_y rfl rfl (y_move rfl) ?_
            refine r_no' rfl rfl rfl ?_
            refine r_no' rfl rfl rfl ?_
            refine r_no' rfl rfl rfl ?_
            refine r_no' rfl rfl rfl ?_
            refine r_no' rfl rfl rfl ?_
            refine r_no' rfl rfl rfl ?_
            refine r_y rfl rfl (y_pickt rfl rfl rfl) ?_
            refine r_y rfl rfl (y_move rfl) ?_
            refine r_no' rfl rfl rfl ?_
            refine r_no' rfl rfl rfl ?_
            refine r_no' rfl rfl rfl ?_
            refine r_no' rfl rfl rfl ?_
            refine r_no' rfl rfl rfl ?_
            refine r_y rfl rfl (y_pickt rfl rfl rfl) ?_
            refine r_y rfl rfl (y_move rfl) ?_
            refine r_no' rfl rfl rfl ?_
            refine r_no' rfl rfl rfl ?_
            refine r_no' rfl rfl rfl ?_
            refine r_no' rfl rfl rfl ?_
            refine r_no' rfl rfl rfl ?_
            refine r_y rfl rfl (y_pickt rfl rfl rfl) ?_
            refine r_y rfl rfl (y_move rfl) ?_
            refine r_no' rfl rfl rfl ?_
            refine r_no' rfl rfl rfl ?_
            refine r_no' rfl rfl rfl ?_
            refine r_no' rfl rfl rfl ?_
            refine r_no' rfl rfl rfl ?_
            refine r_no' rfl rfl rfl ?_
            refine r_y rfl rfl (y_pickt rfl rfl rfl) ?_
            refine r_nil ?_
            refine hK10 _ _ _ ?_
            clear hK10 K10
            refine c_ift rfl rfl ?_
            refine c_seq (fun K12 hK12 => ?_)
            refine c_region ?_
            refine r_y rfl rfl (y_assign rfl) ?_
            refine r_nil ?_
            refine hK12 _ _ _ ?_
            clear hK12 K12
            refine c_ret ?_
            refine e_ret 2 hm (res_tmps rfl) ?_
            refine ⟨congrArg Value.bool ?_, rfl⟩
            refine (decide_eq_false ?_).symm
            have hr1 := (hz1.ok x1 (List.mem_of_getElem? hx1)).eq
            have hr2 := (hz2.ok x2 (List.mem_of_getElem? hx2)).eq
            intro e
            have hxx : x1.x = x2.x := by rw [e, hy2] at hy1; exact (Option.some.inj hy1).symm
            have hr : x1.lr.map (·.1) = x2.lr.map (·.1) := by rw [← hr1, ← hr2, hxx]
            clear e hy1 hy2 hx1 hx2 hinv hr1 hr2 hz1 hz2
            simp_all [ceq_head]
          ·
            refine r_yg rfl h3 rfl (y_fieldAddr rfl At.lit fo35_2 rfl) ?_
            refine r_yg rfl h3 rfl (y_load_s rfl ts24 (RdS.blk (i := 1) rfl rfl)) ?_
            refine r_yg rfl h3 rfl (y_fieldAddr rfl At.lit fo35_2 rfl) ?_
            refine r_yg rfl h3 rfl (y_load_s rfl ts24 (RdS.blk (i := 0) rfl rfl)) ?_
            refine r_yg rfl h3 rfl (y_iop rfl rfl rfl) ?_
            refine r_y rfl rfl (y_pickf rfl h3 rfl) ?_
            refine r_y rfl rfl (y_move rfl) ?_
            refine r_split (j := 19) rfl (fun h4 => ?_) (fun h4 => ?_)
            ·
              refine r_no' rfl rfl h4 ?_
              refine r_no' rfl rfl h4 ?_
              refine r_no' rfl rfl h4 ?_
              refine r_no' rfl rfl h4 ?_
              refine r_no' rfl rfl h4 ?_
              refine r_no' rfl rfl h4 ?_
              refine r_y rfl rfl (y_pickt rfl h4 rfl) ?_
              refine r_y rfl rfl (y_move rfl) ?_
              refine r_no' rfl rfl rfl ?_
              refine r_no' rfl rfl rfl ?_
              refine r_no' rfl rfl rfl ?_
              refine r_no' rfl rfl rfl ?_
              refine r_no' rfl rfl rfl ?_
              refine r_y rfl rfl (y_pickt rfl rfl rfl) ?_
              refine r_y rfl rfl (y_move rfl) ?_
              refine r_no' rfl rfl rfl ?_
              refine r_no' rfl rfl rfl ?_
              refine r_no' rfl rfl rfl ?_
              refine r_no' rfl rfl rfl ?_
              refine r_no' rfl rfl rfl ?_
              refine r_y rfl rfl (y_pickt rfl rfl rfl) ?_
              refine r_y rfl rfl (y_move rfl) ?_
              refine r_no' rfl rfl rfl ?_
              refine r_no' rfl rfl rfl ?_
              refine r_no' rfl rfl rfl ?_
              refine r_no' rfl rfl rfl ?_
              refine r_no' rfl rfl rfl ?_
              refine r_no' rfl rfl rfl ?_
              refine r_y rfl rfl (y_pickt rfl rfl rfl) ?_
              refine r_nil ?_
              refine hK10 _ _ _ ?_
              clear hK10 K10
              refine c_ift rfl rfl ?_
              refine c_seq (fun K13 hK13 => ?_)
              refine c_region ?_
              refine r_y rfl rfl (y_assign rfl) ?_
              refine r_nil ?_
              refine hK13 _ _ _ ?_
              clear hK13 K13
              refine c_ret ?_
              refine e_ret 2 hm (res_tmps rfl) ?_
              refine ⟨congrArg Value.bool ?_, rfl⟩
              refine (decide_eq_false ?_).symm
              have hr1 := (hz1.ok x1 (List.mem_of_getElem? hx1)).eq
              have hr2 := (hz2.ok x2 (List.mem_of_getElem? hx2)).eq
              intro e
              have hxx : x1.x = x2.x := by rw [e, hy2] at hy1; exact (Option.some.inj hy1).symm
              have hr : x1.lr.map (·.1) = x2.lr.map (·.1) := by rw [← hr1, ← hr2, hxx]
              clear e hy1 hy2 hx1 hx2 hinv hr1 hr2 hz1 hz2
              simp_all [ceq_head]
            ·
              refine r_yg rfl h4 rfl (y_fieldAddr rfl At.lit fo35_3 rfl) ?_
              refine r_yg rfl h4 rfl (y_load_a (cs := encMod x1.x.mod x1.sm) rfl ts32 (RdA.blk (i := 1) rfl rfl)) ?_
              refine r_yg rfl h4 rfl (y_fieldAddr rfl At.lit fo35_3 rfl) ?_
              refine r_yg rfl h4 rfl (y_load_a (cs := encMod x2.x.mod x2.sm) rfl ts32 (RdA.blk (i := 0) rfl rfl)) ?_
              refine r_sg rfl h4 ?_
              refine s_call0 rfl Try.call40 rfl (rSameMods_w x1.x.mod x2.x.mod x1.sm x2.sm _ _ (hz1.ok x1 (List.mem_of_getElem? hx1)).mod (hz2.ok x2 (List.mem_of_getElem? hx2)).mod) ?_
              rintro _ m2 _ hm2 ⟨rfl, rfl⟩
              replace hm := hm.trans hm2
              replace hz1 := hz1.mono hm2
              replace hz2 := hz2.mono hm2
              clear hm2
              refine r_yg rfl h4 rfl (y_not rfl) ?_
              refine r_y rfl rfl (y_pickf rfl h4 rfl) ?_
              refine r_y rfl rfl (y_move rfl) ?_
              refine r_split (j := 27) rfl (fun h5 => ?_) (fun h5 => ?_)
              ·
                refine r_no' rfl rfl h5 ?_
                refine r_no' rfl rfl h5 ?_
                refine r_no' rfl rfl h5 ?_
                refine r_no' rfl rfl h5 ?_
                refine r_no' rfl rfl h5 ?_
                refine r_y rfl rfl (y_pickt rfl h5 rfl) ?_
                refine r_y rfl rfl (y_move rfl) ?_
                refine r_no' rfl rfl rfl ?_
                refine r_no' rfl rfl rfl ?_
                refine r_no' rfl rfl rfl ?_
                refine r_no' rfl rfl rfl ?_
                refine r_no' rfl rfl rfl ?_
                refine r_y rfl rfl (y_pickt rfl rfl rfl) ?_
                refine r_y rfl rfl (y_move rfl) ?_
                refine r_no' rfl rfl rfl ?_
                refine r_no' rfl rfl rfl ?_
                refine r_no' rfl rfl rfl ?_
                refine r_no' rfl rfl rfl ?_
                refine r_no' rfl rfl rfl ?_
                refine r_no' rfl rfl rfl ?_
                refine r_y rfl rfl (y_pickt rfl rfl rfl) ?_
                refine r_nil ?_
                refine hK10 _ _ _ ?_
                clear hK10 K10
                refine c_ift rfl rfl ?_
                refine c_seq (fun K14 hK14 => ?_)
                refine c_region ?_
                refine r_y rfl rfl (y_assign rfl) ?_
                refine r_nil ?_
                refine hK14 _ _ _ ?_
                clear hK14 K14
                refine c_ret ?_
                refine e_ret 2 hm (res_tmps rfl) ?_
                refine ⟨congrArg Value.bool ?_, rfl⟩
                refine (decide_eq_false ?_).symm
                have hr1 := (hz1.ok x1 (List.mem_of_getElem? hx1)).eq
                have hr2 := (hz2.ok x2 (List.mem_of_getElem? hx2)).eq
                intro e
                have hxx : x1.x = x2.x := by rw [e, hy2] at hy1; exact (Option.some.inj hy1).symm
                have hr : x1.lr.map (·.1) = x2.lr.map (·.1) := by rw [← hr1, ← hr2, hxx]
                clear e hy1 hy2 hx1 hx2 hinv hr1 hr2 hz1 hz2
                simp_all [ceq_head]
              ·
                refine r_yg rfl h5 rfl (y_fieldAddr rfl At.lit fo35_4 rfl) ?_
                refine r_yg rfl h5 rfl (y_load_s rfl ts3 (RdS.blk (i := 1) rfl rfl)) ?_
                refine r_yg rfl h5 rfl (y_fieldAddr rfl At.lit fo35_4 rfl) ?_
                refine r_yg rfl h5 rfl (y_load_s rfl ts3 (RdS.blk (i := 0) rfl rfl)) ?_
                refine r_yg rfl h5 rfl (y_iop rfl rfl rfl) ?_
                refine r_y rfl rfl (y_pickf rfl h5 rfl) ?_
                refine r_y rfl rfl (y_move rfl) ?_
                refine r_split (j := 34) rfl (fun h6 => ?_) (fun h6 => ?_)
                ·
                  refine r_no' rfl rfl h6 ?_
                  refine r_no' rfl rfl h6 ?_
                  refine r_no' rfl rfl h6 ?_
                  refine r_no' rfl rfl h6 ?_
                  refine r_no' rfl rfl h6 ?_
                  refine r_y rfl rfl (y_pickt rfl h6 rfl) ?_
                  refine r_y rfl rfl (y_move rfl) ?_
                  refine r_no' rfl rfl rfl ?_
                  refine r_no' rfl rfl rfl ?_
                  refine r_no' rfl rfl rfl ?_
                  refine r_no' rfl rfl rfl ?_
                  refine r_no' rfl rfl rfl ?_
                  refine r_no' rfl rfl rfl ?_
                  refine r_y rfl rfl (y_pickt rfl rfl rfl) ?_
                  refine r_nil ?_
                  refine hK10 _ _ _ ?_
                  clear hK10 K10
                  refine c_ift rfl rfl ?_
                  refine c_seq (fun K15 hK15 => ?_)
                  refine c_region ?_
                  refine r_y rfl rfl (y_assign rfl) ?_
                  refine r_nil ?_
                  refine hK15 _ _ _ ?_
                  clear hK15 K15
                  refine c_ret ?_
                  refine e_ret 2 hm (res_tmps rfl) ?_
                  refine ⟨congrArg Value.bool ?_, rfl⟩
                  refine (decide_eq_false ?_).symm
                  have hr1 := (hz1.ok x1 (List.mem_of_getElem? hx1)).eq
                  have hr2 := (hz2.ok x2 (List.mem_of_getElem? hx2)).eq
                  intro e
                  have hxx : x1.x = x2.x := by rw [e, hy2] at hy1; exact (Option.some.inj hy1).symm
                  have hr : x1.lr.map (·.1) = x2.lr.map (·.1) := by rw [← hr1, ← hr2, hxx]
                  clear e hy1 hy2 hx1 hx2 hinv hr1 hr2 hz1 hz2
                  simp_all [ceq_head]
                ·
                  refine r_yg rfl h6 rfl (y_fieldAddr rfl At.lit fo35_5 rfl) ?_
                  refine r_yg rfl h6 rfl (y_load_a (cs := encHead x1.x.head) rfl ts27 (RdA.blk (i := 1) rfl rfl)) ?_
                  refine r_yg rfl h6 rfl (y_fieldAddr rfl At.lit fo35_5 rfl) ?_
                  refine r_yg rfl h6 rfl (y_load_a (cs := encHead x2.x.head) rfl ts27 (RdA.blk (i := 0) rfl rfl)) ?_
                  refine r_yg rfl h6 rfl (y_neagg (dd := 6)  rfl rfl en27 ia27 rfl Try.eqGuardType27 rfl (alike_head _ _)) ?_
                  refine r_y rfl rfl (y_pickf rfl h6 rfl) ?_
                  refine r_y rfl rfl (y_move rfl) ?_
                  refine r_split (j := 41) rfl (fun h7 => ?_) (fun h7 => ?_)
                  ·
                    refine r_no' rfl rfl h7 ?_
                    refine r_no' rfl rfl h7 ?_
                    refine r_no' rfl rfl h7 ?_
                    refine r_no' rfl rfl h7 ?_
                    refine r_no' rfl rfl h7 ?_
                    refine r_no' rfl rfl h7 ?_
                    refine r_y rfl rfl (y_pickt rfl h7 rfl) ?_
                    refine r_nil ?_
                    refine hK10 _ _ _ ?_
                    clear hK10 K10
                    refine c_ift rfl rfl ?_
                    refine c_seq (fun K16 hK16 => ?_)
                    refine c_region ?_
                    refine r_y rfl rfl (y_assign rfl) ?_
                    refine r_nil ?_
                    refine hK16 _ _ _ ?_
                    clear hK16 K16
                    refine c_ret ?_
                    refine e_ret 2 hm (res_tmps rfl) ?_
                    refine ⟨congrArg Value.bool ?_, rfl⟩
                    refine (decide_eq_false ?_).symm
                    have hr1 := (hz1.ok x1 (List.mem_of_getElem? hx1)).eq
                    have hr2 := (hz2.ok x2 (List.mem_of_getElem? hx2)).eq
                    intro e
                    have hxx : x1.x = x2.x := by rw [e, hy2] at hy1; exact (Option.some.inj hy1).symm
                    have hr : x1.lr.map (·.1) = x2.lr.map (·.1) := by rw [← hr1, ← hr2, hxx]
                    clear e hy1 hy2 hx1 hx2 hinv hr1 hr2 hz1 hz2
                    simp_all [ceq_head]
                  ·
                    refine r_yg rfl h7 rfl (y_fieldAddr rfl At.lit fo35_6 rfl) ?_
                    refine r_yg rfl h7 rfl (y_load_s rfl ts33 (RdS.blk (i := 1) rfl rfl)) ?_
                    refine r_yg rfl h7 rfl (y_fieldAddr rfl At.lit fo35_6 rfl) ?_
                    refine r_yg rfl h7 rfl (y_load_s rfl ts33 (RdS.blk (i := 0) rfl rfl)) ?_
                    refine r_sg rfl h7 ?_
                    refine s_call0 rfl Try.call35 rfl (rSame_w x1.sr x2.sr x1.lr x2.lr _ _ (hz1.ok x1 (List.mem_of_getElem? hx1)).rules (hz2.ok x2 (List.mem_of_getElem? hx2)).rules) ?_
                    rintro _ m2 _ hm2 ⟨rfl, rfl⟩
                    replace hm := hm.trans hm2
                    replace hz1 := hz1.mono hm2
                    replace hz2 := hz2.mono hm2
                    clear hm2
                    refine r_yg rfl h7 rfl (y_not rfl) ?_
                    refine r_y rfl rfl (y_pickf rfl h7 rfl) ?_
                    refine r_nil ?_
                    refine hK10 _ _ _ ?_
                    clear hK10 K10
                    refine c_cond rfl (fun h8 => ?_) (fun h8 => ?_)
                    ·
                      refine c_seq (fun K17 hK17 => ?_)
                      refine c_region ?_
                      refine r_y rfl rfl (y_assign rfl) ?_
                      refine r_nil ?_
                      refine hK17 _ _ _ ?_
                      clear hK17 K17
                      refine c_ret ?_
                      refine e_ret 2 hm (res_tmps rfl) ?_
                      refine ⟨congrArg Value.bool ?_, rfl⟩
                      refine (decide_eq_false ?_).symm
                      have hr1 := (hz1.ok x1 (List.mem_of_getElem? hx1)).eq
                      have hr2 := (hz2.ok x2 (List.mem_of_getElem? hx2)).eq
                      intro e
                      have hxx : x1.x = x2.x := by rw [e, hy2] at hy1; exact (Option.some.inj hy1).symm
                      have hr : x1.lr.map (·.1) = x2.lr.map (·.1) := by rw [← hr1, ← hr2, hxx]
                      clear e hy1 hy2 hx1 hx2 hinv hr1 hr2 hz1 hz2
                      simp_all [ceq_head]
                    ·
                      refine c_skip ?_
                      refine hK8 _ _ _ ?_
                      clear hK8 K8
                      refine c_region ?_
                      refine r_del 1 rfl ?_
                      refine r_del 0 rfl ?_
                      refine r_y rfl rfl (y_move rfl) ?_
                      first | refine r_y rfl rfl (y_inc rfl (by omega)) ?_ | refine r_y rfl rfl (y_iop rfl rfl rfl) ?_
                      refine r_y rfl rfl (y_assign rfl) ?_
                      refine r_nil ?_
                      have hr1 := (hz1.ok x1 (List.mem_of_getElem? hx1)).eq
                      have hr2 := (hz2.ok x2 (List.mem_of_getElem? hx2)).eq
                      have hxx : x1.x = x2.x := by
                        clear hx1 hx2 hy1 hy2 hinv hz1 hz2
                        have hrr : x1.x.rules = x2.x.rules := by rw [hr1, hr2]; clear hr1 hr2; simp_all [ceq_head]
                        clear hr1 hr2
                        generalize x1.x = a1 at *
                        generalize x2.x = a2 at *
                        cases a1; cases a2; simp_all [ceq_head]
                      exact ⟨k0 - 1, (i + 1), by omega, ⟨rfl, rfl, rfl, trivial⟩, rfl, ⟨by omega, by rw [List.take_add_one, List.take_add_one, hinv, hy1, hy2, hxx]⟩, hm, hz1, hz2⟩
      ·
        refine s_alloc rfl tz35 (fun b0 => ?_)
        refine ⟨⟨hg, alln⟩, ?_⟩
        refine g_s (i := 8) (listed' := #[true, true, true, true, true, true, true, true, true, true, false, false]) rfl (by kernel_rfl) (by kernel_rfl) rfl ?_
        refine s_alloc rfl tz35 (fun b1 => ?_)
        refine ⟨⟨hg, alln⟩, ?_⟩
        refine g_s (i := 10) (listed' := #[true, true, true, true, true, true, true, true, true, true, true, false]) rfl (by kernel_rfl) (by kernel_rfl) rfl ?_
        refine s_store (us := encMsg x1.x x1.sm x1.sr) rfl rfl rfl ts35 rfl rfl (one_msg _ _ _) (i := 0) rfl rfl ?_
        refine ⟨⟨hg, alln⟩, ?_⟩
        refine g_s (i := 11) (listed' := #[true, true, true, true, true, true, true, true, true, true, true, true]) rfl (by kernel_rfl) (by kernel_rfl) rfl ?_
        refine s_store (us := encMsg x2.x x2.sm x2.sr) rfl rfl rfl ts35 rfl rfl (one_msg _ _ _) (i := 1) rfl rfl ?_
        refine ⟨⟨hg, alln⟩, ?_⟩
        refine g_done (by kernel_rfl) ?_
        clear hg hz1_g hz2_g
        refine hK9 _ _ _ ?_
        clear hK9 K9
        refine c_seq (fun K18 hK18 => ?_)
        refine c_region ?_
        refine r_y rfl rfl (y_fieldAddr rfl At.lit fo35_0 rfl) ?_
        refine r_y rfl rfl (y_load_s rfl ts3 (RdS.blk (i := 0) rfl rfl)) ?_
        refine r_y rfl rfl (y_fieldAddr rfl At.lit fo35_0 rfl) ?_
        refine r_y rfl rfl (y_load_s rfl ts3 (RdS.blk (i := 1) rfl rfl)) ?_
        refine r_y rfl rfl (y_iop rfl rfl rfl) ?_
        refine r_y rfl rfl (y_move rfl) ?_
        refine r_split (j := 5) rfl (fun h9 => ?_) (fun h9 => ?_)
        ·
          refine r_no' rfl rfl h9 ?_
          refine r_no' rfl rfl h9 ?_
          refine r_no' rfl rfl h9 ?_
          refine r_no' rfl rfl h9 ?_
          refine r_no' rfl rfl h9 ?_
          refine r_y rfl rfl (y_pickt rfl h9 rfl) ?_
          refine r_y rfl rfl (y_move rfl) ?_
          refine r_no' rfl rfl rfl ?_
          refine r_no' rfl rfl rfl ?_
          refine r_no' rfl rfl rfl ?_
          refine r_no' rfl rfl rfl ?_
          refine r_no' rfl rfl rfl ?_
          refine r_y rfl rfl (y_pickt rfl rfl rfl) ?_
          refine r_y rfl rfl (y_move rfl) ?_
          refine r_no' rfl rfl rfl ?_
          refine r_no' rfl rfl rfl ?_
          refine r_no' rfl rfl rfl ?_
          refine r_no' rfl rfl rfl ?_
          refine r_no' rfl rfl rfl ?_
          refine r_no' rfl rfl rfl ?_
          refine r_y rfl rfl (y_pickt rfl rfl rfl) ?_
          refine r_y rfl rfl (y_move rfl) ?_
          refine r_no' rfl rfl rfl ?_
          refine r_no' rfl rfl rfl ?_
          refine r_no' rfl rfl rfl ?_
          refine r_no' rfl rfl rfl ?_
          refine r_no' rfl rfl rfl ?_
          refine r_y rfl rfl (y_pickt rfl rfl rfl) ?_
          refine r_y rfl rfl (y_move rfl) ?_
          refine r_no' rfl rfl rfl ?_
          refine r_no' rfl rfl rfl ?_
          refine r_no' rfl rfl rfl ?_
          refine r_no' rfl rfl rfl ?_
          refine r_no' rfl rfl rfl ?_
          refine r_y rfl rfl (y_pickt rfl rfl rfl) ?_
          refine r_y rfl rfl (y_move rfl) ?_
          refine r_no' rfl rfl rfl ?_
          refine r_no' rfl rfl rfl ?_
          refine r_no' rfl rfl rfl ?_
          refine r_no' rfl rfl rfl ?_
          refine r_no' rfl rfl rfl ?_
          refine r_no' rfl rfl rfl ?_
          refine r_y rfl rfl (y_pickt rfl rfl rfl) ?_
          refine r_nil ?_
          refine hK18 _ _ _ ?_
          clear hK18 K18
          refine c_ift rfl rfl ?_
          refine c_seq (fun K19 hK19 => ?_)
          refine c_region ?_
          refine r_y rfl rfl (y_assign rfl) ?_
          refine r_nil ?_
          refine hK19 _ _ _ ?_
          clear hK19 K19
          refine c_ret ?_
          refine e_ret 2 hm (res_tmps rfl) ?_
          refine ⟨congrArg Value.bool ?_, rfl⟩
          refine (decide_eq_false ?_).symm
          have hr1 := (hz1.ok x1 (List.mem_of_getElem? hx1)).eq
          have hr2 := (hz2.ok x2 (List.mem_of_getElem? hx2)).eq
          intro e
          have hxx : x1.x = x2.x := by rw [e, hy2] at hy1; exact (Option.some.inj hy1).symm
          have hr : x1.lr.map (·.1) = x2.lr.map (·.1) := by rw [← hr1, ← hr2, hxx]
          clear e hy1 hy2 hx1 hx2 hinv hr1 hr2 hz1 hz2
          simp_all [ceq_head]
        ·
          refine r_yg rfl h9 rfl (y_fieldAddr rfl At.lit fo35_1 rfl) ?_
          refine r_yg rfl h9 rfl (y_load_s rfl ts3 (RdS.blk (i := 0) rfl rfl)) ?_
          refine r_yg rfl h9 rfl (y_fieldAddr rfl At.lit fo35_1 rfl) ?_
          refine r_yg rfl h9 rfl (y_load_s rfl ts3 (RdS.blk (i := 1) rfl rfl)) ?_
          refine r_yg rfl h9 rfl (y_iop rfl rfl rfl) ?_
          refine r_y rfl rfl (y_pickf rfl h9 rfl) ?_
          refine r_y rfl rfl (y_move rfl) ?_
          refine r_split (j := 12) rfl (fun h10 => ?_) (fun h10 => ?_)
          ·
            refine r_no' rfl rfl h10 ?_
            refine r_no' rfl rfl h10 ?_
            refine r_no' rfl rfl h10 ?_
            refine r_no' rfl rfl h10 ?_
            refine r_no' rfl rfl h10 ?_
            refine r_y rfl rfl (y_pickt rfl h10 rfl) ?_
            refine r_y rfl rfl (y_move rfl) ?_
            refine r_no' rfl rfl rfl ?_
            refine r_no' rfl rfl rfl ?_
            refine r_no' rfl rfl rfl ?_
            refine r_no' rfl rfl rfl ?_
            refine r_no' rfl rfl rfl ?_
            refine r_no' rfl rfl rfl ?_
            refine r_y rfl rfl (y_pickt rfl rfl rfl) ?_
            refine r_y rfl rfl (y_move rfl) ?_
            refine r_no' rfl rfl rfl ?_
            refine r_no' rfl rfl rfl ?_
            refine r_no' rfl rfl rfl ?_
            refine r_no' rfl rfl rfl ?_
            refine r_no' rfl rfl rfl ?_
            refine r_y rfl rfl (y_pickt rfl rfl rfl) ?_
            refine r_y rfl rfl (y_move rfl) ?_
            refine r_no' rfl rfl rfl ?_
            refine r_no' rfl rfl rfl ?_
            refine r_no' rfl rfl rfl ?_
            refine r_no' rfl rfl rfl ?_
            refine r_no' rfl rfl rfl ?_
            refine r_y rfl rfl (y_pickt rfl rfl rfl) ?_
            refine r_y rfl rfl (y_move rfl) ?_
            refine r_no' rfl rfl rfl ?_
            refine r_no' rfl rfl rfl ?_
            refine r_no' rfl rfl rfl ?_
            refine r_no' rfl rfl rfl ?_
            refine r_no' rfl rfl rfl ?_
            refine r_no' rfl rfl rfl ?_
            refine r_y rfl rfl (y_pickt rfl rfl rfl) ?_
            refine r_nil ?_
            refine hK18 _ _ _ ?_
            clear hK18 K18
            refine c_ift rfl rfl ?_
            refine c_seq (fun K20 hK20 => ?_)
            refine c_region ?_
            refine r_y rfl rfl (y_assign rfl) ?_
            refine r_nil ?_
            refine hK20 _ _ _ ?_
            clear hK20 K20
            refine c_ret ?_
            refine e_ret 2 hm (res_tmps rfl) ?_
            refine ⟨congrArg Value.bool ?_, rfl⟩
            refine (decide_eq_false ?_).symm
            have hr1 := (hz1.ok x1 (List.mem_of_getElem? hx1)).eq
            have hr2 := (hz2.ok x2 (List.mem_of_getElem? hx2)).eq
            intro e
            have hxx : x1.x = x2.x := by rw [e, hy2] at hy1; exact (Option.some.inj hy1).symm
            have hr : x1.lr.map (·.1) = x2.lr.map (·.1) := by rw [← hr1, ← hr2, hxx]
            clear e hy1 hy2 hx1 hx2 hinv hr1 hr2 hz1 hz2
            simp_all [ceq_head]
          ·
            refine r_yg rfl h10 rfl (y_fieldAddr rfl At.lit fo35_2 rfl) ?_
            refine r_yg rfl h10 rfl (y_load_s rfl ts24 (RdS.blk (i := 0) rfl rfl)) ?_
            refine r_yg rfl h10 rfl (y_fieldAddr rfl At.lit fo35_2 rfl) ?_
            refine r_yg rfl h10 rfl (y_load_s rfl ts24 (RdS.blk (i := 1) rfl rfl)) ?_
            refine r_yg rfl h10 rfl (y_iop rfl rfl rfl) ?_
            refine r_y rfl rfl (y_pickf rfl h10 rfl) ?_
            refine r_y rfl rfl (y_move rfl) ?_
            refine r_split (j := 19) rfl (fun h11 => ?_) (fun h11 => ?_)
            ·
              refine r_no' rfl rfl h11 ?_
              refine r_no' rfl rfl h11 ?_
              refine r_no' rfl rfl h11 ?_
              refine r_no' rfl rfl h11 ?_
              refine r_no' rfl rfl h11 ?_
              refine r_no' rfl rfl h11 ?_
              refine r_y rfl rfl (y_pickt rfl h11 rfl) ?_
              refine r_y rfl rfl (y_move rfl) ?_
              refine r_no' rfl rfl rfl ?_
              refine r_no' rfl rfl rfl ?_
              refine r_no' rfl rfl rfl ?_
              refine r_no' rfl rfl rfl ?_
              refine r_no' rfl rfl rfl ?_
              refine r_y rfl rfl (y_pickt rfl rfl rfl) ?_
              refine r_y rfl rfl (y_move rfl) ?_
              refine r_no' rfl rfl rfl ?_
              refine r_no' rfl rfl rfl ?_
              refine r_no' rfl rfl rfl ?_
              refine r_no' rfl rfl rfl ?_
              refine r_no' rfl rfl rfl ?_
              refine r_y rfl rfl (y_pickt rfl rfl rfl) ?_
              refine r_y rfl rfl (y_move rfl) ?_
              refine r_no' rfl rfl rfl ?_
              refine r_no' rfl rfl rfl ?_
              refine r_no' rfl rfl rfl ?_
              refine r_no' rfl rfl rfl ?_
              refine r_no' rfl rfl rfl ?_
              refine r_no' rfl rfl rfl ?_
              refine r_y rfl rfl (y_pickt rfl rfl rfl) ?_
              refine r_nil ?_
              refine hK18 _ _ _ ?_
              clear hK18 K18
              refine c_ift rfl rfl ?_
              refine c_seq (fun K21 hK21 => ?_)
              refine c_region ?_
              refine r_y rfl rfl (y_assign rfl) ?_
              refine r_nil ?_
              refine hK21 _ _ _ ?_
              clear hK21 K21
              refine c_ret ?_
              refine e_ret 2 hm (res_tmps rfl) ?_
              refine ⟨congrArg Value.bool ?_, rfl⟩
              refine (decide_eq_false ?_).symm
              have hr1 := (hz1.ok x1 (List.mem_of_getElem? hx1)).eq
              have hr2 := (hz2.ok x2 (List.mem_of_getElem? hx2)).eq
              intro e
              have hxx : x1.x = x2.x := by rw [e, hy2] at hy1; exact (Option.some.inj hy1).symm
              have hr : x1.lr.map (·.1) = x2.lr.map (·.1) := by rw [← hr1, ← hr2, hxx]
              clear e hy1 hy2 hx1 hx2 hinv hr1 hr2 hz1 hz2
              simp_all [ceq_head]
            ·
              refine r_yg rfl h11 rfl (y_fieldAddr rfl At.lit fo35_3 rfl) ?_
              refine r_yg rfl h11 rfl (y_load_a (cs := encMod x1.x.mod x1.sm) rfl ts32 (RdA.blk (i := 0) rfl rfl)) ?_
              refine r_yg rfl h11 rfl (y_fieldAddr rfl At.lit fo35_3 rfl) ?_
              refine r_yg rfl h11 rfl (y_load_a (cs := encMod x2.x.mod x2.sm) rfl ts32 (RdA.blk (i := 1) rfl rfl)) ?_
              refine r_sg rfl h11 ?_
              refine s_call0 rfl Try.call40 rfl (rSameMods_w x1.x.mod x2.x.mod x1.sm x2.sm _ _ (hz1.ok x1 (List.mem_of_getElem? hx1)).mod (hz2.ok x2 (List.mem_of_getElem? hx2)).mod) ?_
              rintro _ m2 _ hm2 ⟨rfl, rfl⟩
              replace hm := hm.trans hm2
              replace hz1 := hz1.mono hm2
              replace hz2 := hz2.mono hm2
              clear hm2
              refine r_yg rfl h11 rfl (y_not rfl) ?_
              refine r_y rfl rfl (y_pickf rfl h11 rfl) ?_
              refine r_y rfl rfl (y_move rfl) ?_
              refine r_split (j := 27) rfl (fun h12 => ?_) (fun h12 => ?_)
              ·
                refine r_no' rfl rfl h12 ?_
                refine r_no' rfl rfl h12 ?_
                refine r_no' rfl rfl h12 ?_
                refine r_no' rfl rfl h12 ?_
                refine r_no' rfl rfl h12 ?_
                refine r_y rfl rfl (y_pickt rfl h12 rfl) ?_
                refine r_y rfl rfl (y_move rfl) ?_
                refine r_no' rfl rfl rfl ?_
                refine r_no' rfl rfl rfl ?_
                refine r_no' rfl rfl rfl ?_
                refine r_no' rfl rfl rfl ?_
                refine r_no' rfl rfl rfl ?_
                refine r_y rfl rfl (y_pickt rfl rfl rfl) ?_
                refine r_y rfl rfl (y_move rfl) ?_
                refine r_no' rfl rfl rfl ?_
                refine r_no' rfl rfl rfl ?_
                refine r_no' rfl rfl rfl ?_
                refine r_no' rfl rfl rfl ?_
                refine r_no' rfl rfl rfl ?_
                refine r_no' rfl rfl rfl ?_
                refine r_y rfl rfl (y_pickt rfl rfl rfl) ?_
                refine r_nil ?_
                refine hK18 _ _ _ ?_
                clear hK18 K18
                refine c_ift rfl rfl ?_
                refine c_seq (fun K22 hK22 => ?_)
                refine c_region ?_
                refine r_y rfl rfl (y_assign rfl) ?_
                refine r_nil ?_
                refine hK22 _ _ _ ?_
                clear hK22 K22
                refine c_ret ?_
                refine e_ret 2 hm (res_tmps rfl) ?_
                refine ⟨congrArg Value.bool ?_, rfl⟩
                refine (decide_eq_false ?_).symm
                have hr1 := (hz1.ok x1 (List.mem_of_getElem? hx1)).eq
                have hr2 := (hz2.ok x2 (List.mem_of_getElem? hx2)).eq
                intro e
                have hxx : x1.x = x2.x := by rw [e, hy2] at hy1; exact (Option.some.inj hy1).symm
                have hr : x1.lr.map (·.1) = x2.lr.map (·.1) := by rw [← hr1, ← hr2, hxx]
                clear e hy1 hy2 hx1 hx2 hinv hr1 hr2 hz1 hz2
                simp_all [ceq_head]
              ·
                refine r_yg rfl h12 rfl (y_fieldAddr rfl At.lit fo35_4 rfl) ?_
                refine r_yg rfl h12 rfl (y_load_s rfl ts3 (RdS.blk (i := 0) rfl rfl)) ?_
                refine r_yg rfl h12 rfl (y_fieldAddr rfl At.lit fo35_4 rfl) ?_
                refine r_yg rfl h12 rfl (y_load_s rfl ts3 (RdS.blk (i := 1) rfl rfl)) ?_
                refine r_yg rfl h12 rfl (y_iop rfl rfl rfl) ?_
                refine r_y rfl rfl (y_pickf rfl h12 rfl) ?_
                refine r_y rfl rfl (y_move rfl) ?_
                refine r_split (j := 34) rfl (fun h13 => ?_) (fun h13 => ?_)
                ·
                  refine r_no' rfl rfl h13 ?_
                  refine r_no' rfl rfl h13 ?_
                  refine r_no' rfl rfl h13 ?_
                  refine r_no' rfl rfl h13 ?_
                  refine r_no' rfl rfl h13 ?_
                  refine r_y rfl rfl (y_pickt rfl h13 rfl) ?_
                  refine r_y rfl rfl (y_move rfl) ?_
                  refine r_no' rfl rfl rfl ?_
                  refine r_no' rfl rfl rfl ?_
                  refine r_no' rfl rfl rfl ?_
                  refine r_no' rfl rfl rfl ?_
                  refine r_no' rfl rfl rfl ?_
                  refine r_no' rfl rfl rfl ?_
                  refine r_y rfl rfl (y_pickt rfl rfl rfl) ?_
                  refine r_nil ?_
                  refine hK18 _ _ _ ?_
                  clear hK18 K18
                  refine c_ift rfl rfl ?_
                  refine c_seq (fun K23 hK23 => ?_)
                  refine c_region ?_
                  refine r_y rfl rfl (y_assign rfl) ?_
                  refine r_nil ?_
                  refine hK23 _ _ _ ?_
                  clear hK23 K23
                  refine c_ret ?_
                  refine e_ret 2 hm (res_tmps rfl) ?_
                  refine ⟨congrArg Value.bool ?_, rfl⟩
                  refine (decide_eq_false ?_).symm
                  have hr1 := (hz1.ok x1 (List.mem_of_getElem? hx1)).eq
                  have hr2 := (hz2.ok x2 (List.mem_of_getElem? hx2)).eq
                  intro e
                  have hxx : x1.x = x2.x := by rw [e, hy2] at hy1; exact (Option.some.inj hy1).symm
                  have hr : x1.lr.map (·.1) = x2.lr.map (·.1) := by rw [← hr1, ← hr2, hxx]
                  clear e hy1 hy2 hx1 hx2 hinv hr1 hr2 hz1 hz2
                  simp_all [ceq_head]
                ·
                  refine r_yg rfl h13 rfl (y_fieldAddr rfl At.lit fo35_5 rfl) ?_
                  refine r_yg rfl h13 rfl (y_load_a (cs := encHead x1.x.head) rfl ts27 (RdA.blk (i := 0) rfl rfl)) ?_
                  refine r_yg rfl h13 rfl (y_fieldAddr rfl At.lit fo35_5 rfl) ?_
                  refine r_yg rfl h13 rfl (y_load_a (cs := encHead x2.x.head) rfl ts27 (RdA.blk (i := 1) rfl rfl)) ?_
                  refine r_yg rfl h13 rfl (y_neagg (dd := 6)  rfl rfl en27 ia27 rfl Try.eqGuardType27 rfl (alike_head _ _)) ?_
                  refine r_y rfl rfl (y_pickf rfl h13 rfl) ?_
                  refine r_y rfl rfl (y_move rfl) ?_
                  refine r_split (j := 41) rfl (fun h14 => ?_) (fun h14 => ?_)
                  ·
                    refine r_no' rfl rfl h14 ?_
                    refine r_no' rfl rfl h14 ?_
                    refine r_no' rfl rfl h14 ?_
                    refine r_no' rfl rfl h14 ?_
                    refine r_no' rfl rfl h14 ?_
                    refine r_no' rfl rfl h14 ?_
                    refine r_y rfl rfl (y_pickt rfl h14 rfl) ?_
                    refine r_nil ?_
                    refine hK18 _ _ _ ?_
                    clear hK18 K18
                    refine c_ift rfl rfl ?_
                    refine c_seq (fun K24 hK24 => ?_)
                    refine c_region ?_
                    refine r_y rfl rfl (y_assign rfl) ?_
                    refine r_nil ?_
                    refine hK24 _ _ _ ?_
                    clear hK24 K24
                    refine c_ret ?_
                    refine e_ret 2 hm (res_tmps rfl) ?_
                    refine ⟨congrArg Value.bool ?_, rfl⟩
                    refine (decide_eq_false ?_).symm
                    have hr1 := (hz1.ok x1 (List.mem_of_getElem? hx1)).eq
                    have hr2 := (hz2.ok x2 (List.mem_of_getElem? hx2)).eq
                    intro e
                    have hxx : x1.x = x2.x := by rw [e, hy2] at hy1; exact (Option.some.inj hy1).symm
                    have hr : x1.lr.map (·.1) = x2.lr.map (·.1) := by rw [← hr1, ← hr2, hxx]
                    clear e hy1 hy2 hx1 hx2 hinv hr1 hr2 hz1 hz2
                    simp_all [ceq_head]
                  ·
                    refine r_yg rfl h14 rfl (y_fieldAddr rfl At.lit fo35_6 rfl) ?_
                    refine r_yg rfl h14 rfl (y_load_s rfl ts33 (RdS.blk (i := 0) rfl rfl)) ?_
                    refine r_yg rfl h14 rfl (y_fieldAddr rfl At.lit fo35_6 rfl) ?_
                    refine r_yg rfl h14 rfl (y_load_s rfl ts33 (RdS.blk (i := 1) rfl rfl)) ?_
                    refine r_sg rfl h14 ?_
                    refine s_call0 rfl Try.call35 rfl (rSame_w x1.sr x2.sr x1.lr x2.lr _ _ (hz1.ok x1 (List.mem_of_getElem? hx1)).rules (hz2.ok x2 (List.mem_of_getElem? hx2)).rules) ?_
                    rintro _ m2 _ hm2 ⟨rfl, rfl⟩
                    replace hm := hm.trans hm2
                    replace hz1 := hz1.mono hm2
                    replace hz2 := hz2.mono hm2
                    clear hm2
                    refine r_yg rfl h14 rfl (y_not rfl) ?_
                    refine r_y rfl rfl (y_pickf rfl h14 rfl) ?_
                    refine r_nil ?_
                    refine hK18 _ _ _ ?_
                    clear hK18 K18
                    refine c_cond rfl (fun h15 => ?_) (fun h15 => ?_)
                    ·
                      refine c_seq (fun K25 hK25 => ?_)
                      refine c_region ?_
                      refine r_y rfl rfl (y_assign rfl) ?_
                      refine r_nil ?_
                      refine hK25 _ _ _ ?_
                      clear hK25 K25
                      refine c_ret ?_
                      refine e_ret 2 hm (res_tmps rfl) ?_
                      refine ⟨congrArg Value.bool ?_, rfl⟩
                      refine (decide_eq_false ?_).symm
                      have hr1 := (hz1.ok x1 (List.mem_of_getElem? hx1)).eq
                      have hr2 := (hz2.ok x2 (List.mem_of_getElem? hx2)).eq
                      intro e
                      have hxx : x1.x = x2.x := by rw [e, hy2] at hy1; exact (Option.some.inj hy1).symm
                      have hr : x1.lr.map (·.1) = x2.lr.map (·.1) := by rw [← hr1, ← hr2, hxx]
                      clear e hy1 hy2 hx1 hx2 hinv hr1 hr2 hz1 hz2
                      simp_all [ceq_head]
                    ·
                      refine c_skip ?_
                      refine hK8 _ _ _ ?_
                      clear hK8 K8
                      refine c_region ?_
                      refine r_del 1 rfl ?_
                      refine r_del 0 rfl ?_
                      refine r_y rfl rfl (y_move rfl) ?_
                      first | refine r_y rfl rfl (y_inc rfl (by omega)) ?_ | refine r_y rfl rfl (y_iop rfl rfl rfl) ?_
                      refine r_y rfl rfl (y_assign rfl) ?_
                      refine r_nil ?_
                      have hr1 := (hz1.ok x1 (List.mem_of_getElem? hx1)).eq
                      have hr2 := (hz2.ok x2 (List.mem_of_getElem? hx2)).eq
                      have hxx : x1.x = x2.x := by
                        clear hx1 hx2 hy1 hy2 hinv hz1 hz2
                        have hrr : x1.x.rules = x2.x.rules := by rw [hr1, hr2]; clear hr1 hr2; simp_all [ceq_head]
                        clear hr1 hr2
                        generalize x1.x = a1 at *
                        generalize x2.x = a2 at *
                        cases a1; cases a2; simp_all [ceq_head]
                      exact ⟨k0 - 1, (i + 1), by omega, ⟨rfl, rfl, rfl, trivial⟩, rfl, ⟨by omega, by rw [List.take_add_one, List.take_add_one, hinv, hy1, hy2, hxx]⟩, hm, hz1, hz2⟩
    ·
      refine c_exit ?_
      refine hK4 _ _ _ ?_
      clear hK6 K6 hK4 K4
      refine c_seq (fun K26 hK26 => ?_)
      refine c_region ?_
      refine r_y rfl rfl (y_assign rfl) ?_
      refine r_nil ?_
      refine hK26 _ _ _ ?_
      clear hK26 K26
      refine c_ret ?_
      refine e_ret 0 hm (res_tmps rfl) ?_
      refine ⟨congrArg Value.bool ?_, rfl⟩
      have hie : i = s1.n := by simp at h1; omega
      refine (decide_eq_true ?_).symm
      rw [List.take_of_length_le (by simp; omega), List.take_of_length_le (by simp; omega)] at hinv
      exact hinv
end Go.Aw
namespace Go.Aw
open Go Go.Proofs
theorem tz5 : tzero Try.prog 5 = some [.int .u8 0] := by kernel_rfl
set_option maxRecDepth 100000 in
theorem rNum_w (z : W) (k : Nat) (m : Snap) (H : Hp) (hk : k ≤ 64) : Fn Try.prog 66 [wv z, .int .i64 (k : Nat)] m H (fun v m' H' => ∃ s' : Sl, v = s'.v ∧ FzB m' s' (wput z k) ∧ s'.ok ∧ H' = H) := by
  have hm : m.le m := Snap.le.refl m
  refine fn_end Try.func66 rfl rfl rfl ?_
  refine c_seq (fun K0 hK0 => ?_)
  refine c_region ?_
  refine r_y rfl rfl (y_assign rfl) ?_
  refine r_nil ?_
  refine hK0 _ _ _ ?_
  clear hK0 K0
  refine c_seq (fun K1 hK1 => ?_)
  refine c_region ?_
  refine r_y rfl rfl (y_move rfl) ?_
  refine r_s rfl ?_
  refine s_makeSlice1 rfl rfl rfl tl22 tz5 tb5 (by omega) (by unfold maxLen; omega) (fun b0 => ?_)
  refine r_y rfl rfl (y_assign rfl) ?_
  refine r_nil ?_
  refine hK1 _ _ _ ?_
  clear hK1 K1
  refine c_seq (fun K2 hK2 => ?_)
  refine c_seq (fun K3 hK3 => ?_)
  refine c_region ?_
  refine r_y rfl rfl (y_move rfl) ?_
  refine r_y rfl rfl (y_dec' rfl (by omega)) ?_
  refine r_y rfl rfl (y_assign rfl) ?_
  refine r_nil ?_
  refine hK3 _ _ _ ?_
  clear hK3 K3
  refine c_block ?_
  refine c_loopx (α := Nat × Nat) (fun vv => match vv with | (j, i) => [(0, wv (z >>> (8 * i))), (1, .int .i64 (k : Nat)), (5, .slice (some ⟨b0, 0, none⟩) k k), (6, .int .i64 ((j : Int) - 1))]) (fun vv => match vv with | (j, i) => .blk b0 (.cells (List.replicate j (bv 0) ++ (wput z i).map bv).toArray 5) :: H) (fun k0 vv m1 => match vv with | (j, i) => (j = k0 ∧ j + i = k) ∧ m.le m1) (k) (k, 0) ⟨(by simp <;> rfl), rfl, rfl, rfl, trivial⟩ (by simp only [wput, List.map_nil, List.append_nil] <;> rfl) ⟨⟨rfl, rfl⟩, hm⟩ ?_
  clear hm
  rintro k0 ⟨j, i⟩ m1 ⟨hi0, hm⟩
  obtain ⟨hi, hji⟩ := hi0
  refine c_seq (fun K4 hK4 => ?_)
  refine c_seq (fun K5 hK5 => ?_)
  refine c_region ?_
  refine r_y rfl rfl (y_move rfl) ?_
  refine r_y rfl rfl (y_iop rfl rfl rfl) ?_
  refine r_nil ?_
  refine hK5 _ _ _ ?_
  clear hK5 K5
  refine c_cond rfl (fun h0 => ?_) (fun h0 => ?_)
  ·
    refine c_skip ?_
    refine hK4 _ _ _ ?_
    clear hK4 K4
    refine c_seq (fun K6 hK6 => ?_)
    refine c_block ?_
    refine c_seq (fun K7 hK7 => ?_)
    refine c_region ?_
    obtain ⟨j, rfl⟩ : ∃ i, j = i + 1 := ⟨j - 1, by simp at h0; omega⟩
    refine r_y rfl rfl (y_move rfl) ?_
    refine r_y rfl rfl (y_move rfl) ?_
    refine r_y rfl rfl (y_move rfl) ?_
    refine r_y rfl rfl (y_wrem rfl) ?_
    refine r_y rfl rfl (y_conv_w8 rfl un25 un5) ?_
    refine r_y rfl rfl (y_indexAddr_sl (k := j) rfl rfl (by omega) tl22 (by omega) At.lit) ?_
    refine r_s rfl ?_
    refine s_store rfl rfl rfl ts5 rfl rfl (by simp [bv, Value.oneCell']) (i := 0) rfl (numCells_step _ _ _) ?_
    refine r_nil ?_
    refine hK7 _ _ _ ?_
    clear hK7 K7
    refine c_region ?_
    refine r_y rfl rfl (y_move rfl) ?_
    refine r_y rfl rfl (y_wquo rfl) ?_
    refine r_y rfl rfl (y_assign rfl) ?_
    refine r_nil ?_
    refine hK6 _ _ _ ?_
    clear hK6 K6
    refine c_region ?_
    refine r_y rfl rfl (y_move rfl) ?_
    refine r_y rfl rfl (y_decj rfl (by omega)) ?_
    refine r_y rfl rfl (y_assign rfl) ?_
    refine r_nil ?_
    exact ⟨k0 - 1, (j, i + 1), by omega, ⟨(by rw [← shr_step]; rfl), rfl, rfl, rfl, trivial⟩, (by simp only [wput, List.map_cons, ← byte_rem (z >>> (8 * i))] <;> rfl), ⟨by omega, by omega⟩, hm⟩
  ·
    refine c_exit ?_
    refine hK2 _ _ _ ?_
    clear hK4 K4 hK2 K2
    refine c_seq (fun K8 hK8 => ?_)
    refine c_region ?_
    refine r_freeze (i := 0) rfl (fun m3 hm3 hc0 => ?_)
    replace hm := hm.trans hm3
    try replace hc0 := fun j v h => hm3.cell (hc0 j v h)
    clear hm3
    obtain rfl : j = 0 := by simp at h0; omega
    obtain rfl : i = k := by omega
    refine r_y rfl rfl (y_move rfl) ?_
    refine r_y rfl rfl (y_assign rfl) ?_
    refine r_nil ?_
    refine hK8 _ _ _ ?_
    clear hK8 K8
    refine c_ret ?_
    refine e_ret 0 hm (res_tmps rfl) ?_
    exact ⟨⟨some ⟨b0, 0, none⟩, i, i⟩, rfl, fzB_num (by simpa using hc0) (by unfold maxLen; omega), (fun h => (by cases h)), rfl⟩
end Go.Aw
namespace Go.Aw
open Go Go.Proofs
set_option maxRecDepth 100000 in
theorem rHeads_w (c : Cube) (n1 n2 n3 n4 : Int) (m : Snap) (H : Hp) : Fn Try.prog 67 [.agg (encCube c).toArray, .int .i64 n1, .int .i64 n2, .int .i64 n3, .int .i64 n4] m H (fun v m' H' => ∃ s' : Sl, v = s'.v ∧ FzB m' s' (wmatch c n1 n2 n3 n4) ∧ s'.ok ∧ H' = H) := by
  have hm : m.le m := Snap.le.refl m
  refine fn_end Try.func67 rfl rfl rfl ?_
  refine c_seq (fun K0 hK0 => ?_)
  refine c_region ?_
  refine r_s rfl ?_
  refine s_box_a rfl rfl (fun b0 => ?_)
  refine r_y rfl rfl (y_assign rfl) ?_
  refine r_nil ?_
  refine hK0 _ _ _ ?_
  clear hK0 K0
  refine c_seq (fun K1 hK1 => ?_)
  refine c_region ?_
  refine r_nilvec 5 1 ?_
  refine r_y rfl rfl (y_assign rfl) ?_
  refine r_nil ?_
  refine hK1 _ _ _ ?_
  clear hK1 K1
  refine c_seq (fun K2 hK2 => ?_)
  refine c_seq (fun K3 hK3 => ?_)
  refine c_region ?_
  refine r_y rfl rfl (y_assign rfl) ?_
  refine r_nil ?_
  refine hK3 _ _ _ ?_
  clear hK3 K3
  refine c_block ?_
  refine c_loopx (α := Nat × Sl) (fun vv => match vv with | (i, sv) => [(0, .agg (encCube c).toArray), (1, .int .i64 n1), (2, .int .i64 n2), (3, .int .i64 n3), (4, .int .i64 n4), (5, .pointer (some ⟨b0, 0, none⟩)), (11, sv.v), (12, .int .i64 (i : Nat))]) (fun vv => match vv with | (i, sv) => .vec sv.a sv.n sv.cap 5 1 (bytes1 (wputs 8 ((headL c.value).take i))) :: .blk b0 (.cells (encCube c).toArray 29) :: H) (fun k0 vv m1 => match vv with | (i, sv) => (i + k0 = 12 ∧ sv.n = (wputs 8 ((headL c.value).take i)).length) ∧ m.le m1) (12) (0, zSl) ⟨rfl, rfl, rfl, rfl, rfl, rfl, rfl, rfl, trivial⟩ (by simp only [List.take_zero, wputs, List.append_nil] <;> rfl) ⟨⟨by omega, rfl⟩, hm⟩ ?_
  clear hm
  rintro k0 ⟨i, sv⟩ m1 ⟨hi0, hm⟩
  obtain ⟨hi, hsn⟩ := hi0
  have hsl : sv.n ≤ 192 := by rw [hsn]; simp [headL]; omega
  refine c_seq (fun K4 hK4 => ?_)
  refine c_seq (fun K5 hK5 => ?_)
  refine c_region ?_
  refine r_y rfl rfl (y_move rfl) ?_
  refine r_y rfl rfl (y_iop rfl rfl rfl) ?_
  refine r_nil ?_
  refine hK5 _ _ _ ?_
  clear hK5 K5
  refine c_cond rfl (fun h0 => ?_) (fun h0 => ?_)
  ·
    have hlt : i < 12 := by simp at h0; omega
    refine c_skip ?_
    refine hK4 _ _ _ ?_
    clear hK4 K4
    refine c_seq (fun K6 hK6 => ?_)
    refine c_block ?_
    refine c_region ?_
    refine r_y rfl rfl (y_move rfl) ?_
    refine r_y rfl rfl (y_move rfl) ?_
    refine r_y rfl rfl (y_fieldAddr rfl At.lit fo29_0 rfl) ?_
    refine r_y rfl rfl (y_indexAddr_arr rfl rfl ta27 hlt At.lit) ?_
    refine r_y rfl rfl (y_load_s rfl ts25 (RdS.blk (i := 1) rfl (cget_value _ _ hlt))) ?_
    refine r_s rfl ?_
    refine s_call0 rfl Try.call66 rfl (rNum_w (c.value.at i) 8 _ _ (by decide)) ?_
    rintro _ m2 _ hm2 ⟨sn, rfl, hzsn, hosn, rfl⟩
    replace hm := hm.trans hm2
    clear hm2
    have hlsn := Fz.lenB hzsn
    rw [wput_len] at hlsn
    refine r_s rfl ?_
    refine s_append rfl rfl rfl tl22 zo5 tb5 (i := 0) rfl (Src.fz hzsn (one_bytes _) hosn) (by omega) (by unfold maxLen; omega) (fun a1 c1 => ?_)
    refine r_y rfl rfl (y_assign rfl) ?_
    refine r_nil ?_
    refine hK6 _ _ _ ?_
    clear hK6 K6
    refine c_region ?_
    refine r_y rfl rfl (y_move rfl) ?_
    first | refine r_y rfl rfl (y_inc rfl (by omega)) ?_ | refine r_y rfl rfl (y_iop rfl rfl rfl) ?_
    refine r_y rfl rfl (y_assign rfl) ?_
    refine r_nil ?_
    exact ⟨k0 - 1, (i + 1, ⟨a1, sv.n + sn.n, c1⟩), by omega, ⟨rfl, rfl, rfl, rfl, rfl, rfl, rfl, rfl, trivial⟩, (by simp only [← whead_step _ hlt, ← List.append_assoc, bytes1_append] <;> rfl), ⟨by omega, by simp only [hsn, hlsn, ← whead_step _ hlt, List.length_append, wput_len]; try omega⟩, hm⟩
  ·
    obtain rfl : i = 12 := by simp at h0; omega
    refine c_exit ?_
    refine hK2 _ _ _ ?_
    clear hK4 K4 hK2 K2
    refine c_seq (fun K7 hK7 => ?_)
    refine c_seq (fun K8 hK8 => ?_)
    refine c_region ?_
    refine r_y rfl rfl (y_assign rfl) ?_
    refine r_nil ?_
    refine hK8 _ _ _ ?_
    clear hK8 K8
    refine c_block ?_
    refine c_loopx (α := Nat × Sl) (fun vv => match vv with | (i, sv) => [(0, .agg (encCube c).toArray), (1, .int .i64 n1), (2, .int .i64 n2), (3, .int .i64 n3), (4, .int .i64 n4), (5, .pointer (some ⟨b0, 0, none⟩)), (11, sv.v), (13, .int .i64 (i : Nat))]) (fun vv => match vv with | (i, sv) => .vec sv.a sv.n sv.cap 5 1 (bytes1 (whead c.value ++ wputs 8 ((headL c.care).take i))) :: .blk b0 (.cells (encCube c).toArray 29) :: H) (fun k1 vv m1 => match vv with | (i, sv) => (i + k1 = 12 ∧ sv.n = (whead c.value ++ wputs 8 ((headL c.care).take i)).length) ∧ m.le m1) (12) (0, sv) ⟨rfl, rfl, rfl, rfl, rfl, rfl, rfl, rfl, trivial⟩ (by simp only [List.take_zero, wputs, List.append_nil] <;> rfl) ⟨⟨by omega, by rw [hsn]; simp [wputs, whead, headL]⟩, hm⟩ ?_
    clear hm
    rintro k1 ⟨i, sv⟩ m1 ⟨hi1, hm⟩
    obtain ⟨hi, hsn⟩ := hi1
    have hsl : sv.n ≤ 192 := by rw [hsn]; simp [headL]; omega
    refine c_seq (fun K9 hK9 => ?_)
    refine c_seq (fun K10 hK10 => ?_)
    refine c_region ?_
    refine r_y rfl rfl (y_move rfl) ?_
    refine r_y rfl rfl (y_iop rfl rfl rfl) ?_
    refine r_nil ?_
    refine hK10 _ _ _ ?_
    clear hK10 K10
    refine c_cond rfl (fun h1 => ?_) (fun h1 => ?_)
    ·
      have hlt : i < 12 := by simp at h1; omega
      refine c_skip ?_
      refine hK9 _ _ _ ?_
      clear hK9 K9
      refine c_seq (fun K11 hK11 => ?_)
      refine c_block ?_
      refine c_region ?_
      refine r_y rfl rfl (y_move rfl) ?_
      refine r_y rfl rfl (y_move rfl) ?_
      refine r_y rfl rfl (y_fieldAddr rfl At.lit fo29_1 rfl) ?_
      refine r_y rfl rfl (y_indexAddr_arr rfl rfl ta27 hlt At.lit) ?_
      refine r_y rfl rfl (y_load_s rfl ts25 (RdS.blk (i := 1) rfl (cget_care _ _ hlt))) ?_
      refine r_s rfl ?_
      refine s_call0 rfl Try.call66 rfl (rNum_w (c.care.at i) 8 _ _ (by decide)) ?_
      rintro _ m2 _ hm2 ⟨sn, rfl, hzsn, hosn, rfl⟩
      replace hm := hm.trans hm2
      clear hm2
      have hlsn := Fz.lenB hzsn
      rw [wput_len] at hlsn
      refine r_s rfl ?_
      refine s_append rfl rfl rfl tl22 zo5 tb5 (i := 0) rfl (Src.fz hzsn (one_bytes _) hosn) (by omega) (by unfold maxLen; omega) (fun a1 c1 => ?_)
      refine r_y rfl rfl (y_assign rfl) ?_
      refine r_nil ?_
      refine hK11 _ _ _ ?_
      clear hK11 K11
      refine c_region ?_
      refine r_y rfl rfl (y_move rfl) ?_
      first | refine r_y rfl rfl (y_inc rfl (by omega)) ?_ | refine r_y rfl rfl (y_iop rfl rfl rfl) ?_
      refine r_y rfl rfl (y_assign rfl) ?_
      refine r_nil ?_
      exact ⟨k1 - 1, (i + 1, ⟨a1, sv.n + sn.n, c1⟩), by omega, ⟨rfl, rfl, rfl, rfl, rfl, rfl, rfl, rfl, trivial⟩, (by simp only [← whead_step _ hlt, ← List.append_assoc, bytes1_append] <;> rfl), ⟨by omega, by simp only [hsn, hlsn, ← whead_step _ hlt, List.length_append, wput_len]; try omega⟩, hm⟩
    ·
      obtain rfl : i = 12 := by simp at h1; omega
      refine c_exit ?_
      refine hK7 _ _ _ ?_
      clear hK9 K9 hK7 K7
      refine c_seq (fun K12 hK12 => ?_)
      refine c_region ?_
      refine r_y rfl rfl (y_move rfl) ?_
      refine r_y rfl rfl (y_move rfl) ?_
      refine r_y rfl rfl (y_conv_iw rfl un3 un25) ?_
      refine r_s rfl ?_
      refine s_call0 rfl Try.call66 rfl (rNum_w (iw n1) 2 _ _ (by decide)) ?_
      rintro _ m2 _ hm2 ⟨s2, rfl, hzs2, hos2, rfl⟩
      replace hm := hm.trans hm2
      clear hm2
      have hls2 := Fz.lenB hzs2
      rw [wput_len] at hls2
      refine r_s rfl ?_
      refine s_append rfl rfl rfl tl22 zo5 tb5 (i := 0) rfl (Src.fz hzs2 (one_bytes _) hos2) (by omega) (by unfold maxLen; omega) (fun a2 c2 => ?_)
      refine r_y rfl rfl (y_assign rfl) ?_
      refine r_nil ?_
      refine hK12 _ _ _ ?_
      clear hK12 K12
      refine c_seq (fun K13 hK13 => ?_)
      refine c_region ?_
      refine r_y rfl rfl (y_move rfl) ?_
      refine r_y rfl rfl (y_move rfl) ?_
      refine r_y rfl rfl (y_conv_iw rfl un3 un25) ?_
      refine r_s rfl ?_
      refine s_call0 rfl Try.call66 rfl (rNum_w (iw n2) 4 _ _ (by decide)) ?_
      rintro _ m2 _ hm2 ⟨s3, rfl, hzs3, hos3, rfl⟩
      replace hm := hm.trans hm2
      replace hzs2 := hzs2.mono hm2
      clear hm2
      have hls3 := Fz.lenB hzs3
      rw [wput_len] at hls3
      refine r_s rfl ?_
      refine s_append rfl rfl rfl tl22 zo5 tb5 (i := 0) rfl (Src.fz hzs3 (one_bytes _) hos3) (by omega) (by unfold maxLen; omega) (fun a3 c3 => ?_)
      refine r_y rfl rfl (y_assign rfl) ?_
      refine r_nil ?_
      refine hK13 _ _ _ ?_
      clear hK13 K13
      refine c_seq (fun K14 hK14 => ?_)
      refine c_region ?_
      refine r_y rfl rfl (y_move rfl) ?_
      refine r_y rfl rfl (y_move rfl) ?_
      refine r_y rfl rfl (y_conv_iw rfl un3 un25) ?_
      refine r_s rfl ?_
      refine s_call0 rfl Try.call66 rfl (rNum_w (iw n3) 4 _ _ (by decide)) ?_
      rintro _ m2 _ hm2 ⟨s4, rfl, hzs4, hos4, rfl⟩
      replace hm := hm.trans hm2
      replace hzs2 := hzs2.mono hm2
      replace hzs3 := hzs3.mono hm2
      clear hm2
      have hls4 := Fz.lenB hzs4
      rw [wput_len] at hls4
      refine r_s rfl ?_
      refine s_append rfl rfl rfl tl22 zo5 tb5 (i := 0) rfl (Src.fz hzs4 (one_bytes _) hos4) (by omega) (by unfold maxLen; omega) (fun a4 c4 => ?_)
      refine r_y rfl rfl (y_assign rfl) ?_
      refine r_nil ?_
      refine hK14 _ _ _ ?_
      clear hK14 K14
      refine c_seq (fun K15 hK15 => ?_)
      refine c_region ?_
      refine r_y rfl rfl (y_move rfl) ?_
      refine r_y rfl rfl (y_move rfl) ?_
      refine r_y rfl rfl (y_conv_i8 rfl un3 un5) ?_
      refine r_s rfl ?_
      refine s_buildSlice (cs := [bv (b8 n4)]) (e := 5) rfl rfl (fun _ => by kernel_rfl) (fun b1 => ?_)
      refine r_s rfl ?_
      refine s_append rfl rfl rfl tl22 zo5 tb5 (i := 1) rfl (Src.one' (i := 0) rfl rfl (by simp [bv, Value.oneCell'])) (by omega) (by unfold maxLen; omega) (fun a5 c5 => ?_)
      refine r_del 0 rfl ?_
      refine r_freezeVec (i := 0) rfl rfl (fun m3 hm3 hzv hov => ?_)
      replace hm := hm.trans hm3
      replace hzs2 := hzs2.mono hm3
      replace hzs3 := hzs3.mono hm3
      replace hzs4 := hzs4.mono hm3
      clear hm3
      refine r_y rfl rfl (y_assign rfl) ?_
      refine r_nil ?_
      refine hK15 _ _ _ ?_
      clear hK15 K15
      refine c_ret ?_
      refine e_ret 1 hm (res_tmps rfl) ?_
      refine ⟨⟨a5, _, c5⟩, rfl, ?_, hov, rfl⟩
      show Fz _ a5 _ c5 1 (bytes1 (wmatch c n1 n2 n3 n4))
      simpa [wmatch, whead, bytes1_append, bytes1_one, wput_b8, headL] using hzv
set_option maxRecDepth 100000 in
theorem rActs2_w (s1 : Sl) (l1 : List ActD) (m : Snap) (H : Hp) (hz : FzA m s1 l1) (hfit : l1.length ≤ 4294967296) : Fn Try.prog 68 [s1.v] m H (fun v m' H' => ∃ s' : Sl, v = s'.v ∧ FzB m' s' (wacts l1) ∧ s'.ok ∧ H' = H) := by
  have hl := hz.lenA
  have hmx := hz.max
  have hle := hz.le
  unfold maxLen at hmx
  have hm : m.le m := Snap.le.refl m
  refine fn_end Try.func68 rfl rfl rfl ?_
  refine c_seq (fun K0 hK0 => ?_)
  refine c_region ?_
  refine r_y rfl rfl (y_assign rfl) ?_
  refine r_nil ?_
  refine hK0 _ _ _ ?_
  clear hK0 K0
  refine c_seq (fun K1 hK1 => ?_)
  refine c_region ?_
  refine r_y rfl rfl (y_move rfl) ?_
  refine r_y rfl rfl (y_len tl30 rfl) ?_
  refine r_y rfl rfl (y_conv_i8 rfl un3 un5) ?_
  refine r_s rfl ?_
  refine s_buildSlice (cs := [bv (b8 (s1.n : Nat))]) (e := 5) rfl rfl (fun _ => by kernel_rfl) (fun b0 => ?_)
  refine r_toVec (i := 0) (s := 1) (k := 1) [[bv (b8 (s1.n : Nat))]] rfl rfl (fun c h => by simp at h; subst h; rfl) rfl (by unfold maxLen; omega) ?_
  refine r_y rfl rfl (y_assign rfl) ?_
  refine r_nil ?_
  refine hK1 _ _ _ ?_
  clear hK1 K1
  refine c_seq (fun K2 hK2 => ?_)
  refine c_seq (fun K3 hK3 => ?_)
  refine c_region ?_
  refine r_y rfl rfl (y_assign rfl) ?_
  refine r_nil ?_
  refine hK3 _ _ _ ?_
  clear hK3 K3
  refine c_block ?_
  refine c_loopx (α := Nat × Sl) (fun vv => match vv with | (i, sv) => [(0, s1.v), (3, sv.v), (4, .int .i64 (i : Nat))]) (fun vv => match vv with | (i, sv) => .vec sv.a sv.n sv.cap 5 1 (bytes1 ([b8 (s1.n : Nat)] ++ wactsL (l1.take i))) :: H) (fun k0 vv m1 => match vv with | (i, sv) => (i + k0 = s1.n ∧ sv.n = ([b8 (s1.n : Nat)] ++ wactsL (l1.take i)).length) ∧ m.le m1 ∧ (FzA m1 s1 l1)) (s1.n) (0, ⟨some ⟨b0, 0, none⟩, 1, 1⟩) ⟨rfl, rfl, rfl, trivial⟩ (by simp only [List.take_zero, wactsL, List.append_nil] <;> rfl) ⟨⟨by omega, rfl⟩, hm, hz⟩ ?_
  clear hm hz
  rintro k0 ⟨i, sv⟩ m1 ⟨hi0, hm, hz⟩
  obtain ⟨hi, hsn⟩ := hi0
  have hsl : sv.n = 1 + 11 * i := by rw [hsn]; simp; omega
  refine c_seq (fun K4 hK4 => ?_)
  refine c_seq (fun K5 hK5 => ?_)
  refine c_region ?_
  refine r_y rfl rfl (y_move rfl) ?_
  refine r_y rfl rfl (y_move rfl) ?_
  refine r_y rfl rfl (y_len tl30 rfl) ?_
  refine r_y rfl rfl (y_iop rfl rfl rfl) ?_
  refine r_nil ?_
  refine hK5 _ _ _ ?_
  clear hK5 K5
  refine c_cond rfl (fun h0 => ?_) (fun h0 => ?_)
  ·
    have hlt : i < s1.n := by simp at h0; omega
    obtain ⟨x, hx⟩ := get_of_lt (l := l1) (k := i) (by omega)
    refine c_skip ?_
    refine hK4 _ _ _ ?_
    clear hK4 K4
    refine c_seq (fun K6 hK6 => ?_)
    refine c_block ?_
    refine c_seq (fun K7 hK7 => ?_)
    refine c_draw ([]) (by kernel_rfl) (fun hg => ?_)
    have hz_g := hz
    refine g_y (i := 0) (listed' := #[true, false, false, false, false, false, false, false, false, false, false, false, false, false, false, false, false, false, false, false, false, false]) rfl (by kernel_rfl) (by kernel_rfl) (by kernel_rfl) (by kernel_rfl) rfl rfl hg alln (fun m' H' hm' hX' => y_move rfl) ?_
    refine g_y (i := 1) (listed' := #[true, true, false, false, false, false, false, false, false, false, false, false, false, false, false, false, false, false, false, false, false, false]) rfl (by kernel_rfl) (by kernel_rfl) (by kernel_rfl) (by kernel_rfl) rfl rfl hg alln (fun m' H' hm' hX' => y_move rfl) ?_
    refine g_y (i := 2) (listed' := #[true, true, true, false, false, false, false, false, false, false, false, false, false, false, false, false, false, false, false, false, false, false]) rfl (by kernel_rfl) (by kernel_rfl) (by kernel_rfl) (by kernel_rfl) rfl rfl hg alln (fun m' H' hm' hX' => y_move rfl) ?_
    refine g_y (i := 3) (listed' := #[true, true, true, true, false, false, false, false, false, false, false, false, false, false, false, false, false, false, false, false, false, false]) rfl (by kernel_rfl) (by kernel_rfl) (by kernel_rfl) (by kernel_rfl) rfl rfl hg alln (fun m' H' hm' hX' => y_indexAddr_slice rfl rfl tl30 hlt (At.fz (hz_g.mono hm') hlt)) ?_
    refine g_y (i := 4) (listed' := #[true, true, true, true, true, false, false, false, false, false, false, false, false, false, false, false, false, false, false, false, false, false]) rfl (by kernel_rfl) (by kernel_rfl) (by kernel_rfl) (by kernel_rfl) rfl rfl hg alln (fun m' H' hm' hX' => y_fieldAddr rfl ((At.fz (hz_g.mono hm') hlt).eadd) fo53_0 (eadd_eadd _ _ _)) ?_
    refine g_y (i := 5) (listed' := #[true, true, true, true, true, true, false, false, false, false, false, false, false, false, false, false, false, false, false, false, false, false]) rfl (by kernel_rfl) (by kernel_rfl) (by kernel_rfl) (by kernel_rfl) rfl rfl hg alln (fun m' H' hm' hX' => y_load_s rfl ts3 (RdS.fz (hz_g.mono hm') (map_get hx) rfl)) ?_
    refine g_y (i := 6) (listed' := #[true, true, true, true, true, true, true, false, false, false, false, false, false, false, false, false, false, false, false, false, false, false]) rfl (by kernel_rfl) (by kernel_rfl) (by kernel_rfl) (by kernel_rfl) rfl rfl hg alln (fun m' H' hm' hX' => y_conv_i8 rfl un3 un5) ?_
    refine g_y (i := 7) (listed' := #[true, true, true, true, true, true, true, true, false, false, false, false, false, false, false, false, false, false, false, false, false, false]) rfl (by kernel_rfl) (by kernel_rfl) (by kernel_rfl) (by kernel_rfl) rfl rfl hg alln (fun m' H' hm' hX' => y_move rfl) ?_
    refine g_y (i := 8) (listed' := #[true, true, true, true, true, true, true, true, true, false, false, false, false, false, false, false, false, false, false, false, false, false]) rfl (by kernel_rfl) (by kernel_rfl) (by kernel_rfl) (by kernel_rfl) rfl rfl hg alln (fun m' H' hm' hX' => y_move rfl) ?_
    refine g_y (i := 9) (listed' := #[true, true, true, true, true, true, true, true, true, true, false, false, false, false, false, false, false, false, false, false, false, false]) rfl (by kernel_rfl) (by kernel_rfl) (by kernel_rfl) (by kernel_rfl) rfl rfl hg alln (fun m' H' hm' hX' => y_indexAddr_slice rfl rfl tl30 hlt (At.fz (hz_g.mono hm') hlt)) ?_
    refine g_y (i := 10) (listed' := #[true, true, true, true, true, true, true, true, true, true, true, false, false, false, false, false, false, false, false, false, false, false]) rfl (by kernel_rfl) (by kernel_rfl) (by kernel_rfl) (by kernel_rfl) rfl rfl hg alln (fun m' H' hm' hX' => y_fieldAddr rfl ((At.fz (hz_g.mono hm') hlt).eadd) fo53_1 (eadd_eadd _ _ _)) ?_
    refine g_y (i := 11) (listed' := #[true, true, true, true, true, true, true, true, true, true, true, true, false, false, false, false, false, false, false, false, false, false]) rfl (by kernel_rfl) (by kernel_rfl) (by kernel_rfl) (by kernel_rfl) rfl rfl hg alln (fun m' H' hm' hX' => y_load_s rfl ts3 (RdS.fz (hz_g.mono hm') (map_get hx) rfl)) ?_
    refine g_y (i := 12) (listed' := #[true, true, true, true, true, true, true, true, true, true, true, true, true, false, false, false, false, false, false, false, false, false]) rfl (by kernel_rfl) (by kernel_rfl) (by kernel_rfl) (by kernel_rfl) rfl rfl hg alln (fun m' H' hm' hX' => y_conv_i8 rfl un3 un5) ?_
    refine g_y (i := 13) (listed' := #[true, true, true, true, true, true, true, true, true, true, true, true, true, true, false, false, false, false, false, false, false, false]) rfl (by kernel_rfl) (by kernel_rfl) (by kernel_rfl) (by kernel_rfl) rfl rfl hg alln (fun m' H' hm' hX' => y_move rfl) ?_
    refine g_y (i := 14) (listed' := #[true, true, true, true, true, true, true, true, true, true, true, true, true, true, true, false, false, false, false, false, false, false]) rfl (by kernel_rfl) (by kernel_rfl) (by kernel_rfl) (by kernel_rfl) rfl rfl hg alln (fun m' H' hm' hX' => y_move rfl) ?_
    refine g_y (i := 15) (listed' := #[true, true, true, true, true, true, true, true, true, true, true, true, true, true, true, true, false, false, false, false, false, false]) rfl (by kernel_rfl) (by kernel_rfl) (by kernel_rfl) (by kernel_rfl) rfl rfl hg alln (fun m' H' hm' hX' => y_indexAddr_slice rfl rfl tl30 hlt (At.fz (hz_g.mono hm') hlt)) ?_
    refine g_y (i := 16) (listed' := #[true, true, true, true, true, true, true, true, true, true, true, true, true, true, true, true, true, false, false, false, false, false]) rfl (by kernel_rfl) (by kernel_rfl) (by kernel_rfl) (by kernel_rfl) rfl rfl hg alln (fun m' H' hm' hX' => y_fieldAddr rfl ((At.fz (hz_g.mono hm') hlt).eadd) fo53_2 (eadd_eadd _ _ _)) ?_
    refine g_y (i := 17) (listed' := #[true, true, true, true, true, true, true, true, true, true, true, true, true, true, true, true, true, true, false, false, false, false]) rfl (by kernel_rfl) (by kernel_rfl) (by kernel_rfl) (by kernel_rfl) rfl rfl hg alln (fun m' H' hm' hX' => y_load_s rfl ts3 (RdS.fz (hz_g.mono hm') (map_get hx) rfl)) ?_
    refine g_y (i := 18) (listed' := #[true, true, true, true, true, true, true, true, true, true, true, true, true, true, true, true, true, true, true, false, false, false]) rfl (by kernel_rfl) (by kernel_rfl) (by kernel_rfl) (by kernel_rfl) rfl rfl hg alln (fun m' H' hm' hX' => y_conv_i8 rfl un3 un5) ?_
    refine g_s (i := 19) (listed' := #[true, true, true, true, true, true, true, true, true, true, true, true, true, true, true, true, true, true, true, true, false, false]) rfl (by kernel_rfl) (by kernel_rfl) rfl ?_
    refine s_buildSlice (cs := [bv (b8 x.kind), bv (b8 x.port), bv (b8 x.field)]) (e := 5) rfl rfl (fun _ => by kernel_rfl) (fun b1 => ?_)
    refine ⟨⟨hg, alln⟩, ?_⟩
    refine g_s (i := 20) (listed' := #[true, true, true, true, true, true, true, true, true, true, true, true, true, true, true, true, true, true, true, true, true, false]) rfl (by kernel_rfl) (by kernel_rfl) rfl ?_
    refine s_append rfl rfl rfl tl22 zo5 tb5 (i := 1) rfl (Src.blk (i := 0) (news := [[bv (b8 x.kind)], [bv (b8 x.port)], [bv (b8 x.field)]]) rfl rfl (by simp) (by simp [bv, Value.oneCell']) rfl) (by omega) (by unfold maxLen; omega) (fun a1 c1 => ?_)
    refine ⟨⟨hg, alln⟩, ?_⟩
    refine g_del 0 rfl ?_
    refine g_y (i := 21) (listed' := #[true, true, true, true, true, true, true, true, true, true, true, true, true, true, true, true, true, true, true, true, true, true]) rfl (by kernel_rfl) (by kernel_rfl) (by kernel_rfl) (by kernel_rfl) rfl rfl hg alln (fun m' H' hm' hX' => y_assign rfl) ?_
    refine g_done (by kernel_rfl) ?_
    clear hg hz_g
    refine hK7 _ _ _ ?_
    clear hK7 K7
    refine c_region ?_
    refine r_y rfl rfl (y_move rfl) ?_
    refine r_y rfl rfl (y_move rfl) ?_
    refine r_y rfl rfl (y_move rfl) ?_
    refine r_y rfl rfl (y_indexAddr_slice rfl rfl tl30 hlt (At.fz hz hlt)) ?_
    refine r_y rfl rfl (y_fieldAddr rfl ((At.fz hz hlt).eadd) fo53_3 (eadd_eadd _ _ _)) ?_
    refine r_y rfl rfl (y_load_s rfl ts25 (RdS.fz hz (map_get hx) rfl)) ?_
    refine r_s rfl ?_
    refine s_call0 rfl Try.call66 rfl (rNum_w x.val 8 _ _ (by decide)) ?_
    rintro _ m2 _ hm2 ⟨sn, rfl, hzsn, hosn, rfl⟩
    replace hm := hm.trans hm2
    replace hz := hz.mono hm2
    clear hm2
    have hlsn := Fz.lenB hzsn
    rw [wput_len] at hlsn
    refine r_s rfl ?_
    refine s_append rfl rfl rfl tl22 zo5 tb5 (i := 0) rfl (Src.fz hzsn (one_bytes _) hosn) (by omega) (by unfold maxLen; omega) (fun a2 c2 => ?_)
    refine r_y rfl rfl (y_assign rfl) ?_
    refine r_nil ?_
    refine hK6 _ _ _ ?_
    clear hK6 K6
    refine c_region ?_
    refine r_y rfl rfl (y_move rfl) ?_
    first | refine r_y rfl rfl (y_inc rfl (by omega)) ?_ | refine r_y rfl rfl (y_iop rfl rfl rfl) ?_
    refine r_y rfl rfl (y_assign rfl) ?_
    refine r_nil ?_
    exact ⟨k0 - 1, (i + 1, ⟨a2, sv.n + 3 + sn.n, c2⟩), by omega, ⟨rfl, rfl, rfl, trivial⟩, (by simp only [wacts_step hx, wput_b8, bytes1_append, bytes1_one, List.append_assoc] <;> rfl), ⟨by omega, by simp only [hsl, hlsn, wacts_step hx, List.length_append, wput_len, List.length_cons, List.length_nil, wactsL_len, List.length_take]; omega⟩, hm, hz⟩
  ·
    obtain rfl : i = s1.n := by simp at h0; omega
    refine c_exit ?_
    refine hK2 _ _ _ ?_
    clear hK4 K4 hK2 K2
    refine c_seq (fun K8 hK8 => ?_)
    refine c_region ?_
    refine r_freezeVec (i := 0) rfl rfl (fun m3 hm3 hzv hov => ?_)
    replace hm := hm.trans hm3
    replace hz := hz.mono hm3
    clear hm3
    refine r_y rfl rfl (y_move rfl) ?_
    refine r_y rfl rfl (y_assign rfl) ?_
    refine r_nil ?_
    refine hK8 _ _ _ ?_
    clear hK8 K8
    refine c_ret ?_
    refine e_ret 0 hm (res_tmps rfl) ?_
    refine ⟨sv, rfl, ?_, hov, rfl⟩
    have e : [b8 (s1.n : Nat)] ++ wactsL (l1.take s1.n) = wacts l1 := by rw [List.take_of_length_le (by omega), hl, ← wput_b8]; rfl
    rw [e] at hzv
    exact hzv
end Go.Aw
namespace Go.Aw
open Go
theorem enc_1 {x : MsgD} {l : List UInt8} (he : encode x = some l) (k : (x.kind == 1) = true) :
    l = [b8 x.kind] ++ wput (iw x.txn) 4 ++ [b8 x.mod.kind] ++ wmatch x.mod.m x.mod.prio x.mod.idle x.mod.hard x.mod.owner ++ [if x.mod.check then 1 else 0] ++ wacts x.mod.acts := by
  obtain ⟨hs, hr⟩ := encode_some he
  simp only [beq_iff_eq] at k
  unfold encode at he
  rw [if_neg (by simp [hs]; omega)] at he
  simp only [k, if_true, Option.some.injEq] at he
  rw [← he, k]
  have hf : wput (if x.mod.check = true then (1 : W) else 0) 1 = [if x.mod.check then 1 else 0] := by cases x.mod.check <;> rfl
  simp only [wmod, hf, wput_b8, List.append_assoc]
theorem enc_6 {x : MsgD} {l : List UInt8} (he : encode x = some l) (k : (x.kind == 6) = true) : l = [b8 x.kind] ++ wput (iw x.txn) 4 ++ [b8 x.e] := by
  obtain ⟨hs, hr⟩ := encode_some he
  simp only [beq_iff_eq] at k
  unfold encode at he
  rw [if_neg (by simp [hs]; omega)] at he
  simp only [k, Option.some.injEq] at he
  rw [← he, k]
  simp only [wput_b8, List.append_assoc]
  rfl
theorem enc_8 {x : MsgD} {l : List UInt8} (he : encode x = some l) (k : (x.kind == 8) = true) : l = [b8 x.kind] ++ wput (iw x.txn) 4 ++ [b8 x.port] ++ whead x.head := by
  obtain ⟨hs, hr⟩ := encode_some he
  simp only [beq_iff_eq] at k
  unfold encode at he
  rw [if_neg (by simp [hs]; omega)] at he
  simp only [k, Option.some.injEq] at he
  rw [← he, k]
  simp only [wput_b8, List.append_assoc]
  rfl
theorem enc_9 {x : MsgD} {l : List UInt8} (he : encode x = some l) (k : x.kind = 9 ∨ x.kind = 10) : l = [b8 x.kind] ++ wput (iw x.txn) 4 ++ wput (iw (x.rules.length : Nat)) 2 ++ wrulesL x.rules := by
  obtain ⟨hs, hr⟩ := encode_some he
  rw [encode_9 hs hr k] at he
  simp only [Option.some.injEq] at he
  rw [← he]
  simp only [wput_b8, wrules, List.append_assoc, List.nil_append]
theorem enc_o {x : MsgD} {l : List UInt8} (he : encode x = some l) (k1 : (x.kind == 1) = false) (k6 : (x.kind == 6) = false) (k8 : (x.kind == 8) = false) (k9 : (x.kind == 9) = false) (k10 : (x.kind == 10) = false) : l = [b8 x.kind] ++ wput (iw x.txn) 4 := by
  obtain ⟨hs, hr⟩ := encode_some he
  simp only [beq_eq_false_iff_ne] at k1 k6 k8 k9 k10
  unfold encode at he
  rw [if_neg (by simp [hs]; omega)] at he
  simp only [k1, k6, k8, k9, k10, if_false, or_self, Option.some.injEq, List.append_nil] at he
  rw [← he, wput_b8]
end Go.Aw
