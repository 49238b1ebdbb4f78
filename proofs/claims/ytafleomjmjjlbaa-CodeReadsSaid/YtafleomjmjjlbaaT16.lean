import Derived.Test.YtafleomjmjjlbaaT15
import Derived.Test.YtafleomjmjjlbaaData8
namespace Go.Aw
open Go Go.Proofs
theorem tl39 : tslice Try.prog 39 = some (35, 48) := by kernel_rfl
set_option maxRecDepth 100000 in
theorem rSameMsgs_w (s1 s2 : Sl) (l1 l2 : List MsgS) (m : Snap) (H : Hp) (hz1 : FzMs m s1 l1) (hz2 : FzMs m s2 l2) : Fn Try.prog 20 [s1.v, s2.v] m H (fun v _ H' => v = .bool (decide (l1.map (·.x) = l2.map (·.x))) ∧ H' = H) := by
  have hm : m.le m := Snap.le.refl m
  refine fn_end Try.func20 rfl rfl rfl ?_
  refine c_seq (fun K0 hK0 => ?_)
  refine c_region ?_
  refine r_y rfl rfl (y_assign rfl) ?_
  refine r_nil ?_
  refine hK0 _ _ _ ?_
  clear hK0 K0
  refine c_seq (fun K1 hK1 => ?_)
  refine c_seq (fun K2 hK2 => ?_)
  refine c_region ?_
  refine r_y rfl rfl (y_move rfl) ?_
  refine r_y rfl rfl (y_len tl39 rfl) ?_
  refine r_y rfl rfl (y_move rfl) ?_
  refine r_y rfl rfl (y_len tl39 rfl) ?_
  refine r_y rfl rfl (y_iop rfl rfl rfl) ?_
  refine r_nil ?_
  refine hK2 _ _ _ ?_
  clear hK2 K2
  refine c_cond rfl (fun h0 => ?_) (fun h0 => ?_)
  ·
    refine c_seq (fun K3 hK3 => ?_)
    refine c_region ?_
    refine r_y rfl rfl (y_assign rfl) ?_
    refine r_nil ?_
    refine hK3 _ _ _ ?_
    clear hK3 K3
    refine c_ret ?_
    refine e_ret 0 hm (res_tmps rfl) ?_
    refine ⟨congrArg Value.bool ?_, rfl⟩
    have hl1 := hz1.len; have hl2 := hz2.len
    have : s1.n ≠ s2.n := by simp at h0; omega
    exact (decide_eq_false (by intro e; have := congrArg List.length e; simp at this; omega)).symm
  ·
    have hl1 := hz1.len
    have hl2 := hz2.len
    have hne : s1.n = s2.n := by simp at h0; omega
    have hmx := hz1.fz.max
    have hle := hz1.fz.le
    unfold maxLen at hmx
    refine c_skip ?_
    refine hK1 _ _ _ ?_
    clear hK1 K1
    refine c_seq (fun K4 hK4 => ?_)
    refine c_seq (fun K5 hK5 => ?_)
    refine c_region ?_
    refine r_y rfl rfl (y_assign rfl) ?_
    refine r_nil ?_
    refine hK5 _ _ _ ?_
    clear hK5 K5
    refine c_block ?_
    refine c_loopx (α := Nat) (fun i => [(0, s1.v), (1, s2.v), (5, .int .i64 (i : Nat))]) (fun i => H) (fun k0 i m1 => (i + k0 = s1.n ∧ (l1.map (·.x)).take i = (l2.map (·.x)).take i) ∧ m.le m1 ∧ (FzMs m1 s1 l1) ∧ (FzMs m1 s2 l2)) (s1.n) 0 ⟨rfl, rfl, rfl, trivial⟩ rfl ⟨⟨by omega, rfl⟩, hm, hz1, hz2⟩ ?_
    clear hm hz1 hz2
    rintro k0 i m1 ⟨hi0, hm, hz1, hz2⟩
    obtain ⟨hi, hinv⟩ := hi0
    refine c_seq (fun K6 hK6 => ?_)
    refine c_seq (fun K7 hK7 => ?_)
    refine c_region ?_
    refine r_y rfl rfl (y_move rfl) ?_
    refine r_y rfl rfl (y_move rfl) ?_
    refine r_y rfl rfl (y_len tl39 rfl) ?_
    refine r_y rfl rfl (y_iop rfl rfl rfl) ?_
    refine r_nil ?_
    refine hK7 _ _ _ ?_
    clear hK7 K7
    refine c_cond rfl (fun h1 => ?_) (fun h1 => ?_)
    ·
      have hlt1 : i < s1.n := by simp at h1; omega
      have hlt2 : i < s2.n := by omega
      obtain ⟨x1, hx1⟩ := get_of_lt (l := l1) (k := i) (by omega)
      obtain ⟨x2, hx2⟩ := get_of_lt (l := l2) (k := i) (by omega)
      have hy1 : (l1.map (·.x))[i]? = some x1.x := map_get hx1
      have hy2 : (l2.map (·.x))[i]? = some x2.x := map_get hx2
      refine c_skip ?_
      refine hK6 _ _ _ ?_
      clear hK6 K6
      refine c_seq (fun K8 hK8 => ?_)
      refine c_block ?_
      refine c_seq (fun K9 hK9 => ?_)
      refine c_draw ([]) (by kernel_rfl) (fun hg => ?_)
      have hz1_g := hz1
      have hz2_g := hz2
      refine g_y (i := 0) (listed' := #[true, false, false, false, false, false, false, false, false, false, false, false]) rfl (by kernel_rfl) (by kernel_rfl) (by kernel_rfl) (by kernel_rfl) rfl rfl hg alln (fun m' H' hm' hX' => y_move rfl) ?_
      refine g_y (i := 1) (listed' := #[true, true, false, false, false, false, false, false, false, false, false, false]) rfl (by kernel_rfl) (by kernel_rfl) (by kernel_rfl) (by kernel_rfl) rfl rfl hg alln (fun m' H' hm' hX' => y_move rfl) ?_
      refine g_y (i := 2) (listed' := #[true, true, true, false, false, false, false, false, false, false, false, false]) rfl (by kernel_rfl) (by kernel_rfl) (by kernel_rfl) (by kernel_rfl) rfl rfl hg alln (fun m' H' hm' hX' => y_indexAddr_slice rfl rfl tl39 hlt1 (At.fz (hz1_g.fz.mono hm') hlt1)) ?_
      refine g_y (i := 3) (listed' := #[true, true, true, true, false, false, false, false, false, false, false, false]) rfl (by kernel_rfl) (by kernel_rfl) (by kernel_rfl) (by kernel_rfl) rfl rfl hg alln (fun m' H' hm' hX' => y_load_a rfl ts35 (RdA.fz0 (hz1_g.fz.mono hm') (map_get hx1))) ?_
      refine g_y (i := 4) (listed' := #[true, true, true, true, true, false, false, false, false, false, false, false]) rfl (by kernel_rfl) (by kernel_rfl) (by kernel_rfl) (by kernel_rfl) rfl rfl hg alln (fun m' H' hm' hX' => y_move rfl) ?_
      refine g_y (i := 5) (listed' := #[true, true, true, true, true, true, false, false, false, false, false, false]) rfl (by kernel_rfl) (by kernel_rfl) (by kernel_rfl) (by kernel_rfl) rfl rfl hg alln (fun m' H' hm' hX' => y_move rfl) ?_
      refine g_y (i := 6) (listed' := #[true, true, true, true, true, true, true, false, false, false, false, false]) rfl (by kernel_rfl) (by kernel_rfl) (by kernel_rfl) (by kernel_rfl) rfl rfl hg alln (fun m' H' hm' hX' => y_indexAddr_slice rfl rfl tl39 hlt2 (At.fz (hz2_g.fz.mono hm') hlt2)) ?_
      refine g_y (i := 7) (listed' := #[true, true, true, true, true, true, true, true, false, false, false, false]) rfl (by kernel_rfl) (by kernel_rfl) (by kernel_rfl) (by kernel_rfl) rfl rfl hg alln (fun m' H' hm' hX' => y_load_a rfl ts35 (RdA.fz0 (hz2_g.fz.mono hm') (map_get hx2))) ?_
      refine g_each (rs := [8, 9]) (by kernel_rfl) (by simp) ⟨⟨_, rfl, rfl, ?_⟩, ⟨_, rfl, rfl, ?_⟩, trivial⟩
      ·
        refine s_alloc rfl tz35 (fun b0 => ?_)
        refine ⟨⟨hg, alln⟩, ?_⟩
        refine g_s (i := 9) (listed' := #[true, true, true, true, true, true, true, true, true, true, false, false]) rfl (by kernel_rfl) (by kernel_rfl) rfl ?_
        refine s_alloc rfl tz35 (fun b1 => ?_)
        refine ⟨⟨hg, alln⟩, ?_⟩
        refine g_s (i := 10) (listed' := #[true, true, true, true, true, true, true, true, true, true, true, false]) rfl (by kernel_rfl) (by kernel_rfl) rfl ?_
        refine s_store (us := encMsg x1.x x1.sm x1.sr) rfl rfl rfl ts35 rfl rfl (one_msg _ _ _) (i := 1) rfl rfl ?_
        refine ⟨⟨hg, alln⟩, ?_⟩
        refine g_s (i := 11) (listed' := #[true, true, true, true, true, true, true, true, true, true, true, true]) rfl (by kernel_rfl) (by kernel_rfl) rfl ?_
        refine s_store (us := encMsg x2.x x2.sm x2.sr) rfl rfl rfl ts35 rfl rfl (one_msg _ _ _) (i := 0) rfl rfl ?_
        refine ⟨⟨hg, alln⟩, ?_⟩
        refine g_done (by kernel_rfl) ?_
        clear hg hz1_g hz2_g
        refine hK9 _ _ _ ?_
        clear hK9 K9
        refine c_seq (fun K10 hK10 => ?_)
        refine c_region ?_
        refine r_y rfl rfl (y_fieldAddr rfl At.lit fo35_0 rfl) ?_
        refine r_y rfl rfl (y_load_s rfl ts3 (RdS.blk (i := 1) rfl rfl)) ?_
        refine r_y rfl rfl (y_fieldAddr rfl At.lit fo35_0 rfl) ?_
        refine r_y rfl rfl (y_load_s rfl ts3 (RdS.blk (i := 0) rfl rfl)) ?_
        refine r_y rfl rfl (y_iop rfl rfl rfl) ?_
        refine r_y rfl rfl (y_move rfl) ?_
        refine r_split (j := 5) rfl (fun h2 => ?_) (fun h2 => ?_)
        ·
          refine r_no' rfl rfl h2 ?_
          refine r_no' rfl rfl h2 ?_
          refine r_no' rfl rfl h2 ?_
          refine r_no' rfl rfl h2 ?_
          refine r_no' rfl rfl h2 ?_
          refine r_y rfl rfl (y_pickt rfl h2 rfl) ?_
          refine r_y rfl rfl (y_move rfl) ?_
          refine r_no' rfl rfl rfl ?_
          refine r_no' rfl rfl rfl ?_
          refine r_no' rfl rfl rfl ?_
          refine r_no' rfl rfl rfl ?_
          refine r_no' rfl rfl rfl ?_
          refine r_y rfl rfl (y_pickt rfl rfl rfl) ?_
          refine r_y rfl rfl (y_move rfl) ?_
          refine r_no' rfl rfl rfl ?_
          refine r_no' rfl rfl rfl ?_
          refine r_no' rfl rfl rfl ?_
          refine r_no' rfl rfl rfl ?_
          refine r_no' rfl rfl rfl ?_
          refine r_no' rfl rfl rfl ?_
          refine r_y rfl rfl (y_pickt rfl rfl rfl) ?_
          refine r_y rfl rfl (y_move rfl) ?_
          refine r_no' rfl rfl rfl ?_
          refine r_no' rfl rfl rfl ?_
          refine r_no' rfl rfl rfl ?_
          refine r_no' rfl rfl rfl ?_
          refine r_no' rfl rfl rfl ?_
          refine r_y rfl rfl (y_pickt rfl rfl rfl) ?_
          refine r_y rfl rfl (y_move rfl) ?_
          refine r_no' rfl rfl rfl ?_
          refine r_no' rfl rfl rfl ?_
          refine r_no' rfl rfl rfl ?_
          refine r_no' rfl rfl rfl ?_
          refine r_no' rfl rfl rfl ?_
          refine r_y rfl rfl (y_pickt rfl rfl rfl) ?_
          refine r_y rfl rfl (y_move rfl) ?_
          refine r_no' rfl rfl rfl ?_
          refine r_no' rfl rfl rfl ?_
          refine r_no' rfl rfl rfl ?_
          refine r_no' rfl rfl rfl ?_
          refine r_no' rfl rfl rfl ?_
          refine r_no' rfl rfl rfl ?_
          refine r_y rfl rfl (y_pickt rfl rfl rfl) ?_
          refine r_nil ?_
          refine hK10 _ _ _ ?_
          clear hK10 K10
          refine c_ift rfl rfl ?_
          refine c_seq (fun K11 hK11 => ?_)
          refine c_region ?_
          refine r_y rfl rfl (y_assign rfl) ?_
          refine r_nil ?_
          refine hK11 _ _ _ ?_
          clear hK11 K11
          refine c_ret ?_
          refine e_ret 2 hm (res_tmps rfl) ?_
          refine ⟨congrArg Value.bool ?_, rfl⟩
          refine (decide_eq_false ?_).symm
          have hr1 := (hz1.ok x1 (List.mem_of_getElem? hx1)).eq
          have hr2 := (hz2.ok x2 (List.mem_of_getElem? hx2)).eq
          intro e
          have hxx : x1.x = x2.x := by rw [e, hy2] at hy1; exact (Option.some.inj hy1).symm
          have hr : x1.lr.map (·.1) = x2.lr.map (·.1) := by rw [← hr1, ← hr2, hxx]
          clear e hy1 hy2 hx1 hx2 hinv hr1 hr2 hz1 hz2
          simp_all [ceq_head]
        ·
          refine r_yg rfl h2 rfl (y_fieldAddr rfl At.lit fo35_1 rfl) ?_
          refine r_yg rfl h2 rfl (y_load_s rfl ts3 (RdS.blk (i := 1) rfl rfl)) ?_
          refine r_yg rfl h2 rfl (y_fieldAddr rfl At.lit fo35_1 rfl) ?_
          refine r_yg rfl h2 rfl (y_load_s rfl ts3 (RdS.blk (i := 0) rfl rfl)) ?_
          refine r_yg rfl h2 rfl (y_iop rfl rfl rfl) ?_
          refine r_y rfl rfl (y_pickf rfl h2 rfl) ?_
          refine r_y rfl rfl (y_move rfl) ?_
          refine r_split (j := 12) rfl (fun h3 => ?_) (fun h3 => ?_)
          ·
            refine r_no' rfl rfl h3 ?_
            refine r_no' rfl rfl h3 ?_
            refine r_no' rfl rfl h3 ?_
            refine r_no' rfl rfl h3 ?_
            refine r_no' rfl rfl h3 ?_
            refine r_y rfl rfl (y_pickt rfl h3 rfl) ?_
            refine r_y rfl rfl (y_move rfl) ?_
            refine r_no' rfl rfl rfl ?_
            refine r_no' rfl rfl rfl ?_
            refine r_no' rfl rfl rfl ?_
            refine r_no' rfl rfl rfl ?_
            refine r_no' rfl rfl rfl ?_
            refine r_no' rfl rfl rfl ?_
            refine r_y rfl rfl (y_pickt rfl rfl rfl) ?_
            refine r_y rfl rfl (y_move rfl) ?_
            refine r_no' rfl rfl rfl ?_
            refine r_no' rfl rfl rfl ?_
            refine r_no' rfl rfl rfl ?_
            refine r_no' rfl rfl rfl ?_
            refine r_no' rfl rfl rfl ?_
            refine r_y rfl rfl (y_pickt rfl rfl rfl) ?_
            refine r_y rfl rfl (y_move rfl) ?_
            refine r_no' rfl rfl rfl ?_
            refine r_no' rfl rfl rfl ?_
            refine r_no' rfl rfl rfl ?_
            refine r_no' rfl rfl rfl ?_
            refine r_no' rfl rfl rfl ?_
            refine r_y rfl rfl (y_pickt rfl rfl rfl) ?_
            refine r_y rfl rfl (y_move rfl) ?_
            refine r_no' rfl rfl rfl ?_
            refine r_no' rfl rfl rfl ?_
            refine r_no' rfl rfl rfl ?_
            refine r_no' rfl rfl rfl ?_
            refine r_no' rfl rfl rfl ?_
            refine r_no' rfl rfl rfl ?_
            refine r_y rfl rfl (y_pickt rfl rfl rfl) ?_
            refine r_nil ?_
            refine hK10 _ _ _ ?_
            clear hK10 K10
            refine c_ift rfl rfl ?_
            refine c_seq (fun K12 hK12 => ?_)
            refine c_region ?_
            refine r_y rfl rfl (y_assign rfl) ?_
            refine r_nil ?_
            refine hK12 _ _ _ ?_
            clear hK12 K12
            refine c_ret ?_
            refine e_ret 2 hm (res_tmps rfl) ?_
            refine ⟨congrArg Value.bool ?_, rfl⟩
            refine (decide_eq_false ?_).symm
            have hr1 := (hz1.ok x1 (List.mem_of_getElem? hx1)).eq
            have hr2 := (hz2.ok x2 (List.mem_of_getElem? hx2)).eq
            intro e
            have hxx : x1.x = x2.x := by rw [e, hy2] at hy1; exact (Option.some.inj hy1).symm
            have hr : x1.lr.map (·.1) = x2.lr.map (·.1) := by rw [← hr1, ← hr2, hxx]
            clear e hy1 hy2 hx1 hx2 hinv hr1 hr2 hz1 hz2
            simp_all [ceq_head]
          ·
            refine r_yg rfl h3 rfl (y_fieldAddr rfl At.lit fo35_2 rfl) ?_
            refine r_yg rfl h3 rfl (y_load_s rfl ts24 (RdS.blk (i := 1) rfl rfl)) ?_
            refine r_yg rfl h3 rfl (y_fieldAddr rfl At.lit fo35_2 rfl) ?_
            refine r_yg rfl h3 rfl (y_load_s rfl ts24 (RdS.blk (i := 0) rfl rfl)) ?_
            refine r_yg rfl h3 rfl (y_iop rfl rfl rfl) ?_
            refine r_y rfl rfl (y_pickf rfl h3 rfl) ?_
            refine r_y rfl rfl (y_move rfl) ?_
            refine r_split (j := 19) rfl (fun h4 => ?_) (fun h4 => ?_)
            ·
              refine r_no' rfl rfl h4 ?_
              refine r_no' rfl rfl h4 ?_
              refine r_no' rfl rfl h4 ?_
              refine r_no' rfl rfl h4 ?_
              refine r_no' rfl rfl h4 ?_
              refine r_no' rfl rfl h4 ?_
              refine r_y rfl rfl (y_pickt rfl h4 rfl) ?_
              refine r_y rfl rfl (y_move rfl) ?_
              refine r_no' rfl rfl rfl ?_
              refine r_no' rfl rfl rfl ?_
              refine r_no' rfl rfl rfl ?_
              refine r_no' rfl rfl rfl ?_
              refine r_no' rfl rfl rfl ?_
              refine r_y rfl rfl (y_pickt rfl rfl rfl) ?_
              refine r_y rfl rfl (y_move rfl) ?_
              refine r_no' rfl rfl rfl ?_
              refine r_no' rfl rfl rfl ?_
              refine r_no' rfl rfl rfl ?_
              refine r_no' rfl rfl rfl ?_
              refine r_no' rfl rfl rfl ?_
              refine r_y rfl rfl (y_pickt rfl rfl rfl) ?_
              refine r_y rfl rfl (y_move rfl) ?_
              refine r_no' rfl rfl rfl ?_
              refine r_no' rfl rfl rfl ?_
              refine r_no' rfl rfl rfl ?_
              refine r_no' rfl rfl rfl ?_
              refine r_no' rfl rfl rfl ?_
              refine r_no' rfl rfl rfl ?_
              refine r_y rfl rfl (y_pickt rfl rfl rfl) ?_
              refine r_nil ?_
              refine hK10 _ _ _ ?_
              clear hK10 K10
              refine c_ift rfl rfl ?_
              refine c_seq (fun K13 hK13 => ?_)
              refine c_region ?_
              refine r_y rfl rfl (y_assign rfl) ?_
              refine r_nil ?_
              refine hK13 _ _ _ ?_
              clear hK13 K13
              refine c_ret ?_
              refine e_ret 2 hm (res_tmps rfl) ?_
              refine ⟨congrArg Value.bool ?_, rfl⟩
              refine (decide_eq_false ?_).symm
              have hr1 := (hz1.ok x1 (List.mem_of_getElem? hx1)).eq
              have hr2 := (hz2.ok x2 (List.mem_of_getElem? hx2)).eq
              intro e
              have hxx : x1.x = x2.x := by rw [e, hy2] at hy1; exact (Option.some.inj hy1).symm
              have hr : x1.lr.map (·.1) = x2.lr.map (·.1) := by rw [← hr1, ← hr2, hxx]
              clear e hy1 hy2 hx1 hx2 hinv hr1 hr2 hz1 hz2
              simp_all [ceq_head]
            ·
              refine r_yg rfl h4 rfl (y_fieldAddr rfl At.lit fo35_3 rfl) ?_
              refine r_yg rfl h4 rfl (y_load_a (cs := encMod x1.x.mod x1.sm) rfl ts32 (RdA.blk (i := 1) rfl rfl)) ?_
              refine r_yg rfl h4 rfl (y_fieldAddr rfl At.lit fo35_3 rfl) ?_
              refine r_yg rfl h4 rfl (y_load_a (cs := encMod x2.x.mod x2.sm) rfl ts32 (RdA.blk (i := 0) rfl rfl)) ?_
              refine r_sg rfl h4 ?_
              refine s_call0 rfl Try.call40 rfl (rSameMods_w x1.x.mod x2.x.mod x1.sm x2.sm _ _ (hz1.ok x1 (List.mem_of_getElem? hx1)).mod (hz2.ok x2 (List.mem_of_getElem? hx2)).mod) ?_
              rintro _ m2 _ hm2 ⟨rfl, rfl⟩
              replace hm := hm.trans hm2
              replace hz1 := hz1.mono hm2
              replace hz2 := hz2.mono hm2
              clear hm2
              refine r_yg rfl h4 rfl (y_not rfl) ?_
              refine r_y rfl rfl (y_pickf rfl h4 rfl) ?_
              refine r_y rfl rfl (y_move rfl) ?_
              refine r_split (j := 27) rfl (fun h5 => ?_) (fun h5 => ?_)
              ·
                refine r_no' rfl rfl h5 ?_
                refine r_no' rfl rfl h5 ?_
                refine r_no' rfl rfl h5 ?_
                refine r_no' rfl rfl h5 ?_
                refine r_no' rfl rfl h5 ?_
                refine r_y rfl rfl (y_pickt rfl h5 rfl) ?_
                refine r_y rfl rfl (y_move rfl) ?_
                refine r_no' rfl rfl rfl ?_
                refine r_no' rfl rfl rfl ?_
                refine r_no' rfl rfl rfl ?_
                refine r_no' rfl rfl rfl ?_
                refine r_no' rfl rfl rfl ?_
                refine r_y rfl rfl (y_pickt rfl rfl rfl) ?_
                refine r_y rfl rfl (y_move rfl) ?_
                refine r_no' rfl rfl rfl ?_
                refine r_no' rfl rfl rfl ?_
                refine r_no' rfl rfl rfl ?_
                refine r_no' rfl rfl rfl ?_
                refine r_no' rfl rfl rfl ?_
                refine r_no' rfl rfl rfl ?_
                refine r_y rfl rfl (y_pickt rfl rfl rfl) ?_
                refine r_nil ?_
                refine hK10 _ _ _ ?_
                clear hK10 K10
                refine c_ift rfl rfl ?_
                refine c_seq (fun K14 hK14 => ?_)
                refine c_region ?_
                refine r_y rfl rfl (y_assign rfl) ?_
                refine r_nil ?_
                refine hK14 _ _ _ ?_
                clear hK14 K14
                refine c_ret ?_
                refine e_ret 2 hm (res_tmps rfl) ?_
                refine ⟨congrArg Value.bool ?_, rfl⟩
                refine (decide_eq_false ?_).symm
                have hr1 := (hz1.ok x1 (List.mem_of_getElem? hx1)).eq
                have hr2 := (hz2.ok x2 (List.mem_of_getElem? hx2)).eq
                intro e
                have hxx : x1.x = x2.x := by rw [e, hy2] at hy1; exact (Option.some.inj hy1).symm
                have hr : x1.lr.map (·.1) = x2.lr.map (·.1) := by rw [← hr1, ← hr2, hxx]
                clear e hy1 hy2 hx1 hx2 hinv hr1 hr2 hz1 hz2
                simp_all [ceq_head]
              ·
                refine r_yg rfl h5 rfl (y_fieldAddr rfl At.lit fo35_4 rfl) ?_
                refine r_yg rfl h5 rfl (y_load_s rfl ts3 (RdS.blk (i := 1) rfl rfl)) ?_
                refine r_yg rfl h5 rfl (y_fieldAddr rfl At.lit fo35_4 rfl) ?_
                refine r_yg rfl h5 rfl (y_load_s rfl ts3 (RdS.blk (i := 0) rfl rfl)) ?_
                refine r_yg rfl h5 rfl (y_iop rfl rfl rfl) ?_
                refine r_y rfl rfl (y_pickf rfl h5 rfl) ?_
                refine r_y rfl rfl (y_move rfl) ?_
                refine r_split (j := 34) rfl (fun h6 => ?_) (fun h6 => ?_)
                ·
                  refine r_no' rfl rfl h6 ?_
                  refine r_no' rfl rfl h6 ?_
                  refine r_no' rfl rfl h6 ?_
                  refine r_no' rfl rfl h6 ?_
                  refine r_no' rfl rfl h6 ?_
                  refine r_y rfl rfl (y_pickt rfl h6 rfl) ?_
                  refine r_y rfl rfl (y_move rfl) ?_
                  refine r_no' rfl rfl rfl ?_
                  refine r_no' rfl rfl rfl ?_
                  refine r_no' rfl rfl rfl ?_
                  refine r_no' rfl rfl rfl ?_
                  refine r_no' rfl rfl rfl ?_
                  refine r_no' rfl rfl rfl ?_
                  refine r_y rfl rfl (y_pickt rfl rfl rfl) ?_
                  refine r_nil ?_
                  refine hK10 _ _ _ ?_
                  clear hK10 K10
                  refine c_ift rfl rfl ?_
                  refine c_seq (fun K15 hK15 => ?_)
                  refine c_region ?_
                  refine r_y rfl rfl (y_assign rfl) ?_
                  refine r_nil ?_
                  refine hK15 _ _ _ ?_
                  clear hK15 K15
                  refine c_ret ?_
                  refine e_ret 2 hm (res_tmps rfl) ?_
                  refine ⟨congrArg Value.bool ?_, rfl⟩
                  refine (decide_eq_false ?_).symm
                  have hr1 := (hz1.ok x1 (List.mem_of_getElem? hx1)).eq
                  have hr2 := (hz2.ok x2 (List.mem_of_getElem? hx2)).eq
                  intro e
                  have hxx : x1.x = x2.x := by rw [e, hy2] at hy1; exact (Option.some.inj hy1).symm
                  have hr : x1.lr.map (·.1) = x2.lr.map (·.1) := by rw [← hr1, ← hr2, hxx]
                  clear e hy1 hy2 hx1 hx2 hinv hr1 hr2 hz1 hz2
                  simp_all [ceq_head]
                ·
                  refine r_yg rfl h6 rfl (y_fieldAddr rfl At.lit fo35_5 rfl) ?_
                  refine r_yg rfl h6 rfl (y_load_a (cs := encHead x1.x.head) rfl ts27 (RdA.blk (i := 1) rfl rfl)) ?_
                  refine r_yg rfl h6 rfl (y_fieldAddr rfl At.lit fo35_5 rfl) ?_
                  refine r_yg rfl h6 rfl (y_load_a (cs := encHead x2.x.head) rfl ts27 (RdA.blk (i := 0) rfl rfl)) ?_
                  refine r_yg rfl h6 rfl (y_neagg (dd := 6)  rfl rfl en27 ia27 rfl Try.eqGuardType27 rfl (alike_head _ _)) ?_
                  refine r_y rfl rfl (y_pickf rfl h6 rfl) ?_
                  refine r_y rfl rfl (y_move rfl) ?_
                  refine r_split (j := 41) rfl (fun h7 => ?_) (fun h7 => ?_)
                  ·
                    refine r_no' rfl rfl h7 ?_
                    refine r_no' rfl rfl h7 ?_
                    refine r_no' rfl rfl h7 ?_
                    refine r_no' rfl rfl h7 ?_
                    refine r_no' rfl rfl h7 ?_
                    refine r_no' rfl rfl h7 ?_
                    refine r_y rfl rfl (y_pickt rfl h7 rfl) ?_
                    refine r_nil ?_
                    refine hK10 _ _ _ ?_
                    clear hK10 K10
                    refine c_ift rfl rfl ?_
                    refine c_seq (fun K16 hK16 => ?_)
                    refine c_region ?_
                    refine r_y rfl rfl (y_assign rfl) ?_
                    refine r_nil ?_
                    refine hK16 _ _ _ ?_
                    clear hK16 K16
                    refine c_ret ?_
                    refine e_ret 2 hm (res_tmps rfl) ?_
                    refine ⟨congrArg Value.bool ?_, rfl⟩
                    refine (decide_eq_false ?_).symm
                    have hr1 := (hz1.ok x1 (List.mem_of_getElem? hx1)).eq
                    have hr2 := (hz2.ok x2 (List.mem_of_getElem? hx2)).eq
                    intro e
                    have hxx : x1.x = x2.x := by rw [e, hy2] at hy1; exact (Option.some.inj hy1).symm
                    have hr : x1.lr.map (·.1) = x2.lr.map (·.1) := by rw [← hr1, ← hr2, hxx]
                    clear e hy1 hy2 hx1 hx2 hinv hr1 hr2 hz1 hz2
                    simp_all [ceq_head]
                  ·
                    refine r_yg rfl h7 rfl (y_fieldAddr rfl At.lit fo35_6 rfl) ?_
                    refine r_yg rfl h7 rfl (y_load_s rfl ts33 (RdS.blk (i := 1) rfl rfl)) ?_
                    refine r_yg rfl h7 rfl (y_fieldAddr rfl At.lit fo35_6 rfl) ?_
                    refine r_yg rfl h7 rfl (y_load_s rfl ts33 (RdS.blk (i := 0) rfl rfl)) ?_
                    refine r_sg rfl h7 ?_
                    refine s_call0 rfl Try.call35 rfl (rSame_w x1.sr x2.sr x1.lr x2.lr _ _ (hz1.ok x1 (List.mem_of_getElem? hx1)).rules (hz2.ok x2 (List.mem_of_getElem? hx2)).rules) ?_
                    rintro _ m2 _ hm2 ⟨rfl, rfl⟩
                    replace hm := hm.trans hm2
                    replace hz1 := hz1.mono hm2
                    replace hz2 := hz2.mono hm2
                    clear hm2
                    refine r_yg rfl h7 rfl (y_not rfl) ?_
                    refine r_y rfl rfl (y_pickf rfl h7 rfl) ?_
                    refine r_nil ?_
                    refine hK10 _ _ _ ?_
                    clear hK10 K10
                    refine c_cond rfl (fun h8 => ?_) (fun h8 => ?_)
                    ·
                      refine c_seq (fun K17 hK17 => ?_)
                      refine c_region ?_
                      refine r_y rfl rfl (y_assign rfl) ?_
                      refine r_nil ?_
                      refine hK17 _ _ _ ?_
                      clear hK17 K17
                      refine c_ret ?_
                      refine e_ret 2 hm (res_tmps rfl) ?_
                      refine ⟨congrArg Value.bool ?_, rfl⟩
                      refine (decide_eq_false ?_).symm
                      have hr1 := (hz1.ok x1 (List.mem_of_getElem? hx1)).eq
                      have hr2 := (hz2.ok x2 (List.mem_of_getElem? hx2)).eq
                      intro e
                      have hxx : x1.x = x2.x := by rw [e, hy2] at hy1; exact (Option.some.inj hy1).symm
                      have hr : x1.lr.map (·.1) = x2.lr.map (·.1) := by rw [← hr1, ← hr2, hxx]
                      clear e hy1 hy2 hx1 hx2 hinv hr1 hr2 hz1 hz2
                      simp_all [ceq_head]
                    ·
                      refine c_skip ?_
                      refine hK8 _ _ _ ?_
                      clear hK8 K8
                      refine c_region ?_
                      refine r_del 1 rfl ?_
                      refine r_del 0 rfl ?_
                      refine r_y rfl rfl (y_move rfl) ?_
                      first | refine r_y rfl rfl (y_inc rfl (by omega)) ?_ | refine r_y rfl rfl (y_iop rfl rfl rfl) ?_
                      refine r_y rfl rfl (y_assign rfl) ?_
                      refine r_nil ?_
                      have hr1 := (hz1.ok x1 (List.mem_of_getElem? hx1)).eq
                      have hr2 := (hz2.ok x2 (List.mem_of_getElem? hx2)).eq
                      have hxx : x1.x = x2.x := by
                        clear hx1 hx2 hy1 hy2 hinv hz1 hz2
                        have hrr : x1.x.rules = x2.x.rules := by rw [hr1, hr2]; clear hr1 hr2; simp_all [ceq_head]
                        clear hr1 hr2
                        generalize x1.x = a1 at *
                        generalize x2.x = a2 at *
                        cases a1; cases a2; simp_all [ceq_head]
                      exact ⟨k0 - 1, (i + 1), by omega, ⟨rfl, rfl, rfl, trivial⟩, rfl, ⟨by omega, by rw [List.take_add_one, List.take_add_one, hinv, hy1, hy2, hxx]⟩, hm, hz1, hz2⟩
      ·
        refine s_alloc rfl tz35 (fun b0 => ?_)
        refine ⟨⟨hg, alln⟩, ?_⟩
        refine g_s (i := 8) (listed' := #[true, true, true, true, true, true, true, true, true, true, false, false]) rfl (by kernel_rfl) (by kernel_rfl) rfl ?_
        refine s_alloc rfl tz35 (fun b1 => ?_)
        refine ⟨⟨hg, alln⟩, ?_⟩
        refine g_s (i := 10) (listed' := #[true, true, true, true, true, true, true, true, true, true, true, false]) rfl (by kernel_rfl) (by kernel_rfl) rfl ?_
        refine s_store (us := encMsg x1.x x1.sm x1.sr) rfl rfl rfl ts35 rfl rfl (one_msg _ _ _) (i := 0) rfl rfl ?_
        refine ⟨⟨hg, alln⟩, ?_⟩
        refine g_s (i := 11) (listed' := #[true, true, true, true, true, true, true, true, true, true, true, true]) rfl (by kernel_rfl) (by kernel_rfl) rfl ?_
        refine s_store (us := encMsg x2.x x2.sm x2.sr) rfl rfl rfl ts35 rfl rfl (one_msg _ _ _) (i := 1) rfl rfl ?_
        refine ⟨⟨hg, alln⟩, ?_⟩
        refine g_done (by kernel_rfl) ?_
        clear hg hz1_g hz2_g
        refine hK9 _ _ _ ?_
        clear hK9 K9
        refine c_seq (fun K18 hK18 => ?_)
        refine c_region ?_
        refine r_y rfl rfl (y_fieldAddr rfl At.lit fo35_0 rfl) ?_
        refine r_y rfl rfl (y_load_s rfl ts3 (RdS.blk (i := 0) rfl rfl)) ?_
        refine r_y rfl rfl (y_fieldAddr rfl At.lit fo35_0 rfl) ?_
        refine r_y rfl rfl (y_load_s rfl ts3 (RdS.blk (i := 1) rfl rfl)) ?_
        refine r_y rfl rfl (y_iop rfl rfl rfl) ?_
        refine r_y rfl rfl (y_move rfl) ?_
        refine r_split (j := 5) rfl (fun h9 => ?_) (fun h9 => ?_)
        ·
          refine r_no' rfl rfl h9 ?_
          refine r_no' rfl rfl h9 ?_
          refine r_no' rfl rfl h9 ?_
          refine r_no' rfl rfl h9 ?_
          refine r_no' rfl rfl h9 ?_
          refine r_y rfl rfl (y_pickt rfl h9 rfl) ?_
          refine r_y rfl rfl (y_move rfl) ?_
          refine r_no' rfl rfl rfl ?_
          refine r_no' rfl rfl rfl ?_
          refine r_no' rfl rfl rfl ?_
          refine r_no' rfl rfl rfl ?_
          refine r_no' rfl rfl rfl ?_
          refine r_y rfl rfl (y_pickt rfl rfl rfl) ?_
          refine r_y rfl rfl (y_move rfl) ?_
          refine r_no' rfl rfl rfl ?_
          refine r_no' rfl rfl rfl ?_
          refine r_no' rfl rfl rfl ?_
          refine r_no' rfl rfl rfl ?_
          refine r_no' rfl rfl rfl ?_
          refine r_no' rfl rfl rfl ?_
          refine r_y rfl rfl (y_pickt rfl rfl rfl) ?_
          refine r_y rfl rfl (y_move rfl) ?_
          refine r_no' rfl rfl rfl ?_
          refine r_no' rfl rfl rfl ?_
          refine r_no' rfl rfl rfl ?_
          refine r_no' rfl rfl rfl ?_
          refine r_no' rfl rfl rfl ?_
          refine r_y rfl rfl (y_pickt rfl rfl rfl) ?_
          refine r_y rfl rfl (y_move rfl) ?_
          refine r_no' rfl rfl rfl ?_
          refine r_no' rfl rfl rfl ?_
          refine r_no' rfl rfl rfl ?_
          refine r_no' rfl rfl rfl ?_
          refine r_no' rfl rfl rfl ?_
          refine r_y rfl rfl (y_pickt rfl rfl rfl) ?_
          refine r_y rfl rfl (y_move rfl) ?_
          refine r_no' rfl rfl rfl ?_
          refine r_no' rfl rfl rfl ?_
          refine r_no' rfl rfl rfl ?_
          refine r_no' rfl rfl rfl ?_
          refine r_no' rfl rfl rfl ?_
          refine r_no' rfl rfl rfl ?_
          refine r_y rfl rfl (y_pickt rfl rfl rfl) ?_
          refine r_nil ?_
          refine hK18 _ _ _ ?_
          clear hK18 K18
          refine c_ift rfl rfl ?_
          refine c_seq (fun K19 hK19 => ?_)
          refine c_region ?_
          refine r_y rfl rfl (y_assign rfl) ?_
          refine r_nil ?_
          refine hK19 _ _ _ ?_
          clear hK19 K19
          refine c_ret ?_
          refine e_ret 2 hm (res_tmps rfl) ?_
          refine ⟨congrArg Value.bool ?_, rfl⟩
          refine (decide_eq_false ?_).symm
          have hr1 := (hz1.ok x1 (List.mem_of_getElem? hx1)).eq
          have hr2 := (hz2.ok x2 (List.mem_of_getElem? hx2)).eq
          intro e
          have hxx : x1.x = x2.x := by rw [e, hy2] at hy1; exact (Option.some.inj hy1).symm
          have hr : x1.lr.map (·.1) = x2.lr.map (·.1) := by rw [← hr1, ← hr2, hxx]
          clear e hy1 hy2 hx1 hx2 hinv hr1 hr2 hz1 hz2
          simp_all [ceq_head]
        ·
          refine r_yg rfl h9 rfl (y_fieldAddr rfl At.lit fo35_1 rfl) ?_
          refine r_yg rfl h9 rfl (y_load_s rfl ts3 (RdS.blk (i := 0) rfl rfl)) ?_
          refine r_yg rfl h9 rfl (y_fieldAddr rfl At.lit fo35_1 rfl) ?_
          refine r_yg rfl h9 rfl (y_load_s rfl ts3 (RdS.blk (i := 1) rfl rfl)) ?_
          refine r_yg rfl h9 rfl (y_iop rfl rfl rfl) ?_
          refine r_y rfl rfl (y_pickf rfl h9 rfl) ?_
          refine r_y rfl rfl (y_move rfl) ?_
          refine r_split (j := 12) rfl (fun h10 => ?_) (fun h10 => ?_)
          ·
            refine r_no' rfl rfl h10 ?_
            refine r_no' rfl rfl h10 ?_
            refine r_no' rfl rfl h10 ?_
            refine r_no' rfl rfl h10 ?_
            refine r_no' rfl rfl h10 ?_
            refine r_y rfl rfl (y_pickt rfl h10 rfl) ?_
            refine r_y rfl rfl (y_move rfl) ?_
            refine r_no' rfl rfl rfl ?_
            refine r_no' rfl rfl rfl ?_
            refine r_no' rfl rfl rfl ?_
            refine r_no' rfl rfl rfl ?_
            refine r_no' rfl rfl rfl ?_
            refine r_no' rfl rfl rfl ?_
            refine r_y rfl rfl (y_pickt rfl rfl rfl) ?_
            refine r_y rfl rfl (y_move rfl) ?_
            refine r_no' rfl rfl rfl ?_
            refine r_no' rfl rfl rfl ?_
            refine r_no' rfl rfl rfl ?_
            refine r_no' rfl rfl rfl ?_
            refine r_no' rfl rfl rfl ?_
            refine r_y rfl rfl (y_pickt rfl rfl rfl) ?_
            refine r_y rfl rfl (y_move rfl) ?_
            refine r_no' rfl rfl rfl ?_
            refine r_no' rfl rfl rfl ?_
            refine r_no' rfl rfl rfl ?_
            refine r_no' rfl rfl rfl ?_
            refine r_no' rfl rfl rfl ?_
            refine r_y rfl rfl (y_pickt rfl rfl rfl) ?_
            refine r_y rfl rfl (y_move rfl) ?_
            refine r_no' rfl rfl rfl ?_
            refine r_no' rfl rfl rfl ?_
            refine r_no' rfl rfl rfl ?_
            refine r_no' rfl rfl rfl ?_
            refine r_no' rfl rfl rfl ?_
            refine r_no' rfl rfl rfl ?_
            refine r_y rfl rfl (y_pickt rfl rfl rfl) ?_
            refine r_nil ?_
            refine hK18 _ _ _ ?_
            clear hK18 K18
            refine c_ift rfl rfl ?_
            refine c_seq (fun K20 hK20 => ?_)
            refine c_region ?_
            refine r_y rfl rfl (y_assign rfl) ?_
            refine r_nil ?_
            refine hK20 _ _ _ ?_
            clear hK20 K20
            refine c_ret ?_
            refine e_ret 2 hm (res_tmps rfl) ?_
            refine ⟨congrArg Value.bool ?_, rfl⟩
            refine (decide_eq_false ?_).symm
            have hr1 := (hz1.ok x1 (List.mem_of_getElem? hx1)).eq
            have hr2 := (hz2.ok x2 (List.mem_of_getElem? hx2)).eq
            intro e
            have hxx : x1.x = x2.x := by rw [e, hy2] at hy1; exact (Option.some.inj hy1).symm
            have hr : x1.lr.map (·.1) = x2.lr.map (·.1) := by rw [← hr1, ← hr2, hxx]
            clear e hy1 hy2 hx1 hx2 hinv hr1 hr2 hz1 hz2
            simp_all [ceq_head]
          ·
            refine r_yg rfl h10 rfl (y_fieldAddr rfl At.lit fo35_2 rfl) ?_
            refine r_yg rfl h10 rfl (y_load_s rfl ts24 (RdS.blk (i := 0) rfl rfl)) ?_
            refine r_yg rfl h10 rfl (y_fieldAddr rfl At.lit fo35_2 rfl) ?_
            refine r_yg rfl h10 rfl (y_load_s rfl ts24 (RdS.blk (i := 1) rfl rfl)) ?_
            refine r_yg rfl h10 rfl (y_iop rfl rfl rfl) ?_
            refine r_y rfl rfl (y_pickf rfl h10 rfl) ?_
            refine r_y rfl rfl (y_move rfl) ?_
            refine r_split (j := 19) rfl (fun h11 => ?_) (fun h11 => ?_)
            ·
              refine r_no' rfl rfl h11 ?_
              refine r_no' rfl rfl h11 ?_
              refine r_no' rfl rfl h11 ?_
              refine r_no' rfl rfl h11 ?_
              refine r_no' rfl rfl h11 ?_
              refine r_no' rfl rfl h11 ?_
              refine r_y rfl rfl (y_pickt rfl h11 rfl) ?_
              refine r_y rfl rfl (y_move rfl) ?_
              refine r_no' rfl rfl rfl ?_
              refine r_no' rfl rfl rfl ?_
              refine r_no' rfl rfl rfl ?_
              refine r_no' rfl rfl rfl ?_
              refine r_no' rfl rfl rfl ?_
              refine r_y rfl rfl (y_pickt rfl rfl rfl) ?_
              refine r_y rfl rfl (y_move rfl) ?_
              refine r_no' rfl rfl rfl ?_
              refine r_no' rfl rfl rfl ?_
              refine r_no' rfl rfl rfl ?_
              refine r_no' rfl rfl rfl ?_
              refine r_no' rfl rfl rfl ?_
              refine r_y rfl rfl (y_pickt rfl rfl rfl) ?_
              refine r_y rfl rfl (y_move rfl) ?_
              refine r_no' rfl rfl rfl ?_
              refine r_no' rfl rfl rfl ?_
              refine r_no' rfl rfl rfl ?_
              refine r_no' rfl rfl rfl ?_
              refine r_no' rfl rfl rfl ?_
              refine r_no' rfl rfl rfl ?_
              refine r_y rfl rfl (y_pickt rfl rfl rfl) ?_
              refine r_nil ?_
              refine hK18 _ _ _ ?_
              clear hK18 K18
              refine c_ift rfl rfl ?_
              refine c_seq (fun K21 hK21 => ?_)
              refine c_region ?_
              refine r_y rfl rfl (y_assign rfl) ?_
              refine r_nil ?_
              refine hK21 _ _ _ ?_
              clear hK21 K21
              refine c_ret ?_
              refine e_ret 2 hm (res_tmps rfl) ?_
              refine ⟨congrArg Value.bool ?_, rfl⟩
              refine (decide_eq_false ?_).symm
              have hr1 := (hz1.ok x1 (List.mem_of_getElem? hx1)).eq
              have hr2 := (hz2.ok x2 (List.mem_of_getElem? hx2)).eq
              intro e
              have hxx : x1.x = x2.x := by rw [e, hy2] at hy1; exact (Option.some.inj hy1).symm
              have hr : x1.lr.map (·.1) = x2.lr.map (·.1) := by rw [← hr1, ← hr2, hxx]
              clear e hy1 hy2 hx1 hx2 hinv hr1 hr2 hz1 hz2
              simp_all [ceq_head]
            ·
              refine r_yg rfl h11 rfl (y_fieldAddr rfl At.lit fo35_3 rfl) ?_
              refine r_yg rfl h11 rfl (y_load_a (cs := encMod x1.x.mod x1.sm) rfl ts32 (RdA.blk (i := 0) rfl rfl)) ?_
              refine r_yg rfl h11 rfl (y_fieldAddr rfl At.lit fo35_3 rfl) ?_
              refine r_yg rfl h11 rfl (y_load_a (cs := encMod x2.x.mod x2.sm) rfl ts32 (RdA.blk (i := 1) rfl rfl)) ?_
              refine r_sg rfl h11 ?_
              refine s_call0 rfl Try.call40 rfl (rSameMods_w x1.x.mod x2.x.mod x1.sm x2.sm _ _ (hz1.ok x1 (List.mem_of_getElem? hx1)).mod (hz2.ok x2 (List.mem_of_getElem? hx2)).mod) ?_
              rintro _ m2 _ hm2 ⟨rfl, rfl⟩
              replace hm := hm.trans hm2
              replace hz1 := hz1.mono hm2
              replace hz2 := hz2.mono hm2
              clear hm2
              refine r_yg rfl h11 rfl (y_not rfl) ?_
              refine r_y rfl rfl (y_pickf rfl h11 rfl) ?_
              refine r_y rfl rfl (y_move rfl) ?_
              refine r_split (j := 27) rfl (fun h12 => ?_) (fun h12 => ?_)
              ·
                refine r_no' rfl rfl h12 ?_
                refine r_no' rfl rfl h12 ?_
                refine r_no' rfl rfl h12 ?_
                refine r_no' rfl rfl h12 ?_
                refine r_no' rfl rfl h12 ?_
                refine r_y rfl rfl (y_pickt rfl h12 rfl) ?_
                refine r_y rfl rfl (y_move rfl) ?_
                refine r_no' rfl rfl rfl ?_
                refine r_no' rfl rfl rfl ?_
                refine r_no' rfl rfl rfl ?_
                refine r_no' rfl rfl rfl ?_
                refine r_no' rfl rfl rfl ?_
                refine r_y rfl rfl (y_pickt rfl rfl rfl) ?_
                refine r_y rfl rfl (y_move rfl) ?_
                refine r_no' rfl rfl rfl ?_
                refine r_no' rfl rfl rfl ?_
                refine r_no' rfl rfl rfl ?_
                refine r_no' rfl rfl rfl ?_
                refine r_no' rfl rfl rfl ?_
                refine r_no' rfl rfl rfl ?_
                refine r_y rfl rfl (y_pickt rfl rfl rfl) ?_
                refine r_nil ?_
                refine hK18 _ _ _ ?_
                clear hK18 K18
                refine c_ift rfl rfl ?_
                refine c_seq (fun K22 hK22 => ?_)
                refine c_region ?_
                refine r_y rfl rfl (y_assign rfl) ?_
                refine r_nil ?_
                refine hK22 _ _ _ ?_
                clear hK22 K22
                refine c_ret ?_
                refine e_ret 2 hm (res_tmps rfl) ?_
                refine ⟨congrArg Value.bool ?_, rfl⟩
                refine (decide_eq_false ?_).symm
                have hr1 := (hz1.ok x1 (List.mem_of_getElem? hx1)).eq
                have hr2 := (hz2.ok x2 (List.mem_of_getElem? hx2)).eq
                intro e
                have hxx : x1.x = x2.x := by rw [e, hy2] at hy1; exact (Option.some.inj hy1).symm
                have hr : x1.lr.map (·.1) = x2.lr.map (·.1) := by rw [← hr1, ← hr2, hxx]
                clear e hy1 hy2 hx1 hx2 hinv hr1 hr2 hz1 hz2
                simp_all [ceq_head]
              ·
                refine r_yg rfl h12 rfl (y_fieldAddr rfl At.lit fo35_4 rfl) ?_
                refine r_yg rfl h12 rfl (y_load_s rfl ts3 (RdS.blk (i := 0) rfl rfl)) ?_
                refine r_yg rfl h12 rfl (y_fieldAddr rfl At.lit fo35_4 rfl) ?_
                refine r_yg rfl h12 rfl (y_load_s rfl ts3 (RdS.blk (i := 1) rfl rfl)) ?_
                refine r_yg rfl h12 rfl (y_iop rfl rfl rfl) ?_
                refine r_y rfl rfl (y_pickf rfl h12 rfl) ?_
                refine r_y rfl rfl (y_move rfl) ?_
                refine r_split (j := 34) rfl (fun h13 => ?_) (fun h13 => ?_)
                ·
                  refine r_no' rfl rfl h13 ?_
                  refine r_no' rfl rfl h13 ?_
                  refine r_no' rfl rfl h13 ?_
                  refine r_no' rfl rfl h13 ?_
                  refine r_no' rfl rfl h13 ?_
                  refine r_y rfl rfl (y_pickt rfl h13 rfl) ?_
                  refine r_y rfl rfl (y_move rfl) ?_
                  refine r_no' rfl rfl rfl ?_
                  refine r_no' rfl rfl rfl ?_
                  refine r_no' rfl rfl rfl ?_
                  refine r_no' rfl rfl rfl ?_
                  refine r_no' rfl rfl rfl ?_
                  refine r_no' rfl rfl rfl ?_
                  refine r_y rfl rfl (y_pickt rfl rfl rfl) ?_
                  refine r_nil ?_
                  refine hK18 _ _ _ ?_
                  clear hK18 K18
                  refine c_ift rfl rfl ?_
                  refine c_seq (fun K23 hK23 => ?_)
                  refine c_region ?_
                  refine r_y rfl rfl (y_assign rfl) ?_
                  refine r_nil ?_
                  refine hK23 _ _ _ ?_
                  clear hK23 K23
                  refine c_ret ?_
                  refine e_ret 2 hm (res_tmps rfl) ?_
                  refine ⟨congrArg Value.bool ?_, rfl⟩
                  refine (decide_eq_false ?_).symm
                  have hr1 := (hz1.ok x1 (List.mem_of_getElem? hx1)).eq
                  have hr2 := (hz2.ok x2 (List.mem_of_getElem? hx2)).eq
                  intro e
                  have hxx : x1.x = x2.x := by rw [e, hy2] at hy1; exact (Option.some.inj hy1).symm
                  have hr : x1.lr.map (·.1) = x2.lr.map (·.1) := by rw [← hr1, ← hr2, hxx]
                  clear e hy1 hy2 hx1 hx2 hinv hr1 hr2 hz1 hz2
                  simp_all [ceq_head]
                ·
                  refine r_yg rfl h13 rfl (y_fieldAddr rfl At.lit fo35_5 rfl) ?_
                  refine r_yg rfl h13 rfl (y_load_a (cs := encHead x1.x.head) rfl ts27 (RdA.blk (i := 0) rfl rfl)) ?_
                  refine r_yg rfl h13 rfl (y_fieldAddr rfl At.lit fo35_5 rfl) ?_
                  refine r_yg rfl h13 rfl (y_load_a (cs := encHead x2.x.head) rfl ts27 (RdA.blk (i := 1) rfl rfl)) ?_
                  refine r_yg rfl h13 rfl (y_neagg (dd := 6)  rfl rfl en27 ia27 rfl Try.eqGuardType27 rfl (alike_head _ _)) ?_
                  refine r_y rfl rfl (y_pickf rfl h13 rfl) ?_
                  refine r_y rfl rfl (y_move rfl) ?_
                  refine r_split (j := 41) rfl (fun h14 => ?_) (fun h14 => ?_)
                  ·
                    refine r_no' rfl rfl h14 ?_
                    refine r_no' rfl rfl h14 ?_
                    refine r_no' rfl rfl h14 ?_
                    refine r_no' rfl rfl h14 ?_
                    refine r_no' rfl rfl h14 ?_
                    refine r_no' rfl rfl h14 ?_
                    refine r_y rfl rfl (y_pickt rfl h14 rfl) ?_
                    refine r_nil ?_
                    refine hK18 _ _ _ ?_
                    clear hK18 K18
                    refine c_ift rfl rfl ?_
                    refine c_seq (fun K24 hK24 => ?_)
                    refine c_region ?_
                    refine r_y rfl rfl (y_assign rfl) ?_
                    refine r_nil ?_
                    refine hK24 _ _ _ ?_
                    clear hK24 K24
                    refine c_ret ?_
                    refine e_ret 2 hm (res_tmps rfl) ?_
                    refine ⟨congrArg Value.bool ?_, rfl⟩
                    refine (decide_eq_false ?_).symm
                    have hr1 := (hz1.ok x1 (List.mem_of_getElem? hx1)).eq
                    have hr2 := (hz2.ok x2 (List.mem_of_getElem? hx2)).eq
                    intro e
                    have hxx : x1.x = x2.x := by rw [e, hy2] at hy1; exact (Option.some.inj hy1).symm
                    have hr : x1.lr.map (·.1) = x2.lr.map (·.1) := by rw [← hr1, ← hr2, hxx]
                    clear e hy1 hy2 hx1 hx2 hinv hr1 hr2 hz1 hz2
                    simp_all [ceq_head]
                  ·
                    refine r_yg rfl h14 rfl (y_fieldAddr rfl At.lit fo35_6 rfl) ?_
                    refine r_yg rfl h14 rfl (y_load_s rfl ts33 (RdS.blk (i := 0) rfl rfl)) ?_
                    refine r_yg rfl h14 rfl (y_fieldAddr rfl At.lit fo35_6 rfl) ?_
                    refine r_yg rfl h14 rfl (y_load_s rfl ts33 (RdS.blk (i := 1) rfl rfl)) ?_
                    refine r_sg rfl h14 ?_
                    refine s_call0 rfl Try.call35 rfl (rSame_w x1.sr x2.sr x1.lr x2.lr _ _ (hz1.ok x1 (List.mem_of_getElem? hx1)).rules (hz2.ok x2 (List.mem_of_getElem? hx2)).rules) ?_
                    rintro _ m2 _ hm2 ⟨rfl, rfl⟩
                    replace hm := hm.trans hm2
                    replace hz1 := hz1.mono hm2
                    replace hz2 := hz2.mono hm2
                    clear hm2
                    refine r_yg rfl h14 rfl (y_not rfl) ?_
                    refine r_y rfl rfl (y_pickf rfl h14 rfl) ?_
                    refine r_nil ?_
                    refine hK18 _ _ _ ?_
                    clear hK18 K18
                    refine c_cond rfl (fun h15 => ?_) (fun h15 => ?_)
                    ·
                      refine c_seq (fun K25 hK25 => ?_)
                      refine c_region ?_
                      refine r_y rfl rfl (y_assign rfl) ?_
                      refine r_nil ?_
                      refine hK25 _ _ _ ?_
                      clear hK25 K25
                      refine c_ret ?_
                      refine e_ret 2 hm (res_tmps rfl) ?_
                      refine ⟨congrArg Value.bool ?_, rfl⟩
                      refine (decide_eq_false ?_).symm
                      have hr1 := (hz1.ok x1 (List.mem_of_getElem? hx1)).eq
                      have hr2 := (hz2.ok x2 (List.mem_of_getElem? hx2)).eq
                      intro e
                      have hxx : x1.x = x2.x := by rw [e, hy2] at hy1; exact (Option.some.inj hy1).symm
                      have hr : x1.lr.map (·.1) = x2.lr.map (·.1) := by rw [← hr1, ← hr2, hxx]
                      clear e hy1 hy2 hx1 hx2 hinv hr1 hr2 hz1 hz2
                      simp_all [ceq_head]
                    ·
                      refine c_skip ?_
                      refine hK8 _ _ _ ?_
                      clear hK8 K8
                      refine c_region ?_
                      refine r_del 1 rfl ?_
                      refine r_del 0 rfl ?_
                      refine r_y rfl rfl (y_move rfl) ?_
                      first | refine r_y rfl rfl (y_inc rfl (by omega)) ?_ | refine r_y rfl rfl (y_iop rfl rfl rfl) ?_
                      refine r_y rfl rfl (y_assign rfl) ?_
                      refine r_nil ?_
                      have hr1 := (hz1.ok x1 (List.mem_of_getElem? hx1)).eq
                      have hr2 := (hz2.ok x2 (List.mem_of_getElem? hx2)).eq
                      have hxx : x1.x = x2.x := by
                        clear hx1 hx2 hy1 hy2 hinv hz1 hz2
                        have hrr : x1.x.rules = x2.x.rules := by rw [hr1, hr2]; clear hr1 hr2; simp_all [ceq_head]
                        clear hr1 hr2
                        generalize x1.x = a1 at *
                        generalize x2.x = a2 at *
                        cases a1; cases a2; simp_all [ceq_head]
                      exact ⟨k0 - 1, (i + 1), by omega, ⟨rfl, rfl, rfl, trivial⟩, rfl, ⟨by omega, by rw [List.take_add_one, List.take_add_one, hinv, hy1, hy2, hxx]⟩, hm, hz1, hz2⟩
    ·
      refine c_exit ?_
      refine hK4 _ _ _ ?_
      clear hK6 K6 hK4 K4
      refine c_seq (fun K26 hK26 => ?_)
      refine c_region ?_
      refine r_y rfl rfl (y_assign rfl) ?_
      refine r_nil ?_
      refine hK26 _ _ _ ?_
      clear hK26 K26
      refine c_ret ?_
      refine e_ret 0 hm (res_tmps rfl) ?_
      refine ⟨congrArg Value.bool ?_, rfl⟩
      have hie : i = s1.n := by simp at h1; omega
      refine (decide_eq_true ?_).symm
      rw [List.take_of_length_le (by simp; omega), List.take_of_length_le (by simp; omega)] at hinv
      exact hinv
end Go.Aw
