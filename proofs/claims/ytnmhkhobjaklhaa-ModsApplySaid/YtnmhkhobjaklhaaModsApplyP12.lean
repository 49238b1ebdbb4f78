/- Part 12 of the words and walks that the proof behind it uses. -/
import Derived.Test.YtnmhkhobjaklhaaModsApplyP11
set_option linter.unusedVariables false
set_option linter.unusedSimpArgs false
set_option maxHeartbeats 1000000
namespace Go.Aw
open Go Go.Proofs
set_option maxRecDepth 100000 in
theorem rApply_w (s1 : Sl) (l1 : List (RuleD × Sl)) (x : ModD) (sm : Sl) (room : Int) (m : Snap) (H : Hp) (hz : FzR m s1 l1) (hok1 : s1.a = none → s1.cap = 0) (hfit : l1.length < 1000000) (hzx : FzA m sm x.acts) (hokx : sm.ok) : Fn Try.prog 34 [s1.v, .agg (encMod x sm).toArray, .int .i64 room] m H (fun v m' H' => ∃ (s : Sl) (lr : List (RuleD × Sl)), v = .tuple [s.v, i64 (applyR (l1.map (·.1)) x room).2].toArray ∧ FzR m' s lr ∧ lr.map (·.1) = (applyR (l1.map (·.1)) x room).1 ∧ (s.a = none → s.cap = 0) ∧ H' = H) := by
  have hl := hz.len
  have hmx := hz.fz.max
  have hle0 := hz.fz.le
  unfold maxLen at hmx
  have hm : m.le m := Snap.le.refl m
  refine fn_end Try.func34 rfl rfl rfl ?_
  refine c_seq (fun K0 hK0 => ?_)
  refine c_region ?_
  refine r_s rfl ?_
  refine s_box_a rfl rfl (fun b0 => ?_)
  refine r_y rfl rfl (y_assign rfl) ?_
  refine r_y rfl rfl (y_assign rfl) ?_
  refine r_nil ?_
  refine hK0 _ _ _ ?_
  clear hK0 K0
  refine c_seq (fun K1 hK1 => ?_)
  refine c_seq (fun K2 hK2 => ?_)
  refine c_region ?_
  refine r_y rfl rfl (y_move rfl) ?_
  refine r_s rfl ?_
  refine s_call0 rfl Try.call38 rfl (rTable_w s1 l1 _ _ hz) ?_
  rintro _ m2 _ hm2 ⟨rfl, rfl⟩
  replace hm := hm.trans hm2
  replace hz := hz.mono hm2
  replace hzx := hzx.mono hm2
  clear hm2
  refine r_y rfl rfl (y_not rfl) ?_
  refine r_y rfl rfl (y_move rfl) ?_
  refine r_split (j := 3) rfl (fun hM => ?_) (fun hM => ?_)
  ·
    refine r_no' rfl rfl hM ?_
    refine r_no' rfl rfl hM ?_
    refine r_no' rfl rfl hM ?_
    refine r_y rfl rfl (y_pickt rfl hM rfl) ?_
    refine r_nil ?_
    refine hK2 _ _ _ ?_
    clear hK2 K2
    refine c_ift rfl rfl ?_
    refine c_seq (fun K3 hK3 => ?_)
    refine c_region ?_
    refine r_y rfl rfl (y_assign rfl) ?_
    refine r_y rfl rfl (y_assign rfl) ?_
    refine r_nil ?_
    refine hK3 _ _ _ ?_
    clear hK3 K3
    refine c_ret ?_
    refine e_ret 1 hm (res_tmps rfl) ?_
    rw [applyR_bad (by first | (simp at hM; rw [hM]; rfl) | (simp at hM hS0; rw [hM, hS0]; rfl))]
    exact ⟨zSl, [], rfl, fzR_nil _, rfl, fun _ => rfl, rfl⟩
  ·
    refine r_yg rfl hM rfl (y_load_a (cs := encMod x sm) rfl ts32 (RdA.blk (i := 0) rfl rfl)) ?_
    refine r_sg rfl hM ?_
    refine s_call0 rfl Try.call37 rfl (rMod_w x sm _ _ hzx) ?_
    rintro _ m2 _ hm2 ⟨rfl, rfl⟩
    replace hm := hm.trans hm2
    replace hz := hz.mono hm2
    replace hzx := hzx.mono hm2
    clear hm2
    refine r_yg rfl hM rfl (y_not rfl) ?_
    refine r_y rfl rfl (y_pickf rfl hM rfl) ?_
    refine r_nil ?_
    refine hK2 _ _ _ ?_
    clear hK2 K2
    refine c_cond rfl (fun hS0 => ?_) (fun hS0 => ?_)
    ·
      refine c_seq (fun K4 hK4 => ?_)
      refine c_region ?_
      refine r_y rfl rfl (y_assign rfl) ?_
      refine r_y rfl rfl (y_assign rfl) ?_
      refine r_nil ?_
      refine hK4 _ _ _ ?_
      clear hK4 K4
      refine c_ret ?_
      refine e_ret 1 hm (res_tmps rfl) ?_
      rw [applyR_bad (by first | (simp at hM; rw [hM]; rfl) | (simp at hM hS0; rw [hM, hS0]; rfl))]
      exact ⟨zSl, [], rfl, fzR_nil _, rfl, fun _ => rfl, rfl⟩
    ·
      have hTS : (ruleTable (l1.map (·.1)) && modSound x) = true := by simp at hM hS0; rw [hM, hS0]; rfl
      have hms : modSound x = true := by simp at hS0; exact hS0
      refine c_skip ?_
      refine hK1 _ _ _ ?_
      clear hK1 K1
      refine c_seq (fun K5 hK5 => ?_)
      refine c_seq (fun K6 hK6 => ?_)
      refine c_region ?_
      refine r_y rfl rfl (y_fieldAddr rfl At.lit fo32_0 rfl) ?_
      refine r_y rfl rfl (y_load_s rfl ts3 (RdS.blk (i := 0) rfl rfl)) ?_
      refine r_y rfl rfl (y_iop rfl rfl rfl) ?_
      refine r_nil ?_
      refine hK6 _ _ _ ?_
      clear hK6 K6
      refine c_cond rfl (fun hK1 => ?_) (fun hK1 => ?_)
      ·
        refine c_seq (fun K7 hK7 => ?_)
        refine c_region ?_
        refine r_y rfl rfl (y_fieldAddr rfl At.lit fo32_1 rfl) ?_
        refine r_y rfl rfl (y_load_a (cs := encCube x.m) rfl ts29 (RdA.blk (i := 0) rfl rfl)) ?_
        refine r_y rfl rfl (y_fieldAddr rfl At.lit fo32_2 rfl) ?_
        refine r_y rfl rfl (y_load_s rfl ts3 (RdS.blk (i := 0) rfl rfl)) ?_
        refine r_y rfl rfl (y_fieldAddr rfl At.lit fo32_3 rfl) ?_
        refine r_y rfl rfl (y_load_s rfl ts30 (RdS.blk (i := 0) rfl rfl)) ?_
        refine r_y rfl rfl (y_fieldAddr rfl At.lit fo32_4 rfl) ?_
        refine r_y rfl rfl (y_load_s rfl ts3 (RdS.blk (i := 0) rfl rfl)) ?_
        refine r_y rfl rfl (y_fieldAddr rfl At.lit fo32_5 rfl) ?_
        refine r_y rfl rfl (y_load_s rfl ts3 (RdS.blk (i := 0) rfl rfl)) ?_
        refine r_y rfl rfl (y_fieldAddr rfl At.lit fo32_6 rfl) ?_
        refine r_y rfl rfl (y_load_s rfl ts3 (RdS.blk (i := 0) rfl rfl)) ?_
        refine r_y rfl rfl (y_bld rfl tz50 fk50 bp50_0_1_2_3_4_5 rfl rfl) ?_
        refine r_s rfl ?_
        refine s_alloc rfl tz50 (fun b1 => ?_)
        refine r_s rfl ?_
        refine s_store (us := encRule (modRule x) sm) rfl rfl rfl ts50 rfl rfl (one_rule _ _) (i := 0) rfl rfl ?_
        refine r_nil ?_
        refine hK7 _ _ _ ?_
        clear hK7 K7
        refine c_seq (fun K8 hK8 => ?_)
        refine c_region ?_
        refine r_y rfl rfl (y_assign rfl) ?_
        refine r_y rfl rfl (y_assign rfl) ?_
        refine r_nil ?_
        refine hK8 _ _ _ ?_
        clear hK8 K8
        refine c_seq (fun K9 hK9 => ?_)
        refine c_seq (fun K10 hK10 => ?_)
        refine c_region ?_
        refine r_y rfl rfl (y_assign rfl) ?_
        refine r_nil ?_
        refine hK10 _ _ _ ?_
        clear hK10 K10
        refine c_block ?_
        refine c_loopx (α := Nat) (fun i => [(0, s1.v), (2, .int .i64 room), (4, .pointer (some ⟨b0, 0, none⟩)), (8, .pointer (some ⟨b1, 0, none⟩)), (9, .bool (((l1.map (·.1)).take i).any (fun y => ruleKey y (modRule x)))), (10, .bool (((l1.map (·.1)).take i).any (fun y => !ruleKey y (modRule x) && ruleOverlap y (modRule x)))), (11, .int .i64 (i : Nat))]) (fun i => .blk b1 (.cells (encRule (modRule x) sm).toArray 50) :: .blk b0 (.cells (encMod x sm).toArray 32) :: H) (fun k0 i m1 => (i + k0 = s1.n ∧ ((l1.map (·.1)).take i).any (fun y => ruleKey y (modRule x) && (y.owner != x.owner)) = false) ∧ m.le m1 ∧ (FzR m1 s1 l1) ∧ (FzA m1 sm x.acts)) (s1.n) 0 ⟨rfl, rfl, rfl, rfl, rfl, rfl, rfl, trivial⟩ rfl ⟨⟨by omega, rfl⟩, hm, hz, hzx⟩ ?_
        clear hm hz hzx
        rintro k0 i m1 ⟨hi0, hm, hz, hzx⟩
        obtain ⟨hi, hown⟩ := hi0
        refine c_seq (fun K11 hK11 => ?_)
        refine c_seq (fun K12 hK12 => ?_)
        refine c_region ?_
        refine r_y rfl rfl (y_move rfl) ?_
        refine r_y rfl rfl (y_move rfl) ?_
        refine r_y rfl rfl (y_len tl33 rfl) ?_
        refine r_y rfl rfl (y_iop rfl rfl rfl) ?_
        refine r_nil ?_
        refine hK12 _ _ _ ?_
        clear hK12 K12
        refine c_cond rfl (fun h0 => ?_) (fun h0 => ?_)
        ·
          have hlt : i < s1.n := by simp at h0; omega
          obtain ⟨r, hx⟩ := get_of_lt (l := l1) (k := i) (by omega)
          have hx1 : (l1.map (·.1))[i]? = some r.1 := map_get hx
          refine c_skip ?_
          refine hK11 _ _ _ ?_
          clear hK11 K11
          refine c_seq (fun K13 hK13 => ?_)
          refine c_block ?_
          refine c_seq (fun K14 hK14 => ?_)
          refine c_draw ([.blk b1 (.cells (encRule (modRule x) sm).toArray 50)]) (by kernel_rfl) (fun hg => ?_)
          have hz_g := hz
          have hzx_g := hzx
          refine g_y (i := 0) (listed' := #[true, false, false, false, false, false]) rfl (by kernel_rfl) (by kernel_rfl) (by kernel_rfl) (by kernel_rfl) rfl rfl hg (allc (List.Mem.head _) alln) (fun m' H' hm' hX' => y_move rfl) ?_
          refine g_y (i := 1) (listed' := #[true, true, false, false, false, false]) rfl (by kernel_rfl) (by kernel_rfl) (by kernel_rfl) (by kernel_rfl) rfl rfl hg (allc (List.Mem.head _) alln) (fun m' H' hm' hX' => y_move rfl) ?_
          refine g_y (i := 2) (listed' := #[true, true, true, false, false, false]) rfl (by kernel_rfl) (by kernel_rfl) (by kernel_rfl) (by kernel_rfl) rfl rfl hg (allc (List.Mem.head _) alln) (fun m' H' hm' hX' => y_indexAddr_slice rfl rfl tl33 hlt (At.fz (hz_g.fz.mono hm') hlt)) ?_
          refine g_y (i := 3) (listed' := #[true, true, true, true, false, false]) rfl (by kernel_rfl) (by kernel_rfl) (by kernel_rfl) (by kernel_rfl) rfl rfl hg (allc (List.Mem.head _) alln) (fun m' H' hm' hX' => y_load_a rfl ts50 (RdA.fz0 (hz_g.fz.mono hm') (map_get hx))) ?_
          refine g_y (i := 4) (listed' := #[true, true, true, true, true, false]) rfl (by kernel_rfl) (by kernel_rfl) (by kernel_rfl) (by kernel_rfl) rfl rfl hg (allc (List.Mem.head _) alln) (fun m' H' hm' hX' => y_load_a (cs := encRule (modRule x) sm) rfl ts50 (RdA.mem (hX' _ (List.Mem.head _)) rfl)) ?_
          refine g_s (i := 5) (listed' := #[true, true, true, true, true, true]) rfl (by kernel_rfl) (by kernel_rfl) rfl ?_
          refine s_call0 rfl Try.call85 rfl (rKey_w r.1 (modRule x) r.2 sm _ _) ?_
          rintro _ m2 _ hm2 ⟨rfl, rfl⟩
          replace hm := hm.trans hm2
          refine ⟨⟨hg.trans hm2, (allc (List.Mem.head _) alln)⟩, ?_⟩
          replace hg := hg.trans hm2
          replace hz := hz.mono hm2
          replace hzx := hzx.mono hm2
          clear hm2
          refine g_done (by kernel_rfl) ?_
          clear hg hz_g hzx_g
          refine hK14 _ _ _ ?_
          clear hK14 K14
          refine c_cond rfl (fun hKy => ?_) (fun hKy => ?_)
          ·
            have hkk : ruleKey r.1 (modRule x) = true := hKy
            refine c_seq (fun K15 hK15 => ?_)
            refine c_region ?_
            refine r_y rfl rfl (y_assign rfl) ?_
            refine r_nil ?_
            refine hK15 _ _ _ ?_
            clear hK15 K15
            refine c_seq (fun K16 hK16 => ?_)
            refine c_draw ([.blk b0 (.cells (encMod x sm).toArray 32)]) (by kernel_rfl) (fun hg => ?_)
            have hz_g := hz
            have hzx_g := hzx
            refine g_y (i := 0) (listed' := #[true, false, false, false, false, false, false, false]) rfl (by kernel_rfl) (by kernel_rfl) (by kernel_rfl) (by kernel_rfl) rfl rfl hg (allc (List.Mem.tail _ (List.Mem.head _)) alln) (fun m' H' hm' hX' => y_move rfl) ?_
            refine g_y (i := 1) (listed' := #[true, true, false, false, false, false, false, false]) rfl (by kernel_rfl) (by kernel_rfl) (by kernel_rfl) (by kernel_rfl) rfl rfl hg (allc (List.Mem.tail _ (List.Mem.head _)) alln) (fun m' H' hm' hX' => y_move rfl) ?_
            refine g_y (i := 2) (listed' := #[true, true, true, false, false, false, false, false]) rfl (by kernel_rfl) (by kernel_rfl) (by kernel_rfl) (by kernel_rfl) rfl rfl hg (allc (List.Mem.tail _ (List.Mem.head _)) alln) (fun m' H' hm' hX' => y_indexAddr_slice rfl rfl tl33 hlt (At.fz (hz_g.fz.mono hm') hlt)) ?_
            refine g_y (i := 3) (listed' := #[true, true, true, true, false, false, false, false]) rfl (by kernel_rfl) (by kernel_rfl) (by kernel_rfl) (by kernel_rfl) rfl rfl hg (allc (List.Mem.tail _ (List.Mem.head _)) alln) (fun m' H' hm' hX' => y_fieldAddr rfl ((At.fz (hz_g.fz.mono hm') hlt).eadd) fo50_5 (eadd_eadd _ _ _)) ?_
            refine g_y (i := 4) (listed' := #[true, true, true, true, true, false, false, false]) rfl (by kernel_rfl) (by kernel_rfl) (by kernel_rfl) (by kernel_rfl) rfl rfl hg (allc (List.Mem.tail _ (List.Mem.head _)) alln) (fun m' H' hm' hX' => y_load_s rfl ts3 (RdS.fz (hz_g.fz.mono hm') (map_get hx) rfl)) ?_
            refine g_y (i := 5) (listed' := #[true, true, true, true, true, true, false, false]) rfl (by kernel_rfl) (by kernel_rfl) (by kernel_rfl) (by kernel_rfl) rfl rfl hg (allc (List.Mem.tail _ (List.Mem.head _)) alln) (fun m' H' hm' hX' => y_fieldAddr rfl At.lit fo32_6 rfl) ?_
            refine g_y (i := 6) (listed' := #[true, true, true, true, true, true, true, false]) rfl (by kernel_rfl) (by kernel_rfl) (by kernel_rfl) (by kernel_rfl) rfl rfl hg (allc (List.Mem.tail _ (List.Mem.head _)) alln) (fun m' H' hm' hX' => y_load_s rfl ts3 (RdS.mem (hX' _ (List.Mem.head _)) rfl)) ?_
            refine g_y (i := 7) (listed' := #[true, true, true, true, true, true, true, true]) rfl (by kernel_rfl) (by kernel_rfl) (by kernel_rfl) (by kernel_rfl) rfl rfl hg (allc (List.Mem.tail _ (List.Mem.head _)) alln) (fun m' H' hm' hX' => y_iop rfl rfl rfl) ?_
            refine g_done (by kernel_rfl) ?_
            clear hg hz_g hzx_g
            refine hK16 _ _ _ ?_
            clear hK16 K16
            refine c_cond rfl (fun hW => ?_) (fun hW => ?_)
            ·
              refine c_seq (fun K17 hK17 => ?_)
              refine c_region ?_
              refine r_y rfl rfl (y_assign rfl) ?_
              refine r_y rfl rfl (y_assign rfl) ?_
              refine r_nil ?_
              refine hK17 _ _ _ ?_
              clear hK17 K17
              refine c_ret ?_
              refine e_ret 2 hm (res_tmps rfl) ?_
              rw [applyR_add hTS (by simpa using hK1)]
              rw [addR_7 (List.any_eq_true.2 ⟨r.1, List.mem_of_getElem? hx1, by rw [hkk, Bool.true_and]; exact hW⟩)]
              exact ⟨zSl, [], rfl, fzR_nil _, rfl, fun _ => rfl, rfl⟩
            ·
              refine c_skip ?_
              refine hK13 _ _ _ ?_
              clear hK13 K13
              refine c_region ?_
              refine r_y rfl rfl (y_move rfl) ?_
              first | refine r_y rfl rfl (y_inc rfl (by omega)) ?_ | refine r_y rfl rfl (y_iop rfl rfl rfl) ?_
              refine r_y rfl rfl (y_assign rfl) ?_
              refine r_nil ?_
              exact ⟨k0 - 1, (i + 1), by omega, ⟨rfl, rfl, rfl, rfl, (congrArg (fun z => some (Value.bool z)) (by first | (rw [any_take_step hx1, hkk, Bool.or_true]; done) | (rw [any_take_step hx1, hkk, Bool.or_false]; done))), (congrArg (fun z => some (Value.bool z)) (by first | (rw [any_take_step hx1, hkk, Bool.not_true, Bool.false_and, Bool.or_false]; done) | (rw [any_take_step hx1, hO10, Bool.true_or]; done) | (rw [any_take_step hx1, hkk, hO10, Bool.false_or, Bool.not_false, Bool.true_and]; done))), rfl, trivial⟩, rfl, ⟨by omega, by rw [any_take_step hx1, hown, hkk, Bool.false_or]; first | rfl | (simpa using hW)⟩, hm, hz, hzx⟩
          ·
            have hkk : ruleKey r.1 (modRule x) = false := hKy
            refine c_draw ([.blk b1 (.cells (encRule (modRule x) sm).toArray 50)]) (by kernel_rfl) (fun hg => ?_)
            have hz_g := hz
            have hzx_g := hzx
            refine g_y (i := 0) (listed' := #[true, false, false, false, false, false, false, false, false, false]) rfl (by kernel_rfl) (by kernel_rfl) (by kernel_rfl) (by kernel_rfl) rfl rfl hg (allc (List.Mem.head _) alln) (fun m' H' hm' hX' => y_move rfl) ?_
            refine g_y (i := 1) (listed' := #[true, true, false, false, false, false, false, false, false, false]) rfl (by kernel_rfl) (by kernel_rfl) (by kernel_rfl) (by kernel_rfl) rfl rfl hg (allc (List.Mem.head _) alln) (fun m' H' hm' hX' => y_move rfl) ?_
            refine g_split (j := 1) rfl (fun hO10 => ?_) (fun hO10 => ?_)
            ·
              refine g_no (i := 2) (listed' := #[true, true, true, false, false, false, false, false, false, false]) rfl (by kernel_rfl) (by kernel_rfl) (by kernel_rfl) (by kernel_rfl) rfl rfl hO10 rfl hg (allc (List.Mem.head _) alln) ?_
              refine g_no (i := 3) (listed' := #[true, true, true, true, false, false, false, false, false, false]) rfl (by kernel_rfl) (by kernel_rfl) (by kernel_rfl) (by kernel_rfl) rfl rfl hO10 rfl hg (allc (List.Mem.head _) alln) ?_
              refine g_no (i := 4) (listed' := #[true, true, true, true, true, false, false, false, false, false]) rfl (by kernel_rfl) (by kernel_rfl) (by kernel_rfl) (by kernel_rfl) rfl rfl hO10 rfl hg (allc (List.Mem.head _) alln) ?_
              refine g_no (i := 5) (listed' := #[true, true, true, true, true, true, false, false, false, false]) rfl (by kernel_rfl) (by kernel_rfl) (by kernel_rfl) (by kernel_rfl) rfl rfl hO10 rfl hg (allc (List.Mem.head _) alln) ?_
              refine g_no (i := 6) (listed' := #[true, true, true, true, true, true, true, false, false, false]) rfl (by kernel_rfl) (by kernel_rfl) (by kernel_rfl) (by kernel_rfl) rfl rfl hO10 rfl hg (allc (List.Mem.head _) alln) ?_
              refine g_no (i := 7) (listed' := #[true, true, true, true, true, true, true, true, false, false]) rfl (by kernel_rfl) (by kernel_rfl) (by kernel_rfl) (by kernel_rfl) rfl rfl hO10 rfl hg (allc (List.Mem.head _) alln) ?_
              refine g_y (i := 8) (listed' := #[true, true, true, true, true, true, true, true, true, false]) rfl (by kernel_rfl) (by kernel_rfl) (by kernel_rfl) (by kernel_rfl) rfl rfl hg (allc (List.Mem.head _) alln) (fun m' H' hm' hX' => y_pickt rfl hO10 rfl) ?_
              refine g_y (i := 9) (listed' := #[true, true, true, true, true, true, true, true, true, true]) rfl (by kernel_rfl) (by kernel_rfl) (by kernel_rfl) (by kernel_rfl) rfl rfl hg (allc (List.Mem.head _) alln) (fun m' H' hm' hX' => y_assign rfl) ?_
              refine g_done (by kernel_rfl) ?_
              clear hg hz_g hzx_g
              refine hK13 _ _ _ ?_
              clear hK13 K13
              refine c_region ?_
              refine r_y rfl rfl (y_move rfl) ?_
              first | refine r_y rfl rfl (y_inc rfl (by omega)) ?_ | refine r_y rfl rfl (y_iop rfl rfl rfl) ?_
              refine r_y rfl rfl (y_assign rfl) ?_
              refine r_nil ?_
              exact ⟨k0 - 1, (i + 1), by omega, ⟨rfl, rfl, rfl, rfl, (congrArg (fun z => some (Value.bool z)) (by first | (rw [any_take_step hx1, hkk, Bool.or_true]; done) | (rw [any_take_step hx1, hkk, Bool.or_false]; done))), (congrArg (fun z => some (Value.bool z)) (by first | (rw [any_take_step hx1, hkk, Bool.not_true, Bool.false_and, Bool.or_false]; done) | (rw [any_take_step hx1, hO10, Bool.true_or]; done) | (rw [any_take_step hx1, hkk, hO10, Bool.false_or, Bool.not_false, Bool.true_and]; done))), rfl, trivial⟩, rfl, ⟨by omega, by rw [any_take_step hx1, hown, hkk, Bool.false_or]; first | rfl | (simpa using hW)⟩, hm, hz, hzx⟩
            ·
              refine g_yg (i := 2) (listed' := #[true, true, true, false, false, false, false, false, false, false]) rfl (by kernel_rfl) (by kernel_rfl) (by kernel_rfl) (by kernel_rfl) rfl rfl hO10 rfl hg (allc (List.Mem.head _) alln) (fun m' H' hm' hX' => y_move rfl) ?_
              refine g_yg (i := 3) (listed' := #[true, true, true, true, false, false, false, false, false, false]) rfl (by kernel_rfl) (by kernel_rfl) (by kernel_rfl) (by kernel_rfl) rfl rfl hO10 rfl hg (allc (List.Mem.head _) alln) (fun m' H' hm' hX' => y_move rfl) ?_
              refine g_yg (i := 4) (listed' := #[true, true, true, true, true, false, false, false, false, false]) rfl (by kernel_rfl) (by kernel_rfl) (by kernel_rfl) (by kernel_rfl) rfl rfl hO10 rfl hg (allc (List.Mem.head _) alln) (fun m' H' hm' hX' => y_indexAddr_slice rfl rfl tl33 hlt (At.fz (hz_g.fz.mono hm') hlt)) ?_
              refine g_yg (i := 5) (listed' := #[true, true, true, true, true, true, false, false, false, false]) rfl (by kernel_rfl) (by kernel_rfl) (by kernel_rfl) (by kernel_rfl) rfl rfl hO10 rfl hg (allc (List.Mem.head _) alln) (fun m' H' hm' hX' => y_load_a rfl ts50 (RdA.fz0 (hz_g.fz.mono hm') (map_get hx))) ?_
              refine g_yg (i := 6) (listed' := #[true, true, true, true, true, true, true, false, false, false]) rfl (by kernel_rfl) (by kernel_rfl) (by kernel_rfl) (by kernel_rfl) rfl rfl hO10 rfl hg (allc (List.Mem.head _) alln) (fun m' H' hm' hX' => y_load_a (cs := encRule (modRule x) sm) rfl ts50 (RdA.mem (hX' _ (List.Mem.head _)) rfl)) ?_
              refine g_sg (i := 7) (listed' := #[true, true, true, true, true, true, true, true, false, false]) rfl (by kernel_rfl) (by kernel_rfl) rfl rfl hO10 ?_
              refine s_call0 rfl Try.call86 rfl (rOverlap_w r.1 (modRule x) r.2 sm _ _) ?_
              rintro _ m2 _ hm2 ⟨rfl, rfl⟩
              replace hm := hm.trans hm2
              refine ⟨⟨hg.trans hm2, (allc (List.Mem.head _) alln)⟩, ?_⟩
              replace hg := hg.trans hm2
              replace hz := hz.mono hm2
              replace hzx := hzx.mono hm2
              clear hm2
              refine g_y (i := 8) (listed' := #[true, true, true, true, true, true, true, true, true, false]) rfl (by kernel_rfl) (by kernel_rfl) (by kernel_rfl) (by kernel_rfl) rfl rfl hg (allc (List.Mem.head _) alln) (fun m' H' hm' hX' => y_pickf rfl hO10 rfl) ?_
              refine g_y (i := 9) (listed' := #[true, true, true, true, true, true, true, true, true, true]) rfl (by kernel_rfl) (by kernel_rfl) (by kernel_rfl) (by kernel_rfl) rfl rfl hg (allc (List.Mem.head _) alln) (fun m' H' hm' hX' => y_assign rfl) ?_
              refine g_done (by kernel_rfl) ?_
              clear hg hz_g hzx_g
              refine hK13 _ _ _ ?_
              clear hK13 K13
              refine c_region ?_
              refine r_y rfl rfl (y_move rfl) ?_
              first | refine r_y rfl rfl (y_inc rfl (by omega)) ?_ | refine r_y rfl rfl (y_iop rfl rfl rfl) ?_
              refine r_y rfl rfl (y_assign rfl) ?_
              refine r_nil ?_
              exact ⟨k0 - 1, (i + 1), by omega, ⟨rfl, rfl, rfl, rfl, (congrArg (fun z => some (Value.bool z)) (by first | (rw [any_take_step hx1, hkk, Bool.or_true]; done) | (rw [any_take_step hx1, hkk, Bool.or_false]; done))), (congrArg (fun z => some (Value.bool z)) (by first | (rw [any_take_step hx1, hkk, Bool.not_true, Bool.false_and, Bool.or_false]; done) | (rw [any_take_step hx1, hO10, Bool.true_or]; done) | (rw [any_take_step hx1, hkk, hO10, Bool.false_or, Bool.not_false, Bool.true_and]; done))), rfl, trivial⟩, rfl, ⟨by omega, by rw [any_take_step hx1, hown, hkk, Bool.false_or]; first | rfl | (simpa using hW)⟩, hm, hz, hzx⟩
        ·
          refine c_exit ?_
          refine hK9 _ _ _ ?_
          clear hK11 K11 hK9 K9
          refine c_seq (fun K18 hK18 => ?_)
          refine c_seq (fun K19 hK19 => ?_)
          refine c_region ?_
          refine r_y rfl rfl (y_fieldAddr rfl At.lit fo32_7 rfl) ?_
          refine r_y rfl rfl (y_load_s rfl ts4 (RdS.blk (i := 1) rfl rfl)) ?_
          refine r_y rfl rfl (y_move rfl) ?_
          refine r_split (j := 2) rfl (fun hCk => ?_) (fun hCk => ?_)
          ·
            refine r_yg rfl hCk rfl (y_move rfl) ?_
            refine r_y rfl rfl (y_pickt rfl hCk rfl) ?_
            refine r_nil ?_
            refine hK19 _ _ _ ?_
            clear hK19 K19
            refine c_cond rfl (fun hOv => ?_) (fun hOv => ?_)
            ·
              refine c_seq (fun K20 hK20 => ?_)
              refine c_region ?_
              refine r_y rfl rfl (y_assign rfl) ?_
              refine r_y rfl rfl (y_assign rfl) ?_
              refine r_nil ?_
              refine hK20 _ _ _ ?_
              clear hK20 K20
              refine c_ret ?_
              refine e_ret 2 hm (res_tmps rfl) ?_
              rw [applyR_add hTS (by simpa using hK1)]
              have hin : i = s1.n := by simp at h0; omega
              rw [hin, hl, show l1.length = (l1.map (·.1)).length by simp, List.take_length] at hown
              rw [hin, hl, show l1.length = (l1.map (·.1)).length by simp, List.take_length] at hOv
              rw [addR_6 hown (by rw [hCk, hOv]; rfl)]
              exact ⟨zSl, [], rfl, fzR_nil _, rfl, fun _ => rfl, rfl⟩
            ·
              refine c_skip ?_
              refine hK18 _ _ _ ?_
              clear hK18 K18
              refine c_seq (fun K21 hK21 => ?_)
              refine c_seq (fun K22 hK22 => ?_)
              refine c_region ?_
              refine r_y rfl rfl (y_move rfl) ?_
              refine r_y rfl rfl (y_not rfl) ?_
              refine r_y rfl rfl (y_move rfl) ?_
              refine r_split (j := 2) rfl (fun hN => ?_) (fun hN => ?_)
              ·
                refine r_yg rfl hN rfl (y_move rfl) ?_
                refine r_yg rfl hN rfl (y_len tl33 rfl) ?_
                refine r_yg rfl hN rfl (y_move rfl) ?_
                refine r_yg rfl hN rfl (y_iop rfl rfl rfl) ?_
                refine r_y rfl rfl (y_pickt rfl hN rfl) ?_
                refine r_nil ?_
                refine hK22 _ _ _ ?_
                clear hK22 K22
                refine c_cond rfl (fun hF => ?_) (fun hF => ?_)
                ·
                  refine c_seq (fun K23 hK23 => ?_)
                  refine c_region ?_
                  refine r_y rfl rfl (y_assign rfl) ?_
                  refine r_y rfl rfl (y_assign rfl) ?_
                  refine r_nil ?_
                  refine hK23 _ _ _ ?_
                  clear hK23 K23
                  refine c_ret ?_
                  refine e_ret 2 hm (res_tmps rfl) ?_
                  rw [applyR_add hTS (by simpa using hK1)]
                  have hin : i = s1.n := by simp at h0; omega
                  rw [hin, hl, show l1.length = (l1.map (·.1)).length by simp, List.take_length] at hown
                  rw [hin, hl, show l1.length = (l1.map (·.1)).length by simp, List.take_length] at hN
                  rw [addR_3 hown (by first | (rw [hCk]; rfl) | (rw [hin, hl, show l1.length = (l1.map (·.1)).length by simp, List.take_length] at hOv; rw [hCk, hOv]; rfl)) (by rw [List.length_map, ← hl, hN, Bool.true_and]; exact hF)]
                  exact ⟨zSl, [], rfl, fzR_nil _, rfl, fun _ => rfl, rfl⟩
                ·
                  refine c_skip ?_
                  refine hK21 _ _ _ ?_
                  clear hK21 K21
                  refine c_seq (fun K24 hK24 => ?_)
                  refine c_draw ([.blk b1 (.cells (encRule (modRule x) sm).toArray 50)]) (by kernel_rfl) (fun hg => ?_)
                  have hz_g := hz
                  have hzx_g := hzx
                  refine g_y (i := 1) (listed' := #[false, true, false, false, false, false, false, false, false]) rfl (by kernel_rfl) (by kernel_rfl) (by kernel_rfl) (by kernel_rfl) rfl rfl hg (allc (List.Mem.head _) alln) (fun m' H' hm' hX' => y_move rfl) ?_
                  refine g_y (i := 3) (listed' := #[false, true, false, true, false, false, false, false, false]) rfl (by kernel_rfl) (by kernel_rfl) (by kernel_rfl) (by kernel_rfl) rfl rfl hg (allc (List.Mem.head _) alln) (fun m' H' hm' hX' => y_load_a (cs := encRule (modRule x) sm) rfl ts50 (RdA.mem (hX' _ (List.Mem.head _)) rfl)) ?_
                  refine g_each (rs := [0, 4]) (by kernel_rfl) (by simp) ⟨⟨_, rfl, rfl, ?_⟩, ⟨_, rfl, rfl, ?_⟩, trivial⟩
                  ·
                    refine s_buildSlice (cs := []) (e := 50) rfl rfl (fun _ => by kernel_rfl) (fun b2 => ?_)
                    refine ⟨⟨hg, (allc (List.Mem.tail _ (List.Mem.head _)) alln)⟩, ?_⟩
                    refine g_toVec (i := 0) (s := 32) (k := 0) [] rfl rfl (fun c h => by cases h) rfl (Nat.zero_le _) ?_
                    refine g_each (rs := [2, 4]) (by kernel_rfl) (by simp) ⟨⟨_, rfl, rfl, ?_⟩, ⟨_, rfl, rfl, ?_⟩, trivial⟩
                    ·
                      refine s_append rfl rfl rfl tl33 zo50 tb50 (i := 0) rfl (hz.src hok1) (by omega) (by unfold maxLen; omega) (fun a1 c1 => ?_)
                      refine ⟨⟨hg, (allc (List.Mem.tail _ (List.Mem.head _)) alln)⟩, ?_⟩
                      refine g_s (i := 4) (listed' := #[true, true, true, true, true, false, false, false, false]) rfl (by kernel_rfl) (by kernel_rfl) rfl ?_
                      refine s_buildSlice (cs := (encRule (modRule x) sm)) (e := 50) rfl rfl (fun _ => by kernel_rfl) (fun b3 => ?_)
                      refine ⟨⟨hg, (allc (List.Mem.tail _ (List.Mem.tail _ (List.Mem.head _))) alln)⟩, ?_⟩
                      refine g_s (i := 5) (listed' := #[true, true, true, true, true, true, false, false, false]) rfl (by kernel_rfl) (by kernel_rfl) rfl ?_
                      refine s_append rfl rfl rfl tl33 zo50 tb50 (i := 1) rfl (Src.one' (i := 0) rfl rfl (one_rule _ _)) (by omega) (by unfold maxLen; omega) (fun a2 c2 => ?_)
                      refine ⟨⟨hg, (allc (List.Mem.tail _ (List.Mem.tail _ (List.Mem.head _))) alln)⟩, ?_⟩
                      refine g_del 0 rfl ?_
                      refine g_freezeVec (i := 0) rfl rfl (fun m3 hm3 hzu hnu => ?_)
                      replace hm := hm.trans hm3
                      replace hg := hg.trans hm3
                      replace hz := hz.mono hm3
                      replace hzx := hzx.mono hm3
                      clear hm3
                      have hzt : FzR _ ⟨a2, 0 + s1.n + 1, c2⟩ (l1 ++ [(modRule x, sm)]) := fzr_of hzu (by simp) ((AllA.of hz).snoc hzx hokx)
                      refine g_s (i := 6) (listed' := #[true, true, true, true, true, true, true, false, false]) rfl (by kernel_rfl) (by kernel_rfl) rfl ?_
                      refine s_call0 rfl Try.call87 rfl (rSort_w ⟨a2, 0 + s1.n + 1, c2⟩ (l1 ++ [(modRule x, sm)]) _ _ hzt (by simp; omega)) ?_
                      rintro _ m2 _ hm2 ⟨s9, lr9, rfl, hz9, hlr9, hn9, rfl⟩
                      replace hm := hm.trans hm2
                      refine ⟨⟨hg.trans hm2, (allc (List.Mem.head _) alln)⟩, ?_⟩
                      replace hg := hg.trans hm2
                      replace hz := hz.mono hm2
                      replace hzx := hzx.mono hm2
                      replace hzu := hzu.mono hm2
                      clear hm2
                      refine g_y (i := 7) (listed' := #[true, true, true, true, true, true, true, true, false]) rfl (by kernel_rfl) (by kernel_rfl) (by kernel_rfl) (by kernel_rfl) rfl rfl hg (allc (List.Mem.head _) alln) (fun m' H' hm' hX' => y_assign rfl) ?_
                      refine g_y (i := 8) (listed' := #[true, true, true, true, true, true, true, true, true]) rfl (by kernel_rfl) (by kernel_rfl) (by kernel_rfl) (by kernel_rfl) rfl rfl hg (allc (List.Mem.head _) alln) (fun m' H' hm' hX' => y_assign rfl) ?_
                      refine g_done (by kernel_rfl) ?_
                      clear hg hz_g hzx_g
                      refine hK24 _ _ _ ?_
                      clear hK24 K24
                      refine c_ret ?_
                      refine e_ret 2 hm (res_tmps rfl) ?_
                      rw [applyR_add hTS (by simpa using hK1)]
                      have hin : i = s1.n := by simp at h0; omega
                      rw [hin, hl, show l1.length = (l1.map (·.1)).length by simp, List.take_length] at hown
                      rw [hin, hl, show l1.length = (l1.map (·.1)).length by simp, List.take_length] at hN
                      rw [addR_0 hown (by first | (rw [hCk]; rfl) | (rw [hin, hl, show l1.length = (l1.map (·.1)).length by simp, List.take_length] at hOv; rw [hCk, hOv]; rfl)) (by rw [List.length_map, ← hl]; first | (rw [hN, Bool.false_and]; done) | (rw [hN, Bool.true_and]; exact hF))]
                      exact ⟨s9, lr9, rfl, hz9, by rw [hlr9, List.map_append]; rfl, hn9, rfl⟩
                    ·
                      refine s_buildSlice (cs := (encRule (modRule x) sm)) (e := 50) rfl rfl (fun _ => by kernel_rfl) (fun b3 => ?_)
                      refine ⟨⟨hg, (allc (List.Mem.tail _ (List.Mem.tail _ (List.Mem.head _))) alln)⟩, ?_⟩
                      refine g_s (i := 2) (listed' := #[true, true, true, true, true, false, false, false, false]) rfl (by kernel_rfl) (by kernel_rfl) rfl ?_
                      refine s_append rfl rfl rfl tl33 zo50 tb50 (i := 1) rfl (hz.src hok1) (by omega) (by unfold maxLen; omega) (fun a1 c1 => ?_)
                      refine ⟨⟨hg, (allc (List.Mem.tail _ (List.Mem.tail _ (List.Mem.head _))) alln)⟩, ?_⟩
                      refine g_s (i := 5) (listed' := #[true, true, true, true, true, true, false, false, false]) rfl (by kernel_rfl) (by kernel_rfl) rfl ?_
                      refine s_append rfl rfl rfl tl33 zo50 tb50 (i := 1) rfl (Src.one' (i := 0) rfl rfl (one_rule _ _)) (by omega) (by unfold maxLen; omega) (fun a2 c2 => ?_)
                      refine ⟨⟨hg, (allc (List.Mem.tail _ (List.Mem.tail _ (List.Mem.head _))) alln)⟩, ?_⟩
                      refine g_del 0 rfl ?_
                      refine g_freezeVec (i := 0) rfl rfl (fun m3 hm3 hzu hnu => ?_)
                      replace hm := hm.trans hm3
                      replace hg := hg.trans hm3
                      replace hz := hz.mono hm3
                      replace hzx := hzx.mono hm3
                      clear hm3
                      have hzt : FzR _ ⟨a2, 0 + s1.n + 1, c2⟩ (l1 ++ [(modRule x, sm)]) := fzr_of hzu (by simp) ((AllA.of hz).snoc hzx hokx)
                      refine g_s (i := 6) (listed' := #[true, true, true, true, true, true, true, false, false]) rfl (by kernel_rfl) (by kernel_rfl) rfl ?_
                      refine s_call0 rfl Try.call87 rfl (rSort_w ⟨a2, 0 + s1.n + 1, c2⟩ (l1 ++ [(modRule x, sm)]) _ _ hzt (by simp; omega)) ?_
                      rintro _ m2 _ hm2 ⟨s9, lr9, rfl, hz9, hlr9, hn9, rfl⟩
                      replace hm := hm.trans hm2
                      refine ⟨⟨hg.trans hm2, (allc (List.Mem.head _) alln)⟩, ?_⟩
                      replace hg := hg.trans hm2
                      replace hz := hz.mono hm2
                      replace hzx := hzx.mono hm2
                      replace hzu := hzu.mono hm2
                      clear hm2
                      refine g_y (i := 7) (listed' := #[true, true, true, true, true, true, true, true, false]) rfl (by kernel_rfl) (by kernel_rfl) (by kernel_rfl) (by kernel_rfl) rfl rfl hg (allc (List.Mem.head _) alln) (fun m' H' hm' hX' => y_assign rfl) ?_
                      refine g_y (i := 8) (listed' := #[true, true, true, true, true, true, true, true, true]) rfl (by kernel_rfl) (by kernel_rfl) (by kernel_rfl) (by kernel_rfl) rfl rfl hg (allc (List.Mem.head _) alln) (fun m' H' hm' hX' => y_assign rfl) ?_
                      refine g_done (by kernel_rfl) ?_
                      clear hg hz_g hzx_g
                      refine hK24 _ _ _ ?_
                      clear hK24 K24
                      refine c_ret ?_
                      refine e_ret 2 hm (res_tmps rfl) ?_
                      rw [applyR_add hTS (by simpa using hK1)]
                      have hin : i = s1.n := by simp at h0; omega
                      rw [hin, hl, show l1.length = (l1.map (·.1)).length by simp, List.take_length] at hown
                      rw [hin, hl, show l1.length = (l1.map (·.1)).length by simp, List.take_length] at hN
                      rw [addR_0 hown (by first | (rw [hCk]; rfl) | (rw [hin, hl, show l1.length = (l1.map (·.1)).length by simp, List.take_length] at hOv; rw [hCk, hOv]; rfl)) (by rw [List.length_map, ← hl]; first | (rw [hN, Bool.false_and]; done) | (rw [hN, Bool.true_and]; exact hF))]
                      exact ⟨s9, lr9, rfl, hz9, by rw [hlr9, List.map_append]; rfl, hn9, rfl⟩
                  ·
                    refine s_buildSlice (cs := (encRule (modRule x) sm)) (e := 50) rfl rfl (fun _ => by kernel_rfl) (fun b2 => ?_)
                    refine ⟨⟨hg, (allc (List.Mem.tail _ (List.Mem.head _)) alln)⟩, ?_⟩
                    refine g_s (i := 0) (listed' := #[true, true, false, true, true, false, false, false, false]) rfl (by kernel_rfl) (by kernel_rfl) rfl ?_
                    refine s_buildSlice (cs := []) (e := 50) rfl rfl (fun _ => by kernel_rfl) (fun b3 => ?_)
                    refine ⟨⟨hg, (allc (List.Mem.tail _ (List.Mem.tail _ (List.Mem.head _))) alln)⟩, ?_⟩
                    refine g_toVec (i := 0) (s := 32) (k := 0) [] rfl rfl (fun c h => by cases h) rfl (Nat.zero_le _) ?_
                    refine g_s (i := 2) (listed' := #[true, true, true, true, true, false, false, false, false]) rfl (by kernel_rfl) (by kernel_rfl) rfl ?_
                    refine s_append rfl rfl rfl tl33 zo50 tb50 (i := 0) rfl (hz.src hok1) (by omega) (by unfold maxLen; omega) (fun a1 c1 => ?_)
                    refine ⟨⟨hg, (allc (List.Mem.tail _ (List.Mem.tail _ (List.Mem.head _))) alln)⟩, ?_⟩
                    refine g_s (i := 5) (listed' := #[true, true, true, true, true, true, false, false, false]) rfl (by kernel_rfl) (by kernel_rfl) rfl ?_
                    refine s_append rfl rfl rfl tl33 zo50 tb50 (i := 0) rfl (Src.one' (i := 1) rfl rfl (one_rule _ _)) (by omega) (by unfold maxLen; omega) (fun a2 c2 => ?_)
                    refine ⟨⟨hg, (allc (List.Mem.tail _ (List.Mem.tail _ (List.Mem.head _))) alln)⟩, ?_⟩
                    refine g_del 1 rfl ?_
                    refine g_freezeVec (i := 0) rfl rfl (fun m3 hm3 hzu hnu => ?_)
                    replace hm := hm.trans hm3
                    replace hg := hg.trans hm3
                    replace hz := hz.mono hm3
                    replace hzx := hzx.mono hm3
                    clear hm3
                    have hzt : FzR _ ⟨a2, 0 + s1.n + 1, c2⟩ (l1 ++ [(modRule x, sm)]) := fzr_of hzu (by simp) ((AllA.of hz).snoc hzx hokx)
                    refine g_s (i := 6) (listed' := #[true, true, true, true, true, true, true, false, false]) rfl (by kernel_rfl) (by kernel_rfl) rfl ?_
                    refine s_call0 rfl Try.call87 rfl (rSort_w ⟨a2, 0 + s1.n + 1, c2⟩ (l1 ++ [(modRule x, sm)]) _ _ hzt (by simp; omega)) ?_
                    rintro _ m2 _ hm2 ⟨s9, lr9, rfl, hz9, hlr9, hn9, rfl⟩
                    replace hm := hm.trans hm2
                    refine ⟨⟨hg.trans hm2, (allc (List.Mem.head _) alln)⟩, ?_⟩
                    replace hg := hg.trans hm2
                    replace hz := hz.mono hm2
                    replace hzx := hzx.mono hm2
                    replace hzu := hzu.mono hm2
                    clear hm2
                    refine g_y (i := 7) (listed' := #[true, true, true, true, true, true, true, true, false]) rfl (by kernel_rfl) (by kernel_rfl) (by kernel_rfl) (by kernel_rfl) rfl rfl hg (allc (List.Mem.head _) alln) (fun m' H' hm' hX' => y_assign rfl) ?_
                    refine g_y (i := 8) (listed' := #[true, true, true, true, true, true, true, true, true]) rfl (by kernel_rfl) (by kernel_rfl) (by kernel_rfl) (by kernel_rfl) rfl rfl hg (allc (List.Mem.head _) alln) (fun m' H' hm' hX' => y_assign rfl) ?_
                    refine g_done (by kernel_rfl) ?_
                    clear hg hz_g hzx_g
                    refine hK24 _ _ _ ?_
                    clear hK24 K24
                    refine c_ret ?_
                    refine e_ret 2 hm (res_tmps rfl) ?_
                    rw [applyR_add hTS (by simpa using hK1)]
                    have hin : i = s1.n := by simp at h0; omega
                    rw [hin, hl, show l1.length = (l1.map (·.1)).length by simp, List.take_length] at hown
                    rw [hin, hl, show l1.length = (l1.map (·.1)).length by simp, List.take_length] at hN
                    rw [addR_0 hown (by first | (rw [hCk]; rfl) | (rw [hin, hl, show l1.length = (l1.map (·.1)).length by simp, List.take_length] at hOv; rw [hCk, hOv]; rfl)) (by rw [List.length_map, ← hl]; first | (rw [hN, Bool.false_and]; done) | (rw [hN, Bool.true_and]; exact hF))]
                    exact ⟨s9, lr9, rfl, hz9, by rw [hlr9, List.map_append]; rfl, hn9, rfl⟩
              ·
                refine r_no' rfl rfl hN ?_
                refine r_no' rfl rfl hN ?_
                refine r_no' rfl rfl hN ?_
                refine r_no' rfl rfl hN ?_
                refine r_y rfl rfl (y_pickf rfl hN rfl) ?_
                refine r_nil ?_
                refine hK22 _ _ _ ?_
                clear hK22 K22
                refine c_iff rfl rfl ?_
                refine c_skip ?_
                refine hK21 _ _ _ ?_
                clear hK21 K21
                refine c_seq (fun K25 hK25 => ?_)
                refine c_draw ([.blk b1 (.cells (encRule (modRule x) sm).toArray 50)]) (by kernel_rfl) (fun hg => ?_)
                have hz_g := hz
                have hzx_g := hzx
                refine g_y (i := 1) (listed' := #[false, true, false, false, false, false, false, false, false]) rfl (by kernel_rfl) (by kernel_rfl) (by kernel_rfl) (by kernel_rfl) rfl rfl hg (allc (List.Mem.head _) alln) (fun m' H' hm' hX' => y_move rfl) ?_
                refine g_y (i := 3) (listed' := #[false, true, false, true, false, false, false, false, false]) rfl (by kernel_rfl) (by kernel_rfl) (by kernel_rfl) (by kernel_rfl) rfl rfl hg (allc (List.Mem.head _) alln) (fun m' H' hm' hX' => y_load_a (cs := encRule (modRule x) sm) rfl ts50 (RdA.mem (hX' _ (List.Mem.head _)) rfl)) ?_
                refine g_each (rs := [0, 4]) (by kernel_rfl) (by simp) ⟨⟨_, rfl, rfl, ?_⟩, ⟨_, rfl, rfl, ?_⟩, trivial⟩
                ·
                  refine s_buildSlice (cs := []) (e := 50) rfl rfl (fun _ => by kernel_rfl) (fun b4 => ?_)
                  refine ⟨⟨hg, (allc (List.Mem.tail _ (List.Mem.head _)) alln)⟩, ?_⟩
                  refine g_toVec (i := 0) (s := 32) (k := 0) [] rfl rfl (fun c h => by cases h) rfl (Nat.zero_le _) ?_
                  refine g_each (rs := [2, 4]) (by kernel_rfl) (by simp) ⟨⟨_, rfl, rfl, ?_⟩, ⟨_, rfl, rfl, ?_⟩, trivial⟩
                  ·
                    refine s_append rfl rfl rfl tl33 zo50 tb50 (i := 0) rfl (hz.src hok1) (by omega) (by unfold maxLen; omega) (fun a1 c1 => ?_)
                    refine ⟨⟨hg, (allc (List.Mem.tail _ (List.Mem.head _)) alln)⟩, ?_⟩
                    refine g_s (i := 4) (listed' := #[true, true, true, true, true, false, false, false, false]) rfl (by kernel_rfl) (by kernel_rfl) rfl ?_
                    refine s_buildSlice (cs := (encRule (modRule x) sm)) (e := 50) rfl rfl (fun _ => by kernel_rfl) (fun b5 => ?_)
                    refine ⟨⟨hg, (allc (List.Mem.tail _ (List.Mem.tail _ (List.Mem.head _))) alln)⟩, ?_⟩
                    refine g_s (i := 5) (listed' := #[true, true, true, true, true, true, false, false, false]) rfl (by kernel_rfl) (by kernel_rfl) rfl ?_
                    refine s_append rfl rfl rfl tl33 zo50 tb50 (i := 1) rfl (Src.one' (i := 0) rfl rfl (one_rule _ _)) (by omega) (by unfold maxLen; omega) (fun a2 c2 => ?_)
                    refine ⟨⟨hg, (allc (List.Mem.tail _ (List.Mem.tail _ (List.Mem.head _))) alln)⟩, ?_⟩
                    refine g_del 0 rfl ?_
                    refine g_freezeVec (i := 0) rfl rfl (fun m3 hm3 hzu hnu => ?_)
                    replace hm := hm.trans hm3
                    replace hg := hg.trans hm3
                    replace hz := hz.mono hm3
                    replace hzx := hzx.mono hm3
                    clear hm3
                    have hzt : FzR _ ⟨a2, 0 + s1.n + 1, c2⟩ (l1 ++ [(modRule x, sm)]) := fzr_of hzu (by simp) ((AllA.of hz).snoc hzx hokx)
                    refine g_s (i := 6) (listed' := #[true, true, true, true, true, true, true, false, false]) rfl (by kernel_rfl) (by kernel_rfl) rfl ?_
                    refine s_call0 rfl Try.call87 rfl (rSort_w ⟨a2, 0 + s1.n + 1, c2⟩ (l1 ++ [(modRule x, sm)]) _ _ hzt (by simp; omega)) ?_
                    rintro _ m2 _ hm2 ⟨s9, lr9, rfl, hz9, hlr9, hn9, rfl⟩
                    replace hm := hm.trans hm2
                    refine ⟨⟨hg.trans hm2, (allc (List.Mem.head _) alln)⟩, ?_⟩
                    replace hg := hg.trans hm2
                    replace hz := hz.mono hm2
                    replace hzx := hzx.mono hm2
                    replace hzu := hzu.mono hm2
                    clear hm2
                    refine g_y (i := 7) (listed' := #[true, true, true, true, true, true, true, true, false]) rfl (by kernel_rfl) (by kernel_rfl) (by kernel_rfl) (by kernel_rfl) rfl rfl hg (allc (List.Mem.head _) alln) (fun m' H' hm' hX' => y_assign rfl) ?_
                    refine g_y (i := 8) (listed' := #[true, true, true, true, true, true, true, true, true]) rfl (by kernel_rfl) (by kernel_rfl) (by kernel_rfl) (by kernel_rfl) rfl rfl hg (allc (List.Mem.head _) alln) (fun m' H' hm' hX' => y_assign rfl) ?_
                    refine g_done (by kernel_rfl) ?_
                    clear hg hz_g hzx_g
                    refine hK25 _ _ _ ?_
                    clear hK25 K25
                    refine c_ret ?_
                    refine e_ret 2 hm (res_tmps rfl) ?_
                    rw [applyR_add hTS (by simpa using hK1)]
                    have hin : i = s1.n := by simp at h0; omega
                    rw [hin, hl, show l1.length = (l1.map (·.1)).length by simp, List.take_length] at hown
                    rw [hin, hl, show l1.length = (l1.map (·.1)).length by simp, List.take_length] at hN
                    rw [addR_0 hown (by first | (rw [hCk]; rfl) | (rw [hin, hl, show l1.length = (l1.map (·.1)).length by simp, List.take_length] at hOv; rw [hCk, hOv]; rfl)) (by rw [List.length_map, ← hl]; first | (rw [hN, Bool.false_and]; done) | (rw [hN, Bool.true_and]; exact hF))]
                    exact ⟨s9, lr9, rfl, hz9, by rw [hlr9, List.map_append]; rfl, hn9, rfl⟩
                  ·
                    refine s_buildSlice (cs := (encRule (modRule x) sm)) (e := 50) rfl rfl (fun _ => by kernel_rfl) (fun b5 => ?_)
                    refine ⟨⟨hg, (allc (List.Mem.tail _ (List.Mem.tail _ (List.Mem.head _))) alln)⟩, ?_⟩
                    refine g_s (i := 2) (listed' := #[true, true, true, true, true, false, false, false, false]) rfl (by kernel_rfl) (by kernel_rfl) rfl ?_
                    refine s_append rfl rfl rfl tl33 zo50 tb50 (i := 1) rfl (hz.src hok1) (by omega) (by unfold maxLen; omega) (fun a1 c1 => ?_)
                    refine ⟨⟨hg, (allc (List.Mem.tail _ (List.Mem.tail _ (List.Mem.head _))) alln)⟩, ?_⟩
                    refine g_s (i := 5) (listed' := #[true, true, true, true, true, true, false, false, false]) rfl (by kernel_rfl) (by kernel_rfl) rfl ?_
                    refine s_append rfl rfl rfl tl33 zo50 tb50 (i := 1) rfl (Src.one' (i := 0) rfl rfl (one_rule _ _)) (by omega) (by unfold maxLen; omega) (fun a2 c2 => ?_)
                    refine ⟨⟨hg, (allc (List.Mem.tail _ (List.Mem.tail _ (List.Mem.head _))) alln)⟩, ?_⟩
                    refine g_del 0 rfl ?_
                    refine g_freezeVec (i := 0) rfl rfl (fun m3 hm3 hzu hnu => ?_)
                    replace hm := hm.trans hm3
                    replace hg := hg.trans hm3
                    replace hz := hz.mono hm3
                    replace hzx := hzx.mono hm3
                    clear hm3
                    have hzt : FzR _ ⟨a2, 0 + s1.n + 1, c2⟩ (l1 ++ [(modRule x, sm)]) := fzr_of hzu (by simp) ((AllA.of hz).snoc hzx hokx)
                    refine g_s (i := 6) (listed' := #[true, true, true, true, true, true, true, false, false]) rfl (by kernel_rfl) (by kernel_rfl) rfl ?_
                    refine s_call0 rfl Try.call87 rfl (rSort_w ⟨a2, 0 + s1.n + 1, c2⟩ (l1 ++ [(modRule x, sm)]) _ _ hzt (by simp; omega)) ?_
                    rintro _ m2 _ hm2 ⟨s9, lr9, rfl, hz9, hlr9, hn9, rfl⟩
                    replace hm := hm.trans hm2
                    refine ⟨⟨hg.trans hm2, (allc (List.Mem.head _) alln)⟩, ?_⟩
                    replace hg := hg.trans hm2
                    replace hz := hz.mono hm2
                    replace hzx := hzx.mono hm2
                    replace hzu := hzu.mono hm2
                    clear hm2
                    refine g_y (i := 7) (listed' := #[true, true, true, true, true, true, true, true, false]) rfl (by kernel_rfl) (by kernel_rfl) (by kernel_rfl) (by kernel_rfl) rfl rfl hg (allc (List.Mem.head _) alln) (fun m' H' hm' hX' => y_assign rfl) ?_
                    refine g_y (i := 8) (listed' := #[true, true, true, true, true, true, true, true, true]) rfl (by kernel_rfl) (by kernel_rfl) (by kernel_rfl) (by kernel_rfl) rfl rfl hg (allc (List.Mem.head _) alln) (fun m' H' hm' hX' => y_assign rfl) ?_
                    refine g_done (by kernel_rfl) ?_
                    clear hg hz_g hzx_g
                    refine hK25 _ _ _ ?_
                    clear hK25 K25
                    refine c_ret ?_
                    refine e_ret 2 hm (res_tmps rfl) ?_
                    rw [applyR_add hTS (by simpa using hK1)]
                    have hin : i = s1.n := by simp at h0; omega
                    rw [hin, hl, show l1.length = (l1.map (·.1)).length by simp, List.take_length] at hown
                    rw [hin, hl, show l1.length = (l1.map (·.1)).length by simp, List.take_length] at hN
                    rw [addR_0 hown (by first | (rw [hCk]; rfl) | (rw [hin, hl, show l1.length = (l1.map (·.1)).length by simp, List.take_length] at hOv; rw [hCk, hOv]; rfl)) (by rw [List.length_map, ← hl]; first | (rw [hN, Bool.false_and]; done) | (rw [hN, Bool.true_and]; exact hF))]
                    exact ⟨s9, lr9, rfl, hz9, by rw [hlr9, List.map_append]; rfl, hn9, rfl⟩
                ·
                  refine s_buildSlice (cs := (encRule (modRule x) sm)) (e := 50) rfl rfl (fun _ => by kernel_rfl) (fun b4 => ?_)
                  refine ⟨⟨hg, (allc (List.Mem.tail _ (List.Mem.head _)) alln)⟩, ?_⟩
                  refine g_s (i := 0) (listed' := #[true, true, false, true, true, false, false, false, false]) rfl (by kernel_rfl) (by kernel_rfl) rfl ?_
                  refine s_buildSlice (cs := []) (e := 50) rfl rfl (fun _ => by kernel_rfl) (fun b5 => ?_)
                  refine ⟨⟨hg, (allc (List.Mem.tail _ (List.Mem.tail _ (List.Mem.head _))) alln)⟩, ?_⟩
                  refine g_toVec (i := 0) (s := 32) (k := 0) [] rfl rfl (fun c h => by cases h) rfl (Nat.zero_le _) ?_
                  refine g_s (i := 2) (listed' := #[true, true, true, true, true, false, false, false, false]) rfl (by kernel_rfl) (by kernel_rfl) rfl ?_
                  refine s_append rfl rfl rfl tl33 zo50 tb50 (i := 0) rfl (hz.src hok1) (by omega) (by unfold maxLen; omega) (fun a1 c1 => ?_)
                  refine ⟨⟨hg, (allc (List.Mem.tail _ (List.Mem.tail _ (List.Mem.head _))) alln)⟩, ?_⟩
                  refine g_s (i := 5) (listed' := #[true, true, true, true, true, true, false, false, false]) rfl (by kernel_rfl) (by kernel_rfl) rfl ?_
                  refine s_append rfl rfl rfl tl33 zo50 tb50 (i := 0) rfl (Src.one' (i := 1) rfl rfl (one_rule _ _)) (by omega) (by unfold maxLen; omega) (fun a2 c2 => ?_)
                  refine ⟨⟨hg, (allc (List.Mem.tail _ (List.Mem.tail _ (List.Mem.head _))) alln)⟩, ?_⟩
                  refine g_del 1 rfl ?_
                  refine g_freezeVec (i := 0) rfl rfl (fun m3 hm3 hzu hnu => ?_)
                  replace hm := hm.trans hm3
                  replace hg := hg.trans hm3
                  replace hz := hz.mono hm3
                  replace hzx := hzx.mono hm3
                  clear hm3
                  have hzt : FzR _ ⟨a2, 0 + s1.n + 1, c2⟩ (l1 ++ [(modRule x, sm)]) := fzr_of hzu (by simp) ((AllA.of hz).snoc hzx hokx)
                  refine g_s (i := 6) (listed' := #[true, true, true, true, true, true, true, false, false]) rfl (by kernel_rfl) (by kernel_rfl) rfl ?_
                  refine s_call0 rfl Try.call87 rfl (rSort_w ⟨a2, 0 + s1.n + 1, c2⟩ (l1 ++ [(modRule x, sm)]) _ _ hzt (by simp; omega)) ?_
                  rintro _ m2 _ hm2 ⟨s9, lr9, rfl, hz9, hlr9, hn9, rfl⟩
                  replace hm := hm.trans hm2
                  refine ⟨⟨hg.trans hm2, (allc (List.Mem.head _) alln)⟩, ?_⟩
                  replace hg := hg.trans hm2
                  replace hz := hz.mono hm2
                  replace hzx := hzx.mono hm2
                  replace hzu := hzu.mono hm2
                  clear hm2
                  refine g_y (i := 7) (listed' := #[true, true, true, true, true, true, true, true, false]) rfl (by kernel_rfl) (by kernel_rfl) (by kernel_rfl) (by kernel_rfl) rfl rfl hg (allc (List.Mem.head _) alln) (fun m' H' hm' hX' => y_assign rfl) ?_
                  refine g_y (i := 8) (listed' := #[true, true, true, true, true, true, true, true, true]) rfl (by kernel_rfl) (by kernel_rfl) (by kernel_rfl) (by kernel_rfl) rfl rfl hg (allc (List.Mem.head _) alln) (fun m' H' hm' hX' => y_assign rfl) ?_
                  refine g_done (by kernel_rfl) ?_
                  clear hg hz_g hzx_g
                  refine hK25 _ _ _ ?_
                  clear hK25 K25
                  refine c_ret ?_
                  refine e_ret 2 hm (res_tmps rfl) ?_
                  rw [applyR_add hTS (by simpa using hK1)]
                  have hin : i = s1.n := by simp at h0; omega
                  rw [hin, hl, show l1.length = (l1.map (·.1)).length by simp, List.take_length] at hown
                  rw [hin, hl, show l1.length = (l1.map (·.1)).length by simp, List.take_length] at hN
                  rw [addR_0 hown (by first | (rw [hCk]; rfl) | (rw [hin, hl, show l1.length = (l1.map (·.1)).length by simp, List.take_length] at hOv; rw [hCk, hOv]; rfl)) (by rw [List.length_map, ← hl]; first | (rw [hN, Bool.false_and]; done) | (rw [hN, Bool.true_and]; exact hF))]
                  exact ⟨s9, lr9, rfl, hz9, by rw [hlr9, List.map_append]; rfl, hn9, rfl⟩
          ·
            refine r_no' rfl rfl hCk ?_
            refine r_y rfl rfl (y_pickf rfl hCk rfl) ?_
            refine r_nil ?_
            refine hK19 _ _ _ ?_
            clear hK19 K19
            refine c_iff rfl rfl ?_
            refine c_skip ?_
            refine hK18 _ _ _ ?_
            clear hK18 K18
            refine c_seq (fun K26 hK26 => ?_)
            refine c_seq (fun K27 hK27 => ?_)
            refine c_region ?_
            refine r_y rfl rfl (y_move rfl) ?_
            refine r_y rfl rfl (y_not rfl) ?_
            refine r_y rfl rfl (y_move rfl) ?_
            refine r_split (j := 2) rfl (fun hN => ?_) (fun hN => ?_)
            ·
              refine r_yg rfl hN rfl (y_move rfl) ?_
              refine r_yg rfl hN rfl (y_len tl33 rfl) ?_
              refine r_yg rfl hN rfl (y_move rfl) ?_
              refine r_yg rfl hN rfl (y_iop rfl rfl rfl) ?_
              refine r_y rfl rfl (y_pickt rfl hN rfl) ?_
              refine r_nil ?_
              refine hK27 _ _ _ ?_
              clear hK27 K27
              refine c_cond rfl (fun hF => ?_) (fun hF => ?_)
              ·
                refine c_seq (fun K28 hK28 => ?_)
                refine c_region ?_
                refine r_y rfl rfl (y_assign rfl) ?_
                refine r_y rfl rfl (y_assign rfl) ?_
                refine r_nil ?_
                refine hK28 _ _ _ ?_
                clear hK28 K28
                refine c_ret ?_
                refine e_ret 2 hm (res_tmps rfl) ?_
                rw [applyR_add hTS (by simpa using hK1)]
                have hin : i = s1.n := by simp at h0; omega
                rw [hin, hl, show l1.length = (l1.map (·.1)).length by simp, List.take_length] at hown
                rw [hin, hl, show l1.length = (l1.map (·.1)).length by simp, List.take_length] at hN
                rw [addR_3 hown (by first | (rw [hCk]; rfl) | (rw [hin, hl, show l1.length = (l1.map (·.1)).length by simp, List.take_length] at hOv; rw [hCk, hOv]; rfl)) (by rw [List.length_map, ← hl, hN, Bool.true_and]; exact hF)]
                exact ⟨zSl, [], rfl, fzR_nil _, rfl, fun _ => rfl, rfl⟩
              ·
                refine c_skip ?_
                refine hK26 _ _ _ ?_
                clear hK26 K26
                refine c_seq (fun K29 hK29 => ?_)
                refine c_draw ([.blk b1 (.cells (encRule (modRule x) sm).toArray 50)]) (by kernel_rfl) (fun hg => ?_)
                have hz_g := hz
                have hzx_g := hzx
                refine g_y (i := 1) (listed' := #[false, true, false, false, false, false, false, false, false]) rfl (by kernel_rfl) (by kernel_rfl) (by kernel_rfl) (by kernel_rfl) rfl rfl hg (allc (List.Mem.head _) alln) (fun m' H' hm' hX' => y_move rfl) ?_
                refine g_y (i := 3) (listed' := #[false, true, false, true, false, false, false, false, false]) rfl (by kernel_rfl) (by kernel_rfl) (by kernel_rfl) (by kernel_rfl) rfl rfl hg (allc (List.Mem.head _) alln) (fun m' H' hm' hX' => y_load_a (cs := encRule (modRule x) sm) rfl ts50 (RdA.mem (hX' _ (List.Mem.head _)) rfl)) ?_
                refine g_each (rs := [0, 4]) (by kernel_rfl) (by simp) ⟨⟨_, rfl, rfl, ?_⟩, ⟨_, rfl, rfl, ?_⟩, trivial⟩
                ·
                  refine s_buildSlice (cs := []) (e := 50) rfl rfl (fun _ => by kernel_rfl) (fun b6 => ?_)
                  refine ⟨⟨hg, (allc (List.Mem.tail _ (List.Mem.head _)) alln)⟩, ?_⟩
                  refine g_toVec (i := 0) (s := 32) (k := 0) [] rfl rfl (fun c h => by cases h) rfl (Nat.zero_le _) ?_
                  refine g_each (rs := [2, 4]) (by kernel_rfl) (by simp) ⟨⟨_, rfl, rfl, ?_⟩, ⟨_, rfl, rfl, ?_⟩, trivial⟩
                  ·
                    refine s_append rfl rfl rfl tl33 zo50 tb50 (i := 0) rfl (hz.src hok1) (by omega) (by unfold maxLen; omega) (fun a1 c1 => ?_)
                    refine ⟨⟨hg, (allc (List.Mem.tail _ (List.Mem.head _)) alln)⟩, ?_⟩
                    refine g_s (i := 4) (listed' := #[true, true, true, true, true, false, false, false, false]) rfl (by kernel_rfl) (by kernel_rfl) rfl ?_
                    refine s_buildSlice (cs := (encRule (modRule x) sm)) (e := 50) rfl rfl (fun _ => by kernel_rfl) (fun b7 => ?_)
                    refine ⟨⟨hg, (allc (List.Mem.tail _ (List.Mem.tail _ (List.Mem.head _))) alln)⟩, ?_⟩
                    refine g_s (i := 5) (listed' := #[true, true, true, true, true, true, false, false, false]) rfl (by kernel_rfl) (by kernel_rfl) rfl ?_
                    refine s_append rfl rfl rfl tl33 zo50 tb50 (i := 1) rfl (Src.one' (i := 0) rfl rfl (one_rule _ _)) (by omega) (by unfold maxLen; omega) (fun a2 c2 => ?_)
                    refine ⟨⟨hg, (allc (List.Mem.tail _ (List.Mem.tail _ (List.Mem.head _))) alln)⟩, ?_⟩
                    refine g_del 0 rfl ?_
                    refine g_freezeVec (i := 0) rfl rfl (fun m3 hm3 hzu hnu => ?_)
                    replace hm := hm.trans hm3
                    replace hg := hg.trans hm3
                    replace hz := hz.mono hm3
                    replace hzx := hzx.mono hm3
                    clear hm3
                    have hzt : FzR _ ⟨a2, 0 + s1.n + 1, c2⟩ (l1 ++ [(modRule x, sm)]) := fzr_of hzu (by simp) ((AllA.of hz).snoc hzx hokx)
                    refine g_s (i := 6) (listed' := #[true, true, true, true, true, true, true, false, false]) rfl (by kernel_rfl) (by kernel_rfl) rfl ?_
                    refine s_call0 rfl Try.call87 rfl (rSort_w ⟨a2, 0 + s1.n + 1, c2⟩ (l1 ++ [(modRule x, sm)]) _ _ hzt (by simp; omega)) ?_
                    rintro _ m2 _ hm2 ⟨s9, lr9, rfl, hz9, hlr9, hn9, rfl⟩
                    replace hm := hm.trans hm2
                    refine ⟨⟨hg.trans hm2, (allc (List.Mem.head _) alln)⟩, ?_⟩
                    replace hg := hg.trans hm2
                    replace hz := hz.mono hm2
                    replace hzx := hzx.mono hm2
                    replace hzu := hzu.mono hm2
                    clear hm2
                    refine g_y (i := 7) (listed' := #[true, true, true, true, true, true, true, true, false]) rfl (by kernel_rfl) (by kernel_rfl) (by kernel_rfl) (by kernel_rfl) rfl rfl hg (allc (List.Mem.head _) alln) (fun m' H' hm' hX' => y_assign rfl) ?_
                    refine g_y (i := 8) (listed' := #[true, true, true, true, true, true, true, true, true]) rfl (by kernel_rfl) (by kernel_rfl) (by kernel_rfl) (by kernel_rfl) rfl rfl hg (allc (List.Mem.head _) alln) (fun m' H' hm' hX' => y_assign rfl) ?_
                    refine g_done (by kernel_rfl) ?_
                    clear hg hz_g hzx_g
                    refine hK29 _ _ _ ?_
                    clear hK29 K29
                    refine c_ret ?_
                    refine e_ret 2 hm (res_tmps rfl) ?_
                    rw [applyR_add hTS (by simpa using hK1)]
                    have hin : i = s1.n := by simp at h0; omega
                    rw [hin, hl, show l1.length = (l1.map (·.1)).length by simp, List.take_length] at hown
                    rw [hin, hl, show l1.length = (l1.map (·.1)).length by simp, List.take_length] at hN
                    rw [addR_0 hown (by first | (rw [hCk]; rfl) | (rw [hin, hl, show l1.length = (l1.map (·.1)).length by simp, List.take_length] at hOv; rw [hCk, hOv]; rfl)) (by rw [List.length_map, ← hl]; first | (rw [hN, Bool.false_and]; done) | (rw [hN, Bool.true_and]; exact hF))]
                    exact ⟨s9, lr9, rfl, hz9, by rw [hlr9, List.map_append]; rfl, hn9, rfl⟩
                  ·
                    refine s_buildSlice (cs := (encRule (modRule x) sm)) (e := 50) rfl rfl (fun _ => by kernel_rfl) (fun b7 => ?_)
                    refine ⟨⟨hg, (allc (List.Mem.tail _ (List.Mem.tail _ (List.Mem.head _))) alln)⟩, ?_⟩
                    refine g_s (i := 2) (listed' := #[true, true, true, true, true, false, false, false, false]) rfl (by kernel_rfl) (by kernel_rfl) rfl ?_
                    refine s_append rfl rfl rfl tl33 zo50 tb50 (i := 1) rfl (hz.src hok1) (by omega) (by unfold maxLen; omega) (fun a1 c1 => ?_)
                    refine ⟨⟨hg, (allc (List.Mem.tail _ (List.Mem.tail _ (List.Mem.head _))) alln)⟩, ?_⟩
                    refine g_s (i := 5) (listed' := #[true, true, true, true, true, true, false, false, false]) rfl (by kernel_rfl) (by kernel_rfl) rfl ?_
                    refine s_append rfl rfl rfl tl33 zo50 tb50 (i := 1) rfl (Src.one' (i := 0) rfl rfl (one_rule _ _)) (by omega) (by unfold maxLen; omega) (fun a2 c2 => ?_)
                    refine ⟨⟨hg, (allc (List.Mem.tail _ (List.Mem.tail _ (List.Mem.head _))) alln)⟩, ?_⟩
                    refine g_del 0 rfl ?_
                    refine g_freezeVec (i := 0) rfl rfl (fun m3 hm3 hzu hnu => ?_)
                    replace hm := hm.trans hm3
                    replace hg := hg.trans hm3
                    replace hz := hz.mono hm3
                    replace hzx := hzx.mono hm3
                    clear hm3
                    have hzt : FzR _ ⟨a2, 0 + s1.n + 1, c2⟩ (l1 ++ [(modRule x, sm)]) := fzr_of hzu (by simp) ((AllA.of hz).snoc hzx hokx)
                    refine g_s (i := 6) (listed' := #[true, true, true, true, true, true, true, false, false]) rfl (by kernel_rfl) (by kernel_rfl) rfl ?_
                    refine s_call0 rfl Try.call87 rfl (rSort_w ⟨a2, 0 + s1.n + 1, c2⟩ (l1 ++ [(modRule x, sm)]) _ _ hzt (by simp; omega)) ?_
                    rintro _ m2 _ hm2 ⟨s9, lr9, rfl, hz9, hlr9, hn9, rfl⟩
                    replace hm := hm.trans hm2
                    refine ⟨⟨hg.trans hm2, (allc (List.Mem.head _) alln)⟩, ?_⟩
                    replace hg := hg.trans hm2
                    replace hz := hz.mono hm2
                    replace hzx := hzx.mono hm2
                    replace hzu := hzu.mono hm2
                    clear hm2
                    refine g_y (i := 7) (listed' := #[true, true, true, true, true, true, true, true, false]) rfl (by kernel_rfl) (by kernel_rfl) (by kernel_rfl) (by kernel_rfl) rfl rfl hg (allc (List.Mem.head _) alln) (fun m' H' hm' hX' => y_assign rfl) ?_
                    refine g_y (i := 8) (listed' := #[true, true, true, true, true, true, true, true, true]) rfl (by kernel_rfl) (by kernel_rfl) (by kernel_rfl) (by kernel_rfl) rfl rfl hg (allc (List.Mem.head _) alln) (fun m' H' hm' hX' => y_assign rfl) ?_
                    refine g_done (by kernel_rfl) ?_
                    clear hg hz_g hzx_g
                    refine hK29 _ _ _ ?_
                    clear hK29 K29
                    refine c_ret ?_
                    refine e_ret 2 hm (res_tmps rfl) ?_
                    rw [applyR_add hTS (by simpa using hK1)]
                    have hin : i = s1.n := by simp at h0; omega
                    rw [hin, hl, show l1.length = (l1.map (·.1)).length by simp, List.take_length] at hown
                    rw [hin, hl, show l1.length = (l1.map (·.1)).length by simp, List.take_length] at hN
                    rw [addR_0 hown (by first | (rw [hCk]; rfl) | (rw [hin, hl, show l1.length = (l1.map (·.1)).length by simp, List.take_length] at hOv; rw [hCk, hOv]; rfl)) (by rw [List.length_map, ← hl]; first | (rw [hN, Bool.false_and]; done) | (rw [hN, Bool.true_and]; exact hF))]
                    exact ⟨s9, lr9, rfl, hz9, by rw [hlr9, List.map_append]; rfl, hn9, rfl⟩
                ·
                  refine s_buildSlice (cs := (encRule (modRule x) sm)) (e := 50) rfl rfl (fun _ => by kernel_rfl) (fun b6 => ?_)
                  refine ⟨⟨hg, (allc (List.Mem.tail _ (List.Mem.head _)) alln)⟩, ?_⟩
                  refine g_s (i := 0) (listed' := #[true, true, false, true, true, false, false, false, false]) rfl (by kernel_rfl) (by kernel_rfl) rfl ?_
                  refine s_buildSlice (cs := []) (e := 50) rfl rfl (fun _ => by kernel_rfl) (fun b7 => ?_)
                  refine ⟨⟨hg, (allc (List.Mem.tail _ (List.Mem.tail _ (List.Mem.head _))) alln)⟩, ?_⟩
                  refine g_toVec (i := 0) (s := 32) (k := 0) [] rfl rfl (fun c h => by cases h) rfl (Nat.zero_le _) ?_
                  refine g_s (i := 2) (listed' := #[true, true, true, true, true, false, false, false, false]) rfl (by kernel_rfl) (by kernel_rfl) rfl ?_
                  refine s_append rfl rfl rfl tl33 zo50 tb50 (i := 0) rfl (hz.src hok1) (by omega) (by unfold maxLen; omega) (fun a1 c1 => ?_)
                  refine ⟨⟨hg, (allc (List.Mem.tail _ (List.Mem.tail _ (List.Mem.head _))) alln)⟩, ?_⟩
                  refine g_s (i := 5) (listed' := #[true, true, true, true, true, true, false, false, false]) rfl (by kernel_rfl) (by kernel_rfl) rfl ?_
                  refine s_append rfl rfl rfl tl33 zo50 tb50 (i := 0) rfl (Src.one' (i := 1) rfl rfl (one_rule _ _)) (by omega) (by unfold maxLen; omega) (fun a2 c2 => ?_)
                  refine ⟨⟨hg, (allc (List.Mem.tail _ (List.Mem.tail _ (List.Mem.head _))) alln)⟩, ?_⟩
                  refine g_del 1 rfl ?_
                  refine g_freezeVec (i := 0) rfl rfl (fun m3 hm3 hzu hnu => ?_)
                  replace hm := hm.trans hm3
                  replace hg := hg.trans hm3
                  replace hz := hz.mono hm3
                  replace hzx := hzx.mono hm3
                  clear hm3
                  have hzt : FzR _ ⟨a2, 0 + s1.n + 1, c2⟩ (l1 ++ [(modRule x, sm)]) := fzr_of hzu (by simp) ((AllA.of hz).snoc hzx hokx)
                  refine g_s (i := 6) (listed' := #[true, true, true, true, true, true, true, false, false]) rfl (by kernel_rfl) (by kernel_rfl) rfl ?_
                  refine s_call0 rfl Try.call87 rfl (rSort_w ⟨a2, 0 + s1.n + 1, c2⟩ (l1 ++ [(modRule x, sm)]) _ _ hzt (by simp; omega)) ?_
                  rintro _ m2 _ hm2 ⟨s9, lr9, rfl, hz9, hlr9, hn9, rfl⟩
                  replace hm := hm.trans hm2
                  refine ⟨⟨hg.trans hm2, (allc (List.Mem.head _) alln)⟩, ?_⟩
                  replace hg := hg.trans hm2
                  replace hz := hz.mono hm2
                  replace hzx := hzx.mono hm2
                  replace hzu := hzu.mono hm2
                  clear hm2
                  refine g_y (i := 7) (listed' := #[true, true, true, true, true, true, true, true, false]) rfl (by kernel_rfl) (by kernel_rfl) (by kernel_rfl) (by kernel_rfl) rfl rfl hg (allc (List.Mem.head _) alln) (fun m' H' hm' hX' => y_assign rfl) ?_
                  refine g_y (i := 8) (listed' := #[true, true, true, true, true, true, true, true, true]) rfl (by kernel_rfl) (by kernel_rfl) (by kernel_rfl) (by kernel_rfl) rfl rfl hg (allc (List.Mem.head _) alln) (fun m' H' hm' hX' => y_assign rfl) ?_
                  refine g_done (by kernel_rfl) ?_
                  clear hg hz_g hzx_g
                  refine hK29 _ _ _ ?_
                  clear hK29 K29
                  refine c_ret ?_
                  refine e_ret 2 hm (res_tmps rfl) ?_
                  rw [applyR_add hTS (by simpa using hK1)]
                  have hin : i = s1.n := by simp at h0; omega
                  rw [hin, hl, show l1.length = (l1.map (·.1)).length by simp, List.take_length] at hown
                  rw [hin, hl, show l1.length = (l1.map (·.1)).length by simp, List.take_length] at hN
                  rw [addR_0 hown (by first | (rw [hCk]; rfl) | (rw [hin, hl, show l1.length = (l1.map (·.1)).length by simp, List.take_length] at hOv; rw [hCk, hOv]; rfl)) (by rw [List.length_map, ← hl]; first | (rw [hN, Bool.false_and]; done) | (rw [hN, Bool.true_and]; exact hF))]
                  exact ⟨s9, lr9, rfl, hz9, by rw [hlr9, List.map_append]; rfl, hn9, rfl⟩
            ·
              refine r_no' rfl rfl hN ?_
              refine r_no' rfl rfl hN ?_
              refine r_no' rfl rfl hN ?_
              refine r_no' rfl rfl hN ?_
              refine r_y rfl rfl (y_pickf rfl hN rfl) ?_
              refine r_nil ?_
              refine hK27 _ _ _ ?_
              clear hK27 K27
              refine c_iff rfl rfl ?_
              refine c_skip ?_
              refine hK26 _ _ _ ?_
              clear hK26 K26
              refine c_seq (fun K30 hK30 => ?_)
              refine c_draw ([.blk b1 (.cells (encRule (modRule x) sm).toArray 50)]) (by kernel_rfl) (fun hg => ?_)
              have hz_g := hz
              have hzx_g := hzx
              refine g_y (i := 1) (listed' := #[false, true, false, false, false, false, false, false, false]) rfl (by kernel_rfl) (by kernel_rfl) (by kernel_rfl) (by kernel_rfl) rfl rfl hg (allc (List.Mem.head _) alln) (fun m' H' hm' hX' => y_move rfl) ?_
              refine g_y (i := 3) (listed' := #[false, true, false, true, false, false, false, false, false]) rfl (by kernel_rfl) (by kernel_rfl) (by kernel_rfl) (by kernel_rfl) rfl rfl hg (allc (List.Mem.head _) alln) (fun m' H' hm' hX' => y_load_a (cs := encRule (modRule x) sm) rfl ts50 (RdA.mem (hX' _ (List.Mem.head _)) rfl)) ?_
              refine g_each (rs := [0, 4]) (by kernel_rfl) (by simp) ⟨⟨_, rfl, rfl, ?_⟩, ⟨_, rfl, rfl, ?_⟩, trivial⟩
              ·
                refine s_buildSlice (cs := []) (e := 50) rfl rfl (fun _ => by kernel_rfl) (fun b8 => ?_)
                refine ⟨⟨hg, (allc (List.Mem.tail _ (List.Mem.head _)) alln)⟩, ?_⟩
                refine g_toVec (i := 0) (s := 32) (k := 0) [] rfl rfl (fun c h => by cases h) rfl (Nat.zero_le _) ?_
                refine g_each (rs := [2, 4]) (by kernel_rfl) (by simp) ⟨⟨_, rfl, rfl, ?_⟩, ⟨_, rfl, rfl, ?_⟩, trivial⟩
                ·
                  refine s_append rfl rfl rfl tl33 zo50 tb50 (i := 0) rfl (hz.src hok1) (by omega) (by unfold maxLen; omega) (fun a1 c1 => ?_)
                  refine ⟨⟨hg, (allc (List.Mem.tail _ (List.Mem.head _)) alln)⟩, ?_⟩
                  refine g_s (i := 4) (listed' := #[true, true, true, true, true, false, false, false, false]) rfl (by kernel_rfl) (by kernel_rfl) rfl ?_
                  refine s_buildSlice (cs := (encRule (modRule x) sm)) (e := 50) rfl rfl (fun _ => by kernel_rfl) (fun b9 => ?_)
                  refine ⟨⟨hg, (allc (List.Mem.tail _ (List.Mem.tail _ (List.Mem.head _))) alln)⟩, ?_⟩
                  refine g_s (i := 5) (listed' := #[true, true, true, true, true, true, false, false, false]) rfl (by kernel_rfl) (by kernel_rfl) rfl ?_
                  refine s_append rfl rfl rfl tl33 zo50 tb50 (i := 1) rfl (Src.one' (i := 0) rfl rfl (one_rule _ _)) (by omega) (by unfold maxLen; omega) (fun a2 c2 => ?_)
                  refine ⟨⟨hg, (allc (List.Mem.tail _ (List.Mem.tail _ (List.Mem.head _))) alln)⟩, ?_⟩
                  refine g_del 0 rfl ?_
                  refine g_freezeVec (i := 0) rfl rfl (fun m3 hm3 hzu hnu => ?_)
                  replace hm := hm.trans hm3
                  replace hg := hg.trans hm3
                  replace hz := hz.mono hm3
                  replace hzx := hzx.mono hm3
                  clear hm3
                  have hzt : FzR _ ⟨a2, 0 + s1.n + 1, c2⟩ (l1 ++ [(modRule x, sm)]) := fzr_of hzu (by simp) ((AllA.of hz).snoc hzx hokx)
                  refine g_s (i := 6) (listed' := #[true, true, true, true, true, true, true, false, false]) rfl (by kernel_rfl) (by kernel_rfl) rfl ?_
                  refine s_call0 rfl Try.call87 rfl (rSort_w ⟨a2, 0 + s1.n + 1, c2⟩ (l1 ++ [(modRule x, sm)]) _ _ hzt (by simp; omega)) ?_
                  rintro _ m2 _ hm2 ⟨s9, lr9, rfl, hz9, hlr9, hn9, rfl⟩
                  replace hm := hm.trans hm2
                  refine ⟨⟨hg.trans hm2, (allc (List.Mem.head _) alln)⟩, ?_⟩
                  replace hg := hg.trans hm2
                  replace hz := hz.mono hm2
                  replace hzx := hzx.mono hm2
                  replace hzu := hzu.mono hm2
                  clear hm2
                  refine g_y (i := 7) (listed' := #[true, true, true, true, true, true, true, true, false]) rfl (by kernel_rfl) (by kernel_rfl) (by kernel_rfl) (by kernel_rfl) rfl rfl hg (allc (List.Mem.head _) alln) (fun m' H' hm' hX' => y_assign rfl) ?_
                  refine g_y (i := 8) (listed' := #[true, true, true, true, true, true, true, true, true]) rfl (by kernel_rfl) (by kernel_rfl) (by kernel_rfl) (by kernel_rfl) rfl rfl hg (allc (List.Mem.head _) alln) (fun m' H' hm' hX' => y_assign rfl) ?_
                  refine g_done (by kernel_rfl) ?_
                  clear hg hz_g hzx_g
                  refine hK30 _ _ _ ?_
                  clear hK30 K30
                  refine c_ret ?_
                  refine e_ret 2 hm (res_tmps rfl) ?_
                  rw [applyR_add hTS (by simpa using hK1)]
                  have hin : i = s1.n := by simp at h0; omega
                  rw [hin, hl, show l1.length = (l1.map (·.1)).length by simp, List.take_length] at hown
                  rw [hin, hl, show l1.length = (l1.map (·.1)).length by simp, List.take_length] at hN
                  rw [addR_0 hown (by first | (rw [hCk]; rfl) | (rw [hin, hl, show l1.length = (l1.map (·.1)).length by simp, List.take_length] at hOv; rw [hCk, hOv]; rfl)) (by rw [List.length_map, ← hl]; first | (rw [hN, Bool.false_and]; done) | (rw [hN, Bool.true_and]; exact hF))]
                  exact ⟨s9, lr9, rfl, hz9, by rw [hlr9, List.map_append]; rfl, hn9, rfl⟩
                ·
                  refine s_buildSlice (cs := (encRule (modRule x) sm)) (e := 50) rfl rfl (fun _ => by kernel_rfl) (fun b9 => ?_)
                  refine ⟨⟨hg, (allc (List.Mem.tail _ (List.Mem.tail _ (List.Mem.head _))) alln)⟩, ?_⟩
                  refine g_s (i := 2) (listed' := #[true, true, true, true, true, false, false, false, false]) rfl (by kernel_rfl) (by kernel_rfl) rfl ?_
                  refine s_append rfl rfl rfl tl33 zo50 tb50 (i := 1) rfl (hz.src hok1) (by omega) (by unfold maxLen; omega) (fun a1 c1 => ?_)
                  refine ⟨⟨hg, (allc (List.Mem.tail _ (List.Mem.tail _ (List.Mem.head _))) alln)⟩, ?_⟩
                  refine g_s (i := 5) (listed' := #[true, true, true, true, true, true, false, false, false]) rfl (by kernel_rfl) (by kernel_rfl) rfl ?_
                  refine s_append rfl rfl rfl tl33 zo50 tb50 (i := 1) rfl (Src.one' (i := 0) rfl rfl (one_rule _ _)) (by omega) (by unfold maxLen; omega) (fun a2 c2 => ?_)
                  refine ⟨⟨hg, (allc (List.Mem.tail _ (List.Mem.tail _ (List.Mem.head _))) alln)⟩, ?_⟩
                  refine g_del 0 rfl ?_
                  refine g_freezeVec (i := 0) rfl rfl (fun m3 hm3 hzu hnu => ?_)
                  replace hm := hm.trans hm3
                  replace hg := hg.trans hm3
                  replace hz := hz.mono hm3
                  replace hzx := hzx.mono hm3
                  clear hm3
                  have hzt : FzR _ ⟨a2, 0 + s1.n + 1, c2⟩ (l1 ++ [(modRule x, sm)]) := fzr_of hzu (by simp) ((AllA.of hz).snoc hzx hokx)
                  refine g_s (i := 6) (listed' := #[true, true, true, true, true, true, true, false, false]) rfl (by kernel_rfl) (by kernel_rfl) rfl ?_
                  refine s_call0 rfl Try.call87 rfl (rSort_w ⟨a2, 0 + s1.n + 1, c2⟩ (l1 ++ [(modRule x, sm)]) _ _ hzt (by simp; omega)) ?_
                  rintro _ m2 _ hm2 ⟨s9, lr9, rfl, hz9, hlr9, hn9, rfl⟩
                  replace hm := hm.trans hm2
                  refine ⟨⟨hg.trans hm2, (allc (List.Mem.head _) alln)⟩, ?_⟩
                  replace hg := hg.trans hm2
                  replace hz := hz.mono hm2
                  replace hzx := hzx.mono hm2
                  replace hzu := hzu.mono hm2
                  clear hm2
                  refine g_y (i := 7) (listed' := #[true, true, true, true, true, true, true, true, false]) rfl (by kernel_rfl) (by kernel_rfl) (by kernel_rfl) (by kernel_rfl) rfl rfl hg (allc (List.Mem.head _) alln) (fun m' H' hm' hX' => y_assign rfl) ?_
                  refine g_y (i := 8) (listed' := #[true, true, true, true, true, true, true, true, true]) rfl (by kernel_rfl) (by kernel_rfl) (by kernel_rfl) (by kernel_rfl) rfl rfl hg (allc (List.Mem.head _) alln) (fun m' H' hm' hX' => y_assign rfl) ?_
                  refine g_done (by kernel_rfl) ?_
                  clear hg hz_g hzx_g
                  refine hK30 _ _ _ ?_
                  clear hK30 K30
                  refine c_ret ?_
                  refine e_ret 2 hm (res_tmps rfl) ?_
                  rw [applyR_add hTS (by simpa using hK1)]
                  have hin : i = s1.n := by simp at h0; omega
                  rw [hin, hl, show l1.length = (l1.map (·.1)).length by simp, List.take_length] at hown
                  rw [hin, hl, show l1.length = (l1.map (·.1)).length by simp, List.take_length] at hN
                  rw [addR_0 hown (by first | (rw [hCk]; rfl) | (rw [hin, hl, show l1.length = (l1.map (·.1)).length by simp, List.take_length] at hOv; rw [hCk, hOv]; rfl)) (by rw [List.length_map, ← hl]; first | (rw [hN, Bool.false_and]; done) | (rw [hN, Bool.true_and]; exact hF))]
                  exact ⟨s9, lr9, rfl, hz9, by rw [hlr9, List.map_append]; rfl, hn9, rfl⟩
              ·
                refine s_buildSlice (cs := (encRule (modRule x) sm)) (e := 50) rfl rfl (fun _ => by kernel_rfl) (fun b8 => ?_)
                refine ⟨⟨hg, (allc (List.Mem.tail _ (List.Mem.head _)) alln)⟩, ?_⟩
                refine g_s (i := 0) (listed' := #[true, true, false, true, true, false, false, false, false]) rfl (by kernel_rfl) (by kernel_rfl) rfl ?_
                refine s_buildSlice (cs := []) (e := 50) rfl rfl (fun _ => by kernel_rfl) (fun b9 => ?_)
                refine ⟨⟨hg, (allc (List.Mem.tail _ (List.Mem.tail _ (List.Mem.head _))) alln)⟩, ?_⟩
                refine g_toVec (i := 0) (s := 32) (k := 0) [] rfl rfl (fun c h => by cases h) rfl (Nat.zero_le _) ?_
                refine g_s (i := 2) (listed' := #[true, true, true, true, true, false, false, false, false]) rfl (by kernel_rfl) (by kernel_rfl) rfl ?_
                refine s_append rfl rfl rfl tl33 zo50 tb50 (i := 0) rfl (hz.src hok1) (by omega) (by unfold maxLen; omega) (fun a1 c1 => ?_)
                refine ⟨⟨hg, (allc (List.Mem.tail _ (List.Mem.tail _ (List.Mem.head _))) alln)⟩, ?_⟩
                refine g_s (i := 5) (listed' := #[true, true, true, true, true, true, false, false, false]) rfl (by kernel_rfl) (by kernel_rfl) rfl ?_
                refine s_append rfl rfl rfl tl33 zo50 tb50 (i := 0) rfl (Src.one' (i := 1) rfl rfl (one_rule _ _)) (by omega) (by unfold maxLen; omega) (fun a2 c2 => ?_)
                refine ⟨⟨hg, (allc (List.Mem.tail _ (List.Mem.tail _ (List.Mem.head _))) alln)⟩, ?_⟩
                refine g_del 1 rfl ?_
                refine g_freezeVec (i := 0) rfl rfl (fun m3 hm3 hzu hnu => ?_)
                replace hm := hm.trans hm3
                replace hg := hg.trans hm3
                replace hz := hz.mono hm3
                replace hzx := hzx.mono hm3
                clear hm3
                have hzt : FzR _ ⟨a2, 0 + s1.n + 1, c2⟩ (l1 ++ [(modRule x, sm)]) := fzr_of hzu (by simp) ((AllA.of hz).snoc hzx hokx)
                refine g_s (i := 6) (listed' := #[true, true, true, true, true, true, true, false, false]) rfl (by kernel_rfl) (by kernel_rfl) rfl ?_
                refine s_call0 rfl Try.call87 rfl (rSort_w ⟨a2, 0 + s1.n + 1, c2⟩ (l1 ++ [(modRule x, sm)]) _ _ hzt (by simp; omega)) ?_
                rintro _ m2 _ hm2 ⟨s9, lr9, rfl, hz9, hlr9, hn9, rfl⟩
                replace hm := hm.trans hm2
                refine ⟨⟨hg.trans hm2, (allc (List.Mem.head _) alln)⟩, ?_⟩
                replace hg := hg.trans hm2
                replace hz := hz.mono hm2
                replace hzx := hzx.mono hm2
                replace hzu := hzu.mono hm2
                clear hm2
                refine g_y (i := 7) (listed' := #[true, true, true, true, true, true, true, true, false]) rfl (by kernel_rfl) (by kernel_rfl) (by kernel_rfl) (by kernel_rfl) rfl rfl hg (allc (List.Mem.head _) alln) (fun m' H' hm' hX' => y_assign rfl) ?_
                refine g_y (i := 8) (listed' := #[true, true, true, true, true, true, true, true, true]) rfl (by kernel_rfl) (by kernel_rfl) (by kernel_rfl) (by kernel_rfl) rfl rfl hg (allc (List.Mem.head _) alln) (fun m' H' hm' hX' => y_assign rfl) ?_
                refine g_done (by kernel_rfl) ?_
                clear hg hz_g hzx_g
                refine hK30 _ _ _ ?_
                clear hK30 K30
                refine c_ret ?_
                refine e_ret 2 hm (res_tmps rfl) ?_
                rw [applyR_add hTS (by simpa using hK1)]
                have hin : i = s1.n := by simp at h0; omega
                rw [hin, hl, show l1.length = (l1.map (·.1)).length by simp, List.take_length] at hown
                rw [hin, hl, show l1.length = (l1.map (·.1)).length by simp, List.take_length] at hN
                rw [addR_0 hown (by first | (rw [hCk]; rfl) | (rw [hin, hl, show l1.length = (l1.map (·.1)).length by simp, List.take_length] at hOv; rw [hCk, hOv]; rfl)) (by rw [List.length_map, ← hl]; first | (rw [hN, Bool.false_and]; done) | (rw [hN, Bool.true_and]; exact hF))]
                exact ⟨s9, lr9, rfl, hz9, by rw [hlr9, List.map_append]; rfl, hn9, rfl⟩
      ·
        refine c_skip ?_
        refine hK5 _ _ _ ?_
        clear hK5 K5
        refine c_seq (fun K31 hK31 => ?_)
        refine c_region ?_
        refine r_nilvec 50 32 ?_
        refine r_y rfl rfl (y_assign rfl) ?_
        refine r_nil ?_
        refine hK31 _ _ _ ?_
        clear hK31 K31
        refine c_seq (fun K32 hK32 => ?_)
        refine c_region ?_
        refine r_y rfl rfl (y_move rfl) ?_
        refine r_y rfl rfl (y_load_a (cs := encMod x sm) rfl ts32 (RdA.blk (i := 1) rfl rfl)) ?_
        refine r_s rfl ?_
        refine s_call0 rfl Try.call88 rfl (rTouched_w s1 l1 x sm _ _ hz (by omega) hzx) ?_
        rintro _ m2 _ hm2 ⟨st, rfl, ht, hnt, rfl⟩
        replace hm := hm.trans hm2
        replace hz := hz.mono hm2
        replace hzx := hzx.mono hm2
        clear hm2
        refine r_y rfl rfl (y_assign rfl) ?_
        refine r_nil ?_
        refine hK32 _ _ _ ?_
        clear hK32 K32
        refine c_seq (fun K33 hK33 => ?_)
        refine c_seq (fun K34 hK34 => ?_)
        refine c_region ?_
        refine r_y rfl rfl (y_assign rfl) ?_
        refine r_nil ?_
        refine hK34 _ _ _ ?_
        clear hK34 K34
        refine c_block ?_
        rw [← hl] at ht
        have hall : AllA m2 [] := fun p hp => (by cases hp)
        refine c_loopx (α := Nat × List (RuleD × Sl) × Sl × Sl) (fun vv => match vv with | (i, lr, sv, st) => [(0, s1.v), (4, .pointer (some ⟨b0, 0, none⟩)), (12, sv.v), (13, st.v), (14, .int .i64 (i : Nat))]) (fun vv => match vv with | (i, lr, sv, st) => .vec sv.a sv.n sv.cap 50 32 (lr.map fun p => encRule p.1 p.2) :: .blk b0 (.cells (encMod x sm).toArray 32) :: H) (fun k1 vv m1 => match vv with | (i, lr, sv, st) => (i + k1 = s1.n ∧ sv.n ≤ i ∧ lr.map (·.1) = ((l1.map (·.1)).take i).filterMap (modR1 x)) ∧ m.le m1 ∧ (FzR m1 s1 l1) ∧ (FzA m1 sm x.acts) ∧ (FzN m1 st (remT (pAt (touchQ x) (l1.map (·.1))) i s1.n)) ∧ (AllA m1 lr)) (s1.n) (0, [], zSl, st) ⟨rfl, rfl, rfl, rfl, rfl, trivial⟩ rfl ⟨⟨by omega, Nat.le_refl _, rfl⟩, hm, hz, hzx, ht, hall⟩ ?_
        clear hm hz hzx ht hall
        rintro k1 ⟨i, lr, sv, st⟩ m1 ⟨hi1, hm, hz, hzx, ht, hall⟩
        obtain ⟨hi, hsn, hro⟩ := hi1
        refine c_seq (fun K35 hK35 => ?_)
        refine c_seq (fun K36 hK36 => ?_)
        refine c_region ?_
        refine r_y rfl rfl (y_move rfl) ?_
        refine r_y rfl rfl (y_move rfl) ?_
        refine r_y rfl rfl (y_len tl33 rfl) ?_
        refine r_y rfl rfl (y_iop rfl rfl rfl) ?_
        refine r_nil ?_
        refine hK36 _ _ _ ?_
        clear hK36 K36
        refine c_cond rfl (fun hL => ?_) (fun hL => ?_)
        ·
          have hlt : i < s1.n := by simp at hL; omega
          obtain ⟨r, hx⟩ := get_of_lt (l := l1) (k := i) (by omega)
          have hx1 : (l1.map (·.1))[i]? = some r.1 := map_get hx
          have hpt : (pAt (touchQ x) (l1.map (·.1))) i = modTouches x r.1 := by rw [pAt_some hx1]; unfold touchQ; rw [hms, Bool.and_true]
          have hT := filterMap_take_succ (f := modR1 x) hx1
          have htl := Fz.lenN ht
          refine c_skip ?_
          refine hK35 _ _ _ ?_
          clear hK35 K35
          refine c_seq (fun K37 hK37 => ?_)
          refine c_block ?_
          refine c_seq (fun K38 hK38 => ?_)
          refine c_region ?_
          refine r_y rfl rfl (y_move rfl) ?_
          refine r_y rfl rfl (y_move rfl) ?_
          refine r_y rfl rfl (y_indexAddr_slice rfl rfl tl33 hlt (At.fz hz.fz hlt)) ?_
          refine r_y rfl rfl (y_load_a rfl ts50 (RdA.fz0 hz.fz (map_get hx))) ?_
          refine r_s rfl ?_
          refine s_alloc rfl tz50 (fun b1 => ?_)
          refine r_s rfl ?_
          refine s_store (us := encRule r.1 r.2) rfl rfl rfl ts50 rfl rfl (one_rule _ _) (i := 0) rfl rfl ?_
          refine r_nil ?_
          refine hK38 _ _ _ ?_
          clear hK38 K38
          refine c_seq (fun K39 hK39 => ?_)
          refine c_seq (fun K40 hK40 => ?_)
          refine c_region ?_
          refine r_y rfl rfl (y_move rfl) ?_
          refine r_y rfl rfl (y_len tl77 rfl) ?_
          refine r_y rfl rfl (y_iop rfl rfl rfl) ?_
          refine r_y rfl rfl (y_move rfl) ?_
          refine r_split (j := 3) rfl (fun hG => ?_) (fun hG => ?_)
          ·
            refine r_yg rfl hG rfl (y_move rfl) ?_
            obtain ⟨k, hk0⟩ := get_of_lt (l := remT (pAt (touchQ x) (l1.map (·.1))) i s1.n) (k := 0) (by simp at hG; omega)
            have hg0 : 0 < st.n := by simp at hG; omega
            refine r_yg rfl hG rfl (y_indexAddr_slice (k := 0) rfl rfl tl77 hg0 (At.fz ht hg0)) ?_
            refine r_yg rfl hG rfl (y_load_s rfl ts3 (RdS.fz (k := 0) (j := 0) ht (rowsN_get hk0) rfl)) ?_
            refine r_yg rfl hG rfl (y_move rfl) ?_
            refine r_yg rfl hG rfl (y_iop rfl rfl rfl) ?_
            refine r_y rfl rfl (y_pickt rfl hG rfl) ?_
            refine r_nil ?_
            refine hK40 _ _ _ ?_
            clear hK40 K40
            refine c_cond rfl (fun hTt => ?_) (fun hTt => ?_)
            ·
              have hpi : (pAt (touchQ x) (l1.map (·.1))) i = true := by rw [rem_head hlt hk0]; exact decide_eq_true (by simpa using hTt)
              have hmt : modTouches x r.1 = true := hpt ▸ hpi
              refine c_seq (fun K41 hK41 => ?_)
              refine c_region ?_
              refine r_y rfl rfl (y_move rfl) ?_
              refine r_y rfl rfl (y_slice rfl tl77 (bnd_some (kd := .i64) (x := 1) rfl) bnd_none hg0 ht.le) ?_
              refine r_y rfl rfl (y_assign rfl) ?_
              refine r_nil ?_
              refine hK41 _ _ _ ?_
              clear hK41 K41
              refine c_seq (fun K42 hK42 => ?_)
              refine c_seq (fun K43 hK43 => ?_)
              refine c_region ?_
              refine r_y rfl rfl (y_fieldAddr rfl At.lit fo32_0 rfl) ?_
              refine r_y rfl rfl (y_load_s rfl ts3 (RdS.blk (i := 2) rfl rfl)) ?_
              refine r_y rfl rfl (y_iop rfl rfl rfl) ?_
              refine r_y rfl rfl (y_move rfl) ?_
              refine r_split (j := 3) rfl (fun hK3 => ?_) (fun hK3 => ?_)
              ·
                refine r_no' rfl rfl hK3 ?_
                refine r_no' rfl rfl hK3 ?_
                refine r_no' rfl rfl hK3 ?_
                refine r_y rfl rfl (y_pickt rfl hK3 rfl) ?_
                refine r_nil ?_
                refine hK43 _ _ _ ?_
                clear hK43 K43
                refine c_ift rfl rfl ?_
                refine c_exit ?_
                refine hK37 _ _ _ ?_
                clear hK42 K42 hK39 K39 hK37 K37
                refine c_region ?_
                refine r_del 0 rfl ?_
                have h8 := FzN.from ht (lo := 1) (by omega)
                rw [rem_t hlt hpi] at h8
                replace ht := h8
                clear h8
                refine r_y rfl rfl (y_move rfl) ?_
                first | refine r_y rfl rfl (y_inc rfl (by omega)) ?_ | refine r_y rfl rfl (y_iop rfl rfl rfl) ?_
                refine r_y rfl rfl (y_assign rfl) ?_
                refine r_nil ?_
                exact ⟨k1 - 1, (i + 1, lr, sv, st.cut 1 st.n 1), by omega, ⟨rfl, rfl, rfl, rfl, rfl, trivial⟩, (by first | rfl | (simp only [List.map_append]; rfl)), ⟨by omega, by omega, by rw [hT, modR1_del hmt (by first | (simp at hK3; exact .inl hK3) | (simp at hK4; exact .inr hK4)), hro, List.append_nil]⟩, hm, hz, hzx, ht, hall⟩
              ·
                refine r_yg rfl hK3 rfl (y_fieldAddr rfl At.lit fo32_0 rfl) ?_
                refine r_yg rfl hK3 rfl (y_load_s rfl ts3 (RdS.blk (i := 2) rfl rfl)) ?_
                refine r_yg rfl hK3 rfl (y_iop rfl rfl rfl) ?_
                refine r_y rfl rfl (y_pickf rfl hK3 rfl) ?_
                refine r_nil ?_
                refine hK43 _ _ _ ?_
                clear hK43 K43
                refine c_cond rfl (fun hK4 => ?_) (fun hK4 => ?_)
                ·
                  refine c_exit ?_
                  refine hK37 _ _ _ ?_
                  clear hK42 K42 hK39 K39 hK37 K37
                  refine c_region ?_
                  refine r_del 0 rfl ?_
                  have h8 := FzN.from ht (lo := 1) (by omega)
                  rw [rem_t hlt hpi] at h8
                  replace ht := h8
                  clear h8
                  refine r_y rfl rfl (y_move rfl) ?_
                  first | refine r_y rfl rfl (y_inc rfl (by omega)) ?_ | refine r_y rfl rfl (y_iop rfl rfl rfl) ?_
                  refine r_y rfl rfl (y_assign rfl) ?_
                  refine r_nil ?_
                  exact ⟨k1 - 1, (i + 1, lr, sv, st.cut 1 st.n 1), by omega, ⟨rfl, rfl, rfl, rfl, rfl, trivial⟩, (by first | rfl | (simp only [List.map_append]; rfl)), ⟨by omega, by omega, by rw [hT, modR1_del hmt (by first | (simp at hK3; exact .inl hK3) | (simp at hK4; exact .inr hK4)), hro, List.append_nil]⟩, hm, hz, hzx, ht, hall⟩
                ·
                  refine c_skip ?_
                  refine hK42 _ _ _ ?_
                  clear hK42 K42
                  refine c_region ?_
                  refine r_y rfl rfl (y_fieldAddr rfl At.lit fo32_3 rfl) ?_
                  refine r_y rfl rfl (y_load_s rfl ts30 (RdS.blk (i := 2) rfl rfl)) ?_
                  refine r_y rfl rfl (y_fieldAddr rfl At.lit fo50_2 rfl) ?_
                  refine r_s rfl ?_
                  refine s_store rfl rfl rfl ts30 rfl rfl (by simp [Value.oneCell', wv, Sl.v]) (i := 0) rfl rfl ?_
                  refine r_nil ?_
                  refine hK39 _ _ _ ?_
                  clear hK39 K39
                  refine c_region ?_
                  refine r_y rfl rfl (y_move rfl) ?_
                  refine r_y rfl rfl (y_load_a (cs := encRule { r.1 with acts := x.acts } sm) rfl ts50 (RdA.blk (i := 0) rfl rfl)) ?_
                  refine r_s rfl ?_
                  refine s_buildSlice (cs := (encRule { r.1 with acts := x.acts } sm)) (e := 50) rfl rfl (fun _ => by kernel_rfl) (fun b2 => ?_)
                  refine r_s rfl ?_
                  refine s_append rfl rfl rfl tl33 zo50 tb50 (i := 2) rfl (Src.one' (i := 0) rfl rfl (one_rule _ _)) (by omega) (by unfold maxLen; omega) (fun a1 c1 => ?_)
                  refine r_del 0 rfl ?_
                  refine r_y rfl rfl (y_assign rfl) ?_
                  refine r_nil ?_
                  refine hK37 _ _ _ ?_
                  clear hK37 K37
                  refine c_region ?_
                  refine r_del 0 rfl ?_
                  have h8 := FzN.from ht (lo := 1) (by omega)
                  rw [rem_t hlt hpi] at h8
                  replace ht := h8
                  clear h8
                  replace hall := hall.snoc (x := { r.1 with acts := x.acts }) (s := sm) hzx hokx
                  refine r_y rfl rfl (y_move rfl) ?_
                  first | refine r_y rfl rfl (y_inc rfl (by omega)) ?_ | refine r_y rfl rfl (y_iop rfl rfl rfl) ?_
                  refine r_y rfl rfl (y_assign rfl) ?_
                  refine r_nil ?_
                  exact ⟨k1 - 1, (i + 1, lr ++ [({ r.1 with acts := x.acts }, sm)], ⟨a1, sv.n + 1, c1⟩, st.cut 1 st.n 1), by omega, ⟨rfl, rfl, rfl, rfl, rfl, trivial⟩, (by first | rfl | (simp only [List.map_append]; rfl)), ⟨by omega, by show sv.n + 1 ≤ i + 1; omega, by rw [List.map_append, hT, modR1_set hmt (by simp at hK3 hK4; omega), hro]; rfl⟩, hm, hz, hzx, ht, hall⟩
            ·
              refine c_skip ?_
              refine hK39 _ _ _ ?_
              clear hK39 K39
              refine c_region ?_
              have hpi : (pAt (touchQ x) (l1.map (·.1))) i = false := by first | (rw [rem_head hlt hk0]; exact decide_eq_false (by simpa using hTt)) | exact rem_nil hlt (by simp at hG; omega)
              have hmt : modTouches x r.1 = false := hpt ▸ hpi
              refine r_y rfl rfl (y_move rfl) ?_
              refine r_y rfl rfl (y_load_a (cs := encRule r.1 r.2) rfl ts50 (RdA.blk (i := 0) rfl rfl)) ?_
              refine r_s rfl ?_
              refine s_buildSlice (cs := (encRule r.1 r.2)) (e := 50) rfl rfl (fun _ => by kernel_rfl) (fun b2 => ?_)
              refine r_s rfl ?_
              refine s_append rfl rfl rfl tl33 zo50 tb50 (i := 2) rfl (Src.one' (i := 0) rfl rfl (one_rule _ _)) (by omega) (by unfold maxLen; omega) (fun a1 c1 => ?_)
              refine r_del 0 rfl ?_
              refine r_y rfl rfl (y_assign rfl) ?_
              refine r_nil ?_
              refine hK37 _ _ _ ?_
              clear hK37 K37
              refine c_region ?_
              refine r_del 0 rfl ?_
              rw [rem_f hlt hpi] at ht
              replace hall := hall.snoc (x := r.1) (s := r.2) (hz.acts r (List.mem_of_getElem? hx)).1 (hz.acts r (List.mem_of_getElem? hx)).2
              refine r_y rfl rfl (y_move rfl) ?_
              first | refine r_y rfl rfl (y_inc rfl (by omega)) ?_ | refine r_y rfl rfl (y_iop rfl rfl rfl) ?_
              refine r_y rfl rfl (y_assign rfl) ?_
              refine r_nil ?_
              exact ⟨k1 - 1, (i + 1, lr ++ [r], ⟨a1, sv.n + 1, c1⟩, st), by omega, ⟨rfl, rfl, rfl, rfl, rfl, trivial⟩, (by first | rfl | (simp only [List.map_append]; rfl)), ⟨by omega, by show sv.n + 1 ≤ i + 1; omega, by rw [List.map_append, hT, modR1_keep hmt, hro]; rfl⟩, hm, hz, hzx, ht, hall⟩
          ·
            refine r_no' rfl rfl hG ?_
            refine r_no' rfl rfl hG ?_
            refine r_no' rfl rfl hG ?_
            refine r_no' rfl rfl hG ?_
            refine r_no' rfl rfl hG ?_
            refine r_y rfl rfl (y_pickf rfl hG rfl) ?_
            refine r_nil ?_
            refine hK40 _ _ _ ?_
            clear hK40 K40
            refine c_iff rfl rfl ?_
            refine c_skip ?_
            refine hK39 _ _ _ ?_
            clear hK39 K39
            refine c_region ?_
            have hpi : (pAt (touchQ x) (l1.map (·.1))) i = false := by first | (rw [rem_head hlt hk0]; exact decide_eq_false (by simpa using hTt)) | exact rem_nil hlt (by simp at hG; omega)
            have hmt : modTouches x r.1 = false := hpt ▸ hpi
            refine r_y rfl rfl (y_move rfl) ?_
            refine r_y rfl rfl (y_load_a (cs := encRule r.1 r.2) rfl ts50 (RdA.blk (i := 0) rfl rfl)) ?_
            refine r_s rfl ?_
            refine s_buildSlice (cs := (encRule r.1 r.2)) (e := 50) rfl rfl (fun _ => by kernel_rfl) (fun b3 => ?_)
            refine r_s rfl ?_
            refine s_append rfl rfl rfl tl33 zo50 tb50 (i := 2) rfl (Src.one' (i := 0) rfl rfl (one_rule _ _)) (by omega) (by unfold maxLen; omega) (fun a1 c1 => ?_)
            refine r_del 0 rfl ?_
            refine r_y rfl rfl (y_assign rfl) ?_
            refine r_nil ?_
            refine hK37 _ _ _ ?_
            clear hK37 K37
            refine c_region ?_
            refine r_del 0 rfl ?_
            rw [rem_f hlt hpi] at ht
            replace hall := hall.snoc (x := r.1) (s := r.2) (hz.acts r (List.mem_of_getElem? hx)).1 (hz.acts r (List.mem_of_getElem? hx)).2
            refine r_y rfl rfl (y_move rfl) ?_
            first | refine r_y rfl rfl (y_inc rfl (by omega)) ?_ | refine r_y rfl rfl (y_iop rfl rfl rfl) ?_
            refine r_y rfl rfl (y_assign rfl) ?_
            refine r_nil ?_
            exact ⟨k1 - 1, (i + 1, lr ++ [r], ⟨a1, sv.n + 1, c1⟩, st), by omega, ⟨rfl, rfl, rfl, rfl, rfl, trivial⟩, (by first | rfl | (simp only [List.map_append]; rfl)), ⟨by omega, by show sv.n + 1 ≤ i + 1; omega, by rw [List.map_append, hT, modR1_keep hmt, hro]; rfl⟩, hm, hz, hzx, ht, hall⟩
        ·
          refine c_exit ?_
          refine hK33 _ _ _ ?_
          clear hK35 K35 hK33 K33
          refine c_seq (fun K44 hK44 => ?_)
          refine c_region ?_
          refine r_freezeVec (i := 0) rfl rfl (fun m3 hm3 hzv hno => ?_)
          replace hm := hm.trans hm3
          replace hz := hz.mono hm3
          replace hzx := hzx.mono hm3
          replace ht := ht.mono hm3
          replace hall := hall.mono hm3
          clear hm3
          have hzo : FzR _ ⟨sv.a, sv.n, sv.cap⟩ lr := fzr_of hzv rfl hall
          refine r_y rfl rfl (y_move rfl) ?_
          refine r_y rfl rfl (y_assign rfl) ?_
          refine r_y rfl rfl (y_assign rfl) ?_
          refine r_nil ?_
          refine hK44 _ _ _ ?_
          clear hK44 K44
          refine c_ret ?_
          refine e_ret 1 hm (res_tmps rfl) ?_
          rw [applyR_map hTS (by simpa using hK1)]
          have hin : i = s1.n := by simp at hL; omega
          refine ⟨sv, lr, rfl, hzo, ?_, hno, rfl⟩
          rw [hro, List.take_of_length_le (by simp; omega)]
end Go.Aw
namespace Go.Aw
open Go
theorem modSound_acts2 {x : ModD} (h : modSound x = true) : actsSound x.acts = true := by
  unfold modSound at h
  split at h
  · cases h
  · rename_i h0
    simp only [Bool.or_eq_true, Bool.not_eq_true', not_or, Bool.not_eq_false] at h0
    simp_all
theorem modR1_key {x : ModD} {r r' : RuleD} (h : modR1 x r = some r') : r'.m = r.m ∧ r'.prio = r.prio ∧ r'.owner = r.owner := by
  unfold modR1 at h
  split at h
  · split at h
    · cases h
    · cases h; exact ⟨rfl, rfl, rfl⟩
  · cases h; exact ⟨rfl, rfl, rfl⟩
theorem modR1_sound {x : ModD} {r r' : RuleD} (hx : modSound x = true) (hr : ruleSound r = true) (h : modR1 x r = some r') : ruleSound r' = true := by
  unfold modR1 at h
  split at h
  · split at h
    · cases h
    · cases h
      unfold ruleSound at hr ⊢
      simp only [Bool.and_eq_true] at hr ⊢
      simp_all [modSound_acts2 hx]
  · cases h; exact hr
theorem ruleCmp_congr {a a' b b' : RuleD} (h1 : a'.m = a.m) (h2 : a'.prio = a.prio) (h3 : b'.m = b.m) (h4 : b'.prio = b.prio) : ruleCmp a' b' = ruleCmp a b := by
  unfold ruleCmp; rw [h1, h2, h3, h4]
theorem srt_map {x : ModD} {l : List RuleD} (h : Srt l) : Srt (l.filterMap (modR1 x)) := by
  refine List.Pairwise.filterMap _ ?_ h
  intro a a' hc b hb b' hb'
  have h1 := modR1_key hb
  have h2 := modR1_key hb'
  rw [ruleCmp_congr h1.1 h1.2.1 h2.1 h2.2.1]; exact hc
theorem applyR_table {l : List RuleD} {x : ModD} {room : Int} (h : (applyR l x room).2 = 0) : ruleTable (applyR l x room).1 = true := by
  unfold applyR at h ⊢
  split at h
  · cases h
  · rename_i h0
    rw [if_neg h0]
    simp only [Bool.not_eq_true', Bool.not_eq_false] at h0
    have h0 := (Bool.and_eq_true _ _).mp (by simpa using h0)
    split at h
    · rename_i k
      rw [if_pos k]
      unfold addR at h ⊢
      repeat' split
      all_goals first | exact sortR_table _ | (exfalso; simp_all; done) | rfl
    · rename_i k
      rw [if_neg k]
      have ht := table_iff.1 h0.1
      refine table_iff.2 ⟨fun r hr => ?_, srt_map ht.2⟩
      obtain ⟨q, hq, hqr⟩ := List.mem_filterMap.1 hr
      exact modR1_sound h0.2 (ht.1 q hq) hqr
def ansM1 : ModD := ⟨1, zCube, 7, [], 0, 0, 1, false⟩
def ansM2 : ModD := ⟨3, zCube, 0, [], 0, 0, 1, false⟩
set_option maxRecDepth 100000 in
theorem ans7_1 : applyR [] ansM1 1 = ([modRule ansM1], 0) := by decide +kernel
set_option maxRecDepth 100000 in
theorem ans7_w : cubeWithin zCube zCube = true := by rw [within_text]; decide +kernel
set_option maxRecDepth 100000 in
theorem ans7_4 : (ruleTable [modRule ansM1] && modSound ansM2) = true := by decide +kernel
theorem ans7_2 : applyR [modRule ansM1] ansM2 0 = ([], 0) := by
  rw [applyR_map ans7_4 (by decide)]
  have h : modTouches ansM2 (modRule ansM1) = true := by
    unfold modTouches
    rw [if_pos (.inr rfl)]
    show ((1 : Int) == 1 && cubeWithin zCube zCube) = true
    rw [ans7_w]; rfl
  rw [List.filterMap_cons, modR1_del h (.inl rfl)]; rfl
set_option maxRecDepth 100000 in
theorem ans7_3 : modSound ansM1 = true := by decide +kernel
/-- A table of the call's own is given up, the slice's room being its length or all that stands behind it. -/
theorem St.freezeC {m : Snap} {w : World} {H : Hp} {a : Option Addr} {n cap c : Nat} {l : List OwnR} (hok : ∀ o ∈ l, o.ok) (hc : c = n ∨ c = cap) (h : St m (rowO a n cap l :: (itsO l ++ H)) w) :
    ∃ m', m.le m' ∧ St m' H w ∧ FzR m' ⟨a, n, c⟩ (l.map fun o => (o.r, o.s)) ∧ (a = none → c = 0) := by
  obtain ⟨m1, g1, g2, g3, g4⟩ := St.freezeVec (i := 0) h rfl (by decide)
  obtain ⟨m2, k1, k2, k3⟩ := St.freezeIts l hok (show St m1 (itsO l ++ H) w from g2)
  have e : ((l.map fun o => (o.r, o.s)).map fun p => encRule p.1 p.2) = l.map OwnR.enc := by simp [OwnR.enc]
  refine ⟨m2, g1.trans k1, k2, ⟨?_, fun p hp => ?_⟩, fun hn => ?_⟩
  · show Fz m2 a n c 32 _
    rw [e]
    rcases hc with rfl | rfl
    · exact (g3.mono k1).clip
    · exact g3.mono k1
  · obtain ⟨o, ho, rfl⟩ := List.mem_map.1 hp
    exact k3 o ho
  · have := g4 hn
    have hle := g3.le
    rcases hc with rfl | rfl <;> omega
end Go.Aw
namespace Go.Aw
open Go Go.Proofs
theorem bp32_0_2_6 : bplaces Try.prog 32 [0, 2, 6] = some [(0, 1), (25, 1), (29, 1)] := by kernel_rfl
theorem bp32_0_6 : bplaces Try.prog 32 [0, 6] = some [(0, 1), (29, 1)] := by kernel_rfl
theorem applyF_w (s1 : Sl) (l1 : List (RuleD × Sl)) (x : ModD) (sm : Sl) (room : Int) (m : Snap) (H : Hp) (hz : FzR m s1 l1) (hfa : ∀ p ∈ l1, p.1.acts.length ≤ 4398046511103) (hfit : l1.length < 1000000) (hzx : FzA m sm x.acts) (hokx : sm.ok) (hfx : x.acts.length ≤ 4398046511103) : Fn Try.prog 33 [s1.v, .agg (encMod x sm).toArray, .int .i64 room] m H (fun v m' H' => ∃ (s : Sl) (lr : List (RuleD × Sl)), v = .tuple [s.v, i64 (applyR (l1.map (·.1)) x room).2].toArray ∧ FzR m' s lr ∧ lr.map (·.1) = (applyR (l1.map (·.1)) x room).1 ∧ (s.a = none → s.cap = 0) ∧ H' = H) :=
  (apply_w s1 l1 x sm room m H hz hfa hfit hzx hokx hfx).post fun v m' H' w hm hs ⟨a, n, c, cap, lo, h1, h2, h3, h4, h5, h6⟩ => by
    subst h6
    obtain ⟨m2, g1, g2, g3, g4⟩ := hs.freezeC h5 h3
    exact ⟨m2, H, g1, g2, ⟨a, n, c⟩, _, h1, g3, by rw [map_fst, h4], g4, rfl⟩
set_option maxRecDepth 100000 in
theorem answers7_w (m : Snap) (H : Hp) : Fn Try.prog 32 [] m H (fun v _ H' => v = .bool true ∧ H' = H) := by
  have hm : m.le m := Snap.le.refl m
  refine fn_end Try.func32 rfl rfl rfl ?_
  refine c_seq (fun K0 hK0 => ?_)
  refine c_region ?_
  refine r_y rfl rfl (y_assign rfl) ?_
  refine r_nil ?_
  refine hK0 _ _ _ ?_
  clear hK0 K0
  refine c_seq (fun K1 hK1 => ?_)
  refine c_region ?_
  refine r_y rfl rfl (y_bld rfl tz32 fk32 bp32_0_2_6 rfl rfl) ?_
  refine r_s rfl ?_
  refine s_alloc rfl tz32 (fun b0 => ?_)
  refine r_s rfl ?_
  refine s_store (us := encMod ansM1 zSl) rfl rfl rfl ts32 rfl rfl (one_mod _ _) (i := 0) rfl rfl ?_
  refine r_nil ?_
  refine hK1 _ _ _ ?_
  clear hK1 K1
  refine c_seq (fun K2 hK2 => ?_)
  refine c_region ?_
  refine r_y rfl rfl (y_load_a (cs := encMod ansM1 zSl) rfl ts32 (RdA.blk (i := 0) rfl rfl)) ?_
  refine r_s rfl ?_
  refine s_call0 rfl Try.call33 rfl (applyF_w zSl [] ansM1 zSl 1 _ _ (fzR_nil _) (fun p hp => by cases hp) (by decide) (fzA_nil _) (fun _ => rfl) (by decide)) ?_
  rintro _ m2 _ hm2 ⟨sa, la, rfl, hza, hla, hna, rfl⟩
  replace hm := hm.trans hm2
  clear hm2
  refine r_y rfl rfl (y_move rfl) ?_
  refine r_y rfl rfl (y_extract rfl rfl) ?_
  refine r_y rfl rfl (y_extract rfl rfl) ?_
  refine r_y rfl rfl (y_assign rfl) ?_
  refine r_y rfl rfl (y_assign rfl) ?_
  refine r_nil ?_
  refine hK2 _ _ _ ?_
  clear hK2 K2
  refine c_seq (fun K3 hK3 => ?_)
  refine c_region ?_
  have e1 : la.map (·.1) = [modRule ansM1] := by rw [hla]; show (applyR [] ansM1 1).1 = _; rw [ans7_1]
  have hc1 : (applyR (([] : List (RuleD × Sl)).map (·.1)) ansM1 1).2 = 0 := by show (applyR [] ansM1 1).2 = 0; rw [ans7_1]
  have hla1 : la.length = 1 := by have := congrArg List.length e1; simpa using this
  have hn1a : sa.n = 1 := by have := hza.len; omega
  obtain ⟨y, hy⟩ := get_of_lt (l := la) (k := 0) (by omega)
  have hy1 : y.1 = modRule ansM1 := by have h3 := map_get (f := fun (p : RuleD × Sl) => p.1) hy; rw [e1] at h3; simpa using h3.symm
  have hfb : ∀ p ∈ la, p.1.acts.length ≤ 4398046511103 := by intro p hp; have h9 : p.1 ∈ la.map (·.1) := List.mem_map.2 ⟨p, hp, rfl⟩; rw [e1] at h9; rw [List.mem_singleton.1 h9]; decide
  have hlt : 0 < sa.n := by omega
  refine r_y rfl rfl (y_move rfl) ?_
  refine r_y rfl rfl (y_bld rfl tz32 fk32 bp32_0_6 rfl rfl) ?_
  refine r_s rfl ?_
  refine s_call0 rfl Try.call33 rfl (applyF_w sa la ansM2 zSl 0 _ _ hza hfb (by omega) (fzA_nil _) (fun _ => rfl) (by decide)) ?_
  rintro _ m2 _ hm2 ⟨sb, lb, rfl, hzb, hlb, hnb, rfl⟩
  replace hm := hm.trans hm2
  replace hza := hza.mono hm2
  clear hm2
  refine r_y rfl rfl (y_move rfl) ?_
  refine r_y rfl rfl (y_extract rfl rfl) ?_
  refine r_y rfl rfl (y_extract rfl rfl) ?_
  refine r_y rfl rfl (y_assign rfl) ?_
  refine r_y rfl rfl (y_assign rfl) ?_
  refine r_nil ?_
  refine hK3 _ _ _ ?_
  clear hK3 K3
  refine c_seq (fun K4 hK4 => ?_)
  refine c_region ?_
  have e2 : lb.map (·.1) = [] := by rw [hlb, e1, ans7_2]
  have hc2 : (applyR (la.map (·.1)) ansM2 0).2 = 0 := by rw [e1, ans7_2]
  have hn1b : sb.n = 0 := by have h3 := hzb.len; have h4 := congrArg List.length e2; simp at h4; rw [h3, h4]; rfl
  refine r_y rfl rfl (y_move rfl) ?_
  refine r_y rfl rfl (y_iop rfl rfl rfl) ?_
  refine r_y rfl rfl (y_move rfl) ?_
  refine r_yg rfl (by rw [hc1]; rfl) rfl (y_move rfl) ?_
  refine r_yg rfl (by rw [hc1]; rfl) rfl (y_iop rfl rfl rfl) ?_
  refine r_y rfl rfl (y_pickt rfl (by rw [hc1]; rfl) rfl) ?_
  refine r_y rfl rfl (y_move rfl) ?_
  refine r_yg rfl (by rw [hc2]; rfl) rfl (y_move rfl) ?_
  refine r_yg rfl (by rw [hc2]; rfl) rfl (y_len tl33 rfl) ?_
  refine r_yg rfl (by rw [hc2]; rfl) rfl (y_iop rfl rfl rfl) ?_
  refine r_y rfl rfl (y_pickt rfl (by rw [hc2]; rfl) rfl) ?_
  refine r_y rfl rfl (y_move rfl) ?_
  refine r_yg rfl (by rw [hn1a]; rfl) rfl (y_move rfl) ?_
  refine r_yg rfl (by rw [hn1a]; rfl) rfl (y_indexAddr_slice (k := 0) rfl rfl tl33 hlt (At.fz hza.fz hlt)) ?_
  refine r_yg rfl (by rw [hn1a]; rfl) rfl (y_fieldAddr rfl ((At.fz hza.fz hlt).eadd) fo50_1 (eadd_eadd _ _ _)) ?_
  refine r_yg rfl (by rw [hn1a]; rfl) rfl (y_load_s (v := i64 7) rfl ts3 (RdS.fz (k := 0) hza.fz (map_get hy) (by rw [hy1]; rfl)) ) ?_
  refine r_yg rfl (by rw [hn1a]; rfl) rfl (y_iop rfl rfl rfl) ?_
  refine r_y rfl rfl (y_pickt rfl (by rw [hn1a]; rfl) rfl) ?_
  refine r_y rfl rfl (y_move rfl) ?_
  refine r_yg rfl rfl rfl (y_move rfl) ?_
  refine r_yg rfl rfl rfl (y_len tl33 rfl) ?_
  refine r_yg rfl rfl rfl (y_iop rfl rfl rfl) ?_
  refine r_y rfl rfl (y_pickt rfl rfl rfl) ?_
  refine r_y rfl rfl (y_move rfl) ?_
  refine r_yg rfl (by rw [hn1b]; rfl) rfl (y_load_a (cs := encMod ansM1 zSl) rfl ts32 (RdA.blk (i := 0) rfl rfl)) ?_
  refine r_sg rfl (by rw [hn1b]; rfl) ?_
  refine s_call0 rfl Try.call36 rfl (modSound_ok ansM1 zSl _ _ (fzA_nil _)) ?_
  rintro _ m2 _ hm2 ⟨rfl, rfl⟩
  replace hm := hm.trans hm2
  replace hza := hza.mono hm2
  replace hzb := hzb.mono hm2
  clear hm2
  refine r_y rfl rfl (y_pickt rfl (by rw [hn1b]; rfl) rfl) ?_
  refine r_y rfl rfl (y_assign rfl) ?_
  refine r_nil ?_
  refine hK4 _ _ _ ?_
  clear hK4 K4
  refine c_ret ?_
  refine e_ret 1 hm (res_tmps rfl) ?_
  refine ⟨congrArg Value.bool ?_, rfl⟩
  exact ans7_3
end Go.Aw
namespace Go.Aw
open Go Go.Proofs
set_option maxRecDepth 100000 in
theorem modsApply_w (s1 : Sl) (l1 : List (RuleD × Sl)) (x : ModD) (sm : Sl) (room : Int) (m : Snap) (H : Hp) (hz : FzR m s1 l1) (hok1 : s1.ok) (hfa : ∀ p ∈ l1, p.1.acts.length ≤ 4398046511103) (hzx : FzA m sm x.acts) (hokx : sm.ok) (hfx : x.acts.length ≤ 4398046511103) : Fn Try.prog 9 [s1.v, .agg (encMod x sm).toArray, .int .i64 room] m H (fun v _ H' => v = .bool true ∧ H' = H) := by
  have hl := hz.len
  have hm : m.le m := Snap.le.refl m
  refine fn_end Try.func9 rfl rfl rfl ?_
  refine c_seq (fun K0 hK0 => ?_)
  refine c_region ?_
  refine r_s rfl ?_
  refine s_box_a rfl rfl (fun b0 => ?_)
  refine r_y rfl rfl (y_assign rfl) ?_
  refine r_nil ?_
  refine hK0 _ _ _ ?_
  clear hK0 K0
  refine c_seq (fun K1 hK1 => ?_)
  refine c_seq (fun K2 hK2 => ?_)
  refine c_region ?_
  refine r_y rfl rfl (y_move rfl) ?_
  refine r_y rfl rfl (y_len tl33 rfl) ?_
  refine r_y rfl rfl (y_iop rfl rfl rfl) ?_
  refine r_y rfl rfl (y_move rfl) ?_
  refine r_split (j := 3) rfl (fun hS => ?_) (fun hS => ?_)
  ·
    refine r_no' rfl rfl hS ?_
    refine r_no' rfl rfl hS ?_
    refine r_no' rfl rfl hS ?_
    refine r_no' rfl rfl hS ?_
    refine r_y rfl rfl (y_pickt rfl hS rfl) ?_
    refine r_nil ?_
    refine hK2 _ _ _ ?_
    clear hK2 K2
    refine c_ift rfl rfl ?_
    refine c_seq (fun K3 hK3 => ?_)
    refine c_region ?_
    refine r_s rfl ?_
    refine s_call0 rfl Try.call32 rfl (answers7_w _ _) ?_
    rintro _ m2 _ hm2 ⟨rfl, rfl⟩
    replace hm := hm.trans hm2
    replace hz := hz.mono hm2
    replace hzx := hzx.mono hm2
    clear hm2
    refine r_y rfl rfl (y_assign rfl) ?_
    refine r_nil ?_
    refine hK3 _ _ _ ?_
    clear hK3 K3
    refine c_ret ?_
    refine e_ret 1 hm (res_tmps rfl) ?_
    first | exact ⟨rfl, rfl⟩ | exact ⟨congrArg Value.bool (by rw [hla]; exact applyR_table (by simpa using hC)), rfl⟩
  ·
    refine r_yg rfl hS rfl (y_fieldAddr rfl At.lit fo32_3 rfl) ?_
    refine r_yg rfl hS rfl (y_load_s rfl ts30 (RdS.blk (i := 0) rfl rfl)) ?_
    refine r_yg rfl hS rfl (y_len tl30 rfl) ?_
    refine r_yg rfl hS rfl (y_iop rfl rfl rfl) ?_
    refine r_y rfl rfl (y_pickf rfl hS rfl) ?_
    refine r_nil ?_
    refine hK2 _ _ _ ?_
    clear hK2 K2
    refine c_cond rfl (fun hS2 => ?_) (fun hS2 => ?_)
    ·
      refine c_seq (fun K4 hK4 => ?_)
      refine c_region ?_
      refine r_s rfl ?_
      refine s_call0 rfl Try.call32 rfl (answers7_w _ _) ?_
      rintro _ m2 _ hm2 ⟨rfl, rfl⟩
      replace hm := hm.trans hm2
      replace hz := hz.mono hm2
      replace hzx := hzx.mono hm2
      clear hm2
      refine r_y rfl rfl (y_assign rfl) ?_
      refine r_nil ?_
      refine hK4 _ _ _ ?_
      clear hK4 K4
      refine c_ret ?_
      refine e_ret 1 hm (res_tmps rfl) ?_
      first | exact ⟨rfl, rfl⟩ | exact ⟨congrArg Value.bool (by rw [hla]; exact applyR_table (by simpa using hC)), rfl⟩
    ·
      have hl50 : s1.n ≤ 50 := by simp at hS; omega
      refine c_skip ?_
      refine hK1 _ _ _ ?_
      clear hK1 K1
      refine c_seq (fun K5 hK5 => ?_)
      refine c_draw ([.blk b0 (.cells (encMod x sm).toArray 32)]) (by kernel_rfl) (fun hg => ?_)
      have hz_g := hz
      have hzx_g := hzx
      refine g_y (i := 1) (listed' := #[false, true, false, false, false, false, false, false, false, false, false]) rfl (by kernel_rfl) (by kernel_rfl) (by kernel_rfl) (by kernel_rfl) rfl rfl hg (allc (List.Mem.head _) alln) (fun m' H' hm' hX' => y_move rfl) ?_
      refine g_y (i := 3) (listed' := #[false, true, false, true, false, false, false, false, false, false, false]) rfl (by kernel_rfl) (by kernel_rfl) (by kernel_rfl) (by kernel_rfl) rfl rfl hg (allc (List.Mem.head _) alln) (fun m' H' hm' hX' => y_load_a (cs := encMod x sm) rfl ts32 (RdA.mem (hX' _ (List.Mem.head _)) rfl)) ?_
      refine g_y (i := 4) (listed' := #[false, true, false, true, true, false, false, false, false, false, false]) rfl (by kernel_rfl) (by kernel_rfl) (by kernel_rfl) (by kernel_rfl) rfl rfl hg (allc (List.Mem.head _) alln) (fun m' H' hm' hX' => y_move rfl) ?_
      refine g_s (i := 0) (listed' := #[true, true, false, true, true, false, false, false, false, false, false]) rfl (by kernel_rfl) (by kernel_rfl) rfl ?_
      refine s_buildSlice (cs := []) (e := 50) rfl rfl (fun _ => by kernel_rfl) (fun b1 => ?_)
      refine ⟨⟨hg, (allc (List.Mem.tail _ (List.Mem.head _)) alln)⟩, ?_⟩
      refine g_toVec (i := 0) (s := 32) (k := 0) [] rfl rfl (fun c h => by cases h) rfl (Nat.zero_le _) ?_
      refine g_s (i := 2) (listed' := #[true, true, true, true, true, false, false, false, false, false, false]) rfl (by kernel_rfl) (by kernel_rfl) rfl ?_
      refine s_append rfl rfl rfl tl33 zo50 tb50 (i := 0) rfl (hz.src hok1) (by omega) (by unfold maxLen; omega) (fun a1 c1 => ?_)
      refine ⟨⟨hg, (allc (List.Mem.tail _ (List.Mem.head _)) alln)⟩, ?_⟩
      refine g_freezeVec (i := 0) rfl rfl (fun m3 hm3 hzu hnu => ?_)
      replace hm := hm.trans hm3
      replace hg := hg.trans hm3
      replace hz := hz.mono hm3
      replace hzx := hzx.mono hm3
      clear hm3
      have hzu1 : FzR _ ⟨a1, 0 + s1.n, c1⟩ l1 := fzr_of hzu (by simp) (AllA.of hz)
      refine g_s (i := 5) (listed' := #[true, true, true, true, true, true, false, false, false, false, false]) rfl (by kernel_rfl) (by kernel_rfl) rfl ?_
      refine s_call0 rfl Try.call33 rfl (applyF_w ⟨a1, 0 + s1.n, c1⟩ l1 x sm room _ _ hzu1 hfa (by omega) hzx hokx hfx) ?_
      rintro _ m2 _ hm2 ⟨sa, la, rfl, hza, hla, hna, rfl⟩
      replace hm := hm.trans hm2
      refine ⟨⟨hg.trans hm2, (allc (List.Mem.head _) alln)⟩, ?_⟩
      replace hg := hg.trans hm2
      replace hz := hz.mono hm2
      replace hzx := hzx.mono hm2
      replace hzu := hzu.mono hm2
      clear hm2
      refine g_y (i := 6) (listed' := #[true, true, true, true, true, true, true, false, false, false, false]) rfl (by kernel_rfl) (by kernel_rfl) (by kernel_rfl) (by kernel_rfl) rfl rfl hg (allc (List.Mem.head _) alln) (fun m' H' hm' hX' => y_move rfl) ?_
      refine g_y (i := 7) (listed' := #[true, true, true, true, true, true, true, true, false, false, false]) rfl (by kernel_rfl) (by kernel_rfl) (by kernel_rfl) (by kernel_rfl) rfl rfl hg (allc (List.Mem.head _) alln) (fun m' H' hm' hX' => y_extract rfl rfl) ?_
      refine g_y (i := 8) (listed' := #[true, true, true, true, true, true, true, true, true, false, false]) rfl (by kernel_rfl) (by kernel_rfl) (by kernel_rfl) (by kernel_rfl) rfl rfl hg (allc (List.Mem.head _) alln) (fun m' H' hm' hX' => y_extract rfl rfl) ?_
      refine g_y (i := 9) (listed' := #[true, true, true, true, true, true, true, true, true, true, false]) rfl (by kernel_rfl) (by kernel_rfl) (by kernel_rfl) (by kernel_rfl) rfl rfl hg (allc (List.Mem.head _) alln) (fun m' H' hm' hX' => y_assign rfl) ?_
      refine g_y (i := 10) (listed' := #[true, true, true, true, true, true, true, true, true, true, true]) rfl (by kernel_rfl) (by kernel_rfl) (by kernel_rfl) (by kernel_rfl) rfl rfl hg (allc (List.Mem.head _) alln) (fun m' H' hm' hX' => y_assign rfl) ?_
      refine g_done (by kernel_rfl) ?_
      clear hg hz_g hzx_g
      refine hK5 _ _ _ ?_
      clear hK5 K5
      refine c_seq (fun K6 hK6 => ?_)
      refine c_region ?_
      refine r_y rfl rfl (y_move rfl) ?_
      refine r_y rfl rfl (y_load_a (cs := encMod x sm) rfl ts32 (RdA.blk (i := 0) rfl rfl)) ?_
      refine r_y rfl rfl (y_move rfl) ?_
      refine r_s rfl ?_
      refine s_call0 rfl Try.call34 rfl (rApply_w s1 l1 x sm room _ _ hz hok1 (by omega) hzx hokx) ?_
      rintro _ m2 _ hm2 ⟨sb, lb, rfl, hzb, hlb, hnb, rfl⟩
      replace hm := hm.trans hm2
      replace hz := hz.mono hm2
      replace hzx := hzx.mono hm2
      replace hzu := hzu.mono hm2
      replace hza := hza.mono hm2
      clear hm2
      refine r_y rfl rfl (y_move rfl) ?_
      refine r_y rfl rfl (y_extract rfl rfl) ?_
      refine r_y rfl rfl (y_extract rfl rfl) ?_
      refine r_y rfl rfl (y_assign rfl) ?_
      refine r_y rfl rfl (y_assign rfl) ?_
      refine r_nil ?_
      refine hK6 _ _ _ ?_
      clear hK6 K6
      refine c_seq (fun K7 hK7 => ?_)
      refine c_draw ([.blk b0 (.cells (encMod x sm).toArray 32)]) (by kernel_rfl) (fun hg => ?_)
      have hz_g := hz
      have hzx_g := hzx
      have hzu_g := hzu
      have hza_g := hza
      have hzb_g := hzb
      refine g_s (i := 0) (listed' := #[true, false, false, false, false, false, false, false, false, false, false, false, false, false, false, false, false, false, false, false, false, false, false, false, false, false, false]) rfl (by kernel_rfl) (by kernel_rfl) rfl ?_
      refine s_call0 rfl Try.call32 rfl (answers7_w _ _) ?_
      rintro _ m2 _ hm2 ⟨rfl, rfl⟩
      replace hm := hm.trans hm2
      refine ⟨⟨hg.trans hm2, (allc (List.Mem.head _) alln)⟩, ?_⟩
      replace hg := hg.trans hm2
      replace hz := hz.mono hm2
      replace hzx := hzx.mono hm2
      replace hzu := hzu.mono hm2
      replace hza := hza.mono hm2
      replace hzb := hzb.mono hm2
      clear hm2
      refine g_y (i := 1) (listed' := #[true, true, false, false, false, false, false, false, false, false, false, false, false, false, false, false, false, false, false, false, false, false, false, false, false, false, false]) rfl (by kernel_rfl) (by kernel_rfl) (by kernel_rfl) (by kernel_rfl) rfl rfl hg (allc (List.Mem.head _) alln) (fun m' H' hm' hX' => y_move rfl) ?_
      refine g_yg (i := 2) (listed' := #[true, true, true, false, false, false, false, false, false, false, false, false, false, false, false, false, false, false, false, false, false, false, false, false, false, false, false]) rfl (by kernel_rfl) (by kernel_rfl) (by kernel_rfl) (by kernel_rfl) rfl rfl rfl rfl hg (allc (List.Mem.head _) alln) (fun m' H' hm' hX' => y_move rfl) ?_
      refine g_yg (i := 3) (listed' := #[true, true, true, true, false, false, false, false, false, false, false, false, false, false, false, false, false, false, false, false, false, false, false, false, false, false, false]) rfl (by kernel_rfl) (by kernel_rfl) (by kernel_rfl) (by kernel_rfl) rfl rfl rfl rfl hg (allc (List.Mem.head _) alln) (fun m' H' hm' hX' => y_move rfl) ?_
      refine g_yg (i := 4) (listed' := #[true, true, true, true, true, false, false, false, false, false, false, false, false, false, false, false, false, false, false, false, false, false, false, false, false, false, false]) rfl (by kernel_rfl) (by kernel_rfl) (by kernel_rfl) (by kernel_rfl) rfl rfl rfl rfl hg (allc (List.Mem.head _) alln) (fun m' H' hm' hX' => y_iop rfl rfl rfl) ?_
      refine g_y (i := 5) (listed' := #[true, true, true, true, true, true, false, false, false, false, false, false, false, false, false, false, false, false, false, false, false, false, false, false, false, false, false]) rfl (by kernel_rfl) (by kernel_rfl) (by kernel_rfl) (by kernel_rfl) rfl rfl hg (allc (List.Mem.head _) alln) (fun m' H' hm' hX' => y_pickt rfl rfl rfl) ?_
      refine g_y (i := 6) (listed' := #[true, true, true, true, true, true, true, false, false, false, false, false, false, false, false, false, false, false, false, false, false, false, false, false, false, false, false]) rfl (by kernel_rfl) (by kernel_rfl) (by kernel_rfl) (by kernel_rfl) rfl rfl hg (allc (List.Mem.head _) alln) (fun m' H' hm' hX' => y_move rfl) ?_
      refine g_yg (i := 7) (listed' := #[true, true, true, true, true, true, true, true, false, false, false, false, false, false, false, false, false, false, false, false, false, false, false, false, false, false, false]) rfl (by kernel_rfl) (by kernel_rfl) (by kernel_rfl) (by kernel_rfl) rfl rfl (by simp) rfl hg (allc (List.Mem.head _) alln) (fun m' H' hm' hX' => y_move rfl) ?_
      refine g_yg (i := 8) (listed' := #[true, true, true, true, true, true, true, true, true, false, false, false, false, false, false, false, false, false, false, false, false, false, false, false, false, false, false]) rfl (by kernel_rfl) (by kernel_rfl) (by kernel_rfl) (by kernel_rfl) rfl rfl (by simp) rfl hg (allc (List.Mem.head _) alln) (fun m' H' hm' hX' => y_move rfl) ?_
      refine g_sg (i := 9) (listed' := #[true, true, true, true, true, true, true, true, true, true, false, false, false, false, false, false, false, false, false, false, false, false, false, false, false, false, false]) rfl (by kernel_rfl) (by kernel_rfl) rfl rfl (by simp) ?_
      refine s_call0 rfl Try.call35 rfl (rSame_w sa sb la lb _ _ hza hzb) ?_
      rintro _ m2 _ hm2 ⟨rfl, rfl⟩
      replace hm := hm.trans hm2
      refine ⟨⟨hg.trans hm2, (allc (List.Mem.head _) alln)⟩, ?_⟩
      replace hg := hg.trans hm2
      replace hz := hz.mono hm2
      replace hzx := hzx.mono hm2
      replace hzu := hzu.mono hm2
      replace hza := hza.mono hm2
      replace hzb := hzb.mono hm2
      clear hm2
      refine g_y (i := 10) (listed' := #[true, true, true, true, true, true, true, true, true, true, true, false, false, false, false, false, false, false, false, false, false, false, false, false, false, false, false]) rfl (by kernel_rfl) (by kernel_rfl) (by kernel_rfl) (by kernel_rfl) rfl rfl hg (allc (List.Mem.head _) alln) (fun m' H' hm' hX' => y_pickt rfl (by simp) rfl) ?_
      refine g_y (i := 11) (listed' := #[true, true, true, true, true, true, true, true, true, true, true, true, false, false, false, false, false, false, false, false, false, false, false, false, false, false, false]) rfl (by kernel_rfl) (by kernel_rfl) (by kernel_rfl) (by kernel_rfl) rfl rfl hg (allc (List.Mem.head _) alln) (fun m' H' hm' hX' => y_move rfl) ?_
      refine g_yg (i := 12) (listed' := #[true, true, true, true, true, true, true, true, true, true, true, true, true, false, false, false, false, false, false, false, false, false, false, false, false, false, false]) rfl (by kernel_rfl) (by kernel_rfl) (by kernel_rfl) (by kernel_rfl) rfl rfl (by rw [hla, hlb]; simp) rfl hg (allc (List.Mem.head _) alln) (fun m' H' hm' hX' => y_load_a (cs := encMod x sm) rfl ts32 (RdA.mem (hX' _ (List.Mem.head _)) rfl)) ?_
      refine g_yg (i := 14) (listed' := #[true, true, true, true, true, true, true, true, true, true, true, true, true, false, true, false, false, false, false, false, false, false, false, false, false, false, false]) rfl (by kernel_rfl) (by kernel_rfl) (by kernel_rfl) (by kernel_rfl) rfl rfl (by rw [hla, hlb]; simp) rfl hg (allc (List.Mem.head _) alln) (fun m' H' hm' hX' => y_load_a (cs := encMod x sm) rfl ts32 (RdA.mem (hX' _ (List.Mem.head _)) rfl)) ?_
      refine g_sg (i := 13) (listed' := #[true, true, true, true, true, true, true, true, true, true, true, true, true, true, true, false, false, false, false, false, false, false, false, false, false, false, false]) rfl (by kernel_rfl) (by kernel_rfl) rfl rfl (by rw [hla, hlb]; simp) ?_
      refine s_call0 rfl Try.call36 rfl (modSound_ok x sm _ _ hzx) ?_
      rintro _ m2 _ hm2 ⟨rfl, rfl⟩
      replace hm := hm.trans hm2
      refine ⟨⟨hg.trans hm2, (allc (List.Mem.head _) alln)⟩, ?_⟩
      replace hg := hg.trans hm2
      replace hz := hz.mono hm2
      replace hzx := hzx.mono hm2
      replace hzu := hzu.mono hm2
      replace hza := hza.mono hm2
      replace hzb := hzb.mono hm2
      clear hm2
      refine g_sg (i := 15) (listed' := #[true, true, true, true, true, true, true, true, true, true, true, true, true, true, true, true, false, false, false, false, false, false, false, false, false, false, false]) rfl (by kernel_rfl) (by kernel_rfl) rfl rfl (by rw [hla, hlb]; simp) ?_
      refine s_call0 rfl Try.call37 rfl (rMod_w x sm _ _ hzx) ?_
      rintro _ m2 _ hm2 ⟨rfl, rfl⟩
      replace hm := hm.trans hm2
      refine ⟨⟨hg.trans hm2, (allc (List.Mem.head _) alln)⟩, ?_⟩
      replace hg := hg.trans hm2
      replace hz := hz.mono hm2
      replace hzx := hzx.mono hm2
      replace hzu := hzu.mono hm2
      replace hza := hza.mono hm2
      replace hzb := hzb.mono hm2
      clear hm2
      refine g_yg (i := 16) (listed' := #[true, true, true, true, true, true, true, true, true, true, true, true, true, true, true, true, true, false, false, false, false, false, false, false, false, false, false]) rfl (by kernel_rfl) (by kernel_rfl) (by kernel_rfl) (by kernel_rfl) rfl rfl (by rw [hla, hlb]; simp) rfl hg (allc (List.Mem.head _) alln) (fun m' H' hm' hX' => y_eqbool rfl rfl Try.underlying4) ?_
      refine g_y (i := 17) (listed' := #[true, true, true, true, true, true, true, true, true, true, true, true, true, true, true, true, true, true, false, false, false, false, false, false, false, false, false]) rfl (by kernel_rfl) (by kernel_rfl) (by kernel_rfl) (by kernel_rfl) rfl rfl hg (allc (List.Mem.head _) alln) (fun m' H' hm' hX' => y_pickt rfl (by rw [hla, hlb]; simp) rfl) ?_
      refine g_y (i := 18) (listed' := #[true, true, true, true, true, true, true, true, true, true, true, true, true, true, true, true, true, true, true, false, false, false, false, false, false, false, false]) rfl (by kernel_rfl) (by kernel_rfl) (by kernel_rfl) (by kernel_rfl) rfl rfl hg (allc (List.Mem.head _) alln) (fun m' H' hm' hX' => y_move rfl) ?_
      refine g_yg (i := 19) (listed' := #[true, true, true, true, true, true, true, true, true, true, true, true, true, true, true, true, true, true, true, true, false, false, false, false, false, false, false]) rfl (by kernel_rfl) (by kernel_rfl) (by kernel_rfl) (by kernel_rfl) rfl rfl (by simp) rfl hg (allc (List.Mem.head _) alln) (fun m' H' hm' hX' => y_move rfl) ?_
      refine g_yg (i := 20) (listed' := #[true, true, true, true, true, true, true, true, true, true, true, true, true, true, true, true, true, true, true, true, true, false, false, false, false, false, false]) rfl (by kernel_rfl) (by kernel_rfl) (by kernel_rfl) (by kernel_rfl) rfl rfl (by simp) rfl hg (allc (List.Mem.head _) alln) (fun m' H' hm' hX' => y_iop rfl rfl rfl) ?_
      refine g_yg (i := 21) (listed' := #[true, true, true, true, true, true, true, true, true, true, true, true, true, true, true, true, true, true, true, true, true, true, false, false, false, false, false]) rfl (by kernel_rfl) (by kernel_rfl) (by kernel_rfl) (by kernel_rfl) rfl rfl (by simp) rfl hg (allc (List.Mem.head _) alln) (fun m' H' hm' hX' => y_move rfl) ?_
      refine g_split (j := 21) rfl (fun hC => ?_) (fun hC => ?_)
      ·
        refine g_no (i := 22) (listed' := #[true, true, true, true, true, true, true, true, true, true, true, true, true, true, true, true, true, true, true, true, true, true, true, false, false, false, false]) rfl (by kernel_rfl) (by kernel_rfl) (by kernel_rfl) (by kernel_rfl) rfl rfl hC rfl hg (allc (List.Mem.head _) alln) ?_
        refine g_no (i := 23) (listed' := #[true, true, true, true, true, true, true, true, true, true, true, true, true, true, true, true, true, true, true, true, true, true, true, true, false, false, false]) rfl (by kernel_rfl) (by kernel_rfl) (by kernel_rfl) (by kernel_rfl) rfl rfl hC rfl hg (allc (List.Mem.head _) alln) ?_
        refine g_yg (i := 24) (listed' := #[true, true, true, true, true, true, true, true, true, true, true, true, true, true, true, true, true, true, true, true, true, true, true, true, true, false, false]) rfl (by kernel_rfl) (by kernel_rfl) (by kernel_rfl) (by kernel_rfl) rfl rfl (by simp) rfl hg (allc (List.Mem.head _) alln) (fun m' H' hm' hX' => y_pickt rfl hC rfl) ?_
        refine g_y (i := 25) (listed' := #[true, true, true, true, true, true, true, true, true, true, true, true, true, true, true, true, true, true, true, true, true, true, true, true, true, true, false]) rfl (by kernel_rfl) (by kernel_rfl) (by kernel_rfl) (by kernel_rfl) rfl rfl hg (allc (List.Mem.head _) alln) (fun m' H' hm' hX' => y_pickt rfl (by simp) rfl) ?_
        refine g_y (i := 26) (listed' := #[true, true, true, true, true, true, true, true, true, true, true, true, true, true, true, true, true, true, true, true, true, true, true, true, true, true, true]) rfl (by kernel_rfl) (by kernel_rfl) (by kernel_rfl) (by kernel_rfl) rfl rfl hg (allc (List.Mem.head _) alln) (fun m' H' hm' hX' => y_assign rfl) ?_
        refine g_done (by kernel_rfl) ?_
        clear hg hz_g hzx_g hzu_g hza_g hzb_g
        refine hK7 _ _ _ ?_
        clear hK7 K7
        refine c_ret ?_
        refine e_ret 1 hm (res_tmps rfl) ?_
        first | exact ⟨rfl, rfl⟩ | exact ⟨congrArg Value.bool (by rw [hla]; exact applyR_table (by simpa using hC)), rfl⟩
      ·
        refine g_yg (i := 22) (listed' := #[true, true, true, true, true, true, true, true, true, true, true, true, true, true, true, true, true, true, true, true, true, true, true, false, false, false, false]) rfl (by kernel_rfl) (by kernel_rfl) (by kernel_rfl) (by kernel_rfl) rfl rfl hC rfl hg (allc (List.Mem.head _) alln) (fun m' H' hm' hX' => y_move rfl) ?_
        refine g_sg (i := 23) (listed' := #[true, true, true, true, true, true, true, true, true, true, true, true, true, true, true, true, true, true, true, true, true, true, true, true, false, false, false]) rfl (by kernel_rfl) (by kernel_rfl) rfl rfl hC ?_
        refine s_call0 rfl Try.call38 rfl (rTable_w sa la _ _ hza) ?_
        rintro _ m2 _ hm2 ⟨rfl, rfl⟩
        replace hm := hm.trans hm2
        refine ⟨⟨hg.trans hm2, (allc (List.Mem.head _) alln)⟩, ?_⟩
        replace hg := hg.trans hm2
        replace hz := hz.mono hm2
        replace hzx := hzx.mono hm2
        replace hzu := hzu.mono hm2
        replace hza := hza.mono hm2
        replace hzb := hzb.mono hm2
        clear hm2
        refine g_yg (i := 24) (listed' := #[true, true, true, true, true, true, true, true, true, true, true, true, true, true, true, true, true, true, true, true, true, true, true, true, true, false, false]) rfl (by kernel_rfl) (by kernel_rfl) (by kernel_rfl) (by kernel_rfl) rfl rfl (by simp) rfl hg (allc (List.Mem.head _) alln) (fun m' H' hm' hX' => y_pickf rfl hC rfl) ?_
        refine g_y (i := 25) (listed' := #[true, true, true, true, true, true, true, true, true, true, true, true, true, true, true, true, true, true, true, true, true, true, true, true, true, true, false]) rfl (by kernel_rfl) (by kernel_rfl) (by kernel_rfl) (by kernel_rfl) rfl rfl hg (allc (List.Mem.head _) alln) (fun m' H' hm' hX' => y_pickt rfl (by simp) rfl) ?_
        refine g_y (i := 26) (listed' := #[true, true, true, true, true, true, true, true, true, true, true, true, true, true, true, true, true, true, true, true, true, true, true, true, true, true, true]) rfl (by kernel_rfl) (by kernel_rfl) (by kernel_rfl) (by kernel_rfl) rfl rfl hg (allc (List.Mem.head _) alln) (fun m' H' hm' hX' => y_assign rfl) ?_
        refine g_done (by kernel_rfl) ?_
        clear hg hz_g hzx_g hzu_g hza_g hzb_g
        refine hK7 _ _ _ ?_
        clear hK7 K7
        refine c_ret ?_
        refine e_ret 1 hm (res_tmps rfl) ?_
        first | exact ⟨rfl, rfl⟩ | exact ⟨congrArg Value.bool (by rw [hla]; exact applyR_table (by simpa using hC)), rfl⟩
end Go.Aw
