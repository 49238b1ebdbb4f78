/- Part 12 of the words and walks that the proof behind it uses. -/
import Derived.Test.YtnmhkhobjaklhaaUndoChangesP11
set_option linter.unusedVariables false
set_option linter.unusedSimpArgs false
set_option maxHeartbeats 1000000
namespace Go.Aw
open Go Go.Proofs
set_option maxRecDepth 100000 in
theorem rApply_w (s1 : Sl) (l1 : List (RuleD × Sl)) (x : ModD) (sm : Sl) (room : Int) (m : Snap) (H : Hp) (hz : FzR m s1 l1) (hok1 : s1.a = none → s1.cap = 0) (hfit : l1.length < 1000000) (hzx : FzA m sm x.acts) (hokx : sm.ok) : Fn Try.prog 34 [s1.v, .agg (encMod x sm).toArray, .int .i64 room] m H (fun v m' H' => ∃ (s : Sl) (lr : List (RuleD × Sl)), v = .tuple [s.v, i64 (applyR (l1.map (·.1)) x room).2].toArray ∧ FzR m' s lr ∧ lr.map (·.1) = (applyR (l1.map (·.1)) x room).1 ∧ (s.a = none → s.cap = 0) ∧ H' = H) := by
  have hl := hz.len
  have hmx := hz.fz.max
  have hle0 := hz.fz.le
  unfold maxLen at hmx
  have hm : m.le m := Snap.le.refl m
  refine fn_end Try.func34 rfl rfl rfl ?_
  refine c_seq (fun K0 hK0 => ?_)
  refine c_region ?_
  refine r_s rfl ?_
  refine s_box_a rfl rfl (fun b0 => ?_)
  refine r_y rfl rfl (y_assign rfl) ?_
  refine r_y rfl rfl (y_assign rfl) ?_
  refine r_nil ?_
  refine hK0 _ _ _ ?_
  clear hK0 K0
  refine c_seq (fun K1 hK1 => ?_)
  refine c_seq (fun K2 hK2 => ?_)
  refine c_region ?_
  refine r_y rfl rfl (y_move rfl) ?_
  refine r_s rfl ?_
  refine s_call0 rfl Try.call38 rfl (rTable_w s1 l1 _ _ hz) ?_
  rintro _ m2 _ hm2 ⟨rfl, rfl⟩
  replace hm := hm.trans hm2
  replace hz := hz.mono hm2
  replace hzx := hzx.mono hm2
  clear hm2
  refine r_y rfl rfl (y_not rfl) ?_
  refine r_y rfl rfl (y_move rfl) ?_
  refine r_split (j := 3) rfl (fun hM => ?_) (fun hM => ?_)
  ·
    refine r_no' rfl rfl hM ?_
    refine r_no' rfl rfl hM ?_
    refine r_no' rfl rfl hM ?_
    refine r_y rfl rfl (y_pickt rfl hM rfl) ?_
    refine r_nil ?_
    refine hK2 _ _ _ ?_
    clear hK2 K2
    refine c_ift rfl rfl ?_
    refine c_seq (fun K3 hK3 => ?_)
    refine c_region ?_
    refine r_y rfl rfl (y_assign rfl) ?_
    refine r_y rfl rfl (y_assign rfl) ?_
    refine r_nil ?_
    refine hK3 _ _ _ ?_
    clear hK3 K3
    refine c_ret ?_
    refine e_ret 1 hm (res_tmps rfl) ?_
    rw [applyR_bad (by first | (simp at hM; rw [hM]; rfl) | (simp at hM hS0; rw [hM, hS0]; rfl))]
    exact ⟨zSl, [], rfl, fzR_nil _, rfl, fun _ => rfl, rfl⟩
  ·
    refine r_yg rfl hM rfl (y_load_a (cs := encMod x sm) rfl ts32 (RdA.blk (i := 0) rfl rfl)) ?_
    refine r_sg rfl hM ?_
    refine s_call0 rfl Try.call37 rfl (rMod_w x sm _ _ hzx) ?_
    rintro _ m2 _ hm2 ⟨rfl, rfl⟩
    replace hm := hm.trans hm2
    replace hz := hz.mono hm2
    replace hzx := hzx.mono hm2
    clear hm2
    refine r_yg rfl hM rfl (y_not rfl) ?_
    refine r_y rfl rfl (y_pickf rfl hM rfl) ?_
    refine r_nil ?_
    refine hK2 _ _ _ ?_
    clear hK2 K2
    refine c_cond rfl (fun hS0 => ?_) (fun hS0 => ?_)
    ·
      refine c_seq (fun K4 hK4 => ?_)
      refine c_region ?_
      refine r_y rfl rfl (y_assign rfl) ?_
      refine r_y rfl rfl (y_assign rfl) ?_
      refine r_nil ?_
      refine hK4 _ _ _ ?_
      clear hK4 K4
      refine c_ret ?_
      refine e_ret 1 hm (res_tmps rfl) ?_
      rw [applyR_bad (by first | (simp at hM; rw [hM]; rfl) | (simp at hM hS0; rw [hM, hS0]; rfl))]
      exact ⟨zSl, [], rfl, fzR_nil _, rfl, fun _ => rfl, rfl⟩
    ·
      have hTS : (ruleTable (l1.map (·.1)) && modSound x) = true := by simp at hM hS0; rw [hM, hS0]; rfl
      have hms : modSound x = true := by simp at hS0; exact hS0
      refine c_skip ?_
      refine hK1 _ _ _ ?_
      clear hK1 K1
      refine c_seq (fun K5 hK5 => ?_)
      refine c_seq (fun K6 hK6 => ?_)
      refine c_region ?_
      refine r_y rfl rfl (y_fieldAddr rfl At.lit fo32_0 rfl) ?_
      refine r_y rfl rfl (y_load_s rfl ts3 (RdS.blk (i := 0) rfl rfl)) ?_
      refine r_y rfl rfl (y_iop rfl rfl rfl) ?_
      refine r_nil ?_
      refine hK6 _ _ _ ?_
      clear hK6 K6
      refine c_cond rfl (fun hK1 => ?_) (fun hK1 => ?_)
      ·
        refine c_seq (fun K7 hK7 => ?_)
        refine c_region ?_
        refine r_y rfl rfl (y_fieldAddr rfl At.lit fo32_1 rfl) ?_
        refine r_y rfl rfl (y_load_a (cs := encCube x.m) rfl ts29 (RdA.blk (i := 0) rfl rfl)) ?_
        refine r_y rfl rfl (y_fieldAddr rfl At.lit fo32_2 rfl) ?_
        refine r_y rfl rfl (y_load_s rfl ts3 (RdS.blk (i := 0) rfl rfl)) ?_
        refine r_y rfl rfl (y_fieldAddr rfl At.lit fo32_3 rfl) ?_
        refine r_y rfl rfl (y_load_s rfl ts30 (RdS.blk (i := 0) rfl rfl)) ?_
        refine r_y rfl rfl (y_fieldAddr rfl At.lit fo32_4 rfl) ?_
        refine r_y rfl rfl (y_load_s rfl ts3 (RdS.blk (i := 0) rfl rfl)) ?_
        refine r_y rfl rfl (y_fieldAddr rfl At.lit fo32_5 rfl) ?_
        refine r_y rfl rfl (y_load_s rfl ts3 (RdS.blk (i := 0) rfl rfl)) ?_
        refine r_y rfl rfl (y_fieldAddr rfl At.lit fo32_6 rfl) ?_
        refine r_y rfl rfl (y_load_s rfl ts3 (RdS.blk (i := 0) rfl rfl)) ?_
        refine r_y rfl rfl (y_bld rfl tz50 fk50 bp50_0_1_2_3_4_5 rfl rfl) ?_
        refine r_s rfl ?_
        refine s_alloc rfl tz50 (fun b1 => ?_)
        refine r_s rfl ?_
        refine s_store (us := encRule (modRule x) sm) rfl rfl rfl ts50 rfl rfl (one_rule _ _) (i := 0) rfl rfl ?_
        refine r_nil ?_
        refine hK7 _ _ _ ?_
        clear hK7 K7
        refine c_seq (fun K8 hK8 => ?_)
        refine c_region ?_
        refine r_y rfl rfl (y_assign rfl) ?_
        refine r_y rfl rfl (y_assign rfl) ?_
        refine r_nil ?_
        refine hK8 _ _ _ ?_
        clear hK8 K8
        refine c_seq (fun K9 hK9 => ?_)
        refine c_seq (fun K10 hK10 => ?_)
        refine c_region ?_
        refine r_y rfl rfl (y_assign rfl) ?_
        refine r_nil ?_
        refine hK10 _ _ _ ?_
        clear hK10 K10
        refine c_block ?_
        refine c_loopx (α := Nat) (fun i => [(0, s1.v), (2, .int .i64 room), (4, .pointer (some ⟨b0, 0, none⟩)), (8, .pointer (some ⟨b1, 0, none⟩)), (9, .bool (((l1.map (·.1)).take i).any (fun y => ruleKey y (modRule x)))), (10, .bool (((l1.map (·.1)).take i).any (fun y => !ruleKey y (modRule x) && ruleOverlap y (modRule x)))), (11, .int .i64 (i : Nat))]) (fun i => .blk b1 (.cells (encRule (modRule x) sm).toArray 50) :: .blk b0 (.cells (encMod x sm).toArray 32) :: H) (fun k0 i m1 => (i + k0 = s1.n ∧ ((l1.map (·.1)).take i).any (fun y => ruleKey y (modRule x) && (y.owner != x.owner)) = false) ∧ m.le m1 ∧ (FzR m1 s1 l1) ∧ (FzA m1 sm x.acts)) (s1.n) 0 ⟨rfl, rfl, rfl, rfl, rfl, rfl, rfl, trivial⟩ rfl ⟨⟨by omega, rfl⟩, hm, hz, hzx⟩ ?_
        clear hm hz hzx
        rintro k0 i m1 ⟨hi0, hm, hz, hzx⟩
        obtain ⟨hi, hown⟩ := hi0
        refine c_seq (fun K11 hK11 => ?_)
        refine c_seq (fun K12 hK12 => ?_)
        refine c_region ?_
        refine r_y rfl rfl (y_move rfl) ?_
        refine r_y rfl rfl (y_move rfl) ?_
        refine r_y rfl rfl (y_len tl33 rfl) ?_
        refine r_y rfl rfl (y_iop rfl rfl rfl) ?_
        refine r_nil ?_
        refine hK12 _ _ _ ?_
        clear hK12 K12
        refine c_cond rfl (fun h0 => ?_) (fun h0 => ?_)
        ·
          have hlt : i < s1.n := by simp at h0; omega
          obtain ⟨r, hx⟩ := get_of_lt (l := l1) (k := i) (by omega)
          have hx1 : (l1.map (·.1))[i]? = some r.1 := map_get hx
          refine c_skip ?_
          refine hK11 _ _ _ ?_
          clear hK11 K11
          refine c_seq (fun K13 hK13 => ?_)
          refine c_block ?_
          refine c_seq (fun K14 hK14 => ?_)
          refine c_draw ([.blk b1 (.cells (encRule (modRule x) sm).toArray 50)]) (by kernel_rfl) (fun hg => ?_)
          have hz_g := hz
          have hzx_g := hzx
          refine g_y (i := 0) (listed' := #[true, false, false, false, false, false]) rfl (by kernel_rfl) (by kernel_rfl) (by kernel_rfl) (by kernel_rfl) rfl rfl hg (allc (List.Mem.head _) alln) (fun m' H' hm' hX' => y_move rfl) ?_
          refine g_y (i := 1) (listed' := #[true, true, false, false, false, false]) rfl (by kernel_rfl) (by kernel_rfl) (by kernel_rfl) (by kernel_rfl) rfl rfl hg (allc (List.Mem.head _) alln) (fun m' H' hm' hX' => y_move rfl) ?_
          refine g_y (i := 2) (listed' := #[true, true, true, false, false, false]) rfl (by kernel_rfl) (by kernel_rfl) (by kernel_rfl) (by kernel_rfl) rfl rfl hg (allc (List.Mem.head _) alln) (fun m' H' hm' hX' => y_indexAddr_slice rfl rfl tl33 hlt (At.fz (hz_g.fz.mono hm') hlt)) ?_
          refine g_y (i := 3) (listed' := #[true, true, true, true, false, false]) rfl (by kernel_rfl) (by kernel_rfl) (by kernel_rfl) (by kernel_rfl) rfl rfl hg (allc (List.Mem.head _) alln) (fun m' H' hm' hX' => y_load_a rfl ts50 (RdA.fz0 (hz_g.fz.mono hm') (map_get hx))) ?_
          refine g_y (i := 4) (listed' := #[true, true, true, true, true, false]) rfl (by kernel_rfl) (by kernel_rfl) (by kernel_rfl) (by kernel_rfl) rfl rfl hg (allc (List.Mem.head _) alln) (fun m' H' hm' hX' => y_load_a (cs := encRule (modRule x) sm) rfl ts50 (RdA.mem (hX' _ (List.Mem.head _)) rfl)) ?_
          refine g_s (i := 5) (listed' := #[true, true, true, true, true, true]) rfl (by kernel_rfl) (by kernel_rfl) rfl ?_
          refine s_call0 rfl Try.call85 rfl (rKey_w r.1 (modRule x) r.2 sm _ _) ?_
          rintro _ m2 _ hm2 ⟨rfl, rfl⟩
          replace hm := hm.trans hm2
          refine ⟨⟨hg.trans hm2, (allc (List.Mem.head _) alln)⟩, ?_⟩
          replace hg := hg.trans hm2
          replace hz := hz.mono hm2
          replace hzx := hzx.mono hm2
          clear hm2
          refine g_done (by kernel_rfl) ?_
          clear hg hz_g hzx_g
          refine hK14 _ _ _ ?_
          clear hK14 K14
          refine c_cond rfl (fun hKy => ?_) (fun hKy => ?_)
          ·
            have hkk : ruleKey r.1 (modRule x) = true := hKy
            refine c_seq (fun K15 hK15 => ?_)
            refine c_region ?_
            refine r_y rfl rfl (y_assign rfl) ?_
            refine r_nil ?_
            refine hK15 _ _ _ ?_
            clear hK15 K15
            refine c_seq (fun K16 hK16 => ?_)
            refine c_draw ([.blk b0 (.cells (encMod x sm).toArray 32)]) (by kernel_rfl) (fun hg => ?_)
            have hz_g := hz
            have hzx_g := hzx
            refine g_y (i := 0) (listed' := #[true, false, false, false, false, false, false, false]) rfl (by kernel_rfl) (by kernel_rfl) (by kernel_rfl) (by kernel_rfl) rfl rfl hg (allc (List.Mem.tail _ (List.Mem.head _)) alln) (fun m' H' hm' hX' => y_move rfl) ?_
            refine g_y (i := 1) (listed' := #[true, true, false, false, false, false, false, false]) rfl (by kernel_rfl) (by kernel_rfl) (by kernel_rfl) (by kernel_rfl) rfl rfl hg (allc (List.Mem.tail _ (List.Mem.head _)) alln) (fun m' H' hm' hX' => y_move rfl) ?_
            refine g_y (i := 2) (listed' := #[true, true, true, false, false, false, false, false]) rfl (by kernel_rfl) (by kernel_rfl) (by kernel_rfl) (by kernel_rfl) rfl rfl hg (allc (List.Mem.tail _ (List.Mem.head _)) alln) (fun m' H' hm' hX' => y_indexAddr_slice rfl rfl tl33 hlt (At.fz (hz_g.fz.mono hm') hlt)) ?_
            refine g_y (i := 3) (listed' := #[true, true, true, true, false, false, false, false]) rfl (by kernel_rfl) (by kernel_rfl) (by kernel_rfl) (by kernel_rfl) rfl rfl hg (allc (List.Mem.tail _ (List.Mem.head _)) alln) (fun m' H' hm' hX' => y_fieldAddr rfl ((At.fz (hz_g.fz.mono hm') hlt).eadd) fo50_5 (eadd_eadd _ _ _)) ?_
            refine g_y (i := 4) (listed' := #[true, true, true, true, true, false, false, false]) rfl (by kernel_rfl) (by kernel_rfl) (by kernel_rfl) (by kernel_rfl) rfl rfl hg (allc (List.Mem.tail _ (List.Mem.head _)) alln) (fun m' H' hm' hX' => y_load_s rfl ts3 (RdS.fz (hz_g.fz.mono hm') (map_get hx) rfl)) ?_
            refine g_y (i := 5) (listed' := #[true, true, true, true, true, true, false, false]) rfl (by kernel_rfl) (by kernel_rfl) (by kernel_rfl) (by kernel_rfl) rfl rfl hg (allc (List.Mem.tail _ (List.Mem.head _)) alln) (fun m' H' hm' hX' => y_fieldAddr rfl At.lit fo32_6 rfl) ?_
            refine g_y (i := 6) (listed' := #[true, true, true, true, true, true, true, false]) rfl (by kernel_rfl) (by kernel_rfl) (by kernel_rfl) (by kernel_rfl) rfl rfl hg (allc (List.Mem.tail _ (List.Mem.head _)) alln) (fun m' H' hm' hX' => y_load_s rfl ts3 (RdS.mem (hX' _ (List.Mem.head _)) rfl)) ?_
            refine g_y (i := 7) (listed' := #[true, true, true, true, true, true, true, true]) rfl (by kernel_rfl) (by kernel_rfl) (by kernel_rfl) (by kernel_rfl) rfl rfl hg (allc (List.Mem.tail _ (List.Mem.head _)) alln) (fun m' H' hm' hX' => y_iop rfl rfl rfl) ?_
            refine g_done (by kernel_rfl) ?_
            clear hg hz_g hzx_g
            refine hK16 _ _ _ ?_
            clear hK16 K16
            refine c_cond rfl (fun hW => ?_) (fun hW => ?_)
            ·
              refine c_seq (fun K17 hK17 => ?_)
              refine c_region ?_
              refine r_y rfl rfl (y_assign rfl) ?_
              refine r_y rfl rfl (y_assign rfl) ?_
              refine r_nil ?_
              refine hK17 _ _ _ ?_
              clear hK17 K17
              refine c_ret ?_
              refine e_ret 2 hm (res_tmps rfl) ?_
              rw [applyR_add hTS (by simpa using hK1)]
              rw [addR_7 (List.any_eq_true.2 ⟨r.1, List.mem_of_getElem? hx1, by rw [hkk, Bool.true_and]; exact hW⟩)]
              exact ⟨zSl, [], rfl, fzR_nil _, rfl, fun _ => rfl, rfl⟩
            ·
              refine c_skip ?_
              refine hK13 _ _ _ ?_
              clear hK13 K13
              refine c_region ?_
              refine r_y rfl rfl (y_move rfl) ?_
              first | refine r_y rfl rfl (y_inc rfl (by omega)) ?_ | refine r_y rfl rfl (y_iop rfl rfl rfl) ?_
              refine r_y rfl rfl (y_assign rfl) ?_
              refine r_nil ?_
              exact ⟨k0 - 1, (i + 1), by omega, ⟨rfl, rfl, rfl, rfl, (congrArg (fun z => some (Value.bool z)) (by first | (rw [any_take_step hx1, hkk, Bool.or_true]; done) | (rw [any_take_step hx1, hkk, Bool.or_false]; done))), (congrArg (fun z => some (Value.bool z)) (by first | (rw [any_take_step hx1, hkk, Bool.not_true, Bool.false_and, Bool.or_false]; done) | (rw [any_take_step hx1, hO10, Bool.true_or]; done) | (rw [any_take_step hx1, hkk, hO10, Bool.false_or, Bool.not_false, Bool.true_and]; done))), rfl, trivial⟩, rfl, ⟨by omega, by rw [any_take_step hx1, hown, hkk, Bool.false_or]; first | rfl | (simpa using hW)⟩, hm, hz, hzx⟩
          ·
            have hkk : ruleKey r.1 (modRule x) = false := hKy
            refine c_draw ([.blk b1 (.cells (encRule (modRule x) sm).toArray 50)]) (by kernel_rfl) (fun hg => ?_)
            have hz_g := hz
            have hzx_g := hzx
            refine g_y (i := 0) (listed' := #[true, false, false, false, false, false, false, false, false, false]) rfl (by kernel_rfl) (by kernel_rfl) (by kernel_rfl) (by kernel_rfl) rfl rfl hg (allc (List.Mem.head _) alln) (fun m' H' hm' hX' => y_move rfl) ?_
            refine g_y (i := 1) (listed' := #[true, true, false, false, false, false, false, false, false, false]) rfl (by kernel_rfl) (by kernel_rfl) (by kernel_rfl) (by kernel_rfl) rfl rfl hg (allc (List.Mem.head _) alln) (fun m' H' hm' hX' => y_move rfl) ?_
            refine g_split (j := 1) rfl (fun hO10 => ?_) (fun hO10 => ?_)
            ·
              refine g_no (i := 2) (listed' := #[true, true, true, false, false, false, false, false, false, false]) rfl (by kernel_rfl) (by kernel_rfl) (by kernel_rfl) (by kernel_rfl) rfl rfl hO10 rfl hg (allc (List.Mem.head _) alln) ?_
              refine g_no (i := 3) (listed' := #[true, true, true, true, false, false, false, false, false, false]) rfl (by kernel_rfl) (by kernel_rfl) (by kernel_rfl) (by kernel_rfl) rfl rfl hO10 rfl hg (allc (List.Mem.head _) alln) ?_
              refine g_no (i := 4) (listed' := #[true, true, true, true, true, false, false, false, false, false]) rfl (by kernel_rfl) (by kernel_rfl) (by kernel_rfl) (by kernel_rfl) rfl rfl hO10 rfl hg (allc (List.Mem.head _) alln) ?_
              refine g_no (i := 5) (listed' := #[true, true, true, true, true, true, false, false, false, false]) rfl (by kernel_rfl) (by kernel_rfl) (by kernel_rfl) (by kernel_rfl) rfl rfl hO10 rfl hg (allc (List.Mem.head _) alln) ?_
              refine g_no (i := 6) (listed' := #[true, true, true, true, true, true, true, false, false, false]) rfl (by kernel_rfl) (by kernel_rfl) (by kernel_rfl) (by kernel_rfl) rfl rfl hO10 rfl hg (allc (List.Mem.head _) alln) ?_
              refine g_no (i := 7) (listed' := #[true, true, true, true, true, true, true, true, false, false]) rfl (by kernel_rfl) (by kernel_rfl) (by kernel_rfl) (by kernel_rfl) rfl rfl hO10 rfl hg (allc (List.Mem.head _) alln) ?_
              refine g_y (i := 8) (listed' := #[true, true, true, true, true, true, true, true, true, false]) rfl (by kernel_rfl) (by kernel_rfl) (by kernel_rfl) (by kernel_rfl) rfl rfl hg (allc (List.Mem.head _) alln) (fun m' H' hm' hX' => y_pickt rfl hO10 rfl) ?_
              refine g_y (i := 9) (listed' := #[true, true, true, true, true, true, true, true, true, true]) rfl (by kernel_rfl) (by kernel_rfl) (by kernel_rfl) (by kernel_rfl) rfl rfl hg (allc (List.Mem.head _) alln) (fun m' H' hm' hX' => y_assign rfl) ?_
              refine g_done (by kernel_rfl) ?_
              clear hg hz_g hzx_g
              refine hK13 _ _ _ ?_
              clear hK13 K13
              refine c_region ?_
              refine r_y rfl rfl (y_move rfl) ?_
              first | refine r_y rfl rfl (y_inc rfl (by omega)) ?_ | refine r_y rfl rfl (y_iop rfl rfl rfl) ?_
              refine r_y rfl rfl (y_assign rfl) ?_
              refine r_nil ?_
              exact ⟨k0 - 1, (i + 1), by omega, ⟨rfl, rfl, rfl, rfl, (congrArg (fun z => some (Value.bool z)) (by first | (rw [any_take_step hx1, hkk, Bool.or_true]; done) | (rw [any_take_step hx1, hkk, Bool.or_false]; done))), (congrArg (fun z => some (Value.bool z)) (by first | (rw [any_take_step hx1, hkk, Bool.not_true, Bool.false_and, Bool.or_false]; done) | (rw [any_take_step hx1, hO10, Bool.true_or]; done) | (rw [any_take_step hx1, hkk, hO10, Bool.false_or, Bool.not_false, Bool.true_and]; done))), rfl, trivial⟩, rfl, ⟨by omega, by rw [any_take_step hx1, hown, hkk, Bool.false_or]; first | rfl | (simpa using hW)⟩, hm, hz, hzx⟩
            ·
              refine g_yg (i := 2) (listed' := #[true, true, true, false, false, false, false, false, false, false]) rfl (by kernel_rfl) (by kernel_rfl) (by kernel_rfl) (by kernel_rfl) rfl rfl hO10 rfl hg (allc (List.Mem.head _) alln) (fun m' H' hm' hX' => y_move rfl) ?_
              refine g_yg (i := 3) (listed' := #[true, true, true, true, false, false, false, false, false, false]) rfl (by kernel_rfl) (by kernel_rfl) (by kernel_rfl) (by kernel_rfl) rfl rfl hO10 rfl hg (allc (List.Mem.head _) alln) (fun m' H' hm' hX' => y_move rfl) ?_
              refine g_yg (i := 4) (listed' := #[true, true, true, true, true, false, false, false, false, false]) rfl (by kernel_rfl) (by kernel_rfl) (by kernel_rfl) (by kernel_rfl) rfl rfl hO10 rfl hg (allc (List.Mem.head _) alln) (fun m' H' hm' hX' => y_indexAddr_slice rfl rfl tl33 hlt (At.fz (hz_g.fz.mono hm') hlt)) ?_
              refine g_yg (i := 5) (listed' := #[true, true, true, true, true, true, false, false, false, false]) rfl (by kernel_rfl) (by kernel_rfl) (by kernel_rfl) (by kernel_rfl) rfl rfl hO10 rfl hg (allc (List.Mem.head _) alln) (fun m' H' hm' hX' => y_load_a rfl ts50 (RdA.fz0 (hz_g.fz.mono hm') (map_get hx))) ?_
              refine g_yg (i := 6) (listed' := #[true, true, true, true, true, true, true, false, false, false]) rfl (by kernel_rfl) (by kernel_rfl) (by kernel_rfl) (by kernel_rfl) rfl rfl hO10 rfl hg (allc (List.Mem.head _) alln) (fun m' H' hm' hX' => y_load_a (cs := encRule (modRule x) sm) rfl ts50 (RdA.mem (hX' _ (List.Mem.head _)) rfl)) ?_
              refine g_sg (i := 7) (listed' := #[true, true, true, true, true, true, true, true, false, false]) rfl (by kernel_rfl) (by kernel_rfl) rfl rfl hO10 ?_
              refine s_call0 rfl Try.call86 rfl (rOverlap_w r.1 (modRule x) r.2 sm _ _) ?_
              rintro _ m2 _ hm2 ⟨rfl, rfl⟩
              replace hm := hm.trans hm2
              refine ⟨⟨hg.trans hm2, (allc (List.Mem.head _) alln)⟩, ?_⟩
              replace hg := hg.trans hm2
              replace hz := hz.mono hm2
              replace hzx := hzx.mono hm2
              clear hm2
              refine g_y (i := 8) (listed' := #[true, true, true, true, true, true, true, true, true, false]) rfl (by kernel_rfl) (by kernel_rfl) (by kernel_rfl) (by kernel_rfl) rfl rfl hg (allc (List.Mem.head _) alln) (fun m' H' hm' hX' => y_pickf rfl hO10 rfl) ?_
              refine g_y (i := 9) (listed' := #[true, true, true, true, true, true, true, true, true, true]) rfl (by kernel_rfl) (by kernel_rfl) (by kernel_rfl) (by kernel_rfl) rfl rfl hg (allc (List.Mem.head _) alln) (fun m' H' hm' hX' => y_assign rfl) ?_
              refine g_done (by kernel_rfl) ?_
              clear hg hz_g hzx_g
              refine hK13 _ _ _ ?_
              clear hK13 K13
              refine c_region ?_
              refine r_y rfl rfl (y_move rfl) ?_
              first | refine r_y rfl rfl (y_inc rfl (by omega)) ?_ | refine r_y rfl rfl (y_iop rfl rfl rfl) ?_
              refine r_y rfl rfl (y_assign rfl) ?_
              refine r_nil ?_
              exact ⟨k0 - 1, (i + 1), by omega, ⟨rfl, rfl, rfl, rfl, (congrArg (fun z => some (Value.bool z)) (by first | (rw [any_take_step hx1, hkk, Bool.or_true]; done) | (rw [any_take_step hx1, hkk, Bool.or_false]; done))), (congrArg (fun z => some (Value.bool z)) (by first | (rw [any_take_step hx1, hkk, Bool.not_true, Bool.false_and, Bool.or_false]; done) | (rw [any_take_step hx1, hO10, Bool.true_or]; done) | (rw [any_take_step hx1, hkk, hO10, Bool.false_or, Bool.not_false, Bool.true_and]; done))), rfl, trivial⟩, rfl, ⟨by omega, by rw [any_take_step hx1, hown, hkk, Bool.false_or]; first | rfl | (simpa using hW)⟩, hm, hz, hzx⟩
        ·
          refine c_exit ?_
          refine hK9 _ _ _ ?_
          clear hK11 K11 hK9 K9
          refine c_seq (fun K18 hK18 => ?_)
          refine c_seq (fun K19 hK19 => ?_)
          refine c_region ?_
          refine r_y rfl rfl (y_fieldAddr rfl At.lit fo32_7 rfl) ?_
          refine r_y rfl rfl (y_load_s rfl ts4 (RdS.blk (i := 1) rfl rfl)) ?_
          refine r_y rfl rfl (y_move rfl) ?_
          refine r_split (j := 2) rfl (fun hCk => ?_) (fun hCk => ?_)
          ·
            refine r_yg rfl hCk rfl (y_move rfl) ?_
            refine r_y rfl rfl (y_pickt rfl hCk rfl) ?_
            refine r_nil ?_
            refine hK19 _ _ _ ?_
            clear hK19 K19
            refine c_cond rfl (fun hOv => ?_) (fun hOv => ?_)
            ·
              refine c_seq (fun K20 hK20 => ?_)
              refine c_region ?_
              refine r_y rfl rfl (y_assign rfl) ?_
              refine r_y rfl rfl (y_assign rfl) ?_
              refine r_nil ?_
              refine hK20 _ _ _ ?_
              clear hK20 K20
              refine c_ret ?_
              refine e_ret 2 hm (res_tmps rfl) ?_
              rw [applyR_add hTS (by simpa using hK1)]
              have hin : i = s1.n := by simp at h0; omega
              rw [hin, hl, show l1.length = (l1.map (·.1)).length by simp, List.take_length] at hown
              rw [hin, hl, show l1.length = (l1.map (·.1)).length by simp, List.take_length] at hOv
              rw [addR_6 hown (by rw [hCk, hOv]; rfl)]
              exact ⟨zSl, [], rfl, fzR_nil _, rfl, fun _ => rfl, rfl⟩
            ·
              refine c_skip ?_
              refine hK18 _ _ _ ?_
              clear hK18 K18
              refine c_seq (fun K21 hK21 => ?_)
              refine c_seq (fun K22 hK22 => ?_)
              refine c_region ?_
              refine r_y rfl rfl (y_move rfl) ?_
              refine r_y rfl rfl (y_not rfl) ?_
              refine r_y rfl rfl (y_move rfl) ?_
              refine r_split (j := 2) rfl (fun hN => ?_) (fun hN => ?_)
              ·
                refine r_yg rfl hN rfl (y_move rfl) ?_
                refine r_yg rfl hN rfl (y_len tl33 rfl) ?_
                refine r_yg rfl hN rfl (y_move rfl) ?_
                refine r_yg rfl hN rfl (y_iop rfl rfl rfl) ?_
                refine r_y rfl rfl (y_pickt rfl hN rfl) ?_
                refine r_nil ?_
                refine hK22 _ _ _ ?_
                clear hK22 K22
                refine c_cond rfl (fun hF => ?_) (fun hF => ?_)
                ·
                  refine c_seq (fun K23 hK23 => ?_)
                  refine c_region ?_
                  refine r_y rfl rfl (y_assign rfl) ?_
                  refine r_y rfl rfl (y_assign rfl) ?_
                  refine r_nil ?_
                  refine hK23 _ _ _ ?_
                  clear hK23 K23
                  refine c_ret ?_
                  refine e_ret 2 hm (res_tmps rfl) ?_
                  rw [applyR_add hTS (by simpa using hK1)]
                  have hin : i = s1.n := by simp at h0; omega
                  rw [hin, hl, show l1.length = (l1.map (·.1)).length by simp, List.take_length] at hown
                  rw [hin, hl, show l1.length = (l1.map (·.1)).length by simp, List.take_length] at hN
                  rw [addR_3 hown (by first | (rw [hCk]; rfl) | (rw [hin, hl, show l1.length = (l1.map (·.1)).length by simp, List.take_length] at hOv; rw [hCk, hOv]; rfl)) (by rw [List.length_map, ← hl, hN, Bool.true_and]; exact hF)]
                  exact ⟨zSl, [], rfl, fzR_nil _, rfl, fun _ => rfl, rfl⟩
                ·
                  refine c_skip ?_
                  refine hK21 _ _ _ ?_
                  clear hK21 K21
                  refine c_seq (fun K24 hK24 => ?_)
                  refine c_draw ([.blk b1 (.cells (encRule (modRule x) sm).toArray 50)]) (by kernel_rfl) (fun hg => ?_)
                  have hz_g := hz
                  have hzx_g := hzx
                  refine g_y (i := 1) (listed' := #[false, true, false, false, false, false, false, false, false]) rfl (by kernel_rfl) (by kernel_rfl) (by kernel_rfl) (by kernel_rfl) rfl rfl hg (allc (List.Mem.head _) alln) (fun m' H' hm' hX' => y_move rfl) ?_
                  refine g_y (i := 3) (listed' := #[false, true, false, true, false, false, false, false, false]) rfl (by kernel_rfl) (by kernel_rfl) (by kernel_rfl) (by kernel_rfl) rfl rfl hg (allc (List.Mem.head _) alln) (fun m' H' hm' hX' => y_load_a (cs := encRule (modRule x) sm) rfl ts50 (RdA.mem (hX' _ (List.Mem.head _)) rfl)) ?_
                  refine g_each (rs := [0, 4]) (by kernel_rfl) (by simp) ⟨⟨_, rfl, rfl, ?_⟩, ⟨_, rfl, rfl, ?_⟩, trivial⟩
                  ·
                    refine s_buildSlice (cs := []) (e := 50) rfl rfl (fun _ => by kernel_rfl) (fun b2 => ?_)
                    refine ⟨⟨hg, (allc (List.Mem.tail _ (List.Mem.head _)) alln)⟩, ?_⟩
                    refine g_toVec (i := 0) (s := 32) (k := 0) [] rfl rfl (fun c h => by cases h) rfl (Nat.zero_le _) ?_
                    refine g_each (rs := [2, 4]) (by kernel_rfl) (by simp) ⟨⟨_, rfl, rfl, ?_⟩, ⟨_, rfl, rfl, ?_⟩, trivial⟩
                    ·
                      refine s_append rfl rfl rfl tl33 zo50 tb50 (i := 0) rfl (hz.src hok1) (by omega) (by unfold maxLen; omega) (fun a1 c1 => ?_)
                      refine ⟨⟨hg, (allc (List.Mem.tail _ (List.Mem.head _)) alln)⟩, ?_⟩
                      refine g_s (i := 4) (listed' := #[true, true, true, true, true, false, false, false, false]) rfl (by kernel_rfl) (by kernel_rfl) rfl ?_
                      refine s_buildSlice (cs := (encRule (modRule x) sm)) (e := 50) rfl rfl (fun _ => by kernel_rfl) (fun b3 => ?_)
                      refine ⟨⟨hg, (allc (List.Mem.tail _ (List.Mem.tail _ (List.Mem.head _))) alln)⟩, ?_⟩
                      refine g_s (i := 5) (listed' := #[true, true, true, true, true, true, false, false, false]) rfl (by kernel_rfl) (by kernel_rfl) rfl ?_
                      refine s_append rfl rfl rfl tl33 zo50 tb50 (i := 1) rfl (Src.one' (i := 0) rfl rfl (one_rule _ _)) (by omega) (by unfold maxLen; omega) (fun a2 c2 => ?_)
                      refine ⟨⟨hg, (allc (List.Mem.tail _ (List.Mem.tail _ (List.Mem.head _))) alln)⟩, ?_⟩
                      refine g_del 0 rfl ?_
                      refine g_freezeVec (i := 0) rfl rfl (fun m3 hm3 hzu hnu => ?_)
                      replace hm := hm.trans hm3
                      replace hg := hg.trans hm3
                      replace hz := hz.mono hm3
                      replace hzx := hzx.mono hm3
                      clear hm3
                      have hzt : FzR _ ⟨a2, 0 + s1.n + 1, c2⟩ (l1 ++ [(modRule x, sm)]) := fzr_of hzu (by simp) ((AllA.of hz).snoc hzx hokx)
                      refine g_s (i := 6) (listed' := #[true, true, true, true, true, true, true, false, false]) rfl (by kernel_rfl) (by kernel_rfl) rfl ?_
                      refine s_call0 rfl Try.call87 rfl (rSort_w ⟨a2, 0 + s1.n + 1, c2⟩ (l1 ++ [(modRule x, sm)]) _ _ hzt (by simp; omega)) ?_
                      rintro _ m2 _ hm2 ⟨s9, lr9, rfl, hz9, hlr9, hn9, rfl⟩
                      replace hm := hm.trans hm2
                      refine ⟨⟨hg.trans hm2, (allc (List.Mem.head _) alln)⟩, ?_⟩
                      replace hg := hg.trans hm2
                      replace hz := hz.mono hm2
                      replace hzx := hzx.mono hm2
                      replace hzu := hzu.mono hm2
                      clear hm2
                      refine g_y (i := 7) (listed' := #[true, true, true, true, true, true, true, true, false]) rfl (by kernel_rfl) (by kernel_rfl) (by kernel_rfl) (by kernel_rfl) rfl rfl hg (allc (List.Mem.head _) alln) (fun m' H' hm' hX' => y_assign rfl) ?_
                      refine g_y (i := 8) (listed' := #[true, true, true, true, true, true, true, true, true]) rfl (by kernel_rfl) (by kernel_rfl) (by kernel_rfl) (by kernel_rfl) rfl rfl hg (allc (List.Mem.head _) alln) (fun m' H' hm' hX' => y_assign rfl) ?_
                      refine g_done (by kernel_rfl) ?_
                      clear hg hz_g hzx_g
                      refine hK24 _ _ _ ?_
                      clear hK24 K24
                      refine c_ret ?_
                      refine e_ret 2 hm (res_tmps rfl) ?_
                      rw [applyR_add hTS (by simpa using hK1)]
                      have hin : i = s1.n := by simp at h0; omega
                      rw [hin, hl, show l1.length = (l1.map (·.1)).length by simp, List.take_length] at hown
                      rw [hin, hl, show l1.length = (l1.map (·.1)).length by simp, List.take_length] at hN
                      rw [addR_0 hown (by first | (rw [hCk]; rfl) | (rw [hin, hl, show l1.length = (l1.map (·.1)).length by simp, List.take_length] at hOv; rw [hCk, hOv]; rfl)) (by rw [List.length_map, ← hl]; first | (rw [hN, Bool.false_and]; done) | (rw [hN, Bool.true_and]; exact hF))]
                      exact ⟨s9, lr9, rfl, hz9, by rw [hlr9, List.map_append]; rfl, hn9, rfl⟩
                    ·
                      refine s_buildSlice (cs := (encRule (modRule x) sm)) (e := 50) rfl rfl (fun _ => by kernel_rfl) (fun b3 => ?_)
                      refine ⟨⟨hg, (allc (List.Mem.tail _ (List.Mem.tail _ (List.Mem.head _))) alln)⟩, ?_⟩
                      refine g_s (i := 2) (listed' := #[true, true, true, true, true, false, false, false, false]) rfl (by kernel_rfl) (by kernel_rfl) rfl ?_
                      refine s_append rfl rfl rfl tl33 zo50 tb50 (i := 1) rfl (hz.src hok1) (by omega) (by unfold maxLen; omega) (fun a1 c1 => ?_)
                      refine ⟨⟨hg, (allc (List.Mem.tail _ (List.Mem.tail _ (List.Mem.head _))) alln)⟩, ?_⟩
                      refine g_s (i := 5) (listed' := #[true, true, true, true, true, true, false, false, false]) rfl (by kernel_rfl) (by kernel_rfl) rfl ?_
                      refine s_append rfl rfl rfl tl33 zo50 tb50 (i := 1) rfl (Src.one' (i := 0) rfl rfl (one_rule _ _)) (by omega) (by unfold maxLen; omega) (fun a2 c2 => ?_)
                      refine ⟨⟨hg, (allc (List.Mem.tail _ (List.Mem.tail _ (List.Mem.head _))) alln)⟩, ?_⟩
                      refine g_del 0 rfl ?_
                      refine g_freezeVec (i := 0) rfl rfl (fun m3 hm3 hzu hnu => ?_)
                      replace hm := hm.trans hm3
                      replace hg := hg.trans hm3
                      replace hz := hz.mono hm3
                      replace hzx := hzx.mono hm3
                      clear hm3
                      have hzt : FzR _ ⟨a2, 0 + s1.n + 1, c2⟩ (l1 ++ [(modRule x, sm)]) := fzr_of hzu (by simp) ((AllA.of hz).snoc hzx hokx)
                      refine g_s (i := 6) (listed' := #[true, true, true, true, true, true, true, false, false]) rfl (by kernel_rfl) (by kernel_rfl) rfl ?_
                      refine s_call0 rfl Try.call87 rfl (rSort_w ⟨a2, 0 + s1.n + 1, c2⟩ (l1 ++ [(modRule x, sm)]) _ _ hzt (by simp; omega)) ?_
                      rintro _ m2 _ hm2 ⟨s9, lr9, rfl, hz9, hlr9, hn9, rfl⟩
                      replace hm := hm.trans hm2
                      refine ⟨⟨hg.trans hm2, (allc (List.Mem.head _) alln)⟩, ?_⟩
                      replace hg := hg.trans hm2
                      replace hz := hz.mono hm2
                      replace hzx := hzx.mono hm2
                      replace hzu := hzu.mono hm2
                      clear hm2
                      refine g_y (i := 7) (listed' := #[true, true, true, true, true, true, true, true, false]) rfl (by kernel_rfl) (by kernel_rfl) (by kernel_rfl) (by kernel_rfl) rfl rfl hg (allc (List.Mem.head _) alln) (fun m' H' hm' hX' => y_assign rfl) ?_
                      refine g_y (i := 8) (listed' := #[true, true, true, true, true, true, true, true, true]) rfl (by kernel_rfl) (by kernel_rfl) (by kernel_rfl) (by kernel_rfl) rfl rfl hg (allc (List.Mem.head _) alln) (fun m' H' hm' hX' => y_assign rfl) ?_
                      refine g_done (by kernel_rfl) ?_
                      clear hg hz_g hzx_g
                      refine hK24 _ _ _ ?_
                      clear hK24 K24
                      refine c_ret ?_
                      refine e_ret 2 hm (res_tmps rfl) ?_
                      rw [applyR_add hTS (by simpa using hK1)]
                      have hin : i = s1.n := by simp at h0; omega
                      rw [hin, hl, show l1.length = (l1.map (·.1)).length by simp, List.take_length] at hown
                      rw [hin, hl, show l1.length = (l1.map (·.1)).length by simp, List.take_length] at hN
                      rw [addR_0 hown (by first | (rw [hCk]; rfl) | (rw [hin, hl, show l1.length = (l1.map (·.1)).length by simp, List.take_length] at hOv; rw [hCk, hOv]; rfl)) (by rw [List.length_map, ← hl]; first | (rw [hN, Bool.false_and]; done) | (rw [hN, Bool.true_and]; exact hF))]
                      exact ⟨s9, lr9, rfl, hz9, by rw [hlr9, List.map_append]; rfl, hn9, rfl⟩
                  ·
                    refine s_buildSlice (cs := (encRule (modRule x) sm)) (e := 50) rfl rfl (fun _ => by kernel_rfl) (fun b2 => ?_)
                    refine ⟨⟨hg, (allc (List.Mem.tail _ (List.Mem.head _)) alln)⟩, ?_⟩
                    refine g_s (i := 0) (listed' := #[true, true, false, true, true, false, false, false, false]) rfl (by kernel_rfl) (by kernel_rfl) rfl ?_
                    refine s_buildSlice (cs := []) (e := 50) rfl rfl (fun _ => by kernel_rfl) (fun b3 => ?_)
                    refine ⟨⟨hg, (allc (List.Mem.tail _ (List.Mem.tail _ (List.Mem.head _))) alln)⟩, ?_⟩
                    refine g_toVec (i := 0) (s := 32) (k := 0) [] rfl rfl (fun c h => by cases h) rfl (Nat.zero_le _) ?_
                    refine g_s (i := 2) (listed' := #[true, true, true, true, true, false, false, false, false]) rfl (by kernel_rfl) (by kernel_rfl) rfl ?_
                    refine s_append rfl rfl rfl tl33 zo50 tb50 (i := 0) rfl (hz.src hok1) (by omega) (by unfold maxLen; omega) (fun a1 c1 => ?_)
                    refine ⟨⟨hg, (allc (List.Mem.tail _ (List.Mem.tail _ (List.Mem.head _))) alln)⟩, ?_⟩
                    refine g_s (i := 5) (listed' := #[true, true, true, true, true, true, false, false, false]) rfl (by kernel_rfl) (by kernel_rfl) rfl ?_
                    refine s_append rfl rfl rfl tl33 zo50 tb50 (i := 0) rfl (Src.one' (i := 1) rfl rfl (one_rule _ _)) (by omega) (by unfold maxLen; omega) (fun a2 c2 => ?_)
                    refine ⟨⟨hg, (allc (List.Mem.tail _ (List.Mem.tail _ (List.Mem.head _))) alln)⟩, ?_⟩
                    refine g_del 1 rfl ?_
                    refine g_freezeVec (i := 0) rfl rfl (fun m3 hm3 hzu hnu => ?_)
                    replace hm := hm.trans hm3
                    replace hg := hg.trans hm3
                    replace hz := hz.mono hm3
                    replace hzx := hzx.mono hm3
                    clear hm3
                    have hzt : FzR _ ⟨a2, 0 + s1.n + 1, c2⟩ (l1 ++ [(modRule x, sm)]) := fzr_of hzu (by simp) ((AllA.of hz).snoc hzx hokx)
                    refine g_s (i := 6) (listed' := #[true, true, true, true, true, true, true, false, false]) rfl (by kernel_rfl) (by kernel_rfl) rfl ?_
                    refine s_call0 rfl Try.call87 rfl (rSort_w ⟨a2, 0 + s1.n + 1, c2⟩ (l1 ++ [(modRule x, sm)]) _ _ hzt (by simp; omega)) ?_
                    rintro _ m2 _ hm2 ⟨s9, lr9, rfl, hz9, hlr9, hn9, rfl⟩
                    replace hm := hm.trans hm2
                    refine ⟨⟨hg.trans hm2, (allc (List.Mem.head _) alln)⟩, ?_⟩
                    replace hg := hg.trans hm2
                    replace hz := hz.mono hm2
                    replace hzx := hzx.mono hm2
                    replace hzu := hzu.mono hm2
                    clear hm2
                    refine g_y (i := 7) (listed' := #[true, true, true, true, true, true, true, true, false]) rfl (by kernel_rfl) (by kernel_rfl) (by kernel_rfl) (by kernel_rfl) rfl rfl hg (allc (List.Mem.head _) alln) (fun m' H' hm' hX' => y_assign rfl) ?_
                    refine g_y (i := 8) (listed' := #[true, true, true, true, true, true, true, true, true]) rfl (by kernel_rfl) (by kernel_rfl) (by kernel_rfl) (by kernel_rfl) rfl rfl hg (allc (List.Mem.head _) alln) (fun m' H' hm' hX' => y_assign rfl) ?_
                    refine g_done (by kernel_rfl) ?_
                    clear hg hz_g hzx_g
                    refine hK24 _ _ _ ?_
                    clear hK24 K24
                    refine c_ret ?_
                    refine e_ret 2 hm (res_tmps rfl) ?_
                    rw [applyR_add hTS (by simpa using hK1)]
                    have hin : i = s1.n := by simp at h0; omega
                    rw [hin, hl, show l1.length = (l1.map (·.1)).length by simp, List.take_length] at hown
                    rw [hin, hl, show l1.length = (l1.map (·.1)).length by simp, List.take_length] at hN
                    rw [addR_0 hown (by first | (rw [hCk]; rfl) | (rw [hin, hl, show l1.length = (l1.map (·.1)).length by simp, List.take_length] at hOv; rw [hCk, hOv]; rfl)) (by rw [List.length_map, ← hl]; first | (rw [hN, Bool.false_and]; done) | (rw [hN, Bool.true_and]; exact hF))]
                    exact ⟨s9, lr9, rfl, hz9, by rw [hlr9, List.map_append]; rfl, hn9, rfl⟩
              ·
                refine r_no' rfl rfl hN ?_
                refine r_no' rfl rfl hN ?_
                refine r_no' rfl rfl hN ?_
                refine r_no' rfl rfl hN ?_
                refine r_y rfl rfl (y_pickf rfl hN rfl) ?_
                refine r_nil ?_
                refine hK22 _ _ _ ?_
                clear hK22 K22
                refine c_iff rfl rfl ?_
                refine c_skip ?_
                refine hK21 _ _ _ ?_
                clear hK21 K21
                refine c_seq (fun K25 hK25 => ?_)
                refine c_draw ([.blk b1 (.cells (encRule (modRule x) sm).toArray 50)]) (by kernel_rfl) (fun hg => ?_)
                have hz_g := hz
                have hzx_g := hzx
                refine g_y (i := 1) (listed' := #[false, true, false, false, false, false, false, false, false]) rfl (by kernel_rfl) (by kernel_rfl) (by kernel_rfl) (by kernel_rfl) rfl rfl hg (allc (List.Mem.head _) alln) (fun m' H' hm' hX' => y_move rfl) ?_
                refine g_y (i := 3) (listed' := #[false, true, false, true, false, false, false, false, false]) rfl (by kernel_rfl) (by kernel_rfl) (by kernel_rfl) (by kernel_rfl) rfl rfl hg (allc (List.Mem.head _) alln) (fun m' H' hm' hX' => y_load_a (cs := encRule (modRule x) sm) rfl ts50 (RdA.mem (hX' _ (List.Mem.head _)) rfl)) ?_
                refine g_each (rs := [0, 4]) (by kernel_rfl) (by simp) ⟨⟨_, rfl, rfl, ?_⟩, ⟨_, rfl, rfl, ?_⟩, trivial⟩
                ·
                  refine s_buildSlice (cs := []) (e := 50) rfl rfl (fun _ => by kernel_rfl) (fun b4 => ?_)
                  refine ⟨⟨hg, (allc (List.Mem.tail _ (List.Mem.head _)) alln)⟩, ?_⟩
                  refine g_toVec (i := 0) (s := 32) (k := 0) [] rfl rfl (fun c h => by cases h) rfl (Nat.zero_le _) ?_
                  refine g_each (rs := [2, 4]) (by kernel_rfl) (by simp) ⟨⟨_, rfl, rfl, ?_⟩, ⟨_, rfl, rfl, ?_⟩, trivial⟩
                  ·
                    refine s_append rfl rfl rfl tl33 zo50 tb50 (i := 0) rfl (hz.src hok1) (by omega) (by unfold maxLen; omega) (fun a1 c1 => ?_)
                    refine ⟨⟨hg, (allc (List.Mem.tail _ (List.Mem.head _)) alln)⟩, ?_⟩
                    refine g_s (i := 4) (listed' := #[true, true, true, true, true, false, false, false, false]) rfl (by kernel_rfl) (by kernel_rfl) rfl ?_
                    refine s_buildSlice (cs := (encRule (modRule x) sm)) (e := 50) rfl rfl (fun _ => by kernel_rfl) (fun b5 => ?_)
                    refine ⟨⟨hg, (allc (List.Mem.tail _ (List.Mem.tail _ (List.Mem.head _))) alln)⟩, ?_⟩
                    refine g_s (i := 5) (listed' := #[true, true, true, true, true, true, false, false, false]) rfl (by kernel_rfl) (by kernel_rfl) rfl ?_
                    refine s_append rfl rfl rfl tl33 zo50 tb50 (i := 1) rfl (Src.one' (i := 0) rfl rfl (one_rule _ _)) (by omega) (by unfold maxLen; omega) (fun a2 c2 => ?_)
                    refine ⟨⟨hg, (allc (List.Mem.tail _ (List.Mem.tail _ (List.Mem.head _))) alln)⟩, ?_⟩
                    refine g_del 0 rfl ?_
                    refine g_freezeVec (i := 0) rfl rfl (fun m3 hm3 hzu hnu => ?_)
                    replace hm := hm.trans hm3
                    replace hg := hg.trans hm3
                    replace hz := hz.mono hm3
                    replace hzx := hzx.mono hm3
                    clear hm3
                    have hzt : FzR _ ⟨a2, 0 + s1.n + 1, c2⟩ (l1 ++ [(modRule x, sm)]) := fzr_of hzu (by simp) ((AllA.of hz).snoc hzx hokx)
                    refine g_s (i := 6) (listed' := #[true, true, true, true, true, true, true, false, false]) rfl (by kernel_rfl) (by kernel_rfl) rfl ?_
                    refine s_call0 rfl Try.call87 rfl (rSort_w ⟨a2, 0 + s1.n + 1, c2⟩ (l1 ++ [(modRule x, sm)]) _ _ hzt (by simp; omega)) ?_
                    rintro _ m2 _ hm2 ⟨s9, lr9, rfl, hz9, hlr9, hn9, rfl⟩
                    replace hm := hm.trans hm2
                    refine ⟨⟨hg.trans hm2, (allc (List.Mem.head _) alln)⟩, ?_⟩
                    replace hg := hg.trans hm2
                    replace hz := hz.mono hm2
                    replace hzx := hzx.mono hm2
                    replace hzu := hzu.mono hm2
                    clear hm2
                    refine g_y (i := 7) (listed' := #[true, true, true, true, true, true, true, true, false]) rfl (by kernel_rfl) (by kernel_rfl) (by kernel_rfl) (by kernel_rfl) rfl rfl hg (allc (List.Mem.head _) alln) (fun m' H' hm' hX' => y_assign rfl) ?_
                    refine g_y (i := 8) (listed' := #[true, true, true, true, true, true, true, true, true]) rfl (by kernel_rfl) (by kernel_rfl) (by kernel_rfl) (by kernel_rfl) rfl rfl hg (allc (List.Mem.head _) alln) (fun m' H' hm' hX' => y_assign rfl) ?_
                    refine g_done (by kernel_rfl) ?_
                    clear hg hz_g hzx_g
                    refine hK25 _ _ _ ?_
                    clear hK25 K25
                    refine c_ret ?_
                    refine e_ret 2 hm (res_tmps rfl) ?_
                    rw [applyR_add hTS (by simpa using hK1)]
                    have hin : i = s1.n := by simp at h0; omega
                    rw [hin, hl, show l1.length = (l1.map (·.1)).length by simp, List.take_length] at hown
                    rw [hin, hl, show l1.length = (l1.map (·.1)).length by simp, List.take_length] at hN
                    rw [addR_0 hown (by first | (rw [hCk]; rfl) | (rw [hin, hl, show l1.length = (l1.map (·.1)).length by simp, List.take_length] at hOv; rw [hCk, hOv]; rfl)) (by rw [List.length_map, ← hl]; first | (rw [hN, Bool.false_and]; done) | (rw [hN, Bool.true_and]; exact hF))]
                    exact ⟨s9, lr9, rfl, hz9, by rw [hlr9, List.map_append]; rfl, hn9, rfl⟩
                  ·
                    refine s_buildSlice (cs := (encRule (modRule x) sm)) (e := 50) rfl rfl (fun _ => by kernel_rfl) (fun b5 => ?_)
                    refine ⟨⟨hg, (allc (List.Mem.tail _ (List.Mem.tail _ (List.Mem.head _))) alln)⟩, ?_⟩
                    refine g_s (i := 2) (listed' := #[true, true, true, true, true, false, false, false, false]) rfl (by kernel_rfl) (by kernel_rfl) rfl ?_
                    refine s_append rfl rfl rfl tl33 zo50 tb50 (i := 1) rfl (hz.src hok1) (by omega) (by unfold maxLen; omega) (fun a1 c1 => ?_)
                    refine ⟨⟨hg, (allc (List.Mem.tail _ (List.Mem.tail _ (List.Mem.head _))) alln)⟩, ?_⟩
                    refine g_s (i := 5) (listed' := #[true, true, true, true, true, true, false, false, false]) rfl (by kernel_rfl) (by kernel_rfl) rfl ?_
                    refine s_append rfl rfl rfl tl33 zo50 tb50 (i := 1) rfl (Src.one' (i := 0) rfl rfl (one_rule _ _)) (by omega) (by unfold maxLen; omega) (fun a2 c2 => ?_)
                    refine ⟨⟨hg, (allc (List.Mem.tail _ (List.Mem.tail _ (List.Mem.head _))) alln)⟩, ?_⟩
                    refine g_del 0 rfl ?_
                    refine g_freezeVec (i := 0) rfl rfl (fun m3 hm3 hzu hnu => ?_)
                    replace hm := hm.trans hm3
                    replace hg := hg.trans hm3
                    replace hz := hz.mono hm3
                    replace hzx := hzx.mono hm3
                    clear hm3
                    have hzt : FzR _ ⟨a2, 0 + s1.n + 1, c2⟩ (l1 ++ [(modRule x, sm)]) := fzr_of hzu (by simp) ((AllA.of hz).snoc hzx hokx)
                    refine g_s (i := 6) (listed' := #[true, true, true, true, true, true, true, false, false]) rfl (by kernel_rfl) (by kernel_rfl) rfl ?_
                    refine s_call0 rfl Try.call87 rfl (rSort_w ⟨a2, 0 + s1.n + 1, c2⟩ (l1 ++ [(modRule x, sm)]) _ _ hzt (by simp; omega)) ?_
                    rintro _ m2 _ hm2 ⟨s9, lr9, rfl, hz9, hlr9, hn9, rfl⟩
                    replace hm := hm.trans hm2
                    refine ⟨⟨hg.trans hm2, (allc (List.Mem.head _) alln)⟩, ?_⟩
                    replace hg := hg.trans hm2
                    replace hz := hz.mono hm2
                    replace hzx := hzx.mono hm2
                    replace hzu := hzu.mono hm2
                    clear hm2
                    refine g_y (i := 7) (listed' := #[true, true, true, true, true, true, true, true, false]) rfl (by kernel_rfl) (by kernel_rfl) (by kernel_rfl) (by kernel_rfl) rfl rfl hg (allc (List.Mem.head _) alln) (fun m' H' hm' hX' => y_assign rfl) ?_
                    refine g_y (i := 8) (listed' := #[true, true, true, true, true, true, true, true, true]) rfl (by kernel_rfl) (by kernel_rfl) (by kernel_rfl) (by kernel_rfl) rfl rfl hg (allc (List.Mem.head _) alln) (fun m' H' hm' hX' => y_assign rfl) ?_
                    refine g_done (by kernel_rfl) ?_
                    clear hg hz_g hzx_g
                    refine hK25 _ _ _ ?_
                    clear hK25 K25
                    refine c_ret ?_
                    refine e_ret 2 hm (res_tmps rfl) ?_
                    rw [applyR_add hTS (by simpa using hK1)]
                    have hin : i = s1.n := by simp at h0; omega
                    rw [hin, hl, show l1.length = (l1.map (·.1)).length by simp, List.take_length] at hown
                    rw [hin, hl, show l1.length = (l1.map (·.1)).length by simp, List.take_length] at hN
                    rw [addR_0 hown (by first | (rw [hCk]; rfl) | (rw [hin, hl, show l1.length = (l1.map (·.1)).length by simp, List.take_length] at hOv; rw [hCk, hOv]; rfl)) (by rw [List.length_map, ← hl]; first | (rw [hN, Bool.false_and]; done) | (rw [hN, Bool.true_and]; exact hF))]
                    exact ⟨s9, lr9, rfl, hz9, by rw [hlr9, List.map_append]; rfl, hn9, rfl⟩
                ·
                  refine s_buildSlice (cs := (encRule (modRule x) sm)) (e := 50) rfl rfl (fun _ => by kernel_rfl) (fun b4 => ?_)
                  refine ⟨⟨hg, (allc (List.Mem.tail _ (List.Mem.head _)) alln)⟩, ?_⟩
                  refine g_s (i := 0) (listed' := #[true, true, false, true, true, false, false, false, false]) rfl (by kernel_rfl) (by kernel_rfl) rfl ?_
                  refine s_buildSlice (cs := []) (e := 50) rfl rfl (fun _ => by kernel_rfl) (fun b5 => ?_)
                  refine ⟨⟨hg, (allc (List.Mem.tail _ (List.Mem.tail _ (List.Mem.head _))) alln)⟩, ?_⟩
                  refine g_toVec (i := 0) (s := 32) (k := 0) [] rfl rfl (fun c h => by cases h) rfl (Nat.zero_le _) ?_
                  refine g_s (i := 2) (listed' := #[true, true, true, true, true, false, false, false, false]) rfl (by kernel_rfl) (by kernel_rfl) rfl ?_
                  refine s_append rfl rfl rfl tl33 zo50 tb50 (i := 0) rfl (hz.src hok1) (by omega) (by unfold maxLen; omega) (fun a1 c1 => ?_)
                  refine ⟨⟨hg, (allc (List.Mem.tail _ (List.Mem.tail _ (List.Mem.head _))) alln)⟩, ?_⟩
                  refine g_s (i := 5) (listed' := #[true, true, true, true, true, true, false, false, false]) rfl (by kernel_rfl) (by kernel_rfl) rfl ?_
                  refine s_append rfl rfl rfl tl33 zo50 tb50 (i := 0) rfl (Src.one' (i := 1) rfl rfl (one_rule _ _)) (by omega) (by unfold maxLen; omega) (fun a2 c2 => ?_)
                  refine ⟨⟨hg, (allc (List.Mem.tail _ (List.Mem.tail _ (List.Mem.head _))) alln)⟩, ?_⟩
                  refine g_del 1 rfl ?_
                  refine g_freezeVec (i := 0) rfl rfl (fun m3 hm3 hzu hnu => ?_)
                  replace hm := hm.trans hm3
                  replace hg := hg.trans hm3
                  replace hz := hz.mono hm3
                  replace hzx := hzx.mono hm3
                  clear hm3
                  have hzt : FzR _ ⟨a2, 0 + s1.n + 1, c2⟩ (l1 ++ [(modRule x, sm)]) := fzr_of hzu (by simp) ((AllA.of hz).snoc hzx hokx)
                  refine g_s (i := 6) (listed' := #[true, true, true, true, true, true, true, false, false]) rfl (by kernel_rfl) (by kernel_rfl) rfl ?_
                  refine s_call0 rfl Try.call87 rfl (rSort_w ⟨a2, 0 + s1.n + 1, c2⟩ (l1 ++ [(modRule x, sm)]) _ _ hzt (by simp; omega)) ?_
                  rintro _ m2 _ hm2 ⟨s9, lr9, rfl, hz9, hlr9, hn9, rfl⟩
                  replace hm := hm.trans hm2
                  refine ⟨⟨hg.trans hm2, (allc (List.Mem.head _) alln)⟩, ?_⟩
                  replace hg := hg.trans hm2
                  replace hz := hz.mono hm2
                  replace hzx := hzx.mono hm2
                  replace hzu := hzu.mono hm2
                  clear hm2
                  refine g_y (i := 7) (listed' := #[true, true, true, true, true, true, true, true, false]) rfl (by kernel_rfl) (by kernel_rfl) (by kernel_rfl) (by kernel_rfl) rfl rfl hg (allc (List.Mem.head _) alln) (fun m' H' hm' hX' => y_assign rfl) ?_
                  refine g_y (i := 8) (listed' := #[true, true, true, true, true, true, true, true, true]) rfl (by kernel_rfl) (by kernel_rfl) (by kernel_rfl) (by kernel_rfl) rfl rfl hg (allc (List.Mem.head _) alln) (fun m' H' hm' hX' => y_assign rfl) ?_
                  refine g_done (by kernel_rfl) ?_
                  clear hg hz_g hzx_g
                  refine hK25 _ _ _ ?_
                  clear hK25 K25
                  refine c_ret ?_
                  refine e_ret 2 hm (res_tmps rfl) ?_
                  rw [applyR_add hTS (by simpa using hK1)]
                  have hin : i = s1.n := by simp at h0; omega
                  rw [hin, hl, show l1.length = (l1.map (·.1)).length by simp, List.take_length] at hown
                  rw [hin, hl, show l1.length = (l1.map (·.1)).length by simp, List.take_length] at hN
                  rw [addR_0 hown (by first | (rw [hCk]; rfl) | (rw [hin, hl, show l1.length = (l1.map (·.1)).length by simp, List.take_length] at hOv; rw [hCk, hOv]; rfl)) (by rw [List.length_map, ← hl]; first | (rw [hN, Bool.false_and]; done) | (rw [hN, Bool.true_and]; exact hF))]
                  exact ⟨s9, lr9, rfl, hz9, by rw [hlr9, List.map_append]; rfl, hn9, rfl⟩
          ·
            refine r_no' rfl rfl hCk ?_
            refine r_y rfl rfl (y_pickf rfl hCk rfl) ?_
            refine r_nil ?_
            refine hK19 _ _ _ ?_
            clear hK19 K19
            refine c_iff rfl rfl ?_
            refine c_skip ?_
            refine hK18 _ _ _ ?_
            clear hK18 K18
            refine c_seq (fun K26 hK26 => ?_)
            refine c_seq (fun K27 hK27 => ?_)
            refine c_region ?_
            refine r_y rfl rfl (y_move rfl) ?_
            refine r_y rfl rfl (y_not rfl) ?_
            refine r_y rfl rfl (y_move rfl) ?_
            refine r_split (j := 2) rfl (fun hN => ?_) (fun hN => ?_)
            ·
              refine r_yg rfl hN rfl (y_move rfl) ?_
              refine r_yg rfl hN rfl (y_len tl33 rfl) ?_
              refine r_yg rfl hN rfl (y_move rfl) ?_
              refine r_yg rfl hN rfl (y_iop rfl rfl rfl) ?_
              refine r_y rfl rfl (y_pickt rfl hN rfl) ?_
              refine r_nil ?_
              refine hK27 _ _ _ ?_
              clear hK27 K27
              refine c_cond rfl (fun hF => ?_) (fun hF => ?_)
              ·
                refine c_seq (fun K28 hK28 => ?_)
                refine c_region ?_
                refine r_y rfl rfl (y_assign rfl) ?_
                refine r_y rfl rfl (y_assign rfl) ?_
                refine r_nil ?_
                refine hK28 _ _ _ ?_
                clear hK28 K28
                refine c_ret ?_
                refine e_ret 2 hm (res_tmps rfl) ?_
                rw [applyR_add hTS (by simpa using hK1)]
                have hin : i = s1.n := by simp at h0; omega
                rw [hin, hl, show l1.length = (l1.map (·.1)).length by simp, List.take_length] at hown
                rw [hin, hl, show l1.length = (l1.map (·.1)).length by simp, List.take_length] at hN
                rw [addR_3 hown (by first | (rw [hCk]; rfl) | (rw [hin, hl, show l1.length = (l1.map (·.1)).length by simp, List.take_length] at hOv; rw [hCk, hOv]; rfl)) (by rw [List.length_map, ← hl, hN, Bool.true_and]; exact hF)]
                exact ⟨zSl, [], rfl, fzR_nil _, rfl, fun _ => rfl, rfl⟩
              ·
                refine c_skip ?_
                refine hK26 _ _ _ ?_
                clear hK26 K26
                refine c_seq (fun K29 hK29 => ?_)
                refine c_draw ([.blk b1 (.cells (encRule (modRule x) sm).toArray 50)]) (by kernel_rfl) (fun hg => ?_)
                have hz_g := hz
                have hzx_g := hzx
                refine g_y (i := 1) (listed' := #[false, true, false, false, false, false, false, false, false]) rfl (by kernel_rfl) (by kernel_rfl) (by kernel_rfl) (by kernel_rfl) rfl rfl hg (allc (List.Mem.head _) alln) (fun m' H' hm' hX' => y_move rfl) ?_
                refine g_y (i := 3) (listed' := #[false, true, false, true, false, false, false, false, false]) rfl (by kernel_rfl) (by kernel_rfl) (by kernel_rfl) (by kernel_rfl) rfl rfl hg (allc (List.Mem.head _) alln) (fun m' H' hm' hX' => y_load_a (cs := encRule (modRule x) sm) rfl ts50 (RdA.mem (hX' _ (List.Mem.head _)) rfl)) ?_
                refine g_each (rs := [0, 4]) (by kernel_rfl) (by simp) ⟨⟨_, rfl, rfl, ?_⟩, ⟨_, rfl, rfl, ?_⟩, trivial⟩
                ·
                  refine s_buildSlice (cs := []) (e := 50) rfl rfl (fun _ => by kernel_rfl) (fun b6 => ?_)
                  refine ⟨⟨hg, (allc (List.Mem.tail _ (List.Mem.head _)) alln)⟩, ?_⟩
                  refine g_toVec (i := 0) (s := 32) (k := 0) [] rfl rfl (fun c h => by cases h) rfl (Nat.zero_le _) ?_
                  refine g_each (rs := [2, 4]) (by kernel_rfl) (by simp) ⟨⟨_, rfl, rfl, ?_⟩, ⟨_, rfl, rfl, ?_⟩, trivial⟩
                  ·
                    refine s_append rfl rfl rfl tl33 zo50 tb50 (i := 0) rfl (hz.src hok1) (by omega) (by unfold maxLen; omega) (fun a1 c1 => ?_)
                    refine ⟨⟨hg, (allc (List.Mem.tail _ (List.Mem.head _)) alln)⟩, ?_⟩
                    refine g_s (i := 4) (listed' := #[true, true, true, true, true, false, false, false, false]) rfl (by kernel_rfl) (by kernel_rfl) rfl ?_
                    refine s_buildSlice (cs := (encRule (modRule x) sm)) (e := 50) rfl rfl (fun _ => by kernel_rfl) (fun b7 => ?_)
                    refine ⟨⟨hg, (allc (List.Mem.tail _ (List.Mem.tail _ (List.Mem.head _))) alln)⟩, ?_⟩
                    refine g_s (i := 5) (listed' := #[true, true, true, true, true, true, false, false, false]) rfl (by kernel_rfl) (by kernel_rfl) rfl ?_
                    refine s_append rfl rfl rfl tl33 zo50 tb50 (i := 1) rfl (Src.one' (i := 0) rfl rfl (one_rule _ _)) (by omega) (by unfold maxLen; omega) (fun a2 c2 => ?_)
                    refine ⟨⟨hg, (allc (List.Mem.tail _ (List.Mem.tail _ (List.Mem.head _))) alln)⟩, ?_⟩
                    refine g_del 0 rfl ?_
                    refine g_freezeVec (i := 0) rfl rfl (fun m3 hm3 hzu hnu => ?_)
                    replace hm := hm.trans hm3
                    replace hg := hg.trans hm3
                    replace hz := hz.mono hm3
                    replace hzx := hzx.mono hm3
                    clear hm3
                    have hzt : FzR _ ⟨a2, 0 + s1.n + 1, c2⟩ (l1 ++ [(modRule x, sm)]) := fzr_of hzu (by simp) ((AllA.of hz).snoc hzx hokx)
                    refine g_s (i := 6) (listed' := #[true, true, true, true, true, true, true, false, false]) rfl (by kernel_rfl) (by kernel_rfl) rfl ?_
                    refine s_call0 rfl Try.call87 rfl (rSort_w ⟨a2, 0 + s1.n + 1, c2⟩ (l1 ++ [(modRule x, sm)]) _ _ hzt (by simp; omega)) ?_
                    rintro _ m2 _ hm2 ⟨s9, lr9, rfl, hz9, hlr9, hn9, rfl⟩
                    replace hm := hm.trans hm2
                    refine ⟨⟨hg.trans hm2, (allc (List.Mem.head _) alln)⟩, ?_⟩
                    replace hg := hg.trans hm2
                    replace hz := hz.mono hm2
                    replace hzx := hzx.mono hm2
                    replace hzu := hzu.mono hm2
                    clear hm2
                    refine g_y (i := 7) (listed' := #[true, true, true, true, true, true, true, true, false]) rfl (by kernel_rfl) (by kernel_rfl) (by kernel_rfl) (by kernel_rfl) rfl rfl hg (allc (List.Mem.head _) alln) (fun m' H' hm' hX' => y_assign rfl) ?_
                    refine g_y (i := 8) (listed' := #[true, true, true, true, true, true, true, true, true]) rfl (by kernel_rfl) (by kernel_rfl) (by kernel_rfl) (by kernel_rfl) rfl rfl hg (allc (List.Mem.head _) alln) (fun m' H' hm' hX' => y_assign rfl) ?_
                    refine g_done (by kernel_rfl) ?_
                    clear hg hz_g hzx_g
                    refine hK29 _ _ _ ?_
                    clear hK29 K29
                    refine c_ret ?_
                    refine e_ret 2 hm (res_tmps rfl) ?_
                    rw [applyR_add hTS (by simpa using hK1)]
                    have hin : i = s1.n := by simp at h0; omega
                    rw [hin, hl, show l1.length = (l1.map (·.1)).length by simp, List.take_length] at hown
                    rw [hin, hl, show l1.length = (l1.map (·.1)).length by simp, List.take_length] at hN
                    rw [addR_0 hown (by first | (rw [hCk]; rfl) | (rw [hin, hl, show l1.length = (l1.map (·.1)).length by simp, List.take_length] at hOv; rw [hCk, hOv]; rfl)) (by rw [List.length_map, ← hl]; first | (rw [hN, Bool.false_and]; done) | (rw [hN, Bool.true_and]; exact hF))]
                    exact ⟨s9, lr9, rfl, hz9, by rw [hlr9, List.map_append]; rfl, hn9, rfl⟩
                  ·
                    refine s_buildSlice (cs := (encRule (modRule x) sm)) (e := 50) rfl rfl (fun _ => by kernel_rfl) (fun b7 => ?_)
                    refine ⟨⟨hg, (allc (List.Mem.tail _ (List.Mem.tail _ (List.Mem.head _))) alln)⟩, ?_⟩
                    refine g_s (i := 2) (listed' := #[true, true, true, true, true, false, false, false, false]) rfl (by kernel_rfl) (by kernel_rfl) rfl ?_
                    refine s_append rfl rfl rfl tl33 zo50 tb50 (i := 1) rfl (hz.src hok1) (by omega) (by unfold maxLen; omega) (fun a1 c1 => ?_)
                    refine ⟨⟨hg, (allc (List.Mem.tail _ (List.Mem.tail _ (List.Mem.head _))) alln)⟩, ?_⟩
                    refine g_s (i := 5) (listed' := #[true, true, true, true, true, true, false, false, false]) rfl (by kernel_rfl) (by kernel_rfl) rfl ?_
                    refine s_append rfl rfl rfl tl33 zo50 tb50 (i := 1) rfl (Src.one' (i := 0) rfl rfl (one_rule _ _)) (by omega) (by unfold maxLen; omega) (fun a2 c2 => ?_)
                    refine ⟨⟨hg, (allc (List.Mem.tail _ (List.Mem.tail _ (List.Mem.head _))) alln)⟩, ?_⟩
                    refine g_del 0 rfl ?_
                    refine g_freezeVec (i := 0) rfl rfl (fun m3 hm3 hzu hnu => ?_)
                    replace hm := hm.trans hm3
                    replace hg := hg.trans hm3
                    replace hz := hz.mono hm3
                    replace hzx := hzx.mono hm3
                    clear hm3
                    have hzt : FzR _ ⟨a2, 0 + s1.n + 1, c2⟩ (l1 ++ [(modRule x, sm)]) := fzr_of hzu (by simp) ((AllA.of hz).snoc hzx hokx)
                    refine g_s (i := 6) (listed' := #[true, true, true, true, true, true, true, false, false]) rfl (by kernel_rfl) (by kernel_rfl) rfl ?_
                    refine s_call0 rfl Try.call87 rfl (rSort_w ⟨a2, 0 + s1.n + 1, c2⟩ (l1 ++ [(modRule x, sm)]) _ _ hzt (by simp; omega)) ?_
                    rintro _ m2 _ hm2 ⟨s9, lr9, rfl, hz9, hlr9, hn9, rfl⟩
                    replace hm := hm.trans hm2
                    refine ⟨⟨hg.trans hm2, (allc (List.Mem.head _) alln)⟩, ?_⟩
                    replace hg := hg.trans hm2
                    replace hz := hz.mono hm2
                    replace hzx := hzx.mono hm2
                    replace hzu := hzu.mono hm2
                    clear hm2
                    refine g_y (i := 7) (listed' := #[true, true, true, true, true, true, true, true, false]) rfl (by kernel_rfl) (by kernel_rfl) (by kernel_rfl) (by kernel_rfl) rfl rfl hg (allc (List.Mem.head _) alln) (fun m' H' hm' hX' => y_assign rfl) ?_
                    refine g_y (i := 8) (listed' := #[true, true, true, true, true, true, true, true, true]) rfl (by kernel_rfl) (by kernel_rfl) (by kernel_rfl) (by kernel_rfl) rfl rfl hg (allc (List.Mem.head _) alln) (fun m' H' hm' hX' => y_assign rfl) ?_
                    refine g_done (by kernel_rfl) ?_
                    clear hg hz_g hzx_g
                    refine hK29 _ _ _ ?_
                    clear hK29 K29
                    refine c_ret ?_
                    refine e_ret 2 hm (res_tmps rfl) ?_
                    rw [applyR_add hTS (by simpa using hK1)]
                    have hin : i = s1.n := by simp at h0; omega
                    rw [hin, hl, show l1.length = (l1.map (·.1)).length by simp, List.take_length] at hown
                    rw [hin, hl, show l1.length = (l1.map (·.1)).length by simp, List.take_length] at hN
                    rw [addR_0 hown (by first | (rw [hCk]; rfl) | (rw [hin, hl, show l1.length = (l1.map (·.1)).length by simp, List.take_length] at hOv; rw [hCk, hOv]; rfl)) (by rw [List.length_map, ← hl]; first | (rw [hN, Bool.false_and]; done) | (rw [hN, Bool.true_and]; exact hF))]
                    exact ⟨s9, lr9, rfl, hz9, by rw [hlr9, List.map_append]; rfl, hn9, rfl⟩
                ·
                  refine s_buildSlice (cs := (encRule (modRule x) sm)) (e := 50) rfl rfl (fun _ => by kernel_rfl) (fun b6 => ?_)
                  refine ⟨⟨hg, (allc (List.Mem.tail _ (List.Mem.head _)) alln)⟩, ?_⟩
                  refine g_s (i := 0) (listed' := #[true, true, false, true, true, false, false, false, false]) rfl (by kernel_rfl) (by kernel_rfl) rfl ?_
                  refine s_buildSlice (cs := []) (e := 50) rfl rfl (fun _ => by kernel_rfl) (fun b7 => ?_)
                  refine ⟨⟨hg, (allc (List.Mem.tail _ (List.Mem.tail _ (List.Mem.head _))) alln)⟩, ?_⟩
                  refine g_toVec (i := 0) (s := 32) (k := 0) [] rfl rfl (fun c h => by cases h) rfl (Nat.zero_le _) ?_
                  refine g_s (i := 2) (listed' := #[true, true, true, true, true, false, false, false, false]) rfl (by kernel_rfl) (by kernel_rfl) rfl ?_
                  refine s_append rfl rfl rfl tl33 zo50 tb50 (i := 0) rfl (hz.src hok1) (by omega) (by unfold maxLen; omega) (fun a1 c1 => ?_)
                  refine ⟨⟨hg, (allc (List.Mem.tail _ (List.Mem.tail _ (List.Mem.head _))) alln)⟩, ?_⟩
                  refine g_s (i := 5) (listed' := #[true, true, true, true, true, true, false, false, false]) rfl (by kernel_rfl) (by kernel_rfl) rfl ?_
                  refine s_append rfl rfl rfl tl33 zo50 tb50 (i := 0) rfl (Src.one' (i := 1) rfl rfl (one_rule _ _)) (by omega) (by unfold maxLen; omega) (fun a2 c2 => ?_)
                  refine ⟨⟨hg, (allc (List.Mem.tail _ (List.Mem.tail _ (List.Mem.head _))) alln)⟩, ?_⟩
                  refine g_del 1 rfl ?_
                  refine g_freezeVec (i := 0) rfl rfl (fun m3 hm3 hzu hnu => ?_)
                  replace hm := hm.trans hm3
                  replace hg := hg.trans hm3
                  replace hz := hz.mono hm3
                  replace hzx := hzx.mono hm3
                  clear hm3
                  have hzt : FzR _ ⟨a2, 0 + s1.n + 1, c2⟩ (l1 ++ [(modRule x, sm)]) := fzr_of hzu (by simp) ((AllA.of hz).snoc hzx hokx)
                  refine g_s (i := 6) (listed' := #[true, true, true, true, true, true, true, false, false]) rfl (by kernel_rfl) (by kernel_rfl) rfl ?_
                  refine s_call0 rfl Try.call87 rfl (rSort_w ⟨a2, 0 + s1.n + 1, c2⟩ (l1 ++ [(modRule x, sm)]) _ _ hzt (by simp; omega)) ?_
                  rintro _ m2 _ hm2 ⟨s9, lr9, rfl, hz9, hlr9, hn9, rfl⟩
                  replace hm := hm.trans hm2
                  refine ⟨⟨hg.trans hm2, (allc (List.Mem.head _) alln)⟩, ?_⟩
                  replace hg := hg.trans hm2
                  replace hz := hz.mono hm2
                  replace hzx := hzx.mono hm2
                  replace hzu := hzu.mono hm2
                  clear hm2
                  refine g_y (i := 7) (listed' := #[true, true, true, true, true, true, true, true, false]) rfl (by kernel_rfl) (by kernel_rfl) (by kernel_rfl) (by kernel_rfl) rfl rfl hg (allc (List.Mem.head _) alln) (fun m' H' hm' hX' => y_assign rfl) ?_
                  refine g_y (i := 8) (listed' := #[true, true, true, true, true, true, true, true, true]) rfl (by kernel_rfl) (by kernel_rfl) (by kernel_rfl) (by kernel_rfl) rfl rfl hg (allc (List.Mem.head _) alln) (fun m' H' hm' hX' => y_assign rfl) ?_
                  refine g_done (by kernel_rfl) ?_
                  clear hg hz_g hzx_g
                  refine hK29 _ _ _ ?_
                  clear hK29 K29
                  refine c_ret ?_
                  refine e_ret 2 hm (res_tmps rfl) ?_
                  rw [applyR_add hTS (by simpa using hK1)]
                  have hin : i = s1.n := by simp at h0; omega
                  rw [hin, hl, show l1.length = (l1.map (·.1)).length by simp, List.take_length] at hown
                  rw [hin, hl, show l1.length = (l1.map (·.1)).length by simp, List.take_length] at hN
                  rw [addR_0 hown (by first | (rw [hCk]; rfl) | (rw [hin, hl, show l1.length = (l1.map (·.1)).length by simp, List.take_length] at hOv; rw [hCk, hOv]; rfl)) (by rw [List.length_map, ← hl]; first | (rw [hN, Bool.false_and]; done) | (rw [hN, Bool.true_and]; exact hF))]
                  exact ⟨s9, lr9, rfl, hz9, by rw [hlr9, List.map_append]; rfl, hn9, rfl⟩
            ·
              refine r_no' rfl rfl hN ?_
              refine r_no' rfl rfl hN ?_
              refine r_no' rfl rfl hN ?_
              refine r_no' rfl rfl hN ?_
              refine r_y rfl rfl (y_pickf rfl hN rfl) ?_
              refine r_nil ?_
              refine hK27 _ _ _ ?_
              clear hK27 K27
              refine c_iff rfl rfl ?_
              refine c_skip ?_
              refine hK26 _ _ _ ?_
              clear hK26 K26
              refine c_seq (fun K30 hK30 => ?_)
              refine c_draw ([.blk b1 (.cells (encRule (modRule x) sm).toArray 50)]) (by kernel_rfl) (fun hg => ?_)
              have hz_g := hz
              have hzx_g := hzx
              refine g_y (i := 1) (listed' := #[false, true, false, false, false, false, false, false, false]) rfl (by kernel_rfl) (by kernel_rfl) (by kernel_rfl) (by kernel_rfl) rfl rfl hg (allc (List.Mem.head _) alln) (fun m' H' hm' hX' => y_move rfl) ?_
              refine g_y (i := 3) (listed' := #[false, true, false, true, false, false, false, false, false]) rfl (by kernel_rfl) (by kernel_rfl) (by kernel_rfl) (by kernel_rfl) rfl rfl hg (allc (List.Mem.head _) alln) (fun m' H' hm' hX' => y_load_a (cs := encRule (modRule x) sm) rfl ts50 (RdA.mem (hX' _ (List.Mem.head _)) rfl)) ?_
              refine g_each (rs := [0, 4]) (by kernel_rfl) (by simp) ⟨⟨_, rfl, rfl, ?_⟩, ⟨_, rfl, rfl, ?_⟩, trivial⟩
              ·
                refine s_buildSlice (cs := []) (e := 50) rfl rfl (fun _ => by kernel_rfl) (fun b8 => ?_)
                refine ⟨⟨hg, (allc (List.Mem.tail _ (List.Mem.head _)) alln)⟩, ?_⟩
                refine g_toVec (i := 0) (s := 32) (k := 0) [] rfl rfl (fun c h => by cases h) rfl (Nat.zero_le _) ?_
                refine g_each (rs := [2, 4]) (by kernel_rfl) (by simp) ⟨⟨_, rfl, rfl, ?_⟩, ⟨_, rfl, rfl, ?_⟩, trivial⟩
                ·
                  refine s_append rfl rfl rfl tl33 zo50 tb50 (i := 0) rfl (hz.src hok1) (by omega) (by unfold maxLen; omega) (fun a1 c1 => ?_)
                  refine ⟨⟨hg, (allc (List.Mem.tail _ (List.Mem.head _)) alln)⟩, ?_⟩
                  refine g_s (i := 4) (listed' := #[true, true, true, true, true, false, false, false, false]) rfl (by kernel_rfl) (by kernel_rfl) rfl ?_
                  refine s_buildSlice (cs := (encRule (modRule x) sm)) (e := 50) rfl rfl (fun _ => by kernel_rfl) (fun b9 => ?_)
                  refine ⟨⟨hg, (allc (List.Mem.tail _ (List.Mem.tail _ (List.Mem.head _))) alln)⟩, ?_⟩
                  refine g_s (i := 5) (listed' := #[true, true, true, true, true, true, false, false, false]) rfl (by kernel_rfl) (by kernel_rfl) rfl ?_
                  refine s_append rfl rfl rfl tl33 zo50 tb50 (i := 1) rfl (Src.one' (i := 0) rfl rfl (one_rule _ _)) (by omega) (by unfold maxLen; omega) (fun a2 c2 => ?_)
                  refine ⟨⟨hg, (allc (List.Mem.tail _ (List.Mem.tail _ (List.Mem.head _))) alln)⟩, ?_⟩
                  refine g_del 0 rfl ?_
                  refine g_freezeVec (i := 0) rfl rfl (fun m3 hm3 hzu hnu => ?_)
                  replace hm := hm.trans hm3
                  replace hg := hg.trans hm3
                  replace hz := hz.mono hm3
                  replace hzx := hzx.mono hm3
                  clear hm3
                  have hzt : FzR _ ⟨a2, 0 + s1.n + 1, c2⟩ (l1 ++ [(modRule x, sm)]) := fzr_of hzu (by simp) ((AllA.of hz).snoc hzx hokx)
                  refine g_s (i := 6) (listed' := #[true, true, true, true, true, true, true, false, false]) rfl (by kernel_rfl) (by kernel_rfl) rfl ?_
                  refine s_call0 rfl Try.call87 rfl (rSort_w ⟨a2, 0 + s1.n + 1, c2⟩ (l1 ++ [(modRule x, sm)]) _ _ hzt (by simp; omega)) ?_
                  rintro _ m2 _ hm2 ⟨s9, lr9, rfl, hz9, hlr9, hn9, rfl⟩
                  replace hm := hm.trans hm2
                  refine ⟨⟨hg.trans hm2, (allc (List.Mem.head _) alln)⟩, ?_⟩
                  replace hg := hg.trans hm2
                  replace hz := hz.mono hm2
                  replace hzx := hzx.mono hm2
                  replace hzu := hzu.mono hm2
                  clear hm2
                  refine g_y (i := 7) (listed' := #[true, true, true, true, true, true, true, true, false]) rfl (by kernel_rfl) (by kernel_rfl) (by kernel_rfl) (by kernel_rfl) rfl rfl hg (allc (List.Mem.head _) alln) (fun m' H' hm' hX' => y_assign rfl) ?_
                  refine g_y (i := 8) (listed' := #[true, true, true, true, true, true, true, true, true]) rfl (by kernel_rfl) (by kernel_rfl) (by kernel_rfl) (by kernel_rfl) rfl rfl hg (allc (List.Mem.head _) alln) (fun m' H' hm' hX' => y_assign rfl) ?_
                  refine g_done (by kernel_rfl) ?_
                  clear hg hz_g hzx_g
                  refine hK30 _ _ _ ?_
                  clear hK30 K30
                  refine c_ret ?_
                  refine e_ret 2 hm (res_tmps rfl) ?_
                  rw [applyR_add hTS (by simpa using hK1)]
                  have hin : i = s1.n := by simp at h0; omega
                  rw [hin, hl, show l1.length = (l1.map (·.1)).length by simp, List.take_length] at hown
                  rw [hin, hl, show l1.length = (l1.map (·.1)).length by simp, List.take_length] at hN
                  rw [addR_0 hown (by first | (rw [hCk]; rfl) | (rw [hin, hl, show l1.length = (l1.map (·.1)).length by simp, List.take_length] at hOv; rw [hCk, hOv]; rfl)) (by rw [List.length_map, ← hl]; first | (rw [hN, Bool.false_and]; done) | (rw [hN, Bool.true_and]; exact hF))]
                  exact ⟨s9, lr9, rfl, hz9, by rw [hlr9, List.map_append]; rfl, hn9, rfl⟩
                ·
                  refine s_buildSlice (cs := (encRule (modRule x) sm)) (e := 50) rfl rfl (fun _ => by kernel_rfl) (fun b9 => ?_)
                  refine ⟨⟨hg, (allc (List.Mem.tail _ (List.Mem.tail _ (List.Mem.head _))) alln)⟩, ?_⟩
                  refine g_s (i := 2) (listed' := #[true, true, true, true, true, false, false, false, false]) rfl (by kernel_rfl) (by kernel_rfl) rfl ?_
                  refine s_append rfl rfl rfl tl33 zo50 tb50 (i := 1) rfl (hz.src hok1) (by omega) (by unfold maxLen; omega) (fun a1 c1 => ?_)
                  refine ⟨⟨hg, (allc (List.Mem.tail _ (List.Mem.tail _ (List.Mem.head _))) alln)⟩, ?_⟩
                  refine g_s (i := 5) (listed' := #[true, true, true, true, true, true, false, false, false]) rfl (by kernel_rfl) (by kernel_rfl) rfl ?_
                  refine s_append rfl rfl rfl tl33 zo50 tb50 (i := 1) rfl (Src.one' (i := 0) rfl rfl (one_rule _ _)) (by omega) (by unfold maxLen; omega) (fun a2 c2 => ?_)
                  refine ⟨⟨hg, (allc (List.Mem.tail _ (List.Mem.tail _ (List.Mem.head _))) alln)⟩, ?_⟩
                  refine g_del 0 rfl ?_
                  refine g_freezeVec (i := 0) rfl rfl (fun m3 hm3 hzu hnu => ?_)
                  replace hm := hm.trans hm3
                  replace hg := hg.trans hm3
                  replace hz := hz.mono hm3
                  replace hzx := hzx.mono hm3
                  clear hm3
                  have hzt : FzR _ ⟨a2, 0 + s1.n + 1, c2⟩ (l1 ++ [(modRule x, sm)]) := fzr_of hzu (by simp) ((AllA.of hz).snoc hzx hokx)
                  refine g_s (i := 6) (listed' := #[true, true, true, true, true, true, true, false, false]) rfl (by kernel_rfl) (by kernel_rfl) rfl ?_
                  refine s_call0 rfl Try.call87 rfl (rSort_w ⟨a2, 0 + s1.n + 1, c2⟩ (l1 ++ [(modRule x, sm)]) _ _ hzt (by simp; omega)) ?_
                  rintro _ m2 _ hm2 ⟨s9, lr9, rfl, hz9, hlr9, hn9, rfl⟩
                  replace hm := hm.trans hm2
                  refine ⟨⟨hg.trans hm2, (allc (List.Mem.head _) alln)⟩, ?_⟩
                  replace hg := hg.trans hm2
                  replace hz := hz.mono hm2
                  replace hzx := hzx.mono hm2
                  replace hzu := hzu.mono hm2
                  clear hm2
                  refine g_y (i := 7) (listed' := #[true, true, true, true, true, true, true, true, false]) rfl (by kernel_rfl) (by kernel_rfl) (by kernel_rfl) (by kernel_rfl) rfl rfl hg (allc (List.Mem.head _) alln) (fun m' H' hm' hX' => y_assign rfl) ?_
                  refine g_y (i := 8) (listed' := #[true, true, true, true, true, true, true, true, true]) rfl (by kernel_rfl) (by kernel_rfl) (by kernel_rfl) (by kernel_rfl) rfl rfl hg (allc (List.Mem.head _) alln) (fun m' H' hm' hX' => y_assign rfl) ?_
                  refine g_done (by kernel_rfl) ?_
                  clear hg hz_g hzx_g
                  refine hK30 _ _ _ ?_
                  clear hK30 K30
                  refine c_ret ?_
                  refine e_ret 2 hm (res_tmps rfl) ?_
                  rw [applyR_add hTS (by simpa using hK1)]
                  have hin : i = s1.n := by simp at h0; omega
                  rw [hin, hl, show l1.length = (l1.map (·.1)).length by simp, List.take_length] at hown
                  rw [hin, hl, show l1.length = (l1.map (·.1)).length by simp, List.take_length] at hN
                  rw [addR_0 hown (by first | (rw [hCk]; rfl) | (rw [hin, hl, show l1.length = (l1.map (·.1)).length by simp, List.take_length] at hOv; rw [hCk, hOv]; rfl)) (by rw [List.length_map, ← hl]; first | (rw [hN, Bool.false_and]; done) | (rw [hN, Bool.true_and]; exact hF))]
                  exact ⟨s9, lr9, rfl, hz9, by rw [hlr9, List.map_append]; rfl, hn9, rfl⟩
              ·
                refine s_buildSlice (cs := (encRule (modRule x) sm)) (e := 50) rfl rfl (fun _ => by kernel_rfl) (fun b8 => ?_)
                refine ⟨⟨hg, (allc (List.Mem.tail _ (List.Mem.head _)) alln)⟩, ?_⟩
                refine g_s (i := 0) (listed' := #[true, true, false, true, true, false, false, false, false]) rfl (by kernel_rfl) (by kernel_rfl) rfl ?_
                refine s_buildSlice (cs := []) (e := 50) rfl rfl (fun _ => by kernel_rfl) (fun b9 => ?_)
                refine ⟨⟨hg, (allc (List.Mem.tail _ (List.Mem.tail _ (List.Mem.head _))) alln)⟩, ?_⟩
                refine g_toVec (i := 0) (s := 32) (k := 0) [] rfl rfl (fun c h => by cases h) rfl (Nat.zero_le _) ?_
                refine g_s (i := 2) (listed' := #[true, true, true, true, true, false, false, false, false]) rfl (by kernel_rfl) (by kernel_rfl) rfl ?_
                refine s_append rfl rfl rfl tl33 zo50 tb50 (i := 0) rfl (hz.src hok1) (by omega) (by unfold maxLen; omega) (fun a1 c1 => ?_)
                refine ⟨⟨hg, (allc (List.Mem.tail _ (List.Mem.tail _ (List.Mem.head _))) alln)⟩, ?_⟩
                refine g_s (i := 5) (listed' := #[true, true, true, true, true, true, false, false, false]) rfl (by kernel_rfl) (by kernel_rfl) rfl ?_
                refine s_append rfl rfl rfl tl33 zo50 tb50 (i := 0) rfl (Src.one' (i := 1) rfl rfl (one_rule _ _)) (by omega) (by unfold maxLen; omega) (fun a2 c2 => ?_)
                refine ⟨⟨hg, (allc (List.Mem.tail _ (List.Mem.tail _ (List.Mem.head _))) alln)⟩, ?_⟩
                refine g_del 1 rfl ?_
                refine g_freezeVec (i := 0) rfl rfl (fun m3 hm3 hzu hnu => ?_)
                replace hm := hm.trans hm3
                replace hg := hg.trans hm3
                replace hz := hz.mono hm3
                replace hzx := hzx.mono hm3
                clear hm3
                have hzt : FzR _ ⟨a2, 0 + s1.n + 1, c2⟩ (l1 ++ [(modRule x, sm)]) := fzr_of hzu (by simp) ((AllA.of hz).snoc hzx hokx)
                refine g_s (i := 6) (listed' := #[true, true, true, true, true, true, true, false, false]) rfl (by kernel_rfl) (by kernel_rfl) rfl ?_
                refine s_call0 rfl Try.call87 rfl (rSort_w ⟨a2, 0 + s1.n + 1, c2⟩ (l1 ++ [(modRule x, sm)]) _ _ hzt (by simp; omega)) ?_
                rintro _ m2 _ hm2 ⟨s9, lr9, rfl, hz9, hlr9, hn9, rfl⟩
                replace hm := hm.trans hm2
                refine ⟨⟨hg.trans hm2, (allc (List.Mem.head _) alln)⟩, ?_⟩
                replace hg := hg.trans hm2
                replace hz := hz.mono hm2
                replace hzx := hzx.mono hm2
                replace hzu := hzu.mono hm2
                clear hm2
                refine g_y (i := 7) (listed' := #[true, true, true, true, true, true, true, true, false]) rfl (by kernel_rfl) (by kernel_rfl) (by kernel_rfl) (by kernel_rfl) rfl rfl hg (allc (List.Mem.head _) alln) (fun m' H' hm' hX' => y_assign rfl) ?_
                refine g_y (i := 8) (listed' := #[true, true, true, true, true, true, true, true, true]) rfl (by kernel_rfl) (by kernel_rfl) (by kernel_rfl) (by kernel_rfl) rfl rfl hg (allc (List.Mem.head _) alln) (fun m' H' hm' hX' => y_assign rfl) ?_
                refine g_done (by kernel_rfl) ?_
                clear hg hz_g hzx_g
                refine hK30 _ _ _ ?_
                clear hK30 K30
                refine c_ret ?_
                refine e_ret 2 hm (res_tmps rfl) ?_
                rw [applyR_add hTS (by simpa using hK1)]
                have hin : i = s1.n := by simp at h0; omega
                rw [hin, hl, show l1.length = (l1.map (·.1)).length by simp, List.take_length] at hown
                rw [hin, hl, show l1.length = (l1.map (·.1)).length by simp, List.take_length] at hN
                rw [addR_0 hown (by first | (rw [hCk]; rfl) | (rw [hin, hl, show l1.length = (l1.map (·.1)).length by simp, List.take_length] at hOv; rw [hCk, hOv]; rfl)) (by rw [List.length_map, ← hl]; first | (rw [hN, Bool.false_and]; done) | (rw [hN, Bool.true_and]; exact hF))]
                exact ⟨s9, lr9, rfl, hz9, by rw [hlr9, List.map_append]; rfl, hn9, rfl⟩
      ·
        refine c_skip ?_
        refine hK5 _ _ _ ?_
        clear hK5 K5
        refine c_seq (fun K31 hK31 => ?_)
        refine c_region ?_
        refine r_nilvec 50 32 ?_
        refine r_y rfl rfl (y_assign rfl) ?_
        refine r_nil ?_
        refine hK31 _ _ _ ?_
        clear hK31 K31
        refine c_seq (fun K32 hK32 => ?_)
        refine c_region ?_
        refine r_y rfl rfl (y_move rfl) ?_
        refine r_y rfl rfl (y_load_a (cs := encMod x sm) rfl ts32 (RdA.blk (i := 1) rfl rfl)) ?_
        refine r_s rfl ?_
        refine s_call0 rfl Try.call88 rfl (rTouched_w s1 l1 x sm _ _ hz (by omega) hzx) ?_
        rintro _ m2 _ hm2 ⟨st, rfl, ht, hnt, rfl⟩
        replace hm := hm.trans hm2
        replace hz := hz.mono hm2
        replace hzx := hzx.mono hm2
        clear hm2
        refine r_y rfl rfl (y_assign rfl) ?_
        refine r_nil ?_
        refine hK32 _ _ _ ?_
        clear hK32 K32
        refine c_seq (fun K33 hK33 => ?_)
        refine c_seq (fun K34 hK34 => ?_)
        refine c_region ?_
        refine r_y rfl rfl (y_assign rfl) ?_
        refine r_nil ?_
        refine hK34 _ _ _ ?_
        clear hK34 K34
        refine c_block ?_
        rw [← hl] at ht
        have hall : AllA m2 [] := fun p hp => (by cases hp)
        refine c_loopx (α := Nat × List (RuleD × Sl) × Sl × Sl) (fun vv => match vv with | (i, lr, sv, st) => [(0, s1.v), (4, .pointer (some ⟨b0, 0, none⟩)), (12, sv.v), (13, st.v), (14, .int .i64 (i : Nat))]) (fun vv => match vv with | (i, lr, sv, st) => .vec sv.a sv.n sv.cap 50 32 (lr.map fun p => encRule p.1 p.2) :: .blk b0 (.cells (encMod x sm).toArray 32) :: H) (fun k1 vv m1 => match vv with | (i, lr, sv, st) => (i + k1 = s1.n ∧ sv.n ≤ i ∧ lr.map (·.1) = ((l1.map (·.1)).take i).filterMap (modR1 x)) ∧ m.le m1 ∧ (FzR m1 s1 l1) ∧ (FzA m1 sm x.acts) ∧ (FzN m1 st (remT (pAt (touchQ x) (l1.map (·.1))) i s1.n)) ∧ (AllA m1 lr)) (s1.n) (0, [], zSl, st) ⟨rfl, rfl, rfl, rfl, rfl, trivial⟩ rfl ⟨⟨by omega, Nat.le_refl _, rfl⟩, hm, hz, hzx, ht, hall⟩ ?_
        clear hm hz hzx ht hall
        rintro k1 ⟨i, lr, sv, st⟩ m1 ⟨hi1, hm, hz, hzx, ht, hall⟩
        obtain ⟨hi, hsn, hro⟩ := hi1
        refine c_seq (fun K35 hK35 => ?_)
        refine c_seq (fun K36 hK36 => ?_)
        refine c_region ?_
        refine r_y rfl rfl (y_move rfl) ?_
        refine r_y rfl rfl (y_move rfl) ?_
        refine r_y rfl rfl (y_len tl33 rfl) ?_
        refine r_y rfl rfl (y_iop rfl rfl rfl) ?_
        refine r_nil ?_
        refine hK36 _ _ _ ?_
        clear hK36 K36
        refine c_cond rfl (fun hL => ?_) (fun hL => ?_)
        ·
          have hlt : i < s1.n := by simp at hL; omega
          obtain ⟨r, hx⟩ := get_of_lt (l := l1) (k := i) (by omega)
          have hx1 : (l1.map (·.1))[i]? = some r.1 := map_get hx
          have hpt : (pAt (touchQ x) (l1.map (·.1))) i = modTouches x r.1 := by rw [pAt_some hx1]; unfold touchQ; rw [hms, Bool.and_true]
          have hT := filterMap_take_succ (f := modR1 x) hx1
          have htl := Fz.lenN ht
          refine c_skip ?_
          refine hK35 _ _ _ ?_
          clear hK35 K35
          refine c_seq (fun K37 hK37 => ?_)
          refine c_block ?_
          refine c_seq (fun K38 hK38 => ?_)
          refine c_region ?_
          refine r_y rfl rfl (y_move rfl) ?_
          refine r_y rfl rfl (y_move rfl) ?_
          refine r_y rfl rfl (y_indexAddr_slice rfl rfl tl33 hlt (At.fz hz.fz hlt)) ?_
          refine r_y rfl rfl (y_load_a rfl ts50 (RdA.fz0 hz.fz (map_get hx))) ?_
          refine r_s rfl ?_
          refine s_alloc rfl tz50 (fun b1 => ?_)
          refine r_s rfl ?_
          refine s_store (us := encRule r.1 r.2) rfl rfl rfl ts50 rfl rfl (one_rule _ _) (i := 0) rfl rfl ?_
          refine r_nil ?_
          refine hK38 _ _ _ ?_
          clear hK38 K38
          refine c_seq (fun K39 hK39 => ?_)
          refine c_seq (fun K40 hK40 => ?_)
          refine c_region ?_
          refine r_y rfl rfl (y_move rfl) ?_
          refine r_y rfl rfl (y_len tl77 rfl) ?_
          refine r_y rfl rfl (y_iop rfl rfl rfl) ?_
          refine r_y rfl rfl (y_move rfl) ?_
          refine r_split (j := 3) rfl (fun hG => ?_) (fun hG => ?_)
          ·
            refine r_yg rfl hG rfl (y_move rfl) ?_
            obtain ⟨k, hk0⟩ := get_of_lt (l := remT (pAt (touchQ x) (l1.map (·.1))) i s1.n) (k := 0) (by simp at hG; omega)
            have hg0 : 0 < st.n := by simp at hG; omega
            refine r_yg rfl hG rfl (y_indexAddr_slice (k := 0) rfl rfl tl77 hg0 (At.fz ht hg0)) ?_
            refine r_yg rfl hG rfl (y_load_s rfl ts3 (RdS.fz (k := 0) (j := 0) ht (rowsN_get hk0) rfl)) ?_
            refine r_yg rfl hG rfl (y_move rfl) ?_
            refine r_yg rfl hG rfl (y_iop rfl rfl rfl) ?_
            refine r_y rfl rfl (y_pickt rfl hG rfl) ?_
            refine r_nil ?_
            refine hK40 _ _ _ ?_
            clear hK40 K40
            refine c_cond rfl (fun hTt => ?_) (fun hTt => ?_)
            ·
              have hpi : (pAt (touchQ x) (l1.map (·.1))) i = true := by rw [rem_head hlt hk0]; exact decide_eq_true (by simpa using hTt)
              have hmt : modTouches x r.1 = true := hpt ▸ hpi
              refine c_seq (fun K41 hK41 => ?_)
              refine c_region ?_
              refine r_y rfl rfl (y_move rfl) ?_
              refine r_y rfl rfl (y_slice rfl tl77 (bnd_some (kd := .i64) (x := 1) rfl) bnd_none hg0 ht.le) ?_
              refine r_y rfl rfl (y_assign rfl) ?_
              refine r_nil ?_
              refine hK41 _ _ _ ?_
              clear hK41 K41
              refine c_seq (fun K42 hK42 => ?_)
              refine c_seq (fun K43 hK43 => ?_)
              refine c_region ?_
              refine r_y rfl rfl (y_fieldAddr rfl At.lit fo32_0 rfl) ?_
              refine r_y rfl rfl (y_load_s rfl ts3 (RdS.blk (i := 2) rfl rfl)) ?_
              refine r_y rfl rfl (y_iop rfl rfl rfl) ?_
              refine r_y rfl rfl (y_move rfl) ?_
              refine r_split (j := 3) rfl (fun hK3 => ?_) (fun hK3 => ?_)
              ·
                refine r_no' rfl rfl hK3 ?_
                refine r_no' rfl rfl hK3 ?_
                refine r_no' rfl rfl hK3 ?_
                refine r_y rfl rfl (y_pickt rfl hK3 rfl) ?_
                refine r_nil ?_
                refine hK43 _ _ _ ?_
                clear hK43 K43
                refine c_ift rfl rfl ?_
                refine c_exit ?_
                refine hK37 _ _ _ ?_
                clear hK42 K42 hK39 K39 hK37 K37
                refine c_region ?_
                refine r_del 0 rfl ?_
                have h8 := FzN.from ht (lo := 1) (by omega)
                rw [rem_t hlt hpi] at h8
                replace ht := h8
                clear h8
                refine r_y rfl rfl (y_move rfl) ?_
                first | refine r_y rfl rfl (y_inc rfl (by omega)) ?_ | refine r_y rfl rfl (y_iop rfl rfl rfl) ?_
                refine r_y rfl rfl (y_assign rfl) ?_
                refine r_nil ?_
                exact ⟨k1 - 1, (i + 1, lr, sv, st.cut 1 st.n 1), by omega, ⟨rfl, rfl, rfl, rfl, rfl, trivial⟩, (by first | rfl | (simp only [List.map_append]; rfl)), ⟨by omega, by omega, by rw [hT, modR1_del hmt (by first | (simp at hK3; exact .inl hK3) | (simp at hK4; exact .inr hK4)), hro, List.append_nil]⟩, hm, hz, hzx, ht, hall⟩
              ·
                refine r_yg rfl hK3 rfl (y_fieldAddr rfl At.lit fo32_0 rfl) ?_
                refine r_yg rfl hK3 rfl (y_load_s rfl ts3 (RdS.blk (i := 2) rfl rfl)) ?_
                refine r_yg rfl hK3 rfl (y_iop rfl rfl rfl) ?_
                refine r_y rfl rfl (y_pickf rfl hK3 rfl) ?_
                refine r_nil ?_
                refine hK43 _ _ _ ?_
                clear hK43 K43
                refine c_cond rfl (fun hK4 => ?_) (fun hK4 => ?_)
                ·
                  refine c_exit ?_
                  refine hK37 _ _ _ ?_
                  clear hK42 K42 hK39 K39 hK37 K37
                  refine c_region ?_
                  refine r_del 0 rfl ?_
                  have h8 := FzN.from ht (lo := 1) (by omega)
                  rw [rem_t hlt hpi] at h8
                  replace ht := h8
                  clear h8
                  refine r_y rfl rfl (y_move rfl) ?_
                  first | refine r_y rfl rfl (y_inc rfl (by omega)) ?_ | refine r_y rfl rfl (y_iop rfl rfl rfl) ?_
                  refine r_y rfl rfl (y_assign rfl) ?_
                  refine r_nil ?_
                  exact ⟨k1 - 1, (i + 1, lr, sv, st.cut 1 st.n 1), by omega, ⟨rfl, rfl, rfl, rfl, rfl, trivial⟩, (by first | rfl | (simp only [List.map_append]; rfl)), ⟨by omega, by omega, by rw [hT, modR1_del hmt (by first | (simp at hK3; exact .inl hK3) | (simp at hK4; exact .inr hK4)), hro, List.append_nil]⟩, hm, hz, hzx, ht, hall⟩
                ·
                  refine c_skip ?_
                  refine hK42 _ _ _ ?_
                  clear hK42 K42
                  refine c_region ?_
                  refine r_y rfl rfl (y_fieldAddr rfl At.lit fo32_3 rfl) ?_
                  refine r_y rfl rfl (y_load_s rfl ts30 (RdS.blk (i := 2) rfl rfl)) ?_
                  refine r_y rfl rfl (y_fieldAddr rfl At.lit fo50_2 rfl) ?_
                  refine r_s rfl ?_
                  refine s_store rfl rfl rfl ts30 rfl rfl (by simp [Value.oneCell', wv, Sl.v]) (i := 0) rfl rfl ?_
                  refine r_nil ?_
                  refine hK39 _ _ _ ?_
                  clear hK39 K39
                  refine c_region ?_
                  refine r_y rfl rfl (y_move rfl) ?_
                  refine r_y rfl rfl (y_load_a (cs := encRule { r.1 with acts := x.acts } sm) rfl ts50 (RdA.blk (i := 0) rfl rfl)) ?_
                  refine r_s rfl ?_
                  refine s_buildSlice (cs := (encRule { r.1 with acts := x.acts } sm)) (e := 50) rfl rfl (fun _ => by kernel_rfl) (fun b2 => ?_)
                  refine r_s rfl ?_
                  refine s_append rfl rfl rfl tl33 zo50 tb50 (i := 2) rfl (Src.one' (i := 0) rfl rfl (one_rule _ _)) (by omega) (by unfold maxLen; omega) (fun a1 c1 => ?_)
                  refine r_del 0 rfl ?_
                  refine r_y rfl rfl (y_assign rfl) ?_
                  refine r_nil ?_
                  refine hK37 _ _ _ ?_
                  clear hK37 K37
                  refine c_region ?_
                  refine r_del 0 rfl ?_
                  have h8 := FzN.from ht (lo := 1) (by omega)
                  rw [rem_t hlt hpi] at h8
                  replace ht := h8
                  clear h8
                  replace hall := hall.snoc (x := { r.1 with acts := x.acts }) (s := sm) hzx hokx
                  refine r_y rfl rfl (y_move rfl) ?_
                  first | refine r_y rfl rfl (y_inc rfl (by omega)) ?_ | refine r_y rfl rfl (y_iop rfl rfl rfl) ?_
                  refine r_y rfl rfl (y_assign rfl) ?_
                  refine r_nil ?_
                  exact ⟨k1 - 1, (i + 1, lr ++ [({ r.1 with acts := x.acts }, sm)], ⟨a1, sv.n + 1, c1⟩, st.cut 1 st.n 1), by omega, ⟨rfl, rfl, rfl, rfl, rfl, trivial⟩, (by first | rfl | (simp only [List.map_append]; rfl)), ⟨by omega, by show sv.n + 1 ≤ i + 1; omega, by rw [List.map_append, hT, modR1_set hmt (by simp at hK3 hK4; omega), hro]; rfl⟩, hm, hz, hzx, ht, hall⟩
            ·
              refine c_skip ?_
              refine hK39 _ _ _ ?_
              clear hK39 K39
              refine c_region ?_
              have hpi : (pAt (touchQ x) (l1.map (·.1))) i = false := by first | (rw [rem_head hlt hk0]; exact decide_eq_false (by simpa using hTt)) | exact rem_nil hlt (by simp at hG; omega)
              have hmt : modTouches x r.1 = false := hpt ▸ hpi
              refine r_y rfl rfl (y_move rfl) ?_
              refine r_y rfl rfl (y_load_a (cs := encRule r.1 r.2) rfl ts50 (RdA.blk (i := 0) rfl rfl)) ?_
              refine r_s rfl ?_
              refine s_buildSlice (cs := (encRule r.1 r.2)) (e := 50) rfl rfl (fun _ => by kernel_rfl) (fun b2 => ?_)
              refine r_s rfl ?_
              refine s_append rfl rfl rfl tl33 zo50 tb50 (i := 2) rfl (Src.one' (i := 0) rfl rfl (one_rule _ _)) (by omega) (by unfold maxLen; omega) (fun a1 c1 => ?_)
              refine r_del 0 rfl ?_
              refine r_y rfl rfl (y_assign rfl) ?_
              refine r_nil ?_
              refine hK37 _ _ _ ?_
              clear hK37 K37
              refine c_region ?_
              refine r_del 0 rfl ?_
              rw [rem_f hlt hpi] at ht
              replace hall := hall.snoc (x := r.1) (s := r.2) (hz.acts r (List.mem_of_getElem? hx)).1 (hz.acts r (List.mem_of_getElem? hx)).2
              refine r_y rfl rfl (y_move rfl) ?_
              first | refine r_y rfl rfl (y_inc rfl (by omega)) ?_ | refine r_y rfl rfl (y_iop rfl rfl rfl) ?_
              refine r_y rfl rfl (y_assign rfl) ?_
              refine r_nil ?_
              exact ⟨k1 - 1, (i + 1, lr ++ [r], ⟨a1, sv.n + 1, c1⟩, st), by omega, ⟨rfl, rfl, rfl, rfl, rfl, trivial⟩, (by first | rfl | (simp only [List.map_append]; rfl)), ⟨by omega, by show sv.n + 1 ≤ i + 1; omega, by rw [List.map_append, hT, modR1_keep hmt, hro]; rfl⟩, hm, hz, hzx, ht, hall⟩
          ·
            refine r_no' rfl rfl hG ?_
            refine r_no' rfl rfl hG ?_
            refine r_no' rfl rfl hG ?_
            refine r_no' rfl rfl hG ?_
            refine r_no' rfl rfl hG ?_
            refine r_y rfl rfl (y_pickf rfl hG rfl) ?_
            refine r_nil ?_
            refine hK40 _ _ _ ?_
            clear hK40 K40
            refine c_iff rfl rfl ?_
            refine c_skip ?_
            refine hK39 _ _ _ ?_
            clear hK39 K39
            refine c_region ?_
            have hpi : (pAt (touchQ x) (l1.map (·.1))) i = false := by first | (rw [rem_head hlt hk0]; exact decide_eq_false (by simpa using hTt)) | exact rem_nil hlt (by simp at hG; omega)
            have hmt : modTouches x r.1 = false := hpt ▸ hpi
            refine r_y rfl rfl (y_move rfl) ?_
            refine r_y rfl rfl (y_load_a (cs := encRule r.1 r.2) rfl ts50 (RdA.blk (i := 0) rfl rfl)) ?_
            refine r_s rfl ?_
            refine s_buildSlice (cs := (encRule r.1 r.2)) (e := 50) rfl rfl (fun _ => by kernel_rfl) (fun b3 => ?_)
            refine r_s rfl ?_
            refine s_append rfl rfl rfl tl33 zo50 tb50 (i := 2) rfl (Src.one' (i := 0) rfl rfl (one_rule _ _)) (by omega) (by unfold maxLen; omega) (fun a1 c1 => ?_)
            refine r_del 0 rfl ?_
            refine r_y rfl rfl (y_assign rfl) ?_
            refine r_nil ?_
            refine hK37 _ _ _ ?_
            clear hK37 K37
            refine c_region ?_
            refine r_del 0 rfl ?_
            rw [rem_f hlt hpi] at ht
            replace hall := hall.snoc (x := r.1) (s := r.2) (hz.acts r (List.mem_of_getElem? hx)).1 (hz.acts r (List.mem_of_getElem? hx)).2
            refine r_y rfl rfl (y_move rfl) ?_
            first | refine r_y rfl rfl (y_inc rfl (by omega)) ?_ | refine r_y rfl rfl (y_iop rfl rfl rfl) ?_
            refine r_y rfl rfl (y_assign rfl) ?_
            refine r_nil ?_
            exact ⟨k1 - 1, (i + 1, lr ++ [r], ⟨a1, sv.n + 1, c1⟩, st), by omega, ⟨rfl, rfl, rfl, rfl, rfl, trivial⟩, (by first | rfl | (simp only [List.map_append]; rfl)), ⟨by omega, by show sv.n + 1 ≤ i + 1; omega, by rw [List.map_append, hT, modR1_keep hmt, hro]; rfl⟩, hm, hz, hzx, ht, hall⟩
        ·
          refine c_exit ?_
          refine hK33 _ _ _ ?_
          clear hK35 K35 hK33 K33
          refine c_seq (fun K44 hK44 => ?_)
          refine c_region ?_
          refine r_freezeVec (i := 0) rfl rfl (fun m3 hm3 hzv hno => ?_)
          replace hm := hm.trans hm3
          replace hz := hz.mono hm3
          replace hzx := hzx.mono hm3
          replace ht := ht.mono hm3
          replace hall := hall.mono hm3
          clear hm3
          have hzo : FzR _ ⟨sv.a, sv.n, sv.cap⟩ lr := fzr_of hzv rfl hall
          refine r_y rfl rfl (y_move rfl) ?_
          refine r_y rfl rfl (y_assign rfl) ?_
          refine r_y rfl rfl (y_assign rfl) ?_
          refine r_nil ?_
          refine hK44 _ _ _ ?_
          clear hK44 K44
          refine c_ret ?_
          refine e_ret 1 hm (res_tmps rfl) ?_
          rw [applyR_map hTS (by simpa using hK1)]
          have hin : i = s1.n := by simp at hL; omega
          refine ⟨sv, lr, rfl, hzo, ?_, hno, rfl⟩
          rw [hro, List.take_of_length_le (by simp; omega)]
end Go.Aw
namespace Go.Aw
open Go Go.Proofs
theorem applyF_w (s1 : Sl) (l1 : List (RuleD × Sl)) (x : ModD) (sm : Sl) (room : Int) (m : Snap) (H : Hp) (hz : FzR m s1 l1) (hfa : ∀ p ∈ l1, p.1.acts.length ≤ 4398046511103) (hfit : l1.length < 1000000) (hzx : FzA m sm x.acts) (hokx : sm.ok) (hfx : x.acts.length ≤ 4398046511103) : Fn Try.prog 33 [s1.v, .agg (encMod x sm).toArray, .int .i64 room] m H (fun v m' H' => ∃ (s : Sl) (lr : List (RuleD × Sl)), v = .tuple [s.v, i64 (applyR (l1.map (·.1)) x room).2].toArray ∧ FzR m' s lr ∧ lr.map (·.1) = (applyR (l1.map (·.1)) x room).1 ∧ (s.a = none → s.cap = 0) ∧ H' = H) :=
  (apply_w s1 l1 x sm room m H hz hfa hfit hzx hokx hfx).post fun v m' H' w hm hs ⟨a, n, c, cap, lo, h1, h2, h3, h4, h5, h6⟩ => by
    subst h6
    obtain ⟨m2, g1, g2, g3, g4⟩ := hs.freezeC h5 h3
    exact ⟨m2, H, g1, g2, ⟨a, n, c⟩, _, h1, g3, by rw [map_fst, h4], g4, rfl⟩
end Go.Aw
namespace Go.Aw
open Go Go.Proofs
theorem tz69 : tzero Try.prog 69 = some [.slice none 0 0, .slice none 0 0] := by kernel_rfl
theorem fk69 : fieldsKnown Try.prog 69 = true := by kernel_rfl
theorem bp69_0_1 : bplaces Try.prog 69 [0, 1] = some [(0, 1), (1, 1)] := by kernel_rfl
theorem ts69 : tshape Try.prog 69 = some (true, 2) := by kernel_rfl
set_option maxRecDepth 100000 in
theorem swapC_w (r q : RuleD) (s1 s2 : Sl) (b : Nat) (m : Snap) (H : Hp) : Fn Try.prog 142 [.agg (encRule r s1).toArray, .pointer (some ⟨b, 0, none⟩)] m (.blk b (.cells (encRule q s2).toArray 50) :: H) (fun v _ H' => v = .bool (ruleKey r q) ∧ H' = .blk b (.cells (encRule q s2).toArray 50) :: H) := by
  have hm : m.le m := Snap.le.refl m
  refine fn_end Try.func142 rfl rfl rfl ?_
  refine c_seq (fun K0 hK0 => ?_)
  refine c_region ?_
  refine r_s rfl ?_
  refine s_box_a rfl rfl (fun b0 => ?_)
  refine r_y rfl rfl (y_assign rfl) ?_
  refine r_nil ?_
  refine hK0 _ _ _ ?_
  clear hK0 K0
  refine c_seq (fun K1 hK1 => ?_)
  refine c_region ?_
  refine r_y rfl rfl (y_load_a (cs := encRule r s1) rfl ts50 (RdA.blk (i := 0) rfl rfl)) ?_
  refine r_y rfl rfl (y_load_a (cs := encRule q s2) rfl ts50 (RdA.blk (i := 1) rfl rfl)) ?_
  refine r_s rfl ?_
  refine s_call0 rfl Try.call125 rfl (ruleKey_w r q s1 s2 _ _) ?_
  rintro _ m2 _ hm2 ⟨rfl, rfl⟩
  replace hm := hm.trans hm2
  clear hm2
  refine r_y rfl rfl (y_assign rfl) ?_
  refine r_nil ?_
  refine hK1 _ _ _ ?_
  clear hK1 K1
  refine c_ret ?_
  refine e_ret 1 hm (res_tmps rfl) ?_
  exact ⟨rfl, rfl⟩
set_option maxRecDepth 100000 in
theorem aloneC_w (r q : RuleD) (s1 s2 : Sl) (b : Nat) (m : Snap) (H : Hp) (hz1 : FzA m s1 r.acts) (hz2 : FzA m s2 q.acts) : Fn Try.prog 158 [.agg (encRule r s1).toArray, .pointer (some ⟨b, 0, none⟩)] m (.blk b (.cells (encRule q s2).toArray 50) :: H) (fun v _ H' => v = .bool (decide (q = r)) ∧ H' = .blk b (.cells (encRule q s2).toArray 50) :: H) := by
  have hm : m.le m := Snap.le.refl m
  refine fn_end Try.func158 rfl rfl rfl ?_
  refine c_seq (fun K0 hK0 => ?_)
  refine c_region ?_
  refine r_s rfl ?_
  refine s_box_a rfl rfl (fun b0 => ?_)
  refine r_y rfl rfl (y_assign rfl) ?_
  refine r_nil ?_
  refine hK0 _ _ _ ?_
  clear hK0 K0
  refine c_seq (fun K1 hK1 => ?_)
  refine c_region ?_
  refine r_y rfl rfl (y_load_a (cs := encRule q s2) rfl ts50 (RdA.blk (i := 1) rfl rfl)) ?_
  refine r_y rfl rfl (y_load_a (cs := encRule r s1) rfl ts50 (RdA.blk (i := 0) rfl rfl)) ?_
  refine r_s rfl ?_
  refine s_call0 rfl Try.call77 rfl (ruleEqual_w q r s2 s1 _ _ hz2 hz1) ?_
  rintro _ m2 _ hm2 ⟨rfl, rfl⟩
  replace hm := hm.trans hm2
  replace hz1 := hz1.mono hm2
  replace hz2 := hz2.mono hm2
  clear hm2
  refine r_y rfl rfl (y_assign rfl) ?_
  refine r_nil ?_
  refine hK1 _ _ _ ?_
  clear hK1 K1
  refine c_ret ?_
  refine e_ret 1 hm (res_tmps rfl) ?_
  exact ⟨rfl, rfl⟩
set_option maxRecDepth 100000 in
theorem alone_w (s1 : Sl) (l1 : List (RuleD × Sl)) (s2 : Sl) (l2 : List (RuleD × Sl)) (m : Snap) (H : Hp) (hz1 : FzR m s1 l1) (hz2 : FzR m s2 l2) (hfa : ∀ p ∈ l1, p.1.acts.length ≤ 4398046511103) (hfit : l1.length ≤ 1000000) : Fn Try.prog 141 [s1.v, s2.v] m H (fun v m' H' => ∃ (a : Option Addr) (n : Nat) (lr : List (RuleD × Sl)), v = .slice a n n ∧ FzR m' ⟨a, n, n⟩ lr ∧ lr.map (·.1) = alone (l1.map (·.1)) (l2.map (·.1)) ∧ (a = none → n = 0) ∧ H' = H) := by
  have hl := hz1.len
  have hmx := hz1.fz.max
  have hle0 := hz1.fz.le
  unfold maxLen at hmx
  have hm : m.le m := Snap.le.refl m
  refine fn_end Try.func141 rfl rfl rfl ?_
  refine c_seq (fun K0 hK0 => ?_)
  refine c_region ?_
  refine r_y rfl rfl (y_assign rfl) ?_
  refine r_nil ?_
  refine hK0 _ _ _ ?_
  clear hK0 K0
  refine c_seq (fun K1 hK1 => ?_)
  refine c_region ?_
  refine r_nilvec 50 32 ?_
  refine r_y rfl rfl (y_assign rfl) ?_
  refine r_nil ?_
  refine hK1 _ _ _ ?_
  clear hK1 K1
  refine c_seq (fun K2 hK2 => ?_)
  refine c_seq (fun K3 hK3 => ?_)
  refine c_region ?_
  refine r_y rfl rfl (y_move rfl) ?_
  refine r_y rfl rfl (y_len tl33 rfl) ?_
  refine r_y rfl rfl (y_move rfl) ?_
  refine r_nil ?_
  refine hK3 _ _ _ ?_
  clear hK3 K3
  refine c_block ?_
  refine c_loopx (α := Nat × List (RuleD × Sl) × Sl) (fun vv => match vv with | (i, lr, sv) => [(1, s2.v), (5, sv.v), (8, s1.v), (9, .int .i64 (s1.n : Nat)), (10, .int .i64 (i : Nat))]) (fun vv => match vv with | (i, lr, sv) => .vec sv.a sv.n sv.cap 50 32 (lr.map fun p => encRule p.1 p.2) :: H) (fun k0 vv m1 => match vv with | (i, lr, sv) => (i + k0 = s1.n ∧ sv.n ≤ i ∧ lr.map (·.1) = alone ((l1.map (·.1)).take i) (l2.map (·.1)) ∧ (∀ p ∈ lr, p ∈ l1)) ∧ m.le m1 ∧ (FzR m1 s1 l1) ∧ (FzR m1 s2 l2)) (s1.n) (0, [], zSl) ⟨rfl, rfl, rfl, rfl, rfl, trivial⟩ rfl ⟨⟨by omega, Nat.le_refl _, rfl, fun p hp => by cases hp⟩, hm, hz1, hz2⟩ ?_
  clear hm hz1 hz2
  rintro k0 ⟨i, lr, sv⟩ m1 ⟨hi0, hm, hz1, hz2⟩
  obtain ⟨hi, hsn, hro, hsub⟩ := hi0
  refine c_seq (fun K4 hK4 => ?_)
  refine c_region ?_
  refine r_y rfl rfl (y_iop rfl rfl rfl) ?_
  refine r_nil ?_
  refine hK4 _ _ _ ?_
  clear hK4 K4
  refine c_seq (fun K5 hK5 => ?_)
  refine c_cond rfl (fun h0 => ?_) (fun h0 => ?_)
  ·
    have hlt : i < s1.n := by simp at h0; omega
    obtain ⟨r, hx⟩ := get_of_lt (l := l1) (k := i) (by omega)
    have hx1 : (l1.map (·.1))[i]? = some r.1 := map_get hx
    have hT : alone ((l1.map (·.1)).take (i + 1)) (l2.map (·.1)) = alone ((l1.map (·.1)).take i) (l2.map (·.1)) ++ (if !(l2.map (·.1)).any (fun q => decide (r.1 = q)) then [r.1] else []) := by unfold alone; rw [List.take_add_one, hx1, List.filter_append]; simp only [Option.toList_some, List.filter_cons, List.filter_nil]
    refine c_skip ?_
    refine hK5 _ _ _ ?_
    clear hK5 K5
    refine c_seq (fun K6 hK6 => ?_)
    refine c_block ?_
    refine c_seq (fun K7 hK7 => ?_)
    refine c_region ?_
    refine r_y rfl rfl (y_indexAddr_slice rfl rfl tl33 hlt (At.fz hz1.fz hlt)) ?_
    refine r_y rfl rfl (y_load_a rfl ts50 (RdA.fz0 hz1.fz (map_get hx))) ?_
    refine r_s rfl ?_
    refine s_alloc rfl tz50 (fun b0 => ?_)
    refine r_s rfl ?_
    refine s_store (us := encRule r.1 r.2) rfl rfl rfl ts50 rfl rfl (one_rule _ _) (i := 0) rfl rfl ?_
    refine r_nil ?_
    refine hK7 _ _ _ ?_
    clear hK7 K7
    refine c_seq (fun K8 hK8 => ?_)
    refine c_region ?_
    refine r_y rfl rfl (y_move rfl) ?_
    refine r_y rfl rfl (y_makeFunc rfl) ?_
    refine r_s rfl ?_
    refine s_call0 rfl Try.call133 rfl (hasRules_w s2 l2 158 [.pointer (some ⟨b0, 0, none⟩)] (fun q => decide (r.1 = q)) _ _ hz2 Try.call158 (fun m' z hm9 hz9 => aloneC_w z.1 r.1 z.2 r.2 b0 m' _ ((hz2.acts z hz9).1.mono hm9) ((hz1.acts r (List.mem_of_getElem? hx)).1.mono hm9))) ?_
    rintro _ m2 _ hm2 ⟨rfl, rfl⟩
    replace hm := hm.trans hm2
    replace hz1 := hz1.mono hm2
    replace hz2 := hz2.mono hm2
    clear hm2
    refine r_y rfl rfl (y_not rfl) ?_
    refine r_nil ?_
    refine hK8 _ _ _ ?_
    clear hK8 K8
    refine c_cond rfl (fun hA => ?_) (fun hA => ?_)
    ·
      refine c_region ?_
      refine r_y rfl rfl (y_move rfl) ?_
      refine r_y rfl rfl (y_load_a (cs := encRule r.1 r.2) rfl ts50 (RdA.blk (i := 0) rfl rfl)) ?_
      refine r_s rfl ?_
      refine s_buildSlice (cs := (encRule r.1 r.2)) (e := 50) rfl rfl (fun _ => by kernel_rfl) (fun b1 => ?_)
      refine r_s rfl ?_
      refine s_append rfl rfl rfl tl33 zo50 tb50 (i := 2) rfl (Src.one' (i := 0) rfl rfl (one_rule _ _)) (by omega) (by unfold maxLen; omega) (fun a1 c1 => ?_)
      refine r_del 0 rfl ?_
      refine r_y rfl rfl (y_assign rfl) ?_
      refine r_nil ?_
      refine hK6 _ _ _ ?_
      clear hK6 K6
      refine c_region ?_
      refine r_del 0 rfl ?_
      first | refine r_y rfl rfl (y_inc rfl (by omega)) ?_ | refine r_y rfl rfl (y_iop rfl rfl rfl) ?_
      refine r_y rfl rfl (y_move rfl) ?_
      refine r_nil ?_
      exact ⟨k0 - 1, (i + 1, lr ++ [r], ⟨a1, sv.n + 1, c1⟩), by omega, ⟨rfl, rfl, rfl, rfl, rfl, trivial⟩, (by first | rfl | (simp only [List.map_append]; rfl)), ⟨by omega, by show sv.n + 1 ≤ i + 1; omega, by rw [hT, if_pos hA, List.map_append, hro]; rfl, fun p hp => by rcases List.mem_append.1 hp with hp | hp; exact hsub p hp; rw [List.mem_singleton.1 hp]; exact List.mem_of_getElem? hx⟩, hm, hz1, hz2⟩
    ·
      refine c_skip ?_
      refine hK6 _ _ _ ?_
      clear hK6 K6
      refine c_region ?_
      refine r_del 0 rfl ?_
      first | refine r_y rfl rfl (y_inc rfl (by omega)) ?_ | refine r_y rfl rfl (y_iop rfl rfl rfl) ?_
      refine r_y rfl rfl (y_move rfl) ?_
      refine r_nil ?_
      exact ⟨k0 - 1, (i + 1, lr, sv), by omega, ⟨rfl, rfl, rfl, rfl, rfl, trivial⟩, (by first | rfl | (simp only [List.map_append]; rfl)), ⟨by omega, by omega, by rw [hT, if_neg (by rw [hA]; decide), List.append_nil, hro], hsub⟩, hm, hz1, hz2⟩
  ·
    refine c_exit ?_
    refine hK2 _ _ _ ?_
    clear hK5 K5 hK2 K2
    refine c_seq (fun K9 hK9 => ?_)
    refine c_region ?_
    refine r_y rfl rfl (y_move rfl) ?_
    refine r_freezeVec (i := 0) rfl rfl (fun m3 hm3 hzv hnv => ?_)
    replace hm := hm.trans hm3
    replace hz1 := hz1.mono hm3
    replace hz2 := hz2.mono hm3
    clear hm3
    have hzo : FzR _ ⟨sv.a, sv.n, sv.cap⟩ lr := fzr_of hzv rfl (AllA.sub (AllA.of hz1) hsub)
    have hll : lr.length ≤ 1000000 := by have := hzo.len; simp only at this; omega
    have hfl : ∀ p ∈ lr, p.1.acts.length ≤ 4398046511103 := fun p hp => hfa p (hsub p hp)
    refine r_s rfl ?_
    refine s_call0 rfl Try.call27 rfl (ruleCopyF_w ⟨sv.a, sv.n, sv.cap⟩ lr _ _ hzo hfl hll) ?_
    rintro _ m2 _ hm2 ⟨a, n, lr2, rfl, hz3, hl3, hn3, rfl⟩
    replace hm := hm.trans hm2
    replace hz1 := hz1.mono hm2
    replace hz2 := hz2.mono hm2
    replace hzv := hzv.mono hm2
    clear hm2
    refine r_y rfl rfl (y_assign rfl) ?_
    refine r_nil ?_
    refine hK9 _ _ _ ?_
    clear hK9 K9
    refine c_ret ?_
    refine e_ret 0 hm (res_tmps rfl) ?_
    have hin : i = s1.n := by simp at h0; omega
    exact ⟨a, n, lr2, rfl, hz3, by rw [hl3, hro, List.take_of_length_le (by simp; omega)], hn3, rfl⟩
set_option maxRecDepth 100000 in
theorem diff_w (s1 : Sl) (l1 : List (RuleD × Sl)) (s2 : Sl) (l2 : List (RuleD × Sl)) (m : Snap) (H : Hp) (hz1 : FzR m s1 l1) (hz2 : FzR m s2 l2) (hfa : ∀ p ∈ l1, p.1.acts.length ≤ 4398046511103) (hfb : ∀ p ∈ l2, p.1.acts.length ≤ 4398046511103) (hfit : l1.length ≤ 1000000) (hfit2 : l2.length ≤ 1000000) (hT1 : ruleTable (l1.map (·.1)) = true) (hT2 : ruleTable (l2.map (·.1)) = true) : Fn Try.prog 101 [s1.v, s2.v] m H (fun v m' H' => ∃ (sg : Sl) (lg : List (RuleD × Sl)) (sc : Sl) (lc : List (RuleD × Sl)), v = .agg [sg.v, sc.v].toArray ∧ FzR m' sg lg ∧ FzR m' sc lc ∧ lg.map (·.1) = alone (l1.map (·.1)) (l2.map (·.1)) ∧ lc.map (·.1) = alone (l2.map (·.1)) (l1.map (·.1)) ∧ sg.ok ∧ sc.ok ∧ H' = H) := by
  have hm : m.le m := Snap.le.refl m
  refine fn_end Try.func101 rfl rfl rfl ?_
  refine c_seq (fun K0 hK0 => ?_)
  refine c_region ?_
  refine r_s rfl ?_
  refine s_alloc rfl tz69 (fun b0 => ?_)
  refine r_nil ?_
  refine hK0 _ _ _ ?_
  clear hK0 K0
  refine c_seq (fun K1 hK1 => ?_)
  refine c_seq (fun K2 hK2 => ?_)
  refine c_region ?_
  refine r_y rfl rfl (y_move rfl) ?_
  refine r_s rfl ?_
  refine s_call0 rfl Try.call80 rfl (ruleTable_ok s1 l1 _ _ hz1) ?_
  rintro _ m2 _ hm2 ⟨rfl, rfl⟩
  replace hm := hm.trans hm2
  replace hz1 := hz1.mono hm2
  replace hz2 := hz2.mono hm2
  clear hm2
  refine r_y rfl rfl (y_not rfl) ?_
  refine r_y rfl rfl (y_move rfl) ?_
  refine r_yg rfl (by rw [hT1]; rfl) rfl (y_move rfl) ?_
  refine r_sg rfl (by rw [hT1]; rfl) ?_
  refine s_call0 rfl Try.call80 rfl (ruleTable_ok s2 l2 _ _ hz2) ?_
  rintro _ m2 _ hm2 ⟨rfl, rfl⟩
  replace hm := hm.trans hm2
  replace hz1 := hz1.mono hm2
  replace hz2 := hz2.mono hm2
  clear hm2
  refine r_yg rfl (by rw [hT1]; rfl) rfl (y_not rfl) ?_
  refine r_y rfl rfl (y_pickf rfl (by rw [hT1]; rfl) rfl) ?_
  refine r_nil ?_
  refine hK2 _ _ _ ?_
  clear hK2 K2
  refine c_iff rfl (by rw [hT2]; rfl) ?_
  refine c_skip ?_
  refine hK1 _ _ _ ?_
  clear hK1 K1
  refine c_seq (fun K3 hK3 => ?_)
  refine c_region ?_
  refine r_y rfl rfl (y_move rfl) ?_
  refine r_y rfl rfl (y_move rfl) ?_
  refine r_s rfl ?_
  refine s_call0 rfl Try.call141 rfl (alone_w s1 l1 s2 l2 _ _ hz1 hz2 hfa hfit) ?_
  rintro _ m2 _ hm2 ⟨ag, ng, lg, rfl, hzg, hlg, hng, rfl⟩
  replace hm := hm.trans hm2
  replace hz1 := hz1.mono hm2
  replace hz2 := hz2.mono hm2
  clear hm2
  refine r_y rfl rfl (y_move rfl) ?_
  refine r_y rfl rfl (y_move rfl) ?_
  refine r_s rfl ?_
  refine s_call0 rfl Try.call141 rfl (alone_w s2 l2 s1 l1 _ _ hz2 hz1 hfb hfit2) ?_
  rintro _ m2 _ hm2 ⟨ac, nc, lc, rfl, hzc, hlc, hnc, rfl⟩
  replace hm := hm.trans hm2
  replace hz1 := hz1.mono hm2
  replace hz2 := hz2.mono hm2
  replace hzg := hzg.mono hm2
  clear hm2
  refine r_y rfl rfl (y_bld rfl tz69 fk69 bp69_0_1 rfl rfl) ?_
  refine r_s rfl ?_
  refine s_store rfl rfl rfl ts69 rfl rfl (by simp [Value.oneCell', wv, Sl.v]) (i := 0) rfl rfl ?_
  refine r_nil ?_
  refine hK3 _ _ _ ?_
  clear hK3 K3
  refine c_ret ?_
  refine e_ret 1 hm (res_cell_a rfl ts69 (RdA.blk (i := 0) rfl rfl)) ?_
  exact ⟨⟨ag, ng, ng⟩, lg, ⟨ac, nc, nc⟩, lc, rfl, hzg, hzc, hlg, hlc, hng, hnc, rfl⟩
end Go.Aw
namespace Go.Aw
open Go Go.Proofs
theorem fo69_1 : fieldOff Try.prog 69 1 = some 1 := by kernel_rfl
theorem fo69_0 : fieldOff Try.prog 69 0 = some 0 := by kernel_rfl
set_option maxRecDepth 100000 in
theorem swap_w (s1 : Sl) (l1 : List (RuleD × Sl)) (s2 : Sl) (l2 : List (RuleD × Sl)) (s3 : Sl) (l3 : List (RuleD × Sl)) (m : Snap) (H : Hp) (hz1 : FzR m s1 l1) (hz2 : FzR m s2 l2) (hz3 : FzR m s3 l3) (hok3 : s3.ok) (hfa : ∀ p ∈ l1, p.1.acts.length ≤ 4398046511103) (hfb : ∀ p ∈ l2, p.1.acts.length ≤ 4398046511103) (hfit : l1.length ≤ 400000) (hfit2 : l2.length ≤ 400000) (hfit3 : l3.length ≤ 400000) (hsw : (swapR (l1.map (·.1)) (l2.map (·.1)) (l3.map (·.1))).2 = 0) : Fn Try.prog 102 [s1.v, s2.v, s3.v] m H (fun v m' H' => ∃ (s : Sl) (lr : List (RuleD × Sl)), v = .tuple [s.v, i64 0].toArray ∧ FzR m' s lr ∧ lr.map (·.1) = (swapR (l1.map (·.1)) (l2.map (·.1)) (l3.map (·.1))).1 ∧ s.ok ∧ H' = H) := by
  obtain ⟨hT1, hT2, hT3, hA0, hK9, hres⟩ := swapR_ok hsw
  have hl3 := hz3.len
  have hmx := hz3.fz.max
  have hle0 := hz3.fz.le
  unfold maxLen at hmx
  have hm : m.le m := Snap.le.refl m
  refine fn_end Try.func102 rfl rfl rfl ?_
  refine c_seq (fun K0 hK0 => ?_)
  refine c_region ?_
  refine r_y rfl rfl (y_assign rfl) ?_
  refine r_y rfl rfl (y_assign rfl) ?_
  refine r_nil ?_
  refine hK0 _ _ _ ?_
  clear hK0 K0
  refine c_seq (fun K1 hK1 => ?_)
  refine c_seq (fun K2 hK2 => ?_)
  refine c_region ?_
  refine r_y rfl rfl (y_move rfl) ?_
  refine r_s rfl ?_
  refine s_call0 rfl Try.call80 rfl (ruleTable_ok s1 l1 _ _ hz1) ?_
  rintro _ m2 _ hm2 ⟨rfl, hHq⟩
  replace hHq := hHq.symm
  subst hHq
  replace hm := hm.trans hm2
  replace hz1 := hz1.mono hm2
  replace hz2 := hz2.mono hm2
  replace hz3 := hz3.mono hm2
  clear hm2
  refine r_y rfl rfl (y_not rfl) ?_
  refine r_y rfl rfl (y_move rfl) ?_
  refine r_yg rfl (by rw [hT1]; rfl) rfl (y_move rfl) ?_
  refine r_sg rfl (by rw [hT1]; rfl) ?_
  refine s_call0 rfl Try.call80 rfl (ruleTable_ok s2 l2 _ _ hz2) ?_
  rintro _ m2 _ hm2 ⟨rfl, hHq⟩
  replace hHq := hHq.symm
  subst hHq
  replace hm := hm.trans hm2
  replace hz1 := hz1.mono hm2
  replace hz2 := hz2.mono hm2
  replace hz3 := hz3.mono hm2
  clear hm2
  refine r_yg rfl (by rw [hT1]; rfl) rfl (y_not rfl) ?_
  refine r_y rfl rfl (y_pickf rfl (by rw [hT1]; rfl) rfl) ?_
  refine r_y rfl rfl (y_move rfl) ?_
  refine r_yg rfl (by rw [hT2]; rfl) rfl (y_move rfl) ?_
  refine r_sg rfl (by rw [hT2]; rfl) ?_
  refine s_call0 rfl Try.call80 rfl (ruleTable_ok s3 l3 _ _ hz3) ?_
  rintro _ m2 _ hm2 ⟨rfl, hHq⟩
  replace hHq := hHq.symm
  subst hHq
  replace hm := hm.trans hm2
  replace hz1 := hz1.mono hm2
  replace hz2 := hz2.mono hm2
  replace hz3 := hz3.mono hm2
  clear hm2
  refine r_yg rfl (by rw [hT2]; rfl) rfl (y_not rfl) ?_
  refine r_y rfl rfl (y_pickf rfl (by rw [hT2]; rfl) rfl) ?_
  refine r_nil ?_
  refine hK2 _ _ _ ?_
  clear hK2 K2
  refine c_iff rfl (by rw [hT3]; rfl) ?_
  refine c_skip ?_
  refine hK1 _ _ _ ?_
  clear hK1 K1
  refine c_seq (fun K3 hK3 => ?_)
  refine c_seq (fun K4 hK4 => ?_)
  refine c_region ?_
  refine r_y rfl rfl (y_move rfl) ?_
  refine r_y rfl rfl (y_move rfl) ?_
  refine r_s rfl ?_
  refine s_call0 rfl Try.call141 rfl (alone_w s2 l2 s1 l1 _ _ hz2 hz1 hfb (by omega)) ?_
  rintro _ m2 _ hm2 ⟨ax, nx, lx, rfl, hzx, hlx, hnx, hHq⟩
  replace hHq := hHq.symm
  subst hHq
  replace hm := hm.trans hm2
  replace hz1 := hz1.mono hm2
  replace hz2 := hz2.mono hm2
  replace hz3 := hz3.mono hm2
  clear hm2
  have hnx0 : nx = 0 := by have h3 := hzx.len; have h4 := congrArg List.length hlx; rw [hA0] at h4; simp at h3 h4; rw [h3, h4]; rfl
  refine r_y rfl rfl (y_len tl33 rfl) ?_
  refine r_y rfl rfl (y_iop rfl rfl rfl) ?_
  refine r_nil ?_
  refine hK4 _ _ _ ?_
  clear hK4 K4
  refine c_iff rfl (by rw [hnx0]; rfl) ?_
  refine c_skip ?_
  refine hK3 _ _ _ ?_
  clear hK3 K3
  refine c_seq (fun K5 hK5 => ?_)
  refine c_region ?_
  refine r_y rfl rfl (y_move rfl) ?_
  refine r_y rfl rfl (y_move rfl) ?_
  refine r_s rfl ?_
  refine s_call0 rfl Try.call141 rfl (alone_w s1 l1 s2 l2 _ _ hz1 hz2 hfa (by omega)) ?_
  rintro _ m2 _ hm2 ⟨ar, nr, lr, rfl, hzr, hlr, hnr, hHq⟩
  replace hHq := hHq.symm
  subst hHq
  replace hm := hm.trans hm2
  replace hz1 := hz1.mono hm2
  replace hz2 := hz2.mono hm2
  replace hz3 := hz3.mono hm2
  replace hzx := hzx.mono hm2
  clear hm2
  refine r_y rfl rfl (y_assign rfl) ?_
  refine r_nil ?_
  refine hK5 _ _ _ ?_
  clear hK5 K5
  refine c_seq (fun K6 hK6 => ?_)
  refine c_seq (fun K7 hK7 => ?_)
  refine c_region ?_
  have hnr4 : nr ≤ 400000 := by have h3 := hzr.len; have h4 := congrArg List.length hlr; have h5 := alone_len (l1.map (·.1)) (l2.map (·.1)); simp at h3 h4 h5; omega
  refine r_y rfl rfl (y_move rfl) ?_
  refine r_y rfl rfl (y_len tl33 rfl) ?_
  refine r_y rfl rfl (y_move rfl) ?_
  refine r_nil ?_
  refine hK7 _ _ _ ?_
  clear hK7 K7
  refine c_block ?_
  refine c_loopx (α := Nat) (fun i => [(2, s3.v), (8, .slice ar nr nr), (32, s3.v), (33, .int .i64 (s3.n : Nat)), (34, .int .i64 (i : Nat))]) (fun i => H) (fun k0 i m1 => (i + k0 = s3.n) ∧ m.le m1 ∧ (FzR m1 ⟨ar, nr, nr⟩ lr) ∧ (FzR m1 s3 l3)) (s3.n) 0 ⟨rfl, rfl, rfl, rfl, rfl, trivial⟩ rfl ⟨(by omega), hm, hzr, hz3⟩ ?_
  clear hm hzr hz3
  rintro k0 i m1 ⟨hi0, hm, hzr, hz3⟩
  refine c_seq (fun K8 hK8 => ?_)
  refine c_region ?_
  refine r_y rfl rfl (y_iop rfl rfl rfl) ?_
  refine r_nil ?_
  refine hK8 _ _ _ ?_
  clear hK8 K8
  refine c_seq (fun K9 hK9 => ?_)
  refine c_cond rfl (fun h0 => ?_) (fun h0 => ?_)
  ·
    have hlt : i < s3.n := by simp at h0; omega
    obtain ⟨r, hx⟩ := get_of_lt (l := l3) (k := i) (by omega)
    refine c_skip ?_
    refine hK9 _ _ _ ?_
    clear hK9 K9
    refine c_seq (fun K10 hK10 => ?_)
    refine c_block ?_
    refine c_seq (fun K11 hK11 => ?_)
    refine c_region ?_
    refine r_y rfl rfl (y_indexAddr_slice rfl rfl tl33 hlt (At.fz hz3.fz hlt)) ?_
    refine r_y rfl rfl (y_load_a rfl ts50 (RdA.fz0 hz3.fz (map_get hx))) ?_
    refine r_s rfl ?_
    refine s_alloc rfl tz50 (fun b0 => ?_)
    refine r_s rfl ?_
    refine s_store (us := encRule r.1 r.2) rfl rfl rfl ts50 rfl rfl (one_rule _ _) (i := 0) rfl rfl ?_
    refine r_nil ?_
    refine hK11 _ _ _ ?_
    clear hK11 K11
    refine c_seq (fun K12 hK12 => ?_)
    refine c_region ?_
    refine r_y rfl rfl (y_move rfl) ?_
    refine r_y rfl rfl (y_makeFunc rfl) ?_
    refine r_s rfl ?_
    refine s_call0 rfl Try.call133 rfl (hasRules_w ⟨ar, nr, nr⟩ lr 142 [.pointer (some ⟨b0, 0, none⟩)] (fun q => ruleKey q r.1) _ _ hzr Try.call142 (fun m' z _ _ => swapC_w z.1 r.1 z.2 r.2 b0 m' _)) ?_
    rintro _ m2 _ hm2 ⟨rfl, hHq⟩
    replace hHq := hHq.symm
    subst hHq
    replace hm := hm.trans hm2
    replace hzr := hzr.mono hm2
    replace hz3 := hz3.mono hm2
    clear hm2
    refine r_nil ?_
    refine hK12 _ _ _ ?_
    clear hK12 K12
    refine c_iff rfl (by rw [hlr]; exact hK9 r.1 (List.mem_map.2 ⟨r, List.mem_of_getElem? hx, rfl⟩)) ?_
    refine c_skip ?_
    refine hK10 _ _ _ ?_
    clear hK10 K10
    refine c_region ?_
    refine r_del 0 rfl ?_
    first | refine r_y rfl rfl (y_inc rfl (by omega)) ?_ | refine r_y rfl rfl (y_iop rfl rfl rfl) ?_
    refine r_y rfl rfl (y_move rfl) ?_
    refine r_nil ?_
    exact ⟨k0 - 1, (i + 1), by omega, ⟨rfl, rfl, rfl, rfl, rfl, trivial⟩, rfl, (by omega), hm, hzr, hz3⟩
  ·
    refine c_exit ?_
    refine hK6 _ _ _ ?_
    clear hK9 K9 hK6 K6
    refine c_seq (fun K13 hK13 => ?_)
    refine c_region ?_
    refine r_y rfl rfl (y_move rfl) ?_
    refine r_y rfl rfl (y_move rfl) ?_
    refine r_s rfl ?_
    refine s_appendg rfl rfl rfl tl33 zo50 tb50 rfl hzr.fz hnr (hz3.src hok3) (by omega) (by unfold maxLen; omega) (fun m3 a9 c9 hm3 hz9 hn9 => ?_)
    replace hm := hm.trans hm3
    replace hzr := hzr.mono hm3
    replace hz3 := hz3.mono hm3
    have hzt : FzR m3 ⟨a9, nr + s3.n, c9⟩ (lr ++ l3) := fzr_of hz9 (by simp) (AllA.app (AllA.of hzr) (AllA.of hz3))
    refine r_s rfl ?_
    refine s_call0 rfl Try.call28 rfl (ruleSortF_w ⟨a9, nr + s3.n, c9⟩ (lr ++ l3) _ _ hzt (by have := hzt.len; simp at this ⊢; omega)) ?_
    rintro _ m2 _ hm2 ⟨a, n, lo, rfl, hzo, hlo, hno, hHq⟩
    replace hHq := hHq.symm
    subst hHq
    replace hm := hm.trans hm2
    replace hzr := hzr.mono hm2
    replace hz3 := hz3.mono hm2
    clear hm2
    refine r_y rfl rfl (y_assign rfl) ?_
    refine r_y rfl rfl (y_assign rfl) ?_
    refine r_nil ?_
    refine hK13 _ _ _ ?_
    clear hK13 K13
    refine c_ret ?_
    refine e_ret 0 hm (res_tmps rfl) ?_
    exact ⟨⟨a, n, n⟩, lo, rfl, hzo, by rw [hres, hlo, List.map_append, hlr], hno, rfl⟩
set_option maxRecDepth 100000 in
theorem back_w (s1 : Sl) (l1 : List (RuleD × Sl)) (sc : Sl) (lc : List (RuleD × Sl)) (sg : Sl) (lg : List (RuleD × Sl)) (m : Snap) (H : Hp) (hz1 : FzR m s1 l1) (hz2 : FzR m sc lc) (hz3 : FzR m sg lg) (hok3 : sg.ok) (hfa : ∀ p ∈ l1, p.1.acts.length ≤ 4398046511103) (hfb : ∀ p ∈ lc, p.1.acts.length ≤ 4398046511103) (hfit : l1.length ≤ 400000) (hfit2 : lc.length ≤ 400000) (hfit3 : lg.length ≤ 400000) (hsw : (swapR (l1.map (·.1)) (lc.map (·.1)) (lg.map (·.1))).2 = 0) : Fn Try.prog 43 [s1.v, .agg (encPatch sg sc).toArray] m H (fun v m' H' => ∃ (s : Sl) (lr : List (RuleD × Sl)), v = .tuple [s.v, i64 0].toArray ∧ FzR m' s lr ∧ lr.map (·.1) = (swapR (l1.map (·.1)) (lc.map (·.1)) (lg.map (·.1))).1 ∧ s.ok ∧ H' = H) := by
  have hm : m.le m := Snap.le.refl m
  refine fn_end Try.func43 rfl rfl rfl ?_
  refine c_seq (fun K0 hK0 => ?_)
  refine c_region ?_
  refine r_s rfl ?_
  refine s_box_a rfl rfl (fun b0 => ?_)
  refine r_y rfl rfl (y_assign rfl) ?_
  refine r_y rfl rfl (y_assign rfl) ?_
  refine r_nil ?_
  refine hK0 _ _ _ ?_
  clear hK0 K0
  refine c_seq (fun K1 hK1 => ?_)
  refine c_region ?_
  refine r_y rfl rfl (y_move rfl) ?_
  refine r_y rfl rfl (y_fieldAddr rfl At.lit fo69_1 rfl) ?_
  refine r_y rfl rfl (y_load_s rfl ts33 (RdS.blk (i := 0) rfl rfl)) ?_
  refine r_y rfl rfl (y_fieldAddr rfl At.lit fo69_0 rfl) ?_
  refine r_y rfl rfl (y_load_s rfl ts33 (RdS.blk (i := 0) rfl rfl)) ?_
  refine r_s rfl ?_
  refine s_call0 rfl Try.call102 rfl (swap_w s1 l1 sc lc sg lg _ _ hz1 hz2 hz3 hok3 hfa hfb hfit hfit2 hfit3 hsw) ?_
  rintro _ m2 _ hm2 ⟨s9, l9, rfl, hz9, hl9, hn9, rfl⟩
  replace hm := hm.trans hm2
  replace hz1 := hz1.mono hm2
  replace hz2 := hz2.mono hm2
  replace hz3 := hz3.mono hm2
  clear hm2
  refine r_y rfl rfl (y_extract rfl rfl) ?_
  refine r_y rfl rfl (y_extract rfl rfl) ?_
  refine r_y rfl rfl (y_assign rfl) ?_
  refine r_y rfl rfl (y_assign rfl) ?_
  refine r_nil ?_
  refine hK1 _ _ _ ?_
  clear hK1 K1
  refine c_ret ?_
  refine e_ret 1 hm (res_tmps rfl) ?_
  exact ⟨s9, l9, rfl, hz9, hl9, hn9, rfl⟩
end Go.Aw
namespace Go.Aw
open Go Go.Proofs
theorem bp69_ : bplaces Try.prog 69 [] = some [] := by kernel_rfl
set_option maxRecDepth 100000 in
theorem inverse_w (s1 : Sl) (l1 : List (RuleD × Sl)) (x : ModD) (sm : Sl) (room : Int) (m : Snap) (H : Hp) (hz : FzR m s1 l1) (hfa : ∀ p ∈ l1, p.1.acts.length ≤ 4398046511103) (hfit : l1.length < 1000000) (hzx : FzA m sm x.acts) (hokx : sm.ok) (hfx : x.acts.length ≤ 4398046511103) : Fn Try.prog 42 [s1.v, .agg (encMod x sm).toArray, .int .i64 room] m H (fun v m' H' => ∃ (s : Sl) (lt : List (RuleD × Sl)) (sg : Sl) (lg : List (RuleD × Sl)) (sc : Sl) (lc : List (RuleD × Sl)), v = .tuple [s.v, .agg (encPatch sg sc).toArray, i64 (applyR (l1.map (·.1)) x room).2].toArray ∧ FzR m' s lt ∧ FzR m' sg lg ∧ FzR m' sc lc ∧ lt.map (·.1) = (applyR (l1.map (·.1)) x room).1 ∧ ((applyR (l1.map (·.1)) x room).2 = 0 → lg.map (·.1) = alone (l1.map (·.1)) (applyR (l1.map (·.1)) x room).1 ∧ lc.map (·.1) = alone (applyR (l1.map (·.1)) x room).1 (l1.map (·.1))) ∧ ((applyR (l1.map (·.1)) x room).2 ≠ 0 → lg = [] ∧ lc = []) ∧ s.ok ∧ sg.ok ∧ sc.ok ∧ H' = H) := by
  have hl := hz.len
  have hm : m.le m := Snap.le.refl m
  refine fn_end Try.func42 rfl rfl rfl ?_
  refine c_seq (fun K0 hK0 => ?_)
  refine c_region ?_
  refine r_s rfl ?_
  refine s_box_a rfl rfl (fun b0 => ?_)
  refine r_y rfl rfl (y_assign rfl) ?_
  refine r_s rfl ?_
  refine s_alloc rfl tz69 (fun b1 => ?_)
  refine r_y rfl rfl (y_assign rfl) ?_
  refine r_nil ?_
  refine hK0 _ _ _ ?_
  clear hK0 K0
  refine c_seq (fun K1 hK1 => ?_)
  refine c_region ?_
  refine r_y rfl rfl (y_move rfl) ?_
  refine r_y rfl rfl (y_load_a (cs := encMod x sm) rfl ts32 (RdA.blk (i := 1) rfl rfl)) ?_
  refine r_y rfl rfl (y_move rfl) ?_
  refine r_s rfl ?_
  refine s_call0 rfl Try.call33 rfl (applyF_w s1 l1 x sm room _ _ hz hfa hfit hzx hokx hfx) ?_
  rintro _ m2 _ hm2 ⟨sa, la, rfl, hza, hla, hna, rfl⟩
  replace hm := hm.trans hm2
  replace hz := hz.mono hm2
  replace hzx := hzx.mono hm2
  clear hm2
  refine r_y rfl rfl (y_move rfl) ?_
  refine r_y rfl rfl (y_extract rfl rfl) ?_
  refine r_y rfl rfl (y_extract rfl rfl) ?_
  refine r_y rfl rfl (y_assign rfl) ?_
  refine r_y rfl rfl (y_assign rfl) ?_
  refine r_nil ?_
  refine hK1 _ _ _ ?_
  clear hK1 K1
  refine c_seq (fun K2 hK2 => ?_)
  refine c_seq (fun K3 hK3 => ?_)
  refine c_region ?_
  refine r_y rfl rfl (y_move rfl) ?_
  refine r_y rfl rfl (y_iop rfl rfl rfl) ?_
  refine r_nil ?_
  refine hK3 _ _ _ ?_
  clear hK3 K3
  refine c_cond rfl (fun hC => ?_) (fun hC => ?_)
  ·
    refine c_seq (fun K4 hK4 => ?_)
    refine c_region ?_
    refine r_y rfl rfl (y_bld rfl tz69 fk69 bp69_ rfl rfl) ?_
    refine r_y rfl rfl (y_move rfl) ?_
    refine r_y rfl rfl (y_assign rfl) ?_
    refine r_s rfl ?_
    refine s_store rfl rfl rfl ts69 rfl rfl (by simp [Value.oneCell', wv, Sl.v]) (i := 0) rfl rfl ?_
    refine r_y rfl rfl (y_assign rfl) ?_
    refine r_nil ?_
    refine hK4 _ _ _ ?_
    clear hK4 K4
    refine c_ret ?_
    refine e_ret 2 hm (res3 (r1_tmp rfl) (r1_cell_a rfl ts69 (RdA.blk (i := 0) rfl rfl)) (r1_tmp rfl)) ?_
    have hne : (applyR (l1.map (·.1)) x room).2 ≠ 0 := by simpa using hC
    exact ⟨zSl, [], zSl, [], zSl, [], rfl, fzR_nil _, fzR_nil _, fzR_nil _, (applyR_err hne).symm, fun h => absurd h hne, fun _ => ⟨rfl, rfl⟩, fun _ => rfl, fun _ => rfl, fun _ => rfl, rfl⟩
  ·
    have hc0 : (applyR (l1.map (·.1)) x room).2 = 0 := by simpa using hC
    have hTT := applyR_eff hc0
    have hTa : ruleTable (la.map (·.1)) = true := by rw [hla]; exact applyR_table hc0
    have hfa2 := acts_of hla (applyR_acts (acts_to hfa) hfx)
    have hlen := applyR_len (l1.map (·.1)) x room
    rw [← hla] at hlen
    simp only [List.length_map] at hlen
    refine c_skip ?_
    refine hK2 _ _ _ ?_
    clear hK2 K2
    refine c_seq (fun K5 hK5 => ?_)
    refine c_region ?_
    refine r_y rfl rfl (y_move rfl) ?_
    refine r_y rfl rfl (y_move rfl) ?_
    refine r_y rfl rfl (y_move rfl) ?_
    refine r_s rfl ?_
    refine s_call0 rfl Try.call101 rfl (diff_w s1 l1 sa la _ _ hz hza hfa hfa2 (by omega) (by omega) hTT.1 hTa) ?_
    rintro _ m2 _ hm2 ⟨sg, lg, sc, lc, rfl, hzg, hzc, hlg, hlc, hng, hnc, rfl⟩
    replace hm := hm.trans hm2
    replace hz := hz.mono hm2
    replace hzx := hzx.mono hm2
    replace hza := hza.mono hm2
    clear hm2
    refine r_y rfl rfl (y_assign rfl) ?_
    refine r_s rfl ?_
    refine s_store (us := encPatch sg sc) rfl rfl rfl ts69 rfl rfl (one_patch _ _) (i := 0) rfl rfl ?_
    refine r_y rfl rfl (y_assign rfl) ?_
    refine r_nil ?_
    refine hK5 _ _ _ ?_
    clear hK5 K5
    refine c_ret ?_
    refine e_ret 2 hm (res3 (r1_tmp rfl) (r1_cell_a rfl ts69 (RdA.blk (i := 0) rfl rfl)) (r1_tmp rfl)) ?_
    refine ⟨sa, la, sg, lg, sc, lc, ?_, hza, hzg, hzc, hla, fun _ => ⟨by rw [hlg, hla], by rw [hlc, hla]⟩, fun h => absurd hc0 h, hna, hng, hnc, rfl⟩
    rw [hc0]; rfl
end Go.Aw
