/- Part 10 of the words and walks that the proof behind it uses. -/
import Derived.Test.YtnmhkhobjaklhaaCodeTurnedP9
set_option linter.unusedVariables false
set_option linter.unusedSimpArgs false
namespace Go.Aw
open Go Go.Proofs
set_option maxRecDepth 100000 in
theorem rEncode_w (x : MsgD) (sm sr : Sl) (lr : List (RuleD × Sl)) (m : Snap) (H : Hp) (hz : MsgOk m x sm sr lr) (l : List UInt8) (he : encode x = some l) : Fn Try.prog 25 [.agg (encMsg x sm sr).toArray] m H (fun v m' H' => ∃ s' : Sl, v = s'.v ∧ s'.n = l.length ∧ H' = vItem s' l :: H) := by
  have hl := hz.len
  have hq := hz.eq
  have hll : lr.length = x.rules.length := by rw [hq]; simp
  obtain ⟨hs, hr⟩ := encode_some he
  have hm : m.le m := Snap.le.refl m
  refine fn_end Try.func25 rfl rfl rfl ?_
  refine c_seq (fun K0 hK0 => ?_)
  refine c_region ?_
  refine r_s rfl ?_
  refine s_box_a rfl rfl (fun b0 => ?_)
  refine r_y rfl rfl (y_assign rfl) ?_
  refine r_nil ?_
  refine hK0 _ _ _ ?_
  clear hK0 K0
  refine c_seq (fun K1 hK1 => ?_)
  refine c_draw ([.blk b0 (.cells (encMsg x sm sr).toArray 35)]) (by kernel_rfl) (fun hg => ?_)
  have hz_g := hz
  refine g_y (i := 0) (listed' := #[true, false, false, false, false, false, false, false, false, false]) rfl (by kernel_rfl) (by kernel_rfl) (by kernel_rfl) (by kernel_rfl) rfl rfl hg (allc (List.Mem.head _) alln) (fun m' H' hm' hX' => y_fieldAddr rfl At.lit fo35_0 rfl) ?_
  refine g_y (i := 1) (listed' := #[true, true, false, false, false, false, false, false, false, false]) rfl (by kernel_rfl) (by kernel_rfl) (by kernel_rfl) (by kernel_rfl) rfl rfl hg (allc (List.Mem.head _) alln) (fun m' H' hm' hX' => y_load_s rfl ts3 (RdS.mem (hX' _ (List.Mem.head _)) rfl)) ?_
  refine g_y (i := 2) (listed' := #[true, true, true, false, false, false, false, false, false, false]) rfl (by kernel_rfl) (by kernel_rfl) (by kernel_rfl) (by kernel_rfl) rfl rfl hg (allc (List.Mem.head _) alln) (fun m' H' hm' hX' => y_conv_i8 rfl un3 un5) ?_
  refine g_y (i := 4) (listed' := #[true, true, true, false, true, false, false, false, false, false]) rfl (by kernel_rfl) (by kernel_rfl) (by kernel_rfl) (by kernel_rfl) rfl rfl hg (allc (List.Mem.head _) alln) (fun m' H' hm' hX' => y_fieldAddr rfl At.lit fo35_1 rfl) ?_
  refine g_y (i := 5) (listed' := #[true, true, true, false, true, true, false, false, false, false]) rfl (by kernel_rfl) (by kernel_rfl) (by kernel_rfl) (by kernel_rfl) rfl rfl hg (allc (List.Mem.head _) alln) (fun m' H' hm' hX' => y_load_s rfl ts3 (RdS.mem (hX' _ (List.Mem.head _)) rfl)) ?_
  refine g_y (i := 6) (listed' := #[true, true, true, false, true, true, true, false, false, false]) rfl (by kernel_rfl) (by kernel_rfl) (by kernel_rfl) (by kernel_rfl) rfl rfl hg (allc (List.Mem.head _) alln) (fun m' H' hm' hX' => y_conv_iw rfl un3 un25) ?_
  refine g_each (rs := [3, 7]) (by kernel_rfl) (by simp) ⟨⟨_, rfl, rfl, ?_⟩, ⟨_, rfl, rfl, ?_⟩, trivial⟩
  ·
    refine s_buildSlice (cs := [bv (b8 x.kind)]) (e := 5) rfl rfl (fun _ => by kernel_rfl) (fun b1 => ?_)
    refine ⟨⟨hg, (allc (List.Mem.tail _ (List.Mem.head _)) alln)⟩, ?_⟩
    refine g_s (i := 7) (listed' := #[true, true, true, true, true, true, true, true, false, false]) rfl (by kernel_rfl) (by kernel_rfl) rfl ?_
    refine s_call0 rfl Try.call66 rfl (rNum_w (iw x.txn) 4 _ _ (by decide)) ?_
    rintro _ m2 _ hm2 ⟨sn, rfl, hzsn, hosn, rfl⟩
    replace hm := hm.trans hm2
    refine ⟨⟨hg.trans hm2, (allc (List.Mem.tail _ (List.Mem.head _)) alln)⟩, ?_⟩
    replace hg := hg.trans hm2
    replace hz := hz.mono hm2
    clear hm2
    refine g_toVec (i := 0) (s := 1) (k := 1) [[bv (b8 x.kind)]] rfl rfl (fun c h => by simp at h; subst h; rfl) rfl (by unfold maxLen; omega) ?_
    have hlsn := Fz.lenB hzsn
    rw [wput_len] at hlsn
    refine g_s (i := 8) (listed' := #[true, true, true, true, true, true, true, true, true, false]) rfl (by kernel_rfl) (by kernel_rfl) rfl ?_
    refine s_append rfl rfl rfl tl22 zo5 tb5 (i := 0) rfl (Src.fz hzsn (one_bytes _) hosn) (by omega) (by unfold maxLen; omega) (fun a1 c1 => ?_)
    refine ⟨⟨hg, (allc (List.Mem.tail _ (List.Mem.head _)) alln)⟩, ?_⟩
    refine g_y (i := 9) (listed' := #[true, true, true, true, true, true, true, true, true, true]) rfl (by kernel_rfl) (by kernel_rfl) (by kernel_rfl) (by kernel_rfl) rfl rfl hg (allc (List.Mem.tail _ (List.Mem.head _)) alln) (fun m' H' hm' hX' => y_assign rfl) ?_
    refine g_done (by kernel_rfl) ?_
    clear hg hz_g
    refine hK1 _ _ _ ?_
    clear hK1 K1
    refine c_seq (fun K2 hK2 => ?_)
    refine c_seq (fun K3 hK3 => ?_)
    refine c_region ?_
    refine r_y rfl rfl (y_fieldAddr rfl At.lit fo35_0 rfl) ?_
    refine r_y rfl rfl (y_load_s rfl ts3 (RdS.blk (i := 1) rfl rfl)) ?_
    refine r_nil ?_
    refine hK3 _ _ _ ?_
    clear hK3 K3
    refine c_block ?_
    refine c_seq (fun K4 hK4 => ?_)
    refine c_region ?_
    refine r_y rfl rfl (y_iop rfl rfl rfl) ?_
    refine r_y rfl rfl (y_assign rfl) ?_
    refine r_nil ?_
    refine hK4 _ _ _ ?_
    clear hK4 K4
    refine c_cond rfl (fun k1 => ?_) (fun k1 => ?_)
    ·
      have hac := msgSound_mod hs k1
      refine c_seq (fun K5 hK5 => ?_)
      refine c_region ?_
      refine r_y rfl rfl (y_move rfl) ?_
      refine r_y rfl rfl (y_fieldAddr rfl At.lit fo35_3 rfl) ?_
      refine r_y rfl rfl (y_fieldAddr rfl At.lit fo32_0 rfl) ?_
      refine r_y rfl rfl (y_load_s rfl ts3 (RdS.blk (i := 1) rfl rfl)) ?_
      refine r_y rfl rfl (y_conv_i8 rfl un3 un5) ?_
      refine r_s rfl ?_
      refine s_buildSlice (cs := [bv (b8 x.mod.kind)]) (e := 5) rfl rfl (fun _ => by kernel_rfl) (fun b2 => ?_)
      refine r_s rfl ?_
      refine s_append rfl rfl rfl tl22 zo5 tb5 (i := 1) rfl (Src.one' (i := 0) rfl rfl (by simp [bv, Value.oneCell'])) (by omega) (by unfold maxLen; omega) (fun a2 c2 => ?_)
      refine r_del 0 rfl ?_
      refine r_y rfl rfl (y_assign rfl) ?_
      refine r_nil ?_
      refine hK5 _ _ _ ?_
      clear hK5 K5
      refine c_seq (fun K6 hK6 => ?_)
      refine c_region ?_
      refine r_y rfl rfl (y_move rfl) ?_
      refine r_y rfl rfl (y_fieldAddr rfl At.lit fo35_3 rfl) ?_
      refine r_y rfl rfl (y_fieldAddr rfl At.lit fo32_1 rfl) ?_
      refine r_y rfl rfl (y_load_a (cs := encCube x.mod.m) rfl ts29 (RdA.blk (i := 1) rfl rfl)) ?_
      refine r_y rfl rfl (y_fieldAddr rfl At.lit fo35_3 rfl) ?_
      refine r_y rfl rfl (y_fieldAddr rfl At.lit fo32_2 rfl) ?_
      refine r_y rfl rfl (y_load_s rfl ts3 (RdS.blk (i := 1) rfl rfl)) ?_
      refine r_y rfl rfl (y_fieldAddr rfl At.lit fo35_3 rfl) ?_
      refine r_y rfl rfl (y_fieldAddr rfl At.lit fo32_4 rfl) ?_
      refine r_y rfl rfl (y_load_s rfl ts3 (RdS.blk (i := 1) rfl rfl)) ?_
      refine r_y rfl rfl (y_fieldAddr rfl At.lit fo35_3 rfl) ?_
      refine r_y rfl rfl (y_fieldAddr rfl At.lit fo32_5 rfl) ?_
      refine r_y rfl rfl (y_load_s rfl ts3 (RdS.blk (i := 1) rfl rfl)) ?_
      refine r_y rfl rfl (y_fieldAddr rfl At.lit fo35_3 rfl) ?_
      refine r_y rfl rfl (y_fieldAddr rfl At.lit fo32_6 rfl) ?_
      refine r_y rfl rfl (y_load_s rfl ts3 (RdS.blk (i := 1) rfl rfl)) ?_
      refine r_s rfl ?_
      refine s_call0 rfl Try.call67 rfl (rHeads_w x.mod.m x.mod.prio x.mod.idle x.mod.hard x.mod.owner _ _) ?_
      rintro _ m2 _ hm2 ⟨s5, rfl, hzs5, hos5, rfl⟩
      replace hm := hm.trans hm2
      replace hz := hz.mono hm2
      replace hzsn := hzsn.mono hm2
      clear hm2
      have hls5 := Fz.lenB hzs5
      rw [wmatch_len] at hls5
      refine r_s rfl ?_
      refine s_append rfl rfl rfl tl22 zo5 tb5 (i := 0) rfl (Src.fz hzs5 (one_bytes _) hos5) (by omega) (by unfold maxLen; omega) (fun a3 c3 => ?_)
      refine r_y rfl rfl (y_assign rfl) ?_
      refine r_nil ?_
      refine hK6 _ _ _ ?_
      clear hK6 K6
      refine c_seq (fun K7 hK7 => ?_)
      refine c_seq (fun K8 hK8 => ?_)
      refine c_region ?_
      refine r_y rfl rfl (y_fieldAddr rfl At.lit fo35_3 rfl) ?_
      refine r_y rfl rfl (y_fieldAddr rfl At.lit fo32_7 rfl) ?_
      refine r_y rfl rfl (y_load_s rfl ts4 (RdS.blk (i := 1) rfl rfl)) ?_
      refine r_nil ?_
      refine hK8 _ _ _ ?_
      clear hK8 K8
      refine c_cond rfl (fun kc => ?_) (fun kc => ?_)
      ·
        refine c_region ?_
        refine r_y rfl rfl (y_move rfl) ?_
        refine r_s rfl ?_
        refine s_buildSlice (cs := [.int .u8 1]) (e := 5) rfl rfl (fun _ => by kernel_rfl) (fun b3 => ?_)
        refine r_s rfl ?_
        refine s_append rfl rfl rfl tl22 zo5 tb5 (i := 1) rfl (Src.one' (i := 0) rfl rfl (by simp [bv, Value.oneCell'])) (by omega) (by unfold maxLen; omega) (fun a4 c4 => ?_)
        refine r_del 0 rfl ?_
        refine r_y rfl rfl (y_assign rfl) ?_
        refine r_nil ?_
        refine hK7 _ _ _ ?_
        clear hK7 K7
        refine c_region ?_
        refine r_y rfl rfl (y_move rfl) ?_
        refine r_y rfl rfl (y_fieldAddr rfl At.lit fo35_3 rfl) ?_
        refine r_y rfl rfl (y_fieldAddr rfl At.lit fo32_3 rfl) ?_
        refine r_y rfl rfl (y_load_s rfl ts30 (RdS.blk (i := 1) rfl rfl)) ?_
        refine r_s rfl ?_
        refine s_call0 rfl Try.call68 rfl (rActs2_w sm x.mod.acts _ _ hz.mod (by omega)) ?_
        rintro _ m2 _ hm2 ⟨s9, rfl, hzs9, hos9, rfl⟩
        replace hm := hm.trans hm2
        replace hz := hz.mono hm2
        replace hzsn := hzsn.mono hm2
        replace hzs5 := hzs5.mono hm2
        clear hm2
        have hls9 := Fz.lenB hzs9
        rw [wacts_len] at hls9
        refine r_s rfl ?_
        refine s_append rfl rfl rfl tl22 zo5 tb5 (i := 0) rfl (Src.fz hzs9 (one_bytes _) hos9) (by omega) (by unfold maxLen; omega) (fun a5 c5 => ?_)
        refine r_y rfl rfl (y_assign rfl) ?_
        refine r_nil ?_
        refine hK2 _ _ _ ?_
        clear hK2 K2
        refine c_seq (fun K9 hK9 => ?_)
        refine c_region ?_
        refine r_y rfl rfl (y_move rfl) ?_
        refine r_y rfl rfl (y_assign rfl) ?_
        refine r_nil ?_
        refine hK9 _ _ _ ?_
        clear hK9 K9
        refine c_ret ?_
        refine e_retf [0, 1] 1 hm (res_tmps rfl) ?_
        have hE := enc_1 he k1
        rw [hE]
        exact ⟨⟨a5, _, c5⟩, rfl, by simp [hlsn, hls5, hls9] <;> omega, by simp only [vItem, bytes1_append, bytes1_one, kc, if_true] <;> rfl⟩
      ·
        refine c_region ?_
        refine r_y rfl rfl (y_move rfl) ?_
        refine r_s rfl ?_
        refine s_buildSlice (cs := [.int .u8 0]) (e := 5) rfl rfl (fun _ => by kernel_rfl) (fun b3 => ?_)
        refine r_s rfl ?_
        refine s_append rfl rfl rfl tl22 zo5 tb5 (i := 1) rfl (Src.one' (i := 0) rfl rfl (by simp [bv, Value.oneCell'])) (by omega) (by unfold maxLen; omega) (fun a4 c4 => ?_)
        refine r_del 0 rfl ?_
        refine r_y rfl rfl (y_assign rfl) ?_
        refine r_nil ?_
        refine hK7 _ _ _ ?_
        clear hK7 K7
        refine c_region ?_
        refine r_y rfl rfl (y_move rfl) ?_
        refine r_y rfl rfl (y_fieldAddr rfl At.lit fo35_3 rfl) ?_
        refine r_y rfl rfl (y_fieldAddr rfl At.lit fo32_3 rfl) ?_
        refine r_y rfl rfl (y_load_s rfl ts30 (RdS.blk (i := 1) rfl rfl)) ?_
        refine r_s rfl ?_
        refine s_call0 rfl Try.call68 rfl (rActs2_w sm x.mod.acts _ _ hz.mod (by omega)) ?_
        rintro _ m2 _ hm2 ⟨s9, rfl, hzs9, hos9, rfl⟩
        replace hm := hm.trans hm2
        replace hz := hz.mono hm2
        replace hzsn := hzsn.mono hm2
        replace hzs5 := hzs5.mono hm2
        clear hm2
        have hls9 := Fz.lenB hzs9
        rw [wacts_len] at hls9
        refine r_s rfl ?_
        refine s_append rfl rfl rfl tl22 zo5 tb5 (i := 0) rfl (Src.fz hzs9 (one_bytes _) hos9) (by omega) (by unfold maxLen; omega) (fun a5 c5 => ?_)
        refine r_y rfl rfl (y_assign rfl) ?_
        refine r_nil ?_
        refine hK2 _ _ _ ?_
        clear hK2 K2
        refine c_seq (fun K10 hK10 => ?_)
        refine c_region ?_
        refine r_y rfl rfl (y_move rfl) ?_
        refine r_y rfl rfl (y_assign rfl) ?_
        refine r_nil ?_
        refine hK10 _ _ _ ?_
        clear hK10 K10
        refine c_ret ?_
        refine e_retf [0, 1] 1 hm (res_tmps rfl) ?_
        have hE := enc_1 he k1
        rw [hE]
        exact ⟨⟨a5, _, c5⟩, rfl, by simp [hlsn, hls5, hls9] <;> omega, by simp only [vItem, bytes1_append, bytes1_one, kc, Bool.false_eq_true, if_false] <;> rfl⟩
    ·
      refine c_seq (fun K11 hK11 => ?_)
      refine c_region ?_
      refine r_y rfl rfl (y_iop rfl rfl rfl) ?_
      refine r_y rfl rfl (y_assign rfl) ?_
      refine r_nil ?_
      refine hK11 _ _ _ ?_
      clear hK11 K11
      refine c_cond rfl (fun k6 => ?_) (fun k6 => ?_)
      ·
        refine c_region ?_
        refine r_y rfl rfl (y_move rfl) ?_
        refine r_y rfl rfl (y_fieldAddr rfl At.lit fo35_2 rfl) ?_
        refine r_y rfl rfl (y_load_s rfl ts24 (RdS.blk (i := 1) rfl rfl)) ?_
        refine r_y rfl rfl (y_conv_i8 rfl un24 un5) ?_
        refine r_s rfl ?_
        refine s_buildSlice (cs := [bv (b8 x.e)]) (e := 5) rfl rfl (fun _ => by kernel_rfl) (fun b2 => ?_)
        refine r_s rfl ?_
        refine s_append rfl rfl rfl tl22 zo5 tb5 (i := 1) rfl (Src.one' (i := 0) rfl rfl (by simp [bv, Value.oneCell'])) (by omega) (by unfold maxLen; omega) (fun a2 c2 => ?_)
        refine r_del 0 rfl ?_
        refine r_y rfl rfl (y_assign rfl) ?_
        refine r_nil ?_
        refine hK2 _ _ _ ?_
        clear hK2 K2
        refine c_seq (fun K12 hK12 => ?_)
        refine c_region ?_
        refine r_y rfl rfl (y_move rfl) ?_
        refine r_y rfl rfl (y_assign rfl) ?_
        refine r_nil ?_
        refine hK12 _ _ _ ?_
        clear hK12 K12
        refine c_ret ?_
        refine e_retf [0, 1] 1 hm (res_tmps rfl) ?_
        have hE := enc_6 he k6
        rw [hE]
        exact ⟨⟨a2, _, c2⟩, rfl, by simp [hlsn] <;> omega, by simp only [vItem, bytes1_append, bytes1_one, List.append_assoc] <;> rfl⟩
      ·
        refine c_seq (fun K13 hK13 => ?_)
        refine c_region ?_
        refine r_y rfl rfl (y_iop rfl rfl rfl) ?_
        refine r_y rfl rfl (y_assign rfl) ?_
        refine r_nil ?_
        refine hK13 _ _ _ ?_
        clear hK13 K13
        refine c_cond rfl (fun k8 => ?_) (fun k8 => ?_)
        ·
          refine c_seq (fun K14 hK14 => ?_)
          refine c_region ?_
          refine r_y rfl rfl (y_move rfl) ?_
          refine r_y rfl rfl (y_fieldAddr rfl At.lit fo35_4 rfl) ?_
          refine r_y rfl rfl (y_load_s rfl ts3 (RdS.blk (i := 1) rfl rfl)) ?_
          refine r_y rfl rfl (y_conv_i8 rfl un3 un5) ?_
          refine r_s rfl ?_
          refine s_buildSlice (cs := [bv (b8 x.port)]) (e := 5) rfl rfl (fun _ => by kernel_rfl) (fun b2 => ?_)
          refine r_s rfl ?_
          refine s_append rfl rfl rfl tl22 zo5 tb5 (i := 1) rfl (Src.one' (i := 0) rfl rfl (by simp [bv, Value.oneCell'])) (by omega) (by unfold maxLen; omega) (fun a2 c2 => ?_)
          refine r_del 0 rfl ?_
          refine r_y rfl rfl (y_assign rfl) ?_
          refine r_nil ?_
          refine hK14 _ _ _ ?_
          clear hK14 K14
          refine c_seq (fun K15 hK15 => ?_)
          refine c_region ?_
          refine r_y rfl rfl (y_assign rfl) ?_
          refine r_nil ?_
          refine hK15 _ _ _ ?_
          clear hK15 K15
          refine c_block ?_
          refine c_loopx (α := Nat × Sl) (fun vv => match vv with | (i, sv) => [(1, .pointer (some ⟨b0, 0, none⟩)), (3, sv.v), (4, .int .i64 (i : Nat))]) (fun vv => match vv with | (i, sv) => .vec sv.a sv.n sv.cap 5 1 (bytes1 ([b8 x.kind] ++ wput (iw x.txn) 4 ++ [b8 x.port] ++ wputs 8 ((headL x.head).take i))) :: .blk b0 (.cells (encMsg x sm sr).toArray 35) :: H) (fun k0 vv m1 => match vv with | (i, sv) => (i + k0 = 12 ∧ sv.n = ([b8 x.kind] ++ wput (iw x.txn) 4 ++ [b8 x.port] ++ wputs 8 ((headL x.head).take i)).length) ∧ m.le m1 ∧ (MsgOk m1 x sm sr lr)) (12) (0, ⟨a2, 1 + sn.n + 1, c2⟩) ⟨rfl, rfl, rfl, trivial⟩ (by simp only [List.take_zero, wputs, List.append_nil, bytes1_append, bytes1_one] <;> rfl) ⟨⟨by omega, by simp [hlsn, wputs]⟩, hm, hz⟩ ?_
          clear hm hz
          rintro k0 ⟨i, sv⟩ m1 ⟨hi0, hm, hz⟩
          obtain ⟨hi, hsn⟩ := hi0
          have hsl : sv.n ≤ 102 := by rw [hsn]; simp [headL]; omega
          refine c_seq (fun K16 hK16 => ?_)
          refine c_seq (fun K17 hK17 => ?_)
          refine c_region ?_
          refine r_y rfl rfl (y_move rfl) ?_
          refine r_y rfl rfl (y_iop rfl rfl rfl) ?_
          refine r_nil ?_
          refine hK17 _ _ _ ?_
          clear hK17 K17
          refine c_cond rfl (fun hi8 => ?_) (fun hi8 => ?_)
          ·
            have hlt : i < 12 := by simp at hi8; omega
            refine c_skip ?_
            refine hK16 _ _ _ ?_
            clear hK16 K16
            refine c_seq (fun K18 hK18 => ?_)
            refine c_block ?_
            refine c_region ?_
            refine r_y rfl rfl (y_move rfl) ?_
            refine r_y rfl rfl (y_move rfl) ?_
            refine r_y rfl rfl (y_fieldAddr rfl At.lit fo35_5 rfl) ?_
            refine r_y rfl rfl (y_indexAddr_arr rfl rfl ta27 hlt At.lit) ?_
            refine r_y rfl rfl (y_load_s rfl ts25 (RdS.blk (i := 1) rfl (cget_msghead _ _ _ hlt))) ?_
            refine r_s rfl ?_
            refine s_call0 rfl Try.call66 rfl (rNum_w (x.head.at i) 8 _ _ (by decide)) ?_
            rintro _ m2 _ hm2 ⟨sn, rfl, hzsn, hosn, rfl⟩
            replace hm := hm.trans hm2
            replace hz := hz.mono hm2
            clear hm2
            have hlsn := Fz.lenB hzsn
            rw [wput_len] at hlsn
            refine r_s rfl ?_
            refine s_append rfl rfl rfl tl22 zo5 tb5 (i := 0) rfl (Src.fz hzsn (one_bytes _) hosn) (by omega) (by unfold maxLen; omega) (fun a1 c1 => ?_)
            refine r_y rfl rfl (y_assign rfl) ?_
            refine r_nil ?_
            refine hK18 _ _ _ ?_
            clear hK18 K18
            refine c_region ?_
            refine r_y rfl rfl (y_move rfl) ?_
            first | refine r_y rfl rfl (y_inc rfl (by omega)) ?_ | refine r_y rfl rfl (y_iop rfl rfl rfl) ?_
            refine r_y rfl rfl (y_assign rfl) ?_
            refine r_nil ?_
            exact ⟨k0 - 1, (i + 1, ⟨a1, sv.n + sn.n, c1⟩), by omega, ⟨rfl, rfl, rfl, trivial⟩, (by simp only [← whead_step _ hlt, ← List.append_assoc, bytes1_append] <;> rfl), ⟨by omega, by simp only [hsn, hlsn, ← whead_step _ hlt, List.length_append, wput_len]; try omega⟩, hm, hz⟩
          ·
            obtain rfl : i = 12 := by simp at hi8; omega
            refine c_exit ?_
            refine hK2 _ _ _ ?_
            clear hK16 K16 hK2 K2
            refine c_seq (fun K19 hK19 => ?_)
            refine c_region ?_
            refine r_y rfl rfl (y_move rfl) ?_
            refine r_y rfl rfl (y_assign rfl) ?_
            refine r_nil ?_
            refine hK19 _ _ _ ?_
            clear hK19 K19
            refine c_ret ?_
            refine e_retf [0, 1] 1 hm (res_tmps rfl) ?_
            have hE := enc_8 he k8
            have hW : wputs 8 ((headL x.head).take 12) = whead x.head := by rw [List.take_of_length_le (by simp [headL])]; rfl
            rw [hE]
            exact ⟨sv, rfl, by rw [hsn, hW], by simp only [vItem, hW] <;> rfl⟩
        ·
          refine c_seq (fun K20 hK20 => ?_)
          refine c_seq (fun K21 hK21 => ?_)
          refine c_region ?_
          refine r_y rfl rfl (y_iop rfl rfl rfl) ?_
          refine r_y rfl rfl (y_assign rfl) ?_
          refine r_nil ?_
          refine hK21 _ _ _ ?_
          clear hK21 K21
          refine c_cond rfl (fun k9 => ?_) (fun k9 => ?_)
          ·
            refine c_skip ?_
            refine hK20 _ _ _ ?_
            clear hK20 K20
            refine c_ift rfl k9 ?_
            refine c_seq (fun K22 hK22 => ?_)
            refine c_region ?_
            refine r_y rfl rfl (y_move rfl) ?_
            refine r_y rfl rfl (y_fieldAddr rfl At.lit fo35_6 rfl) ?_
            refine r_y rfl rfl (y_load_s rfl ts33 (RdS.blk (i := 1) rfl rfl)) ?_
            refine r_y rfl rfl (y_len tl33 rfl) ?_
            refine r_y rfl rfl (y_conv_iw rfl un3 un25) ?_
            refine r_s rfl ?_
            refine s_call0 rfl Try.call66 rfl (rNum_w (iw (sr.n : Nat)) 2 _ _ (by decide)) ?_
            rintro _ m2 _ hm2 ⟨s2, rfl, hzs2, hos2, rfl⟩
            replace hm := hm.trans hm2
            replace hz := hz.mono hm2
            replace hzsn := hzsn.mono hm2
            clear hm2
            have hls2 := Fz.lenB hzs2
            rw [wput_len] at hls2
            refine r_s rfl ?_
            refine s_append rfl rfl rfl tl22 zo5 tb5 (i := 0) rfl (Src.fz hzs2 (one_bytes _) hos2) (by omega) (by unfold maxLen; omega) (fun a2 c2 => ?_)
            refine r_y rfl rfl (y_assign rfl) ?_
            refine r_nil ?_
            refine hK22 _ _ _ ?_
            clear hK22 K22
            refine c_seq (fun K23 hK23 => ?_)
            refine c_region ?_
            refine r_y rfl rfl (y_assign rfl) ?_
            refine r_nil ?_
            refine hK23 _ _ _ ?_
            clear hK23 K23
            refine c_block ?_
            have hact : ∀ y ∈ lr.map (·.1), y.acts.length ≤ 8 := hq ▸ msgSound_rules hs (by first | exact .inl (by simpa using k9) | exact .inr (by simpa using k10))
            refine c_loopx (α := Nat × Sl) (fun vv => match vv with | (i, sv) => [(1, .pointer (some ⟨b0, 0, none⟩)), (3, sv.v), (5, .int .i64 (i : Nat))]) (fun vv => match vv with | (i, sv) => .vec sv.a sv.n sv.cap 5 1 (bytes1 ([b8 x.kind] ++ wput (iw x.txn) 4 ++ wput (iw (sr.n : Nat)) 2 ++ wrulesL ((lr.map (·.1)).take i))) :: .blk b0 (.cells (encMsg x sm sr).toArray 35) :: H) (fun k1 vv m1 => match vv with | (i, sv) => (i + k1 = sr.n ∧ sv.n = ([b8 x.kind] ++ wput (iw x.txn) 4 ++ wput (iw (sr.n : Nat)) 2 ++ wrulesL ((lr.map (·.1)).take i)).length) ∧ m.le m1 ∧ (MsgOk m1 x sm sr lr)) (sr.n) (0, ⟨a2, 1 + sn.n + s2.n, c2⟩) ⟨rfl, rfl, rfl, trivial⟩ (by simp only [List.take_zero, wrulesL, List.append_nil, bytes1_append, bytes1_one] <;> rfl) ⟨⟨by omega, by simp [hlsn, hls2, wrulesL]⟩, hm, hz⟩ ?_
            clear hm hz
            rintro k1 ⟨i, sv⟩ m1 ⟨hi1, hm, hz⟩
            obtain ⟨hi, hsn⟩ := hi1
            have hbd := wrulesL_take (k := 8) i hact
            have hsl : sv.n ≤ 7 + i * 316 := by rw [hsn]; simp only [List.length_append, wput_len, List.length_cons, List.length_nil]; omega
            refine c_seq (fun K24 hK24 => ?_)
            refine c_seq (fun K25 hK25 => ?_)
            refine c_region ?_
            refine r_y rfl rfl (y_move rfl) ?_
            refine r_y rfl rfl (y_fieldAddr rfl At.lit fo35_6 rfl) ?_
            refine r_y rfl rfl (y_load_s rfl ts33 (RdS.blk (i := 1) rfl rfl)) ?_
            refine r_y rfl rfl (y_len tl33 rfl) ?_
            refine r_y rfl rfl (y_iop rfl rfl rfl) ?_
            refine r_nil ?_
            refine hK25 _ _ _ ?_
            clear hK25 K25
            refine c_cond rfl (fun hir => ?_) (fun hir => ?_)
            ·
              have hlt : i < sr.n := by simp at hir; omega
              obtain ⟨y, hy⟩ := get_of_lt (l := lr) (k := i) (by omega)
              have hx1 : (lr.map (·.1))[i]? = some y.1 := map_get hy
              have hya := hact y.1 (List.mem_of_getElem? hx1)
              refine c_skip ?_
              refine hK24 _ _ _ ?_
              clear hK24 K24
              refine c_seq (fun K26 hK26 => ?_)
              refine c_block ?_
              refine c_seq (fun K27 hK27 => ?_)
              refine c_region ?_
              refine r_y rfl rfl (y_fieldAddr rfl At.lit fo35_6 rfl) ?_
              refine r_y rfl rfl (y_load_s rfl ts33 (RdS.blk (i := 1) rfl rfl)) ?_
              refine r_y rfl rfl (y_move rfl) ?_
              refine r_y rfl rfl (y_indexAddr_slice rfl rfl tl33 hlt (At.fz hz.rules.fz hlt)) ?_
              refine r_y rfl rfl (y_load_a rfl ts50 (RdA.fz0 hz.rules.fz (map_get hy))) ?_
              refine r_s rfl ?_
              refine s_alloc rfl tz50 (fun b2 => ?_)
              refine r_s rfl ?_
              refine s_store (us := encRule y.1 y.2) rfl rfl rfl ts50 rfl rfl (one_rule _ _) (i := 0) rfl rfl ?_
              refine r_nil ?_
              refine hK27 _ _ _ ?_
              clear hK27 K27
              refine c_seq (fun K28 hK28 => ?_)
              refine c_region ?_
              refine r_y rfl rfl (y_move rfl) ?_
              refine r_y rfl rfl (y_fieldAddr rfl At.lit fo50_0 rfl) ?_
              refine r_y rfl rfl (y_load_a (cs := encCube y.1.m) rfl ts29 (RdA.blk (i := 0) rfl rfl)) ?_
              refine r_y rfl rfl (y_fieldAddr rfl At.lit fo50_1 rfl) ?_
              refine r_y rfl rfl (y_load_s rfl ts3 (RdS.blk (i := 0) rfl rfl)) ?_
              refine r_y rfl rfl (y_fieldAddr rfl At.lit fo50_3 rfl) ?_
              refine r_y rfl rfl (y_load_s rfl ts3 (RdS.blk (i := 0) rfl rfl)) ?_
              refine r_y rfl rfl (y_fieldAddr rfl At.lit fo50_4 rfl) ?_
              refine r_y rfl rfl (y_load_s rfl ts3 (RdS.blk (i := 0) rfl rfl)) ?_
              refine r_y rfl rfl (y_fieldAddr rfl At.lit fo50_5 rfl) ?_
              refine r_y rfl rfl (y_load_s rfl ts3 (RdS.blk (i := 0) rfl rfl)) ?_
              refine r_s rfl ?_
              refine s_call0 rfl Try.call67 rfl (rHeads_w y.1.m y.1.prio y.1.idle y.1.hard y.1.owner _ _) ?_
              rintro _ m2 _ hm2 ⟨s5, rfl, hzs5, hos5, rfl⟩
              replace hm := hm.trans hm2
              replace hz := hz.mono hm2
              clear hm2
              have hls5 := Fz.lenB hzs5
              rw [wmatch_len] at hls5
              refine r_s rfl ?_
              refine s_append rfl rfl rfl tl22 zo5 tb5 (i := 1) rfl (Src.fz hzs5 (one_bytes _) hos5) (by omega) (by unfold maxLen; omega) (fun a5 c5 => ?_)
              refine r_y rfl rfl (y_assign rfl) ?_
              refine r_nil ?_
              refine hK28 _ _ _ ?_
              clear hK28 K28
              refine c_seq (fun K29 hK29 => ?_)
              refine c_region ?_
              refine r_y rfl rfl (y_move rfl) ?_
              refine r_y rfl rfl (y_fieldAddr rfl At.lit fo50_6 rfl) ?_
              refine r_y rfl rfl (y_load_s rfl ts3 (RdS.blk (i := 0) rfl rfl)) ?_
              refine r_y rfl rfl (y_conv_iw rfl un3 un25) ?_
              refine r_s rfl ?_
              refine s_call0 rfl Try.call66 rfl (rNum_w (iw y.1.hits) 8 _ _ (by decide)) ?_
              rintro _ m2 _ hm2 ⟨s2, rfl, hzs2, hos2, rfl⟩
              replace hm := hm.trans hm2
              replace hz := hz.mono hm2
              replace hzs5 := hzs5.mono hm2
              clear hm2
              have hls2 := Fz.lenB hzs2
              rw [wput_len] at hls2
              refine r_s rfl ?_
              refine s_append rfl rfl rfl tl22 zo5 tb5 (i := 1) rfl (Src.fz hzs2 (one_bytes _) hos2) (by omega) (by unfold maxLen; omega) (fun a6 c6 => ?_)
              refine r_y rfl rfl (y_assign rfl) ?_
              refine r_nil ?_
              refine hK29 _ _ _ ?_
              clear hK29 K29
              refine c_seq (fun K30 hK30 => ?_)
              refine c_region ?_
              refine r_y rfl rfl (y_move rfl) ?_
              refine r_y rfl rfl (y_fieldAddr rfl At.lit fo50_7 rfl) ?_
              refine r_y rfl rfl (y_load_s rfl ts3 (RdS.blk (i := 0) rfl rfl)) ?_
              refine r_y rfl rfl (y_conv_iw rfl un3 un25) ?_
              refine r_s rfl ?_
              refine s_call0 rfl Try.call66 rfl (rNum_w (iw y.1.quiet) 8 _ _ (by decide)) ?_
              rintro _ m2 _ hm2 ⟨s3, rfl, hzs3, hos3, rfl⟩
              replace hm := hm.trans hm2
              replace hz := hz.mono hm2
              replace hzs5 := hzs5.mono hm2
              replace hzs2 := hzs2.mono hm2
              clear hm2
              have hls3 := Fz.lenB hzs3
              rw [wput_len] at hls3
              refine r_s rfl ?_
              refine s_append rfl rfl rfl tl22 zo5 tb5 (i := 1) rfl (Src.fz hzs3 (one_bytes _) hos3) (by omega) (by unfold maxLen; omega) (fun a7 c7 => ?_)
              refine r_y rfl rfl (y_assign rfl) ?_
              refine r_nil ?_
              refine hK30 _ _ _ ?_
              clear hK30 K30
              refine c_seq (fun K31 hK31 => ?_)
              refine c_region ?_
              refine r_y rfl rfl (y_move rfl) ?_
              refine r_y rfl rfl (y_fieldAddr rfl At.lit fo50_8 rfl) ?_
              refine r_y rfl rfl (y_load_s rfl ts3 (RdS.blk (i := 0) rfl rfl)) ?_
              refine r_y rfl rfl (y_conv_iw rfl un3 un25) ?_
              refine r_s rfl ?_
              refine s_call0 rfl Try.call66 rfl (rNum_w (iw y.1.age) 8 _ _ (by decide)) ?_
              rintro _ m2 _ hm2 ⟨s4, rfl, hzs4, hos4, rfl⟩
              replace hm := hm.trans hm2
              replace hz := hz.mono hm2
              replace hzs5 := hzs5.mono hm2
              replace hzs2 := hzs2.mono hm2
              replace hzs3 := hzs3.mono hm2
              clear hm2
              have hls4 := Fz.lenB hzs4
              rw [wput_len] at hls4
              refine r_s rfl ?_
              refine s_append rfl rfl rfl tl22 zo5 tb5 (i := 1) rfl (Src.fz hzs4 (one_bytes _) hos4) (by omega) (by unfold maxLen; omega) (fun a8 c8 => ?_)
              refine r_y rfl rfl (y_assign rfl) ?_
              refine r_nil ?_
              refine hK31 _ _ _ ?_
              clear hK31 K31
              refine c_region ?_
              refine r_y rfl rfl (y_move rfl) ?_
              refine r_y rfl rfl (y_fieldAddr rfl At.lit fo50_2 rfl) ?_
              refine r_y rfl rfl (y_load_s rfl ts30 (RdS.blk (i := 0) rfl rfl)) ?_
              refine r_s rfl ?_
              refine s_call0 rfl Try.call68 rfl (rActs2_w y.2 y.1.acts _ _ (hz.rules.acts y (List.mem_of_getElem? hy)).1 (by omega)) ?_
              rintro _ m2 _ hm2 ⟨s9, rfl, hzs9, hos9, rfl⟩
              replace hm := hm.trans hm2
              replace hz := hz.mono hm2
              replace hzs5 := hzs5.mono hm2
              replace hzs2 := hzs2.mono hm2
              replace hzs3 := hzs3.mono hm2
              replace hzs4 := hzs4.mono hm2
              clear hm2
              have hls9 := Fz.lenB hzs9
              rw [wacts_len] at hls9
              refine r_s rfl ?_
              refine s_append rfl rfl rfl tl22 zo5 tb5 (i := 1) rfl (Src.fz hzs9 (one_bytes _) hos9) (by omega) (by unfold maxLen; omega) (fun a9 c9 => ?_)
              refine r_y rfl rfl (y_assign rfl) ?_
              refine r_nil ?_
              refine hK26 _ _ _ ?_
              clear hK26 K26
              refine c_region ?_
              refine r_del 0 rfl ?_
              refine r_y rfl rfl (y_move rfl) ?_
              first | refine r_y rfl rfl (y_inc rfl (by omega)) ?_ | refine r_y rfl rfl (y_iop rfl rfl rfl) ?_
              refine r_y rfl rfl (y_assign rfl) ?_
              refine r_nil ?_
              exact ⟨k1 - 1, (i + 1, ⟨a9, sv.n + s5.n + s2.n + s3.n + s4.n + s9.n, c9⟩), by omega, ⟨rfl, rfl, rfl, trivial⟩, (by simp only [wrules_step hx1, wrule, wputs, List.append_nil, bytes1_append, List.append_assoc] <;> rfl), ⟨by omega, by simp only [hls5, hls2, hls3, hls4, hls9, wrules_step hx1, wrule, wputs, List.length_append, wput_len, List.length_cons, List.length_nil, wmatch_len, wacts_len] at hsn ⊢; omega⟩, hm, hz⟩
            ·
              obtain rfl : i = sr.n := by simp at hir; omega
              refine c_exit ?_
              refine hK2 _ _ _ ?_
              clear hK24 K24 hK2 K2
              refine c_seq (fun K32 hK32 => ?_)
              refine c_region ?_
              refine r_y rfl rfl (y_move rfl) ?_
              refine r_y rfl rfl (y_assign rfl) ?_
              refine r_nil ?_
              refine hK32 _ _ _ ?_
              clear hK32 K32
              refine c_ret ?_
              refine e_retf [0, 1] 1 hm (res_tmps rfl) ?_
              have hE := enc_9 he (.inl (by simpa using k9))
              have hW : wrulesL ((lr.map (·.1)).take sr.n) = wrulesL x.rules := by rw [List.take_of_length_le (by simp; omega), hq]
              have hN := hl
              rw [hE]
              exact ⟨sv, rfl, by rw [hsn, hW, hN], by simp only [vItem, hW]; simp only [hN] <;> rfl⟩
          ·
            refine c_region ?_
            refine r_y rfl rfl (y_iop rfl rfl rfl) ?_
            refine r_y rfl rfl (y_assign rfl) ?_
            refine r_nil ?_
            refine hK20 _ _ _ ?_
            clear hK20 K20
            refine c_cond rfl (fun k10 => ?_) (fun k10 => ?_)
            ·
              refine c_seq (fun K33 hK33 => ?_)
              refine c_region ?_
              refine r_y rfl rfl (y_move rfl) ?_
              refine r_y rfl rfl (y_fieldAddr rfl At.lit fo35_6 rfl) ?_
              refine r_y rfl rfl (y_load_s rfl ts33 (RdS.blk (i := 1) rfl rfl)) ?_
              refine r_y rfl rfl (y_len tl33 rfl) ?_
              refine r_y rfl rfl (y_conv_iw rfl un3 un25) ?_
              refine r_s rfl ?_
              refine s_call0 rfl Try.call66 rfl (rNum_w (iw (sr.n : Nat)) 2 _ _ (by decide)) ?_
              rintro _ m2 _ hm2 ⟨s2, rfl, hzs2, hos2, rfl⟩
              replace hm := hm.trans hm2
              replace hz := hz.mono hm2
              replace hzsn := hzsn.mono hm2
              clear hm2
              have hls2 := Fz.lenB hzs2
              rw [wput_len] at hls2
              refine r_s rfl ?_
              refine s_append rfl rfl rfl tl22 zo5 tb5 (i := 0) rfl (Src.fz hzs2 (one_bytes _) hos2) (by omega) (by unfold maxLen; omega) (fun a2 c2 => ?_)
              refine r_y rfl rfl (y_assign rfl) ?_
              refine r_nil ?_
              refine hK33 _ _ _ ?_
              clear hK33 K33
              refine c_seq (fun K34 hK34 => ?_)
              refine c_region ?_
              refine r_y rfl rfl (y_assign rfl) ?_
              refine r_nil ?_
              refine hK34 _ _ _ ?_
              clear hK34 K34
              refine c_block ?_
              have hact : ∀ y ∈ lr.map (·.1), y.acts.length ≤ 8 := hq ▸ msgSound_rules hs (by first | exact .inl (by simpa using k9) | exact .inr (by simpa using k10))
              refine c_loopx (α := Nat × Sl) (fun vv => match vv with | (i, sv) => [(1, .pointer (some ⟨b0, 0, none⟩)), (3, sv.v), (5, .int .i64 (i : Nat))]) (fun vv => match vv with | (i, sv) => .vec sv.a sv.n sv.cap 5 1 (bytes1 ([b8 x.kind] ++ wput (iw x.txn) 4 ++ wput (iw (sr.n : Nat)) 2 ++ wrulesL ((lr.map (·.1)).take i))) :: .blk b0 (.cells (encMsg x sm sr).toArray 35) :: H) (fun k1 vv m1 => match vv with | (i, sv) => (i + k1 = sr.n ∧ sv.n = ([b8 x.kind] ++ wput (iw x.txn) 4 ++ wput (iw (sr.n : Nat)) 2 ++ wrulesL ((lr.map (·.1)).take i)).length) ∧ m.le m1 ∧ (MsgOk m1 x sm sr lr)) (sr.n) (0, ⟨a2, 1 + sn.n + s2.n, c2⟩) ⟨rfl, rfl, rfl, trivial⟩ (by simp only [List.take_zero, wrulesL, List.append_nil, bytes1_append, bytes1_one] <;> rfl) ⟨⟨by omega, by simp [hlsn, hls2, wrulesL]⟩, hm, hz⟩ ?_
              clear hm hz
              rintro k1 ⟨i, sv⟩ m1 ⟨hi1, hm, hz⟩
              obtain ⟨hi, hsn⟩ := hi1
              have hbd := wrulesL_take (k := 8) i hact
              have hsl : sv.n ≤ 7 + i * 316 := by rw [hsn]; simp only [List.length_append, wput_len, List.length_cons, List.length_nil]; omega
              refine c_seq (fun K35 hK35 => ?_)
              refine c_seq (fun K36 hK36 => ?_)
              refine c_region ?_
              refine r_y rfl rfl (y_move rfl) ?_
              refine r_y rfl rfl (y_fieldAddr rfl At.lit fo35_6 rfl) ?_
              refine r_y rfl rfl (y_load_s rfl ts33 (RdS.blk (i := 1) rfl rfl)) ?_
              refine r_y rfl rfl (y_len tl33 rfl) ?_
              refine r_y rfl rfl (y_iop rfl rfl rfl) ?_
              refine r_nil ?_
              refine hK36 _ _ _ ?_
              clear hK36 K36
              refine c_cond rfl (fun hir => ?_) (fun hir => ?_)
              ·
                have hlt : i < sr.n := by simp at hir; omega
                obtain ⟨y, hy⟩ := get_of_lt (l := lr) (k := i) (by omega)
                have hx1 : (lr.map (·.1))[i]? = some y.1 := map_get hy
                have hya := hact y.1 (List.mem_of_getElem? hx1)
                refine c_skip ?_
                refine hK35 _ _ _ ?_
                clear hK35 K35
                refine c_seq (fun K37 hK37 => ?_)
                refine c_block ?_
                refine c_seq (fun K38 hK38 => ?_)
                refine c_region ?_
                refine r_y rfl rfl (y_fieldAddr rfl At.lit fo35_6 rfl) ?_
                refine r_y rfl rfl (y_load_s rfl ts33 (RdS.blk (i := 1) rfl rfl)) ?_
                refine r_y rfl rfl (y_move rfl) ?_
                refine r_y rfl rfl (y_indexAddr_slice rfl rfl tl33 hlt (At.fz hz.rules.fz hlt)) ?_
                refine r_y rfl rfl (y_load_a rfl ts50 (RdA.fz0 hz.rules.fz (map_get hy))) ?_
                refine r_s rfl ?_
                refine s_alloc rfl tz50 (fun b2 => ?_)
                refine r_s rfl ?_
                refine s_store (us := encRule y.1 y.2) rfl rfl rfl ts50 rfl rfl (one_rule _ _) (i := 0) rfl rfl ?_
                refine r_nil ?_
                refine hK38 _ _ _ ?_
                clear hK38 K38
                refine c_seq (fun K39 hK39 => ?_)
                refine c_region ?_
                refine r_y rfl rfl (y_move rfl) ?_
                refine r_y rfl rfl (y_fieldAddr rfl At.lit fo50_0 rfl) ?_
                refine r_y rfl rfl (y_load_a (cs := encCube y.1.m) rfl ts29 (RdA.blk (i := 0) rfl rfl)) ?_
                refine r_y rfl rfl (y_fieldAddr rfl At.lit fo50_1 rfl) ?_
                refine r_y rfl rfl (y_load_s rfl ts3 (RdS.blk (i := 0) rfl rfl)) ?_
                refine r_y rfl rfl (y_fieldAddr rfl At.lit fo50_3 rfl) ?_
                refine r_y rfl rfl (y_load_s rfl ts3 (RdS.blk (i := 0) rfl rfl)) ?_
                refine r_y rfl rfl (y_fieldAddr rfl At.lit fo50_4 rfl) ?_
                refine r_y rfl rfl (y_load_s rfl ts3 (RdS.blk (i := 0) rfl rfl)) ?_
                refine r_y rfl rfl (y_fieldAddr rfl At.lit fo50_5 rfl) ?_
                refine r_y rfl rfl (y_load_s rfl ts3 (RdS.blk (i := 0) rfl rfl)) ?_
                refine r_s rfl ?_
                refine s_call0 rfl Try.call67 rfl (rHeads_w y.1.m y.1.prio y.1.idle y.1.hard y.1.owner _ _) ?_
                rintro _ m2 _ hm2 ⟨s5, rfl, hzs5, hos5, rfl⟩
                replace hm := hm.trans hm2
                replace hz := hz.mono hm2
                clear hm2
                have hls5 := Fz.lenB hzs5
                rw [wmatch_len] at hls5
                refine r_s rfl ?_
                refine s_append rfl rfl rfl tl22 zo5 tb5 (i := 1) rfl (Src.fz hzs5 (one_bytes _) hos5) (by omega) (by unfold maxLen; omega) (fun a5 c5 => ?_)
                refine r_y rfl rfl (y_assign rfl) ?_
                refine r_nil ?_
                refine hK39 _ _ _ ?_
                clear hK39 K39
                refine c_seq (fun K40 hK40 => ?_)
                refine c_region ?_
                refine r_y rfl rfl (y_move rfl) ?_
                refine r_y rfl rfl (y_fieldAddr rfl At.lit fo50_6 rfl) ?_
                refine r_y rfl rfl (y_load_s rfl ts3 (RdS.blk (i := 0) rfl rfl)) ?_
                refine r_y rfl rfl (y_conv_iw rfl un3 un25) ?_
                refine r_s rfl ?_
                refine s_call0 rfl Try.call66 rfl (rNum_w (iw y.1.hits) 8 _ _ (by decide)) ?_
                rintro _ m2 _ hm2 ⟨s2, rfl, hzs2, hos2, rfl⟩
                replace hm := hm.trans hm2
                replace hz := hz.mono hm2
                replace hzs5 := hzs5.mono hm2
                clear hm2
                have hls2 := Fz.lenB hzs2
                rw [wput_len] at hls2
                refine r_s rfl ?_
                refine s_append rfl rfl rfl tl22 zo5 tb5 (i := 1) rfl (Src.fz hzs2 (one_bytes _) hos2) (by omega) (by unfold maxLen; omega) (fun a6 c6 => ?_)
                refine r_y rfl rfl (y_assign rfl) ?_
                refine r_nil ?_
                refine hK40 _ _ _ ?_
                clear hK40 K40
                refine c_seq (fun K41 hK41 => ?_)
                refine c_region ?_
                refine r_y rfl rfl (y_move rfl) ?_
                refine r_y rfl rfl (y_fieldAddr rfl At.lit fo50_7 rfl) ?_
                refine r_y rfl rfl (y_load_s rfl ts3 (RdS.blk (i := 0) rfl rfl)) ?_
                refine r_y rfl rfl (y_conv_iw rfl un3 un25) ?_
                refine r_s rfl ?_
                refine s_call0 rfl Try.call66 rfl (rNum_w (iw y.1.quiet) 8 _ _ (by decide)) ?_
                rintro _ m2 _ hm2 ⟨s3, rfl, hzs3, hos3, rfl⟩
                replace hm := hm.trans hm2
                replace hz := hz.mono hm2
                replace hzs5 := hzs5.mono hm2
                replace hzs2 := hzs2.mono hm2
                clear hm2
                have hls3 := Fz.lenB hzs3
                rw [wput_len] at hls3
                refine r_s rfl ?_
                refine s_append rfl rfl rfl tl22 zo5 tb5 (i := 1) rfl (Src.fz hzs3 (one_bytes _) hos3) (by omega) (by unfold maxLen; omega) (fun a7 c7 => ?_)
                refine r_y rfl rfl (y_assign rfl) ?_
                refine r_nil ?_
                refine hK41 _ _ _ ?_
                clear hK41 K41
                refine c_seq (fun K42 hK42 => ?_)
                refine c_region ?_
                refine r_y rfl rfl (y_move rfl) ?_
                refine r_y rfl rfl (y_fieldAddr rfl At.lit fo50_8 rfl) ?_
                refine r_y rfl rfl (y_load_s rfl ts3 (RdS.blk (i := 0) rfl rfl)) ?_
                refine r_y rfl rfl (y_conv_iw rfl un3 un25) ?_
                refine r_s rfl ?_
                refine s_call0 rfl Try.call66 rfl (rNum_w (iw y.1.age) 8 _ _ (by decide)) ?_
                rintro _ m2 _ hm2 ⟨s4, rfl, hzs4, hos4, rfl⟩
                replace hm := hm.trans hm2
                replace hz := hz.mono hm2
                replace hzs5 := hzs5.mono hm2
                replace hzs2 := hzs2.mono hm2
                replace hzs3 := hzs3.mono hm2
                clear hm2
                have hls4 := Fz.lenB hzs4
                rw [wput_len] at hls4
                refine r_s rfl ?_
                refine s_append rfl rfl rfl tl22 zo5 tb5 (i := 1) rfl (Src.fz hzs4 (one_bytes _) hos4) (by omega) (by unfold maxLen; omega) (fun a8 c8 => ?_)
                refine r_y rfl rfl (y_assign rfl) ?_
                refine r_nil ?_
                refine hK42 _ _ _ ?_
                clear hK42 K42
                refine c_region ?_
                refine r_y rfl rfl (y_move rfl) ?_
                refine r_y rfl rfl (y_fieldAddr rfl At.lit fo50_2 rfl) ?_
                refine r_y rfl rfl (y_load_s rfl ts30 (RdS.blk (i := 0) rfl rfl)) ?_
                refine r_s rfl ?_
                refine s_call0 rfl Try.call68 rfl (rActs2_w y.2 y.1.acts _ _ (hz.rules.acts y (List.mem_of_getElem? hy)).1 (by omega)) ?_
                rintro _ m2 _ hm2 ⟨s9, rfl, hzs9, hos9, rfl⟩
                replace hm := hm.trans hm2
                replace hz := hz.mono hm2
                replace hzs5 := hzs5.mono hm2
                replace hzs2 := hzs2.mono hm2
                replace hzs3 := hzs3.mono hm2
                replace hzs4 := hzs4.mono hm2
                clear hm2
                have hls9 := Fz.lenB hzs9
                rw [wacts_len] at hls9
                refine r_s rfl ?_
                refine s_append rfl rfl rfl tl22 zo5 tb5 (i := 1) rfl (Src.fz hzs9 (one_bytes _) hos9) (by omega) (by unfold maxLen; omega) (fun a9 c9 => ?_)
                refine r_y rfl rfl (y_assign rfl) ?_
                refine r_nil ?_
                refine hK37 _ _ _ ?_
                clear hK37 K37
                refine c_region ?_
                refine r_del 0 rfl ?_
                refine r_y rfl rfl (y_move rfl) ?_
                first | refine r_y rfl rfl (y_inc rfl (by omega)) ?_ | refine r_y rfl rfl (y_iop rfl rfl rfl) ?_
                refine r_y rfl rfl (y_assign rfl) ?_
                refine r_nil ?_
                exact ⟨k1 - 1, (i + 1, ⟨a9, sv.n + s5.n + s2.n + s3.n + s4.n + s9.n, c9⟩), by omega, ⟨rfl, rfl, rfl, trivial⟩, (by simp only [wrules_step hx1, wrule, wputs, List.append_nil, bytes1_append, List.append_assoc] <;> rfl), ⟨by omega, by simp only [hls5, hls2, hls3, hls4, hls9, wrules_step hx1, wrule, wputs, List.length_append, wput_len, List.length_cons, List.length_nil, wmatch_len, wacts_len] at hsn ⊢; omega⟩, hm, hz⟩
              ·
                obtain rfl : i = sr.n := by simp at hir; omega
                refine c_exit ?_
                refine hK2 _ _ _ ?_
                clear hK35 K35 hK2 K2
                refine c_seq (fun K43 hK43 => ?_)
                refine c_region ?_
                refine r_y rfl rfl (y_move rfl) ?_
                refine r_y rfl rfl (y_assign rfl) ?_
                refine r_nil ?_
                refine hK43 _ _ _ ?_
                clear hK43 K43
                refine c_ret ?_
                refine e_retf [0, 1] 1 hm (res_tmps rfl) ?_
                have hE := enc_9 he (.inr (by simpa using k10))
                have hW : wrulesL ((lr.map (·.1)).take sr.n) = wrulesL x.rules := by rw [List.take_of_length_le (by simp; omega), hq]
                have hN := hl
                rw [hE]
                exact ⟨sv, rfl, by rw [hsn, hW, hN], by simp only [vItem, hW]; simp only [hN] <;> rfl⟩
            ·
              refine c_skip ?_
              refine hK2 _ _ _ ?_
              clear hK2 K2
              refine c_seq (fun K44 hK44 => ?_)
              refine c_region ?_
              refine r_y rfl rfl (y_move rfl) ?_
              refine r_y rfl rfl (y_assign rfl) ?_
              refine r_nil ?_
              refine hK44 _ _ _ ?_
              clear hK44 K44
              refine c_ret ?_
              refine e_retf [0, 1] 1 hm (res_tmps rfl) ?_
              have hE := enc_o he k1 k6 k8 k9 k10
              rw [hE]
              exact ⟨⟨a1, _, c1⟩, rfl, by simp [hlsn] <;> omega, by simp only [vItem, bytes1_append, bytes1_one, List.append_assoc] <;> rfl⟩
  ·
    refine s_call0 rfl Try.call66 rfl (rNum_w (iw x.txn) 4 _ _ (by decide)) ?_
    rintro _ m2 _ hm2 ⟨sn, rfl, hzsn, hosn, rfl⟩
    replace hm := hm.trans hm2
    refine ⟨⟨hg.trans hm2, (allc (List.Mem.head _) alln)⟩, ?_⟩
    replace hg := hg.trans hm2
    replace hz := hz.mono hm2
    clear hm2
    refine g_s (i := 3) (listed' := #[true, true, true, true, true, true, true, true, false, false]) rfl (by kernel_rfl) (by kernel_rfl) rfl ?_
    refine s_buildSlice (cs := [bv (b8 x.kind)]) (e := 5) rfl rfl (fun _ => by kernel_rfl) (fun b1 => ?_)
    refine ⟨⟨hg, (allc (List.Mem.tail _ (List.Mem.head _)) alln)⟩, ?_⟩
    refine g_toVec (i := 0) (s := 1) (k := 1) [[bv (b8 x.kind)]] rfl rfl (fun c h => by simp at h; subst h; rfl) rfl (by unfold maxLen; omega) ?_
    have hlsn := Fz.lenB hzsn
    rw [wput_len] at hlsn
    refine g_s (i := 8) (listed' := #[true, true, true, true, true, true, true, true, true, false]) rfl (by kernel_rfl) (by kernel_rfl) rfl ?_
    refine s_append rfl rfl rfl tl22 zo5 tb5 (i := 0) rfl (Src.fz hzsn (one_bytes _) hosn) (by omega) (by unfold maxLen; omega) (fun a1 c1 => ?_)
    refine ⟨⟨hg, (allc (List.Mem.tail _ (List.Mem.head _)) alln)⟩, ?_⟩
    refine g_y (i := 9) (listed' := #[true, true, true, true, true, true, true, true, true, true]) rfl (by kernel_rfl) (by kernel_rfl) (by kernel_rfl) (by kernel_rfl) rfl rfl hg (allc (List.Mem.tail _ (List.Mem.head _)) alln) (fun m' H' hm' hX' => y_assign rfl) ?_
    refine g_done (by kernel_rfl) ?_
    clear hg hz_g
    refine hK1 _ _ _ ?_
    clear hK1 K1
    refine c_seq (fun K45 hK45 => ?_)
    refine c_seq (fun K46 hK46 => ?_)
    refine c_region ?_
    refine r_y rfl rfl (y_fieldAddr rfl At.lit fo35_0 rfl) ?_
    refine r_y rfl rfl (y_load_s rfl ts3 (RdS.blk (i := 1) rfl rfl)) ?_
    refine r_nil ?_
    refine hK46 _ _ _ ?_
    clear hK46 K46
    refine c_block ?_
    refine c_seq (fun K47 hK47 => ?_)
    refine c_region ?_
    refine r_y rfl rfl (y_iop rfl rfl rfl) ?_
    refine r_y rfl rfl (y_assign rfl) ?_
    refine r_nil ?_
    refine hK47 _ _ _ ?_
    clear hK47 K47
    refine c_cond rfl (fun k1 => ?_) (fun k1 => ?_)
    ·
      have hac := msgSound_mod hs k1
      refine c_seq (fun K48 hK48 => ?_)
      refine c_region ?_
      refine r_y rfl rfl (y_move rfl) ?_
      refine r_y rfl rfl (y_fieldAddr rfl At.lit fo35_3 rfl) ?_
      refine r_y rfl rfl (y_fieldAddr rfl At.lit fo32_0 rfl) ?_
      refine r_y rfl rfl (y_load_s rfl ts3 (RdS.blk (i := 1) rfl rfl)) ?_
      refine r_y rfl rfl (y_conv_i8 rfl un3 un5) ?_
      refine r_s rfl ?_
      refine s_buildSlice (cs := [bv (b8 x.mod.kind)]) (e := 5) rfl rfl (fun _ => by kernel_rfl) (fun b2 => ?_)
      refine r_s rfl ?_
      refine s_append rfl rfl rfl tl22 zo5 tb5 (i := 1) rfl (Src.one' (i := 0) rfl rfl (by simp [bv, Value.oneCell'])) (by omega) (by unfold maxLen; omega) (fun a2 c2 => ?_)
      refine r_del 0 rfl ?_
      refine r_y rfl rfl (y_assign rfl) ?_
      refine r_nil ?_
      refine hK48 _ _ _ ?_
      clear hK48 K48
      refine c_seq (fun K49 hK49 => ?_)
      refine c_region ?_
      refine r_y rfl rfl (y_move rfl) ?_
      refine r_y rfl rfl (y_fieldAddr rfl At.lit fo35_3 rfl) ?_
      refine r_y rfl rfl (y_fieldAddr rfl At.lit fo32_1 rfl) ?_
      refine r_y rfl rfl (y_load_a (cs := encCube x.mod.m) rfl ts29 (RdA.blk (i := 1) rfl rfl)) ?_
      refine r_y rfl rfl (y_fieldAddr rfl At.lit fo35_3 rfl) ?_
      refine r_y rfl rfl (y_fieldAddr rfl At.lit fo32_2 rfl) ?_
      refine r_y rfl rfl (y_load_s rfl ts3 (RdS.blk (i := 1) rfl rfl)) ?_
      refine r_y rfl rfl (y_fieldAddr rfl At.lit fo35_3 rfl) ?_
      refine r_y rfl rfl (y_fieldAddr rfl At.lit fo32_4 rfl) ?_
      refine r_y rfl rfl (y_load_s rfl ts3 (RdS.blk (i := 1) rfl rfl)) ?_
      refine r_y rfl rfl (y_fieldAddr rfl At.lit fo35_3 rfl) ?_
      refine r_y rfl rfl (y_fieldAddr rfl At.lit fo32_5 rfl) ?_
      refine r_y rfl rfl (y_load_s rfl ts3 (RdS.blk (i := 1) rfl rfl)) ?_
      refine r_y rfl rfl (y_fieldAddr rfl At.lit fo35_3 rfl) ?_
      refine r_y rfl rfl (y_fieldAddr rfl At.lit fo32_6 rfl) ?_
      refine r_y rfl rfl (y_load_s rfl ts3 (RdS.blk (i := 1) rfl rfl)) ?_
      refine r_s rfl ?_
      refine s_call0 rfl Try.call67 rfl (rHeads_w x.mod.m x.mod.prio x.mod.idle x.mod.hard x.mod.owner _ _) ?_
      rintro _ m2 _ hm2 ⟨s5, rfl, hzs5, hos5, rfl⟩
      replace hm := hm.trans hm2
      replace hz := hz.mono hm2
      replace hzsn := hzsn.mono hm2
      clear hm2
      have hls5 := Fz.lenB hzs5
      rw [wmatch_len] at hls5
      refine r_s rfl ?_
      refine s_append rfl rfl rfl tl22 zo5 tb5 (i := 0) rfl (Src.fz hzs5 (one_bytes _) hos5) (by omega) (by unfold maxLen; omega) (fun a3 c3 => ?_)
      refine r_y rfl rfl (y_assign rfl) ?_
      refine r_nil ?_
      refine hK49 _ _ _ ?_
      clear hK49 K49
      refine c_seq (fun K50 hK50 => ?_)
      refine c_seq (fun K51 hK51 => ?_)
      refine c_region ?_
      refine r_y rfl rfl (y_fieldAddr rfl At.lit fo35_3 rfl) ?_
      refine r_y rfl rfl (y_fieldAddr rfl At.lit fo32_7 rfl) ?_
      refine r_y rfl rfl (y_load_s rfl ts4 (RdS.blk (i := 1) rfl rfl)) ?_
      refine r_nil ?_
      refine hK51 _ _ _ ?_
      clear hK51 K51
      refine c_cond rfl (fun kc => ?_) (fun kc => ?_)
      ·
        refine c_region ?_
        refine r_y rfl rfl (y_move rfl) ?_
        refine r_s rfl ?_
        refine s_buildSlice (cs := [.int .u8 1]) (e := 5) rfl rfl (fun _ => by kernel_rfl) (fun b3 => ?_)
        refine r_s rfl ?_
        refine s_append rfl rfl rfl tl22 zo5 tb5 (i := 1) rfl (Src.one' (i := 0) rfl rfl (by simp [bv, Value.oneCell'])) (by omega) (by unfold maxLen; omega) (fun a4 c4 => ?_)
        refine r_del 0 rfl ?_
        refine r_y rfl rfl (y_assign rfl) ?_
        refine r_nil ?_
        refine hK50 _ _ _ ?_
        clear hK50 K50
        refine c_region ?_
        refine r_y rfl rfl (y_move rfl) ?_
        refine r_y rfl rfl (y_fieldAddr rfl At.lit fo35_3 rfl) ?_
        refine r_y rfl rfl (y_fieldAddr rfl At.lit fo32_3 rfl) ?_
        refine r_y rfl rfl (y_load_s rfl ts30 (RdS.blk (i := 1) rfl rfl)) ?_
        refine r_s rfl ?_
        refine s_call0 rfl Try.call68 rfl (rActs2_w sm x.mod.acts _ _ hz.mod (by omega)) ?_
        rintro _ m2 _ hm2 ⟨s9, rfl, hzs9, hos9, rfl⟩
        replace hm := hm.trans hm2
        replace hz := hz.mono hm2
        replace hzsn := hzsn.mono hm2
        replace hzs5 := hzs5.mono hm2
        clear hm2
        have hls9 := Fz.lenB hzs9
        rw [wacts_len] at hls9
        refine r_s rfl ?_
        refine s_append rfl rfl rfl tl22 zo5 tb5 (i := 0) rfl (Src.fz hzs9 (one_bytes _) hos9) (by omega) (by unfold maxLen; omega) (fun a5 c5 => ?_)
        refine r_y rfl rfl (y_assign rfl) ?_
        refine r_nil ?_
        refine hK45 _ _ _ ?_
        clear hK45 K45
        refine c_seq (fun K52 hK52 => ?_)
        refine c_region ?_
        refine r_y rfl rfl (y_move rfl) ?_
        refine r_y rfl rfl (y_assign rfl) ?_
        refine r_nil ?_
        refine hK52 _ _ _ ?_
        clear hK52 K52
        refine c_ret ?_
        refine e_retf [0, 1] 1 hm (res_tmps rfl) ?_
        have hE := enc_1 he k1
        rw [hE]
        exact ⟨⟨a5, _, c5⟩, rfl, by simp [hlsn, hls5, hls9] <;> omega, by simp only [vItem, bytes1_append, bytes1_one, kc, if_true] <;> rfl⟩
      ·
        refine c_region ?_
        refine r_y rfl rfl (y_move rfl) ?_
        refine r_s rfl ?_
        refine s_buildSlice (cs := [.int .u8 0]) (e := 5) rfl rfl (fun _ => by kernel_rfl) (fun b3 => ?_)
        refine r_s rfl ?_
        refine s_append rfl rfl rfl tl22 zo5 tb5 (i := 1) rfl (Src.one' (i := 0) rfl rfl (by simp [bv, Value.oneCell'])) (by omega) (by unfold maxLen; omega) (fun a4 c4 => ?_)
        refine r_del 0 rfl ?_
        refine r_y rfl rfl (y_assign rfl) ?_
        refine r_nil ?_
        refine hK50 _ _ _ ?_
        clear hK50 K50
        refine c_region ?_
        refine r_y rfl rfl (y_move rfl) ?_
        refine r_y rfl rfl (y_fieldAddr rfl At.lit fo35_3 rfl) ?_
        refine r_y rfl rfl (y_fieldAddr rfl At.lit fo32_3 rfl) ?_
        refine r_y rfl rfl (y_load_s rfl ts30 (RdS.blk (i := 1) rfl rfl)) ?_
        refine r_s rfl ?_
        refine s_call0 rfl Try.call68 rfl (rActs2_w sm x.mod.acts _ _ hz.mod (by omega)) ?_
        rintro _ m2 _ hm2 ⟨s9, rfl, hzs9, hos9, rfl⟩
        replace hm := hm.trans hm2
        replace hz := hz.mono hm2
        replace hzsn := hzsn.mono hm2
        replace hzs5 := hzs5.mono hm2
        clear hm2
        have hls9 := Fz.lenB hzs9
        rw [wacts_len] at hls9
        refine r_s rfl ?_
        refine s_append rfl rfl rfl tl22 zo5 tb5 (i := 0) rfl (Src.fz hzs9 (one_bytes _) hos9) (by omega) (by unfold maxLen; omega) (fun a5 c5 => ?_)
        refine r_y rfl rfl (y_assign rfl) ?_
        refine r_nil ?_
        refine hK45 _ _ _ ?_
        clear hK45 K45
        refine c_seq (fun K53 hK53 => ?_)
        refine c_region ?_
        refine r_y rfl rfl (y_move rfl) ?_
        refine r_y rfl rfl (y_assign rfl) ?_
        refine r_nil ?_
        refine hK53 _ _ _ ?_
        clear hK53 K53
        refine c_ret ?_
        refine e_retf [0, 1] 1 hm (res_tmps rfl) ?_
        have hE := enc_1 he k1
        rw [hE]
        exact ⟨⟨a5, _, c5⟩, rfl, by simp [hlsn, hls5, hls9] <;> omega, by simp only [vItem, bytes1_append, bytes1_one, kc, Bool.false_eq_true, if_false] <;> rfl⟩
    ·
      refine c_seq (fun K54 hK54 => ?_)
      refine c_region ?_
      refine r_y rfl rfl (y_iop rfl rfl rfl) ?_
      refine r_y rfl rfl (y_assign rfl) ?_
      refine r_nil ?_
      refine hK54 _ _ _ ?_
      clear hK54 K54
      refine c_cond rfl (fun k6 => ?_) (fun k6 => ?_)
      ·
        refine c_region ?_
        refine r_y rfl rfl (y_move rfl) ?_
        refine r_y rfl rfl (y_fieldAddr rfl At.lit fo35_2 rfl) ?_
        refine r_y rfl rfl (y_load_s rfl ts24 (RdS.blk (i := 1) rfl rfl)) ?_
        refine r_y rfl rfl (y_conv_i8 rfl un24 un5) ?_
        refine r_s rfl ?_
        refine s_buildSlice (cs := [bv (b8 x.e)]) (e := 5) rfl rfl (fun _ => by kernel_rfl) (fun b2 => ?_)
        refine r_s rfl ?_
        refine s_append rfl rfl rfl tl22 zo5 tb5 (i := 1) rfl (Src.one' (i := 0) rfl rfl (by simp [bv, Value.oneCell'])) (by omega) (by unfold maxLen; omega) (fun a2 c2 => ?_)
        refine r_del 0 rfl ?_
        refine r_y rfl rfl (y_assign rfl) ?_
        refine r_nil ?_
        refine hK45 _ _ _ ?_
        clear hK45 K45
        refine c_seq (fun K55 hK55 => ?_)
        refine c_region ?_
        refine r_y rfl rfl (y_move rfl) ?_
        refine r_y rfl rfl (y_assign rfl) ?_
        refine r_nil ?_
        refine hK55 _ _ _ ?_
        clear hK55 K55
        refine c_ret ?_
        refine e_retf [0, 1] 1 hm (res_tmps rfl) ?_
        have hE := enc_6 he k6
        rw [hE]
        exact ⟨⟨a2, _, c2⟩, rfl, by simp [hlsn] <;> omega, by simp only [vItem, bytes1_append, bytes1_one, List.append_assoc] <;> rfl⟩
      ·
        refine c_seq (fun K56 hK56 => ?_)
        refine c_region ?_
        refine r_y rfl rfl (y_iop rfl rfl rfl) ?_
        refine r_y rfl rfl (y_assign rfl) ?_
        refine r_nil ?_
        refine hK56 _ _ _ ?_
        clear hK56 K56
        refine c_cond rfl (fun k8 => ?_) (fun k8 => ?_)
        ·
          refine c_seq (fun K57 hK57 => ?_)
          refine c_region ?_
          refine r_y rfl rfl (y_move rfl) ?_
          refine r_y rfl rfl (y_fieldAddr rfl At.lit fo35_4 rfl) ?_
          refine r_y rfl rfl (y_load_s rfl ts3 (RdS.blk (i := 1) rfl rfl)) ?_
          refine r_y rfl rfl (y_conv_i8 rfl un3 un5) ?_
          refine r_s rfl ?_
          refine s_buildSlice (cs := [bv (b8 x.port)]) (e := 5) rfl rfl (fun _ => by kernel_rfl) (fun b2 => ?_)
          refine r_s rfl ?_
          refine s_append rfl rfl rfl tl22 zo5 tb5 (i := 1) rfl (Src.one' (i := 0) rfl rfl (by simp [bv, Value.oneCell'])) (by omega) (by unfold maxLen; omega) (fun a2 c2 => ?_)
          refine r_del 0 rfl ?_
          refine r_y rfl rfl (y_assign rfl) ?_
          refine r_nil ?_
          refine hK57 _ _ _ ?_
          clear hK57 K57
          refine c_seq (fun K58 hK58 => ?_)
          refine c_region ?_
          refine r_y rfl rfl (y_assign rfl) ?_
          refine r_nil ?_
          refine hK58 _ _ _ ?_
          clear hK58 K58
          refine c_block ?_
          refine c_loopx (α := Nat × Sl) (fun vv => match vv with | (i, sv) => [(1, .pointer (some ⟨b0, 0, none⟩)), (3, sv.v), (4, .int .i64 (i : Nat))]) (fun vv => match vv with | (i, sv) => .vec sv.a sv.n sv.cap 5 1 (bytes1 ([b8 x.kind] ++ wput (iw x.txn) 4 ++ [b8 x.port] ++ wputs 8 ((headL x.head).take i))) :: .blk b0 (.cells (encMsg x sm sr).toArray 35) :: H) (fun k0 vv m1 => match vv with | (i, sv) => (i + k0 = 12 ∧ sv.n = ([b8 x.kind] ++ wput (iw x.txn) 4 ++ [b8 x.port] ++ wputs 8 ((headL x.head).take i)).length) ∧ m.le m1 ∧ (MsgOk m1 x sm sr lr)) (12) (0, ⟨a2, 1 + sn.n + 1, c2⟩) ⟨rfl, rfl, rfl, trivial⟩ (by simp only [List.take_zero, wputs, List.append_nil, bytes1_append, bytes1_one] <;> rfl) ⟨⟨by omega, by simp [hlsn, wputs]⟩, hm, hz⟩ ?_
          clear hm hz
          rintro k0 ⟨i, sv⟩ m1 ⟨hi0, hm, hz⟩
          obtain ⟨hi, hsn⟩ := hi0
          have hsl : sv.n ≤ 102 := by rw [hsn]; simp [headL]; omega
          refine c_seq (fun K59 hK59 => ?_)
          refine c_seq (fun K60 hK60 => ?_)
          refine c_region ?_
          refine r_y rfl rfl (y_move rfl) ?_
          refine r_y rfl rfl (y_iop rfl rfl rfl) ?_
          refine r_nil ?_
          refine hK60 _ _ _ ?_
          clear hK60 K60
          refine c_cond rfl (fun hi8 => ?_) (fun hi8 => ?_)
          ·
            have hlt : i < 12 := by simp at hi8; omega
            refine c_skip ?_
            refine hK59 _ _ _ ?_
            clear hK59 K59
            refine c_seq (fun K61 hK61 => ?_)
            refine c_block ?_
            refine c_region ?_
            refine r_y rfl rfl (y_move rfl) ?_
            refine r_y rfl rfl (y_move rfl) ?_
            refine r_y rfl rfl (y_fieldAddr rfl At.lit fo35_5 rfl) ?_
            refine r_y rfl rfl (y_indexAddr_arr rfl rfl ta27 hlt At.lit) ?_
            refine r_y rfl rfl (y_load_s rfl ts25 (RdS.blk (i := 1) rfl (cget_msghead _ _ _ hlt))) ?_
            refine r_s rfl ?_
            refine s_call0 rfl Try.call66 rfl (rNum_w (x.head.at i) 8 _ _ (by decide)) ?_
            rintro _ m2 _ hm2 ⟨sn, rfl, hzsn, hosn, rfl⟩
            replace hm := hm.trans hm2
            replace hz := hz.mono hm2
            clear hm2
            have hlsn := Fz.lenB hzsn
            rw [wput_len] at hlsn
            refine r_s rfl ?_
            refine s_append rfl rfl rfl tl22 zo5 tb5 (i := 0) rfl (Src.fz hzsn (one_bytes _) hosn) (by omega) (by unfold maxLen; omega) (fun a1 c1 => ?_)
            refine r_y rfl rfl (y_assign rfl) ?_
            refine r_nil ?_
            refine hK61 _ _ _ ?_
            clear hK61 K61
            refine c_region ?_
            refine r_y rfl rfl (y_move rfl) ?_
            first | refine r_y rfl rfl (y_inc rfl (by omega)) ?_ | refine r_y rfl rfl (y_iop rfl rfl rfl) ?_
            refine r_y rfl rfl (y_assign rfl) ?_
            refine r_nil ?_
            exact ⟨k0 - 1, (i + 1, ⟨a1, sv.n + sn.n, c1⟩), by omega, ⟨rfl, rfl, rfl, trivial⟩, (by simp only [← whead_step _ hlt, ← List.append_assoc, bytes1_append] <;> rfl), ⟨by omega, by simp only [hsn, hlsn, ← whead_step _ hlt, List.length_append, wput_len]; try omega⟩, hm, hz⟩
          ·
            obtain rfl : i = 12 := by simp at hi8; omega
            refine c_exit ?_
            refine hK45 _ _ _ ?_
            clear hK59 K59 hK45 K45
            refine c_seq (fun K62 hK62 => ?_)
            refine c_region ?_
            refine r_y rfl rfl (y_move rfl) ?_
            refine r_y rfl rfl (y_assign rfl) ?_
            refine r_nil ?_
            refine hK62 _ _ _ ?_
            clear hK62 K62
            refine c_ret ?_
            refine e_retf [0, 1] 1 hm (res_tmps rfl) ?_
            have hE := enc_8 he k8
            have hW : wputs 8 ((headL x.head).take 12) = whead x.head := by rw [List.take_of_length_le (by simp [headL])]; rfl
            rw [hE]
            exact ⟨sv, rfl, by rw [hsn, hW], by simp only [vItem, hW] <;> rfl⟩
        ·
          refine c_seq (fun K63 hK63 => ?_)
          refine c_seq (fun K64 hK64 => ?_)
          refine c_region ?_
          refine r_y rfl rfl (y_iop rfl rfl rfl) ?_
          refine r_y rfl rfl (y_assign rfl) ?_
          refine r_nil ?_
          refine hK64 _ _ _ ?_
          clear hK64 K64
          refine c_cond rfl (fun k9 => ?_) (fun k9 => ?_)
          ·
            refine c_skip ?_
            refine hK63 _ _ _ ?_
            clear hK63 K63
            refine c_ift rfl k9 ?_
            refine c_seq (fun K65 hK65 => ?_)
            refine c_region ?_
            refine r_y rfl rfl (y_move rfl) ?_
            refine r_y rfl rfl (y_fieldAddr rfl At.lit fo35_6 rfl) ?_
            refine r_y rfl rfl (y_load_s rfl ts33 (RdS.blk (i := 1) rfl rfl)) ?_
            refine r_y rfl rfl (y_len tl33 rfl) ?_
            refine r_y rfl rfl (y_conv_iw rfl un3 un25) ?_
            refine r_s rfl ?_
            refine s_call0 rfl Try.call66 rfl (rNum_w (iw (sr.n : Nat)) 2 _ _ (by decide)) ?_
            rintro _ m2 _ hm2 ⟨s2, rfl, hzs2, hos2, rfl⟩
            replace hm := hm.trans hm2
            replace hz := hz.mono hm2
            replace hzsn := hzsn.mono hm2
            clear hm2
            have hls2 := Fz.lenB hzs2
            rw [wput_len] at hls2
            refine r_s rfl ?_
            refine s_append rfl rfl rfl tl22 zo5 tb5 (i := 0) rfl (Src.fz hzs2 (one_bytes _) hos2) (by omega) (by unfold maxLen; omega) (fun a2 c2 => ?_)
            refine r_y rfl rfl (y_assign rfl) ?_
            refine r_nil ?_
            refine hK65 _ _ _ ?_
            clear hK65 K65
            refine c_seq (fun K66 hK66 => ?_)
            refine c_region ?_
            refine r_y rfl rfl (y_assign rfl) ?_
            refine r_nil ?_
            refine hK66 _ _ _ ?_
            clear hK66 K66
            refine c_block ?_
            have hact : ∀ y ∈ lr.map (·.1), y.acts.length ≤ 8 := hq ▸ msgSound_rules hs (by first | exact .inl (by simpa using k9) | exact .inr (by simpa using k10))
            refine c_loopx (α := Nat × Sl) (fun vv => match vv with | (i, sv) => [(1, .pointer (some ⟨b0, 0, none⟩)), (3, sv.v), (5, .int .i64 (i : Nat))]) (fun vv => match vv with | (i, sv) => .vec sv.a sv.n sv.cap 5 1 (bytes1 ([b8 x.kind] ++ wput (iw x.txn) 4 ++ wput (iw (sr.n : Nat)) 2 ++ wrulesL ((lr.map (·.1)).take i))) :: .blk b0 (.cells (encMsg x sm sr).toArray 35) :: H) (fun k1 vv m1 => match vv with | (i, sv) => (i + k1 = sr.n ∧ sv.n = ([b8 x.kind] ++ wput (iw x.txn) 4 ++ wput (iw (sr.n : Nat)) 2 ++ wrulesL ((lr.map (·.1)).take i)).length) ∧ m.le m1 ∧ (MsgOk m1 x sm sr lr)) (sr.n) (0, ⟨a2, 1 + sn.n + s2.n, c2⟩) ⟨rfl, rfl, rfl, trivial⟩ (by simp only [List.take_zero, wrulesL, List.append_nil, bytes1_append, bytes1_one] <;> rfl) ⟨⟨by omega, by simp [hlsn, hls2, wrulesL]⟩, hm, hz⟩ ?_
            clear hm hz
            rintro k1 ⟨i, sv⟩ m1 ⟨hi1, hm, hz⟩
            obtain ⟨hi, hsn⟩ := hi1
            have hbd := wrulesL_take (k := 8) i hact
            have hsl : sv.n ≤ 7 + i * 316 := by rw [hsn]; simp only [List.length_append, wput_len, List.length_cons, List.length_nil]; omega
            refine c_seq (fun K67 hK67 => ?_)
            refine c_seq (fun K68 hK68 => ?_)
            refine c_region ?_
            refine r_y rfl rfl (y_move rfl) ?_
            refine r_y rfl rfl (y_fieldAddr rfl At.lit fo35_6 rfl) ?_
            refine r_y rfl rfl (y_load_s rfl ts33 (RdS.blk (i := 1) rfl rfl)) ?_
            refine r_y rfl rfl (y_len tl33 rfl) ?_
            refine r_y rfl rfl (y_iop rfl rfl rfl) ?_
            refine r_nil ?_
            refine hK68 _ _ _ ?_
            clear hK68 K68
            refine c_cond rfl (fun hir => ?_) (fun hir => ?_)
            ·
              have hlt : i < sr.n := by simp at hir; omega
              obtain ⟨y, hy⟩ := get_of_lt (l := lr) (k := i) (by omega)
              have hx1 : (lr.map (·.1))[i]? = some y.1 := map_get hy
              have hya := hact y.1 (List.mem_of_getElem? hx1)
              refine c_skip ?_
              refine hK67 _ _ _ ?_
              clear hK67 K67
              refine c_seq (fun K69 hK69 => ?_)
              refine c_block ?_
              refine c_seq (fun K70 hK70 => ?_)
              refine c_region ?_
              refine r_y rfl rfl (y_fieldAddr rfl At.lit fo35_6 rfl) ?_
              refine r_y rfl rfl (y_load_s rfl ts33 (RdS.blk (i := 1) rfl rfl)) ?_
              refine r_y rfl rfl (y_move rfl) ?_
              refine r_y rfl rfl (y_indexAddr_slice rfl rfl tl33 hlt (At.fz hz.rules.fz hlt)) ?_
              refine r_y rfl rfl (y_load_a rfl ts50 (RdA.fz0 hz.rules.fz (map_get hy))) ?_
              refine r_s rfl ?_
              refine s_alloc rfl tz50 (fun b2 => ?_)
              refine r_s rfl ?_
              refine s_store (us := encRule y.1 y.2) rfl rfl rfl ts50 rfl rfl (one_rule _ _) (i := 0) rfl rfl ?_
              refine r_nil ?_
              refine hK70 _ _ _ ?_
              clear hK70 K70
              refine c_seq (fun K71 hK71 => ?_)
              refine c_region ?_
              refine r_y rfl rfl (y_move rfl) ?_
              refine r_y rfl rfl (y_fieldAddr rfl At.lit fo50_0 rfl) ?_
              refine r_y rfl rfl (y_load_a (cs := encCube y.1.m) rfl ts29 (RdA.blk (i := 0) rfl rfl)) ?_
              refine r_y rfl rfl (y_fieldAddr rfl At.lit fo50_1 rfl) ?_
              refine r_y rfl rfl (y_load_s rfl ts3 (RdS.blk (i := 0) rfl rfl)) ?_
              refine r_y rfl rfl (y_fieldAddr rfl At.lit fo50_3 rfl) ?_
              refine r_y rfl rfl (y_load_s rfl ts3 (RdS.blk (i := 0) rfl rfl)) ?_
              refine r_y rfl rfl (y_fieldAddr rfl At.lit fo50_4 rfl) ?_
              refine r_y rfl rfl (y_load_s rfl ts3 (RdS.blk (i := 0) rfl rfl)) ?_
              refine r_y rfl rfl (y_fieldAddr rfl At.lit fo50_5 rfl) ?_
              refine r_y rfl rfl (y_load_s rfl ts3 (RdS.blk (i := 0) rfl rfl)) ?_
              refine r_s rfl ?_
              refine s_call0 rfl Try.call67 rfl (rHeads_w y.1.m y.1.prio y.1.idle y.1.hard y.1.owner _ _) ?_
              rintro _ m2 _ hm2 ⟨s5, rfl, hzs5, hos5, rfl⟩
              replace hm := hm.trans hm2
              replace hz := hz.mono hm2
              clear hm2
              have hls5 := Fz.lenB hzs5
              rw [wmatch_len] at hls5
              refine r_s rfl ?_
              refine s_append rfl rfl rfl tl22 zo5 tb5 (i := 1) rfl (Src.fz hzs5 (one_bytes _) hos5) (by omega) (by unfold maxLen; omega) (fun a5 c5 => ?_)
              refine r_y rfl rfl (y_assign rfl) ?_
              refine r_nil ?_
              refine hK71 _ _ _ ?_
              clear hK71 K71
              refine c_seq (fun K72 hK72 => ?_)
              refine c_region ?_
              refine r_y rfl rfl (y_move rfl) ?_
              refine r_y rfl rfl (y_fieldAddr rfl At.lit fo50_6 rfl) ?_
              refine r_y rfl rfl (y_load_s rfl ts3 (RdS.blk (i := 0) rfl rfl)) ?_
              refine r_y rfl rfl (y_conv_iw rfl un3 un25) ?_
              refine r_s rfl ?_
              refine s_call0 rfl Try.call66 rfl (rNum_w (iw y.1.hits) 8 _ _ (by decide)) ?_
              rintro _ m2 _ hm2 ⟨s2, rfl, hzs2, hos2, rfl⟩
              replace hm := hm.trans hm2
              replace hz := hz.mono hm2
              replace hzs5 := hzs5.mono hm2
              clear hm2
              have hls2 := Fz.lenB hzs2
              rw [wput_len] at hls2
              refine r_s rfl ?_
              refine s_append rfl rfl rfl tl22 zo5 tb5 (i := 1) rfl (Src.fz hzs2 (one_bytes _) hos2) (by omega) (by unfold maxLen; omega) (fun a6 c6 => ?_)
              refine r_y rfl rfl (y_assign rfl) ?_
              refine r_nil ?_
              refine hK72 _ _ _ ?_
              clear hK72 K72
              refine c_seq (fun K73 hK73 => ?_)
              refine c_region ?_
              refine r_y rfl rfl (y_move rfl) ?_
              refine r_y rfl rfl (y_fieldAddr rfl At.lit fo50_7 rfl) ?_
              refine r_y rfl rfl (y_load_s rfl ts3 (RdS.blk (i := 0) rfl rfl)) ?_
              refine r_y rfl rfl (y_conv_iw rfl un3 un25) ?_
              refine r_s rfl ?_
              refine s_call0 rfl Try.call66 rfl (rNum_w (iw y.1.quiet) 8 _ _ (by decide)) ?_
              rintro _ m2 _ hm2 ⟨s3, rfl, hzs3, hos3, rfl⟩
              replace hm := hm.trans hm2
              replace hz := hz.mono hm2
              replace hzs5 := hzs5.mono hm2
              replace hzs2 := hzs2.mono hm2
              clear hm2
              have hls3 := Fz.lenB hzs3
              rw [wput_len] at hls3
              refine r_s rfl ?_
              refine s_append rfl rfl rfl tl22 zo5 tb5 (i := 1) rfl (Src.fz hzs3 (one_bytes _) hos3) (by omega) (by unfold maxLen; omega) (fun a7 c7 => ?_)
              refine r_y rfl rfl (y_assign rfl) ?_
              refine r_nil ?_
              refine hK73 _ _ _ ?_
              clear hK73 K73
              refine c_seq (fun K74 hK74 => ?_)
              refine c_region ?_
              refine r_y rfl rfl (y_move rfl) ?_
              refine r_y rfl rfl (y_fieldAddr rfl At.lit fo50_8 rfl) ?_
              refine r_y rfl rfl (y_load_s rfl ts3 (RdS.blk (i := 0) rfl rfl)) ?_
              refine r_y rfl rfl (y_conv_iw rfl un3 un25) ?_
              refine r_s rfl ?_
              refine s_call0 rfl Try.call66 rfl (rNum_w (iw y.1.age) 8 _ _ (by decide)) ?_
              rintro _ m2 _ hm2 ⟨s4, rfl, hzs4, hos4, rfl⟩
              replace hm := hm.trans hm2
              replace hz := hz.mono hm2
              replace hzs5 := hzs5.mono hm2
              replace hzs2 := hzs2.mono hm2
              replace hzs3 := hzs3.mono hm2
              clear hm2
              have hls4 := Fz.lenB hzs4
              rw [wput_len] at hls4
              refine r_s rfl ?_
              refine s_append rfl rfl rfl tl22 zo5 tb5 (i := 1) rfl (Src.fz hzs4 (one_bytes _) hos4) (by omega) (by unfold maxLen; omega) (fun a8 c8 => ?_)
              refine r_y rfl rfl (y_assign rfl) ?_
              refine r_nil ?_
              refine hK74 _ _ _ ?_
              clear hK74 K74
              refine c_region ?_
              refine r_y rfl rfl (y_move rfl) ?_
              refine r_y rfl rfl (y_fieldAddr rfl At.lit fo50_2 rfl) ?_
              refine r_y rfl rfl (y_load_s rfl ts30 (RdS.blk (i := 0) rfl rfl)) ?_
              refine r_s rfl ?_
              refine s_call0 rfl Try.call68 rfl (rActs2_w y.2 y.1.acts _ _ (hz.rules.acts y (List.mem_of_getElem? hy)).1 (by omega)) ?_
              rintro _ m2 _ hm2 ⟨s9, rfl, hzs9, hos9, rfl⟩
              replace hm := hm.trans hm2
              replace hz := hz.mono hm2
              replace hzs5 := hzs5.mono hm2
              replace hzs2 := hzs2.mono hm2
              replace hzs3 := hzs3.mono hm2
              replace hzs4 := hzs4.mono hm2
              clear hm2
              have hls9 := Fz.lenB hzs9
              rw [wacts_len] at hls9
              refine r_s rfl ?_
              refine s_append rfl rfl rfl tl22 zo5 tb5 (i := 1) rfl (Src.fz hzs9 (one_bytes _) hos9) (by omega) (by unfold maxLen; omega) (fun a9 c9 => ?_)
              refine r_y rfl rfl (y_assign rfl) ?_
              refine r_nil ?_
              refine hK69 _ _ _ ?_
              clear hK69 K69
              refine c_region ?_
              refine r_del 0 rfl ?_
              refine r_y rfl rfl (y_move rfl) ?_
              first | refine r_y rfl rfl (y_inc rfl (by omega)) ?_ | refine r_y rfl rfl (y_iop rfl rfl rfl) ?_
              refine r_y rfl rfl (y_assign rfl) ?_
              refine r_nil ?_
              exact ⟨k1 - 1, (i + 1, ⟨a9, sv.n + s5.n + s2.n + s3.n + s4.n + s9.n, c9⟩), by omega, ⟨rfl, rfl, rfl, trivial⟩, (by simp only [wrules_step hx1, wrule, wputs, List.append_nil, bytes1_append, List.append_assoc] <;> rfl), ⟨by omega, by simp only [hls5, hls2, hls3, hls4, hls9, wrules_step hx1, wrule, wputs, List.length_append, wput_len, List.length_cons, List.length_nil, wmatch_len, wacts_len] at hsn ⊢; omega⟩, hm, hz⟩
            ·
              obtain rfl : i = sr.n := by simp at hir; omega
              refine c_exit ?_
              refine hK45 _ _ _ ?_
              clear hK67 K67 hK45 K45
              refine c_seq (fun K75 hK75 => ?_)
              refine c_region ?_
              refine r_y rfl rfl (y_move rfl) ?_
              refine r_y rfl rfl (y_assign rfl) ?_
              refine r_nil ?_
              refine hK75 _ _ _ ?_
              clear hK75 K75
              refine c_ret ?_
              refine e_retf [0, 1] 1 hm (res_tmps rfl) ?_
              have hE := enc_9 he (.inl (by simpa using k9))
              have hW : wrulesL ((lr.map (·.1)).take sr.n) = wrulesL x.rules := by rw [List.take_of_length_le (by simp; omega), hq]
              have hN := hl
              rw [hE]
              exact ⟨sv, rfl, by rw [hsn, hW, hN], by simp only [vItem, hW]; simp only [hN] <;> rfl⟩
          ·
            refine c_region ?_
            refine r_y rfl rfl (y_iop rfl rfl rfl) ?_
            refine r_y rfl rfl (y_assign rfl) ?_
            refine r_nil ?_
            refine hK63 _ _ _ ?_
            clear hK63 K63
            refine c_cond rfl (fun k10 => ?_) (fun k10 => ?_)
            ·
              refine c_seq (fun K76 hK76 => ?_)
              refine c_region ?_
              refine r_y rfl rfl (y_move rfl) ?_
              refine r_y rfl rfl (y_fieldAddr rfl At.lit fo35_6 rfl) ?_
              refine r_y rfl rfl (y_load_s rfl ts33 (RdS.blk (i := 1) rfl rfl)) ?_
              refine r_y rfl rfl (y_len tl33 rfl) ?_
              refine r_y rfl rfl (y_conv_iw rfl un3 un25) ?_
              refine r_s rfl ?_
              refine s_call0 rfl Try.call66 rfl (rNum_w (iw (sr.n : Nat)) 2 _ _ (by decide)) ?_
              rintro _ m2 _ hm2 ⟨s2, rfl, hzs2, hos2, rfl⟩
              replace hm := hm.trans hm2
              replace hz := hz.mono hm2
              replace hzsn := hzsn.mono hm2
              clear hm2
              have hls2 := Fz.lenB hzs2
              rw [wput_len] at hls2
              refine r_s rfl ?_
              refine s_append rfl rfl rfl tl22 zo5 tb5 (i := 0) rfl (Src.fz hzs2 (one_bytes _) hos2) (by omega) (by unfold maxLen; omega) (fun a2 c2 => ?_)
              refine r_y rfl rfl (y_assign rfl) ?_
              refine r_nil ?_
              refine hK76 _ _ _ ?_
              clear hK76 K76
              refine c_seq (fun K77 hK77 => ?_)
              refine c_region ?_
              refine r_y rfl rfl (y_assign rfl) ?_
              refine r_nil ?_
              refine hK77 _ _ _ ?_
              clear hK77 K77
              refine c_block ?_
              have hact : ∀ y ∈ lr.map (·.1), y.acts.length ≤ 8 := hq ▸ msgSound_rules hs (by first | exact .inl (by simpa using k9) | exact .inr (by simpa using k10))
              refine c_loopx (α := Nat × Sl) (fun vv => match vv with | (i, sv) => [(1, .pointer (some ⟨b0, 0, none⟩)), (3, sv.v), (5, .int .i64 (i : Nat))]) (fun vv => match vv with | (i, sv) => .vec sv.a sv.n sv.cap 5 1 (bytes1 ([b8 x.kind] ++ wput (iw x.txn) 4 ++ wput (iw (sr.n : Nat)) 2 ++ wrulesL ((lr.map (·.1)).take i))) :: .blk b0 (.cells (encMsg x sm sr).toArray 35) :: H) (fun k1 vv m1 => match vv with | (i, sv) => (i + k1 = sr.n ∧ sv.n = ([b8 x.kind] ++ wput (iw x.txn) 4 ++ wput (iw (sr.n : Nat)) 2 ++ wrulesL ((lr.map (·.1)).take i)).length) ∧ m.le m1 ∧ (MsgOk m1 x sm sr lr)) (sr.n) (0, ⟨a2, 1 + sn.n + s2.n, c2⟩) ⟨rfl, rfl, rfl, trivial⟩ (by simp only [List.take_zero, wrulesL, List.append_nil, bytes1_append, bytes1_one] <;> rfl) ⟨⟨by omega, by simp [hlsn, hls2, wrulesL]⟩, hm, hz⟩ ?_
              clear hm hz
              rintro k1 ⟨i, sv⟩ m1 ⟨hi1, hm, hz⟩
              obtain ⟨hi, hsn⟩ := hi1
              have hbd := wrulesL_take (k := 8) i hact
              have hsl : sv.n ≤ 7 + i * 316 := by rw [hsn]; simp only [List.length_append, wput_len, List.length_cons, List.length_nil]; omega
              refine c_seq (fun K78 hK78 => ?_)
              refine c_seq (fun K79 hK79 => ?_)
              refine c_region ?_
              refine r_y rfl rfl (y_move rfl) ?_
              refine r_y rfl rfl (y_fieldAddr rfl At.lit fo35_6 rfl) ?_
              refine r_y rfl rfl (y_load_s rfl ts33 (RdS.blk (i := 1) rfl rfl)) ?_
              refine r_y rfl rfl (y_len tl33 rfl) ?_
              refine r_y rfl rfl (y_iop rfl rfl rfl) ?_
              refine r_nil ?_
              refine hK79 _ _ _ ?_
              clear hK79 K79
              refine c_cond rfl (fun hir => ?_) (fun hir => ?_)
              ·
                have hlt : i < sr.n := by simp at hir; omega
                obtain ⟨y, hy⟩ := get_of_lt (l := lr) (k := i) (by omega)
                have hx1 : (lr.map (·.1))[i]? = some y.1 := map_get hy
                have hya := hact y.1 (List.mem_of_getElem? hx1)
                refine c_skip ?_
                refine hK78 _ _ _ ?_
                clear hK78 K78
                refine c_seq (fun K80 hK80 => ?_)
                refine c_block ?_
                refine c_seq (fun K81 hK81 => ?_)
                refine c_region ?_
                refine r_y rfl rfl (y_fieldAddr rfl At.lit fo35_6 rfl) ?_
                refine r_y rfl rfl (y_load_s rfl ts33 (RdS.blk (i := 1) rfl rfl)) ?_
                refine r_y rfl rfl (y_move rfl) ?_
                refine r_y rfl rfl (y_indexAddr_slice rfl rfl tl33 hlt (At.fz hz.rules.fz hlt)) ?_
                refine r_y rfl rfl (y_load_a rfl ts50 (RdA.fz0 hz.rules.fz (map_get hy))) ?_
                refine r_s rfl ?_
                refine s_alloc rfl tz50 (fun b2 => ?_)
                refine r_s rfl ?_
                refine s_store (us := encRule y.1 y.2) rfl rfl rfl ts50 rfl rfl (one_rule _ _) (i := 0) rfl rfl ?_
                refine r_nil ?_
                refine hK81 _ _ _ ?_
                clear hK81 K81
                refine c_seq (fun K82 hK82 => ?_)
                refine c_region ?_
                refine r_y rfl rfl (y_move rfl) ?_
                refine r_y rfl rfl (y_fieldAddr rfl At.lit fo50_0 rfl) ?_
                refine r_y rfl rfl (y_load_a (cs := encCube y.1.m) rfl ts29 (RdA.blk (i := 0) rfl rfl)) ?_
                refine r_y rfl rfl (y_fieldAddr rfl At.lit fo50_1 rfl) ?_
                refine r_y rfl rfl (y_load_s rfl ts3 (RdS.blk (i := 0) rfl rfl)) ?_
                refine r_y rfl rfl (y_fieldAddr rfl At.lit fo50_3 rfl) ?_
                refine r_y rfl rfl (y_load_s rfl ts3 (RdS.blk (i := 0) rfl rfl)) ?_
                refine r_y rfl rfl (y_fieldAddr rfl At.lit fo50_4 rfl) ?_
                refine r_y rfl rfl (y_load_s rfl ts3 (RdS.blk (i := 0) rfl rfl)) ?_
                refine r_y rfl rfl (y_fieldAddr rfl At.lit fo50_5 rfl) ?_
                refine r_y rfl rfl (y_load_s rfl ts3 (RdS.blk (i := 0) rfl rfl)) ?_
                refine r_s rfl ?_
                refine s_call0 rfl Try.call67 rfl (rHeads_w y.1.m y.1.prio y.1.idle y.1.hard y.1.owner _ _) ?_
                rintro _ m2 _ hm2 ⟨s5, rfl, hzs5, hos5, rfl⟩
                replace hm := hm.trans hm2
                replace hz := hz.mono hm2
                clear hm2
                have hls5 := Fz.lenB hzs5
                rw [wmatch_len] at hls5
                refine r_s rfl ?_
                refine s_append rfl rfl rfl tl22 zo5 tb5 (i := 1) rfl (Src.fz hzs5 (one_bytes _) hos5) (by omega) (by unfold maxLen; omega) (fun a5 c5 => ?_)
                refine r_y rfl rfl (y_assign rfl) ?_
                refine r_nil ?_
                refine hK82 _ _ _ ?_
                clear hK82 K82
                refine c_seq (fun K83 hK83 => ?_)
                refine c_region ?_
                refine r_y rfl rfl (y_move rfl) ?_
                refine r_y rfl rfl (y_fieldAddr rfl At.lit fo50_6 rfl) ?_
                refine r_y rfl rfl (y_load_s rfl ts3 (RdS.blk (i := 0) rfl rfl)) ?_
                refine r_y rfl rfl (y_conv_iw rfl un3 un25) ?_
                refine r_s rfl ?_
                refine s_call0 rfl Try.call66 rfl (rNum_w (iw y.1.hits) 8 _ _ (by decide)) ?_
                rintro _ m2 _ hm2 ⟨s2, rfl, hzs2, hos2, rfl⟩
                replace hm := hm.trans hm2
                replace hz := hz.mono hm2
                replace hzs5 := hzs5.mono hm2
                clear hm2
                have hls2 := Fz.lenB hzs2
                rw [wput_len] at hls2
                refine r_s rfl ?_
                refine s_append rfl rfl rfl tl22 zo5 tb5 (i := 1) rfl (Src.fz hzs2 (one_bytes _) hos2) (by omega) (by unfold maxLen; omega) (fun a6 c6 => ?_)
                refine r_y rfl rfl (y_assign rfl) ?_
                refine r_nil ?_
                refine hK83 _ _ _ ?_
                clear hK83 K83
                refine c_seq (fun K84 hK84 => ?_)
                refine c_region ?_
                refine r_y rfl rfl (y_move rfl) ?_
                refine r_y rfl rfl (y_fieldAddr rfl At.lit fo50_7 rfl) ?_
                refine r_y rfl rfl (y_load_s rfl ts3 (RdS.blk (i := 0) rfl rfl)) ?_
                refine r_y rfl rfl (y_conv_iw rfl un3 un25) ?_
                refine r_s rfl ?_
                refine s_call0 rfl Try.call66 rfl (rNum_w (iw y.1.quiet) 8 _ _ (by decide)) ?_
                rintro _ m2 _ hm2 ⟨s3, rfl, hzs3, hos3, rfl⟩
                replace hm := hm.trans hm2
                replace hz := hz.mono hm2
                replace hzs5 := hzs5.mono hm2
                replace hzs2 := hzs2.mono hm2
                clear hm2
                have hls3 := Fz.lenB hzs3
                rw [wput_len] at hls3
                refine r_s rfl ?_
                refine s_append rfl rfl rfl tl22 zo5 tb5 (i := 1) rfl (Src.fz hzs3 (one_bytes _) hos3) (by omega) (by unfold maxLen; omega) (fun a7 c7 => ?_)
                refine r_y rfl rfl (y_assign rfl) ?_
                refine r_nil ?_
                refine hK84 _ _ _ ?_
                clear hK84 K84
                refine c_seq (fun K85 hK85 => ?_)
                refine c_region ?_
                refine r_y rfl rfl (y_move rfl) ?_
                refine r_y rfl rfl (y_fieldAddr rfl At.lit fo50_8 rfl) ?_
                refine r_y rfl rfl (y_load_s rfl ts3 (RdS.blk (i := 0) rfl rfl)) ?_
                refine r_y rfl rfl (y_conv_iw rfl un3 un25) ?_
                refine r_s rfl ?_
                refine s_call0 rfl Try.call66 rfl (rNum_w (iw y.1.age) 8 _ _ (by decide)) ?_
                rintro _ m2 _ hm2 ⟨s4, rfl, hzs4, hos4, rfl⟩
                replace hm := hm.trans hm2
                replace hz := hz.mono hm2
                replace hzs5 := hzs5.mono hm2
                replace hzs2 := hzs2.mono hm2
                replace hzs3 := hzs3.mono hm2
                clear hm2
                have hls4 := Fz.lenB hzs4
                rw [wput_len] at hls4
                refine r_s rfl ?_
                refine s_append rfl rfl rfl tl22 zo5 tb5 (i := 1) rfl (Src.fz hzs4 (one_bytes _) hos4) (by omega) (by unfold maxLen; omega) (fun a8 c8 => ?_)
                refine r_y rfl rfl (y_assign rfl) ?_
                refine r_nil ?_
                refine hK85 _ _ _ ?_
                clear hK85 K85
                refine c_region ?_
                refine r_y rfl rfl (y_move rfl) ?_
                refine r_y rfl rfl (y_fieldAddr rfl At.lit fo50_2 rfl) ?_
                refine r_y rfl rfl (y_load_s rfl ts30 (RdS.blk (i := 0) rfl rfl)) ?_
                refine r_s rfl ?_
                refine s_call0 rfl Try.call68 rfl (rActs2_w y.2 y.1.acts _ _ (hz.rules.acts y (List.mem_of_getElem? hy)).1 (by omega)) ?_
                rintro _ m2 _ hm2 ⟨s9, rfl, hzs9, hos9, rfl⟩
                replace hm := hm.trans hm2
                replace hz := hz.mono hm2
                replace hzs5 := hzs5.mono hm2
                replace hzs2 := hzs2.mono hm2
                replace hzs3 := hzs3.mono hm2
                replace hzs4 := hzs4.mono hm2
                clear hm2
                have hls9 := Fz.lenB hzs9
                rw [wacts_len] at hls9
                refine r_s rfl ?_
                refine s_append rfl rfl rfl tl22 zo5 tb5 (i := 1) rfl (Src.fz hzs9 (one_bytes _) hos9) (by omega) (by unfold maxLen; omega) (fun a9 c9 => ?_)
                refine r_y rfl rfl (y_assign rfl) ?_
                refine r_nil ?_
                refine hK80 _ _ _ ?_
                clear hK80 K80
                refine c_region ?_
                refine r_del 0 rfl ?_
                refine r_y rfl rfl (y_move rfl) ?_
                first | refine r_y rfl rfl (y_inc rfl (by omega)) ?_ | refine r_y rfl rfl (y_iop rfl rfl rfl) ?_
                refine r_y rfl rfl (y_assign rfl) ?_
                refine r_nil ?_
                exact ⟨k1 - 1, (i + 1, ⟨a9, sv.n + s5.n + s2.n + s3.n + s4.n + s9.n, c9⟩), by omega, ⟨rfl, rfl, rfl, trivial⟩, (by simp only [wrules_step hx1, wrule, wputs, List.append_nil, bytes1_append, List.append_assoc] <;> rfl), ⟨by omega, by simp only [hls5, hls2, hls3, hls4, hls9, wrules_step hx1, wrule, wputs, List.length_append, wput_len, List.length_cons, List.length_nil, wmatch_len, wacts_len] at hsn ⊢; omega⟩, hm, hz⟩
              ·
                obtain rfl : i = sr.n := by simp at hir; omega
                refine c_exit ?_
                refine hK45 _ _ _ ?_
                clear hK78 K78 hK45 K45
                refine c_seq (fun K86 hK86 => ?_)
                refine c_region ?_
                refine r_y rfl rfl (y_move rfl) ?_
                refine r_y rfl rfl (y_assign rfl) ?_
                refine r_nil ?_
                refine hK86 _ _ _ ?_
                clear hK86 K86
                refine c_ret ?_
                refine e_retf [0, 1] 1 hm (res_tmps rfl) ?_
                have hE := enc_9 he (.inr (by simpa using k10))
                have hW : wrulesL ((lr.map (·.1)).take sr.n) = wrulesL x.rules := by rw [List.take_of_length_le (by simp; omega), hq]
                have hN := hl
                rw [hE]
                exact ⟨sv, rfl, by rw [hsn, hW, hN], by simp only [vItem, hW]; simp only [hN] <;> rfl⟩
            ·
              refine c_skip ?_
              refine hK45 _ _ _ ?_
              clear hK45 K45
              refine c_seq (fun K87 hK87 => ?_)
              refine c_region ?_
              refine r_y rfl rfl (y_move rfl) ?_
              refine r_y rfl rfl (y_assign rfl) ?_
              refine r_nil ?_
              refine hK87 _ _ _ ?_
              clear hK87 K87
              refine c_ret ?_
              refine e_retf [0, 1] 1 hm (res_tmps rfl) ?_
              have hE := enc_o he k1 k6 k8 k9 k10
              rw [hE]
              exact ⟨⟨a1, _, c1⟩, rfl, by simp [hlsn] <;> omega, by simp only [vItem, bytes1_append, bytes1_one, List.append_assoc] <;> rfl⟩
end Go.Aw
namespace Go.Aw
open Go Go.Proofs
set_option maxRecDepth 100000 in
theorem small_w (x : MsgD) (sm sr : Sl) (lr : List (RuleD × Sl)) (m : Snap) (H : Hp) (hz : MsgOk m x sm sr lr) : Fn Try.prog 23 [.agg (encMsg x sm sr).toArray] m H (fun v _ H' => v = .bool (decide (x.rules.length ≤ 40) && decide (x.mod.acts.length ≤ 300)) ∧ H' = H) := by
  have hl := hz.len
  have hl2 := hz.mod.lenA
  have hm : m.le m := Snap.le.refl m
  refine fn_end Try.func23 rfl rfl rfl ?_
  refine c_seq (fun K0 hK0 => ?_)
  refine c_region ?_
  refine r_s rfl ?_
  refine s_box_a rfl rfl (fun b0 => ?_)
  refine r_y rfl rfl (y_assign rfl) ?_
  refine r_nil ?_
  refine hK0 _ _ _ ?_
  clear hK0 K0
  refine c_seq (fun K1 hK1 => ?_)
  refine c_region ?_
  refine r_y rfl rfl (y_fieldAddr rfl At.lit fo35_6 rfl) ?_
  refine r_y rfl rfl (y_load_s rfl ts33 (RdS.blk (i := 0) rfl rfl)) ?_
  refine r_y rfl rfl (y_len tl33 rfl) ?_
  refine r_y rfl rfl (y_iop rfl rfl rfl) ?_
  refine r_y rfl rfl (y_move rfl) ?_
  refine r_split (j := 4) rfl (fun h0 => ?_) (fun h0 => ?_)
  ·
    refine r_yg rfl h0 rfl (y_fieldAddr rfl At.lit fo35_3 rfl) ?_
    refine r_yg rfl h0 rfl (y_fieldAddr rfl At.lit fo32_3 rfl) ?_
    refine r_yg rfl h0 rfl (y_load_s rfl ts30 (RdS.blk (i := 0) rfl rfl)) ?_
    refine r_yg rfl h0 rfl (y_len tl30 rfl) ?_
    refine r_yg rfl h0 rfl (y_iop rfl rfl rfl) ?_
    refine r_y rfl rfl (y_pickt rfl h0 rfl) ?_
    refine r_y rfl rfl (y_assign rfl) ?_
    refine r_nil ?_
    refine hK1 _ _ _ ?_
    clear hK1 K1
    refine c_ret ?_
    refine e_ret 1 hm (res_tmps rfl) ?_
    refine ⟨congrArg Value.bool ?_, rfl⟩
    rw [Bool.eq_iff_iff]
    simp at h0 ⊢
    omega
  ·
    refine r_no' rfl rfl h0 ?_
    refine r_no' rfl rfl h0 ?_
    refine r_no' rfl rfl h0 ?_
    refine r_no' rfl rfl h0 ?_
    refine r_no' rfl rfl h0 ?_
    refine r_y rfl rfl (y_pickf rfl h0 rfl) ?_
    refine r_y rfl rfl (y_assign rfl) ?_
    refine r_nil ?_
    refine hK1 _ _ _ ?_
    clear hK1 K1
    refine c_ret ?_
    refine e_ret 1 hm (res_tmps rfl) ?_
    refine ⟨congrArg Value.bool ?_, rfl⟩
    rw [Bool.eq_iff_iff]
    simp at h0 ⊢
    omega
end Go.Aw
namespace Go.Aw
open Go
theorem cput_some : ∀ (l : List Value) (o : Nat) (us : List Value), o + us.length ≤ l.length → cput l o us = some (l.take o ++ us ++ l.drop (o + us.length))
  | l, 0, [], _ => by simp [cput]
  | [], 0, _ :: _, h => by simp at h
  | v :: r, 0, u :: us, h => by
    have := cput_some r 0 us (by simp at h ⊢; omega)
    simp only [cput, this]
    simp
  | [], o + 1, us, h => by simp at h
  | v :: r, o + 1, us, h => by
    have := cput_some r o us (by simp at h ⊢; omega)
    simp only [cput, this]
    rw [show o + 1 + us.length = (o + us.length) + 1 by omega]
    simp
theorem cput_mid {A B l us x : List Value} {o : Nat} (h : cput l o us = some x) : cput (A ++ (l ++ B)) (A.length + o) us = some (A ++ (x ++ B)) := by
  obtain ⟨h1, h2⟩ := cput_spec l o us x h
  rw [cput_some _ _ _ (by simp; omega), h2]
  congr 1
  rw [List.take_append, List.take_of_length_le (by omega : A.length ≤ A.length + o), Nat.add_sub_cancel_left, List.take_append_of_le_length (by omega)]
  rw [show A.length + o + us.length = A.length + (o + us.length) by omega, List.drop_append, List.drop_eq_nil_of_le (by omega : A.length ≤ A.length + (o + us.length)), Nat.add_sub_cancel_left, List.drop_append_of_le_length (by omega)]
  simp
theorem flatten_set {s : Nat} : ∀ {cs : List (List Value)}, (∀ c ∈ cs, c.length = s) → ∀ {k j : Nat} {c c' us : List Value}, cs[k]? = some c → cput c j us = some c' →
    ∃ A B, cs.flatten = A ++ (c ++ B) ∧ (cs.set k c').flatten = A ++ (c' ++ B) ∧ A.length = k * s
  | [], _, k, j, c, c', us, hk, _ => by simp at hk
  | x :: r, h, 0, j, c, c', us, hk, hp => by
    simp only [List.getElem?_cons_zero, Option.some.injEq] at hk
    subst hk
    exact ⟨[], r.flatten, by simp, by simp, by simp⟩
  | x :: r, h, k + 1, j, c, c', us, hk, hp => by
    obtain ⟨A, B, h1, h2, h3⟩ := flatten_set (fun y hy => h y (List.mem_cons_of_mem _ hy)) (by simpa using hk) hp
    refine ⟨x ++ A, B, by simp [h1], by simp [h2], ?_⟩
    rw [List.length_append, h x List.mem_cons_self, h3, Nat.add_mul, Nat.one_mul, Nat.add_comm]
theorem cput_len {l us x : List Value} {o : Nat} (h : cput l o us = some x) : x.length = l.length := by
  obtain ⟨h1, h2⟩ := cput_spec l o us x h
  rw [h2]; simp; omega
section
variable {P : Program} {n : Nat} {Q : Post} {L : Slots} {m : Snap} {H : Hp} {ops : Array Oper} {rest : List Oper} {d : Option Tmp} {ty : TypeId} {ps : String} {af : Array Edge} {gd : Option (Nat × Bool)}
/-- A store into an element of a slice of the call's own. -/
theorem s_storev {K : Slots → Snap → Hp → Prop} {t e : TypeId} {x y : Operand} {i k j len cap s sz : Nat} {sh : Bool} {a : Option Addr} {v : Value} {us c c' : List Value} {cs : List (List Value)} (hd : dstOk n d = true) (hx : opv L x = some (.pointer (eadd a (k * s + j)))) (hy : opv L y = some v)
    (hT : tshape P t = some (sh, sz)) (hv : v.cells = us.toArray) (hl : us.length = sz) (h1 : ∀ u ∈ us, u.oneCell' = true)
    (hi : hget H i = some (.vec a len cap e s cs)) (hk : cs[k]? = some c) (hp : cput c j us = some c')
    (h : K (lput L d undef) m (hset H i (.vec a len cap e s (cs.set k c')))) : SP P n L m H ⟨d, .store t x y, ty, ps, af, gd⟩ K := by
  refine s_skip hd fun ac w hf hst => ?_
  have hh : Item.holds w (.vec a len cap e s cs) := hst.hold _ (hget_mem hi)
  obtain ⟨hown, hcl, hce⟩ := hh
  have hklt : k < len := by have := (List.getElem?_eq_some_iff.1 hk).1; omega
  rcases hown.2 with ⟨_, h0⟩ | ⟨g, cap', cur, hva, hb, hg, hle, hm, hsz, htake⟩
  · omega
  · cases hva
    obtain ⟨A, B, e1, e2, e3⟩ := flatten_set hce hk hp
    obtain ⟨S, hS⟩ : ∃ S, cur.toList = A ++ (c ++ (B ++ S)) := by
      refine ⟨cur.toList.drop (len * s), ?_⟩
      have := List.take_append_drop (len * s) cur.toList
      rw [htake, e1, List.append_assoc, List.append_assoc] at this
      exact this.symm
    have hput : cput cur.toList (k * s + j) us = some (A ++ (c' ++ (B ++ S))) := by rw [hS, ← e3]; exact cput_mid hp
    have hg' : w.heap[g]? = some (.cells cur.toList.toArray e (0, 0)) := by simpa using hg
    have hst' := run_store_row (P := P) hT hv hl h1 hput hg'
    refine ⟨m, _, w.setRow g (A ++ (c' ++ (B ++ S))).toArray, ?_, ?_, h⟩
    · simp only [eadd, Nat.zero_add] at hx
      simp [execOp, hf.eval hx, hf.eval hy, Instr.storeAt, Instr.sureAddr, hst']
    · have hlen := cput_len hput
      have hc' := cput_len hp
      refine hst.write_at hi rfl ?_ rfl rfl rfl fun q hq _ => setRow_other w g q _ ?_
      · have hall : ∀ z ∈ cs.set k c', z.length = s := fun z hz => by
          rcases List.mem_or_eq_of_mem_set hz with hz | rfl
          · exact hce z hz
          · rw [hc']; exact hce c (List.mem_of_getElem? hk)
        refine ⟨⟨by rw [length_flatten hall, List.length_set, hcl], .inr ⟨g, cap, _, rfl, hb, setRow_heap w g _ _ _ _ hg', hle, hm, ?_, ?_⟩⟩, by simpa using hcl, hall⟩
        · rw [List.size_toArray, hlen]; simpa using hsz
        · rw [List.toList_toArray, ← List.append_assoc c', ← List.append_assoc, ← e2]
          have hfl : (cs.set k c').flatten.length = len * s := by rw [length_flatten hall, List.length_set, hcl]
          rw [List.take_append_of_le_length (by omega)]
          exact List.take_of_length_le (by omega)
      · simpa [Item.own] using hq
theorem y_remn {t t' : TypeId} {x y : Operand} {a b : Nat} (hx : opv L x = some (.int .i64 (a : Int))) (hy : opv L y = some (.int .i64 (b : Int))) (hb : 0 < b) :
    Yl P n L m H ⟨d, .binOp .rem t x y t', ty, ps, af, gd⟩ (.int .i64 ((a % b : Nat) : Int)) :=
  y_iop hx hy (by
    simp only [iop]
    rw [if_neg (by omega), ← Int.ofNat_tmod])
end
/-- A contract whose end may be told otherwise. -/
theorem Fn.post {P : Program} {f : FuncId} {args : List Value} {m : Snap} {H : Hp} {R R' : Value → Snap → Hp → Prop} (h : Fn P f args m H R)
    (hr : ∀ v m' H' w, m.le m' → St m' H' w → R v m' H' → ∃ m2 H2, m'.le m2 ∧ St m2 H2 w ∧ R' v m2 H2) : Fn P f args m H R' :=
  fun w hs => (h w hs).mono fun _ _ ⟨v, m', H', h1, h2, h3, h4⟩ => by
    obtain ⟨m2, H2, g1, g2, g3⟩ := hr v m' H' _ h2 h3 h4
    exact ⟨v, m2, H2, h1, h2.trans g1, g2, g3⟩
end Go.Aw
namespace Go.Aw
open Go
theorem wrulesL_len8 {l : List RuleD} (h : ∀ r ∈ l, r.acts.length ≤ 8) : (wrulesL l).length ≤ l.length * 316 := wrulesL_len (k := 8) h
theorem encode_len {x : MsgD} {l : List UInt8} (he : encode x = some l) : 5 ≤ l.length ∧ l.length ≤ 20709100 := by
  obtain ⟨hs, hr⟩ := encode_some he
  by_cases k1 : (x.kind == 1) = true
  · have := modSound_acts (x := x.mod) (by simp only [beq_iff_eq] at k1; simp [msgSound, msgBody, k1] at hs; exact hs.2.2)
    rw [enc_1 he k1]; simp; omega
  by_cases k6 : (x.kind == 6) = true
  · rw [enc_6 he k6]; simp
  by_cases k8 : (x.kind == 8) = true
  · rw [enc_8 he k8]; simp
  by_cases k9 : x.kind = 9 ∨ x.kind = 10
  · have := wrulesL_len8 (msgSound_rules hs k9)
    rw [enc_9 he k9]; simp; omega
  · rw [enc_o he (by simpa using k1) (by simpa using k6) (by simpa using k8) (by simp; omega) (by simp; omega)]; simp
theorem set_self {l : List UInt8} {k : Nat} {c : UInt8} (h : l[k]? = some c) : l.set k c = l := by
  apply List.ext_getElem?
  intro i
  by_cases e : k = i
  · subst e; rw [h, List.getElem?_set_self (List.getElem?_eq_some_iff.1 h).1]
  · rw [List.getElem?_set_ne e]
theorem bytes1_set (l : List UInt8) (k : Nat) (c : UInt8) : bytes1 (l.set k c) = (bytes1 l).set k [bv c] := by simp [bytes1, List.map_set]
theorem set_ne {l : List UInt8} {k : Nat} {o c : UInt8} (h : l[k]? = some o) (hne : o ≠ c) : l.set k c ≠ l := by
  intro e
  have := congrArg (·[k]?) e
  simp only [List.getElem?_set_self (List.getElem?_eq_some_iff.1 h).1, h, Option.some.injEq] at this
  exact hne this.symm
theorem turned_ne {x : MsgD} {l : List UInt8} {k : Nat} {o c : UInt8} (he : encode x = some l) (h : l[k]? = some o) (hne : o ≠ c) (s : Sl) (h0 : (decode s (l.set k c)).2 = 0) : (decode s (l.set k c)).1 ≠ x := by
  intro e
  have := decode_encode h0
  rw [e, he, Option.some.injEq] at this
  exact set_ne h hne this.symm
section
variable {P : Program} {n : Nat} {L : Slots} {m : Snap} {H : Hp} {d : Option Tmp} {ty : TypeId} {ps : String} {af : Array Edge} {gd : Option (Nat × Bool)}
theorem y_conv_un {src dst : TypeId} {x : Operand} {k : IntKind} {a : Nat} (hx : opv L x = some (.int k (a : Int))) (hs : P.underlying src = some (.int k)) (ht : P.underlying dst = some (.int .i64)) (ha : a ≤ 9223372036854775807) :
    Yl P n L m H ⟨d, .convert src dst x, ty, ps, af, gd⟩ (.int .i64 (a : Int)) :=
  y_conv_int hx (by rw [hs]; rfl) ht (wrap_nat (by omega) rfl)
end
end Go.Aw
namespace Go.Aw
open Go Go.Proofs
theorem un44 : Try.prog.underlying 44 = some (.int .u16) := by kernel_rfl
theorem sameTwo_w (s1 s2 : Sl) (p1 p2 : MsgS) (m : Snap) (H : Hp) (hz1 : FzMs m s1 [p1]) (hz2 : FzMs m s2 [p2]) : Fn Try.prog 20 [s1.v, s2.v] m H (fun v _ H' => v = .bool (decide (p1.x = p2.x)) ∧ H' = H) :=
  (rSameMsgs_w s1 s2 [p1] [p2] m H hz1 hz2).mono fun v m' H' _ ⟨h1, h2⟩ => ⟨by rw [h1]; simp, h2⟩
set_option maxRecDepth 100000 in
theorem codeTurned_w (x : MsgD) (sm sr : Sl) (lr : List (RuleD × Sl)) (n : Nat) (c : UInt8) (m : Snap) (H : Hp) (hz : MsgOk m x sm sr lr) (hx : MsgI x) (hn : n < 65536) : Fn Try.prog 5 [.agg (encMsg x sm sr).toArray, .int .u16 (n : Nat), bv c] m H (fun v _ H' => v = .bool true ∧ H' = H) := by
  have hm : m.le m := Snap.le.refl m
  refine fn_end Try.func5 rfl rfl rfl ?_
  refine c_seq (fun K0 hK0 => ?_)
  refine c_region ?_
  refine r_s rfl ?_
  refine s_box_a rfl rfl (fun b0 => ?_)
  refine r_y rfl rfl (y_assign rfl) ?_
  refine r_nil ?_
  refine hK0 _ _ _ ?_
  clear hK0 K0
  refine c_seq (fun K1 hK1 => ?_)
  refine c_seq (fun K2 hK2 => ?_)
  refine c_region ?_
  refine r_y rfl rfl (y_load_a (cs := encMsg x sm sr) rfl ts35 (RdA.blk (i := 0) rfl rfl)) ?_
  refine r_s rfl ?_
  refine s_call0 rfl Try.call23 rfl (small_w x sm sr lr _ _ hz) ?_
  rintro _ m2 _ hm2 ⟨rfl, rfl⟩
  replace hm := hm.trans hm2
  replace hz := hz.mono hm2
  clear hm2
  refine r_y rfl rfl (y_not rfl) ?_
  refine r_y rfl rfl (y_move rfl) ?_
  refine r_split (j := 3) rfl (fun hT => ?_) (fun hT => ?_)
  ·
    refine r_no' rfl rfl hT ?_
    refine r_no' rfl rfl hT ?_
    refine r_no' rfl rfl hT ?_
    refine r_y rfl rfl (y_pickt rfl hT rfl) ?_
    refine r_nil ?_
    refine hK2 _ _ _ ?_
    clear hK2 K2
    refine c_ift rfl rfl ?_
    refine c_seq (fun K3 hK3 => ?_)
    refine c_region ?_
    refine r_s rfl ?_
    refine s_call0 rfl Try.call17 rfl (answers_w _ _) ?_
    rintro _ m2 _ hm2 ⟨rfl, rfl⟩
    replace hm := hm.trans hm2
    replace hz := hz.mono hm2
    clear hm2
    refine r_y rfl rfl (y_assign rfl) ?_
    refine r_nil ?_
    refine hK3 _ _ _ ?_
    clear hK3 K3
    refine c_ret ?_
    refine e_ret 1 hm (res_tmps rfl) ?_
    first
      | exact ⟨rfl, rfl⟩
      | (have hoc : o = c := UInt8.toNat_inj.1 (by simp at hK; omega)
         subst hoc
         have hd := encode_decode he hx sv
         simp only [set_self ho, hd] at hE ⊢
         first | (exfalso; revert hE; decide) | (refine ⟨?_, rfl⟩; simp))
      | (have hne : o ≠ c := by rintro rfl; simp at hK
         refine ⟨?_, rfl⟩
         have := turned_ne he ho hne sv (by simpa using hN)
         simp [this])
  ·
    refine r_yg rfl hT rfl (y_load_a (cs := encMsg x sm sr) rfl ts35 (RdA.blk (i := 0) rfl rfl)) ?_
    refine r_sg rfl hT ?_
    refine s_call0 rfl Try.call24 rfl (rMsg_w x sm sr lr _ _ hz) ?_
    rintro _ m2 _ hm2 ⟨rfl, rfl⟩
    replace hm := hm.trans hm2
    replace hz := hz.mono hm2
    clear hm2
    refine r_yg rfl hT rfl (y_not rfl) ?_
    refine r_y rfl rfl (y_pickf rfl hT rfl) ?_
    refine r_nil ?_
    refine hK2 _ _ _ ?_
    clear hK2 K2
    refine c_cond rfl (fun hS => ?_) (fun hS => ?_)
    ·
      refine c_seq (fun K4 hK4 => ?_)
      refine c_region ?_
      refine r_s rfl ?_
      refine s_call0 rfl Try.call17 rfl (answers_w _ _) ?_
      rintro _ m2 _ hm2 ⟨rfl, rfl⟩
      replace hm := hm.trans hm2
      replace hz := hz.mono hm2
      clear hm2
      refine r_y rfl rfl (y_assign rfl) ?_
      refine r_nil ?_
      refine hK4 _ _ _ ?_
      clear hK4 K4
      refine c_ret ?_
      refine e_ret 1 hm (res_tmps rfl) ?_
      first
        | exact ⟨rfl, rfl⟩
        | (have hoc : o = c := UInt8.toNat_inj.1 (by simp at hK; omega)
           subst hoc
           have hd := encode_decode he hx sv
           simp only [set_self ho, hd] at hE ⊢
           first | (exfalso; revert hE; decide) | (refine ⟨?_, rfl⟩; simp))
        | (have hne : o ≠ c := by rintro rfl; simp at hK
           refine ⟨?_, rfl⟩
           have := turned_ne he ho hne sv (by simpa using hN)
           simp [this])
    ·
      refine c_skip ?_
      refine hK1 _ _ _ ?_
      clear hK1 K1
      refine c_seq (fun K5 hK5 => ?_)
      refine c_region ?_
      have hS1 := hS
      simp only [Bool.not_eq_false, Bool.and_eq_true, decide_eq_true_eq, Bool.not_eq_eq_eq_not, Bool.not_false, Bool.not_true] at hS1
      obtain ⟨l, he⟩ := encode_of_sound hS1.1 hS1.2
      obtain ⟨hl5, hlu⟩ := encode_len he
      refine r_y rfl rfl (y_load_a (cs := encMsg x sm sr) rfl ts35 (RdA.blk (i := 0) rfl rfl)) ?_
      refine r_s rfl ?_
      refine s_call0 rfl Try.call25 rfl (rEncode_w x sm sr lr _ _ hz l he) ?_
      rintro _ m2 _ hm2 ⟨sv, rfl, hsv, rfl⟩
      replace hm := hm.trans hm2
      replace hz := hz.mono hm2
      clear hm2
      refine r_y rfl rfl (y_assign rfl) ?_
      refine r_nil ?_
      refine hK5 _ _ _ ?_
      clear hK5 K5
      refine c_seq (fun K6 hK6 => ?_)
      refine c_region ?_
      have hlt : n % sv.n < sv.n := Nat.mod_lt _ (by omega)
      obtain ⟨o, ho⟩ := get_of_lt (l := l) (k := n % sv.n) (by omega)
      refine r_y rfl rfl (y_move rfl) ?_
      refine r_y rfl rfl (y_conv_un rfl un44 un3 (by omega)) ?_
      refine r_y rfl rfl (y_move rfl) ?_
      refine r_y rfl rfl (y_len tl22 rfl) ?_
      refine r_y rfl rfl (y_remn rfl rfl (by omega)) ?_
      refine r_y rfl rfl (y_assign rfl) ?_
      refine r_nil ?_
      refine hK6 _ _ _ ?_
      clear hK6 K6
      refine c_seq (fun K7 hK7 => ?_)
      refine c_region ?_
      refine r_y rfl rfl (y_move rfl) ?_
      refine r_y rfl rfl (y_move rfl) ?_
      refine r_y rfl rfl (y_indexAddr_slice rfl rfl tl22 hlt (At.vec (i := 0) rfl hlt)) ?_
      refine r_y rfl rfl (y_load_s rfl ts5 (RdS.vec (j := 0) (s := 1) (k := n % sv.n) (i := 0) rfl rfl (bytes1_get ho) rfl)) ?_
      refine r_y rfl rfl (y_assign rfl) ?_
      refine r_nil ?_
      refine hK7 _ _ _ ?_
      clear hK7 K7
      refine c_seq (fun K8 hK8 => ?_)
      refine c_region ?_
      refine r_y rfl rfl (y_move rfl) ?_
      refine r_y rfl rfl (y_move rfl) ?_
      refine r_y rfl rfl (y_move rfl) ?_
      refine r_y rfl rfl (y_indexAddr_slice rfl rfl tl22 hlt (At.vec (i := 0) rfl hlt)) ?_
      refine r_s rfl ?_
      refine s_storev (k := n % sv.n) (j := 0) rfl rfl rfl ts5 rfl rfl (by simp [bv, Value.oneCell']) (i := 0) rfl (bytes1_get ho) rfl ?_
      refine r_nil ?_
      refine hK8 _ _ _ ?_
      clear hK8 K8
      refine c_seq (fun K9 hK9 => ?_)
      refine c_region ?_
      refine r_freezeVec (i := 0) rfl rfl (fun m3 hm3 hzv hov => ?_)
      replace hm := hm.trans hm3
      replace hz := hz.mono hm3
      clear hm3
      rw [← bytes1_set] at hzv
      refine r_y rfl rfl (y_move rfl) ?_
      refine r_s rfl ?_
      refine s_call0 rfl Try.call18 rfl (decode_w sv (l.set (n % sv.n) c) _ _ hzv) ?_
      rintro _ m2 _ hm2 ⟨sm1, sr1, lr1, rfl, hx1, rfl⟩
      replace hm := hm.trans hm2
      replace hz := hz.mono hm2
      replace hzv := hzv.mono hm2
      clear hm2
      refine r_y rfl rfl (y_move rfl) ?_
      refine r_y rfl rfl (y_extract rfl rfl) ?_
      refine r_y rfl rfl (y_extract rfl rfl) ?_
      refine r_s rfl ?_
      refine s_alloc rfl tz35 (fun b1 => ?_)
      refine r_s rfl ?_
      refine s_store (us := encMsg (decode sv (l.set (n % sv.n) c)).1 sm1 sr1) rfl rfl rfl ts35 rfl rfl (one_msg _ _ _) (i := 0) rfl rfl ?_
      refine r_y rfl rfl (y_assign rfl) ?_
      refine r_nil ?_
      refine hK9 _ _ _ ?_
      clear hK9 K9
      refine c_seq (fun K10 hK10 => ?_)
      refine c_seq (fun K11 hK11 => ?_)
      refine c_region ?_
      refine r_y rfl rfl (y_move rfl) ?_
      refine r_y rfl rfl (y_move rfl) ?_
      refine r_y rfl rfl (y_iop rfl rfl rfl) ?_
      refine r_nil ?_
      refine hK11 _ _ _ ?_
      clear hK11 K11
      refine c_cond rfl (fun hK => ?_) (fun hK => ?_)
      ·
        refine c_seq (fun K12 hK12 => ?_)
        refine c_region ?_
        refine r_s rfl ?_
        refine s_call0 rfl Try.call17 rfl (answers_w _ _) ?_
        rintro _ m2 _ hm2 ⟨rfl, rfl⟩
        replace hm := hm.trans hm2
        replace hz := hz.mono hm2
        replace hzv := hzv.mono hm2
        replace hx1 := hx1.mono hm2
        clear hm2
        refine r_y rfl rfl (y_move rfl) ?_
        refine r_yg rfl rfl rfl (y_move rfl) ?_
        refine r_yg rfl rfl rfl (y_iop rfl rfl rfl) ?_
        refine r_y rfl rfl (y_pickt rfl rfl rfl) ?_
        refine r_y rfl rfl (y_move rfl) ?_
        refine r_split (j := 5) rfl (fun hE => ?_) (fun hE => ?_)
        ·
          refine r_yg rfl hE rfl (y_load_a (cs := encMsg (decode sv (l.set (n % sv.n) c)).1 sm1 sr1) rfl ts35 (RdA.blk (i := 0) rfl rfl)) ?_
          refine r_sg rfl hE ?_
          refine s_buildSlice (cs := (encMsg (decode sv (l.set (n % sv.n) c)).1 sm1 sr1)) (e := 35) rfl rfl (fun _ => by kernel_rfl) (fun b2 => ?_)
          refine r_yg rfl hE rfl (y_load_a (cs := encMsg x sm sr) rfl ts35 (RdA.blk (i := 2) rfl rfl)) ?_
          refine r_sg rfl hE ?_
          refine s_buildSlice (cs := (encMsg x sm sr)) (e := 35) rfl rfl (fun _ => by kernel_rfl) (fun b3 => ?_)
          refine r_freeze (i := 1) rfl (fun m3 hm3 hc0 => ?_)
          replace hm := hm.trans hm3
          replace hz := hz.mono hm3
          replace hzv := hzv.mono hm3
          replace hx1 := hx1.mono hm3
          try replace hc0 := fun j v h => hm3.cell (hc0 j v h)
          try replace hc1 := fun j v h => hm3.cell (hc1 j v h)
          clear hm3
          refine r_freeze (i := 0) rfl (fun m3 hm3 hc1 => ?_)
          replace hm := hm.trans hm3
          replace hz := hz.mono hm3
          replace hzv := hzv.mono hm3
          replace hx1 := hx1.mono hm3
          try replace hc0 := fun j v h => hm3.cell (hc0 j v h)
          try replace hc1 := fun j v h => hm3.cell (hc1 j v h)
          clear hm3
          have hM1 : FzMs _ ⟨some ⟨b2, 0, none⟩, 1, 1⟩ [⟨(decode sv (l.set (n % sv.n) c)).1, sm1, sr1, lr1⟩] := fzMs_one hc0 hx1
          have hM2 : FzMs _ ⟨some ⟨b3, 0, none⟩, 1, 1⟩ [⟨x, sm, sr, lr⟩] := fzMs_one hc1 hz
          refine r_sg rfl hE ?_
          refine s_call0 rfl Try.call20 rfl (sameTwo_w ⟨some ⟨b2, 0, none⟩, 1, 1⟩ ⟨some ⟨b3, 0, none⟩, 1, 1⟩ ⟨(decode sv (l.set (n % sv.n) c)).1, sm1, sr1, lr1⟩ ⟨x, sm, sr, lr⟩ _ _ hM1 hM2) ?_
          rintro _ m2 _ hm2 ⟨rfl, rfl⟩
          replace hm := hm.trans hm2
          replace hz := hz.mono hm2
          replace hzv := hzv.mono hm2
          replace hx1 := hx1.mono hm2
          clear hm2
          refine r_y rfl rfl (y_pickt rfl hE rfl) ?_
          refine r_y rfl rfl (y_assign rfl) ?_
          refine r_nil ?_
          refine hK12 _ _ _ ?_
          clear hK12 K12
          refine c_ret ?_
          refine e_ret 2 hm (res_tmps rfl) ?_
          first
            | exact ⟨rfl, rfl⟩
            | (have hoc : o = c := UInt8.toNat_inj.1 (by simp at hK; omega)
               subst hoc
               have hd := encode_decode he hx sv
               simp only [set_self ho, hd] at hE ⊢
               first | (exfalso; revert hE; decide) | (refine ⟨?_, rfl⟩; simp))
            | (have hne : o ≠ c := by rintro rfl; simp at hK
               refine ⟨?_, rfl⟩
               have := turned_ne he ho hne sv (by simpa using hN)
               simp [this])
        ·
          refine r_no' rfl rfl hE ?_
          refine r_no' rfl rfl hE ?_
          refine r_no' rfl rfl hE ?_
          refine r_no' rfl rfl hE ?_
          refine r_no' rfl rfl hE ?_
          refine r_y rfl rfl (y_pickf rfl hE rfl) ?_
          refine r_y rfl rfl (y_assign rfl) ?_
          refine r_nil ?_
          refine hK12 _ _ _ ?_
          clear hK12 K12
          refine c_ret ?_
          refine e_ret 2 hm (res_tmps rfl) ?_
          first
            | exact ⟨rfl, rfl⟩
            | (have hoc : o = c := UInt8.toNat_inj.1 (by simp at hK; omega)
               subst hoc
               have hd := encode_decode he hx sv
               simp only [set_self ho, hd] at hE ⊢
               first | (exfalso; revert hE; decide) | (refine ⟨?_, rfl⟩; simp))
            | (have hne : o ≠ c := by rintro rfl; simp at hK
               refine ⟨?_, rfl⟩
               have := turned_ne he ho hne sv (by simpa using hN)
               simp [this])
      ·
        refine c_skip ?_
        refine hK10 _ _ _ ?_
        clear hK10 K10
        refine c_seq (fun K13 hK13 => ?_)
        refine c_region ?_
        refine r_s rfl ?_
        refine s_call0 rfl Try.call17 rfl (answers_w _ _) ?_
        rintro _ m2 _ hm2 ⟨rfl, rfl⟩
        replace hm := hm.trans hm2
        replace hz := hz.mono hm2
        replace hzv := hzv.mono hm2
        replace hx1 := hx1.mono hm2
        clear hm2
        refine r_y rfl rfl (y_move rfl) ?_
        refine r_yg rfl rfl rfl (y_move rfl) ?_
        refine r_yg rfl rfl rfl (y_iop rfl rfl rfl) ?_
        refine r_yg rfl rfl rfl (y_move rfl) ?_
        refine r_split (j := 4) rfl (fun hN => ?_) (fun hN => ?_)
        ·
          refine r_no' rfl rfl hN ?_
          refine r_no' rfl rfl hN ?_
          refine r_no' rfl rfl hN ?_
          refine r_no' rfl rfl hN ?_
          refine r_no' rfl rfl hN ?_
          refine r_no' rfl rfl hN ?_
          refine r_yg rfl rfl rfl (y_pickt rfl hN rfl) ?_
          refine r_y rfl rfl (y_pickt rfl rfl rfl) ?_
          refine r_y rfl rfl (y_assign rfl) ?_
          refine r_nil ?_
          refine hK13 _ _ _ ?_
          clear hK13 K13
          refine c_ret ?_
          refine e_ret 2 hm (res_tmps rfl) ?_
          first
            | exact ⟨rfl, rfl⟩
            | (have hoc : o = c := UInt8.toNat_inj.1 (by simp at hK; omega)
               subst hoc
               have hd := encode_decode he hx sv
               simp only [set_self ho, hd] at hE ⊢
               first | (exfalso; revert hE; decide) | (refine ⟨?_, rfl⟩; simp))
            | (have hne : o ≠ c := by rintro rfl; simp at hK
               refine ⟨?_, rfl⟩
               have := turned_ne he ho hne sv (by simpa using hN)
               simp [this])
        ·
          refine r_yg rfl hN rfl (y_load_a (cs := encMsg (decode sv (l.set (n % sv.n) c)).1 sm1 sr1) rfl ts35 (RdA.blk (i := 0) rfl rfl)) ?_
          refine r_sg rfl hN ?_
          refine s_buildSlice (cs := (encMsg (decode sv (l.set (n % sv.n) c)).1 sm1 sr1)) (e := 35) rfl rfl (fun _ => by kernel_rfl) (fun b2 => ?_)
          refine r_yg rfl hN rfl (y_load_a (cs := encMsg x sm sr) rfl ts35 (RdA.blk (i := 2) rfl rfl)) ?_
          refine r_sg rfl hN ?_
          refine s_buildSlice (cs := (encMsg x sm sr)) (e := 35) rfl rfl (fun _ => by kernel_rfl) (fun b3 => ?_)
          refine r_freeze (i := 1) rfl (fun m3 hm3 hc0 => ?_)
          replace hm := hm.trans hm3
          replace hz := hz.mono hm3
          replace hzv := hzv.mono hm3
          replace hx1 := hx1.mono hm3
          try replace hc0 := fun j v h => hm3.cell (hc0 j v h)
          try replace hc1 := fun j v h => hm3.cell (hc1 j v h)
          clear hm3
          refine r_freeze (i := 0) rfl (fun m3 hm3 hc1 => ?_)
          replace hm := hm.trans hm3
          replace hz := hz.mono hm3
          replace hzv := hzv.mono hm3
          replace hx1 := hx1.mono hm3
          try replace hc0 := fun j v h => hm3.cell (hc0 j v h)
          try replace hc1 := fun j v h => hm3.cell (hc1 j v h)
          clear hm3
          have hM1 : FzMs _ ⟨some ⟨b2, 0, none⟩, 1, 1⟩ [⟨(decode sv (l.set (n % sv.n) c)).1, sm1, sr1, lr1⟩] := fzMs_one hc0 hx1
          have hM2 : FzMs _ ⟨some ⟨b3, 0, none⟩, 1, 1⟩ [⟨x, sm, sr, lr⟩] := fzMs_one hc1 hz
          refine r_sg rfl hN ?_
          refine s_call0 rfl Try.call20 rfl (sameTwo_w ⟨some ⟨b2, 0, none⟩, 1, 1⟩ ⟨some ⟨b3, 0, none⟩, 1, 1⟩ ⟨(decode sv (l.set (n % sv.n) c)).1, sm1, sr1, lr1⟩ ⟨x, sm, sr, lr⟩ _ _ hM1 hM2) ?_
          rintro _ m2 _ hm2 ⟨rfl, rfl⟩
          replace hm := hm.trans hm2
          replace hz := hz.mono hm2
          replace hzv := hzv.mono hm2
          replace hx1 := hx1.mono hm2
          clear hm2
          refine r_yg rfl hN rfl (y_not rfl) ?_
          refine r_yg rfl rfl rfl (y_pickf rfl hN rfl) ?_
          refine r_y rfl rfl (y_pickt rfl rfl rfl) ?_
          refine r_y rfl rfl (y_assign rfl) ?_
          refine r_nil ?_
          refine hK13 _ _ _ ?_
          clear hK13 K13
          refine c_ret ?_
          refine e_ret 2 hm (res_tmps rfl) ?_
          first
            | exact ⟨rfl, rfl⟩
            | (have hoc : o = c := UInt8.toNat_inj.1 (by simp at hK; omega)
               subst hoc
               have hd := encode_decode he hx sv
               simp only [set_self ho, hd] at hE ⊢
               first | (exfalso; revert hE; decide) | (refine ⟨?_, rfl⟩; simp))
            | (have hne : o ≠ c := by rintro rfl; simp at hK
               refine ⟨?_, rfl⟩
               have := turned_ne he ho hne sv (by simpa using hN)
               simp [this])
end Go.Aw
