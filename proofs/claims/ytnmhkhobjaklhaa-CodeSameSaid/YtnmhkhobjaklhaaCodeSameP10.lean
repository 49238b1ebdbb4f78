/- Part 10 of the words and walks that the proof behind it uses. -/
import Derived.Test.YtnmhkhobjaklhaaCodeSameP9
set_option linter.unusedVariables false
set_option linter.unusedSimpArgs false
namespace Go.Aw
open Go Go.Proofs
set_option maxRecDepth 100000 in
theorem rEncode_w (x : MsgD) (sm sr : Sl) (lr : List (RuleD × Sl)) (m : Snap) (H : Hp) (hz : MsgOk m x sm sr lr) (l : List UInt8) (he : encode x = some l) : Fn Try.prog 25 [.agg (encMsg x sm sr).toArray] m H (fun v m' H' => ∃ s' : Sl, v = s'.v ∧ s'.n = l.length ∧ H' = vItem s' l :: H) := by
  have hl := hz.len
  have hq := hz.eq
  have hll : lr.length = x.rules.length := by rw [hq]; simp
  obtain ⟨hs, hr⟩ := encode_some he
  have hm : m.le m := Snap.le.refl m
  refine fn_end Try.func25 rfl rfl rfl ?_
  refine c_seq (fun K0 hK0 => ?_)
  refine c_region ?_
  refine r_s rfl ?_
  refine s_box_a rfl rfl (fun b0 => ?_)
  refine r_y rfl rfl (y_assign rfl) ?_
  refine r_nil ?_
  refine hK0 _ _ _ ?_
  clear hK0 K0
  refine c_seq (fun K1 hK1 => ?_)
  refine c_draw ([.blk b0 (.cells (encMsg x sm sr).toArray 35)]) (by kernel_rfl) (fun hg => ?_)
  have hz_g := hz
  refine g_y (i := 0) (listed' := #[true, false, false, false, false, false, false, false, false, false]) rfl (by kernel_rfl) (by kernel_rfl) (by kernel_rfl) (by kernel_rfl) rfl rfl hg (allc (List.Mem.head _) alln) (fun m' H' hm' hX' => y_fieldAddr rfl At.lit fo35_0 rfl) ?_
  refine g_y (i := 1) (listed' := #[true, true, false, false, false, false, false, false, false, false]) rfl (by kernel_rfl) (by kernel_rfl) (by kernel_rfl) (by kernel_rfl) rfl rfl hg (allc (List.Mem.head _) alln) (fun m' H' hm' hX' => y_load_s rfl ts3 (RdS.mem (hX' _ (List.Mem.head _)) rfl)) ?_
  refine g_y (i := 2) (listed' := #[true, true, true, false, false, false, false, false, false, false]) rfl (by kernel_rfl) (by kernel_rfl) (by kernel_rfl) (by kernel_rfl) rfl rfl hg (allc (List.Mem.head _) alln) (fun m' H' hm' hX' => y_conv_i8 rfl un3 un5) ?_
  refine g_y (i := 4) (listed' := #[true, true, true, false, true, false, false, false, false, false]) rfl (by kernel_rfl) (by kernel_rfl) (by kernel_rfl) (by kernel_rfl) rfl rfl hg (allc (List.Mem.head _) alln) (fun m' H' hm' hX' => y_fieldAddr rfl At.lit fo35_1 rfl) ?_
  refine g_y (i := 5) (listed' := #[true, true, true, false, true, true, false, false, false, false]) rfl (by kernel_rfl) (by kernel_rfl) (by kernel_rfl) (by kernel_rfl) rfl rfl hg (allc (List.Mem.head _) alln) (fun m' H' hm' hX' => y_load_s rfl ts3 (RdS.mem (hX' _ (List.Mem.head _)) rfl)) ?_
  refine g_y (i := 6) (listed' := #[true, true, true, false, true, true, true, false, false, false]) rfl (by kernel_rfl) (by kernel_rfl) (by kernel_rfl) (by kernel_rfl) rfl rfl hg (allc (List.Mem.head _) alln) (fun m' H' hm' hX' => y_conv_iw rfl un3 un25) ?_
  refine g_each (rs := [3, 7]) (by kernel_rfl) (by simp) ⟨⟨_, rfl, rfl, ?_⟩, ⟨_, rfl, rfl, ?_⟩, trivial⟩
  ·
    refine s_buildSlice (cs := [bv (b8 x.kind)]) (e := 5) rfl rfl (fun _ => by kernel_rfl) (fun b1 => ?_)
    refine ⟨⟨hg, (allc (List.Mem.tail _ (List.Mem.head _)) alln)⟩, ?_⟩
    refine g_s (i := 7) (listed' := #[true, true, true, true, true, true, true, true, false, false]) rfl (by kernel_rfl) (by kernel_rfl) rfl ?_
    refine s_call0 rfl Try.call66 rfl (rNum_w (iw x.txn) 4 _ _ (by decide)) ?_
    rintro _ m2 _ hm2 ⟨sn, rfl, hzsn, hosn, rfl⟩
    replace hm := hm.trans hm2
    refine ⟨⟨hg.trans hm2, (allc (List.Mem.tail _ (List.Mem.head _)) alln)⟩, ?_⟩
    replace hg := hg.trans hm2
    replace hz := hz.mono hm2
    clear hm2
    refine g_toVec (i := 0) (s := 1) (k := 1) [[bv (b8 x.kind)]] rfl rfl (fun c h => by simp at h; subst h; rfl) rfl (by unfold maxLen; omega) ?_
    have hlsn := Fz.lenB hzsn
    rw [wput_len] at hlsn
    refine g_s (i := 8) (listed' := #[true, true, true, true, true, true, true, true, true, false]) rfl (by kernel_rfl) (by kernel_rfl) rfl ?_
    refine s_append rfl rfl rfl tl22 zo5 tb5 (i := 0) rfl (Src.fz hzsn (one_bytes _) hosn) (by omega) (by unfold maxLen; omega) (fun a1 c1 => ?_)
    refine ⟨⟨hg, (allc (List.Mem.tail _ (List.Mem.head _)) alln)⟩, ?_⟩
    refine g_y (i := 9) (listed' := #[true, true, true, true, true, true, true, true, true, true]) rfl (by kernel_rfl) (by kernel_rfl) (by kernel_rfl) (by kernel_rfl) rfl rfl hg (allc (List.Mem.tail _ (List.Mem.head _)) alln) (fun m' H' hm' hX' => y_assign rfl) ?_
    refine g_done (by kernel_rfl) ?_
    clear hg hz_g
    refine hK1 _ _ _ ?_
    clear hK1 K1
    refine c_seq (fun K2 hK2 => ?_)
    refine c_seq (fun K3 hK3 => ?_)
    refine c_region ?_
    refine r_y rfl rfl (y_fieldAddr rfl At.lit fo35_0 rfl) ?_
    refine r_y rfl rfl (y_load_s rfl ts3 (RdS.blk (i := 1) rfl rfl)) ?_
    refine r_nil ?_
    refine hK3 _ _ _ ?_
    clear hK3 K3
    refine c_block ?_
    refine c_seq (fun K4 hK4 => ?_)
    refine c_region ?_
    refine r_y rfl rfl (y_iop rfl rfl rfl) ?_
    refine r_y rfl rfl (y_assign rfl) ?_
    refine r_nil ?_
    refine hK4 _ _ _ ?_
    clear hK4 K4
    refine c_cond rfl (fun k1 => ?_) (fun k1 => ?_)
    ·
      have hac := msgSound_mod hs k1
      refine c_seq (fun K5 hK5 => ?_)
      refine c_region ?_
      refine r_y rfl rfl (y_move rfl) ?_
      refine r_y rfl rfl (y_fieldAddr rfl At.lit fo35_3 rfl) ?_
      refine r_y rfl rfl (y_fieldAddr rfl At.lit fo32_0 rfl) ?_
      refine r_y rfl rfl (y_load_s rfl ts3 (RdS.blk (i := 1) rfl rfl)) ?_
      refine r_y rfl rfl (y_conv_i8 rfl un3 un5) ?_
      refine r_s rfl ?_
      refine s_buildSlice (cs := [bv (b8 x.mod.kind)]) (e := 5) rfl rfl (fun _ => by kernel_rfl) (fun b2 => ?_)
      refine r_s rfl ?_
      refine s_append rfl rfl rfl tl22 zo5 tb5 (i := 1) rfl (Src.one' (i := 0) rfl rfl (by simp [bv, Value.oneCell'])) (by omega) (by unfold maxLen; omega) (fun a2 c2 => ?_)
      refine r_del 0 rfl ?_
      refine r_y rfl rfl (y_assign rfl) ?_
      refine r_nil ?_
      refine hK5 _ _ _ ?_
      clear hK5 K5
      refine c_seq (fun K6 hK6 => ?_)
      refine c_region ?_
      refine r_y rfl rfl (y_move rfl) ?_
      refine r_y rfl rfl (y_fieldAddr rfl At.lit fo35_3 rfl) ?_
      refine r_y rfl rfl (y_fieldAddr rfl At.lit fo32_1 rfl) ?_
      refine r_y rfl rfl (y_load_a (cs := encCube x.mod.m) rfl ts29 (RdA.blk (i := 1) rfl rfl)) ?_
      refine r_y rfl rfl (y_fieldAddr rfl At.lit fo35_3 rfl) ?_
      refine r_y rfl rfl (y_fieldAddr rfl At.lit fo32_2 rfl) ?_
      refine r_y rfl rfl (y_load_s rfl ts3 (RdS.blk (i := 1) rfl rfl)) ?_
      refine r_y rfl rfl (y_fieldAddr rfl At.lit fo35_3 rfl) ?_
      refine r_y rfl rfl (y_fieldAddr rfl At.lit fo32_4 rfl) ?_
      refine r_y rfl rfl (y_load_s rfl ts3 (RdS.blk (i := 1) rfl rfl)) ?_
      refine r_y rfl rfl (y_fieldAddr rfl At.lit fo35_3 rfl) ?_
      refine r_y rfl rfl (y_fieldAddr rfl At.lit fo32_5 rfl) ?_
      refine r_y rfl rfl (y_load_s rfl ts3 (RdS.blk (i := 1) rfl rfl)) ?_
      refine r_y rfl rfl (y_fieldAddr rfl At.lit fo35_3 rfl) ?_
      refine r_y rfl rfl (y_fieldAddr rfl At.lit fo32_6 rfl) ?_
      refine r_y rfl rfl (y_load_s rfl ts3 (RdS.blk (i := 1) rfl rfl)) ?_
      refine r_s rfl ?_
      refine s_call0 rfl Try.call67 rfl (rHeads_w x.mod.m x.mod.prio x.mod.idle x.mod.hard x.mod.owner _ _) ?_
      rintro _ m2 _ hm2 ⟨s5, rfl, hzs5, hos5, rfl⟩
      replace hm := hm.trans hm2
      replace hz := hz.mono hm2
      replace hzsn := hzsn.mono hm2
      clear hm2
      have hls5 := Fz.lenB hzs5
      rw [wmatch_len] at hls5
      refine r_s rfl ?_
      refine s_append rfl rfl rfl tl22 zo5 tb5 (i := 0) rfl (Src.fz hzs5 (one_bytes _) hos5) (by omega) (by unfold maxLen; omega) (fun a3 c3 => ?_)
      refine r_y rfl rfl (y_assign rfl) ?_
      refine r_nil ?_
      refine hK6 _ _ _ ?_
      clear hK6 K6
      refine c_seq (fun K7 hK7 => ?_)
      refine c_seq (fun K8 hK8 => ?_)
      refine c_region ?_
      refine r_y rfl rfl (y_fieldAddr rfl At.lit fo35_3 rfl) ?_
      refine r_y rfl rfl (y_fieldAddr rfl At.lit fo32_7 rfl) ?_
      refine r_y rfl rfl (y_load_s rfl ts4 (RdS.blk (i := 1) rfl rfl)) ?_
      refine r_nil ?_
      refine hK8 _ _ _ ?_
      clear hK8 K8
      refine c_cond rfl (fun kc => ?_) (fun kc => ?_)
      ·
        refine c_region ?_
        refine r_y rfl rfl (y_move rfl) ?_
        refine r_s rfl ?_
        refine s_buildSlice (cs := [.int .u8 1]) (e := 5) rfl rfl (fun _ => by kernel_rfl) (fun b3 => ?_)
        refine r_s rfl ?_
        refine s_append rfl rfl rfl tl22 zo5 tb5 (i := 1) rfl (Src.one' (i := 0) rfl rfl (by simp [bv, Value.oneCell'])) (by omega) (by unfold maxLen; omega) (fun a4 c4 => ?_)
        refine r_del 0 rfl ?_
        refine r_y rfl rfl (y_assign rfl) ?_
        refine r_nil ?_
        refine hK7 _ _ _ ?_
        clear hK7 K7
        refine c_region ?_
        refine r_y rfl rfl (y_move rfl) ?_
        refine r_y rfl rfl (y_fieldAddr rfl At.lit fo35_3 rfl) ?_
        refine r_y rfl rfl (y_fieldAddr rfl At.lit fo32_3 rfl) ?_
        refine r_y rfl rfl (y_load_s rfl ts30 (RdS.blk (i := 1) rfl rfl)) ?_
        refine r_s rfl ?_
        refine s_call0 rfl Try.call68 rfl (rActs2_w sm x.mod.acts _ _ hz.mod (by omega)) ?_
        rintro _ m2 _ hm2 ⟨s9, rfl, hzs9, hos9, rfl⟩
        replace hm := hm.trans hm2
        replace hz := hz.mono hm2
        replace hzsn := hzsn.mono hm2
        replace hzs5 := hzs5.mono hm2
        clear hm2
        have hls9 := Fz.lenB hzs9
        rw [wacts_len] at hls9
        refine r_s rfl ?_
        refine s_append rfl rfl rfl tl22 zo5 tb5 (i := 0) rfl (Src.fz hzs9 (one_bytes _) hos9) (by omega) (by unfold maxLen; omega) (fun a5 c5 => ?_)
        refine r_y rfl rfl (y_assign rfl) ?_
        refine r_nil ?_
        refine hK2 _ _ _ ?_
        clear hK2 K2
        refine c_seq (fun K9 hK9 => ?_)
        refine c_region ?_
        refine r_y rfl rfl (y_move rfl) ?_
        refine r_y rfl rfl (y_assign rfl) ?_
        refine r_nil ?_
        refine hK9 _ _ _ ?_
        clear hK9 K9
        refine c_ret ?_
        refine e_retf [0, 1] 1 hm (res_tmps rfl) ?_
        have hE := enc_1 he k1
        rw [hE]
        exact ⟨⟨a5, _, c5⟩, rfl, by simp [hlsn, hls5, hls9] <;> omega, by simp only [vItem, bytes1_append, bytes1_one, kc, if_true] <;> rfl⟩
      ·
        refine c_region ?_
        refine r_y rfl rfl (y_move rfl) ?_
        refine r_s rfl ?_
        refine s_buildSlice (cs := [.int .u8 0]) (e := 5) rfl rfl (fun _ => by kernel_rfl) (fun b3 => ?_)
        refine r_s rfl ?_
        refine s_append rfl rfl rfl tl22 zo5 tb5 (i := 1) rfl (Src.one' (i := 0) rfl rfl (by simp [bv, Value.oneCell'])) (by omega) (by unfold maxLen; omega) (fun a4 c4 => ?_)
        refine r_del 0 rfl ?_
        refine r_y rfl rfl (y_assign rfl) ?_
        refine r_nil ?_
        refine hK7 _ _ _ ?_
        clear hK7 K7
        refine c_region ?_
        refine r_y rfl rfl (y_move rfl) ?_
        refine r_y rfl rfl (y_fieldAddr rfl At.lit fo35_3 rfl) ?_
        refine r_y rfl rfl (y_fieldAddr rfl At.lit fo32_3 rfl) ?_
        refine r_y rfl rfl (y_load_s rfl ts30 (RdS.blk (i := 1) rfl rfl)) ?_
        refine r_s rfl ?_
        refine s_call0 rfl Try.call68 rfl (rActs2_w sm x.mod.acts _ _ hz.mod (by omega)) ?_
        rintro _ m2 _ hm2 ⟨s9, rfl, hzs9, hos9, rfl⟩
        replace hm := hm.trans hm2
        replace hz := hz.mono hm2
        replace hzsn := hzsn.mono hm2
        replace hzs5 := hzs5.mono hm2
        clear hm2
        have hls9 := Fz.lenB hzs9
        rw [wacts_len] at hls9
        refine r_s rfl ?_
        refine s_append rfl rfl rfl tl22 zo5 tb5 (i := 0) rfl (Src.fz hzs9 (one_bytes _) hos9) (by omega) (by unfold maxLen; omega) (fun a5 c5 => ?_)
        refine r_y rfl rfl (y_assign rfl) ?_
        refine r_nil ?_
        refine hK2 _ _ _ ?_
        clear hK2 K2
        refine c_seq (fun K10 hK10 => ?_)
        refine c_region ?_
        refine r_y rfl rfl (y_move rfl) ?_
        refine r_y rfl rfl (y_assign rfl) ?_
        refine r_nil ?_
        refine hK10 _ _ _ ?_
        clear hK10 K10
        refine c_ret ?_
        refine e_retf [0, 1] 1 hm (res_tmps rfl) ?_
        have hE := enc_1 he k1
        rw [hE]
        exact ⟨⟨a5, _, c5⟩, rfl, by simp [hlsn, hls5, hls9] <;> omega, by simp only [vItem, bytes1_append, bytes1_one, kc, Bool.false_eq_true, if_false] <;> rfl⟩
    ·
      refine c_seq (fun K11 hK11 => ?_)
      refine c_region ?_
      refine r_y rfl rfl (y_iop rfl rfl rfl) ?_
      refine r_y rfl rfl (y_assign rfl) ?_
      refine r_nil ?_
      refine hK11 _ _ _ ?_
      clear hK11 K11
      refine c_cond rfl (fun k6 => ?_) (fun k6 => ?_)
      ·
        refine c_region ?_
        refine r_y rfl rfl (y_move rfl) ?_
        refine r_y rfl rfl (y_fieldAddr rfl At.lit fo35_2 rfl) ?_
        refine r_y rfl rfl (y_load_s rfl ts24 (RdS.blk (i := 1) rfl rfl)) ?_
        refine r_y rfl rfl (y_conv_i8 rfl un24 un5) ?_
        refine r_s rfl ?_
        refine s_buildSlice (cs := [bv (b8 x.e)]) (e := 5) rfl rfl (fun _ => by kernel_rfl) (fun b2 => ?_)
        refine r_s rfl ?_
        refine s_append rfl rfl rfl tl22 zo5 tb5 (i := 1) rfl (Src.one' (i := 0) rfl rfl (by simp [bv, Value.oneCell'])) (by omega) (by unfold maxLen; omega) (fun a2 c2 => ?_)
        refine r_del 0 rfl ?_
        refine r_y rfl rfl (y_assign rfl) ?_
        refine r_nil ?_
        refine hK2 _ _ _ ?_
        clear hK2 K2
        refine c_seq (fun K12 hK12 => ?_)
        refine c_region ?_
        refine r_y rfl rfl (y_move rfl) ?_
        refine r_y rfl rfl (y_assign rfl) ?_
        refine r_nil ?_
        refine hK12 _ _ _ ?_
        clear hK12 K12
        refine c_ret ?_
        refine e_retf [0, 1] 1 hm (res_tmps rfl) ?_
        have hE := enc_6 he k6
        rw [hE]
        exact ⟨⟨a2, _, c2⟩, rfl, by simp [hlsn] <;> omega, by simp only [vItem, bytes1_append, bytes1_one, List.append_assoc] <;> rfl⟩
      ·
        refine c_seq (fun K13 hK13 => ?_)
        refine c_region ?_
        refine r_y rfl rfl (y_iop rfl rfl rfl) ?_
        refine r_y rfl rfl (y_assign rfl) ?_
        refine r_nil ?_
        refine hK13 _ _ _ ?_
        clear hK13 K13
        refine c_cond rfl (fun k8 => ?_) (fun k8 => ?_)
        ·
          refine c_seq (fun K14 hK14 => ?_)
          refine c_region ?_
          refine r_y rfl rfl (y_move rfl) ?_
          refine r_y rfl rfl (y_fieldAddr rfl At.lit fo35_4 rfl) ?_
          refine r_y rfl rfl (y_load_s rfl ts3 (RdS.blk (i := 1) rfl rfl)) ?_
          refine r_y rfl rfl (y_conv_i8 rfl un3 un5) ?_
          refine r_s rfl ?_
          refine s_buildSlice (cs := [bv (b8 x.port)]) (e := 5) rfl rfl (fun _ => by kernel_rfl) (fun b2 => ?_)
          refine r_s rfl ?_
          refine s_append rfl rfl rfl tl22 zo5 tb5 (i := 1) rfl (Src.one' (i := 0) rfl rfl (by simp [bv, Value.oneCell'])) (by omega) (by unfold maxLen; omega) (fun a2 c2 => ?_)
          refine r_del 0 rfl ?_
          refine r_y rfl rfl (y_assign rfl) ?_
          refine r_nil ?_
          refine hK14 _ _ _ ?_
          clear hK14 K14
          refine c_seq (fun K15 hK15 => ?_)
          refine c_region ?_
          refine r_y rfl rfl (y_assign rfl) ?_
          refine r_nil ?_
          refine hK15 _ _ _ ?_
          clear hK15 K15
          refine c_block ?_
          refine c_loopx (α := Nat × Sl) (fun vv => match vv with | (i, sv) => [(1, .pointer (some ⟨b0, 0, none⟩)), (3, sv.v), (4, .int .i64 (i : Nat))]) (fun vv => match vv with | (i, sv) => .vec sv.a sv.n sv.cap 5 1 (bytes1 ([b8 x.kind] ++ wput (iw x.txn) 4 ++ [b8 x.port] ++ wputs 8 ((headL x.head).take i))) :: .blk b0 (.cells (encMsg x sm sr).toArray 35) :: H) (fun k0 vv m1 => match vv with | (i, sv) => (i + k0 = 12 ∧ sv.n = ([b8 x.kind] ++ wput (iw x.txn) 4 ++ [b8 x.port] ++ wputs 8 ((headL x.head).take i)).length) ∧ m.le m1 ∧ (MsgOk m1 x sm sr lr)) (12) (0, ⟨a2, 1 + sn.n + 1, c2⟩) ⟨rfl, rfl, rfl, trivial⟩ (by simp only [List.take_zero, wputs, List.append_nil, bytes1_append, bytes1_one] <;> rfl) ⟨⟨by omega, by simp [hlsn, wputs]⟩, hm, hz⟩ ?_
          clear hm hz
          rintro k0 ⟨i, sv⟩ m1 ⟨hi0, hm, hz⟩
          obtain ⟨hi, hsn⟩ := hi0
          have hsl : sv.n ≤ 102 := by rw [hsn]; simp [headL]; omega
          refine c_seq (fun K16 hK16 => ?_)
          refine c_seq (fun K17 hK17 => ?_)
          refine c_region ?_
          refine r_y rfl rfl (y_move rfl) ?_
          refine r_y rfl rfl (y_iop rfl rfl rfl) ?_
          refine r_nil ?_
          refine hK17 _ _ _ ?_
          clear hK17 K17
          refine c_cond rfl (fun hi8 => ?_) (fun hi8 => ?_)
          ·
            have hlt : i < 12 := by simp at hi8; omega
            refine c_skip ?_
            refine hK16 _ _ _ ?_
            clear hK16 K16
            refine c_seq (fun K18 hK18 => ?_)
            refine c_block ?_
            refine c_region ?_
            refine r_y rfl rfl (y_move rfl) ?_
            refine r_y rfl rfl (y_move rfl) ?_
            refine r_y rfl rfl (y_fieldAddr rfl At.lit fo35_5 rfl) ?_
            refine r_y rfl rfl (y_indexAddr_arr rfl rfl ta27 hlt At.lit) ?_
            refine r_y rfl rfl (y_load_s rfl ts25 (RdS.blk (i := 1) rfl (cget_msghead _ _ _ hlt))) ?_
            refine r_s rfl ?_
            refine s_call0 rfl Try.call66 rfl (rNum_w (x.head.at i) 8 _ _ (by decide)) ?_
            rintro _ m2 _ hm2 ⟨sn, rfl, hzsn, hosn, rfl⟩
            replace hm := hm.trans hm2
            replace hz := hz.mono hm2
            clear hm2
            have hlsn := Fz.lenB hzsn
            rw [wput_len] at hlsn
            refine r_s rfl ?_
            refine s_append rfl rfl rfl tl22 zo5 tb5 (i := 0) rfl (Src.fz hzsn (one_bytes _) hosn) (by omega) (by unfold maxLen; omega) (fun a1 c1 => ?_)
            refine r_y rfl rfl (y_assign rfl) ?_
            refine r_nil ?_
            refine hK18 _ _ _ ?_
            clear hK18 K18
            refine c_region ?_
            refine r_y rfl rfl (y_move rfl) ?_
            first | refine r_y rfl rfl (y_inc rfl (by omega)) ?_ | refine r_y rfl rfl (y_iop rfl rfl rfl) ?_
            refine r_y rfl rfl (y_assign rfl) ?_
            refine r_nil ?_
            exact ⟨k0 - 1, (i + 1, ⟨a1, sv.n + sn.n, c1⟩), by omega, ⟨rfl, rfl, rfl, trivial⟩, (by simp only [← whead_step _ hlt, ← List.append_assoc, bytes1_append] <;> rfl), ⟨by omega, by simp only [hsn, hlsn, ← whead_step _ hlt, List.length_append, wput_len]; try omega⟩, hm, hz⟩
          ·
            obtain rfl : i = 12 := by simp at hi8; omega
            refine c_exit ?_
            refine hK2 _ _ _ ?_
            clear hK16 K16 hK2 K2
            refine c_seq (fun K19 hK19 => ?_)
            refine c_region ?_
            refine r_y rfl rfl (y_move rfl) ?_
            refine r_y rfl rfl (y_assign rfl) ?_
            refine r_nil ?_
            refine hK19 _ _ _ ?_
            clear hK19 K19
            refine c_ret ?_
            refine e_retf [0, 1] 1 hm (res_tmps rfl) ?_
            have hE := enc_8 he k8
            have hW : wputs 8 ((headL x.head).take 12) = whead x.head := by rw [List.take_of_length_le (by simp [headL])]; rfl
            rw [hE]
            exact ⟨sv, rfl, by rw [hsn, hW], by simp only [vItem, hW] <;> rfl⟩
        ·
          refine c_seq (fun K20 hK20 => ?_)
          refine c_seq (fun K21 hK21 => ?_)
          refine c_region ?_
          refine r_y rfl rfl (y_iop rfl rfl rfl) ?_
          refine r_y rfl rfl (y_assign rfl) ?_
          refine r_nil ?_
          refine hK21 _ _ _ ?_
          clear hK21 K21
          refine c_cond rfl (fun k9 => ?_) (fun k9 => ?_)
          ·
            refine c_skip ?_
            refine hK20 _ _ _ ?_
            clear hK20 K20
            refine c_ift rfl k9 ?_
            refine c_seq (fun K22 hK22 => ?_)
            refine c_region ?_
            refine r_y rfl rfl (y_move rfl) ?_
            refine r_y rfl rfl (y_fieldAddr rfl At.lit fo35_6 rfl) ?_
            refine r_y rfl rfl (y_load_s rfl ts33 (RdS.blk (i := 1) rfl rfl)) ?_
            refine r_y rfl rfl (y_len tl33 rfl) ?_
            refine r_y rfl rfl (y_conv_iw rfl un3 un25) ?_
            refine r_s rfl ?_
            refine s_call0 rfl Try.call66 rfl (rNum_w (iw (sr.n : Nat)) 2 _ _ (by decide)) ?_
            rintro _ m2 _ hm2 ⟨s2, rfl, hzs2, hos2, rfl⟩
            replace hm := hm.trans hm2
            replace hz := hz.mono hm2
            replace hzsn := hzsn.mono hm2
            clear hm2
            have hls2 := Fz.lenB hzs2
            rw [wput_len] at hls2
            refine r_s rfl ?_
            refine s_append rfl rfl rfl tl22 zo5 tb5 (i := 0) rfl (Src.fz hzs2 (one_bytes _) hos2) (by omega) (by unfold maxLen; omega) (fun a2 c2 => ?_)
            refine r_y rfl rfl (y_assign rfl) ?_
            refine r_nil ?_
            refine hK22 _ _ _ ?_
            clear hK22 K22
            refine c_seq (fun K23 hK23 => ?_)
            refine c_region ?_
            refine r_y rfl rfl (y_assign rfl) ?_
            refine r_nil ?_
            refine hK23 _ _ _ ?_
            clear hK23 K23
            refine c_block ?_
            have hact : ∀ y ∈ lr.map (·.1), y.acts.length ≤ 8 := hq ▸ msgSound_rules hs (by first | exact .inl (by simpa using k9) | exact .inr (by simpa using k10))
            refine c_loopx (α := Nat × Sl) (fun vv => match vv with | (i, sv) => [(1, .pointer (some ⟨b0, 0, none⟩)), (3, sv.v), (5, .int .i64 (i : Nat))]) (fun vv => match vv with | (i, sv) => .vec sv.a sv.n sv.cap 5 1 (bytes1 ([b8 x.kind] ++ wput (iw x.txn) 4 ++ wput (iw (sr.n : Nat)) 2 ++ wrulesL ((lr.map (·.1)).take i))) :: .blk b0 (.cells (encMsg x sm sr).toArray 35) :: H) (fun k1 vv m1 => match vv with | (i, sv) => (i + k1 = sr.n ∧ sv.n = ([b8 x.kind] ++ wput (iw x.txn) 4 ++ wput (iw (sr.n : Nat)) 2 ++ wrulesL ((lr.map (·.1)).take i)).length) ∧ m.le m1 ∧ (MsgOk m1 x sm sr lr)) (sr.n) (0, ⟨a2, 1 + sn.n + s2.n, c2⟩) ⟨rfl, rfl, rfl, trivial⟩ (by simp only [List.take_zero, wrulesL, List.append_nil, bytes1_append, bytes1_one] <;> rfl) ⟨⟨by omega, by simp [hlsn, hls2, wrulesL]⟩, hm, hz⟩ ?_
            clear hm hz
            rintro k1 ⟨i, sv⟩ m1 ⟨hi1, hm, hz⟩
            obtain ⟨hi, hsn⟩ := hi1
            have hbd := wrulesL_take (k := 8) i hact
            have hsl : sv.n ≤ 7 + i * 316 := by rw [hsn]; simp only [List.length_append, wput_len, List.length_cons, List.length_nil]; omega
            refine c_seq (fun K24 hK24 => ?_)
            refine c_seq (fun K25 hK25 => ?_)
            refine c_region ?_
            refine r_y rfl rfl (y_move rfl) ?_
            refine r_y rfl rfl (y_fieldAddr rfl At.lit fo35_6 rfl) ?_
            refine r_y rfl rfl (y_load_s rfl ts33 (RdS.blk (i := 1) rfl rfl)) ?_
            refine r_y rfl rfl (y_len tl33 rfl) ?_
            refine r_y rfl rfl (y_iop rfl rfl rfl) ?_
            refine r_nil ?_
            refine hK25 _ _ _ ?_
            clear hK25 K25
            refine c_cond rfl (fun hir => ?_) (fun hir => ?_)
            ·
              have hlt : i < sr.n := by simp at hir; omega
              obtain ⟨y, hy⟩ := get_of_lt (l := lr) (k := i) (by omega)
              have hx1 : (lr.map (·.1))[i]? = some y.1 := map_get hy
              have hya := hact y.1 (List.mem_of_getElem? hx1)
              refine c_skip ?_
              refine hK24 _ _ _ ?_
              clear hK24 K24
              refine c_seq (fun K26 hK26 => ?_)
              refine c_block ?_
              refine c_seq (fun K27 hK27 => ?_)
              refine c_region ?_
              refine r_y rfl rfl (y_fieldAddr rfl At.lit fo35_6 rfl) ?_
              refine r_y rfl rfl (y_load_s rfl ts33 (RdS.blk (i := 1) rfl rfl)) ?_
              refine r_y rfl rfl (y_move rfl) ?_
              refine r_y rfl rfl (y_indexAddr_slice rfl rfl tl33 hlt (At.fz hz.rules.fz hlt)) ?_
              refine r_y rfl rfl (y_load_a rfl ts50 (RdA.fz0 hz.rules.fz (map_get hy))) ?_
              refine r_s rfl ?_
              refine s_alloc rfl tz50 (fun b2 => ?_)
              refine r_s rfl ?_
              refine s_store (us := encRule y.1 y.2) rfl rfl rfl ts50 rfl rfl (one_rule _ _) (i := 0) rfl rfl ?_
              refine r_nil ?_
              refine hK27 _ _ _ ?_
              clear hK27 K27
              refine c_seq (fun K28 hK28 => ?_)
              refine c_region ?_
              refine r_y rfl rfl (y_move rfl) ?_
              refine r_y rfl rfl (y_fieldAddr rfl At.lit fo50_0 rfl) ?_
              refine r_y rfl rfl (y_load_a (cs := encCube y.1.m) rfl ts29 (RdA.blk (i := 0) rfl rfl)) ?_
              refine r_y rfl rfl (y_fieldAddr rfl At.lit fo50_1 rfl) ?_
              refine r_y rfl rfl (y_load_s rfl ts3 (RdS.blk (i := 0) rfl rfl)) ?_
              refine r_y rfl rfl (y_fieldAddr rfl At.lit fo50_3 rfl) ?_
              refine r_y rfl rfl (y_load_s rfl ts3 (RdS.blk (i := 0) rfl rfl)) ?_
              refine r_y rfl rfl (y_fieldAddr rfl At.lit fo50_4 rfl) ?_
              refine r_y rfl rfl (y_load_s rfl ts3 (RdS.blk (i := 0) rfl rfl)) ?_
              refine r_y rfl rfl (y_fieldAddr rfl At.lit fo50_5 rfl) ?_
              refine r_y rfl rfl (y_load_s rfl ts3 (RdS.blk (i := 0) rfl rfl)) ?_
              refine r_s rfl ?_
              refine s_call0 rfl Try.call67 rfl (rHeads_w y.1.m y.1.prio y.1.idle y.1.hard y.1.owner _ _) ?_
              rintro _ m2 _ hm2 ⟨s5, rfl, hzs5, hos5, rfl⟩
              replace hm := hm.trans hm2
              replace hz := hz.mono hm2
              clear hm2
              have hls5 := Fz.lenB hzs5
              rw [wmatch_len] at hls5
              refine r_s rfl ?_
              refine s_append rfl rfl rfl tl22 zo5 tb5 (i := 1) rfl (Src.fz hzs5 (one_bytes _) hos5) (by omega) (by unfold maxLen; omega) (fun a5 c5 => ?_)
              refine r_y rfl rfl (y_assign rfl) ?_
              refine r_nil ?_
              refine hK28 _ _ _ ?_
              clear hK28 K28
              refine c_seq (fun K29 hK29 => ?_)
              refine c_region ?_
              refine r_y rfl rfl (y_move rfl) ?_
              refine r_y rfl rfl (y_fieldAddr rfl At.lit fo50_6 rfl) ?_
              refine r_y rfl rfl (y_load_s rfl ts3 (RdS.blk (i := 0) rfl rfl)) ?_
              refine r_y rfl rfl (y_conv_iw rfl un3 un25) ?_
              refine r_s rfl ?_
              refine s_call0 rfl Try.call66 rfl (rNum_w (iw y.1.hits) 8 _ _ (by decide)) ?_
              rintro _ m2 _ hm2 ⟨s2, rfl, hzs2, hos2, rfl⟩
              replace hm := hm.trans hm2
              replace hz := hz.mono hm2
              replace hzs5 := hzs5.mono hm2
              clear hm2
              have hls2 := Fz.lenB hzs2
              rw [wput_len] at hls2
              refine r_s rfl ?_
              refine s_append rfl rfl rfl tl22 zo5 tb5 (i := 1) rfl (Src.fz hzs2 (one_bytes _) hos2) (by omega) (by unfold maxLen; omega) (fun a6 c6 => ?_)
              refine r_y rfl rfl (y_assign rfl) ?_
              refine r_nil ?_
              refine hK29 _ _ _ ?_
              clear hK29 K29
              refine c_seq (fun K30 hK30 => ?_)
              refine c_region ?_
              refine r_y rfl rfl (y_move rfl) ?_
              refine r_y rfl rfl (y_fieldAddr rfl At.lit fo50_7 rfl) ?_
              refine r_y rfl rfl (y_load_s rfl ts3 (RdS.blk (i := 0) rfl rfl)) ?_
              refine r_y rfl rfl (y_conv_iw rfl un3 un25) ?_
              refine r_s rfl ?_
              refine s_call0 rfl Try.call66 rfl (rNum_w (iw y.1.quiet) 8 _ _ (by decide)) ?_
              rintro _ m2 _ hm2 ⟨s3, rfl, hzs3, hos3, rfl⟩
              replace hm := hm.trans hm2
              replace hz := hz.mono hm2
              replace hzs5 := hzs5.mono hm2
              replace hzs2 := hzs2.mono hm2
              clear hm2
              have hls3 := Fz.lenB hzs3
              rw [wput_len] at hls3
              refine r_s rfl ?_
              refine s_append rfl rfl rfl tl22 zo5 tb5 (i := 1) rfl (Src.fz hzs3 (one_bytes _) hos3) (by omega) (by unfold maxLen; omega) (fun a7 c7 => ?_)
              refine r_y rfl rfl (y_assign rfl) ?_
              refine r_nil ?_
              refine hK30 _ _ _ ?_
              clear hK30 K30
              refine c_seq (fun K31 hK31 => ?_)
              refine c_region ?_
              refine r_y rfl rfl (y_move rfl) ?_
              refine r_y rfl rfl (y_fieldAddr rfl At.lit fo50_8 rfl) ?_
              refine r_y rfl rfl (y_load_s rfl ts3 (RdS.blk (i := 0) rfl rfl)) ?_
              refine r_y rfl rfl (y_conv_iw rfl un3 un25) ?_
              refine r_s rfl ?_
              refine s_call0 rfl Try.call66 rfl (rNum_w (iw y.1.age) 8 _ _ (by decide)) ?_
              rintro _ m2 _ hm2 ⟨s4, rfl, hzs4, hos4, rfl⟩
              replace hm := hm.trans hm2
              replace hz := hz.mono hm2
              replace hzs5 := hzs5.mono hm2
              replace hzs2 := hzs2.mono hm2
              replace hzs3 := hzs3.mono hm2
              clear hm2
              have hls4 := Fz.lenB hzs4
              rw [wput_len] at hls4
              refine r_s rfl ?_
              refine s_append rfl rfl rfl tl22 zo5 tb5 (i := 1) rfl (Src.fz hzs4 (one_bytes _) hos4) (by omega) (by unfold maxLen; omega) (fun a8 c8 => ?_)
              refine r_y rfl rfl (y_assign rfl) ?_
              refine r_nil ?_
              refine hK31 _ _ _ ?_
              clear hK31 K31
              refine c_region ?_
              refine r_y rfl rfl (y_move rfl) ?_
              refine r_y rfl rfl (y_fieldAddr rfl At.lit fo50_2 rfl) ?_
              refine r_y rfl rfl (y_load_s rfl ts30 (RdS.blk (i := 0) rfl rfl)) ?_
              refine r_s rfl ?_
              refine s_call0 rfl Try.call68 rfl (rActs2_w y.2 y.1.acts _ _ (hz.rules.acts y (List.mem_of_getElem? hy)).1 (by omega)) ?_
              rintro _ m2 _ hm2 ⟨s9, rfl, hzs9, hos9, rfl⟩
              replace hm := hm.trans hm2
              replace hz := hz.mono hm2
              replace hzs5 := hzs5.mono hm2
              replace hzs2 := hzs2.mono hm2
              replace hzs3 := hzs3.mono hm2
              replace hzs4 := hzs4.mono hm2
              clear hm2
              have hls9 := Fz.lenB hzs9
              rw [wacts_len] at hls9
              refine r_s rfl ?_
              refine s_append rfl rfl rfl tl22 zo5 tb5 (i := 1) rfl (Src.fz hzs9 (one_bytes _) hos9) (by omega) (by unfold maxLen; omega) (fun a9 c9 => ?_)
              refine r_y rfl rfl (y_assign rfl) ?_
              refine r_nil ?_
              refine hK26 _ _ _ ?_
              clear hK26 K26
              refine c_region ?_
              refine r_del 0 rfl ?_
              refine r_y rfl rfl (y_move rfl) ?_
              first | refine r_y rfl rfl (y_inc rfl (by omega)) ?_ | refine r_y rfl rfl (y_iop rfl rfl rfl) ?_
              refine r_y rfl rfl (y_assign rfl) ?_
              refine r_nil ?_
              exact ⟨k1 - 1, (i + 1, ⟨a9, sv.n + s5.n + s2.n + s3.n + s4.n + s9.n, c9⟩), by omega, ⟨rfl, rfl, rfl, trivial⟩, (by simp only [wrules_step hx1, wrule, wputs, List.append_nil, bytes1_append, List.append_assoc] <;> rfl), ⟨by omega, by simp only [hls5, hls2, hls3, hls4, hls9, wrules_step hx1, wrule, wputs, List.length_append, wput_len, List.length_cons, List.length_nil, wmatch_len, wacts_len] at hsn ⊢; omega⟩, hm, hz⟩
            ·
              obtain rfl : i = sr.n := by simp at hir; omega
              refine c_exit ?_
              refine hK2 _ _ _ ?_
              clear hK24 K24 hK2 K2
              refine c_seq (fun K32 hK32 => ?_)
              refine c_region ?_
              refine r_y rfl rfl (y_move rfl) ?_
              refine r_y rfl rfl (y_assign rfl) ?_
              refine r_nil ?_
              refine hK32 _ _ _ ?_
              clear hK32 K32
              refine c_ret ?_
              refine e_retf [0, 1] 1 hm (res_tmps rfl) ?_
              have hE := enc_9 he (.inl (by simpa using k9))
              have hW : wrulesL ((lr.map (·.1)).take sr.n) = wrulesL x.rules := by rw [List.take_of_length_le (by simp; omega), hq]
              have hN := hl
              rw [hE]
              exact ⟨sv, rfl, by rw [hsn, hW, hN], by simp only [vItem, hW]; simp only [hN] <;> rfl⟩
          ·
            refine c_region ?_
            refine r_y rfl rfl (y_iop rfl rfl rfl) ?_
            refine r_y rfl rfl (y_assign rfl) ?_
            refine r_nil ?_
            refine hK20 _ _ _ ?_
            clear hK20 K20
            refine c_cond rfl (fun k10 => ?_) (fun k10 => ?_)
            ·
              refine c_seq (fun K33 hK33 => ?_)
              refine c_region ?_
              refine r_y rfl rfl (y_move rfl) ?_
              refine r_y rfl rfl (y_fieldAddr rfl At.lit fo35_6 rfl) ?_
              refine r_y rfl rfl (y_load_s rfl ts33 (RdS.blk (i := 1) rfl rfl)) ?_
              refine r_y rfl rfl (y_len tl33 rfl) ?_
              refine r_y rfl rfl (y_conv_iw rfl un3 un25) ?_
              refine r_s rfl ?_
              refine s_call0 rfl Try.call66 rfl (rNum_w (iw (sr.n : Nat)) 2 _ _ (by decide)) ?_
              rintro _ m2 _ hm2 ⟨s2, rfl, hzs2, hos2, rfl⟩
              replace hm := hm.trans hm2
              replace hz := hz.mono hm2
              replace hzsn := hzsn.mono hm2
              clear hm2
              have hls2 := Fz.lenB hzs2
              rw [wput_len] at hls2
              refine r_s rfl ?_
              refine s_append rfl rfl rfl tl22 zo5 tb5 (i := 0) rfl (Src.fz hzs2 (one_bytes _) hos2) (by omega) (by unfold maxLen; omega) (fun a2 c2 => ?_)
              refine r_y rfl rfl (y_assign rfl) ?_
              refine r_nil ?_
              refine hK33 _ _ _ ?_
              clear hK33 K33
              refine c_seq (fun K34 hK34 => ?_)
              refine c_region ?_
              refine r_y rfl rfl (y_assign rfl) ?_
              refine r_nil ?_
              refine hK34 _ _ _ ?_
              clear hK34 K34
              refine c_block ?_
              have hact : ∀ y ∈ lr.map (·.1), y.acts.length ≤ 8 := hq ▸ msgSound_rules hs (by first | exact .inl (by simpa using k9) | exact .inr (by simpa using k10))
              refine c_loopx (α := Nat × Sl) (fun vv => match vv with | (i, sv) => [(1, .pointer (some ⟨b0, 0, none⟩)), (3, sv.v), (5, .int .i64 (i : Nat))]) (fun vv => match vv with | (i, sv) => .vec sv.a sv.n sv.cap 5 1 (bytes1 ([b8 x.kind] ++ wput (iw x.txn) 4 ++ wput (iw (sr.n : Nat)) 2 ++ wrulesL ((lr.map (·.1)).take i))) :: .blk b0 (.cells (encMsg x sm sr).toArray 35) :: H) (fun k1 vv m1 => match vv with | (i, sv) => (i + k1 = sr.n ∧ sv.n = ([b8 x.kind] ++ wput (iw x.txn) 4 ++ wput (iw (sr.n : Nat)) 2 ++ wrulesL ((lr.map (·.1)).take i)).length) ∧ m.le m1 ∧ (MsgOk m1 x sm sr lr)) (sr.n) (0, ⟨a2, 1 + sn.n + s2.n, c2⟩) ⟨rfl, rfl, rfl, trivial⟩ (by simp only [List.take_zero, wrulesL, List.append_nil, bytes1_append, bytes1_one] <;> rfl) ⟨⟨by omega, by simp [hlsn, hls2, wrulesL]⟩, hm, hz⟩ ?_
              clear hm hz
              rintro k1 ⟨i, sv⟩ m1 ⟨hi1, hm, hz⟩
              obtain ⟨hi, hsn⟩ := hi1
              have hbd := wrulesL_take (k := 8) i hact
              have hsl : sv.n ≤ 7 + i * 316 := by rw [hsn]; simp only [List.length_append, wput_len, List.length_cons, List.length_nil]; omega
              refine c_seq (fun K35 hK35 => ?_)
              refine c_seq (fun K36 hK36 => ?_)
              refine c_region ?_
              refine r_y rfl rfl (y_move rfl) ?_
              refine r_y rfl rfl (y_fieldAddr rfl At.lit fo35_6 rfl) ?_
              refine r_y rfl rfl (y_load_s rfl ts33 (RdS.blk (i := 1) rfl rfl)) ?_
              refine r_y rfl rfl (y_len tl33 rfl) ?_
              refine r_y rfl rfl (y_iop rfl rfl rfl) ?_
              refine r_nil ?_
              refine hK36 _ _ _ ?_
              clear hK36 K36
              refine c_cond rfl (fun hir => ?_) (fun hir => ?_)
              ·
                have hlt : i < sr.n := by simp at hir; omega
                obtain ⟨y, hy⟩ := get_of_lt (l := lr) (k := i) (by omega)
                have hx1 : (lr.map (·.1))[i]? = some y.1 := map_get hy
                have hya := hact y.1 (List.mem_of_getElem? hx1)
                refine c_skip ?_
                refine hK35 _ _ _ ?_
                clear hK35 K35
                refine c_seq (fun K37 hK37 => ?_)
                refine c_block ?_
                refine c_seq (fun K38 hK38 => ?_)
                refine c_region ?_
                refine r_y rfl rfl (y_fieldAddr rfl At.lit fo35_6 rfl) ?_
                refine r_y rfl rfl (y_load_s rfl ts33 (RdS.blk (i := 1) rfl rfl)) ?_
                refine r_y rfl rfl (y_move rfl) ?_
                refine r_y rfl rfl (y_indexAddr_slice rfl rfl tl33 hlt (At.fz hz.rules.fz hlt)) ?_
                refine r_y rfl rfl (y_load_a rfl ts50 (RdA.fz0 hz.rules.fz (map_get hy))) ?_
                refine r_s rfl ?_
                refine s_alloc rfl tz50 (fun b2 => ?_)
                refine r_s rfl ?_
                refine s_store (us := encRule y.1 y.2) rfl rfl rfl ts50 rfl rfl (one_rule _ _) (i := 0) rfl rfl ?_
                refine r_nil ?_
                refine hK38 _ _ _ ?_
                clear hK38 K38
                refine c_seq (fun K39 hK39 => ?_)
                refine c_region ?_
                refine r_y rfl rfl (y_move rfl) ?_
                refine r_y rfl rfl (y_fieldAddr rfl At.lit fo50_0 rfl) ?_
                refine r_y rfl rfl (y_load_a (cs := encCube y.1.m) rfl ts29 (RdA.blk (i := 0) rfl rfl)) ?_
                refine r_y rfl rfl (y_fieldAddr rfl At.lit fo50_1 rfl) ?_
                refine r_y rfl rfl (y_load_s rfl ts3 (RdS.blk (i := 0) rfl rfl)) ?_
                refine r_y rfl rfl (y_fieldAddr rfl At.lit fo50_3 rfl) ?_
                refine r_y rfl rfl (y_load_s rfl ts3 (RdS.blk (i := 0) rfl rfl)) ?_
                refine r_y rfl rfl (y_fieldAddr rfl At.lit fo50_4 rfl) ?_
                refine r_y rfl rfl (y_load_s rfl ts3 (RdS.blk (i := 0) rfl rfl)) ?_
                refine r_y rfl rfl (y_fieldAddr rfl At.lit fo50_5 rfl) ?_
                refine r_y rfl rfl (y_load_s rfl ts3 (RdS.blk (i := 0) rfl rfl)) ?_
                refine r_s rfl ?_
                refine s_call0 rfl Try.call67 rfl (rHeads_w y.1.m y.1.prio y.1.idle y.1.hard y.1.owner _ _) ?_
                rintro _ m2 _ hm2 ⟨s5, rfl, hzs5, hos5, rfl⟩
                replace hm := hm.trans hm2
                replace hz := hz.mono hm2
                clear hm2
                have hls5 := Fz.lenB hzs5
                rw [wmatch_len] at hls5
                refine r_s rfl ?_
                refine s_append rfl rfl rfl tl22 zo5 tb5 (i := 1) rfl (Src.fz hzs5 (one_bytes _) hos5) (by omega) (by unfold maxLen; omega) (fun a5 c5 => ?_)
                refine r_y rfl rfl (y_assign rfl) ?_
                refine r_nil ?_
                refine hK39 _ _ _ ?_
                clear hK39 K39
                refine c_seq (fun K40 hK40 => ?_)
                refine c_region ?_
                refine r_y rfl rfl (y_move rfl) ?_
                refine r_y rfl rfl (y_fieldAddr rfl At.lit fo50_6 rfl) ?_
                refine r_y rfl rfl (y_load_s rfl ts3 (RdS.blk (i := 0) rfl rfl)) ?_
                refine r_y rfl rfl (y_conv_iw rfl un3 un25) ?_
                refine r_s rfl ?_
                refine s_call0 rfl Try.call66 rfl (rNum_w (iw y.1.hits) 8 _ _ (by decide)) ?_
                rintro _ m2 _ hm2 ⟨s2, rfl, hzs2, hos2, rfl⟩
                replace hm := hm.trans hm2
                replace hz := hz.mono hm2
                replace hzs5 := hzs5.mono hm2
                clear hm2
                have hls2 := Fz.lenB hzs2
                rw [wput_len] at hls2
                refine r_s rfl ?_
                refine s_append rfl rfl rfl tl22 zo5 tb5 (i := 1) rfl (Src.fz hzs2 (one_bytes _) hos2) (by omega) (by unfold maxLen; omega) (fun a6 c6 => ?_)
                refine r_y rfl rfl (y_assign rfl) ?_
                refine r_nil ?_
                refine hK40 _ _ _ ?_
                clear hK40 K40
                refine c_seq (fun K41 hK41 => ?_)
                refine c_region ?_
                refine r_y rfl rfl (y_move rfl) ?_
                refine r_y rfl rfl (y_fieldAddr rfl At.lit fo50_7 rfl) ?_
                refine r_y rfl rfl (y_load_s rfl ts3 (RdS.blk (i := 0) rfl rfl)) ?_
                refine r_y rfl rfl (y_conv_iw rfl un3 un25) ?_
                refine r_s rfl ?_
                refine s_call0 rfl Try.call66 rfl (rNum_w (iw y.1.quiet) 8 _ _ (by decide)) ?_
                rintro _ m2 _ hm2 ⟨s3, rfl, hzs3, hos3, rfl⟩
                replace hm := hm.trans hm2
                replace hz := hz.mono hm2
                replace hzs5 := hzs5.mono hm2
                replace hzs2 := hzs2.mono hm2
                clear hm2
                have hls3 := Fz.lenB hzs3
                rw [wput_len] at hls3
                refine r_s rfl ?_
                refine s_append rfl rfl rfl tl22 zo5 tb5 (i := 1) rfl (Src.fz hzs3 (one_bytes _) hos3) (by omega) (by unfold maxLen; omega) (fun a7 c7 => ?_)
                refine r_y rfl rfl (y_assign rfl) ?_
                refine r_nil ?_
                refine hK41 _ _ _ ?_
                clear hK41 K41
                refine c_seq (fun K42 hK42 => ?_)
                refine c_region ?_
                refine r_y rfl rfl (y_move rfl) ?_
                refine r_y rfl rfl (y_fieldAddr rfl At.lit fo50_8 rfl) ?_
                refine r_y rfl rfl (y_load_s rfl ts3 (RdS.blk (i := 0) rfl rfl)) ?_
                refine r_y rfl rfl (y_conv_iw rfl un3 un25) ?_
                refine r_s rfl ?_
                refine s_call0 rfl Try.call66 rfl (rNum_w (iw y.1.age) 8 _ _ (by decide)) ?_
                rintro _ m2 _ hm2 ⟨s4, rfl, hzs4, hos4, rfl⟩
                replace hm := hm.trans hm2
                replace hz := hz.mono hm2
                replace hzs5 := hzs5.mono hm2
                replace hzs2 := hzs2.mono hm2
                replace hzs3 := hzs3.mono hm2
                clear hm2
                have hls4 := Fz.lenB hzs4
                rw [wput_len] at hls4
                refine r_s rfl ?_
                refine s_append rfl rfl rfl tl22 zo5 tb5 (i := 1) rfl (Src.fz hzs4 (one_bytes _) hos4) (by omega) (by unfold maxLen; omega) (fun a8 c8 => ?_)
                refine r_y rfl rfl (y_assign rfl) ?_
                refine r_nil ?_
                refine hK42 _ _ _ ?_
                clear hK42 K42
                refine c_region ?_
                refine r_y rfl rfl (y_move rfl) ?_
                refine r_y rfl rfl (y_fieldAddr rfl At.lit fo50_2 rfl) ?_
                refine r_y rfl rfl (y_load_s rfl ts30 (RdS.blk (i := 0) rfl rfl)) ?_
                refine r_s rfl ?_
                refine s_call0 rfl Try.call68 rfl (rActs2_w y.2 y.1.acts _ _ (hz.rules.acts y (List.mem_of_getElem? hy)).1 (by omega)) ?_
                rintro _ m2 _ hm2 ⟨s9, rfl, hzs9, hos9, rfl⟩
                replace hm := hm.trans hm2
                replace hz := hz.mono hm2
                replace hzs5 := hzs5.mono hm2
                replace hzs2 := hzs2.mono hm2
                replace hzs3 := hzs3.mono hm2
                replace hzs4 := hzs4.mono hm2
                clear hm2
                have hls9 := Fz.lenB hzs9
                rw [wacts_len] at hls9
                refine r_s rfl ?_
                refine s_append rfl rfl rfl tl22 zo5 tb5 (i := 1) rfl (Src.fz hzs9 (one_bytes _) hos9) (by omega) (by unfold maxLen; omega) (fun a9 c9 => ?_)
                refine r_y rfl rfl (y_assign rfl) ?_
                refine r_nil ?_
                refine hK37 _ _ _ ?_
                clear hK37 K37
                refine c_region ?_
                refine r_del 0 rfl ?_
                refine r_y rfl rfl (y_move rfl) ?_
                first | refine r_y rfl rfl (y_inc rfl (by omega)) ?_ | refine r_y rfl rfl (y_iop rfl rfl rfl) ?_
                refine r_y rfl rfl (y_assign rfl) ?_
                refine r_nil ?_
                exact ⟨k1 - 1, (i + 1, ⟨a9, sv.n + s5.n + s2.n + s3.n + s4.n + s9.n, c9⟩), by omega, ⟨rfl, rfl, rfl, trivial⟩, (by simp only [wrules_step hx1, wrule, wputs, List.append_nil, bytes1_append, List.append_assoc] <;> rfl), ⟨by omega, by simp only [hls5, hls2, hls3, hls4, hls9, wrules_step hx1, wrule, wputs, List.length_append, wput_len, List.length_cons, List.length_nil, wmatch_len, wacts_len] at hsn ⊢; omega⟩, hm, hz⟩
              ·
                obtain rfl : i = sr.n := by simp at hir; omega
                refine c_exit ?_
                refine hK2 _ _ _ ?_
                clear hK35 K35 hK2 K2
                refine c_seq (fun K43 hK43 => ?_)
                refine c_region ?_
                refine r_y rfl rfl (y_move rfl) ?_
                refine r_y rfl rfl (y_assign rfl) ?_
                refine r_nil ?_
                refine hK43 _ _ _ ?_
                clear hK43 K43
                refine c_ret ?_
                refine e_retf [0, 1] 1 hm (res_tmps rfl) ?_
                have hE := enc_9 he (.inr (by simpa using k10))
                have hW : wrulesL ((lr.map (·.1)).take sr.n) = wrulesL x.rules := by rw [List.take_of_length_le (by simp; omega), hq]
                have hN := hl
                rw [hE]
                exact ⟨sv, rfl, by rw [hsn, hW, hN], by simp only [vItem, hW]; simp only [hN] <;> rfl⟩
            ·
              refine c_skip ?_
              refine hK2 _ _ _ ?_
              clear hK2 K2
              refine c_seq (fun K44 hK44 => ?_)
              refine c_region ?_
              refine r_y rfl rfl (y_move rfl) ?_
              refine r_y rfl rfl (y_assign rfl) ?_
              refine r_nil ?_
              refine hK44 _ _ _ ?_
              clear hK44 K44
              refine c_ret ?_
              refine e_retf [0, 1] 1 hm (res_tmps rfl) ?_
              have hE := enc_o he k1 k6 k8 k9 k10
              rw [hE]
              exact ⟨⟨a1, _, c1⟩, rfl, by simp [hlsn] <;> omega, by simp only [vItem, bytes1_append, bytes1_one, List.append_assoc] <;> rfl⟩
  ·
    refine s_call0 rfl Try.call66 rfl (rNum_w (iw x.txn) 4 _ _ (by decide)) ?_
    rintro _ m2 _ hm2 ⟨sn, rfl, hzsn, hosn, rfl⟩
    replace hm := hm.trans hm2
    refine ⟨⟨hg.trans hm2, (allc (List.Mem.head _) alln)⟩, ?_⟩
    replace hg := hg.trans hm2
    replace hz := hz.mono hm2
    clear hm2
    refine g_s (i := 3) (listed' := #[true, true, true, true, true, true, true, true, false, false]) rfl (by kernel_rfl) (by kernel_rfl) rfl ?_
    refine s_buildSlice (cs := [bv (b8 x.kind)]) (e := 5) rfl rfl (fun _ => by kernel_rfl) (fun b1 => ?_)
    refine ⟨⟨hg, (allc (List.Mem.tail _ (List.Mem.head _)) alln)⟩, ?_⟩
    refine g_toVec (i := 0) (s := 1) (k := 1) [[bv (b8 x.kind)]] rfl rfl (fun c h => by simp at h; subst h; rfl) rfl (by unfold maxLen; omega) ?_
    have hlsn := Fz.lenB hzsn
    rw [wput_len] at hlsn
    refine g_s (i := 8) (listed' := #[true, true, true, true, true, true, true, true, true, false]) rfl (by kernel_rfl) (by kernel_rfl) rfl ?_
    refine s_append rfl rfl rfl tl22 zo5 tb5 (i := 0) rfl (Src.fz hzsn (one_bytes _) hosn) (by omega) (by unfold maxLen; omega) (fun a1 c1 => ?_)
    refine ⟨⟨hg, (allc (List.Mem.tail _ (List.Mem.head _)) alln)⟩, ?_⟩
    refine g_y (i := 9) (listed' := #[true, true, true, true, true, true, true, true, true, true]) rfl (by kernel_rfl) (by kernel_rfl) (by kernel_rfl) (by kernel_rfl) rfl rfl hg (allc (List.Mem.tail _ (List.Mem.head _)) alln) (fun m' H' hm' hX' => y_assign rfl) ?_
    refine g_done (by kernel_rfl) ?_
    clear hg hz_g
    refine hK1 _ _ _ ?_
    clear hK1 K1
    refine c_seq (fun K45 hK45 => ?_)
    refine c_seq (fun K46 hK46 => ?_)
    refine c_region ?_
    refine r_y rfl rfl (y_fieldAddr rfl At.lit fo35_0 rfl) ?_
    refine r_y rfl rfl (y_load_s rfl ts3 (RdS.blk (i := 1) rfl rfl)) ?_
    refine r_nil ?_
    refine hK46 _ _ _ ?_
    clear hK46 K46
    refine c_block ?_
    refine c_seq (fun K47 hK47 => ?_)
    refine c_region ?_
    refine r_y rfl rfl (y_iop rfl rfl rfl) ?_
    refine r_y rfl rfl (y_assign rfl) ?_
    refine r_nil ?_
    refine hK47 _ _ _ ?_
    clear hK47 K47
    refine c_cond rfl (fun k1 => ?_) (fun k1 => ?_)
    ·
      have hac := msgSound_mod hs k1
      refine c_seq (fun K48 hK48 => ?_)
      refine c_region ?_
      refine r_y rfl rfl (y_move rfl) ?_
      refine r_y rfl rfl (y_fieldAddr rfl At.lit fo35_3 rfl) ?_
      refine r_y rfl rfl (y_fieldAddr rfl At.lit fo32_0 rfl) ?_
      refine r_y rfl rfl (y_load_s rfl ts3 (RdS.blk (i := 1) rfl rfl)) ?_
      refine r_y rfl rfl (y_conv_i8 rfl un3 un5) ?_
      refine r_s rfl ?_
      refine s_buildSlice (cs := [bv (b8 x.mod.kind)]) (e := 5) rfl rfl (fun _ => by kernel_rfl) (fun b2 => ?_)
      refine r_s rfl ?_
      refine s_append rfl rfl rfl tl22 zo5 tb5 (i := 1) rfl (Src.one' (i := 0) rfl rfl (by simp [bv, Value.oneCell'])) (by omega) (by unfold maxLen; omega) (fun a2 c2 => ?_)
      refine r_del 0 rfl ?_
      refine r_y rfl rfl (y_assign rfl) ?_
      refine r_nil ?_
      refine hK48 _ _ _ ?_
      clear hK48 K48
      refine c_seq (fun K49 hK49 => ?_)
      refine c_region ?_
      refine r_y rfl rfl (y_move rfl) ?_
      refine r_y rfl rfl (y_fieldAddr rfl At.lit fo35_3 rfl) ?_
      refine r_y rfl rfl (y_fieldAddr rfl At.lit fo32_1 rfl) ?_
      refine r_y rfl rfl (y_load_a (cs := encCube x.mod.m) rfl ts29 (RdA.blk (i := 1) rfl rfl)) ?_
      refine r_y rfl rfl (y_fieldAddr rfl At.lit fo35_3 rfl) ?_
      refine r_y rfl rfl (y_fieldAddr rfl At.lit fo32_2 rfl) ?_
      refine r_y rfl rfl (y_load_s rfl ts3 (RdS.blk (i := 1) rfl rfl)) ?_
      refine r_y rfl rfl (y_fieldAddr rfl At.lit fo35_3 rfl) ?_
      refine r_y rfl rfl (y_fieldAddr rfl At.lit fo32_4 rfl) ?_
      refine r_y rfl rfl (y_load_s rfl ts3 (RdS.blk (i := 1) rfl rfl)) ?_
      refine r_y rfl rfl (y_fieldAddr rfl At.lit fo35_3 rfl) ?_
      refine r_y rfl rfl (y_fieldAddr rfl At.lit fo32_5 rfl) ?_
      refine r_y rfl rfl (y_load_s rfl ts3 (RdS.blk (i := 1) rfl rfl)) ?_
      refine r_y rfl rfl (y_fieldAddr rfl At.lit fo35_3 rfl) ?_
      refine r_y rfl rfl (y_fieldAddr rfl At.lit fo32_6 rfl) ?_
      refine r_y rfl rfl (y_load_s rfl ts3 (RdS.blk (i := 1) rfl rfl)) ?_
      refine r_s rfl ?_
      refine s_call0 rfl Try.call67 rfl (rHeads_w x.mod.m x.mod.prio x.mod.idle x.mod.hard x.mod.owner _ _) ?_
      rintro _ m2 _ hm2 ⟨s5, rfl, hzs5, hos5, rfl⟩
      replace hm := hm.trans hm2
      replace hz := hz.mono hm2
      replace hzsn := hzsn.mono hm2
      clear hm2
      have hls5 := Fz.lenB hzs5
      rw [wmatch_len] at hls5
      refine r_s rfl ?_
      refine s_append rfl rfl rfl tl22 zo5 tb5 (i := 0) rfl (Src.fz hzs5 (one_bytes _) hos5) (by omega) (by unfold maxLen; omega) (fun a3 c3 => ?_)
      refine r_y rfl rfl (y_assign rfl) ?_
      refine r_nil ?_
      refine hK49 _ _ _ ?_
      clear hK49 K49
      refine c_seq (fun K50 hK50 => ?_)
      refine c_seq (fun K51 hK51 => ?_)
      refine c_region ?_
      refine r_y rfl rfl (y_fieldAddr rfl At.lit fo35_3 rfl) ?_
      refine r_y rfl rfl (y_fieldAddr rfl At.lit fo32_7 rfl) ?_
      refine r_y rfl rfl (y_load_s rfl ts4 (RdS.blk (i := 1) rfl rfl)) ?_
      refine r_nil ?_
      refine hK51 _ _ _ ?_
      clear hK51 K51
      refine c_cond rfl (fun kc => ?_) (fun kc => ?_)
      ·
        refine c_region ?_
        refine r_y rfl rfl (y_move rfl) ?_
        refine r_s rfl ?_
        refine s_buildSlice (cs := [.int .u8 1]) (e := 5) rfl rfl (fun _ => by kernel_rfl) (fun b3 => ?_)
        refine r_s rfl ?_
        refine s_append rfl rfl rfl tl22 zo5 tb5 (i := 1) rfl (Src.one' (i := 0) rfl rfl (by simp [bv, Value.oneCell'])) (by omega) (by unfold maxLen; omega) (fun a4 c4 => ?_)
        refine r_del 0 rfl ?_
        refine r_y rfl rfl (y_assign rfl) ?_
        refine r_nil ?_
        refine hK50 _ _ _ ?_
        clear hK50 K50
        refine c_region ?_
        refine r_y rfl rfl (y_move rfl) ?_
        refine r_y rfl rfl (y_fieldAddr rfl At.lit fo35_3 rfl) ?_
        refine r_y rfl rfl (y_fieldAddr rfl At.lit fo32_3 rfl) ?_
        refine r_y rfl rfl (y_load_s rfl ts30 (RdS.blk (i := 1) rfl rfl)) ?_
        refine r_s rfl ?_
        refine s_call0 rfl Try.call68 rfl (rActs2_w sm x.mod.acts _ _ hz.mod (by omega)) ?_
        rintro _ m2 _ hm2 ⟨s9, rfl, hzs9, hos9, rfl⟩
        replace hm := hm.trans hm2
        replace hz := hz.mono hm2
        replace hzsn := hzsn.mono hm2
        replace hzs5 := hzs5.mono hm2
        clear hm2
        have hls9 := Fz.lenB hzs9
        rw [wacts_len] at hls9
        refine r_s rfl ?_
        refine s_append rfl rfl rfl tl22 zo5 tb5 (i := 0) rfl (Src.fz hzs9 (one_bytes _) hos9) (by omega) (by unfold maxLen; omega) (fun a5 c5 => ?_)
        refine r_y rfl rfl (y_assign rfl) ?_
        refine r_nil ?_
        refine hK45 _ _ _ ?_
        clear hK45 K45
        refine c_seq (fun K52 hK52 => ?_)
        refine c_region ?_
        refine r_y rfl rfl (y_move rfl) ?_
        refine r_y rfl rfl (y_assign rfl) ?_
        refine r_nil ?_
        refine hK52 _ _ _ ?_
        clear hK52 K52
        refine c_ret ?_
        refine e_retf [0, 1] 1 hm (res_tmps rfl) ?_
        have hE := enc_1 he k1
        rw [hE]
        exact ⟨⟨a5, _, c5⟩, rfl, by simp [hlsn, hls5, hls9] <;> omega, by simp only [vItem, bytes1_append, bytes1_one, kc, if_true] <;> rfl⟩
      ·
        refine c_region ?_
        refine r_y rfl rfl (y_move rfl) ?_
        refine r_s rfl ?_
        refine s_buildSlice (cs := [.int .u8 0]) (e := 5) rfl rfl (fun _ => by kernel_rfl) (fun b3 => ?_)
        refine r_s rfl ?_
        refine s_append rfl rfl rfl tl22 zo5 tb5 (i := 1) rfl (Src.one' (i := 0) rfl rfl (by simp [bv, Value.oneCell'])) (by omega) (by unfold maxLen; omega) (fun a4 c4 => ?_)
        refine r_del 0 rfl ?_
        refine r_y rfl rfl (y_assign rfl) ?_
        refine r_nil ?_
        refine hK50 _ _ _ ?_
        clear hK50 K50
        refine c_region ?_
        refine r_y rfl rfl (y_move rfl) ?_
        refine r_y rfl rfl (y_fieldAddr rfl At.lit fo35_3 rfl) ?_
        refine r_y rfl rfl (y_fieldAddr rfl At.lit fo32_3 rfl) ?_
        refine r_y rfl rfl (y_load_s rfl ts30 (RdS.blk (i := 1) rfl rfl)) ?_
        refine r_s rfl ?_
        refine s_call0 rfl Try.call68 rfl (rActs2_w sm x.mod.acts _ _ hz.mod (by omega)) ?_
        rintro _ m2 _ hm2 ⟨s9, rfl, hzs9, hos9, rfl⟩
        replace hm := hm.trans hm2
        replace hz := hz.mono hm2
        replace hzsn := hzsn.mono hm2
        replace hzs5 := hzs5.mono hm2
        clear hm2
        have hls9 := Fz.lenB hzs9
        rw [wacts_len] at hls9
        refine r_s rfl ?_
        refine s_append rfl rfl rfl tl22 zo5 tb5 (i := 0) rfl (Src.fz hzs9 (one_bytes _) hos9) (by omega) (by unfold maxLen; omega) (fun a5 c5 => ?_)
        refine r_y rfl rfl (y_assign rfl) ?_
        refine r_nil ?_
        refine hK45 _ _ _ ?_
        clear hK45 K45
        refine c_seq (fun K53 hK53 => ?_)
        refine c_region ?_
        refine r_y rfl rfl (y_move rfl) ?_
        refine r_y rfl rfl (y_assign rfl) ?_
        refine r_nil ?_
        refine hK53 _ _ _ ?_
        clear hK53 K53
        refine c_ret ?_
        refine e_retf [0, 1] 1 hm (res_tmps rfl) ?_
        have hE := enc_1 he k1
        rw [hE]
        exact ⟨⟨a5, _, c5⟩, rfl, by simp [hlsn, hls5, hls9] <;> omega, by simp only [vItem, bytes1_append, bytes1_one, kc, Bool.false_eq_true, if_false] <;> rfl⟩
    ·
      refine c_seq (fun K54 hK54 => ?_)
      refine c_region ?_
      refine r_y rfl rfl (y_iop rfl rfl rfl) ?_
      refine r_y rfl rfl (y_assign rfl) ?_
      refine r_nil ?_
      refine hK54 _ _ _ ?_
      clear hK54 K54
      refine c_cond rfl (fun k6 => ?_) (fun k6 => ?_)
      ·
        refine c_region ?_
        refine r_y rfl rfl (y_move rfl) ?_
        refine r_y rfl rfl (y_fieldAddr rfl At.lit fo35_2 rfl) ?_
        refine r_y rfl rfl (y_load_s rfl ts24 (RdS.blk (i := 1) rfl rfl)) ?_
        refine r_y rfl rfl (y_conv_i8 rfl un24 un5) ?_
        refine r_s rfl ?_
        refine s_buildSlice (cs := [bv (b8 x.e)]) (e := 5) rfl rfl (fun _ => by kernel_rfl) (fun b2 => ?_)
        refine r_s rfl ?_
        refine s_append rfl rfl rfl tl22 zo5 tb5 (i := 1) rfl (Src.one' (i := 0) rfl rfl (by simp [bv, Value.oneCell'])) (by omega) (by unfold maxLen; omega) (fun a2 c2 => ?_)
        refine r_del 0 rfl ?_
        refine r_y rfl rfl (y_assign rfl) ?_
        refine r_nil ?_
        refine hK45 _ _ _ ?_
        clear hK45 K45
        refine c_seq (fun K55 hK55 => ?_)
        refine c_region ?_
        refine r_y rfl rfl (y_move rfl) ?_
        refine r_y rfl rfl (y_assign rfl) ?_
        refine r_nil ?_
        refine hK55 _ _ _ ?_
        clear hK55 K55
        refine c_ret ?_
        refine e_retf [0, 1] 1 hm (res_tmps rfl) ?_
        have hE := enc_6 he k6
        rw [hE]
        exact ⟨⟨a2, _, c2⟩, rfl, by simp [hlsn] <;> omega, by simp only [vItem, bytes1_append, bytes1_one, List.append_assoc] <;> rfl⟩
      ·
        refine c_seq (fun K56 hK56 => ?_)
        refine c_region ?_
        refine r_y rfl rfl (y_iop rfl rfl rfl) ?_
        refine r_y rfl rfl (y_assign rfl) ?_
        refine r_nil ?_
        refine hK56 _ _ _ ?_
        clear hK56 K56
        refine c_cond rfl (fun k8 => ?_) (fun k8 => ?_)
        ·
          refine c_seq (fun K57 hK57 => ?_)
          refine c_region ?_
          refine r_y rfl rfl (y_move rfl) ?_
          refine r_y rfl rfl (y_fieldAddr rfl At.lit fo35_4 rfl) ?_
          refine r_y rfl rfl (y_load_s rfl ts3 (RdS.blk (i := 1) rfl rfl)) ?_
          refine r_y rfl rfl (y_conv_i8 rfl un3 un5) ?_
          refine r_s rfl ?_
          refine s_buildSlice (cs := [bv (b8 x.port)]) (e := 5) rfl rfl (fun _ => by kernel_rfl) (fun b2 => ?_)
          refine r_s rfl ?_
          refine s_append rfl rfl rfl tl22 zo5 tb5 (i := 1) rfl (Src.one' (i := 0) rfl rfl (by simp [bv, Value.oneCell'])) (by omega) (by unfold maxLen; omega) (fun a2 c2 => ?_)
          refine r_del 0 rfl ?_
          refine r_y rfl rfl (y_assign rfl) ?_
          refine r_nil ?_
          refine hK57 _ _ _ ?_
          clear hK57 K57
          refine c_seq (fun K58 hK58 => ?_)
          refine c_region ?_
          refine r_y rfl rfl (y_assign rfl) ?_
          refine r_nil ?_
          refine hK58 _ _ _ ?_
          clear hK58 K58
          refine c_block ?_
          refine c_loopx (α := Nat × Sl) (fun vv => match vv with | (i, sv) => [(1, .pointer (some ⟨b0, 0, none⟩)), (3, sv.v), (4, .int .i64 (i : Nat))]) (fun vv => match vv with | (i, sv) => .vec sv.a sv.n sv.cap 5 1 (bytes1 ([b8 x.kind] ++ wput (iw x.txn) 4 ++ [b8 x.port] ++ wputs 8 ((headL x.head).take i))) :: .blk b0 (.cells (encMsg x sm sr).toArray 35) :: H) (fun k0 vv m1 => match vv with | (i, sv) => (i + k0 = 12 ∧ sv.n = ([b8 x.kind] ++ wput (iw x.txn) 4 ++ [b8 x.port] ++ wputs 8 ((headL x.head).take i)).length) ∧ m.le m1 ∧ (MsgOk m1 x sm sr lr)) (12) (0, ⟨a2, 1 + sn.n + 1, c2⟩) ⟨rfl, rfl, rfl, trivial⟩ (by simp only [List.take_zero, wputs, List.append_nil, bytes1_append, bytes1_one] <;> rfl) ⟨⟨by omega, by simp [hlsn, wputs]⟩, hm, hz⟩ ?_
          clear hm hz
          rintro k0 ⟨i, sv⟩ m1 ⟨hi0, hm, hz⟩
          obtain ⟨hi, hsn⟩ := hi0
          have hsl : sv.n ≤ 102 := by rw [hsn]; simp [headL]; omega
          refine c_seq (fun K59 hK59 => ?_)
          refine c_seq (fun K60 hK60 => ?_)
          refine c_region ?_
          refine r_y rfl rfl (y_move rfl) ?_
          refine r_y rfl rfl (y_iop rfl rfl rfl) ?_
          refine r_nil ?_
          refine hK60 _ _ _ ?_
          clear hK60 K60
          refine c_cond rfl (fun hi8 => ?_) (fun hi8 => ?_)
          ·
            have hlt : i < 12 := by simp at hi8; omega
            refine c_skip ?_
            refine hK59 _ _ _ ?_
            clear hK59 K59
            refine c_seq (fun K61 hK61 => ?_)
            refine c_block ?_
            refine c_region ?_
            refine r_y rfl rfl (y_move rfl) ?_
            refine r_y rfl rfl (y_move rfl) ?_
            refine r_y rfl rfl (y_fieldAddr rfl At.lit fo35_5 rfl) ?_
            refine r_y rfl rfl (y_indexAddr_arr rfl rfl ta27 hlt At.lit) ?_
            refine r_y rfl rfl (y_load_s rfl ts25 (RdS.blk (i := 1) rfl (cget_msghead _ _ _ hlt))) ?_
            refine r_s rfl ?_
            refine s_call0 rfl Try.call66 rfl (rNum_w (x.head.at i) 8 _ _ (by decide)) ?_
            rintro _ m2 _ hm2 ⟨sn, rfl, hzsn, hosn, rfl⟩
            replace hm := hm.trans hm2
            replace hz := hz.mono hm2
            clear hm2
            have hlsn := Fz.lenB hzsn
            rw [wput_len] at hlsn
            refine r_s rfl ?_
            refine s_append rfl rfl rfl tl22 zo5 tb5 (i := 0) rfl (Src.fz hzsn (one_bytes _) hosn) (by omega) (by unfold maxLen; omega) (fun a1 c1 => ?_)
            refine r_y rfl rfl (y_assign rfl) ?_
            refine r_nil ?_
            refine hK61 _ _ _ ?_
            clear hK61 K61
            refine c_region ?_
            refine r_y rfl rfl (y_move rfl) ?_
            first | refine r_y rfl rfl (y_inc rfl (by omega)) ?_ | refine r_y rfl rfl (y_iop rfl rfl rfl) ?_
            refine r_y rfl rfl (y_assign rfl) ?_
            refine r_nil ?_
            exact ⟨k0 - 1, (i + 1, ⟨a1, sv.n + sn.n, c1⟩), by omega, ⟨rfl, rfl, rfl, trivial⟩, (by simp only [← whead_step _ hlt, ← List.append_assoc, bytes1_append] <;> rfl), ⟨by omega, by simp only [hsn, hlsn, ← whead_step _ hlt, List.length_append, wput_len]; try omega⟩, hm, hz⟩
          ·
            obtain rfl : i = 12 := by simp at hi8; omega
            refine c_exit ?_
            refine hK45 _ _ _ ?_
            clear hK59 K59 hK45 K45
            refine c_seq (fun K62 hK62 => ?_)
            refine c_region ?_
            refine r_y rfl rfl (y_move rfl) ?_
            refine r_y rfl rfl (y_assign rfl) ?_
            refine r_nil ?_
            refine hK62 _ _ _ ?_
            clear hK62 K62
            refine c_ret ?_
            refine e_retf [0, 1] 1 hm (res_tmps rfl) ?_
            have hE := enc_8 he k8
            have hW : wputs 8 ((headL x.head).take 12) = whead x.head := by rw [List.take_of_length_le (by simp [headL])]; rfl
            rw [hE]
            exact ⟨sv, rfl, by rw [hsn, hW], by simp only [vItem, hW] <;> rfl⟩
        ·
          refine c_seq (fun K63 hK63 => ?_)
          refine c_seq (fun K64 hK64 => ?_)
          refine c_region ?_
          refine r_y rfl rfl (y_iop rfl rfl rfl) ?_
          refine r_y rfl rfl (y_assign rfl) ?_
          refine r_nil ?_
          refine hK64 _ _ _ ?_
          clear hK64 K64
          refine c_cond rfl (fun k9 => ?_) (fun k9 => ?_)
          ·
            refine c_skip ?_
            refine hK63 _ _ _ ?_
            clear hK63 K63
            refine c_ift rfl k9 ?_
            refine c_seq (fun K65 hK65 => ?_)
            refine c_region ?_
            refine r_y rfl rfl (y_move rfl) ?_
            refine r_y rfl rfl (y_fieldAddr rfl At.lit fo35_6 rfl) ?_
            refine r_y rfl rfl (y_load_s rfl ts33 (RdS.blk (i := 1) rfl rfl)) ?_
            refine r_y rfl rfl (y_len tl33 rfl) ?_
            refine r_y rfl rfl (y_conv_iw rfl un3 un25) ?_
            refine r_s rfl ?_
            refine s_call0 rfl Try.call66 rfl (rNum_w (iw (sr.n : Nat)) 2 _ _ (by decide)) ?_
            rintro _ m2 _ hm2 ⟨s2, rfl, hzs2, hos2, rfl⟩
            replace hm := hm.trans hm2
            replace hz := hz.mono hm2
            replace hzsn := hzsn.mono hm2
            clear hm2
            have hls2 := Fz.lenB hzs2
            rw [wput_len] at hls2
            refine r_s rfl ?_
            refine s_append rfl rfl rfl tl22 zo5 tb5 (i := 0) rfl (Src.fz hzs2 (one_bytes _) hos2) (by omega) (by unfold maxLen; omega) (fun a2 c2 => ?_)
            refine r_y rfl rfl (y_assign rfl) ?_
            refine r_nil ?_
            refine hK65 _ _ _ ?_
            clear hK65 K65
            refine c_seq (fun K66 hK66 => ?_)
            refine c_region ?_
            refine r_y rfl rfl (y_assign rfl) ?_
            refine r_nil ?_
            refine hK66 _ _ _ ?_
            clear hK66 K66
            refine c_block ?_
            have hact : ∀ y ∈ lr.map (·.1), y.acts.length ≤ 8 := hq ▸ msgSound_rules hs (by first | exact .inl (by simpa using k9) | exact .inr (by simpa using k10))
            refine c_loopx (α := Nat × Sl) (fun vv => match vv with | (i, sv) => [(1, .pointer (some ⟨b0, 0, none⟩)), (3, sv.v), (5, .int .i64 (i : Nat))]) (fun vv => match vv with | (i, sv) => .vec sv.a sv.n sv.cap 5 1 (bytes1 ([b8 x.kind] ++ wput (iw x.txn) 4 ++ wput (iw (sr.n : Nat)) 2 ++ wrulesL ((lr.map (·.1)).take i))) :: .blk b0 (.cells (encMsg x sm sr).toArray 35) :: H) (fun k1 vv m1 => match vv with | (i, sv) => (i + k1 = sr.n ∧ sv.n = ([b8 x.kind] ++ wput (iw x.txn) 4 ++ wput (iw (sr.n : Nat)) 2 ++ wrulesL ((lr.map (·.1)).take i)).length) ∧ m.le m1 ∧ (MsgOk m1 x sm sr lr)) (sr.n) (0, ⟨a2, 1 + sn.n + s2.n, c2⟩) ⟨rfl, rfl, rfl, trivial⟩ (by simp only [List.take_zero, wrulesL, List.append_nil, bytes1_append, bytes1_one] <;> rfl) ⟨⟨by omega, by simp [hlsn, hls2, wrulesL]⟩, hm, hz⟩ ?_
            clear hm hz
            rintro k1 ⟨i, sv⟩ m1 ⟨hi1, hm, hz⟩
            obtain ⟨hi, hsn⟩ := hi1
            have hbd := wrulesL_take (k := 8) i hact
            have hsl : sv.n ≤ 7 + i * 316 := by rw [hsn]; simp only [List.length_append, wput_len, List.length_cons, List.length_nil]; omega
            refine c_seq (fun K67 hK67 => ?_)
            refine c_seq (fun K68 hK68 => ?_)
            refine c_region ?_
            refine r_y rfl rfl (y_move rfl) ?_
            refine r_y rfl rfl (y_fieldAddr rfl At.lit fo35_6 rfl) ?_
            refine r_y rfl rfl (y_load_s rfl ts33 (RdS.blk (i := 1) rfl rfl)) ?_
            refine r_y rfl rfl (y_len tl33 rfl) ?_
            refine r_y rfl rfl (y_iop rfl rfl rfl) ?_
            refine r_nil ?_
            refine hK68 _ _ _ ?_
            clear hK68 K68
            refine c_cond rfl (fun hir => ?_) (fun hir => ?_)
            ·
              have hlt : i < sr.n := by simp at hir; omega
              obtain ⟨y, hy⟩ := get_of_lt (l := lr) (k := i) (by omega)
              have hx1 : (lr.map (·.1))[i]? = some y.1 := map_get hy
              have hya := hact y.1 (List.mem_of_getElem? hx1)
              refine c_skip ?_
              refine hK67 _ _ _ ?_
              clear hK67 K67
              refine c_seq (fun K69 hK69 => ?_)
              refine c_block ?_
              refine c_seq (fun K70 hK70 => ?_)
              refine c_region ?_
              refine r_y rfl rfl (y_fieldAddr rfl At.lit fo35_6 rfl) ?_
              refine r_y rfl rfl (y_load_s rfl ts33 (RdS.blk (i := 1) rfl rfl)) ?_
              refine r_y rfl rfl (y_move rfl) ?_
              refine r_y rfl rfl (y_indexAddr_slice rfl rfl tl33 hlt (At.fz hz.rules.fz hlt)) ?_
              refine r_y rfl rfl (y_load_a rfl ts50 (RdA.fz0 hz.rules.fz (map_get hy))) ?_
              refine r_s rfl ?_
              refine s_alloc rfl tz50 (fun b2 => ?_)
              refine r_s rfl ?_
              refine s_store (us := encRule y.1 y.2) rfl rfl rfl ts50 rfl rfl (one_rule _ _) (i := 0) rfl rfl ?_
              refine r_nil ?_
              refine hK70 _ _ _ ?_
              clear hK70 K70
              refine c_seq (fun K71 hK71 => ?_)
              refine c_region ?_
              refine r_y rfl rfl (y_move rfl) ?_
              refine r_y rfl rfl (y_fieldAddr rfl At.lit fo50_0 rfl) ?_
              refine r_y rfl rfl (y_load_a (cs := encCube y.1.m) rfl ts29 (RdA.blk (i := 0) rfl rfl)) ?_
              refine r_y rfl rfl (y_fieldAddr rfl At.lit fo50_1 rfl) ?_
              refine r_y rfl rfl (y_load_s rfl ts3 (RdS.blk (i := 0) rfl rfl)) ?_
              refine r_y rfl rfl (y_fieldAddr rfl At.lit fo50_3 rfl) ?_
              refine r_y rfl rfl (y_load_s rfl ts3 (RdS.blk (i := 0) rfl rfl)) ?_
              refine r_y rfl rfl (y_fieldAddr rfl At.lit fo50_4 rfl) ?_
              refine r_y rfl rfl (y_load_s rfl ts3 (RdS.blk (i := 0) rfl rfl)) ?_
              refine r_y rfl rfl (y_fieldAddr rfl At.lit fo50_5 rfl) ?_
              refine r_y rfl rfl (y_load_s rfl ts3 (RdS.blk (i := 0) rfl rfl)) ?_
              refine r_s rfl ?_
              refine s_call0 rfl Try.call67 rfl (rHeads_w y.1.m y.1.prio y.1.idle y.1.hard y.1.owner _ _) ?_
              rintro _ m2 _ hm2 ⟨s5, rfl, hzs5, hos5, rfl⟩
              replace hm := hm.trans hm2
              replace hz := hz.mono hm2
              clear hm2
              have hls5 := Fz.lenB hzs5
              rw [wmatch_len] at hls5
              refine r_s rfl ?_
              refine s_append rfl rfl rfl tl22 zo5 tb5 (i := 1) rfl (Src.fz hzs5 (one_bytes _) hos5) (by omega) (by unfold maxLen; omega) (fun a5 c5 => ?_)
              refine r_y rfl rfl (y_assign rfl) ?_
              refine r_nil ?_
              refine hK71 _ _ _ ?_
              clear hK71 K71
              refine c_seq (fun K72 hK72 => ?_)
              refine c_region ?_
              refine r_y rfl rfl (y_move rfl) ?_
              refine r_y rfl rfl (y_fieldAddr rfl At.lit fo50_6 rfl) ?_
              refine r_y rfl rfl (y_load_s rfl ts3 (RdS.blk (i := 0) rfl rfl)) ?_
              refine r_y rfl rfl (y_conv_iw rfl un3 un25) ?_
              refine r_s rfl ?_
              refine s_call0 rfl Try.call66 rfl (rNum_w (iw y.1.hits) 8 _ _ (by decide)) ?_
              rintro _ m2 _ hm2 ⟨s2, rfl, hzs2, hos2, rfl⟩
              replace hm := hm.trans hm2
              replace hz := hz.mono hm2
              replace hzs5 := hzs5.mono hm2
              clear hm2
              have hls2 := Fz.lenB hzs2
              rw [wput_len] at hls2
              refine r_s rfl ?_
              refine s_append rfl rfl rfl tl22 zo5 tb5 (i := 1) rfl (Src.fz hzs2 (one_bytes _) hos2) (by omega) (by unfold maxLen; omega) (fun a6 c6 => ?_)
              refine r_y rfl rfl (y_assign rfl) ?_
              refine r_nil ?_
              refine hK72 _ _ _ ?_
              clear hK72 K72
              refine c_seq (fun K73 hK73 => ?_)
              refine c_region ?_
              refine r_y rfl rfl (y_move rfl) ?_
              refine r_y rfl rfl (y_fieldAddr rfl At.lit fo50_7 rfl) ?_
              refine r_y rfl rfl (y_load_s rfl ts3 (RdS.blk (i := 0) rfl rfl)) ?_
              refine r_y rfl rfl (y_conv_iw rfl un3 un25) ?_
              refine r_s rfl ?_
              refine s_call0 rfl Try.call66 rfl (rNum_w (iw y.1.quiet) 8 _ _ (by decide)) ?_
              rintro _ m2 _ hm2 ⟨s3, rfl, hzs3, hos3, rfl⟩
              replace hm := hm.trans hm2
              replace hz := hz.mono hm2
              replace hzs5 := hzs5.mono hm2
              replace hzs2 := hzs2.mono hm2
              clear hm2
              have hls3 := Fz.lenB hzs3
              rw [wput_len] at hls3
              refine r_s rfl ?_
              refine s_append rfl rfl rfl tl22 zo5 tb5 (i := 1) rfl (Src.fz hzs3 (one_bytes _) hos3) (by omega) (by unfold maxLen; omega) (fun a7 c7 => ?_)
              refine r_y rfl rfl (y_assign rfl) ?_
              refine r_nil ?_
              refine hK73 _ _ _ ?_
              clear hK73 K73
              refine c_seq (fun K74 hK74 => ?_)
              refine c_region ?_
              refine r_y rfl rfl (y_move rfl) ?_
              refine r_y rfl rfl (y_fieldAddr rfl At.lit fo50_8 rfl) ?_
              refine r_y rfl rfl (y_load_s rfl ts3 (RdS.blk (i := 0) rfl rfl)) ?_
              refine r_y rfl rfl (y_conv_iw rfl un3 un25) ?_
              refine r_s rfl ?_
              refine s_call0 rfl Try.call66 rfl (rNum_w (iw y.1.age) 8 _ _ (by decide)) ?_
              rintro _ m2 _ hm2 ⟨s4, rfl, hzs4, hos4, rfl⟩
              replace hm := hm.trans hm2
              replace hz := hz.mono hm2
              replace hzs5 := hzs5.mono hm2
              replace hzs2 := hzs2.mono hm2
              replace hzs3 := hzs3.mono hm2
              clear hm2
              have hls4 := Fz.lenB hzs4
              rw [wput_len] at hls4
              refine r_s rfl ?_
              refine s_append rfl rfl rfl tl22 zo5 tb5 (i := 1) rfl (Src.fz hzs4 (one_bytes _) hos4) (by omega) (by unfold maxLen; omega) (fun a8 c8 => ?_)
              refine r_y rfl rfl (y_assign rfl) ?_
              refine r_nil ?_
              refine hK74 _ _ _ ?_
              clear hK74 K74
              refine c_region ?_
              refine r_y rfl rfl (y_move rfl) ?_
              refine r_y rfl rfl (y_fieldAddr rfl At.lit fo50_2 rfl) ?_
              refine r_y rfl rfl (y_load_s rfl ts30 (RdS.blk (i := 0) rfl rfl)) ?_
              refine r_s rfl ?_
              refine s_call0 rfl Try.call68 rfl (rActs2_w y.2 y.1.acts _ _ (hz.rules.acts y (List.mem_of_getElem? hy)).1 (by omega)) ?_
              rintro _ m2 _ hm2 ⟨s9, rfl, hzs9, hos9, rfl⟩
              replace hm := hm.trans hm2
              replace hz := hz.mono hm2
              replace hzs5 := hzs5.mono hm2
              replace hzs2 := hzs2.mono hm2
              replace hzs3 := hzs3.mono hm2
              replace hzs4 := hzs4.mono hm2
              clear hm2
              have hls9 := Fz.lenB hzs9
              rw [wacts_len] at hls9
              refine r_s rfl ?_
              refine s_append rfl rfl rfl tl22 zo5 tb5 (i := 1) rfl (Src.fz hzs9 (one_bytes _) hos9) (by omega) (by unfold maxLen; omega) (fun a9 c9 => ?_)
              refine r_y rfl rfl (y_assign rfl) ?_
              refine r_nil ?_
              refine hK69 _ _ _ ?_
              clear hK69 K69
              refine c_region ?_
              refine r_del 0 rfl ?_
              refine r_y rfl rfl (y_move rfl) ?_
              first | refine r_y rfl rfl (y_inc rfl (by omega)) ?_ | refine r_y rfl rfl (y_iop rfl rfl rfl) ?_
              refine r_y rfl rfl (y_assign rfl) ?_
              refine r_nil ?_
              exact ⟨k1 - 1, (i + 1, ⟨a9, sv.n + s5.n + s2.n + s3.n + s4.n + s9.n, c9⟩), by omega, ⟨rfl, rfl, rfl, trivial⟩, (by simp only [wrules_step hx1, wrule, wputs, List.append_nil, bytes1_append, List.append_assoc] <;> rfl), ⟨by omega, by simp only [hls5, hls2, hls3, hls4, hls9, wrules_step hx1, wrule, wputs, List.length_append, wput_len, List.length_cons, List.length_nil, wmatch_len, wacts_len] at hsn ⊢; omega⟩, hm, hz⟩
            ·
              obtain rfl : i = sr.n := by simp at hir; omega
              refine c_exit ?_
              refine hK45 _ _ _ ?_
              clear hK67 K67 hK45 K45
              refine c_seq (fun K75 hK75 => ?_)
              refine c_region ?_
              refine r_y rfl rfl (y_move rfl) ?_
              refine r_y rfl rfl (y_assign rfl) ?_
              refine r_nil ?_
              refine hK75 _ _ _ ?_
              clear hK75 K75
              refine c_ret ?_
              refine e_retf [0, 1] 1 hm (res_tmps rfl) ?_
              have hE := enc_9 he (.inl (by simpa using k9))
              have hW : wrulesL ((lr.map (·.1)).take sr.n) = wrulesL x.rules := by rw [List.take_of_length_le (by simp; omega), hq]
              have hN := hl
              rw [hE]
              exact ⟨sv, rfl, by rw [hsn, hW, hN], by simp only [vItem, hW]; simp only [hN] <;> rfl⟩
          ·
            refine c_region ?_
            refine r_y rfl rfl (y_iop rfl rfl rfl) ?_
            refine r_y rfl rfl (y_assign rfl) ?_
            refine r_nil ?_
            refine hK63 _ _ _ ?_
            clear hK63 K63
            refine c_cond rfl (fun k10 => ?_) (fun k10 => ?_)
            ·
              refine c_seq (fun K76 hK76 => ?_)
              refine c_region ?_
              refine r_y rfl rfl (y_move rfl) ?_
              refine r_y rfl rfl (y_fieldAddr rfl At.lit fo35_6 rfl) ?_
              refine r_y rfl rfl (y_load_s rfl ts33 (RdS.blk (i := 1) rfl rfl)) ?_
              refine r_y rfl rfl (y_len tl33 rfl) ?_
              refine r_y rfl rfl (y_conv_iw rfl un3 un25) ?_
              refine r_s rfl ?_
              refine s_call0 rfl Try.call66 rfl (rNum_w (iw (sr.n : Nat)) 2 _ _ (by decide)) ?_
              rintro _ m2 _ hm2 ⟨s2, rfl, hzs2, hos2, rfl⟩
              replace hm := hm.trans hm2
              replace hz := hz.mono hm2
              replace hzsn := hzsn.mono hm2
              clear hm2
              have hls2 := Fz.lenB hzs2
              rw [wput_len] at hls2
              refine r_s rfl ?_
              refine s_append rfl rfl rfl tl22 zo5 tb5 (i := 0) rfl (Src.fz hzs2 (one_bytes _) hos2) (by omega) (by unfold maxLen; omega) (fun a2 c2 => ?_)
              refine r_y rfl rfl (y_assign rfl) ?_
              refine r_nil ?_
              refine hK76 _ _ _ ?_
              clear hK76 K76
              refine c_seq (fun K77 hK77 => ?_)
              refine c_region ?_
              refine r_y rfl rfl (y_assign rfl) ?_
              refine r_nil ?_
              refine hK77 _ _ _ ?_
              clear hK77 K77
              refine c_block ?_
              have hact : ∀ y ∈ lr.map (·.1), y.acts.length ≤ 8 := hq ▸ msgSound_rules hs (by first | exact .inl (by simpa using k9) | exact .inr (by simpa using k10))
              refine c_loopx (α := Nat × Sl) (fun vv => match vv with | (i, sv) => [(1, .pointer (some ⟨b0, 0, none⟩)), (3, sv.v), (5, .int .i64 (i : Nat))]) (fun vv => match vv with | (i, sv) => .vec sv.a sv.n sv.cap 5 1 (bytes1 ([b8 x.kind] ++ wput (iw x.txn) 4 ++ wput (iw (sr.n : Nat)) 2 ++ wrulesL ((lr.map (·.1)).take i))) :: .blk b0 (.cells (encMsg x sm sr).toArray 35) :: H) (fun k1 vv m1 => match vv with | (i, sv) => (i + k1 = sr.n ∧ sv.n = ([b8 x.kind] ++ wput (iw x.txn) 4 ++ wput (iw (sr.n : Nat)) 2 ++ wrulesL ((lr.map (·.1)).take i)).length) ∧ m.le m1 ∧ (MsgOk m1 x sm sr lr)) (sr.n) (0, ⟨a2, 1 + sn.n + s2.n, c2⟩) ⟨rfl, rfl, rfl, trivial⟩ (by simp only [List.take_zero, wrulesL, List.append_nil, bytes1_append, bytes1_one] <;> rfl) ⟨⟨by omega, by simp [hlsn, hls2, wrulesL]⟩, hm, hz⟩ ?_
              clear hm hz
              rintro k1 ⟨i, sv⟩ m1 ⟨hi1, hm, hz⟩
              obtain ⟨hi, hsn⟩ := hi1
              have hbd := wrulesL_take (k := 8) i hact
              have hsl : sv.n ≤ 7 + i * 316 := by rw [hsn]; simp only [List.length_append, wput_len, List.length_cons, List.length_nil]; omega
              refine c_seq (fun K78 hK78 => ?_)
              refine c_seq (fun K79 hK79 => ?_)
              refine c_region ?_
              refine r_y rfl rfl (y_move rfl) ?_
              refine r_y rfl rfl (y_fieldAddr rfl At.lit fo35_6 rfl) ?_
              refine r_y rfl rfl (y_load_s rfl ts33 (RdS.blk (i := 1) rfl rfl)) ?_
              refine r_y rfl rfl (y_len tl33 rfl) ?_
              refine r_y rfl rfl (y_iop rfl rfl rfl) ?_
              refine r_nil ?_
              refine hK79 _ _ _ ?_
              clear hK79 K79
              refine c_cond rfl (fun hir => ?_) (fun hir => ?_)
              ·
                have hlt : i < sr.n := by simp at hir; omega
                obtain ⟨y, hy⟩ := get_of_lt (l := lr) (k := i) (by omega)
                have hx1 : (lr.map (·.1))[i]? = some y.1 := map_get hy
                have hya := hact y.1 (List.mem_of_getElem? hx1)
                refine c_skip ?_
                refine hK78 _ _ _ ?_
                clear hK78 K78
                refine c_seq (fun K80 hK80 => ?_)
                refine c_block ?_
                refine c_seq (fun K81 hK81 => ?_)
                refine c_region ?_
                refine r_y rfl rfl (y_fieldAddr rfl At.lit fo35_6 rfl) ?_
                refine r_y rfl rfl (y_load_s rfl ts33 (RdS.blk (i := 1) rfl rfl)) ?_
                refine r_y rfl rfl (y_move rfl) ?_
                refine r_y rfl rfl (y_indexAddr_slice rfl rfl tl33 hlt (At.fz hz.rules.fz hlt)) ?_
                refine r_y rfl rfl (y_load_a rfl ts50 (RdA.fz0 hz.rules.fz (map_get hy))) ?_
                refine r_s rfl ?_
                refine s_alloc rfl tz50 (fun b2 => ?_)
                refine r_s rfl ?_
                refine s_store (us := encRule y.1 y.2) rfl rfl rfl ts50 rfl rfl (one_rule _ _) (i := 0) rfl rfl ?_
                refine r_nil ?_
                refine hK81 _ _ _ ?_
                clear hK81 K81
                refine c_seq (fun K82 hK82 => ?_)
                refine c_region ?_
                refine r_y rfl rfl (y_move rfl) ?_
                refine r_y rfl rfl (y_fieldAddr rfl At.lit fo50_0 rfl) ?_
                refine r_y rfl rfl (y_load_a (cs := encCube y.1.m) rfl ts29 (RdA.blk (i := 0) rfl rfl)) ?_
                refine r_y rfl rfl (y_fieldAddr rfl At.lit fo50_1 rfl) ?_
                refine r_y rfl rfl (y_load_s rfl ts3 (RdS.blk (i := 0) rfl rfl)) ?_
                refine r_y rfl rfl (y_fieldAddr rfl At.lit fo50_3 rfl) ?_
                refine r_y rfl rfl (y_load_s rfl ts3 (RdS.blk (i := 0) rfl rfl)) ?_
                refine r_y rfl rfl (y_fieldAddr rfl At.lit fo50_4 rfl) ?_
                refine r_y rfl rfl (y_load_s rfl ts3 (RdS.blk (i := 0) rfl rfl)) ?_
                refine r_y rfl rfl (y_fieldAddr rfl At.lit fo50_5 rfl) ?_
                refine r_y rfl rfl (y_load_s rfl ts3 (RdS.blk (i := 0) rfl rfl)) ?_
                refine r_s rfl ?_
                refine s_call0 rfl Try.call67 rfl (rHeads_w y.1.m y.1.prio y.1.idle y.1.hard y.1.owner _ _) ?_
                rintro _ m2 _ hm2 ⟨s5, rfl, hzs5, hos5, rfl⟩
                replace hm := hm.trans hm2
                replace hz := hz.mono hm2
                clear hm2
                have hls5 := Fz.lenB hzs5
                rw [wmatch_len] at hls5
                refine r_s rfl ?_
                refine s_append rfl rfl rfl tl22 zo5 tb5 (i := 1) rfl (Src.fz hzs5 (one_bytes _) hos5) (by omega) (by unfold maxLen; omega) (fun a5 c5 => ?_)
                refine r_y rfl rfl (y_assign rfl) ?_
                refine r_nil ?_
                refine hK82 _ _ _ ?_
                clear hK82 K82
                refine c_seq (fun K83 hK83 => ?_)
                refine c_region ?_
                refine r_y rfl rfl (y_move rfl) ?_
                refine r_y rfl rfl (y_fieldAddr rfl At.lit fo50_6 rfl) ?_
                refine r_y rfl rfl (y_load_s rfl ts3 (RdS.blk (i := 0) rfl rfl)) ?_
                refine r_y rfl rfl (y_conv_iw rfl un3 un25) ?_
                refine r_s rfl ?_
                refine s_call0 rfl Try.call66 rfl (rNum_w (iw y.1.hits) 8 _ _ (by decide)) ?_
                rintro _ m2 _ hm2 ⟨s2, rfl, hzs2, hos2, rfl⟩
                replace hm := hm.trans hm2
                replace hz := hz.mono hm2
                replace hzs5 := hzs5.mono hm2
                clear hm2
                have hls2 := Fz.lenB hzs2
                rw [wput_len] at hls2
                refine r_s rfl ?_
                refine s_append rfl rfl rfl tl22 zo5 tb5 (i := 1) rfl (Src.fz hzs2 (one_bytes _) hos2) (by omega) (by unfold maxLen; omega) (fun a6 c6 => ?_)
                refine r_y rfl rfl (y_assign rfl) ?_
                refine r_nil ?_
                refine hK83 _ _ _ ?_
                clear hK83 K83
                refine c_seq (fun K84 hK84 => ?_)
                refine c_region ?_
                refine r_y rfl rfl (y_move rfl) ?_
                refine r_y rfl rfl (y_fieldAddr rfl At.lit fo50_7 rfl) ?_
                refine r_y rfl rfl (y_load_s rfl ts3 (RdS.blk (i := 0) rfl rfl)) ?_
                refine r_y rfl rfl (y_conv_iw rfl un3 un25) ?_
                refine r_s rfl ?_
                refine s_call0 rfl Try.call66 rfl (rNum_w (iw y.1.quiet) 8 _ _ (by decide)) ?_
                rintro _ m2 _ hm2 ⟨s3, rfl, hzs3, hos3, rfl⟩
                replace hm := hm.trans hm2
                replace hz := hz.mono hm2
                replace hzs5 := hzs5.mono hm2
                replace hzs2 := hzs2.mono hm2
                clear hm2
                have hls3 := Fz.lenB hzs3
                rw [wput_len] at hls3
                refine r_s rfl ?_
                refine s_append rfl rfl rfl tl22 zo5 tb5 (i := 1) rfl (Src.fz hzs3 (one_bytes _) hos3) (by omega) (by unfold maxLen; omega) (fun a7 c7 => ?_)
                refine r_y rfl rfl (y_assign rfl) ?_
                refine r_nil ?_
                refine hK84 _ _ _ ?_
                clear hK84 K84
                refine c_seq (fun K85 hK85 => ?_)
                refine c_region ?_
                refine r_y rfl rfl (y_move rfl) ?_
                refine r_y rfl rfl (y_fieldAddr rfl At.lit fo50_8 rfl) ?_
                refine r_y rfl rfl (y_load_s rfl ts3 (RdS.blk (i := 0) rfl rfl)) ?_
                refine r_y rfl rfl (y_conv_iw rfl un3 un25) ?_
                refine r_s rfl ?_
                refine s_call0 rfl Try.call66 rfl (rNum_w (iw y.1.age) 8 _ _ (by decide)) ?_
                rintro _ m2 _ hm2 ⟨s4, rfl, hzs4, hos4, rfl⟩
                replace hm := hm.trans hm2
                replace hz := hz.mono hm2
                replace hzs5 := hzs5.mono hm2
                replace hzs2 := hzs2.mono hm2
                replace hzs3 := hzs3.mono hm2
                clear hm2
                have hls4 := Fz.lenB hzs4
                rw [wput_len] at hls4
                refine r_s rfl ?_
                refine s_append rfl rfl rfl tl22 zo5 tb5 (i := 1) rfl (Src.fz hzs4 (one_bytes _) hos4) (by omega) (by unfold maxLen; omega) (fun a8 c8 => ?_)
                refine r_y rfl rfl (y_assign rfl) ?_
                refine r_nil ?_
                refine hK85 _ _ _ ?_
                clear hK85 K85
                refine c_region ?_
                refine r_y rfl rfl (y_move rfl) ?_
                refine r_y rfl rfl (y_fieldAddr rfl At.lit fo50_2 rfl) ?_
                refine r_y rfl rfl (y_load_s rfl ts30 (RdS.blk (i := 0) rfl rfl)) ?_
                refine r_s rfl ?_
                refine s_call0 rfl Try.call68 rfl (rActs2_w y.2 y.1.acts _ _ (hz.rules.acts y (List.mem_of_getElem? hy)).1 (by omega)) ?_
                rintro _ m2 _ hm2 ⟨s9, rfl, hzs9, hos9, rfl⟩
                replace hm := hm.trans hm2
                replace hz := hz.mono hm2
                replace hzs5 := hzs5.mono hm2
                replace hzs2 := hzs2.mono hm2
                replace hzs3 := hzs3.mono hm2
                replace hzs4 := hzs4.mono hm2
                clear hm2
                have hls9 := Fz.lenB hzs9
                rw [wacts_len] at hls9
                refine r_s rfl ?_
                refine s_append rfl rfl rfl tl22 zo5 tb5 (i := 1) rfl (Src.fz hzs9 (one_bytes _) hos9) (by omega) (by unfold maxLen; omega) (fun a9 c9 => ?_)
                refine r_y rfl rfl (y_assign rfl) ?_
                refine r_nil ?_
                refine hK80 _ _ _ ?_
                clear hK80 K80
                refine c_region ?_
                refine r_del 0 rfl ?_
                refine r_y rfl rfl (y_move rfl) ?_
                first | refine r_y rfl rfl (y_inc rfl (by omega)) ?_ | refine r_y rfl rfl (y_iop rfl rfl rfl) ?_
                refine r_y rfl rfl (y_assign rfl) ?_
                refine r_nil ?_
                exact ⟨k1 - 1, (i + 1, ⟨a9, sv.n + s5.n + s2.n + s3.n + s4.n + s9.n, c9⟩), by omega, ⟨rfl, rfl, rfl, trivial⟩, (by simp only [wrules_step hx1, wrule, wputs, List.append_nil, bytes1_append, List.append_assoc] <;> rfl), ⟨by omega, by simp only [hls5, hls2, hls3, hls4, hls9, wrules_step hx1, wrule, wputs, List.length_append, wput_len, List.length_cons, List.length_nil, wmatch_len, wacts_len] at hsn ⊢; omega⟩, hm, hz⟩
              ·
                obtain rfl : i = sr.n := by simp at hir; omega
                refine c_exit ?_
                refine hK45 _ _ _ ?_
                clear hK78 K78 hK45 K45
                refine c_seq (fun K86 hK86 => ?_)
                refine c_region ?_
                refine r_y rfl rfl (y_move rfl) ?_
                refine r_y rfl rfl (y_assign rfl) ?_
                refine r_nil ?_
                refine hK86 _ _ _ ?_
                clear hK86 K86
                refine c_ret ?_
                refine e_retf [0, 1] 1 hm (res_tmps rfl) ?_
                have hE := enc_9 he (.inr (by simpa using k10))
                have hW : wrulesL ((lr.map (·.1)).take sr.n) = wrulesL x.rules := by rw [List.take_of_length_le (by simp; omega), hq]
                have hN := hl
                rw [hE]
                exact ⟨sv, rfl, by rw [hsn, hW, hN], by simp only [vItem, hW]; simp only [hN] <;> rfl⟩
            ·
              refine c_skip ?_
              refine hK45 _ _ _ ?_
              clear hK45 K45
              refine c_seq (fun K87 hK87 => ?_)
              refine c_region ?_
              refine r_y rfl rfl (y_move rfl) ?_
              refine r_y rfl rfl (y_assign rfl) ?_
              refine r_nil ?_
              refine hK87 _ _ _ ?_
              clear hK87 K87
              refine c_ret ?_
              refine e_retf [0, 1] 1 hm (res_tmps rfl) ?_
              have hE := enc_o he k1 k6 k8 k9 k10
              rw [hE]
              exact ⟨⟨a1, _, c1⟩, rfl, by simp [hlsn] <;> omega, by simp only [vItem, bytes1_append, bytes1_one, List.append_assoc] <;> rfl⟩
end Go.Aw
