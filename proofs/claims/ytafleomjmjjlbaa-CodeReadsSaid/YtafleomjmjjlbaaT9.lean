import Derived.Test.YtafleomjmjjlbaaT8
import Derived.Test.YtafleomjmjjlbaaData5
namespace Go.Aw
open Go Go.Proofs
theorem us22 : Try.prog.underlying 22 = some (.slice 5) := by kernel_rfl
theorem ut9 : Try.prog.underlying 9 = some .string := by kernel_rfl
theorem encA_w (m : Snap) (H : Hp) : Fn Try.prog 21 [.agg (encMsg ansMsg zSl zSl).toArray] m H (fun v m' H' => ∃ s' : Sl, v = .tuple [s'.v, .int .i64 0].toArray ∧ FzB m' s' [2, 0, 0, 0, 7] ∧ (s'.a = none → s'.cap = 0) ∧ H' = H) :=
  (encode_w ansMsg zSl zSl [] m H (ansMsg_ok m)).mono fun v m' H' _ ⟨s', h1, h2, h3, h4⟩ => by
    rw [encode_ans] at h1 h2
    exact ⟨s', h1, h2, h3, h4⟩
theorem decA_w (s : Sl) (m : Snap) (H : Hp) (hz : FzB m s [2, 0, 0, 0, 7]) : Fn Try.prog 18 [s.v] m H (fun v m' H' => ∃ sm sr lr, v = .tuple [.agg (encMsg ansMsg sm sr).toArray, .int .i64 0].toArray ∧ MsgOk m' ansMsg sm sr lr ∧ H' = H) :=
  (decode_w s [2, 0, 0, 0, 7] m H hz).mono fun v m' H' _ ⟨sm, sr, lr, h1, h2, h3⟩ => by
    rw [decode_ans] at h1 h2
    exact ⟨sm, sr, lr, h1, h2, h3⟩
set_option maxRecDepth 100000 in
theorem answers_w (m : Snap) (H : Hp) : Fn Try.prog 17 [] m H (fun v _ H' => v = .bool true ∧ H' = H) := by
  have hm : m.le m := Snap.le.refl m
  refine fn_end Try.func17 rfl rfl rfl ?_
  refine c_seq (fun K0 hK0 => ?_)
  refine c_region ?_
  refine r_y rfl rfl (y_assign rfl) ?_
  refine r_nil ?_
  refine hK0 _ _ _ ?_
  clear hK0 K0
  refine c_seq (fun K1 hK1 => ?_)
  refine c_region ?_
  refine r_y rfl rfl (y_bld rfl tz35 fk35 bp35_0_1 rfl rfl) ?_
  refine r_s rfl ?_
  refine s_call0 rfl Try.call21 rfl (encA_w _ _) ?_
  rintro _ m2 _ hm2 ⟨sb, rfl, hzb, hnb, rfl⟩
  replace hm := hm.trans hm2
  clear hm2
  refine r_y rfl rfl (y_move rfl) ?_
  refine r_y rfl rfl (y_extract rfl rfl) ?_
  refine r_y rfl rfl (y_extract rfl rfl) ?_
  refine r_y rfl rfl (y_assign rfl) ?_
  refine r_y rfl rfl (y_assign rfl) ?_
  refine r_nil ?_
  refine hK1 _ _ _ ?_
  clear hK1 K1
  refine c_seq (fun K2 hK2 => ?_)
  refine c_region ?_
  refine r_y rfl rfl (y_move rfl) ?_
  refine r_s rfl ?_
  refine s_call0 rfl Try.call18 rfl (decA_w sb _ _ hzb) ?_
  rintro _ m2 _ hm2 ⟨sm, sr, lr, rfl, hzx, rfl⟩
  replace hm := hm.trans hm2
  replace hzb := hzb.mono hm2
  clear hm2
  refine r_y rfl rfl (y_move rfl) ?_
  refine r_y rfl rfl (y_extract rfl rfl) ?_
  refine r_y rfl rfl (y_extract rfl rfl) ?_
  refine r_s rfl ?_
  refine s_alloc rfl tz35 (fun b0 => ?_)
  refine r_s rfl ?_
  refine s_store (us := encMsg ansMsg sm sr) rfl rfl rfl ts35 rfl rfl (one_msg _ _ _) (i := 0) rfl rfl ?_
  refine r_y rfl rfl (y_assign rfl) ?_
  refine r_nil ?_
  refine hK2 _ _ _ ?_
  clear hK2 K2
  refine c_seq (fun K3 hK3 => ?_)
  refine c_region ?_
  refine r_y rfl rfl (y_move rfl) ?_
  refine r_y rfl rfl (y_iop rfl rfl rfl) ?_
  refine r_y rfl rfl (y_move rfl) ?_
  refine r_split (j := 2) rfl (fun h0 => ?_) (fun h0 => ?_)
  ·
    refine r_yg rfl h0 rfl (y_move rfl) ?_
    refine r_yg rfl h0 rfl (y_iop rfl rfl rfl) ?_
    refine r_y rfl rfl (y_pickt rfl h0 rfl) ?_
    refine r_y rfl rfl (y_move rfl) ?_
    refine r_split (j := 6) rfl (fun h1 => ?_) (fun h1 => ?_)
    ·
      refine r_yg rfl h1 rfl (y_move rfl) ?_
      refine r_yg rfl h1 rfl (y_conv_str rfl hzb us22 un5 ut9) ?_
      refine r_yg rfl h1 rfl (y_eqstr rfl rfl) ?_
      refine r_y rfl rfl (y_pickt rfl h1 rfl) ?_
      refine r_y rfl rfl (y_move rfl) ?_
      refine r_split (j := 11) rfl (fun h2 => ?_) (fun h2 => ?_)
      ·
        refine r_yg rfl h2 rfl (y_fieldAddr rfl At.lit fo35_1 rfl) ?_
        refine r_yg rfl h2 rfl (y_load_s rfl ts3 (RdS.blk (i := 0) rfl rfl)) ?_
        refine r_yg rfl h2 rfl (y_iop rfl rfl rfl) ?_
        refine r_y rfl rfl (y_pickt rfl h2 rfl) ?_
        refine r_y rfl rfl (y_move rfl) ?_
        refine r_split (j := 16) rfl (fun h3 => ?_) (fun h3 => ?_)
        ·
          refine r_yg rfl h3 rfl (y_fieldAddr rfl At.lit fo35_0 rfl) ?_
          refine r_yg rfl h3 rfl (y_load_s rfl ts3 (RdS.blk (i := 0) rfl rfl)) ?_
          refine r_yg rfl h3 rfl (y_iop rfl rfl rfl) ?_
          refine r_y rfl rfl (y_pickt rfl h3 rfl) ?_
          refine r_y rfl rfl (y_assign rfl) ?_
          refine r_nil ?_
          refine hK3 _ _ _ ?_
          clear hK3 K3
          refine c_ret ?_
          refine e_ret 1 hm (res_tmps rfl) ?_
          first | exact ⟨rfl, rfl⟩ | (exfalso; revert h0; decide) | (exfalso; revert h1; decide) | (exfalso; revert h2; decide) | (exfalso; revert h3; decide) | (rw [strA] at h2; cases h2)
        ·
          refine r_no' rfl rfl h3 ?_
          refine r_no' rfl rfl h3 ?_
          refine r_no' rfl rfl h3 ?_
          refine r_y rfl rfl (y_pickf rfl h3 rfl) ?_
          refine r_y rfl rfl (y_assign rfl) ?_
          refine r_nil ?_
          refine hK3 _ _ _ ?_
          clear hK3 K3
          refine c_ret ?_
          refine e_ret 1 hm (res_tmps rfl) ?_
          first | exact ⟨rfl, rfl⟩ | (exfalso; revert h0; decide) | (exfalso; revert h1; decide) | (exfalso; revert h2; decide) | (exfalso; revert h3; decide) | (rw [strA] at h2; cases h2)
      ·
        refine r_no' rfl rfl h2 ?_
        refine r_no' rfl rfl h2 ?_
        refine r_no' rfl rfl h2 ?_
        refine r_y rfl rfl (y_pickf rfl h2 rfl) ?_
        refine r_y rfl rfl (y_move rfl) ?_
        refine r_no' rfl rfl rfl ?_
        refine r_no' rfl rfl rfl ?_
        refine r_no' rfl rfl rfl ?_
        refine r_y rfl rfl (y_pickf rfl rfl rfl) ?_
        refine r_y rfl rfl (y_assign rfl) ?_
        refine r_nil ?_
        refine hK3 _ _ _ ?_
        clear hK3 K3
        refine c_ret ?_
        refine e_ret 1 hm (res_tmps rfl) ?_
        first | exact ⟨rfl, rfl⟩ | (exfalso; revert h0; decide) | (exfalso; revert h1; decide) | (exfalso; revert h2; decide) | (exfalso; revert h3; decide) | (rw [strA] at h2; cases h2)
    ·
      refine r_no' rfl rfl h1 ?_
      refine r_no' rfl rfl h1 ?_
      refine r_no' rfl rfl h1 ?_
      refine r_y rfl rfl (y_pickf rfl h1 rfl) ?_
      refine r_y rfl rfl (y_move rfl) ?_
      refine r_no' rfl rfl rfl ?_
      refine r_no' rfl rfl rfl ?_
      refine r_no' rfl rfl rfl ?_
      refine r_y rfl rfl (y_pickf rfl rfl rfl) ?_
      refine r_y rfl rfl (y_move rfl) ?_
      refine r_no' rfl rfl rfl ?_
      refine r_no' rfl rfl rfl ?_
      refine r_no' rfl rfl rfl ?_
      refine r_y rfl rfl (y_pickf rfl rfl rfl) ?_
      refine r_y rfl rfl (y_assign rfl) ?_
      refine r_nil ?_
      refine hK3 _ _ _ ?_
      clear hK3 K3
      refine c_ret ?_
      refine e_ret 1 hm (res_tmps rfl) ?_
      first | exact ⟨rfl, rfl⟩ | (exfalso; revert h0; decide) | (exfalso; revert h1; decide) | (exfalso; revert h2; decide) | (exfalso; revert h3; decide) | (rw [strA] at h2; cases h2)
  ·
    refine r_no' rfl rfl h0 ?_
    refine r_no' rfl rfl h0 ?_
    refine r_y rfl rfl (y_pickf rfl h0 rfl) ?_
    refine r_y rfl rfl (y_move rfl) ?_
    refine r_no' rfl rfl rfl ?_
    refine r_no' rfl rfl rfl ?_
    refine r_no' rfl rfl rfl ?_
    refine r_y rfl rfl (y_pickf rfl rfl rfl) ?_
    refine r_y rfl rfl (y_move rfl) ?_
    refine r_no' rfl rfl rfl ?_
    refine r_no' rfl rfl rfl ?_
    refine r_no' rfl rfl rfl ?_
    refine r_y rfl rfl (y_pickf rfl rfl rfl) ?_
    refine r_y rfl rfl (y_move rfl) ?_
    refine r_no' rfl rfl rfl ?_
    refine r_no' rfl rfl rfl ?_
    refine r_no' rfl rfl rfl ?_
    refine r_y rfl rfl (y_pickf rfl rfl rfl) ?_
    refine r_y rfl rfl (y_assign rfl) ?_
    refine r_nil ?_
    refine hK3 _ _ _ ?_
    clear hK3 K3
    refine c_ret ?_
    refine e_ret 1 hm (res_tmps rfl) ?_
    first | exact ⟨rfl, rfl⟩ | (exfalso; revert h0; decide) | (exfalso; revert h1; decide) | (exfalso; revert h2; decide) | (exfalso; revert h3; decide) | (rw [strA] at h2; cases h2)
end Go.Aw
