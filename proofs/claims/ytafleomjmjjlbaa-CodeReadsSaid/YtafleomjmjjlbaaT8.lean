import Derived.Test.YtafleomjmjjlbaaT7
import Derived.Test.YtafleomjmjjlbaaData4
namespace Go.Aw
open Go Go.Proofs
theorem tz111 : tzero Try.prog 111 = some [.slice none 0 0] := by kernel_rfl
theorem fk111 : fieldsKnown Try.prog 111 = true := by kernel_rfl
theorem bp111_ : bplaces Try.prog 111 [] = some [] := by kernel_rfl
theorem un24 : Try.prog.underlying 24 = some (.int .i64) := by kernel_rfl
set_option maxRecDepth 100000 in
theorem encode_w (x : MsgD) (sm sr : Sl) (lr : List (RuleD × Sl)) (m : Snap) (H : Hp) (hz : MsgOk m x sm sr lr) : Fn Try.prog 21 [.agg (encMsg x sm sr).toArray] m H (fun v m' H' => ∃ s' : Sl, v = .tuple [s'.v, .int .i64 (if (encode x).isSome then 0 else 2)].toArray ∧ FzB m' s' ((encode x).getD []) ∧ (s'.a = none → s'.cap = 0) ∧ H' = H) := by
  have hl := hz.len
  have hq := hz.eq
  have hm : m.le m := Snap.le.refl m
  refine fn_end Try.func21 rfl rfl rfl ?_
  refine c_seq (fun K0 hK0 => ?_)
  refine c_region ?_
  refine r_s rfl ?_
  refine s_box_a rfl rfl (fun b0 => ?_)
  refine r_y rfl rfl (y_assign rfl) ?_
  refine r_y rfl rfl (y_assign rfl) ?_
  refine r_nil ?_
  refine hK0 _ _ _ ?_
  clear hK0 K0
  refine c_seq (fun K1 hK1 => ?_)
  refine c_seq (fun K2 hK2 => ?_)
  refine c_region ?_
  refine r_y rfl rfl (y_load_a (cs := encMsg x sm sr) rfl ts35 (RdA.blk (i := 0) rfl rfl)) ?_
  refine r_s rfl ?_
  refine s_call0 rfl Try.call30 rfl (msgSound_ok x sm sr lr _ _ hz) ?_
  rintro _ m2 _ hm2 ⟨rfl, rfl⟩
  replace hm := hm.trans hm2
  replace hz := hz.mono hm2
  clear hm2
  refine r_y rfl rfl (y_not rfl) ?_
  refine r_y rfl rfl (y_move rfl) ?_
  refine r_split (j := 3) rfl (fun h0 => ?_) (fun h0 => ?_)
  ·
    refine r_no' rfl rfl h0 ?_
    refine r_no' rfl rfl h0 ?_
    refine r_no' rfl rfl h0 ?_
    refine r_no' rfl rfl h0 ?_
    refine r_y rfl rfl (y_pickt rfl h0 rfl) ?_
    refine r_nil ?_
    refine hK2 _ _ _ ?_
    clear hK2 K2
    refine c_ift rfl rfl ?_
    refine c_seq (fun K3 hK3 => ?_)
    refine c_region ?_
    refine r_y rfl rfl (y_assign rfl) ?_
    refine r_y rfl rfl (y_assign rfl) ?_
    refine r_nil ?_
    refine hK3 _ _ _ ?_
    clear hK3 K3
    refine c_ret ?_
    refine e_ret 1 hm (res_tmps rfl) ?_
    have he : encode x = none := by unfold encode; rw [if_pos (by simp_all)]
    rw [he]
    exact ⟨zSl, rfl, ⟨rfl, fun c h => (by cases h), Nat.le_refl _, Nat.zero_le _, fun k c h => (by simp [bytes1] at h)⟩, fun _ => rfl, rfl⟩
  ·
    refine r_yg rfl h0 rfl (y_fieldAddr rfl At.lit fo35_6 rfl) ?_
    refine r_yg rfl h0 rfl (y_load_s rfl ts33 (RdS.blk (i := 0) rfl rfl)) ?_
    refine r_yg rfl h0 rfl (y_len tl33 rfl) ?_
    refine r_yg rfl h0 rfl (y_iop rfl rfl rfl) ?_
    refine r_y rfl rfl (y_pickf rfl h0 rfl) ?_
    refine r_nil ?_
    refine hK2 _ _ _ ?_
    clear hK2 K2
    refine c_cond rfl (fun kb => ?_) (fun kb => ?_)
    ·
      refine c_seq (fun K4 hK4 => ?_)
      refine c_region ?_
      refine r_y rfl rfl (y_assign rfl) ?_
      refine r_y rfl rfl (y_assign rfl) ?_
      refine r_nil ?_
      refine hK4 _ _ _ ?_
      clear hK4 K4
      refine c_ret ?_
      refine e_ret 1 hm (res_tmps rfl) ?_
      have he : encode x = none := by unfold encode; rw [if_pos (by simp_all)]
      rw [he]
      exact ⟨zSl, rfl, ⟨rfl, fun c h => (by cases h), Nat.le_refl _, Nat.zero_le _, fun k c h => (by simp [bytes1] at h)⟩, fun _ => rfl, rfl⟩
    ·
      refine c_skip ?_
      refine hK1 _ _ _ ?_
      clear hK1 K1
      refine c_seq (fun K5 hK5 => ?_)
      refine c_region ?_
      refine r_y rfl rfl (y_bld rfl tz111 fk111 bp111_ rfl rfl) ?_
      refine r_s rfl ?_
      refine s_box_a rfl rfl (fun r => ?_)
      refine r_y rfl rfl (y_assign rfl) ?_
      refine r_nil ?_
      refine hK5 _ _ _ ?_
      clear hK5 K5
      refine c_seq (fun K6 hK6 => ?_)
      refine c_region ?_
      refine r_nilvec 5 1 ?_
      have hsn : zSl.n = ([] : List UInt8).length := rfl
      have hs : msgSound x = true := by simp_all
      refine r_y rfl rfl (y_move rfl) ?_
      refine r_y rfl rfl (y_fieldAddr rfl At.lit fo35_0 rfl) ?_
      refine r_y rfl rfl (y_load_s rfl ts3 (RdS.blk (i := 2) rfl rfl)) ?_
      refine r_y rfl rfl (y_conv_iw rfl un3 un25) ?_
      refine r_front 1 rfl ?_
      refine r_s rfl ?_
      refine s_call0 rfl Try.call60 rfl (put_ok r _ _ (iw x.kind) 1 _ _ hsn (by simp [lim, headL] <;> omega)) ?_
      rintro _ m2 _ hm2 ⟨sw, hsn, rfl⟩
      replace hm := hm.trans hm2
      replace hz := hz.mono hm2
      clear hm2
      refine r_nil ?_
      refine hK6 _ _ _ ?_
      clear hK6 K6
      refine c_seq (fun K7 hK7 => ?_)
      refine c_region ?_
      refine r_y rfl rfl (y_move rfl) ?_
      refine r_y rfl rfl (y_fieldAddr rfl At.lit fo35_1 rfl) ?_
      refine r_y rfl rfl (y_load_s rfl ts3 (RdS.blk (i := 2) rfl rfl)) ?_
      refine r_y rfl rfl (y_conv_iw rfl un3 un25) ?_
      refine r_front 1 rfl ?_
      refine r_front 1 rfl ?_
      refine r_s rfl ?_
      refine s_call0 rfl Try.call60 rfl (put_ok r _ _ (iw x.txn) 4 _ _ hsn (by simp [lim, headL] <;> omega)) ?_
      rintro _ m2 _ hm2 ⟨sw, hsn, rfl⟩
      replace hm := hm.trans hm2
      replace hz := hz.mono hm2
      clear hm2
      refine r_nil ?_
      refine hK7 _ _ _ ?_
      clear hK7 K7
      refine c_seq (fun K8 hK8 => ?_)
      refine c_seq (fun K9 hK9 => ?_)
      refine c_region ?_
      refine r_y rfl rfl (y_fieldAddr rfl At.lit fo35_0 rfl) ?_
      refine r_y rfl rfl (y_load_s rfl ts3 (RdS.blk (i := 2) rfl rfl)) ?_
      refine r_nil ?_
      refine hK9 _ _ _ ?_
      clear hK9 K9
      refine c_block ?_
      refine c_seq (fun K10 hK10 => ?_)
      refine c_region ?_
      refine r_y rfl rfl (y_iop rfl rfl rfl) ?_
      refine r_y rfl rfl (y_assign rfl) ?_
      refine r_nil ?_
      refine hK10 _ _ _ ?_
      clear hK10 K10
      refine c_cond rfl (fun k1 => ?_) (fun k1 => ?_)
      ·
        refine c_region ?_
        have hac := msgSound_mod hs k1
        refine r_y rfl rfl (y_move rfl) ?_
        refine r_y rfl rfl (y_fieldAddr rfl At.lit fo35_3 rfl) ?_
        refine r_y rfl rfl (y_load_a (cs := encMod x.mod sm) rfl ts32 (RdA.blk (i := 2) rfl rfl)) ?_
        refine r_front 1 rfl ?_
        refine r_front 1 rfl ?_
        refine r_s rfl ?_
        refine s_call0 rfl Try.call61 rfl (wmod_w r _ _ (x.mod) _ _ _ (hz.mod) hsn (by simp [lim, headL] <;> omega)) ?_
        rintro _ m2 _ hm2 ⟨sw, hsn, rfl⟩
        replace hm := hm.trans hm2
        replace hz := hz.mono hm2
        clear hm2
        refine r_nil ?_
        refine hK8 _ _ _ ?_
        clear hK8 K8
        refine c_seq (fun K11 hK11 => ?_)
        refine c_region ?_
        refine r_freezeVec (i := 1) rfl rfl (fun m3 hm3 hzb hnil => ?_)
        replace hm := hm.trans hm3
        replace hz := hz.mono hm3
        clear hm3
        refine r_y rfl rfl (y_move rfl) ?_
        refine r_y rfl rfl (y_nilCheck rfl) ?_
        refine r_y rfl rfl (y_fieldAddr rfl At.lit fo111_0 rfl) ?_
        refine r_y rfl rfl (y_load_s rfl ts22 (RdS.blk (i := 0) rfl rfl)) ?_
        refine r_y rfl rfl (y_assign rfl) ?_
        refine r_y rfl rfl (y_assign rfl) ?_
        refine r_nil ?_
        refine hK11 _ _ _ ?_
        clear hK11 K11
        refine c_ret ?_
        refine e_ret 2 hm (res_tmps rfl) ?_
        have he : encode x = some (((([] : List UInt8) ++ wput (iw x.kind) 1) ++ wput (iw x.txn) 4) ++ wmod (x.mod)) := by
          unfold encode
          rw [if_neg (by simp_all)]
          simp_all
        rw [he]
        exact ⟨sw, rfl, hzb, hnil, rfl⟩
      ·
        refine c_seq (fun K12 hK12 => ?_)
        refine c_region ?_
        refine r_y rfl rfl (y_iop rfl rfl rfl) ?_
        refine r_y rfl rfl (y_assign rfl) ?_
        refine r_nil ?_
        refine hK12 _ _ _ ?_
        clear hK12 K12
        refine c_cond rfl (fun k6 => ?_) (fun k6 => ?_)
        ·
          refine c_region ?_
          refine r_y rfl rfl (y_move rfl) ?_
          refine r_y rfl rfl (y_fieldAddr rfl At.lit fo35_2 rfl) ?_
          refine r_y rfl rfl (y_load_s rfl ts24 (RdS.blk (i := 2) rfl rfl)) ?_
          refine r_y rfl rfl (y_conv_iw rfl un24 un25) ?_
          refine r_front 1 rfl ?_
          refine r_front 1 rfl ?_
          refine r_s rfl ?_
          refine s_call0 rfl Try.call60 rfl (put_ok r _ _ (iw x.e) 1 _ _ hsn (by simp [lim, headL] <;> omega)) ?_
          rintro _ m2 _ hm2 ⟨sw, hsn, rfl⟩
          replace hm := hm.trans hm2
          replace hz := hz.mono hm2
          clear hm2
          refine r_nil ?_
          refine hK8 _ _ _ ?_
          clear hK8 K8
          refine c_seq (fun K13 hK13 => ?_)
          refine c_region ?_
          refine r_freezeVec (i := 1) rfl rfl (fun m3 hm3 hzb hnil => ?_)
          replace hm := hm.trans hm3
          replace hz := hz.mono hm3
          clear hm3
          refine r_y rfl rfl (y_move rfl) ?_
          refine r_y rfl rfl (y_nilCheck rfl) ?_
          refine r_y rfl rfl (y_fieldAddr rfl At.lit fo111_0 rfl) ?_
          refine r_y rfl rfl (y_load_s rfl ts22 (RdS.blk (i := 0) rfl rfl)) ?_
          refine r_y rfl rfl (y_assign rfl) ?_
          refine r_y rfl rfl (y_assign rfl) ?_
          refine r_nil ?_
          refine hK13 _ _ _ ?_
          clear hK13 K13
          refine c_ret ?_
          refine e_ret 2 hm (res_tmps rfl) ?_
          have he : encode x = some (((([] : List UInt8) ++ wput (iw x.kind) 1) ++ wput (iw x.txn) 4) ++ wput (iw x.e) 1) := by
            unfold encode
            rw [if_neg (by simp_all)]
            simp_all
          rw [he]
          exact ⟨sw, rfl, hzb, hnil, rfl⟩
        ·
          refine c_seq (fun K14 hK14 => ?_)
          refine c_region ?_
          refine r_y rfl rfl (y_iop rfl rfl rfl) ?_
          refine r_y rfl rfl (y_assign rfl) ?_
          refine r_nil ?_
          refine hK14 _ _ _ ?_
          clear hK14 K14
          refine c_cond rfl (fun k8 => ?_) (fun k8 => ?_)
          ·
            refine c_seq (fun K15 hK15 => ?_)
            refine c_region ?_
            refine r_y rfl rfl (y_move rfl) ?_
            refine r_y rfl rfl (y_fieldAddr rfl At.lit fo35_4 rfl) ?_
            refine r_y rfl rfl (y_load_s rfl ts3 (RdS.blk (i := 2) rfl rfl)) ?_
            refine r_y rfl rfl (y_conv_iw rfl un3 un25) ?_
            refine r_front 1 rfl ?_
            refine r_front 1 rfl ?_
            refine r_s rfl ?_
            refine s_call0 rfl Try.call60 rfl (put_ok r _ _ (iw x.port) 1 _ _ hsn (by simp [lim, headL] <;> omega)) ?_
            rintro _ m2 _ hm2 ⟨sw, hsn, rfl⟩
            replace hm := hm.trans hm2
            replace hz := hz.mono hm2
            clear hm2
            refine r_nil ?_
            refine hK15 _ _ _ ?_
            clear hK15 K15
            refine c_region ?_
            refine r_y rfl rfl (y_move rfl) ?_
            refine r_y rfl rfl (y_fieldAddr rfl At.lit fo35_5 rfl) ?_
            refine r_y rfl rfl (y_load_a (cs := encHead x.head) rfl ts27 (RdA.blk (i := 2) rfl rfl)) ?_
            refine r_front 1 rfl ?_
            refine r_front 1 rfl ?_
            refine r_s rfl ?_
            refine s_call0 rfl Try.call62 rfl (whead_w r _ _ x.head _ _ hsn (by simp [lim, headL] <;> omega)) ?_
            rintro _ m2 _ hm2 ⟨sw, hsn, rfl⟩
            replace hm := hm.trans hm2
            replace hz := hz.mono hm2
            clear hm2
            refine r_nil ?_
            refine hK8 _ _ _ ?_
            clear hK8 K8
            refine c_seq (fun K16 hK16 => ?_)
            refine c_region ?_
            refine r_freezeVec (i := 1) rfl rfl (fun m3 hm3 hzb hnil => ?_)
            replace hm := hm.trans hm3
            replace hz := hz.mono hm3
            clear hm3
            refine r_y rfl rfl (y_move rfl) ?_
            refine r_y rfl rfl (y_nilCheck rfl) ?_
            refine r_y rfl rfl (y_fieldAddr rfl At.lit fo111_0 rfl) ?_
            refine r_y rfl rfl (y_load_s rfl ts22 (RdS.blk (i := 0) rfl rfl)) ?_
            refine r_y rfl rfl (y_assign rfl) ?_
            refine r_y rfl rfl (y_assign rfl) ?_
            refine r_nil ?_
            refine hK16 _ _ _ ?_
            clear hK16 K16
            refine c_ret ?_
            refine e_ret 2 hm (res_tmps rfl) ?_
            have he : encode x = some ((((([] : List UInt8) ++ wput (iw x.kind) 1) ++ wput (iw x.txn) 4) ++ wput (iw x.port) 1) ++ whead x.head) := by
              unfold encode
              rw [if_neg (by simp_all)]
              simp_all
            rw [he]
            exact ⟨sw, rfl, hzb, hnil, rfl⟩
          ·
            refine c_seq (fun K17 hK17 => ?_)
            refine c_seq (fun K18 hK18 => ?_)
            refine c_region ?_
            refine r_y rfl rfl (y_iop rfl rfl rfl) ?_
            refine r_y rfl rfl (y_assign rfl) ?_
            refine r_nil ?_
            refine hK18 _ _ _ ?_
            clear hK18 K18
            refine c_cond rfl (fun k9 => ?_) (fun k9 => ?_)
            ·
              refine c_skip ?_
              refine hK17 _ _ _ ?_
              clear hK17 K17
              refine c_ift rfl k9 ?_
              refine c_region ?_
              have hact : ∀ y ∈ lr.map (·.1), y.acts.length ≤ 8 := hq ▸ msgSound_rules hs (by first | exact .inl (by simpa using k9) | exact .inr (by simpa using k10))
              have hlr0 : lr.length = x.rules.length := by rw [hq]; simp
              have hlr : lr.length ≤ 65535 := by simp at kb; omega
              refine r_y rfl rfl (y_move rfl) ?_
              refine r_y rfl rfl (y_fieldAddr rfl At.lit fo35_6 rfl) ?_
              refine r_y rfl rfl (y_load_s rfl ts33 (RdS.blk (i := 2) rfl rfl)) ?_
              refine r_front 1 rfl ?_
              refine r_front 1 rfl ?_
              refine r_s rfl ?_
              refine s_call0 rfl Try.call63 rfl (wrules_w r _ _ _ lr _ _ hz.rules hact hsn (by simp [lim, headL] <;> omega)) ?_
              rintro _ m2 _ hm2 ⟨sw, hsn, rfl⟩
              replace hm := hm.trans hm2
              replace hz := hz.mono hm2
              clear hm2
              refine r_nil ?_
              refine hK8 _ _ _ ?_
              clear hK8 K8
              refine c_seq (fun K19 hK19 => ?_)
              refine c_region ?_
              refine r_freezeVec (i := 1) rfl rfl (fun m3 hm3 hzb hnil => ?_)
              replace hm := hm.trans hm3
              replace hz := hz.mono hm3
              clear hm3
              refine r_y rfl rfl (y_move rfl) ?_
              refine r_y rfl rfl (y_nilCheck rfl) ?_
              refine r_y rfl rfl (y_fieldAddr rfl At.lit fo111_0 rfl) ?_
              refine r_y rfl rfl (y_load_s rfl ts22 (RdS.blk (i := 0) rfl rfl)) ?_
              refine r_y rfl rfl (y_assign rfl) ?_
              refine r_y rfl rfl (y_assign rfl) ?_
              refine r_nil ?_
              refine hK19 _ _ _ ?_
              clear hK19 K19
              refine c_ret ?_
              refine e_ret 2 hm (res_tmps rfl) ?_
              have he := encode_9 hs (by omega) (by first | exact .inl (by simpa using k9) | exact .inr (by simpa using k10))
              rw [hq] at he
              rw [he]
              exact ⟨sw, rfl, hzb, hnil, rfl⟩
            ·
              refine c_region ?_
              refine r_y rfl rfl (y_iop rfl rfl rfl) ?_
              refine r_y rfl rfl (y_assign rfl) ?_
              refine r_nil ?_
              refine hK17 _ _ _ ?_
              clear hK17 K17
              refine c_cond rfl (fun k10 => ?_) (fun k10 => ?_)
              ·
                refine c_region ?_
                have hact : ∀ y ∈ lr.map (·.1), y.acts.length ≤ 8 := hq ▸ msgSound_rules hs (by first | exact .inl (by simpa using k9) | exact .inr (by simpa using k10))
                have hlr0 : lr.length = x.rules.length := by rw [hq]; simp
                have hlr : lr.length ≤ 65535 := by simp at kb; omega
                refine r_y rfl rfl (y_move rfl) ?_
                refine r_y rfl rfl (y_fieldAddr rfl At.lit fo35_6 rfl) ?_
                refine r_y rfl rfl (y_load_s rfl ts33 (RdS.blk (i := 2) rfl rfl)) ?_
                refine r_front 1 rfl ?_
                refine r_front 1 rfl ?_
                refine r_s rfl ?_
                refine s_call0 rfl Try.call63 rfl (wrules_w r _ _ _ lr _ _ hz.rules hact hsn (by simp [lim, headL] <;> omega)) ?_
                rintro _ m2 _ hm2 ⟨sw, hsn, rfl⟩
                replace hm := hm.trans hm2
                replace hz := hz.mono hm2
                clear hm2
                refine r_nil ?_
                refine hK8 _ _ _ ?_
                clear hK8 K8
                refine c_seq (fun K20 hK20 => ?_)
                refine c_region ?_
                refine r_freezeVec (i := 1) rfl rfl (fun m3 hm3 hzb hnil => ?_)
                replace hm := hm.trans hm3
                replace hz := hz.mono hm3
                clear hm3
                refine r_y rfl rfl (y_move rfl) ?_
                refine r_y rfl rfl (y_nilCheck rfl) ?_
                refine r_y rfl rfl (y_fieldAddr rfl At.lit fo111_0 rfl) ?_
                refine r_y rfl rfl (y_load_s rfl ts22 (RdS.blk (i := 0) rfl rfl)) ?_
                refine r_y rfl rfl (y_assign rfl) ?_
                refine r_y rfl rfl (y_assign rfl) ?_
                refine r_nil ?_
                refine hK20 _ _ _ ?_
                clear hK20 K20
                refine c_ret ?_
                refine e_ret 2 hm (res_tmps rfl) ?_
                have he := encode_9 hs (by omega) (by first | exact .inl (by simpa using k9) | exact .inr (by simpa using k10))
                rw [hq] at he
                rw [he]
                exact ⟨sw, rfl, hzb, hnil, rfl⟩
              ·
                refine c_skip ?_
                refine hK8 _ _ _ ?_
                clear hK8 K8
                refine c_seq (fun K21 hK21 => ?_)
                refine c_region ?_
                refine r_freezeVec (i := 1) rfl rfl (fun m3 hm3 hzb hnil => ?_)
                replace hm := hm.trans hm3
                replace hz := hz.mono hm3
                clear hm3
                refine r_y rfl rfl (y_move rfl) ?_
                refine r_y rfl rfl (y_nilCheck rfl) ?_
                refine r_y rfl rfl (y_fieldAddr rfl At.lit fo111_0 rfl) ?_
                refine r_y rfl rfl (y_load_s rfl ts22 (RdS.blk (i := 0) rfl rfl)) ?_
                refine r_y rfl rfl (y_assign rfl) ?_
                refine r_y rfl rfl (y_assign rfl) ?_
                refine r_nil ?_
                refine hK21 _ _ _ ?_
                clear hK21 K21
                refine c_ret ?_
                refine e_ret 2 hm (res_tmps rfl) ?_
                have he : encode x = some ((([] : List UInt8) ++ wput (iw x.kind) 1) ++ wput (iw x.txn) 4) := by
                  unfold encode
                  rw [if_neg (by simp_all)]
                  simp_all
                rw [he]
                exact ⟨sw, rfl, hzb, hnil, rfl⟩
end Go.Aw
