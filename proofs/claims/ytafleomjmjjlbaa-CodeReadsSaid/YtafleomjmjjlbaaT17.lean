import Derived.Test.YtafleomjmjjlbaaT16
import Derived.Test.YtafleomjmjjlbaaData8
namespace Go.Aw
open Go Go.Proofs
theorem tz106 : tzero Try.prog 106 = some [.slice none 0 0, .int .i64 0, .bool false] := by kernel_rfl
theorem fk106 : fieldsKnown Try.prog 106 = true := by kernel_rfl
theorem bp106_0 : bplaces Try.prog 106 [0] = some [(0, 1)] := by kernel_rfl
theorem rMsg_w' (x : MsgD) (sm sr : Sl) (lr : List (RuleD × Sl)) (m : Snap) (H : Hp) (hz : MsgOk m x sm sr lr) (hn : x.rules.length ≤ 65535) : Fn Try.prog 24 [.agg (encMsg x sm sr).toArray] m H (fun v _ H' => v = .bool (msgSound x) ∧ H' = H) :=
  (rMsg_w x sm sr lr m H hz).mono fun v m' H' _ ⟨h1, h2⟩ => ⟨by rw [h1, decide_eq_true hn, Bool.and_true], h2⟩
set_option maxRecDepth 100000 in
set_option maxHeartbeats 8000000 in
theorem rDecode_w (s s0 : Sl) (l : List UInt8) (m : Snap) (H : Hp) (hz : FzB m s l) (hL : l.length ≤ 4611686018427387904) : Fn Try.prog 19 [s.v] m H (fun v m' H' => ∃ sm sr lr, v = .tuple [.agg (encMsg (decode s0 l).1 sm sr).toArray, .int .i64 (decode s0 l).2].toArray ∧ MsgOk m' (decode s0 l).1 sm sr lr ∧ H' = H) := by
  have hmx := hz.max
  have hle := hz.le
  have hl := Fz.lenB hz
  unfold maxLen at hmx
  have hm : m.le m := Snap.le.refl m
  refine fn_end Try.func19 rfl rfl rfl ?_
  refine c_seq (fun K0 hK0 => ?_)
  refine c_region ?_
  refine r_s rfl ?_
  refine s_alloc rfl tz35 (fun b0 => ?_)
  refine r_y rfl rfl (y_assign rfl) ?_
  refine r_nil ?_
  refine hK0 _ _ _ ?_
  clear hK0 K0
  refine c_seq (fun K1 hK1 => ?_)
  refine c_region ?_
  refine r_y rfl rfl (y_move rfl) ?_
  refine r_y rfl rfl (y_bld rfl tz106 fk106 bp106_0 rfl rfl) ?_
  refine r_s rfl ?_
  refine s_box_a rfl rfl (fun r => ?_)
  refine r_item 0 rfl (eyStart r s s0 l) ?_
  refine r_y rfl rfl (y_assign rfl) ?_
  refine r_nil ?_
  refine hK1 _ _ _ ?_
  clear hK1 K1
  refine c_seq (fun K2 hK2 => ?_)
  refine c_region ?_
  refine r_s rfl ?_
  refine s_alloc rfl tz35 (fun b1 => ?_)
  refine r_nil ?_
  refine hK2 _ _ _ ?_
  clear hK2 K2
  refine c_seq (fun K3 hK3 => ?_)
  refine c_region ?_
  refine r_y rfl rfl (y_move rfl) ?_
  refine r_front 1 rfl ?_
  refine r_s rfl ?_
  refine s_call0 rfl Try.call57 rfl (eget_w r s l (⟨s0, l, false⟩) 1 _ _ hz ((Suf.start s0 l)) hL (by decide)) ?_
  rintro _ m2 _ hm2 ⟨rfl, rfl⟩
  replace hm := hm.trans hm2
  replace hz := hz.mono hm2
  clear hm2
  refine r_y rfl rfl (y_conv_wi rfl un25 un3) ?_
  refine r_y rfl rfl (y_fieldAddr rfl At.lit fo35_0 rfl) ?_
  refine r_s rfl ?_
  refine s_store rfl rfl rfl ts3 rfl rfl (by simp [Value.oneCell', wv, Sl.v]) (i := 1) rfl rfl ?_
  refine r_nil ?_
  refine hK3 _ _ _ ?_
  clear hK3 K3
  refine c_seq (fun K4 hK4 => ?_)
  refine c_region ?_
  refine r_y rfl rfl (y_move rfl) ?_
  refine r_s rfl ?_
  refine s_call0 rfl Try.call57 rfl (eget_w r s l ((rget 1 (⟨s0, l, false⟩)).2) 4 _ _ hz (rget_suf ((Suf.start s0 l))) hL (by decide)) ?_
  rintro _ m2 _ hm2 ⟨rfl, rfl⟩
  replace hm := hm.trans hm2
  replace hz := hz.mono hm2
  clear hm2
  refine r_y rfl rfl (y_conv_wi rfl un25 un3) ?_
  refine r_y rfl rfl (y_fieldAddr rfl At.lit fo35_1 rfl) ?_
  refine r_s rfl ?_
  refine s_store rfl rfl rfl ts3 rfl rfl (by simp [Value.oneCell', wv, Sl.v]) (i := 1) rfl rfl ?_
  refine r_nil ?_
  refine hK4 _ _ _ ?_
  clear hK4 K4
  refine c_seq (fun K5 hK5 => ?_)
  refine c_region ?_
  refine r_y rfl rfl (y_assign rfl) ?_
  refine r_nil ?_
  refine hK5 _ _ _ ?_
  clear hK5 K5
  refine c_seq (fun K6 hK6 => ?_)
  refine c_seq (fun K7 hK7 => ?_)
  refine c_region ?_
  refine r_y rfl rfl (y_fieldAddr rfl At.lit fo35_0 rfl) ?_
  refine r_y rfl rfl (y_load_s rfl ts3 (RdS.blk (i := 1) rfl rfl)) ?_
  refine r_nil ?_
  refine hK7 _ _ _ ?_
  clear hK7 K7
  refine c_block ?_
  refine c_seq (fun K8 hK8 => ?_)
  refine c_region ?_
  refine r_y rfl rfl (y_iop rfl rfl rfl) ?_
  refine r_y rfl rfl (y_assign rfl) ?_
  refine r_nil ?_
  refine hK8 _ _ _ ?_
  clear hK8 K8
  refine c_cond rfl (fun k1 => ?_) (fun k1 => ?_)
  ·
    refine c_seq (fun K9 hK9 => ?_)
    refine c_region ?_
    refine r_y rfl rfl (y_move rfl) ?_
    refine r_s rfl ?_
    refine s_call0 rfl Try.call57 rfl (eget_w r s l ((rmsg0 ⟨s0, l, false⟩).2) 1 _ _ hz (rmsg0_suf (q := ⟨s0, l, false⟩) (Suf.start s0 l)) hL (by decide)) ?_
    rintro _ m2 _ hm2 ⟨rfl, rfl⟩
    replace hm := hm.trans hm2
    replace hz := hz.mono hm2
    clear hm2
    refine r_y rfl rfl (y_conv_wi rfl un25 un3) ?_
    refine r_y rfl rfl (y_fieldAddr rfl At.lit fo35_3 rfl) ?_
    refine r_y rfl rfl (y_fieldAddr rfl At.lit fo32_0 rfl) ?_
    refine r_s rfl ?_
    refine s_store rfl rfl rfl ts3 rfl rfl (by simp [Value.oneCell', wv, Sl.v]) (i := 1) rfl rfl ?_
    refine r_nil ?_
    refine hK9 _ _ _ ?_
    clear hK9 K9
    refine c_seq (fun K10 hK10 => ?_)
    refine c_region ?_
    refine r_y rfl rfl (y_move rfl) ?_
    refine r_s rfl ?_
    refine s_call0 rfl Try.call58 rfl (ehead_w r s l ((rget 1 ((rmsg0 ⟨s0, l, false⟩).2)).2) _ _ hz (rget_suf (rmsg0_suf (q := ⟨s0, l, false⟩) (Suf.start s0 l))) hL) ?_
    rintro _ m2 _ hm2 ⟨rfl, rfl⟩
    replace hm := hm.trans hm2
    replace hz := hz.mono hm2
    clear hm2
    refine r_y rfl rfl (y_fieldAddr rfl At.lit fo35_3 rfl) ?_
    refine r_y rfl rfl (y_fieldAddr rfl At.lit fo32_1 rfl) ?_
    refine r_y rfl rfl (y_fieldAddr rfl At.lit fo29_0 rfl) ?_
    refine r_s rfl ?_
    refine s_store (us := encHead (rhead ((rget 1 ((rmsg0 ⟨s0, l, false⟩).2)).2)).1) rfl rfl rfl ts27 rfl rfl (one_head _) (i := 1) rfl rfl ?_
    refine r_nil ?_
    refine hK10 _ _ _ ?_
    clear hK10 K10
    refine c_seq (fun K11 hK11 => ?_)
    refine c_region ?_
    refine r_y rfl rfl (y_move rfl) ?_
    refine r_s rfl ?_
    refine s_call0 rfl Try.call58 rfl (ehead_w r s l ((rhead ((rget 1 ((rmsg0 ⟨s0, l, false⟩).2)).2)).2) _ _ hz (rhead_suf (rget_suf (rmsg0_suf (q := ⟨s0, l, false⟩) (Suf.start s0 l)))) hL) ?_
    rintro _ m2 _ hm2 ⟨rfl, rfl⟩
    replace hm := hm.trans hm2
    replace hz := hz.mono hm2
    clear hm2
    refine r_y rfl rfl (y_fieldAddr rfl At.lit fo35_3 rfl) ?_
    refine r_y rfl rfl (y_fieldAddr rfl At.lit fo32_1 rfl) ?_
    refine r_y rfl rfl (y_fieldAddr rfl At.lit fo29_1 rfl) ?_
    refine r_s rfl ?_
    refine s_store (us := encHead (rhead ((rhead ((rget 1 ((rmsg0 ⟨s0, l, false⟩).2)).2)).2)).1) rfl rfl rfl ts27 rfl rfl (one_head _) (i := 1) rfl rfl ?_
    refine r_nil ?_
    refine hK11 _ _ _ ?_
    clear hK11 K11
    refine c_seq (fun K12 hK12 => ?_)
    refine c_region ?_
    refine r_y rfl rfl (y_move rfl) ?_
    refine r_s rfl ?_
    refine s_call0 rfl Try.call57 rfl (eget_w r s l ((rhead ((rhead ((rget 1 ((rmsg0 ⟨s0, l, false⟩).2)).2)).2)).2) 2 _ _ hz (rhead_suf (rhead_suf (rget_suf (rmsg0_suf (q := ⟨s0, l, false⟩) (Suf.start s0 l))))) hL (by decide)) ?_
    rintro _ m2 _ hm2 ⟨rfl, rfl⟩
    replace hm := hm.trans hm2
    replace hz := hz.mono hm2
    clear hm2
    refine r_y rfl rfl (y_conv_wi rfl un25 un3) ?_
    refine r_y rfl rfl (y_fieldAddr rfl At.lit fo35_3 rfl) ?_
    refine r_y rfl rfl (y_fieldAddr rfl At.lit fo32_2 rfl) ?_
    refine r_s rfl ?_
    refine s_store rfl rfl rfl ts3 rfl rfl (by simp [Value.oneCell', wv, Sl.v]) (i := 1) rfl rfl ?_
    refine r_nil ?_
    refine hK12 _ _ _ ?_
    clear hK12 K12
    refine c_seq (fun K13 hK13 => ?_)
    refine c_region ?_
    refine r_y rfl rfl (y_move rfl) ?_
    refine r_s rfl ?_
    refine s_call0 rfl Try.call57 rfl (eget_w r s l ((rget 2 ((rhead ((rhead ((rget 1 ((rmsg0 ⟨s0, l, false⟩).2)).2)).2)).2)).2) 4 _ _ hz (rget_suf (rhead_suf (rhead_suf (rget_suf (rmsg0_suf (q := ⟨s0, l, false⟩) (Suf.start s0 l)))))) hL (by decide)) ?_
    rintro _ m2 _ hm2 ⟨rfl, rfl⟩
    replace hm := hm.trans hm2
    replace hz := hz.mono hm2
    clear hm2
    refine r_y rfl rfl (y_conv_wi rfl un25 un3) ?_
    refine r_y rfl rfl (y_fieldAddr rfl At.lit fo35_3 rfl) ?_
    refine r_y rfl rfl (y_fieldAddr rfl At.lit fo32_4 rfl) ?_
    refine r_s rfl ?_
    refine s_store rfl rfl rfl ts3 rfl rfl (by simp [Value.oneCell', wv, Sl.v]) (i := 1) rfl rfl ?_
    refine r_nil ?_
    refine hK13 _ _ _ ?_
    clear hK13 K13
    refine c_seq (fun K14 hK14 => ?_)
    refine c_region ?_
    refine r_y rfl rfl (y_move rfl) ?_
    refine r_s rfl ?_
    refine s_call0 rfl Try.call57 rfl (eget_w r s l ((rget 4 ((rget 2 ((rhead ((rhead ((rget 1 ((rmsg0 ⟨s0, l, false⟩).2)).2)).2)).2)).2)).2) 4 _ _ hz (rget_suf (rget_suf (rhead_suf (rhead_suf (rget_suf (rmsg0_suf (q := ⟨s0, l, false⟩) (Suf.start s0 l))))))) hL (by decide)) ?_
    rintro _ m2 _ hm2 ⟨rfl, rfl⟩
    replace hm := hm.trans hm2
    replace hz := hz.mono hm2
    clear hm2
    refine r_y rfl rfl (y_conv_wi rfl un25 un3) ?_
    refine r_y rfl rfl (y_fieldAddr rfl At.lit fo35_3 rfl) ?_
    refine r_y rfl rfl (y_fieldAddr rfl At.lit fo32_5 rfl) ?_
    refine r_s rfl ?_
    refine s_store rfl rfl rfl ts3 rfl rfl (by simp [Value.oneCell', wv, Sl.v]) (i := 1) rfl rfl ?_
    refine r_nil ?_
    refine hK14 _ _ _ ?_
    clear hK14 K14
    refine c_seq (fun K15 hK15 => ?_)
    refine c_region ?_
    refine r_y rfl rfl (y_move rfl) ?_
    refine r_s rfl ?_
    refine s_call0 rfl Try.call57 rfl (eget_w r s l ((rget 4 ((rget 4 ((rget 2 ((rhead ((rhead ((rget 1 ((rmsg0 ⟨s0, l, false⟩).2)).2)).2)).2)).2)).2)).2) 1 _ _ hz (rget_suf (rget_suf (rget_suf (rhead_suf (rhead_suf (rget_suf (rmsg0_suf (q := ⟨s0, l, false⟩) (Suf.start s0 l)))))))) hL (by decide)) ?_
    rintro _ m2 _ hm2 ⟨rfl, rfl⟩
    replace hm := hm.trans hm2
    replace hz := hz.mono hm2
    clear hm2
    refine r_y rfl rfl (y_conv_wi rfl un25 un3) ?_
    refine r_y rfl rfl (y_fieldAddr rfl At.lit fo35_3 rfl) ?_
    refine r_y rfl rfl (y_fieldAddr rfl At.lit fo32_6 rfl) ?_
    refine r_s rfl ?_
    refine s_store rfl rfl rfl ts3 rfl rfl (by simp [Value.oneCell', wv, Sl.v]) (i := 1) rfl rfl ?_
    refine r_nil ?_
    refine hK15 _ _ _ ?_
    clear hK15 K15
    refine c_seq (fun K16 hK16 => ?_)
    refine c_region ?_
    refine r_y rfl rfl (y_move rfl) ?_
    refine r_s rfl ?_
    refine s_call0 rfl Try.call57 rfl (eget_w r s l ((rmod0 (rmsg0 ⟨s0, l, false⟩).2).2) 1 _ _ hz (rmod0_suf (rmsg0_suf (q := ⟨s0, l, false⟩) (Suf.start s0 l))) hL (by decide)) ?_
    rintro _ m2 _ hm2 ⟨rfl, rfl⟩
    replace hm := hm.trans hm2
    replace hz := hz.mono hm2
    clear hm2
    refine r_y rfl rfl (y_assign rfl) ?_
    refine r_nil ?_
    refine hK16 _ _ _ ?_
    clear hK16 K16
    refine c_seq (fun K17 hK17 => ?_)
    refine c_region ?_
    refine r_y rfl rfl (y_move rfl) ?_
    refine r_y rfl rfl (y_wgt1 (rmod0 (rmsg0 ⟨s0, l, false⟩).2).2 rfl) ?_
    refine r_y rfl rfl (y_assign rfl) ?_
    refine r_nil ?_
    refine hK17 _ _ _ ?_
    clear hK17 K17
    refine c_seq (fun K18 hK18 => ?_)
    refine c_region ?_
    refine r_y rfl rfl (y_move rfl) ?_
    refine r_y rfl rfl (y_weq1 (rmod0 (rmsg0 ⟨s0, l, false⟩).2).2 rfl) ?_
    refine r_y rfl rfl (y_fieldAddr rfl At.lit fo35_3 rfl) ?_
    refine r_y rfl rfl (y_fieldAddr rfl At.lit fo32_7 rfl) ?_
    refine r_s rfl ?_
    refine s_store rfl rfl rfl ts4 rfl rfl (by simp [Value.oneCell', wv, Sl.v]) (i := 1) rfl rfl ?_
    refine r_nil ?_
    refine hK18 _ _ _ ?_
    clear hK18 K18
    refine c_region ?_
    refine r_y rfl rfl (y_move rfl) ?_
    refine r_s rfl ?_
    refine s_call0 rfl Try.call59 rfl (eacts_w r s l ((rget 1 ((rmod0 (rmsg0 ⟨s0, l, false⟩).2).2)).2) _ _ hz (rget_suf (rmod0_suf (rmsg0_suf (q := ⟨s0, l, false⟩) (Suf.start s0 l)))) hL) ?_
    rintro _ m2 _ hm2 ⟨sa, rfl, hza, hsa, rfl⟩
    replace hm := hm.trans hm2
    replace hz := hz.mono hm2
    clear hm2
    refine r_y rfl rfl (y_fieldAddr rfl At.lit fo35_3 rfl) ?_
    refine r_y rfl rfl (y_fieldAddr rfl At.lit fo32_3 rfl) ?_
    refine r_s rfl ?_
    refine s_store rfl rfl rfl ts30 rfl rfl (by simp [Value.oneCell', wv, Sl.v]) (i := 1) rfl rfl ?_
    refine r_nil ?_
    refine hK6 _ _ _ ?_
    clear hK6 K6
    refine c_seq (fun K19 hK19 => ?_)
    refine c_seq (fun K20 hK20 => ?_)
    refine c_region ?_
    refine r_y rfl rfl (y_move rfl) ?_
    refine r_y rfl rfl (y_nilCheck rfl) ?_
    refine r_y rfl rfl (y_fieldAddr rfl At.lit fo106_2 rfl) ?_
    refine r_y rfl rfl (y_load_s rfl ts4 (RdS.blk (i := 0) rfl rfl)) ?_
    refine r_nil ?_
    refine hK20 _ _ _ ?_
    clear hK20 K20
    refine c_cond rfl (fun ke => ?_) (fun ke => ?_)
    ·
      refine c_seq (fun K21 hK21 => ?_)
      refine c_region ?_
      refine r_y rfl rfl (y_bld rfl tz35 fk35 bp35_ rfl rfl) ?_
      refine r_s rfl ?_
      refine s_store (us := encMsg zMsg zSl zSl) rfl rfl rfl ts35 rfl rfl (one_msg _ _ _) (i := 2) rfl rfl ?_
      refine r_y rfl rfl (y_assign rfl) ?_
      refine r_nil ?_
      refine hK21 _ _ _ ?_
      clear hK21 K21
      refine c_ret ?_
      refine e_ret 3 hm (res2 (r1_cell_a rfl ts35 (RdA.blk (i := 2) rfl rfl)) (r1_tmp rfl)) ?_
      have hx := rmsg_1 (q := ⟨s0, l, false⟩) k1
      rw [decode_short hx ke]
      exact ⟨zSl, zSl, [], rfl, zMsg_ok _, rfl⟩
    ·
      refine c_skip ?_
      refine hK19 _ _ _ ?_
      clear hK19 K19
      refine c_seq (fun K22 hK22 => ?_)
      refine c_seq (fun K23 hK23 => ?_)
      refine c_region ?_
      refine r_y rfl rfl (y_move rfl) ?_
      refine r_y rfl rfl (y_move rfl) ?_
      refine r_split (j := 1) rfl (fun hodd => ?_) (fun hodd => ?_)
      ·
        refine r_no' rfl rfl hodd ?_
        refine r_no' rfl rfl hodd ?_
        refine r_no' rfl rfl hodd ?_
        refine r_no' rfl rfl hodd ?_
        refine r_no' rfl rfl hodd ?_
        refine r_no' rfl rfl hodd ?_
        refine r_no' rfl rfl hodd ?_
        refine r_y rfl rfl (y_pickt rfl hodd rfl) ?_
        refine r_y rfl rfl (y_move rfl) ?_
        refine r_no' rfl rfl rfl ?_
        refine r_no' rfl rfl rfl ?_
        refine r_no' rfl rfl rfl ?_
        refine r_y rfl rfl (y_pickt rfl rfl rfl) ?_
        refine r_nil ?_
        refine hK23 _ _ _ ?_
        clear hK23 K23
        refine c_ift rfl rfl ?_
        refine c_seq (fun K24 hK24 => ?_)
        refine c_region ?_
        refine r_y rfl rfl (y_bld rfl tz35 fk35 bp35_ rfl rfl) ?_
        refine r_s rfl ?_
        refine s_store (us := encMsg zMsg zSl zSl) rfl rfl rfl ts35 rfl rfl (one_msg _ _ _) (i := 2) rfl rfl ?_
        refine r_y rfl rfl (y_assign rfl) ?_
        refine r_nil ?_
        refine hK24 _ _ _ ?_
        clear hK24 K24
        refine c_ret ?_
        refine e_ret 3 hm (res2 (r1_cell_a rfl ts35 (RdA.blk (i := 2) rfl rfl)) (r1_tmp rfl)) ?_
        have hx := rmsg_1 (q := ⟨s0, l, false⟩) k1
        have hql := (rmod_suf (rmsg0_suf (q := ⟨s0, l, false⟩) (Suf.start s0 l))).1
        have hln := Fz.lenB hz
        first
          | (rw [decode_bad1 hx ke hodd]; exact ⟨zSl, zSl, [], rfl, zMsg_ok _, rfl⟩)
          | (rw [decode_bad2 hx ke (at_bad hat hql hln)]; exact ⟨zSl, zSl, [], rfl, zMsg_ok _, rfl⟩)
          | (rw [decode_bad3 hx ke kb]; exact ⟨zSl, zSl, [], rfl, zMsg_ok _, rfl⟩)
      ·
        refine r_yg rfl hodd rfl (y_move rfl) ?_
        refine r_yg rfl hodd rfl (y_nilCheck rfl) ?_
        refine r_yg rfl hodd rfl (y_fieldAddr rfl At.lit fo106_1 rfl) ?_
        refine r_yg rfl hodd rfl (y_load_s rfl ts3 (RdS.blk (i := 0) rfl rfl)) ?_
        refine r_yg rfl hodd rfl (y_move rfl) ?_
        refine r_yg rfl hodd rfl (y_len tl22 rfl) ?_
        refine r_yg rfl hodd rfl (y_iop rfl rfl rfl) ?_
        refine r_y rfl rfl (y_pickf rfl hodd rfl) ?_
        refine r_y rfl rfl (y_move rfl) ?_
        refine r_split (j := 10) rfl (fun hat => ?_) (fun hat => ?_)
        ·
          refine r_no' rfl rfl hat ?_
          refine r_no' rfl rfl hat ?_
          refine r_no' rfl rfl hat ?_
          refine r_y rfl rfl (y_pickt rfl hat rfl) ?_
          refine r_nil ?_
          refine hK23 _ _ _ ?_
          clear hK23 K23
          refine c_ift rfl rfl ?_
          refine c_seq (fun K25 hK25 => ?_)
          refine c_region ?_
          refine r_y rfl rfl (y_bld rfl tz35 fk35 bp35_ rfl rfl) ?_
          refine r_s rfl ?_
          refine s_store (us := encMsg zMsg zSl zSl) rfl rfl rfl ts35 rfl rfl (one_msg _ _ _) (i := 2) rfl rfl ?_
          refine r_y rfl rfl (y_assign rfl) ?_
          refine r_nil ?_
          refine hK25 _ _ _ ?_
          clear hK25 K25
          refine c_ret ?_
          refine e_ret 3 hm (res2 (r1_cell_a rfl ts35 (RdA.blk (i := 2) rfl rfl)) (r1_tmp rfl)) ?_
          have hx := rmsg_1 (q := ⟨s0, l, false⟩) k1
          have hql := (rmod_suf (rmsg0_suf (q := ⟨s0, l, false⟩) (Suf.start s0 l))).1
          have hln := Fz.lenB hz
          first
            | (rw [decode_bad1 hx ke hodd]; exact ⟨zSl, zSl, [], rfl, zMsg_ok _, rfl⟩)
            | (rw [decode_bad2 hx ke (at_bad hat hql hln)]; exact ⟨zSl, zSl, [], rfl, zMsg_ok _, rfl⟩)
            | (rw [decode_bad3 hx ke kb]; exact ⟨zSl, zSl, [], rfl, zMsg_ok _, rfl⟩)
        ·
          refine r_yg rfl hat rfl (y_load_a (cs := encMsg ({ (rmsg0 ⟨s0, l, false⟩).1 with mod := (rmod (rmsg0 ⟨s0, l, false⟩).2).1.1 }) sa zSl) rfl ts35 (RdA.blk (i := 1) rfl rfl)) ?_
          refine r_sg rfl hat ?_
          refine s_call0 rfl Try.call24 rfl (rMsg_w' ({ (rmsg0 ⟨s0, l, false⟩).1 with mod := (rmod (rmsg0 ⟨s0, l, false⟩).2).1.1 }) sa zSl [] _ _ ⟨hza, hsa, fzR_nil _, rfl⟩ (Nat.zero_le _)) ?_
          rintro _ m2 _ hm2 ⟨rfl, rfl⟩
          replace hm := hm.trans hm2
          replace hz := hz.mono hm2
          replace hza := hza.mono hm2
          clear hm2
          refine r_yg rfl hat rfl (y_not rfl) ?_
          refine r_y rfl rfl (y_pickf rfl hat rfl) ?_
          refine r_nil ?_
          refine hK23 _ _ _ ?_
          clear hK23 K23
          refine c_cond rfl (fun kb => ?_) (fun kb => ?_)
          ·
            refine c_seq (fun K26 hK26 => ?_)
            refine c_region ?_
            refine r_y rfl rfl (y_bld rfl tz35 fk35 bp35_ rfl rfl) ?_
            refine r_s rfl ?_
            refine s_store (us := encMsg zMsg zSl zSl) rfl rfl rfl ts35 rfl rfl (one_msg _ _ _) (i := 2) rfl rfl ?_
            refine r_y rfl rfl (y_assign rfl) ?_
            refine r_nil ?_
            refine hK26 _ _ _ ?_
            clear hK26 K26
            refine c_ret ?_
            refine e_ret 3 hm (res2 (r1_cell_a rfl ts35 (RdA.blk (i := 2) rfl rfl)) (r1_tmp rfl)) ?_
            have hx := rmsg_1 (q := ⟨s0, l, false⟩) k1
            have hql := (rmod_suf (rmsg0_suf (q := ⟨s0, l, false⟩) (Suf.start s0 l))).1
            have hln := Fz.lenB hz
            first
              | (rw [decode_bad1 hx ke hodd]; exact ⟨zSl, zSl, [], rfl, zMsg_ok _, rfl⟩)
              | (rw [decode_bad2 hx ke (at_bad hat hql hln)]; exact ⟨zSl, zSl, [], rfl, zMsg_ok _, rfl⟩)
              | (rw [decode_bad3 hx ke kb]; exact ⟨zSl, zSl, [], rfl, zMsg_ok _, rfl⟩)
          ·
            refine c_skip ?_
            refine hK22 _ _ _ ?_
            clear hK22 K22
            refine c_seq (fun K27 hK27 => ?_)
            refine c_region ?_
            refine r_y rfl rfl (y_load_a (cs := encMsg ({ (rmsg0 ⟨s0, l, false⟩).1 with mod := (rmod (rmsg0 ⟨s0, l, false⟩).2).1.1 }) sa zSl) rfl ts35 (RdA.blk (i := 1) rfl rfl)) ?_
            refine r_s rfl ?_
            refine s_store (us := encMsg ({ (rmsg0 ⟨s0, l, false⟩).1 with mod := (rmod (rmsg0 ⟨s0, l, false⟩).2).1.1 }) sa zSl) rfl rfl rfl ts35 rfl rfl (one_msg _ _ _) (i := 2) rfl rfl ?_
            refine r_y rfl rfl (y_assign rfl) ?_
            refine r_nil ?_
            refine hK27 _ _ _ ?_
            clear hK27 K27
            refine c_ret ?_
            refine e_ret 3 hm (res2 (r1_cell_a rfl ts35 (RdA.blk (i := 2) rfl rfl)) (r1_tmp rfl)) ?_
            have hx := rmsg_1 (q := ⟨s0, l, false⟩) k1
            have hql := (rmod_suf (rmsg0_suf (q := ⟨s0, l, false⟩) (Suf.start s0 l))).1
            have hln := Fz.lenB hz
            rw [decode_ok3 hx ke hodd (at_ok hat hql hln) kb]
            exact ⟨sa, zSl, [], rfl, ⟨hza, hsa, fzR_nil _, rfl⟩, rfl⟩
  ·
    refine c_seq (fun K28 hK28 => ?_)
    refine c_region ?_
    refine r_y rfl rfl (y_iop rfl rfl rfl) ?_
    refine r_y rfl rfl (y_assign rfl) ?_
    refine r_nil ?_
    refine hK28 _ _ _ ?_
    clear hK28 K28
    refine c_cond rfl (fun k6 => ?_) (fun k6 => ?_)
    ·
      refine c_region ?_
      refine r_y rfl rfl (y_move rfl) ?_
      refine r_s rfl ?_
      refine s_call0 rfl Try.call57 rfl (eget_w r s l ((rmsg0 ⟨s0, l, false⟩).2) 1 _ _ hz (rmsg0_suf (q := ⟨s0, l, false⟩) (Suf.start s0 l)) hL (by decide)) ?_
      rintro _ m2 _ hm2 ⟨rfl, rfl⟩
      replace hm := hm.trans hm2
      replace hz := hz.mono hm2
      clear hm2
      refine r_y rfl rfl (y_conv_wi rfl un25 un24) ?_
      refine r_y rfl rfl (y_fieldAddr rfl At.lit fo35_2 rfl) ?_
      refine r_s rfl ?_
      refine s_store rfl rfl rfl ts24 rfl rfl (by simp [Value.oneCell', wv, Sl.v]) (i := 1) rfl rfl ?_
      refine r_nil ?_
      refine hK6 _ _ _ ?_
      clear hK6 K6
      refine c_seq (fun K29 hK29 => ?_)
      refine c_seq (fun K30 hK30 => ?_)
      refine c_region ?_
      refine r_y rfl rfl (y_move rfl) ?_
      refine r_y rfl rfl (y_nilCheck rfl) ?_
      refine r_y rfl rfl (y_fieldAddr rfl At.lit fo106_2 rfl) ?_
      refine r_y rfl rfl (y_load_s rfl ts4 (RdS.blk (i := 0) rfl rfl)) ?_
      refine r_nil ?_
      refine hK30 _ _ _ ?_
      clear hK30 K30
      refine c_cond rfl (fun ke => ?_) (fun ke => ?_)
      ·
        refine c_seq (fun K31 hK31 => ?_)
        refine c_region ?_
        refine r_y rfl rfl (y_bld rfl tz35 fk35 bp35_ rfl rfl) ?_
        refine r_s rfl ?_
        refine s_store (us := encMsg zMsg zSl zSl) rfl rfl rfl ts35 rfl rfl (one_msg _ _ _) (i := 2) rfl rfl ?_
        refine r_y rfl rfl (y_assign rfl) ?_
        refine r_nil ?_
        refine hK31 _ _ _ ?_
        clear hK31 K31
        refine c_ret ?_
        refine e_ret 3 hm (res2 (r1_cell_a rfl ts35 (RdA.blk (i := 2) rfl rfl)) (r1_tmp rfl)) ?_
        have hx := rmsg_6 (q := ⟨s0, l, false⟩) k1 k6
        rw [decode_short hx ke]
        exact ⟨zSl, zSl, [], rfl, zMsg_ok _, rfl⟩
      ·
        refine c_skip ?_
        refine hK29 _ _ _ ?_
        clear hK29 K29
        refine c_seq (fun K32 hK32 => ?_)
        refine c_seq (fun K33 hK33 => ?_)
        refine c_region ?_
        refine r_y rfl rfl (y_move rfl) ?_
        refine r_y rfl rfl (y_move rfl) ?_
        refine r_yg rfl rfl rfl (y_move rfl) ?_
        refine r_yg rfl rfl rfl (y_nilCheck rfl) ?_
        refine r_yg rfl rfl rfl (y_fieldAddr rfl At.lit fo106_1 rfl) ?_
        refine r_yg rfl rfl rfl (y_load_s rfl ts3 (RdS.blk (i := 0) rfl rfl)) ?_
        refine r_yg rfl rfl rfl (y_move rfl) ?_
        refine r_yg rfl rfl rfl (y_len tl22 rfl) ?_
        refine r_yg rfl rfl rfl (y_iop rfl rfl rfl) ?_
        refine r_y rfl rfl (y_pickf rfl rfl rfl) ?_
        refine r_y rfl rfl (y_move rfl) ?_
        refine r_split (j := 10) rfl (fun hat => ?_) (fun hat => ?_)
        ·
          refine r_no' rfl rfl hat ?_
          refine r_no' rfl rfl hat ?_
          refine r_no' rfl rfl hat ?_
          refine r_y rfl rfl (y_pickt rfl hat rfl) ?_
          refine r_nil ?_
          refine hK33 _ _ _ ?_
          clear hK33 K33
          refine c_ift rfl rfl ?_
          refine c_seq (fun K34 hK34 => ?_)
          refine c_region ?_
          refine r_y rfl rfl (y_bld rfl tz35 fk35 bp35_ rfl rfl) ?_
          refine r_s rfl ?_
          refine s_store (us := encMsg zMsg zSl zSl) rfl rfl rfl ts35 rfl rfl (one_msg _ _ _) (i := 2) rfl rfl ?_
          refine r_y rfl rfl (y_assign rfl) ?_
          refine r_nil ?_
          refine hK34 _ _ _ ?_
          clear hK34 K34
          refine c_ret ?_
          refine e_ret 3 hm (res2 (r1_cell_a rfl ts35 (RdA.blk (i := 2) rfl rfl)) (r1_tmp rfl)) ?_
          have hx := rmsg_6 (q := ⟨s0, l, false⟩) k1 k6
          have hql := (rint_suf (k := 1) (rmsg0_suf (q := ⟨s0, l, false⟩) (Suf.start s0 l))).1
          have hln := Fz.lenB hz
          first
            | (rw [decode_bad1 hx ke hodd]; exact ⟨zSl, zSl, [], rfl, zMsg_ok _, rfl⟩)
            | (rw [decode_bad2 hx ke (at_bad hat hql hln)]; exact ⟨zSl, zSl, [], rfl, zMsg_ok _, rfl⟩)
            | (rw [decode_bad3 hx ke kb]; exact ⟨zSl, zSl, [], rfl, zMsg_ok _, rfl⟩)
        ·
          refine r_yg rfl hat rfl (y_load_a (cs := encMsg ({ (rmsg0 ⟨s0, l, false⟩).1 with e := (rint 1 (rmsg0 ⟨s0, l, false⟩).2).1 }) zSl zSl) rfl ts35 (RdA.blk (i := 1) rfl rfl)) ?_
          refine r_sg rfl hat ?_
          refine s_call0 rfl Try.call24 rfl (rMsg_w' ({ (rmsg0 ⟨s0, l, false⟩).1 with e := (rint 1 (rmsg0 ⟨s0, l, false⟩).2).1 }) zSl zSl [] _ _ ⟨fzA_nil _, fun _ => rfl, fzR_nil _, rfl⟩ (Nat.zero_le _)) ?_
          rintro _ m2 _ hm2 ⟨rfl, rfl⟩
          replace hm := hm.trans hm2
          replace hz := hz.mono hm2
          clear hm2
          refine r_yg rfl hat rfl (y_not rfl) ?_
          refine r_y rfl rfl (y_pickf rfl hat rfl) ?_
          refine r_nil ?_
          refine hK33 _ _ _ ?_
          clear hK33 K33
          refine c_cond rfl (fun kb => ?_) (fun kb => ?_)
          ·
            refine c_seq (fun K35 hK35 => ?_)
            refine c_region ?_
            refine r_y rfl rfl (y_bld rfl tz35 fk35 bp35_ rfl rfl) ?_
            refine r_s rfl ?_
            refine s_store (us := encMsg zMsg zSl zSl) rfl rfl rfl ts35 rfl rfl (one_msg _ _ _) (i := 2) rfl rfl ?_
            refine r_y rfl rfl (y_assign rfl) ?_
            refine r_nil ?_
            refine hK35 _ _ _ ?_
            clear hK35 K35
            refine c_ret ?_
            refine e_ret 3 hm (res2 (r1_cell_a rfl ts35 (RdA.blk (i := 2) rfl rfl)) (r1_tmp rfl)) ?_
            have hx := rmsg_6 (q := ⟨s0, l, false⟩) k1 k6
            have hql := (rint_suf (k := 1) (rmsg0_suf (q := ⟨s0, l, false⟩) (Suf.start s0 l))).1
            have hln := Fz.lenB hz
            first
              | (rw [decode_bad1 hx ke hodd]; exact ⟨zSl, zSl, [], rfl, zMsg_ok _, rfl⟩)
              | (rw [decode_bad2 hx ke (at_bad hat hql hln)]; exact ⟨zSl, zSl, [], rfl, zMsg_ok _, rfl⟩)
              | (rw [decode_bad3 hx ke kb]; exact ⟨zSl, zSl, [], rfl, zMsg_ok _, rfl⟩)
          ·
            refine c_skip ?_
            refine hK32 _ _ _ ?_
            clear hK32 K32
            refine c_seq (fun K36 hK36 => ?_)
            refine c_region ?_
            refine r_y rfl rfl (y_load_a (cs := encMsg ({ (rmsg0 ⟨s0, l, false⟩).1 with e := (rint 1 (rmsg0 ⟨s0, l, false⟩).2).1 }) zSl zSl) rfl ts35 (RdA.blk (i := 1) rfl rfl)) ?_
            refine r_s rfl ?_
            refine s_store (us := encMsg ({ (rmsg0 ⟨s0, l, false⟩).1 with e := (rint 1 (rmsg0 ⟨s0, l, false⟩).2).1 }) zSl zSl) rfl rfl rfl ts35 rfl rfl (one_msg _ _ _) (i := 2) rfl rfl ?_
            refine r_y rfl rfl (y_assign rfl) ?_
            refine r_nil ?_
            refine hK36 _ _ _ ?_
            clear hK36 K36
            refine c_ret ?_
            refine e_ret 3 hm (res2 (r1_cell_a rfl ts35 (RdA.blk (i := 2) rfl rfl)) (r1_tmp rfl)) ?_
            have hx := rmsg_6 (q := ⟨s0, l, false⟩) k1 k6
            have hql := (rint_suf (k := 1) (rmsg0_suf (q := ⟨s0, l, false⟩) (Suf.start s0 l))).1
            have hln := Fz.lenB hz
            rw [decode_ok3 hx ke rfl (at_ok hat hql hln) kb]
            exact ⟨zSl, zSl, [], rfl, ⟨fzA_nil _, fun _ => rfl, fzR_nil _, rfl⟩, rfl⟩
    ·
      refine c_seq (fun K37 hK37 => ?_)
      refine c_region ?_
      refine r_y rfl rfl (y_iop rfl rfl rfl) ?_
      refine r_y rfl rfl (y_assign rfl) ?_
      refine r_nil ?_
      refine hK37 _ _ _ ?_
      clear hK37 K37
      refine c_cond rfl (fun k8 => ?_) (fun k8 => ?_)
      ·
        refine c_seq (fun K38 hK38 => ?_)
        refine c_region ?_
        refine r_y rfl rfl (y_move rfl) ?_
        refine r_s rfl ?_
        refine s_call0 rfl Try.call57 rfl (eget_w r s l ((rmsg0 ⟨s0, l, false⟩).2) 1 _ _ hz (rmsg0_suf (q := ⟨s0, l, false⟩) (Suf.start s0 l)) hL (by decide)) ?_
        rintro _ m2 _ hm2 ⟨rfl, rfl⟩
        replace hm := hm.trans hm2
        replace hz := hz.mono hm2
        clear hm2
        refine r_y rfl rfl (y_conv_wi rfl un25 un3) ?_
        refine r_y rfl rfl (y_fieldAddr rfl At.lit fo35_4 rfl) ?_
        refine r_s rfl ?_
        refine s_store rfl rfl rfl ts3 rfl rfl (by simp [Value.oneCell', wv, Sl.v]) (i := 1) rfl rfl ?_
        refine r_nil ?_
        refine hK38 _ _ _ ?_
        clear hK38 K38
        refine c_region ?_
        refine r_y rfl rfl (y_move rfl) ?_
        refine r_s rfl ?_
        refine s_call0 rfl Try.call58 rfl (ehead_w r s l ((rget 1 ((rmsg0 ⟨s0, l, false⟩).2)).2) _ _ hz (rget_suf (rmsg0_suf (q := ⟨s0, l, false⟩) (Suf.start s0 l))) hL) ?_
        rintro _ m2 _ hm2 ⟨rfl, rfl⟩
        replace hm := hm.trans hm2
        replace hz := hz.mono hm2
        clear hm2
        refine r_y rfl rfl (y_fieldAddr rfl At.lit fo35_5 rfl) ?_
        refine r_s rfl ?_
        refine s_store (us := encHead (rhead ((rget 1 ((rmsg0 ⟨s0, l, false⟩).2)).2)).1) rfl rfl rfl ts27 rfl rfl (one_head _) (i := 1) rfl rfl ?_
        refine r_nil ?_
        refine hK6 _ _ _ ?_
        clear hK6 K6
        refine c_seq (fun K39 hK39 => ?_)
        refine c_seq (fun K40 hK40 => ?_)
        refine c_region ?_
        refine r_y rfl rfl (y_move rfl) ?_
        refine r_y rfl rfl (y_nilCheck rfl) ?_
        refine r_y rfl rfl (y_fieldAddr rfl At.lit fo106_2 rfl) ?_
        refine r_y rfl rfl (y_load_s rfl ts4 (RdS.blk (i := 0) rfl rfl)) ?_
        refine r_nil ?_
        refine hK40 _ _ _ ?_
        clear hK40 K40
        refine c_cond rfl (fun ke => ?_) (fun ke => ?_)
        ·
          refine c_seq (fun K41 hK41 => ?_)
          refine c_region ?_
          refine r_y rfl rfl (y_bld rfl tz35 fk35 bp35_ rfl rfl) ?_
          refine r_s rfl ?_
          refine s_store (us := encMsg zMsg zSl zSl) rfl rfl rfl ts35 rfl rfl (one_msg _ _ _) (i := 2) rfl rfl ?_
          refine r_y rfl rfl (y_assign rfl) ?_
          refine r_nil ?_
          refine hK41 _ _ _ ?_
          clear hK41 K41
          refine c_ret ?_
          refine e_ret 3 hm (res2 (r1_cell_a rfl ts35 (RdA.blk (i := 2) rfl rfl)) (r1_tmp rfl)) ?_
          have hx := rmsg_8 (q := ⟨s0, l, false⟩) k1 k6 k8
          rw [decode_short hx ke]
          exact ⟨zSl, zSl, [], rfl, zMsg_ok _, rfl⟩
        ·
          refine c_skip ?_
          refine hK39 _ _ _ ?_
          clear hK39 K39
          refine c_seq (fun K42 hK42 => ?_)
          refine c_seq (fun K43 hK43 => ?_)
          refine c_region ?_
          refine r_y rfl rfl (y_move rfl) ?_
          refine r_y rfl rfl (y_move rfl) ?_
          refine r_yg rfl rfl rfl (y_move rfl) ?_
          refine r_yg rfl rfl rfl (y_nilCheck rfl) ?_
          refine r_yg rfl rfl rfl (y_fieldAddr rfl At.lit fo106_1 rfl) ?_
          refine r_yg rfl rfl rfl (y_load_s rfl ts3 (RdS.blk (i := 0) rfl rfl)) ?_
          refine r_yg rfl rfl rfl (y_move rfl) ?_
          refine r_yg rfl rfl rfl (y_len tl22 rfl) ?_
          refine r_yg rfl rfl rfl (y_iop rfl rfl rfl) ?_
          refine r_y rfl rfl (y_pickf rfl rfl rfl) ?_
          refine r_y rfl rfl (y_move rfl) ?_
          refine r_split (j := 10) rfl (fun hat => ?_) (fun hat => ?_)
          ·
            refine r_no' rfl rfl hat ?_
            refine r_no' rfl rfl hat ?_
            refine r_no' rfl rfl hat ?_
            refine r_y rfl rfl (y_pickt rfl hat rfl) ?_
            refine r_nil ?_
            refine hK43 _ _ _ ?_
            clear hK43 K43
            refine c_ift rfl rfl ?_
            refine c_seq (fun K44 hK44 => ?_)
            refine c_region ?_
            refine r_y rfl rfl (y_bld rfl tz35 fk35 bp35_ rfl rfl) ?_
            refine r_s rfl ?_
            refine s_store (us := encMsg zMsg zSl zSl) rfl rfl rfl ts35 rfl rfl (one_msg _ _ _) (i := 2) rfl rfl ?_
            refine r_y rfl rfl (y_assign rfl) ?_
            refine r_nil ?_
            refine hK44 _ _ _ ?_
            clear hK44 K44
            refine c_ret ?_
            refine e_ret 3 hm (res2 (r1_cell_a rfl ts35 (RdA.blk (i := 2) rfl rfl)) (r1_tmp rfl)) ?_
            have hx := rmsg_8 (q := ⟨s0, l, false⟩) k1 k6 k8
            have hql := (rhead_suf (rint_suf (k := 1) (rmsg0_suf (q := ⟨s0, l, false⟩) (Suf.start s0 l)))).1
            have hln := Fz.lenB hz
            first
              | (rw [decode_bad1 hx ke hodd]; exact ⟨zSl, zSl, [], rfl, zMsg_ok _, rfl⟩)
              | (rw [decode_bad2 hx ke (at_bad hat hql hln)]; exact ⟨zSl, zSl, [], rfl, zMsg_ok _, rfl⟩)
              | (rw [decode_bad3 hx ke kb]; exact ⟨zSl, zSl, [], rfl, zMsg_ok _, rfl⟩)
          ·
            refine r_yg rfl hat rfl (y_load_a (cs := encMsg ({ (rmsg0 ⟨s0, l, false⟩).1 with port := (rint 1 (rmsg0 ⟨s0, l, false⟩).2).1, head := (rhead (rint 1 (rmsg0 ⟨s0, l, false⟩).2).2).1 }) zSl zSl) rfl ts35 (RdA.blk (i := 1) rfl rfl)) ?_
            refine r_sg rfl hat ?_
            refine s_call0 rfl Try.call24 rfl (rMsg_w' ({ (rmsg0 ⟨s0, l, false⟩).1 with port := (rint 1 (rmsg0 ⟨s0, l, false⟩).2).1, head := (rhead (rint 1 (rmsg0 ⟨s0, l, false⟩).2).2).1 }) zSl zSl [] _ _ ⟨fzA_nil _, fun _ => rfl, fzR_nil _, rfl⟩ (Nat.zero_le _)) ?_
            rintro _ m2 _ hm2 ⟨rfl, rfl⟩
            replace hm := hm.trans hm2
            replace hz := hz.mono hm2
            clear hm2
            refine r_yg rfl hat rfl (y_not rfl) ?_
            refine r_y rfl rfl (y_pickf rfl hat rfl) ?_
            refine r_nil ?_
            refine hK43 _ _ _ ?_
            clear hK43 K43
            refine c_cond rfl (fun kb => ?_) (fun kb => ?_)
            ·
              refine c_seq (fun K45 hK45 => ?_)
              refine c_region ?_
              refine r_y rfl rfl (y_bld rfl tz35 fk35 bp35_ rfl rfl) ?_
              refine r_s rfl ?_
              refine s_store (us := encMsg zMsg zSl zSl) rfl rfl rfl ts35 rfl rfl (one_msg _ _ _) (i := 2) rfl rfl ?_
              refine r_y rfl rfl (y_assign rfl) ?_
              refine r_nil ?_
              refine hK45 _ _ _ ?_
              clear hK45 K45
              refine c_ret ?_
              refine e_ret 3 hm (res2 (r1_cell_a rfl ts35 (RdA.blk (i := 2) rfl rfl)) (r1_tmp rfl)) ?_
              have hx := rmsg_8 (q := ⟨s0, l, false⟩) k1 k6 k8
              have hql := (rhead_suf (rint_suf (k := 1) (rmsg0_suf (q := ⟨s0, l, false⟩) (Suf.start s0 l)))).1
              have hln := Fz.lenB hz
              first
                | (rw [decode_bad1 hx ke hodd]; exact ⟨zSl, zSl, [], rfl, zMsg_ok _, rfl⟩)
                | (rw [decode_bad2 hx ke (at_bad hat hql hln)]; exact ⟨zSl, zSl, [], rfl, zMsg_ok _, rfl⟩)
                | (rw [decode_bad3 hx ke kb]; exact ⟨zSl, zSl, [], rfl, zMsg_ok _, rfl⟩)
            ·
              refine c_skip ?_
              refine hK42 _ _ _ ?_
              clear hK42 K42
              refine c_seq (fun K46 hK46 => ?_)
              refine c_region ?_
              refine r_y rfl rfl (y_load_a (cs := encMsg ({ (rmsg0 ⟨s0, l, false⟩).1 with port := (rint 1 (rmsg0 ⟨s0, l, false⟩).2).1, head := (rhead (rint 1 (rmsg0 ⟨s0, l, false⟩).2).2).1 }) zSl zSl) rfl ts35 (RdA.blk (i := 1) rfl rfl)) ?_
              refine r_s rfl ?_
              refine s_store (us := encMsg ({ (rmsg0 ⟨s0, l, false⟩).1 with port := (rint 1 (rmsg0 ⟨s0, l, false⟩).2).1, head := (rhead (rint 1 (rmsg0 ⟨s0, l, false⟩).2).2).1 }) zSl zSl) rfl rfl rfl ts35 rfl rfl (one_msg _ _ _) (i := 2) rfl rfl ?_
              refine r_y rfl rfl (y_assign rfl) ?_
              refine r_nil ?_
              refine hK46 _ _ _ ?_
              clear hK46 K46
              refine c_ret ?_
              refine e_ret 3 hm (res2 (r1_cell_a rfl ts35 (RdA.blk (i := 2) rfl rfl)) (r1_tmp rfl)) ?_
              have hx := rmsg_8 (q := ⟨s0, l, false⟩) k1 k6 k8
              have hql := (rhead_suf (rint_suf (k := 1) (rmsg0_suf (q := ⟨s0, l, false⟩) (Suf.start s0 l)))).1
              have hln := Fz.lenB hz
              rw [decode_ok3 hx ke rfl (at_ok hat hql hln) kb]
              exact ⟨zSl, zSl, [], rfl, ⟨fzA_nil _, fun _ => rfl, fzR_nil _, rfl⟩, rfl⟩
      ·
        refine c_seq (fun K47 hK47 => ?_)
        refine c_seq (fun K48 hK48 => ?_)
        refine c_region ?_
        refine r_y rfl rfl (y_iop rfl rfl rfl) ?_
        refine r_y rfl rfl (y_assign rfl) ?_
        refine r_nil ?_
        refine hK48 _ _ _ ?_
        clear hK48 K48
        refine c_cond rfl (fun k9 => ?_) (fun k9 => ?_)
        ·
          refine c_skip ?_
          refine hK47 _ _ _ ?_
          clear hK47 K47
          refine c_ift rfl k9 ?_
          refine c_seq (fun K49 hK49 => ?_)
          refine c_region ?_
          refine r_y rfl rfl (y_move rfl) ?_
          refine r_s rfl ?_
          refine s_call0 rfl Try.call57 rfl (eget_w r s l ((rmsg0 ⟨s0, l, false⟩).2) 2 _ _ hz (rmsg0_suf (q := ⟨s0, l, false⟩) (Suf.start s0 l)) hL (by decide)) ?_
          rintro _ m2 _ hm2 ⟨rfl, rfl⟩
          replace hm := hm.trans hm2
          replace hz := hz.mono hm2
          clear hm2
          refine r_y rfl rfl (y_conv_wi rfl un25 un3) ?_
          refine r_y rfl rfl (y_assign rfl) ?_
          refine r_nil ?_
          refine hK49 _ _ _ ?_
          clear hK49 K49
          refine c_seq (fun K50 hK50 => ?_)
          refine c_region ?_
          refine r_nilvec 50 32 ?_
          refine r_y rfl rfl (y_assign rfl) ?_
          refine r_nil ?_
          refine hK50 _ _ _ ?_
          clear hK50 K50
          refine c_block ?_
          obtain ⟨n0, hne, hn0⟩ := rint_nat (k := 2) (by decide) (rmsg0 ⟨s0, l, false⟩).2
          have hall : AllA m2 [] := fun p hp => (by cases hp)
          refine c_front 1 rfl ?_
          refine c_loopx (α := Nat × Nat × Rs × List (RuleD × Sl) × Sl) (fun vv => match vv with | (i, n, q1, l1, sv) => [(0, s.v), (2, .pointer (some ⟨b0, 0, none⟩)), (4, .pointer (some ⟨r, 0, none⟩)), (5, .pointer (some ⟨b1, 0, none⟩)), (6, .bool false), (8, .int .i64 (n0 : Nat)), (9, .int .i64 (i : Nat))]) (fun vv => match vv with | (i, n, q1, l1, sv) => eyItem r s l q1 :: .vec sv.a sv.n sv.cap 50 32 (l1.map fun p => encRule p.1 p.2) :: .blk b1 (.cells (encMsg ((rmsg0 ⟨s0, l, false⟩).1) zSl sv).toArray 35) :: .blk b0 (.cells (encMsg zMsg zSl zSl).toArray 35) :: H) (fun k0 vv m1 => match vv with | (i, n, q1, l1, sv) => (n = k0 ∧ i + n = n0 ∧ sv.n = l1.length ∧ n + l1.length < 65536 ∧ rrules (rmsg0 ⟨s0, l, false⟩).2 = (l1.map (·.1) ++ (rrulesN n q1).1, (rrulesN n q1).2) ∧ Suf l q1) ∧ m.le m1 ∧ (FzB m1 s l) ∧ (AllA m1 l1)) (n0) (0, n0, (rint 2 (rmsg0 ⟨s0, l, false⟩).2).2, [], zSl) ⟨rfl, rfl, rfl, rfl, rfl, (by rw [← hne]; rfl), rfl, trivial⟩ rfl ⟨⟨rfl, by omega, rfl, by simpa using hn0, by simp [rrules, hne], rint_suf (rmsg0_suf (q := ⟨s0, l, false⟩) (Suf.start s0 l))⟩, hm, hz, hall⟩ ?_
          clear hm hz hall
          rintro k0 ⟨i, n, q1, l1, sv⟩ m1 ⟨hi0, hm, hz, hall⟩
          obtain ⟨hi, hin, hsn, hb, hinv, hs⟩ := hi0
          refine c_seq (fun K51 hK51 => ?_)
          refine c_seq (fun K52 hK52 => ?_)
          refine c_region ?_
          refine r_y rfl rfl (y_move rfl) ?_
          refine r_y rfl rfl (y_move rfl) ?_
          refine r_y rfl rfl (y_iop rfl rfl rfl) ?_
          refine r_y rfl rfl (y_move rfl) ?_
          refine r_split (j := 3) rfl (fun hn => ?_) (fun hn => ?_)
          ·
            refine r_yg rfl hn rfl (y_move rfl) ?_
            refine r_yg rfl hn rfl (y_nilCheck rfl) ?_
            refine r_yg rfl hn rfl (y_fieldAddr rfl At.lit fo106_2 rfl) ?_
            refine r_yg rfl hn rfl (y_load_s rfl ts4 (RdS.blk (i := 0) rfl rfl)) ?_
            refine r_yg rfl hn rfl (y_not rfl) ?_
            refine r_y rfl rfl (y_pickt rfl hn rfl) ?_
            refine r_nil ?_
            refine hK52 _ _ _ ?_
            clear hK52 K52
            refine c_cond rfl (fun hke => ?_) (fun hke => ?_)
            ·
              refine c_skip ?_
              refine hK51 _ _ _ ?_
              clear hK51 K51
              refine c_seq (fun K53 hK53 => ?_)
              refine c_block ?_
              refine c_seq (fun K54 hK54 => ?_)
              refine c_region ?_
              refine r_s rfl ?_
              refine s_alloc rfl tz50 (fun b2 => ?_)
              refine r_nil ?_
              refine hK54 _ _ _ ?_
              clear hK54 K54
              refine c_seq (fun K55 hK55 => ?_)
              refine c_region ?_
              refine r_y rfl rfl (y_move rfl) ?_
              refine r_front 1 rfl ?_
              refine r_s rfl ?_
              refine s_call0 rfl Try.call58 rfl (ehead_w r s l (q1) _ _ hz (hs) hL) ?_
              rintro _ m2 _ hm2 ⟨rfl, rfl⟩
              replace hm := hm.trans hm2
              replace hz := hz.mono hm2
              replace hall := hall.mono hm2
              clear hm2
              refine r_y rfl rfl (y_fieldAddr rfl At.lit fo50_0 rfl) ?_
              refine r_y rfl rfl (y_fieldAddr rfl At.lit fo29_0 rfl) ?_
              refine r_s rfl ?_
              refine s_store (us := encHead (rhead (q1)).1) rfl rfl rfl ts27 rfl rfl (one_head _) (i := 1) rfl rfl ?_
              refine r_nil ?_
              refine hK55 _ _ _ ?_
              clear hK55 K55
              refine c_seq (fun K56 hK56 => ?_)
              refine c_region ?_
              refine r_y rfl rfl (y_move rfl) ?_
              refine r_s rfl ?_
              refine s_call0 rfl Try.call58 rfl (ehead_w r s l ((rhead (q1)).2) _ _ hz (rhead_suf (hs)) hL) ?_
              rintro _ m2 _ hm2 ⟨rfl, rfl⟩
              replace hm := hm.trans hm2
              replace hz := hz.mono hm2
              replace hall := hall.mono hm2
              clear hm2
              refine r_y rfl rfl (y_fieldAddr rfl At.lit fo50_0 rfl) ?_
              refine r_y rfl rfl (y_fieldAddr rfl At.lit fo29_1 rfl) ?_
              refine r_s rfl ?_
              refine s_store (us := encHead (rhead ((rhead (q1)).2)).1) rfl rfl rfl ts27 rfl rfl (one_head _) (i := 1) rfl rfl ?_
              refine r_nil ?_
              refine hK56 _ _ _ ?_
              clear hK56 K56
              refine c_seq (fun K57 hK57 => ?_)
              refine c_region ?_
              refine r_y rfl rfl (y_move rfl) ?_
              refine r_s rfl ?_
              refine s_call0 rfl Try.call57 rfl (eget_w r s l ((rhead ((rhead (q1)).2)).2) 2 _ _ hz (rhead_suf (rhead_suf (hs))) hL (by decide)) ?_
              rintro _ m2 _ hm2 ⟨rfl, rfl⟩
              replace hm := hm.trans hm2
              replace hz := hz.mono hm2
              replace hall := hall.mono hm2
              clear hm2
              refine r_y rfl rfl (y_conv_wi rfl un25 un3) ?_
              refine r_y rfl rfl (y_fieldAddr rfl At.lit fo50_1 rfl) ?_
              refine r_s rfl ?_
              refine s_store rfl rfl rfl ts3 rfl rfl (by simp [Value.oneCell', wv, Sl.v]) (i := 1) rfl rfl ?_
              refine r_nil ?_
              refine hK57 _ _ _ ?_
              clear hK57 K57
              refine c_seq (fun K58 hK58 => ?_)
              refine c_region ?_
              refine r_y rfl rfl (y_move rfl) ?_
              refine r_s rfl ?_
              refine s_call0 rfl Try.call57 rfl (eget_w r s l ((rget 2 ((rhead ((rhead (q1)).2)).2)).2) 4 _ _ hz (rget_suf (rhead_suf (rhead_suf (hs)))) hL (by decide)) ?_
              rintro _ m2 _ hm2 ⟨rfl, rfl⟩
              replace hm := hm.trans hm2
              replace hz := hz.mono hm2
              replace hall := hall.mono hm2
              clear hm2
              refine r_y rfl rfl (y_conv_wi rfl un25 un3) ?_
              refine r_y rfl rfl (y_fieldAddr rfl At.lit fo50_3 rfl) ?_
              refine r_s rfl ?_
              refine s_store rfl rfl rfl ts3 rfl rfl (by simp [Value.oneCell', wv, Sl.v]) (i := 1) rfl rfl ?_
              refine r_nil ?_
              refine hK58 _ _ _ ?_
              clear hK58 K58
              refine c_seq (fun K59 hK59 => ?_)
              refine c_region ?_
              refine r_y rfl rfl (y_move rfl) ?_
              refine r_s rfl ?_
              refine s_call0 rfl Try.call57 rfl (eget_w r s l ((rget 4 ((rget 2 ((rhead ((rhead (q1)).2)).2)).2)).2) 4 _ _ hz (rget_suf (rget_suf (rhead_suf (rhead_suf (hs))))) hL (by decide)) ?_
              rintro _ m2 _ hm2 ⟨rfl, rfl⟩
              replace hm := hm.trans hm2
              replace hz := hz.mono hm2
              replace hall := hall.mono hm2
              clear hm2
              refine r_y rfl rfl (y_conv_wi rfl un25 un3) ?_
              refine r_y rfl rfl (y_fieldAddr rfl At.lit fo50_4 rfl) ?_
              refine r_s rfl ?_
              refine s_store rfl rfl rfl ts3 rfl rfl (by simp [Value.oneCell', wv, Sl.v]) (i := 1) rfl rfl ?_
              refine r_nil ?_
              refine hK59 _ _ _ ?_
              clear hK59 K59
              refine c_seq (fun K60 hK60 => ?_)
              refine c_region ?_
              refine r_y rfl rfl (y_move rfl) ?_
              refine r_s rfl ?_
              refine s_call0 rfl Try.call57 rfl (eget_w r s l ((rget 4 ((rget 4 ((rget 2 ((rhead ((rhead (q1)).2)).2)).2)).2)).2) 1 _ _ hz (rget_suf (rget_suf (rget_suf (rhead_suf (rhead_suf (hs)))))) hL (by decide)) ?_
              rintro _ m2 _ hm2 ⟨rfl, rfl⟩
              replace hm := hm.trans hm2
              replace hz := hz.mono hm2
              replace hall := hall.mono hm2
              clear hm2
              refine r_y rfl rfl (y_conv_wi rfl un25 un3) ?_
              refine r_y rfl rfl (y_fieldAddr rfl At.lit fo50_5 rfl) ?_
              refine r_s rfl ?_
              refine s_store rfl rfl rfl ts3 rfl rfl (by simp [Value.oneCell', wv, Sl.v]) (i := 1) rfl rfl ?_
              refine r_nil ?_
              refine hK60 _ _ _ ?_
              clear hK60 K60
              refine c_seq (fun K61 hK61 => ?_)
              refine c_region ?_
              refine r_y rfl rfl (y_move rfl) ?_
              refine r_s rfl ?_
              refine s_call0 rfl Try.call57 rfl (eget_w r s l ((rget 1 ((rget 4 ((rget 4 ((rget 2 ((rhead ((rhead (q1)).2)).2)).2)).2)).2)).2) 8 _ _ hz (rget_suf (rget_suf (rget_suf (rget_suf (rhead_suf (rhead_suf (hs))))))) hL (by decide)) ?_
              rintro _ m2 _ hm2 ⟨rfl, rfl⟩
              replace hm := hm.trans hm2
              replace hz := hz.mono hm2
              replace hall := hall.mono hm2
              clear hm2
              refine r_y rfl rfl (y_conv_wi rfl un25 un3) ?_
              refine r_y rfl rfl (y_fieldAddr rfl At.lit fo50_6 rfl) ?_
              refine r_s rfl ?_
              refine s_store rfl rfl rfl ts3 rfl rfl (by simp [Value.oneCell', wv, Sl.v]) (i := 1) rfl rfl ?_
              refine r_nil ?_
              refine hK61 _ _ _ ?_
              clear hK61 K61
              refine c_seq (fun K62 hK62 => ?_)
              refine c_region ?_
              refine r_y rfl rfl (y_move rfl) ?_
              refine r_s rfl ?_
              refine s_call0 rfl Try.call57 rfl (eget_w r s l ((rget 8 ((rget 1 ((rget 4 ((rget 4 ((rget 2 ((rhead ((rhead (q1)).2)).2)).2)).2)).2)).2)).2) 8 _ _ hz (rget_suf (rget_suf (rget_suf (rget_suf (rget_suf (rhead_suf (rhead_suf (hs)))))))) hL (by decide)) ?_
              rintro _ m2 _ hm2 ⟨rfl, rfl⟩
              replace hm := hm.trans hm2
              replace hz := hz.mono hm2
              replace hall := hall.mono hm2
              clear hm2
              refine r_y rfl rfl (y_conv_wi rfl un25 un3) ?_
              refine r_y rfl rfl (y_fieldAddr rfl At.lit fo50_7 rfl) ?_
              refine r_s rfl ?_
              refine s_store rfl rfl rfl ts3 rfl rfl (by simp [Value.oneCell', wv, Sl.v]) (i := 1) rfl rfl ?_
              refine r_nil ?_
              refine hK62 _ _ _ ?_
              clear hK62 K62
              refine c_seq (fun K63 hK63 => ?_)
              refine c_region ?_
              refine r_y rfl rfl (y_move rfl) ?_
              refine r_s rfl ?_
              refine s_call0 rfl Try.call57 rfl (eget_w r s l ((rget 8 ((rget 8 ((rget 1 ((rget 4 ((rget 4 ((rget 2 ((rhead ((rhead (q1)).2)).2)).2)).2)).2)).2)).2)).2) 8 _ _ hz (rget_suf (rget_suf (rget_suf (rget_suf (rget_suf (rget_suf (rhead_suf (rhead_suf (hs))))))))) hL (by decide)) ?_
              rintro _ m2 _ hm2 ⟨rfl, rfl⟩
              replace hm := hm.trans hm2
              replace hz := hz.mono hm2
              replace hall := hall.mono hm2
              clear hm2
              refine r_y rfl rfl (y_conv_wi rfl un25 un3) ?_
              refine r_y rfl rfl (y_fieldAddr rfl At.lit fo50_8 rfl) ?_
              refine r_s rfl ?_
              refine s_store rfl rfl rfl ts3 rfl rfl (by simp [Value.oneCell', wv, Sl.v]) (i := 1) rfl rfl ?_
              refine r_nil ?_
              refine hK63 _ _ _ ?_
              clear hK63 K63
              refine c_seq (fun K64 hK64 => ?_)
              refine c_region ?_
              refine r_y rfl rfl (y_move rfl) ?_
              refine r_s rfl ?_
              refine s_call0 rfl Try.call59 rfl (eacts_w r s l ((rrule0 q1).2) _ _ hz (rrule0_suf hs) hL) ?_
              rintro _ m2 _ hm2 ⟨sa, rfl, hza, hsa, rfl⟩
              replace hm := hm.trans hm2
              replace hz := hz.mono hm2
              replace hall := hall.mono hm2
              clear hm2
              refine r_y rfl rfl (y_fieldAddr rfl At.lit fo50_2 rfl) ?_
              refine r_s rfl ?_
              refine s_store rfl rfl rfl ts30 rfl rfl (by simp [Value.oneCell', wv, Sl.v]) (i := 1) rfl rfl ?_
              refine r_nil ?_
              refine hK64 _ _ _ ?_
              clear hK64 K64
              refine c_region ?_
              refine r_y rfl rfl (y_fieldAddr rfl At.lit fo35_6 rfl) ?_
              refine r_y rfl rfl (y_load_s rfl ts33 (RdS.blk (i := 3) rfl rfl)) ?_
              refine r_y rfl rfl (y_load_a (cs := encRule (rrule q1).1 sa) rfl ts50 (RdA.blk (i := 1) rfl rfl)) ?_
              refine r_s rfl ?_
              refine s_buildSlice (cs := (encRule (rrule q1).1 sa)) (e := 50) rfl rfl (fun _ => by kernel_rfl) (fun b3 => ?_)
              refine r_s rfl ?_
              refine s_append rfl rfl rfl tl33 zo50 tb50 (i := 3) rfl (Src.one' (i := 0) rfl rfl (one_rule _ _)) (by omega) (by unfold maxLen; omega) (fun a1 c1 => ?_)
              refine r_del 0 rfl ?_
              refine r_y rfl rfl (y_fieldAddr rfl At.lit fo35_6 rfl) ?_
              refine r_s rfl ?_
              refine s_store rfl rfl rfl ts33 rfl rfl (by simp [Value.oneCell', wv, Sl.v]) (i := 3) rfl rfl ?_
              refine r_nil ?_
              refine hK53 _ _ _ ?_
              clear hK53 K53
              refine c_region ?_
              refine r_del 1 rfl ?_
              refine r_y rfl rfl (y_move rfl) ?_
              first | refine r_y rfl rfl (y_inc rfl (by omega)) ?_ | refine r_y rfl rfl (y_iop rfl rfl rfl) ?_
              refine r_y rfl rfl (y_assign rfl) ?_
              refine r_nil ?_
              obtain ⟨n, rfl⟩ : ∃ j, n = j + 1 := ⟨n - 1, by simp at hn; omega⟩
              replace hall := hall.snoc (x := (rrule q1).1) hza hsa
              exact ⟨k0 - 1, (i + 1, n, (rrule q1).2, l1 ++ [((rrule q1).1, sa)], ⟨a1, sv.n + 1, c1⟩), by omega, ⟨rfl, rfl, rfl, rfl, rfl, rfl, rfl, trivial⟩, (by simp only [List.map_append]; rfl), ⟨by omega, by omega, by simp [hsn], by simp; omega, by rw [hinv, rrulesN_succ (by simpa using hke)]; simp, rrule_suf hs⟩, hm, hz, hall⟩
            ·
              refine c_exit ?_
              refine hK6 _ _ _ ?_
              clear hK51 K51 hK6 K6
              refine c_seq (fun K65 hK65 => ?_)
              refine c_seq (fun K66 hK66 => ?_)
              refine c_region ?_
              refine r_freezeVec (i := 1) rfl rfl (fun m3 hm3 hzr hnil => ?_)
              replace hm := hm.trans hm3
              replace hz := hz.mono hm3
              replace hall := hall.mono hm3
              clear hm3
              refine r_y rfl rfl (y_move rfl) ?_
              refine r_y rfl rfl (y_nilCheck rfl) ?_
              refine r_y rfl rfl (y_fieldAddr rfl At.lit fo106_2 rfl) ?_
              refine r_y rfl rfl (y_load_s rfl ts4 (RdS.blk (i := 0) rfl rfl)) ?_
              refine r_nil ?_
              refine hK66 _ _ _ ?_
              clear hK66 K66
              refine c_cond rfl (fun ke => ?_) (fun ke => ?_)
              ·
                refine c_seq (fun K67 hK67 => ?_)
                refine c_region ?_
                refine r_y rfl rfl (y_bld rfl tz35 fk35 bp35_ rfl rfl) ?_
                refine r_s rfl ?_
                refine s_store (us := encMsg zMsg zSl zSl) rfl rfl rfl ts35 rfl rfl (one_msg _ _ _) (i := 2) rfl rfl ?_
                refine r_y rfl rfl (y_assign rfl) ?_
                refine r_nil ?_
                refine hK67 _ _ _ ?_
                clear hK67 K67
                refine c_ret ?_
                refine e_ret 3 hm (res2 (r1_cell_a rfl ts35 (RdA.blk (i := 2) rfl rfl)) (r1_tmp rfl)) ?_
                have hx := rmsg_9 (q := ⟨s0, l, false⟩) k1 k6 k8 k9
                have hq : rrules (rmsg0 ⟨s0, l, false⟩).2 = (l1.map (·.1), q1) := by
                  rw [hinv]
                  first
                    | (rw [rrulesN_end (by simpa using hke)]; simp; done)
                    | (obtain rfl : n = 0 := by simp at hn; omega
                       simp [rrulesN])
                rw [hq] at hx
                rw [decode_short hx ke]
                exact ⟨zSl, zSl, [], rfl, zMsg_ok _, rfl⟩
              ·
                refine c_skip ?_
                refine hK65 _ _ _ ?_
                clear hK65 K65
                refine c_seq (fun K68 hK68 => ?_)
                refine c_seq (fun K69 hK69 => ?_)
                refine c_region ?_
                refine r_y rfl rfl (y_move rfl) ?_
                refine r_y rfl rfl (y_move rfl) ?_
                refine r_split (j := 1) rfl (fun hodd => ?_) (fun hodd => ?_)
                ·
                  refine r_no' rfl rfl hodd ?_
                  refine r_no' rfl rfl hodd ?_
                  refine r_no' rfl rfl hodd ?_
                  refine r_no' rfl rfl hodd ?_
                  refine r_no' rfl rfl hodd ?_
                  refine r_no' rfl rfl hodd ?_
                  refine r_no' rfl rfl hodd ?_
                  refine r_y rfl rfl (y_pickt rfl hodd rfl) ?_
                  refine r_y rfl rfl (y_move rfl) ?_
                  refine r_no' rfl rfl rfl ?_
                  refine r_no' rfl rfl rfl ?_
                  refine r_no' rfl rfl rfl ?_
                  refine r_y rfl rfl (y_pickt rfl rfl rfl) ?_
                  refine r_nil ?_
                  refine hK69 _ _ _ ?_
                  clear hK69 K69
                  refine c_ift rfl rfl ?_
                  refine c_seq (fun K70 hK70 => ?_)
                  refine c_region ?_
                  refine r_y rfl rfl (y_bld rfl tz35 fk35 bp35_ rfl rfl) ?_
                  refine r_s rfl ?_
                  refine s_store (us := encMsg zMsg zSl zSl) rfl rfl rfl ts35 rfl rfl (one_msg _ _ _) (i := 2) rfl rfl ?_
                  refine r_y rfl rfl (y_assign rfl) ?_
                  refine r_nil ?_
                  refine hK70 _ _ _ ?_
                  clear hK70 K70
                  refine c_ret ?_
                  refine e_ret 3 hm (res2 (r1_cell_a rfl ts35 (RdA.blk (i := 2) rfl rfl)) (r1_tmp rfl)) ?_
                  have hx := rmsg_9 (q := ⟨s0, l, false⟩) k1 k6 k8 k9
                  have hq : rrules (rmsg0 ⟨s0, l, false⟩).2 = (l1.map (·.1), q1) := by
                    rw [hinv]
                    first
                      | (rw [rrulesN_end (by simpa using hke)]; simp; done)
                      | (obtain rfl : n = 0 := by simp at hn; omega
                         simp [rrulesN])
                  rw [hq] at hx
                  have hql := (hs).1
                  have hln := Fz.lenB hz
                  first
                    | (rw [decode_bad1 hx ke hodd]; exact ⟨zSl, zSl, [], rfl, zMsg_ok _, rfl⟩)
                    | (rw [decode_bad2 hx ke (at_bad hat hql hln)]; exact ⟨zSl, zSl, [], rfl, zMsg_ok _, rfl⟩)
                    | (rw [decode_bad3 hx ke kb]; exact ⟨zSl, zSl, [], rfl, zMsg_ok _, rfl⟩)
                ·
                  refine r_yg rfl hodd rfl (y_move rfl) ?_
                  refine r_yg rfl hodd rfl (y_nilCheck rfl) ?_
                  refine r_yg rfl hodd rfl (y_fieldAddr rfl At.lit fo106_1 rfl) ?_
                  refine r_yg rfl hodd rfl (y_load_s rfl ts3 (RdS.blk (i := 0) rfl rfl)) ?_
                  refine r_yg rfl hodd rfl (y_move rfl) ?_
                  refine r_yg rfl hodd rfl (y_len tl22 rfl) ?_
                  refine r_yg rfl hodd rfl (y_iop rfl rfl rfl) ?_
                  refine r_y rfl rfl (y_pickf rfl hodd rfl) ?_
                  refine r_y rfl rfl (y_move rfl) ?_
                  refine r_split (j := 10) rfl (fun hat => ?_) (fun hat => ?_)
                  ·
                    refine r_no' rfl rfl hat ?_
                    refine r_no' rfl rfl hat ?_
                    refine r_no' rfl rfl hat ?_
                    refine r_y rfl rfl (y_pickt rfl hat rfl) ?_
                    refine r_nil ?_
                    refine hK69 _ _ _ ?_
                    clear hK69 K69
                    refine c_ift rfl rfl ?_
                    refine c_seq (fun K71 hK71 => ?_)
                    refine c_region ?_
                    refine r_y rfl rfl (y_bld rfl tz35 fk35 bp35_ rfl rfl) ?_
                    refine r_s rfl ?_
                    refine s_store (us := encMsg zMsg zSl zSl) rfl rfl rfl ts35 rfl rfl (one_msg _ _ _) (i := 2) rfl rfl ?_
                    refine r_y rfl rfl (y_assign rfl) ?_
                    refine r_nil ?_
                    refine hK71 _ _ _ ?_
                    clear hK71 K71
                    refine c_ret ?_
                    refine e_ret 3 hm (res2 (r1_cell_a rfl ts35 (RdA.blk (i := 2) rfl rfl)) (r1_tmp rfl)) ?_
                    have hx := rmsg_9 (q := ⟨s0, l, false⟩) k1 k6 k8 k9
                    have hq : rrules (rmsg0 ⟨s0, l, false⟩).2 = (l1.map (·.1), q1) := by
                      rw [hinv]
                      first
                        | (rw [rrulesN_end (by simpa using hke)]; simp; done)
                        | (obtain rfl : n = 0 := by simp at hn; omega
                           simp [rrulesN])
                    rw [hq] at hx
                    have hql := (hs).1
                    have hln := Fz.lenB hz
                    first
                      | (rw [decode_bad1 hx ke hodd]; exact ⟨zSl, zSl, [], rfl, zMsg_ok _, rfl⟩)
                      | (rw [decode_bad2 hx ke (at_bad hat hql hln)]; exact ⟨zSl, zSl, [], rfl, zMsg_ok _, rfl⟩)
                      | (rw [decode_bad3 hx ke kb]; exact ⟨zSl, zSl, [], rfl, zMsg_ok _, rfl⟩)
                  ·
                    refine r_yg rfl hat rfl (y_load_a (cs := encMsg ((rmsg0 ⟨s0, l, false⟩).1) zSl sv) rfl ts35 (RdA.blk (i := 1) rfl rfl)) ?_
                    refine r_sg rfl hat ?_
                    refine s_call0 rfl Try.call24 rfl (rMsg_w' ({ (rmsg0 ⟨s0, l, false⟩).1 with rules := l1.map (·.1) }) zSl sv l1 _ _ ⟨fzA_nil _, fun _ => rfl, ⟨hzr, hall⟩, rfl⟩ (by simp; omega)) ?_
                    rintro _ m2 _ hm2 ⟨rfl, rfl⟩
                    replace hm := hm.trans hm2
                    replace hz := hz.mono hm2
                    replace hall := hall.mono hm2
                    replace hzr := hzr.mono hm2
                    clear hm2
                    refine r_yg rfl hat rfl (y_not rfl) ?_
                    refine r_y rfl rfl (y_pickf rfl hat rfl) ?_
                    refine r_nil ?_
                    refine hK69 _ _ _ ?_
                    clear hK69 K69
                    refine c_cond rfl (fun kb => ?_) (fun kb => ?_)
                    ·
                      refine c_seq (fun K72 hK72 => ?_)
                      refine c_region ?_
                      refine r_y rfl rfl (y_bld rfl tz35 fk35 bp35_ rfl rfl) ?_
                      refine r_s rfl ?_
                      refine s_store (us := encMsg zMsg zSl zSl) rfl rfl rfl ts35 rfl rfl (one_msg _ _ _) (i := 2) rfl rfl ?_
                      refine r_y rfl rfl (y_assign rfl) ?_
                      refine r_nil ?_
                      refine hK72 _ _ _ ?_
                      clear hK72 K72
                      refine c_ret ?_
                      refine e_ret 3 hm (res2 (r1_cell_a rfl ts35 (RdA.blk (i := 2) rfl rfl)) (r1_tmp rfl)) ?_
                      have hx := rmsg_9 (q := ⟨s0, l, false⟩) k1 k6 k8 k9
                      have hq : rrules (rmsg0 ⟨s0, l, false⟩).2 = (l1.map (·.1), q1) := by
                        rw [hinv]
                        first
                          | (rw [rrulesN_end (by simpa using hke)]; simp; done)
                          | (obtain rfl : n = 0 := by simp at hn; omega
                             simp [rrulesN])
                      rw [hq] at hx
                      have hql := (hs).1
                      have hln := Fz.lenB hz
                      first
                        | (rw [decode_bad1 hx ke hodd]; exact ⟨zSl, zSl, [], rfl, zMsg_ok _, rfl⟩)
                        | (rw [decode_bad2 hx ke (at_bad hat hql hln)]; exact ⟨zSl, zSl, [], rfl, zMsg_ok _, rfl⟩)
                        | (rw [decode_bad3 hx ke kb]; exact ⟨zSl, zSl, [], rfl, zMsg_ok _, rfl⟩)
                    ·
                      refine c_skip ?_
                      refine hK68 _ _ _ ?_
                      clear hK68 K68
                      refine c_seq (fun K73 hK73 => ?_)
                      refine c_region ?_
                      refine r_y rfl rfl (y_load_a (cs := encMsg ((rmsg0 ⟨s0, l, false⟩).1) zSl sv) rfl ts35 (RdA.blk (i := 1) rfl rfl)) ?_
                      refine r_s rfl ?_
                      refine s_store (us := encMsg ((rmsg0 ⟨s0, l, false⟩).1) zSl sv) rfl rfl rfl ts35 rfl rfl (one_msg _ _ _) (i := 2) rfl rfl ?_
                      refine r_y rfl rfl (y_assign rfl) ?_
                      refine r_nil ?_
                      refine hK73 _ _ _ ?_
                      clear hK73 K73
                      refine c_ret ?_
                      refine e_ret 3 hm (res2 (r1_cell_a rfl ts35 (RdA.blk (i := 2) rfl rfl)) (r1_tmp rfl)) ?_
                      have hx := rmsg_9 (q := ⟨s0, l, false⟩) k1 k6 k8 k9
                      have hq : rrules (rmsg0 ⟨s0, l, false⟩).2 = (l1.map (·.1), q1) := by
                        rw [hinv]
                        first
                          | (rw [rrulesN_end (by simpa using hke)]; simp; done)
                          | (obtain rfl : n = 0 := by simp at hn; omega
                             simp [rrulesN])
                      rw [hq] at hx
                      have hql := (hs).1
                      have hln := Fz.lenB hz
                      rw [decode_ok3 hx ke rfl (at_ok hat hql hln) kb]
                      exact ⟨zSl, sv, l1, rfl, ⟨fzA_nil _, fun _ => rfl, ⟨hzr, hall⟩, rfl⟩, rfl⟩
          ·
            refine r_no' rfl rfl hn ?_
            refine r_no' rfl rfl hn ?_
            refine r_no' rfl rfl hn ?_
            refine r_no' rfl rfl hn ?_
            refine r_no' rfl rfl hn ?_
            refine r_y rfl rfl (y_pickf rfl hn rfl) ?_
            refine r_nil ?_
            refine hK52 _ _ _ ?_
            clear hK52 K52
            refine c_iff rfl rfl ?_
            refine c_exit ?_
            refine hK6 _ _ _ ?_
            clear hK51 K51 hK6 K6
            refine c_seq (fun K74 hK74 => ?_)
            refine c_seq (fun K75 hK75 => ?_)
            refine c_region ?_
            refine r_freezeVec (i := 1) rfl rfl (fun m3 hm3 hzr hnil => ?_)
            replace hm := hm.trans hm3
            replace hz := hz.mono hm3
            replace hall := hall.mono hm3
            clear hm3
            refine r_y rfl rfl (y_move rfl) ?_
            refine r_y rfl rfl (y_nilCheck rfl) ?_
            refine r_y rfl rfl (y_fieldAddr rfl At.lit fo106_2 rfl) ?_
            refine r_y rfl rfl (y_load_s rfl ts4 (RdS.blk (i := 0) rfl rfl)) ?_
            refine r_nil ?_
            refine hK75 _ _ _ ?_
            clear hK75 K75
            refine c_cond rfl (fun ke => ?_) (fun ke => ?_)
            ·
              refine c_seq (fun K76 hK76 => ?_)
              refine c_region ?_
              refine r_y rfl rfl (y_bld rfl tz35 fk35 bp35_ rfl rfl) ?_
              refine r_s rfl ?_
              refine s_store (us := encMsg zMsg zSl zSl) rfl rfl rfl ts35 rfl rfl (one_msg _ _ _) (i := 2) rfl rfl ?_
              refine r_y rfl rfl (y_assign rfl) ?_
              refine r_nil ?_
              refine hK76 _ _ _ ?_
              clear hK76 K76
              refine c_ret ?_
              refine e_ret 3 hm (res2 (r1_cell_a rfl ts35 (RdA.blk (i := 2) rfl rfl)) (r1_tmp rfl)) ?_
              have hx := rmsg_9 (q := ⟨s0, l, false⟩) k1 k6 k8 k9
              have hq : rrules (rmsg0 ⟨s0, l, false⟩).2 = (l1.map (·.1), q1) := by
                rw [hinv]
                first
                  | (rw [rrulesN_end (by simpa using hke)]; simp; done)
                  | (obtain rfl : n = 0 := by simp at hn; omega
                     simp [rrulesN])
              rw [hq] at hx
              rw [decode_short hx ke]
              exact ⟨zSl, zSl, [], rfl, zMsg_ok _, rfl⟩
            ·
              refine c_skip ?_
              refine hK74 _ _ _ ?_
              clear hK74 K74
              refine c_seq (fun K77 hK77 => ?_)
              refine c_seq (fun K78 hK78 => ?_)
              refine c_region ?_
              refine r_y rfl rfl (y_move rfl) ?_
              refine r_y rfl rfl (y_move rfl) ?_
              refine r_split (j := 1) rfl (fun hodd => ?_) (fun hodd => ?_)
              ·
                refine r_no' rfl rfl hodd ?_
                refine r_no' rfl rfl hodd ?_
                refine r_no' rfl rfl hodd ?_
                refine r_no' rfl rfl hodd ?_
                refine r_no' rfl rfl hodd ?_
                refine r_no' rfl rfl hodd ?_
                refine r_no' rfl rfl hodd ?_
                refine r_y rfl rfl (y_pickt rfl hodd rfl) ?_
                refine r_y rfl rfl (y_move rfl) ?_
                refine r_no' rfl rfl rfl ?_
                refine r_no' rfl rfl rfl ?_
                refine r_no' rfl rfl rfl ?_
                refine r_y rfl rfl (y_pickt rfl rfl rfl) ?_
                refine r_nil ?_
                refine hK78 _ _ _ ?_
                clear hK78 K78
                refine c_ift rfl rfl ?_
                refine c_seq (fun K79 hK79 => ?_)
                refine c_region ?_
                refine r_y rfl rfl (y_bld rfl tz35 fk35 bp35_ rfl rfl) ?_
                refine r_s rfl ?_
                refine s_store (us := encMsg zMsg zSl zSl) rfl rfl rfl ts35 rfl rfl (one_msg _ _ _) (i := 2) rfl rfl ?_
                refine r_y rfl rfl (y_assign rfl) ?_
                refine r_nil ?_
                refine hK79 _ _ _ ?_
                clear hK79 K79
                refine c_ret ?_
                refine e_ret 3 hm (res2 (r1_cell_a rfl ts35 (RdA.blk (i := 2) rfl rfl)) (r1_tmp rfl)) ?_
                have hx := rmsg_9 (q := ⟨s0, l, false⟩) k1 k6 k8 k9
                have hq : rrules (rmsg0 ⟨s0, l, false⟩).2 = (l1.map (·.1), q1) := by
                  rw [hinv]
                  first
                    | (rw [rrulesN_end (by simpa using hke)]; simp; done)
                    | (obtain rfl : n = 0 := by simp at hn; omega
                       simp [rrulesN])
                rw [hq] at hx
                have hql := (hs).1
                have hln := Fz.lenB hz
                first
                  | (rw [decode_bad1 hx ke hodd]; exact ⟨zSl, zSl, [], rfl, zMsg_ok _, rfl⟩)
                  | (rw [decode_bad2 hx ke (at_bad hat hql hln)]; exact ⟨zSl, zSl, [], rfl, zMsg_ok _, rfl⟩)
                  | (rw [decode_bad3 hx ke kb]; exact ⟨zSl, zSl, [], rfl, zMsg_ok _, rfl⟩)
              ·
                refine r_yg rfl hodd rfl (y_move rfl) ?_
                refine r_yg rfl hodd rfl (y_nilCheck rfl) ?_
                refine r_yg rfl hodd rfl (y_fieldAddr rfl At.lit fo106_1 rfl) ?_
                refine r_yg rfl hodd rfl (y_load_s rfl ts3 (RdS.blk (i := 0) rfl rfl)) ?_
                refine r_yg rfl hodd rfl (y_move rfl) ?_
                refine r_yg rfl hodd rfl (y_len tl22 rfl) ?_
                refine r_yg rfl hodd rfl (y_iop rfl rfl rfl) ?_
                refine r_y rfl rfl (y_pickf rfl hodd rfl) ?_
                refine r_y rfl rfl (y_move rfl) ?_
                refine r_split (j := 10) rfl (fun hat => ?_) (fun hat => ?_)
                ·
                  refine r_no' rfl rfl hat ?_
                  refine r_no' rfl rfl hat ?_
                  refine r_no' rfl rfl hat ?_
                  refine r_y rfl rfl (y_pickt rfl hat rfl) ?_
                  refine r_nil ?_
                  refine hK78 _ _ _ ?_
                  clear hK78 K78
                  refine c_ift rfl rfl ?_
                  refine c_seq (fun K80 hK80 => ?_)
                  refine c_region ?_
                  refine r_y rfl rfl (y_bld rfl tz35 fk35 bp35_ rfl rfl) ?_
                  refine r_s rfl ?_
                  refine s_store (us := encMsg zMsg zSl zSl) rfl rfl rfl ts35 rfl rfl (one_msg _ _ _) (i := 2) rfl rfl ?_
                  refine r_y rfl rfl (y_assign rfl) ?_
                  refine r_nil ?_
                  refine hK80 _ _ _ ?_
                  clear hK80 K80
                  refine c_ret ?_
                  refine e_ret 3 hm (res2 (r1_cell_a rfl ts35 (RdA.blk (i := 2) rfl rfl)) (r1_tmp rfl)) ?_
                  have hx := rmsg_9 (q := ⟨s0, l, false⟩) k1 k6 k8 k9
                  have hq : rrules (rmsg0 ⟨s0, l, false⟩).2 = (l1.map (·.1), q1) := by
                    rw [hinv]
                    first
                      | (rw [rrulesN_end (by simpa using hke)]; simp; done)
                      | (obtain rfl : n = 0 := by simp at hn; omega
                         simp [rrulesN])
                  rw [hq] at hx
                  have hql := (hs).1
                  have hln := Fz.lenB hz
                  first
                    | (rw [decode_bad1 hx ke hodd]; exact ⟨zSl, zSl, [], rfl, zMsg_ok _, rfl⟩)
                    | (rw [decode_bad2 hx ke (at_bad hat hql hln)]; exact ⟨zSl, zSl, [], rfl, zMsg_ok _, rfl⟩)
                    | (rw [decode_bad3 hx ke kb]; exact ⟨zSl, zSl, [], rfl, zMsg_ok _, rfl⟩)
                ·
                  refine r_yg rfl hat rfl (y_load_a (cs := encMsg ((rmsg0 ⟨s0, l, false⟩).1) zSl sv) rfl ts35 (RdA.blk (i := 1) rfl rfl)) ?_
                  refine r_sg rfl hat ?_
                  refine s_call0 rfl Try.call24 rfl (rMsg_w' ({ (rmsg0 ⟨s0, l, false⟩).1 with rules := l1.map (·.1) }) zSl sv l1 _ _ ⟨fzA_nil _, fun _ => rfl, ⟨hzr, hall⟩, rfl⟩ (by simp; omega)) ?_
                  rintro _ m2 _ hm2 ⟨rfl, rfl⟩
                  replace hm := hm.trans hm2
                  replace hz := hz.mono hm2
                  replace hall := hall.mono hm2
                  replace hzr := hzr.mono hm2
                  clear hm2
                  refine r_yg rfl hat rfl (y_not rfl) ?_
                  refine r_y rfl rfl (y_pickf rfl hat rfl) ?_
                  refine r_nil ?_
                  refine hK78 _ _ _ ?_
                  clear hK78 K78
                  refine c_cond rfl (fun kb => ?_) (fun kb => ?_)
                  ·
                    refine c_seq (fun K81 hK81 => ?_)
                    refine c_region ?_
                    refine r_y rfl rfl (y_bld rfl tz35 fk35 bp35_ rfl rfl) ?_
                    refine r_s rfl ?_
                    refine s_store (us := encMsg zMsg zSl zSl) rfl rfl rfl ts35 rfl rfl (one_msg _ _ _) (i := 2) rfl rfl ?_
                    refine r_y rfl rfl (y_assign rfl) ?_
                    refine r_nil ?_
                    refine hK81 _ _ _ ?_
                    clear hK81 K81
                    refine c_ret ?_
                    refine e_ret 3 hm (res2 (r1_cell_a rfl ts35 (RdA.blk (i := 2) rfl rfl)) (r1_tmp rfl)) ?_
                    have hx := rmsg_9 (q := ⟨s0, l, false⟩) k1 k6 k8 k9
                    have hq : rrules (rmsg0 ⟨s0, l, false⟩).2 = (l1.map (·.1), q1) := by
                      rw [hinv]
                      first
                        | (rw [rrulesN_end (by simpa using hke)]; simp; done)
                        | (obtain rfl : n = 0 := by simp at hn; omega
                           simp [rrulesN])
                    rw [hq] at hx
                    have hql := (hs).1
                    have hln := Fz.lenB hz
                    first
                      | (rw [decode_bad1 hx ke hodd]; exact ⟨zSl, zSl, [], rfl, zMsg_ok _, rfl⟩)
                      | (rw [decode_bad2 hx ke (at_bad hat hql hln)]; exact ⟨zSl, zSl, [], rfl, zMsg_ok _, rfl⟩)
                      | (rw [decode_bad3 hx ke kb]; exact ⟨zSl, zSl, [], rfl, zMsg_ok _, rfl⟩)
                  ·
                    refine c_skip ?_
                    refine hK77 _ _ _ ?_
                    clear hK77 K77
                    refine c_seq (fun K82 hK82 => ?_)
                    refine c_region ?_
                    refine r_y rfl rfl (y_load_a (cs := encMsg ((rmsg0 ⟨s0, l, false⟩).1) zSl sv) rfl ts35 (RdA.blk (i := 1) rfl rfl)) ?_
                    refine r_s rfl ?_
                    refine s_store (us := encMsg ((rmsg0 ⟨s0, l, false⟩).1) zSl sv) rfl rfl rfl ts35 rfl rfl (one_msg _ _ _) (i := 2) rfl rfl ?_
                    refine r_y rfl rfl (y_assign rfl) ?_
                    refine r_nil ?_
                    refine hK82 _ _ _ ?_
                    clear hK82 K82
                    refine c_ret ?_
                    refine e_ret 3 hm (res2 (r1_cell_a rfl ts35 (RdA.blk (i := 2) rfl rfl)) (r1_tmp rfl)) ?_
                    have hx := rmsg_9 (q := ⟨s0, l, false⟩) k1 k6 k8 k9
                    have hq : rrules (rmsg0 ⟨s0, l, false⟩).2 = (l1.map (·.1), q1) := by
                      rw [hinv]
                      first
                        | (rw [rrulesN_end (by simpa using hke)]; simp; done)
                        | (obtain rfl : n = 0 := by simp at hn; omega
                           simp [rrulesN])
                    rw [hq] at hx
                    have hql := (hs).1
                    have hln := Fz.lenB hz
                    rw [decode_ok3 hx ke rfl (at_ok hat hql hln) kb]
                    exact ⟨zSl, sv, l1, rfl, ⟨fzA_nil _, fun _ => rfl, ⟨hzr, hall⟩, rfl⟩, rfl⟩
        ·
          refine c_region ?_
          refine r_y rfl rfl (y_iop rfl rfl rfl) ?_
          refine r_y rfl rfl (y_assign rfl) ?_
          refine r_nil ?_
          refine hK47 _ _ _ ?_
          clear hK47 K47
          refine c_cond rfl (fun k10 => ?_) (fun k10 => ?_)
          ·
            refine c_seq (fun K83 hK83 => ?_)
            refine c_region ?_
            refine r_y rfl rfl (y_move rfl) ?_
            refine r_s rfl ?_
            refine s_call0 rfl Try.call57 rfl (eget_w r s l ((rmsg0 ⟨s0, l, false⟩).2) 2 _ _ hz (rmsg0_suf (q := ⟨s0, l, false⟩) (Suf.start s0 l)) hL (by decide)) ?_
            rintro _ m2 _ hm2 ⟨rfl, rfl⟩
            replace hm := hm.trans hm2
            replace hz := hz.mono hm2
            clear hm2
            refine r_y rfl rfl (y_conv_wi rfl un25 un3) ?_
            refine r_y rfl rfl (y_assign rfl) ?_
            refine r_nil ?_
            refine hK83 _ _ _ ?_
            clear hK83 K83
            refine c_seq (fun K84 hK84 => ?_)
            refine c_region ?_
            refine r_nilvec 50 32 ?_
            refine r_y rfl rfl (y_assign rfl) ?_
            refine r_nil ?_
            refine hK84 _ _ _ ?_
            clear hK84 K84
            refine c_block ?_
            obtain ⟨n0, hne, hn0⟩ := rint_nat (k := 2) (by decide) (rmsg0 ⟨s0, l, false⟩).2
            have hall : AllA m2 [] := fun p hp => (by cases hp)
            refine c_front 1 rfl ?_
            refine c_loopx (α := Nat × Nat × Rs × List (RuleD × Sl) × Sl) (fun vv => match vv with | (i, n, q1, l1, sv) => [(0, s.v), (2, .pointer (some ⟨b0, 0, none⟩)), (4, .pointer (some ⟨r, 0, none⟩)), (5, .pointer (some ⟨b1, 0, none⟩)), (6, .bool false), (8, .int .i64 (n0 : Nat)), (9, .int .i64 (i : Nat))]) (fun vv => match vv with | (i, n, q1, l1, sv) => eyItem r s l q1 :: .vec sv.a sv.n sv.cap 50 32 (l1.map fun p => encRule p.1 p.2) :: .blk b1 (.cells (encMsg ((rmsg0 ⟨s0, l, false⟩).1) zSl sv).toArray 35) :: .blk b0 (.cells (encMsg zMsg zSl zSl).toArray 35) :: H) (fun k0 vv m1 => match vv with | (i, n, q1, l1, sv) => (n = k0 ∧ i + n = n0 ∧ sv.n = l1.length ∧ n + l1.length < 65536 ∧ rrules (rmsg0 ⟨s0, l, false⟩).2 = (l1.map (·.1) ++ (rrulesN n q1).1, (rrulesN n q1).2) ∧ Suf l q1) ∧ m.le m1 ∧ (FzB m1 s l) ∧ (AllA m1 l1)) (n0) (0, n0, (rint 2 (rmsg0 ⟨s0, l, false⟩).2).2, [], zSl) ⟨rfl, rfl, rfl, rfl, rfl, (by rw [← hne]; rfl), rfl, trivial⟩ rfl ⟨⟨rfl, by omega, rfl, by simpa using hn0, by simp [rrules, hne], rint_suf (rmsg0_suf (q := ⟨s0, l, false⟩) (Suf.start s0 l))⟩, hm, hz, hall⟩ ?_
            clear hm hz hall
            rintro k0 ⟨i, n, q1, l1, sv⟩ m1 ⟨hi0, hm, hz, hall⟩
            obtain ⟨hi, hin, hsn, hb, hinv, hs⟩ := hi0
            refine c_seq (fun K85 hK85 => ?_)
            refine c_seq (fun K86 hK86 => ?_)
            refine c_region ?_
            refine r_y rfl rfl (y_move rfl) ?_
            refine r_y rfl rfl (y_move rfl) ?_
            refine r_y rfl rfl (y_iop rfl rfl rfl) ?_
            refine r_y rfl rfl (y_move rfl) ?_
            refine r_split (j := 3) rfl (fun hn => ?_) (fun hn => ?_)
            ·
              refine r_yg rfl hn rfl (y_move rfl) ?_
              refine r_yg rfl hn rfl (y_nilCheck rfl) ?_
              refine r_yg rfl hn rfl (y_fieldAddr rfl At.lit fo106_2 rfl) ?_
              refine r_yg rfl hn rfl (y_load_s rfl ts4 (RdS.blk (i := 0) rfl rfl)) ?_
              refine r_yg rfl hn rfl (y_not rfl) ?_
              refine r_y rfl rfl (y_pickt rfl hn rfl) ?_
              refine r_nil ?_
              refine hK86 _ _ _ ?_
              clear hK86 K86
              refine c_cond rfl (fun hke => ?_) (fun hke => ?_)
              ·
                refine c_skip ?_
                refine hK85 _ _ _ ?_
                clear hK85 K85
                refine c_seq (fun K87 hK87 => ?_)
                refine c_block ?_
                refine c_seq (fun K88 hK88 => ?_)
                refine c_region ?_
                refine r_s rfl ?_
                refine s_alloc rfl tz50 (fun b2 => ?_)
                refine r_nil ?_
                refine hK88 _ _ _ ?_
                clear hK88 K88
                refine c_seq (fun K89 hK89 => ?_)
                refine c_region ?_
                refine r_y rfl rfl (y_move rfl) ?_
                refine r_front 1 rfl ?_
                refine r_s rfl ?_
                refine s_call0 rfl Try.call58 rfl (ehead_w r s l (q1) _ _ hz (hs) hL) ?_
                rintro _ m2 _ hm2 ⟨rfl, rfl⟩
                replace hm := hm.trans hm2
                replace hz := hz.mono hm2
                replace hall := hall.mono hm2
                clear hm2
                refine r_y rfl rfl (y_fieldAddr rfl At.lit fo50_0 rfl) ?_
                refine r_y rfl rfl (y_fieldAddr rfl At.lit fo29_0 rfl) ?_
                refine r_s rfl ?_
                refine s_store (us := encHead (rhead (q1)).1) rfl rfl rfl ts27 rfl rfl (one_head _) (i := 1) rfl rfl ?_
                refine r_nil ?_
                refine hK89 _ _ _ ?_
                clear hK89 K89
                refine c_seq (fun K90 hK90 => ?_)
                refine c_region ?_
                refine r_y rfl rfl (y_move rfl) ?_
                refine r_s rfl ?_
                refine s_call0 rfl Try.call58 rfl (ehead_w r s l ((rhead (q1)).2) _ _ hz (rhead_suf (hs)) hL) ?_
                rintro _ m2 _ hm2 ⟨rfl, rfl⟩
                replace hm := hm.trans hm2
                replace hz := hz.mono hm2
                replace hall := hall.mono hm2
                clear hm2
                refine r_y rfl rfl (y_fieldAddr rfl At.lit fo50_0 rfl) ?_
                refine r_y rfl rfl (y_fieldAddr rfl At.lit fo29_1 rfl) ?_
                refine r_s rfl ?_
                refine s_store (us := encHead (rhead ((rhead (q1)).2)).1) rfl rfl rfl ts27 rfl rfl (one_head _) (i := 1) rfl rfl ?_
                refine r_nil ?_
                refine hK90 _ _ _ ?_
                clear hK90 K90
                refine c_seq (fun K91 hK91 => ?_)
                refine c_region ?_
                refine r_y rfl rfl (y_move rfl) ?_
                refine r_s rfl ?_
                refine s_call0 rfl Try.call57 rfl (eget_w r s l ((rhead ((rhead (q1)).2)).2) 2 _ _ hz (rhead_suf (rhead_suf (hs))) hL (by decide)) ?_
                rintro _ m2 _ hm2 ⟨rfl, rfl⟩
                replace hm := hm.trans hm2
                replace hz := hz.mono hm2
                replace hall := hall.mono hm2
                clear hm2
                refine r_y rfl rfl (y_conv_wi rfl un25 un3) ?_
                refine r_y rfl rfl (y_fieldAddr rfl At.lit fo50_1 rfl) ?_
                refine r_s rfl ?_
                refine s_store rfl rfl rfl ts3 rfl rfl (by simp [Value.oneCell', wv, Sl.v]) (i := 1) rfl rfl ?_
                refine r_nil ?_
                refine hK91 _ _ _ ?_
                clear hK91 K91
                refine c_seq (fun K92 hK92 => ?_)
                refine c_region ?_
                refine r_y rfl rfl (y_move rfl) ?_
                refine r_s rfl ?_
                refine s_call0 rfl Try.call57 rfl (eget_w r s l ((rget 2 ((rhead ((rhead (q1)).2)).2)).2) 4 _ _ hz (rget_suf (rhead_suf (rhead_suf (hs)))) hL (by decide)) ?_
                rintro _ m2 _ hm2 ⟨rfl, rfl⟩
                replace hm := hm.trans hm2
                replace hz := hz.mono hm2
                replace hall := hall.mono hm2
                clear hm2
                refine r_y rfl rfl (y_conv_wi rfl un25 un3) ?_
                refine r_y rfl rfl (y_fieldAddr rfl At.lit fo50_3 rfl) ?_
                refine r_s rfl ?_
                refine s_store rfl rfl rfl ts3 rfl rfl (by simp [Value.oneCell', wv, Sl.v]) (i := 1) rfl rfl ?_
                refine r_nil ?_
                refine hK92 _ _ _ ?_
                clear hK92 K92
                refine c_seq (fun K93 hK93 => ?_)
                refine c_region ?_
                refine r_y rfl rfl (y_move rfl) ?_
                refine r_s rfl ?_
                refine s_call0 rfl Try.call57 rfl (eget_w r s l ((rget 4 ((rget 2 ((rhead ((rhead (q1)).2)).2)).2)).2) 4 _ _ hz (rget_suf (rget_suf (rhead_suf (rhead_suf (hs))))) hL (by decide)) ?_
                rintro _ m2 _ hm2 ⟨rfl, rfl⟩
                replace hm := hm.trans hm2
                replace hz := hz.mono hm2
                replace hall := hall.mono hm2
                clear hm2
                refine r_y rfl rfl (y_conv_wi rfl un25 un3) ?_
                refine r_y rfl rfl (y_fieldAddr rfl At.lit fo50_4 rfl) ?_
                refine r_s rfl ?_
                refine s_store rfl rfl rfl ts3 rfl rfl (by simp [Value.oneCell', wv, Sl.v]) (i := 1) rfl rfl ?_
                refine r_nil ?_
                refine hK93 _ _ _ ?_
                clear hK93 K93
                refine c_seq (fun K94 hK94 => ?_)
                refine c_region ?_
                refine r_y rfl rfl (y_move rfl) ?_
                refine r_s rfl ?_
                refine s_call0 rfl Try.call57 rfl (eget_w r s l ((rget 4 ((rget 4 ((rget 2 ((rhead ((rhead (q1)).2)).2)).2)).2)).2) 1 _ _ hz (rget_suf (rget_suf (rget_suf (rhead_suf (rhead_suf (hs)))))) hL (by decide)) ?_
                rintro _ m2 _ hm2 ⟨rfl, rfl⟩
                replace hm := hm.trans hm2
                replace hz := hz.mono hm2
                replace hall := hall.mono hm2
                clear hm2
                refine r_y rfl rfl (y_conv_wi rfl un25 un3) ?_
                refine r_y rfl rfl (y_fieldAddr rfl At.lit fo50_5 rfl) ?_
                refine r_s rfl ?_
                refine s_store rfl rfl rfl ts3 rfl rfl (by simp [Value.oneCell', wv, Sl.v]) (i := 1) rfl rfl ?_
                refine r_nil ?_
                refine hK94 _ _ _ ?_
                clear hK94 K94
                refine c_seq (fun K95 hK95 => ?_)
                refine c_region ?_
                refine r_y rfl rfl (y_move rfl) ?_
                refine r_s rfl ?_
                refine s_call0 rfl Try.call57 rfl (eget_w r s l ((rget 1 ((rget 4 ((rget 4 ((rget 2 ((rhead ((rhead (q1)).2)).2)).2)).2)).2)).2) 8 _ _ hz (rget_suf (rget_suf (rget_suf (rget_suf (rhead_suf (rhead_suf (hs))))))) hL (by decide)) ?_
                rintro _ m2 _ hm2 ⟨rfl, rfl⟩
                replace hm := hm.trans hm2
                replace hz := hz.mono hm2
                replace hall := hall.mono hm2
                clear hm2
                refine r_y rfl rfl (y_conv_wi rfl un25 un3) ?_
                refine r_y rfl rfl (y_fieldAddr rfl At.lit fo50_6 rfl) ?_
                refine r_s rfl ?_
                refine s_store rfl rfl rfl ts3 rfl rfl (by simp [Value.oneCell', wv, Sl.v]) (i := 1) rfl rfl ?_
                refine r_nil ?_
                refine hK95 _ _ _ ?_
                clear hK95 K95
                refine c_seq (fun K96 hK96 => ?_)
                refine c_region ?_
                refine r_y rfl rfl (y_move rfl) ?_
                refine r_s rfl ?_
                refine s_call0 rfl Try.call57 rfl (eget_w r s l ((rget 8 ((rget 1 ((rget 4 ((rget 4 ((rget 2 ((rhead ((rhead (q1)).2)).2)).2)).2)).2)).2)).2) 8 _ _ hz (rget_suf (rget_suf (rget_suf (rget_suf (rget_suf (rhead_suf (rhead_suf (hs)))))))) hL (by decide)) ?_
                rintro _ m2 _ hm2 ⟨rfl, rfl⟩
                replace hm := hm.trans hm2
                replace hz := hz.mono hm2
                replace hall := hall.mono hm2
                clear hm2
                refine r_y rfl rfl (y_conv_wi rfl un25 un3) ?_
                refine r_y rfl rfl (y_fieldAddr rfl At.lit fo50_7 rfl) ?_
                refine r_s rfl ?_
                refine s_store rfl rfl rfl ts3 rfl rfl (by simp [Value.oneCell', wv, Sl.v]) (i := 1) rfl rfl ?_
                refine r_nil ?_
                refine hK96 _ _ _ ?_
                clear hK96 K96
                refine c_seq (fun K97 hK97 => ?_)
                refine c_region ?_
                refine r_y rfl rfl (y_move rfl) ?_
                refine r_s rfl ?_
                refine s_call0 rfl Try.call57 rfl (eget_w r s l ((rget 8 ((rget 8 ((rget 1 ((rget 4 ((rget 4 ((rget 2 ((rhead ((rhead (q1)).2)).2)).2)).2)).2)).2)).2)).2) 8 _ _ hz (rget_suf (rget_suf (rget_suf (rget_suf (rget_suf (rget_suf (rhead_suf (rhead_suf (hs))))))))) hL (by decide)) ?_
                rintro _ m2 _ hm2 ⟨rfl, rfl⟩
                replace hm := hm.trans hm2
                replace hz := hz.mono hm2
                replace hall := hall.mono hm2
                clear hm2
                refine r_y rfl rfl (y_conv_wi rfl un25 un3) ?_
                refine r_y rfl rfl (y_fieldAddr rfl At.lit fo50_8 rfl) ?_
                refine r_s rfl ?_
                refine s_store rfl rfl rfl ts3 rfl rfl (by simp [Value.oneCell', wv, Sl.v]) (i := 1) rfl rfl ?_
                refine r_nil ?_
                refine hK97 _ _ _ ?_
                clear hK97 K97
                refine c_seq (fun K98 hK98 => ?_)
                refine c_region ?_
                refine r_y rfl rfl (y_move rfl) ?_
                refine r_s rfl ?_
                refine s_call0 rfl Try.call59 rfl (eacts_w r s l ((rrule0 q1).2) _ _ hz (rrule0_suf hs) hL) ?_
                rintro _ m2 _ hm2 ⟨sa, rfl, hza, hsa, rfl⟩
                replace hm := hm.trans hm2
                replace hz := hz.mono hm2
                replace hall := hall.mono hm2
                clear hm2
                refine r_y rfl rfl (y_fieldAddr rfl At.lit fo50_2 rfl) ?_
                refine r_s rfl ?_
                refine s_store rfl rfl rfl ts30 rfl rfl (by simp [Value.oneCell', wv, Sl.v]) (i := 1) rfl rfl ?_
                refine r_nil ?_
                refine hK98 _ _ _ ?_
                clear hK98 K98
                refine c_region ?_
                refine r_y rfl rfl (y_fieldAddr rfl At.lit fo35_6 rfl) ?_
                refine r_y rfl rfl (y_load_s rfl ts33 (RdS.blk (i := 3) rfl rfl)) ?_
                refine r_y rfl rfl (y_load_a (cs := encRule (rrule q1).1 sa) rfl ts50 (RdA.blk (i := 1) rfl rfl)) ?_
                refine r_s rfl ?_
                refine s_buildSlice (cs := (encRule (rrule q1).1 sa)) (e := 50) rfl rfl (fun _ => by kernel_rfl) (fun b3 => ?_)
                refine r_s rfl ?_
                refine s_append rfl rfl rfl tl33 zo50 tb50 (i := 3) rfl (Src.one' (i := 0) rfl rfl (one_rule _ _)) (by omega) (by unfold maxLen; omega) (fun a1 c1 => ?_)
                refine r_del 0 rfl ?_
                refine r_y rfl rfl (y_fieldAddr rfl At.lit fo35_6 rfl) ?_
                refine r_s rfl ?_
                refine s_store rfl rfl rfl ts33 rfl rfl (by simp [Value.oneCell', wv, Sl.v]) (i := 3) rfl rfl ?_
                refine r_nil ?_
                refine hK87 _ _ _ ?_
                clear hK87 K87
                refine c_region ?_
                refine r_del 1 rfl ?_
                refine r_y rfl rfl (y_move rfl) ?_
                first | refine r_y rfl rfl (y_inc rfl (by omega)) ?_ | refine r_y rfl rfl (y_iop rfl rfl rfl) ?_
                refine r_y rfl rfl (y_assign rfl) ?_
                refine r_nil ?_
                obtain ⟨n, rfl⟩ : ∃ j, n = j + 1 := ⟨n - 1, by simp at hn; omega⟩
                replace hall := hall.snoc (x := (rrule q1).1) hza hsa
                exact ⟨k0 - 1, (i + 1, n, (rrule q1).2, l1 ++ [((rrule q1).1, sa)], ⟨a1, sv.n + 1, c1⟩), by omega, ⟨rfl, rfl, rfl, rfl, rfl, rfl, rfl, trivial⟩, (by simp only [List.map_append]; rfl), ⟨by omega, by omega, by simp [hsn], by simp; omega, by rw [hinv, rrulesN_succ (by simpa using hke)]; simp, rrule_suf hs⟩, hm, hz, hall⟩
              ·
                refine c_exit ?_
                refine hK6 _ _ _ ?_
                clear hK85 K85 hK6 K6
                refine c_seq (fun K99 hK99 => ?_)
                refine c_seq (fun K100 hK100 => ?_)
                refine c_region ?_
                refine r_freezeVec (i := 1) rfl rfl (fun m3 hm3 hzr hnil => ?_)
                replace hm := hm.trans hm3
                replace hz := hz.mono hm3
                replace hall := hall.mono hm3
                clear hm3
                refine r_y rfl rfl (y_move rfl) ?_
                refine r_y rfl rfl (y_nilCheck rfl) ?_
                refine r_y rfl rfl (y_fieldAddr rfl At.lit fo106_2 rfl) ?_
                refine r_y rfl rfl (y_load_s rfl ts4 (RdS.blk (i := 0) rfl rfl)) ?_
                refine r_nil ?_
                refine hK100 _ _ _ ?_
                clear hK100 K100
                refine c_cond rfl (fun ke => ?_) (fun ke => ?_)
                ·
                  refine c_seq (fun K101 hK101 => ?_)
                  refine c_region ?_
                  refine r_y rfl rfl (y_bld rfl tz35 fk35 bp35_ rfl rfl) ?_
                  refine r_s rfl ?_
                  refine s_store (us := encMsg zMsg zSl zSl) rfl rfl rfl ts35 rfl rfl (one_msg _ _ _) (i := 2) rfl rfl ?_
                  refine r_y rfl rfl (y_assign rfl) ?_
                  refine r_nil ?_
                  refine hK101 _ _ _ ?_
                  clear hK101 K101
                  refine c_ret ?_
                  refine e_ret 3 hm (res2 (r1_cell_a rfl ts35 (RdA.blk (i := 2) rfl rfl)) (r1_tmp rfl)) ?_
                  have hx := rmsg_10 (q := ⟨s0, l, false⟩) k1 k6 k8 k9 k10
                  have hq : rrules (rmsg0 ⟨s0, l, false⟩).2 = (l1.map (·.1), q1) := by
                    rw [hinv]
                    first
                      | (rw [rrulesN_end (by simpa using hke)]; simp; done)
                      | (obtain rfl : n = 0 := by simp at hn; omega
                         simp [rrulesN])
                  rw [hq] at hx
                  rw [decode_short hx ke]
                  exact ⟨zSl, zSl, [], rfl, zMsg_ok _, rfl⟩
                ·
                  refine c_skip ?_
                  refine hK99 _ _ _ ?_
                  clear hK99 K99
                  refine c_seq (fun K102 hK102 => ?_)
                  refine c_seq (fun K103 hK103 => ?_)
                  refine c_region ?_
                  refine r_y rfl rfl (y_move rfl) ?_
                  refine r_y rfl rfl (y_move rfl) ?_
                  refine r_split (j := 1) rfl (fun hodd => ?_) (fun hodd => ?_)
                  ·
                    refine r_no' rfl rfl hodd ?_
                    refine r_no' rfl rfl hodd ?_
                    refine r_no' rfl rfl hodd ?_
                    refine r_no' rfl rfl hodd ?_
                    refine r_no' rfl rfl hodd ?_
                    refine r_no' rfl rfl hodd ?_
                    refine r_no' rfl rfl hodd ?_
                    refine r_y rfl rfl (y_pickt rfl hodd rfl) ?_
                    refine r_y rfl rfl (y_move rfl) ?_
                    refine r_no' rfl rfl rfl ?_
                    refine r_no' rfl rfl rfl ?_
                    refine r_no' rfl rfl rfl ?_
                    refine r_y rfl rfl (y_pickt rfl rfl rfl) ?_
                    refine r_nil ?_
                    refine hK103 _ _ _ ?_
                    clear hK103 K103
                    refine c_ift rfl rfl ?_
                    refine c_seq (fun K104 hK104 => ?_)
                    refine c_region ?_
                    refine r_y rfl rfl (y_bld rfl tz35 fk35 bp35_ rfl rfl) ?_
                    refine r_s rfl ?_
                    refine s_store (us := encMsg zMsg zSl zSl) rfl rfl rfl ts35 rfl rfl (one_msg _ _ _) (i := 2) rfl rfl ?_
                    refine r_y rfl rfl (y_assign rfl) ?_
                    refine r_nil ?_
                    refine hK104 _ _ _ ?_
                    clear hK104 K104
                    refine c_ret ?_
                    refine e_ret 3 hm (res2 (r1_cell_a rfl ts35 (RdA.blk (i := 2) rfl rfl)) (r1_tmp rfl)) ?_
                    have hx := rmsg_10 (q := ⟨s0, l, false⟩) k1 k6 k8 k9 k10
                    have hq : rrules (rmsg0 ⟨s0, l, false⟩).2 = (l1.map (·.1), q1) := by
                      rw [hinv]
                      first
                        | (rw [rrulesN_end (by simpa using hke)]; simp; done)
                        | (obtain rfl : n = 0 := by simp at hn; omega
                           simp [rrulesN])
                    rw [hq] at hx
                    have hql := (hs).1
                    have hln := Fz.lenB hz
                    first
                      | (rw [decode_bad1 hx ke hodd]; exact ⟨zSl, zSl, [], rfl, zMsg_ok _, rfl⟩)
                      | (rw [decode_bad2 hx ke (at_bad hat hql hln)]; exact ⟨zSl, zSl, [], rfl, zMsg_ok _, rfl⟩)
                      | (rw [decode_bad3 hx ke kb]; exact ⟨zSl, zSl, [], rfl, zMsg_ok _, rfl⟩)
                  ·
                    refine r_yg rfl hodd rfl (y_move rfl) ?_
                    refine r_yg rfl hodd rfl (y_nilCheck rfl) ?_
                    refine r_yg rfl hodd rfl (y_fieldAddr rfl At.lit fo106_1 rfl) ?_
                    refine r_yg rfl hodd rfl (y_load_s rfl ts3 (RdS.blk (i := 0) rfl rfl)) ?_
                    refine r_yg rfl hodd rfl (y_move rfl) ?_
                    refine r_yg rfl hodd rfl (y_len tl22 rfl) ?_
                    refine r_yg rfl hodd rfl (y_iop rfl rfl rfl) ?_
                    refine r_y rfl rfl (y_pickf rfl hodd rfl) ?_
                    refine r_y rfl rfl (y_move rfl) ?_
                    refine r_split (j := 10) rfl (fun hat => ?_) (fun hat => ?_)
                    ·
                      refine r_no' rfl rfl hat ?_
                      refine r_no' rfl rfl hat ?_
                      refine r_no' rfl rfl hat ?_
                      refine r_y rfl rfl (y_pickt rfl hat rfl) ?_
                      refine r_nil ?_
                      refine hK103 _ _ _ ?_
                      clear hK103 K103
                      refine c_ift rfl rfl ?_
                      refine c_seq (fun K105 hK105 => ?_)
                      refine c_region ?_
                      refine r_y rfl rfl (y_bld rfl tz35 fk35 bp35_ rfl rfl) ?_
                      refine r_s rfl ?_
                      refine s_store (us := encMsg zMsg zSl zSl) rfl rfl rfl ts35 rfl rfl (one_msg _ _ _) (i := 2) rfl rfl ?_
                      refine r_y rfl rfl (y_assign rfl) ?_
                      refine r_nil ?_
                      refine hK105 _ _ _ ?_
                      clear hK105 K105
                      refine c_ret ?_
                      refine e_ret 3 hm (res2 (r1_cell_a rfl ts35 (RdA.blk (i := 2) rfl rfl)) (r1_tmp rfl)) ?_
                      have hx := rmsg_10 (q := ⟨s0, l, false⟩) k1 k6 k8 k9 k10
                      have hq : rrules (rmsg0 ⟨s0, l, false⟩).2 = (l1.map (·.1), q1) := by
                        rw [hinv]
                        first
                          | (rw [rrulesN_end (by simpa using hke)]; simp; done)
                          | (obtain rfl : n = 0 := by simp at hn; omega
                             simp [rrulesN])
                      rw [hq] at hx
                      have hql := (hs).1
                      have hln := Fz.lenB hz
                      first
                        | (rw [decode_bad1 hx ke hodd]; exact ⟨zSl, zSl, [], rfl, zMsg_ok _, rfl⟩)
                        | (rw [decode_bad2 hx ke (at_bad hat hql hln)]; exact ⟨zSl, zSl, [], rfl, zMsg_ok _, rfl⟩)
                        | (rw [decode_bad3 hx ke kb]; exact ⟨zSl, zSl, [], rfl, zMsg_ok _, rfl⟩)
                    ·
                      refine r_yg rfl hat rfl (y_load_a (cs := encMsg ((rmsg0 ⟨s0, l, false⟩).1) zSl sv) rfl ts35 (RdA.blk (i := 1) rfl rfl)) ?_
                      refine r_sg rfl hat ?_
                      refine s_call0 rfl Try.call24 rfl (rMsg_w' ({ (rmsg0 ⟨s0, l, false⟩).1 with rules := l1.map (·.1) }) zSl sv l1 _ _ ⟨fzA_nil _, fun _ => rfl, ⟨hzr, hall⟩, rfl⟩ (by simp; omega)) ?_
                      rintro _ m2 _ hm2 ⟨rfl, rfl⟩
                      replace hm := hm.trans hm2
                      replace hz := hz.mono hm2
                      replace hall := hall.mono hm2
                      replace hzr := hzr.mono hm2
                      clear hm2
                      refine r_yg rfl hat rfl (y_not rfl) ?_
                      refine r_y rfl rfl (y_pickf rfl hat rfl) ?_
                      refine r_nil ?_
                      refine hK103 _ _ _ ?_
                      clear hK103 K103
                      refine c_cond rfl (fun kb => ?_) (fun kb => ?_)
                      ·
                        refine c_seq (fun K106 hK106 => ?_)
                        refine c_region ?_
                        refine r_y rfl rfl (y_bld rfl tz35 fk35 bp35_ rfl rfl) ?_
                        refine r_s rfl ?_
                        refine s_store (us := encMsg zMsg zSl zSl) rfl rfl rfl ts35 rfl rfl (one_msg _ _ _) (i := 2) rfl rfl ?_
                        refine r_y rfl rfl (y_assign rfl) ?_
                        refine r_nil ?_
                        refine hK106 _ _ _ ?_
                        clear hK106 K106
                        refine c_ret ?_
                        refine e_ret 3 hm (res2 (r1_cell_a rfl ts35 (RdA.blk (i := 2) rfl rfl)) (r1_tmp rfl)) ?_
                        have hx := rmsg_10 (q := ⟨s0, l, false⟩) k1 k6 k8 k9 k10
                        have hq : rrules (rmsg0 ⟨s0, l, false⟩).2 = (l1.map (·.1), q1) := by
                          rw [hinv]
                          first
                            | (rw [rrulesN_end (by simpa using hke)]; simp; done)
                            | (obtain rfl : n = 0 := by simp at hn; omega
                               simp [rrulesN])
                        rw [hq] at hx
                        have hql := (hs).1
                        have hln := Fz.lenB hz
                        first
                          | (rw [decode_bad1 hx ke hodd]; exact ⟨zSl, zSl, [], rfl, zMsg_ok _, rfl⟩)
                          | (rw [decode_bad2 hx ke (at_bad hat hql hln)]; exact ⟨zSl, zSl, [], rfl, zMsg_ok _, rfl⟩)
                          | (rw [decode_bad3 hx ke kb]; exact ⟨zSl, zSl, [], rfl, zMsg_ok _, rfl⟩)
                      ·
                        refine c_skip ?_
                        refine hK102 _ _ _ ?_
                        clear hK102 K102
                        refine c_seq (fun K107 hK107 => ?_)
                        refine c_region ?_
                        refine r_y rfl rfl (y_load_a (cs := encMsg ((rmsg0 ⟨s0, l, false⟩).1) zSl sv) rfl ts35 (RdA.blk (i := 1) rfl rfl)) ?_
                        refine r_s rfl ?_
                        refine s_store (us := encMsg ((rmsg0 ⟨s0, l, false⟩).1) zSl sv) rfl rfl rfl ts35 rfl rfl (one_msg _ _ _) (i := 2) rfl rfl ?_
                        refine r_y rfl rfl (y_assign rfl) ?_
                        refine r_nil ?_
                        refine hK107 _ _ _ ?_
                        clear hK107 K107
                        refine c_ret ?_
                        refine e_ret 3 hm (res2 (r1_cell_a rfl ts35 (RdA.blk (i := 2) rfl rfl)) (r1_tmp rfl)) ?_
                        have hx := rmsg_10 (q := ⟨s0, l, false⟩) k1 k6 k8 k9 k10
                        have hq : rrules (rmsg0 ⟨s0, l, false⟩).2 = (l1.map (·.1), q1) := by
                          rw [hinv]
                          first
                            | (rw [rrulesN_end (by simpa using hke)]; simp; done)
                            | (obtain rfl : n = 0 := by simp at hn; omega
                               simp [rrulesN])
                        rw [hq] at hx
                        have hql := (hs).1
                        have hln := Fz.lenB hz
                        rw [decode_ok3 hx ke rfl (at_ok hat hql hln) kb]
                        exact ⟨zSl, sv, l1, rfl, ⟨fzA_nil _, fun _ => rfl, ⟨hzr, hall⟩, rfl⟩, rfl⟩
            ·
              refine r_no' rfl rfl hn ?_
              refine r_no' rfl rfl hn ?_
              refine r_no' rfl rfl hn ?_
              refine r_no' rfl rfl hn ?_
              refine r_no' rfl rfl hn ?_
              refine r_y rfl rfl (y_pickf rfl hn rfl) ?_
              refine r_nil ?_
              refine hK86 _ _ _ ?_
              clear hK86 K86
              refine c_iff rfl rfl ?_
              refine c_exit ?_
              refine hK6 _ _ _ ?_
              clear hK85 K85 hK6 K6
              refine c_seq (fun K108 hK108 => ?_)
              refine c_seq (fun K109 hK109 => ?_)
              refine c_region ?_
              refine r_freezeVec (i := 1) rfl rfl (fun m3 hm3 hzr hnil => ?_)
              replace hm := hm.trans hm3
              replace hz := hz.mono hm3
              replace hall := hall.mono hm3
              clear hm3
              refine r_y rfl rfl (y_move rfl) ?_
              refine r_y rfl rfl (y_nilCheck rfl) ?_
              refine r_y rfl rfl (y_fieldAddr rfl At.lit fo106_2 rfl) ?_
              refine r_y rfl rfl (y_load_s rfl ts4 (RdS.blk (i := 0) rfl rfl)) ?_
              refine r_nil ?_
              refine hK109 _ _ _ ?_
              clear hK109 K109
              refine c_cond rfl (fun ke => ?_) (fun ke => ?_)
              ·
                refine c_seq (fun K110 hK110 => ?_)
                refine c_region ?_
                refine r_y rfl rfl (y_bld rfl tz35 fk35 bp35_ rfl rfl) ?_
                refine r_s rfl ?_
                refine s_store (us := encMsg zMsg zSl zSl) rfl rfl rfl ts35 rfl rfl (one_msg _ _ _) (i := 2) rfl rfl ?_
                refine r_y rfl rfl (y_assign rfl) ?_
                refine r_nil ?_
                refine hK110 _ _ _ ?_
                clear hK110 K110
                refine c_ret ?_
                refine e_ret 3 hm (res2 (r1_cell_a rfl ts35 (RdA.blk (i := 2) rfl rfl)) (r1_tmp rfl)) ?_
                have hx := rmsg_10 (q := ⟨s0, l, false⟩) k1 k6 k8 k9 k10
                have hq : rrules (rmsg0 ⟨s0, l, false⟩).2 = (l1.map (·.1), q1) := by
                  rw [hinv]
                  first
                    | (rw [rrulesN_end (by simpa using hke)]; simp; done)
                    | (obtain rfl : n = 0 := by simp at hn; omega
                       simp [rrulesN])
                rw [hq] at hx
                rw [decode_short hx ke]
                exact ⟨zSl, zSl, [], rfl, zMsg_ok _, rfl⟩
              ·
                refine c_skip ?_
                refine hK108 _ _ _ ?_
                clear hK108 K108
                refine c_seq (fun K111 hK111 => ?_)
                refine c_seq (fun K112 hK112 => ?_)
                refine c_region ?_
                refine r_y rfl rfl (y_move rfl) ?_
                refine r_y rfl rfl (y_move rfl) ?_
                refine r_split (j := 1) rfl (fun hodd => ?_) (fun hodd => ?_)
                ·
                  refine r_no' rfl rfl hodd ?_
                  refine r_no' rfl rfl hodd ?_
                  refine r_no' rfl rfl hodd ?_
                  refine r_no' rfl rfl hodd ?_
                  refine r_no' rfl rfl hodd ?_
                  refine r_no' rfl rfl hodd ?_
                  refine r_no' rfl rfl hodd ?_
                  refine r_y rfl rfl (y_pickt rfl hodd rfl) ?_
                  refine r_y rfl rfl (y_move rfl) ?_
                  refine r_no' rfl rfl rfl ?_
                  refine r_no' rfl rfl rfl ?_
                  refine r_no' rfl rfl rfl ?_
                  refine r_y rfl rfl (y_pickt rfl rfl rfl) ?_
                  refine r_nil ?_
                  refine hK112 _ _ _ ?_
                  clear hK112 K112
                  refine c_ift rfl rfl ?_
                  refine c_seq (fun K113 hK113 => ?_)
                  refine c_region ?_
                  refine r_y rfl rfl (y_bld rfl tz35 fk35 bp35_ rfl rfl) ?_
                  refine r_s rfl ?_
                  refine s_store (us := encMsg zMsg zSl zSl) rfl rfl rfl ts35 rfl rfl (one_msg _ _ _) (i := 2) rfl rfl ?_
                  refine r_y rfl rfl (y_assign rfl) ?_
                  refine r_nil ?_
                  refine hK113 _ _ _ ?_
                  clear hK113 K113
                  refine c_ret ?_
                  refine e_ret 3 hm (res2 (r1_cell_a rfl ts35 (RdA.blk (i := 2) rfl rfl)) (r1_tmp rfl)) ?_
                  have hx := rmsg_10 (q := ⟨s0, l, false⟩) k1 k6 k8 k9 k10
                  have hq : rrules (rmsg0 ⟨s0, l, false⟩).2 = (l1.map (·.1), q1) := by
                    rw [hinv]
                    first
                      | (rw [rrulesN_end (by simpa using hke)]; simp; done)
                      | (obtain rfl : n = 0 := by simp at hn; omega
                         simp [rrulesN])
                  rw [hq] at hx
                  have hql := (hs).1
                  have hln := Fz.lenB hz
                  first
                    | (rw [decode_bad1 hx ke hodd]; exact ⟨zSl, zSl, [], rfl, zMsg_ok _, rfl⟩)
                    | (rw [decode_bad2 hx ke (at_bad hat hql hln)]; exact ⟨zSl, zSl, [], rfl, zMsg_ok _, rfl⟩)
                    | (rw [decode_bad3 hx ke kb]; exact ⟨zSl, zSl, [], rfl, zMsg_ok _, rfl⟩)
                ·
                  refine r_yg rfl hodd rfl (y_move rfl) ?_
                  refine r_yg rfl hodd rfl (y_nilCheck rfl) ?_
                  refine r_yg rfl hodd rfl (y_fieldAddr rfl At.lit fo106_1 rfl) ?_
                  refine r_yg rfl hodd rfl (y_load_s rfl ts3 (RdS.blk (i := 0) rfl rfl)) ?_
                  refine r_yg rfl hodd rfl (y_move rfl) ?_
                  refine r_yg rfl hodd rfl (y_len tl22 rfl) ?_
                  refine r_yg rfl hodd rfl (y_iop rfl rfl rfl) ?_
                  refine r_y rfl rfl (y_pickf rfl hodd rfl) ?_
                  refine r_y rfl rfl (y_move rfl) ?_
                  refine r_split (j := 10) rfl (fun hat => ?_) (fun hat => ?_)
                  ·
                    refine r_no' rfl rfl hat ?_
                    refine r_no' rfl rfl hat ?_
                    refine r_no' rfl rfl hat ?_
                    refine r_y rfl rfl (y_pickt rfl hat rfl) ?_
                    refine r_nil ?_
                    refine hK112 _ _ _ ?_
                    clear hK112 K112
                    refine c_ift rfl rfl ?_
                    refine c_seq (fun K114 hK114 => ?_)
                    refine c_region ?_
                    refine r_y rfl rfl (y_bld rfl tz35 fk35 bp35_ rfl rfl) ?_
                    refine r_s rfl ?_
                    refine s_store (us := encMsg zMsg zSl zSl) rfl rfl rfl ts35 rfl rfl (one_msg _ _ _) (i := 2) rfl rfl ?_
                    refine r_y rfl rfl (y_assign rfl) ?_
                    refine r_nil ?_
                    refine hK114 _ _ _ ?_
                    clear hK114 K114
                    refine c_ret ?_
                    refine e_ret 3 hm (res2 (r1_cell_a rfl ts35 (RdA.blk (i := 2) rfl rfl)) (r1_tmp rfl)) ?_
                    have hx := rmsg_10 (q := ⟨s0, l, false⟩) k1 k6 k8 k9 k10
                    have hq : rrules (rmsg0 ⟨s0, l, false⟩).2 = (l1.map (·.1), q1) := by
                      rw [hinv]
                      first
                        | (rw [rrulesN_end (by simpa using hke)]; simp; done)
                        | (obtain rfl : n = 0 := by simp at hn; omega
                           simp [rrulesN])
                    rw [hq] at hx
                    have hql := (hs).1
                    have hln := Fz.lenB hz
                    first
                      | (rw [decode_bad1 hx ke hodd]; exact ⟨zSl, zSl, [], rfl, zMsg_ok _, rfl⟩)
                      | (rw [decode_bad2 hx ke (at_bad hat hql hln)]; exact ⟨zSl, zSl, [], rfl, zMsg_ok _, rfl⟩)
                      | (rw [decode_bad3 hx ke kb]; exact ⟨zSl, zSl, [], rfl, zMsg_ok _, rfl⟩)
                  ·
                    refine r_yg rfl hat rfl (y_load_a (cs := encMsg ((rmsg0 ⟨s0, l, false⟩).1) zSl sv) rfl ts35 (RdA.blk (i := 1) rfl rfl)) ?_
                    refine r_sg rfl hat ?_
                    refine s_call0 rfl Try.call24 rfl (rMsg_w' ({ (rmsg0 ⟨s0, l, false⟩).1 with rules := l1.map (·.1) }) zSl sv l1 _ _ ⟨fzA_nil _, fun _ => rfl, ⟨hzr, hall⟩, rfl⟩ (by simp; omega)) ?_
                    rintro _ m2 _ hm2 ⟨rfl, rfl⟩
                    replace hm := hm.trans hm2
                    replace hz := hz.mono hm2
                    replace hall := hall.mono hm2
                    replace hzr := hzr.mono hm2
                    clear hm2
                    refine r_yg rfl hat rfl (y_not rfl) ?_
                    refine r_y rfl rfl (y_pickf rfl hat rfl) ?_
                    refine r_nil ?_
                    refine hK112 _ _ _ ?_
                    clear hK112 K112
                    refine c_cond rfl (fun kb => ?_) (fun kb => ?_)
                    ·
                      refine c_seq (fun K115 hK115 => ?_)
                      refine c_region ?_
                      refine r_y rfl rfl (y_bld rfl tz35 fk35 bp35_ rfl rfl) ?_
                      refine r_s rfl ?_
                      refine s_store (us := encMsg zMsg zSl zSl) rfl rfl rfl ts35 rfl rfl (one_msg _ _ _) (i := 2) rfl rfl ?_
                      refine r_y rfl rfl (y_assign rfl) ?_
                      refine r_nil ?_
                      refine hK115 _ _ _ ?_
                      clear hK115 K115
                      refine c_ret ?_
                      refine e_ret 3 hm (res2 (r1_cell_a rfl ts35 (RdA.blk (i := 2) rfl rfl)) (r1_tmp rfl)) ?_
                      have hx := rmsg_10 (q := ⟨s0, l, false⟩) k1 k6 k8 k9 k10
                      have hq : rrules (rmsg0 ⟨s0, l, false⟩).2 = (l1.map (·.1), q1) := by
                        rw [hinv]
                        first
                          | (rw [rrulesN_end (by simpa using hke)]; simp; done)
                          | (obtain rfl : n = 0 := by simp at hn; omega
                             simp [rrulesN])
                      rw [hq] at hx
                      have hql := (hs).1
                      have hln := Fz.lenB hz
                      first
                        | (rw [decode_bad1 hx ke hodd]; exact ⟨zSl, zSl, [], rfl, zMsg_ok _, rfl⟩)
                        | (rw [decode_bad2 hx ke (at_bad hat hql hln)]; exact ⟨zSl, zSl, [], rfl, zMsg_ok _, rfl⟩)
                        | (rw [decode_bad3 hx ke kb]; exact ⟨zSl, zSl, [], rfl, zMsg_ok _, rfl⟩)
                    ·
                      refine c_skip ?_
                      refine hK111 _ _ _ ?_
                      clear hK111 K111
                      refine c_seq (fun K116 hK116 => ?_)
                      refine c_region ?_
                      refine r_y rfl rfl (y_load_a (cs := encMsg ((rmsg0 ⟨s0, l, false⟩).1) zSl sv) rfl ts35 (RdA.blk (i := 1) rfl rfl)) ?_
                      refine r_s rfl ?_
                      refine s_store (us := encMsg ((rmsg0 ⟨s0, l, false⟩).1) zSl sv) rfl rfl rfl ts35 rfl rfl (one_msg _ _ _) (i := 2) rfl rfl ?_
                      refine r_y rfl rfl (y_assign rfl) ?_
                      refine r_nil ?_
                      refine hK116 _ _ _ ?_
                      clear hK116 K116
                      refine c_ret ?_
                      refine e_ret 3 hm (res2 (r1_cell_a rfl ts35 (RdA.blk (i := 2) rfl rfl)) (r1_tmp rfl)) ?_
                      have hx := rmsg_10 (q := ⟨s0, l, false⟩) k1 k6 k8 k9 k10
                      have hq : rrules (rmsg0 ⟨s0, l, false⟩).2 = (l1.map (·.1), q1) := by
                        rw [hinv]
                        first
                          | (rw [rrulesN_end (by simpa using hke)]; simp; done)
                          | (obtain rfl : n = 0 := by simp at hn; omega
                             simp [rrulesN])
                      rw [hq] at hx
                      have hql := (hs).1
                      have hln := Fz.lenB hz
                      rw [decode_ok3 hx ke rfl (at_ok hat hql hln) kb]
                      exact ⟨zSl, sv, l1, rfl, ⟨fzA_nil _, fun _ => rfl, ⟨hzr, hall⟩, rfl⟩, rfl⟩
          ·
            refine c_skip ?_
            refine hK6 _ _ _ ?_
            clear hK6 K6
            refine c_seq (fun K117 hK117 => ?_)
            refine c_seq (fun K118 hK118 => ?_)
            refine c_region ?_
            refine r_y rfl rfl (y_move rfl) ?_
            refine r_y rfl rfl (y_nilCheck rfl) ?_
            refine r_y rfl rfl (y_fieldAddr rfl At.lit fo106_2 rfl) ?_
            refine r_y rfl rfl (y_load_s rfl ts4 (RdS.blk (i := 0) rfl rfl)) ?_
            refine r_nil ?_
            refine hK118 _ _ _ ?_
            clear hK118 K118
            refine c_cond rfl (fun ke => ?_) (fun ke => ?_)
            ·
              refine c_seq (fun K119 hK119 => ?_)
              refine c_region ?_
              refine r_y rfl rfl (y_bld rfl tz35 fk35 bp35_ rfl rfl) ?_
              refine r_s rfl ?_
              refine s_store (us := encMsg zMsg zSl zSl) rfl rfl rfl ts35 rfl rfl (one_msg _ _ _) (i := 2) rfl rfl ?_
              refine r_y rfl rfl (y_assign rfl) ?_
              refine r_nil ?_
              refine hK119 _ _ _ ?_
              clear hK119 K119
              refine c_ret ?_
              refine e_ret 3 hm (res2 (r1_cell_a rfl ts35 (RdA.blk (i := 2) rfl rfl)) (r1_tmp rfl)) ?_
              have hx := rmsg_o (q := ⟨s0, l, false⟩) k1 k6 k8 k9 k10
              rw [decode_short hx ke]
              exact ⟨zSl, zSl, [], rfl, zMsg_ok _, rfl⟩
            ·
              refine c_skip ?_
              refine hK117 _ _ _ ?_
              clear hK117 K117
              refine c_seq (fun K120 hK120 => ?_)
              refine c_seq (fun K121 hK121 => ?_)
              refine c_region ?_
              refine r_y rfl rfl (y_move rfl) ?_
              refine r_y rfl rfl (y_move rfl) ?_
              refine r_yg rfl rfl rfl (y_move rfl) ?_
              refine r_yg rfl rfl rfl (y_nilCheck rfl) ?_
              refine r_yg rfl rfl rfl (y_fieldAddr rfl At.lit fo106_1 rfl) ?_
              refine r_yg rfl rfl rfl (y_load_s rfl ts3 (RdS.blk (i := 0) rfl rfl)) ?_
              refine r_yg rfl rfl rfl (y_move rfl) ?_
              refine r_yg rfl rfl rfl (y_len tl22 rfl) ?_
              refine r_yg rfl rfl rfl (y_iop rfl rfl rfl) ?_
              refine r_y rfl rfl (y_pickf rfl rfl rfl) ?_
              refine r_y rfl rfl (y_move rfl) ?_
              refine r_split (j := 10) rfl (fun hat => ?_) (fun hat => ?_)
              ·
                refine r_no' rfl rfl hat ?_
                refine r_no' rfl rfl hat ?_
                refine r_no' rfl rfl hat ?_
                refine r_y rfl rfl (y_pickt rfl hat rfl) ?_
                refine r_nil ?_
                refine hK121 _ _ _ ?_
                clear hK121 K121
                refine c_ift rfl rfl ?_
                refine c_seq (fun K122 hK122 => ?_)
                refine c_region ?_
                refine r_y rfl rfl (y_bld rfl tz35 fk35 bp35_ rfl rfl) ?_
                refine r_s rfl ?_
                refine s_store (us := encMsg zMsg zSl zSl) rfl rfl rfl ts35 rfl rfl (one_msg _ _ _) (i := 2) rfl rfl ?_
                refine r_y rfl rfl (y_assign rfl) ?_
                refine r_nil ?_
                refine hK122 _ _ _ ?_
                clear hK122 K122
                refine c_ret ?_
                refine e_ret 3 hm (res2 (r1_cell_a rfl ts35 (RdA.blk (i := 2) rfl rfl)) (r1_tmp rfl)) ?_
                have hx := rmsg_o (q := ⟨s0, l, false⟩) k1 k6 k8 k9 k10
                have hql := (rmsg0_suf (q := ⟨s0, l, false⟩) (Suf.start s0 l)).1
                have hln := Fz.lenB hz
                first
                  | (rw [decode_bad1 hx ke hodd]; exact ⟨zSl, zSl, [], rfl, zMsg_ok _, rfl⟩)
                  | (rw [decode_bad2 hx ke (at_bad hat hql hln)]; exact ⟨zSl, zSl, [], rfl, zMsg_ok _, rfl⟩)
                  | (rw [decode_bad3 hx ke kb]; exact ⟨zSl, zSl, [], rfl, zMsg_ok _, rfl⟩)
              ·
                refine r_yg rfl hat rfl (y_load_a (cs := encMsg ((rmsg0 ⟨s0, l, false⟩).1) zSl zSl) rfl ts35 (RdA.blk (i := 1) rfl rfl)) ?_
                refine r_sg rfl hat ?_
                refine s_call0 rfl Try.call24 rfl (rMsg_w' ((rmsg0 ⟨s0, l, false⟩).1) zSl zSl [] _ _ ⟨fzA_nil _, fun _ => rfl, fzR_nil _, rfl⟩ (Nat.zero_le _)) ?_
                rintro _ m2 _ hm2 ⟨rfl, rfl⟩
                replace hm := hm.trans hm2
                replace hz := hz.mono hm2
                clear hm2
                refine r_yg rfl hat rfl (y_not rfl) ?_
                refine r_y rfl rfl (y_pickf rfl hat rfl) ?_
                refine r_nil ?_
                refine hK121 _ _ _ ?_
                clear hK121 K121
                refine c_cond rfl (fun kb => ?_) (fun kb => ?_)
                ·
                  refine c_seq (fun K123 hK123 => ?_)
                  refine c_region ?_
                  refine r_y rfl rfl (y_bld rfl tz35 fk35 bp35_ rfl rfl) ?_
                  refine r_s rfl ?_
                  refine s_store (us := encMsg zMsg zSl zSl) rfl rfl rfl ts35 rfl rfl (one_msg _ _ _) (i := 2) rfl rfl ?_
                  refine r_y rfl rfl (y_assign rfl) ?_
                  refine r_nil ?_
                  refine hK123 _ _ _ ?_
                  clear hK123 K123
                  refine c_ret ?_
                  refine e_ret 3 hm (res2 (r1_cell_a rfl ts35 (RdA.blk (i := 2) rfl rfl)) (r1_tmp rfl)) ?_
                  have hx := rmsg_o (q := ⟨s0, l, false⟩) k1 k6 k8 k9 k10
                  have hql := (rmsg0_suf (q := ⟨s0, l, false⟩) (Suf.start s0 l)).1
                  have hln := Fz.lenB hz
                  first
                    | (rw [decode_bad1 hx ke hodd]; exact ⟨zSl, zSl, [], rfl, zMsg_ok _, rfl⟩)
                    | (rw [decode_bad2 hx ke (at_bad hat hql hln)]; exact ⟨zSl, zSl, [], rfl, zMsg_ok _, rfl⟩)
                    | (rw [decode_bad3 hx ke kb]; exact ⟨zSl, zSl, [], rfl, zMsg_ok _, rfl⟩)
                ·
                  refine c_skip ?_
                  refine hK120 _ _ _ ?_
                  clear hK120 K120
                  refine c_seq (fun K124 hK124 => ?_)
                  refine c_region ?_
                  refine r_y rfl rfl (y_load_a (cs := encMsg ((rmsg0 ⟨s0, l, false⟩).1) zSl zSl) rfl ts35 (RdA.blk (i := 1) rfl rfl)) ?_
                  refine r_s rfl ?_
                  refine s_store (us := encMsg ((rmsg0 ⟨s0, l, false⟩).1) zSl zSl) rfl rfl rfl ts35 rfl rfl (one_msg _ _ _) (i := 2) rfl rfl ?_
                  refine r_y rfl rfl (y_assign rfl) ?_
                  refine r_nil ?_
                  refine hK124 _ _ _ ?_
                  clear hK124 K124
                  refine c_ret ?_
                  refine e_ret 3 hm (res2 (r1_cell_a rfl ts35 (RdA.blk (i := 2) rfl rfl)) (r1_tmp rfl)) ?_
                  have hx := rmsg_o (q := ⟨s0, l, false⟩) k1 k6 k8 k9 k10
                  have hql := (rmsg0_suf (q := ⟨s0, l, false⟩) (Suf.start s0 l)).1
                  have hln := Fz.lenB hz
                  rw [decode_ok3 hx ke rfl (at_ok hat hql hln) kb]
                  exact ⟨zSl, zSl, [], rfl, ⟨fzA_nil _, fun _ => rfl, fzR_nil _, rfl⟩, rfl⟩
end Go.Aw
