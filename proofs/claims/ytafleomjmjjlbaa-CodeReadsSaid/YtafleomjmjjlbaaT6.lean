import Derived.Test.YtafleomjmjjlbaaT5
import Derived.Test.YtafleomjmjjlbaaData3
namespace Go.Aw
open Go Go.Proofs
theorem tz98 : tzero Try.prog 98 = some [.slice none 0 0, .bool false] := by kernel_rfl
theorem fk98 : fieldsKnown Try.prog 98 = true := by kernel_rfl
theorem bp98_0 : bplaces Try.prog 98 [0] = some [(0, 1)] := by kernel_rfl
theorem fk35 : fieldsKnown Try.prog 35 = true := by kernel_rfl
theorem bp35_0_1 : bplaces Try.prog 35 [0, 1] = some [(0, 1), (1, 1)] := by kernel_rfl
theorem bp35_ : bplaces Try.prog 35 [] = some [] := by kernel_rfl
set_option maxRecDepth 100000 in
theorem decode_w (s : Sl) (l : List UInt8) (m : Snap) (H : Hp) (hz : FzB m s l) : Fn Try.prog 18 [s.v] m H (fun v m' H' => ∃ sm sr lr, v = .tuple [.agg (encMsg (decode s l).1 sm sr).toArray, .int .i64 (decode s l).2].toArray ∧ MsgOk m' (decode s l).1 sm sr lr ∧ H' = H) := by
  have hm : m.le m := Snap.le.refl m
  refine fn_end Try.func18 rfl rfl rfl ?_
  refine c_seq (fun K0 hK0 => ?_)
  refine c_region ?_
  refine r_s rfl ?_
  refine s_alloc rfl tz35 (fun b0 => ?_)
  refine r_y rfl rfl (y_assign rfl) ?_
  refine r_nil ?_
  refine hK0 _ _ _ ?_
  clear hK0 K0
  refine c_seq (fun K1 hK1 => ?_)
  refine c_region ?_
  refine r_y rfl rfl (y_move rfl) ?_
  refine r_y rfl rfl (y_bld rfl tz98 fk98 bp98_0 rfl rfl) ?_
  refine r_s rfl ?_
  refine s_box_a rfl rfl (fun r => ?_)
  refine r_y rfl rfl (y_assign rfl) ?_
  refine r_nil ?_
  refine hK1 _ _ _ ?_
  clear hK1 K1
  refine c_seq (fun K2 hK2 => ?_)
  refine c_region ?_
  refine r_y rfl rfl (y_move rfl) ?_
  refine r_s rfl ?_
  refine s_call0 rfl Try.call53 rfl (num_ok r (⟨s, l, false⟩) 1 _ _ (hz) (by decide)) ?_
  rintro _ m2 _ hm2 ⟨rfl, rfl⟩
  replace hm := hm.trans hm2
  replace hz := hz.mono hm2
  clear hm2
  refine r_y rfl rfl (y_move rfl) ?_
  refine r_s rfl ?_
  refine s_call0 rfl Try.call53 rfl (num_ok r ((rint 1 (⟨s, l, false⟩)).2) 4 _ _ (rint_ok (hz)) (by decide)) ?_
  rintro _ m2 _ hm2 ⟨rfl, rfl⟩
  replace hm := hm.trans hm2
  replace hz := hz.mono hm2
  clear hm2
  refine r_y rfl rfl (y_bld rfl tz35 fk35 bp35_0_1 rfl rfl) ?_
  refine r_s rfl ?_
  refine s_alloc rfl tz35 (fun b1 => ?_)
  refine r_s rfl ?_
  refine s_store (us := encMsg (rmsg0 ⟨s, l, false⟩).1 zSl zSl) rfl rfl rfl ts35 rfl rfl (one_msg _ _ _) (i := 0) rfl rfl ?_
  refine r_nil ?_
  refine hK2 _ _ _ ?_
  clear hK2 K2
  refine c_seq (fun K3 hK3 => ?_)
  refine c_region ?_
  refine r_y rfl rfl (y_assign rfl) ?_
  refine r_nil ?_
  refine hK3 _ _ _ ?_
  clear hK3 K3
  refine c_seq (fun K4 hK4 => ?_)
  refine c_seq (fun K5 hK5 => ?_)
  refine c_region ?_
  refine r_y rfl rfl (y_fieldAddr rfl At.lit fo35_0 rfl) ?_
  refine r_y rfl rfl (y_load_s rfl ts3 (RdS.blk (i := 0) rfl rfl)) ?_
  refine r_nil ?_
  refine hK5 _ _ _ ?_
  clear hK5 K5
  refine c_block ?_
  refine c_seq (fun K6 hK6 => ?_)
  refine c_region ?_
  refine r_y rfl rfl (y_iop rfl rfl rfl) ?_
  refine r_y rfl rfl (y_assign rfl) ?_
  refine r_nil ?_
  refine hK6 _ _ _ ?_
  clear hK6 K6
  refine c_cond rfl (fun k1 => ?_) (fun k1 => ?_)
  ·
    refine c_region ?_
    refine r_y rfl rfl (y_move rfl) ?_
    refine r_front 1 rfl ?_
    refine r_s rfl ?_
    refine s_call0 rfl Try.call54 rfl (rmod_w r ((rmsg0 ⟨s, l, false⟩).2) _ _ (rmsg0_ok (q := ⟨s, l, false⟩) hz)) ?_
    rintro _ m2 _ hm2 ⟨sa, rfl, hza, hsa, rfl⟩
    replace hm := hm.trans hm2
    replace hz := hz.mono hm2
    clear hm2
    refine r_y rfl rfl (y_move rfl) ?_
    refine r_y rfl rfl (y_extract rfl rfl) ?_
    refine r_y rfl rfl (y_extract rfl rfl) ?_
    refine r_y rfl rfl (y_fieldAddr rfl At.lit fo35_3 rfl) ?_
    refine r_s rfl ?_
    refine s_store (us := encMod (rmod ((rmsg0 ⟨s, l, false⟩).2)).1.1 sa) rfl rfl rfl ts32 rfl rfl (one_mod _ _) (i := 1) rfl rfl ?_
    refine r_y rfl rfl (y_assign rfl) ?_
    refine r_nil ?_
    refine hK4 _ _ _ ?_
    clear hK4 K4
    refine c_seq (fun K7 hK7 => ?_)
    refine c_block ?_
    refine c_seq (fun K8 hK8 => ?_)
    refine c_region ?_
    refine r_y rfl rfl (y_move rfl) ?_
    refine r_y rfl rfl (y_nilCheck rfl) ?_
    refine r_y rfl rfl (y_fieldAddr rfl At.lit fo98_1 rfl) ?_
    refine r_y rfl rfl (y_load_s rfl ts4 (RdS.blk (i := 0) rfl rfl)) ?_
    refine r_y rfl rfl (y_assign rfl) ?_
    refine r_nil ?_
    refine hK8 _ _ _ ?_
    clear hK8 K8
    refine c_cond rfl (fun ke => ?_) (fun ke => ?_)
    ·
      refine c_seq (fun K9 hK9 => ?_)
      refine c_region ?_
      refine r_y rfl rfl (y_bld rfl tz35 fk35 bp35_ rfl rfl) ?_
      refine r_s rfl ?_
      refine s_store (us := encMsg zMsg zSl zSl) rfl rfl rfl ts35 rfl rfl (one_msg _ _ _) (i := 2) rfl rfl ?_
      refine r_y rfl rfl (y_assign rfl) ?_
      refine r_nil ?_
      refine hK9 _ _ _ ?_
      clear hK9 K9
      refine c_ret ?_
      refine e_ret 3 hm (res2 (r1_cell_a rfl ts35 (RdA.blk (i := 2) rfl rfl)) (r1_tmp rfl)) ?_
      have hx := rmsg_1 (q := ⟨s, l, false⟩) k1
      rw [decode_short hx ke]
      exact ⟨zSl, zSl, [], rfl, zMsg_ok _, rfl⟩
    ·
      refine c_seq (fun K10 hK10 => ?_)
      refine c_region ?_
      refine r_y rfl rfl (y_move rfl) ?_
      refine r_y rfl rfl (y_not rfl) ?_
      refine r_y rfl rfl (y_move rfl) ?_
      refine r_split (j := 2) rfl (fun h2 => ?_) (fun h2 => ?_)
      ·
        refine r_no' rfl rfl h2 ?_
        refine r_no' rfl rfl h2 ?_
        refine r_no' rfl rfl h2 ?_
        refine r_no' rfl rfl h2 ?_
        refine r_no' rfl rfl h2 ?_
        refine r_no' rfl rfl h2 ?_
        refine r_y rfl rfl (y_pickt rfl h2 rfl) ?_
        refine r_y rfl rfl (y_move rfl) ?_
        refine r_no' rfl rfl rfl ?_
        refine r_no' rfl rfl rfl ?_
        refine r_no' rfl rfl rfl ?_
        refine r_y rfl rfl (y_pickt rfl rfl rfl) ?_
        refine r_y rfl rfl (y_assign rfl) ?_
        refine r_nil ?_
        refine hK10 _ _ _ ?_
        clear hK10 K10
        refine c_ift rfl rfl ?_
        refine c_seq (fun K11 hK11 => ?_)
        refine c_region ?_
        refine r_y rfl rfl (y_bld rfl tz35 fk35 bp35_ rfl rfl) ?_
        refine r_s rfl ?_
        refine s_store (us := encMsg zMsg zSl zSl) rfl rfl rfl ts35 rfl rfl (one_msg _ _ _) (i := 2) rfl rfl ?_
        refine r_y rfl rfl (y_assign rfl) ?_
        refine r_nil ?_
        refine hK11 _ _ _ ?_
        clear hK11 K11
        refine c_ret ?_
        refine e_ret 3 hm (res2 (r1_cell_a rfl ts35 (RdA.blk (i := 2) rfl rfl)) (r1_tmp rfl)) ?_
        have hx := rmsg_1 (q := ⟨s, l, false⟩) k1
        have hql := Fz.lenB (s := ((rmod ((rmsg0 ⟨s, l, false⟩).2)).2).s) (l := ((rmod ((rmsg0 ⟨s, l, false⟩).2)).2).l) (rmod_ok (rmsg0_ok (q := ⟨s, l, false⟩) hz))
        rw [decode_bad hx ke (by simp_all)]
        exact ⟨zSl, zSl, [], rfl, zMsg_ok _, rfl⟩
      ·
        refine r_yg rfl h2 rfl (y_move rfl) ?_
        refine r_yg rfl h2 rfl (y_nilCheck rfl) ?_
        refine r_yg rfl h2 rfl (y_fieldAddr rfl At.lit fo98_0 rfl) ?_
        refine r_yg rfl h2 rfl (y_load_s rfl ts22 (RdS.blk (i := 0) rfl rfl)) ?_
        refine r_yg rfl h2 rfl (y_len tl22 rfl) ?_
        refine r_yg rfl h2 rfl (y_iop rfl rfl rfl) ?_
        refine r_y rfl rfl (y_pickf rfl h2 rfl) ?_
        refine r_y rfl rfl (y_move rfl) ?_
        refine r_split (j := 10) rfl (fun h3 => ?_) (fun h3 => ?_)
        ·
          refine r_no' rfl rfl h3 ?_
          refine r_no' rfl rfl h3 ?_
          refine r_no' rfl rfl h3 ?_
          refine r_y rfl rfl (y_pickt rfl h3 rfl) ?_
          refine r_y rfl rfl (y_assign rfl) ?_
          refine r_nil ?_
          refine hK10 _ _ _ ?_
          clear hK10 K10
          refine c_ift rfl rfl ?_
          refine c_seq (fun K12 hK12 => ?_)
          refine c_region ?_
          refine r_y rfl rfl (y_bld rfl tz35 fk35 bp35_ rfl rfl) ?_
          refine r_s rfl ?_
          refine s_store (us := encMsg zMsg zSl zSl) rfl rfl rfl ts35 rfl rfl (one_msg _ _ _) (i := 2) rfl rfl ?_
          refine r_y rfl rfl (y_assign rfl) ?_
          refine r_nil ?_
          refine hK12 _ _ _ ?_
          clear hK12 K12
          refine c_ret ?_
          refine e_ret 3 hm (res2 (r1_cell_a rfl ts35 (RdA.blk (i := 2) rfl rfl)) (r1_tmp rfl)) ?_
          have hx := rmsg_1 (q := ⟨s, l, false⟩) k1
          have hql := Fz.lenB (s := ((rmod ((rmsg0 ⟨s, l, false⟩).2)).2).s) (l := ((rmod ((rmsg0 ⟨s, l, false⟩).2)).2).l) (rmod_ok (rmsg0_ok (q := ⟨s, l, false⟩) hz))
          rw [decode_bad hx ke (by simp_all)]
          exact ⟨zSl, zSl, [], rfl, zMsg_ok _, rfl⟩
        ·
          refine r_yg rfl h3 rfl (y_load_a (cs := encMsg ({ (rmsg0 ⟨s, l, false⟩).1 with mod := (rmod (rmsg0 ⟨s, l, false⟩).2).1.1 }) sa zSl) rfl ts35 (RdA.blk (i := 1) rfl rfl)) ?_
          refine r_sg rfl h3 ?_
          refine s_call0 rfl Try.call30 rfl (msgSound_ok ({ (rmsg0 ⟨s, l, false⟩).1 with mod := (rmod (rmsg0 ⟨s, l, false⟩).2).1.1 }) sa zSl [] _ _ ⟨hza, hsa, fzR_nil _, rfl⟩) ?_
          rintro _ m2 _ hm2 ⟨rfl, rfl⟩
          replace hm := hm.trans hm2
          replace hz := hz.mono hm2
          replace hza := hza.mono hm2
          clear hm2
          refine r_yg rfl h3 rfl (y_not rfl) ?_
          refine r_y rfl rfl (y_pickf rfl h3 rfl) ?_
          refine r_y rfl rfl (y_assign rfl) ?_
          refine r_nil ?_
          refine hK10 _ _ _ ?_
          clear hK10 K10
          refine c_cond rfl (fun kb => ?_) (fun kb => ?_)
          ·
            refine c_seq (fun K13 hK13 => ?_)
            refine c_region ?_
            refine r_y rfl rfl (y_bld rfl tz35 fk35 bp35_ rfl rfl) ?_
            refine r_s rfl ?_
            refine s_store (us := encMsg zMsg zSl zSl) rfl rfl rfl ts35 rfl rfl (one_msg _ _ _) (i := 2) rfl rfl ?_
            refine r_y rfl rfl (y_assign rfl) ?_
            refine r_nil ?_
            refine hK13 _ _ _ ?_
            clear hK13 K13
            refine c_ret ?_
            refine e_ret 3 hm (res2 (r1_cell_a rfl ts35 (RdA.blk (i := 2) rfl rfl)) (r1_tmp rfl)) ?_
            have hx := rmsg_1 (q := ⟨s, l, false⟩) k1
            have hql := Fz.lenB (s := ((rmod ((rmsg0 ⟨s, l, false⟩).2)).2).s) (l := ((rmod ((rmsg0 ⟨s, l, false⟩).2)).2).l) (rmod_ok (rmsg0_ok (q := ⟨s, l, false⟩) hz))
            rw [decode_bad hx ke (by simp_all)]
            exact ⟨zSl, zSl, [], rfl, zMsg_ok _, rfl⟩
          ·
            refine c_skip ?_
            refine hK7 _ _ _ ?_
            clear hK7 K7
            refine c_seq (fun K14 hK14 => ?_)
            refine c_region ?_
            refine r_y rfl rfl (y_load_a (cs := encMsg ({ (rmsg0 ⟨s, l, false⟩).1 with mod := (rmod (rmsg0 ⟨s, l, false⟩).2).1.1 }) sa zSl) rfl ts35 (RdA.blk (i := 1) rfl rfl)) ?_
            refine r_s rfl ?_
            refine s_store (us := encMsg ({ (rmsg0 ⟨s, l, false⟩).1 with mod := (rmod (rmsg0 ⟨s, l, false⟩).2).1.1 }) sa zSl) rfl rfl rfl ts35 rfl rfl (one_msg _ _ _) (i := 2) rfl rfl ?_
            refine r_y rfl rfl (y_assign rfl) ?_
            refine r_nil ?_
            refine hK14 _ _ _ ?_
            clear hK14 K14
            refine c_ret ?_
            refine e_ret 3 hm (res2 (r1_cell_a rfl ts35 (RdA.blk (i := 2) rfl rfl)) (r1_tmp rfl)) ?_
            have hx := rmsg_1 (q := ⟨s, l, false⟩) k1
            have hql := Fz.lenB (s := ((rmod ((rmsg0 ⟨s, l, false⟩).2)).2).s) (l := ((rmod ((rmsg0 ⟨s, l, false⟩).2)).2).l) (rmod_ok (rmsg0_ok (q := ⟨s, l, false⟩) hz))
            rw [decode_ok hx ke (by simp_all)]
            exact ⟨sa, zSl, [], rfl, ⟨hza, hsa, fzR_nil _, rfl⟩, rfl⟩
  ·
    refine c_seq (fun K15 hK15 => ?_)
    refine c_region ?_
    refine r_y rfl rfl (y_iop rfl rfl rfl) ?_
    refine r_y rfl rfl (y_assign rfl) ?_
    refine r_nil ?_
    refine hK15 _ _ _ ?_
    clear hK15 K15
    refine c_cond rfl (fun k6 => ?_) (fun k6 => ?_)
    ·
      refine c_region ?_
      refine r_y rfl rfl (y_move rfl) ?_
      refine r_front 1 rfl ?_
      refine r_s rfl ?_
      refine s_call0 rfl Try.call53 rfl (num_ok r ((rmsg0 ⟨s, l, false⟩).2) 1 _ _ (rmsg0_ok (q := ⟨s, l, false⟩) hz) (by decide)) ?_
      rintro _ m2 _ hm2 ⟨rfl, rfl⟩
      replace hm := hm.trans hm2
      replace hz := hz.mono hm2
      clear hm2
      refine r_y rfl rfl (y_fieldAddr rfl At.lit fo35_2 rfl) ?_
      refine r_s rfl ?_
      refine s_store rfl rfl rfl ts24 rfl rfl (by simp [Value.oneCell', wv, Sl.v]) (i := 1) rfl rfl ?_
      refine r_nil ?_
      refine hK4 _ _ _ ?_
      clear hK4 K4
      refine c_seq (fun K16 hK16 => ?_)
      refine c_block ?_
      refine c_seq (fun K17 hK17 => ?_)
      refine c_region ?_
      refine r_y rfl rfl (y_move rfl) ?_
      refine r_y rfl rfl (y_nilCheck rfl) ?_
      refine r_y rfl rfl (y_fieldAddr rfl At.lit fo98_1 rfl) ?_
      refine r_y rfl rfl (y_load_s rfl ts4 (RdS.blk (i := 0) rfl rfl)) ?_
      refine r_y rfl rfl (y_assign rfl) ?_
      refine r_nil ?_
      refine hK17 _ _ _ ?_
      clear hK17 K17
      refine c_cond rfl (fun ke => ?_) (fun ke => ?_)
      ·
        refine c_seq (fun K18 hK18 => ?_)
        refine c_region ?_
        refine r_y rfl rfl (y_bld rfl tz35 fk35 bp35_ rfl rfl) ?_
        refine r_s rfl ?_
        refine s_store (us := encMsg zMsg zSl zSl) rfl rfl rfl ts35 rfl rfl (one_msg _ _ _) (i := 2) rfl rfl ?_
        refine r_y rfl rfl (y_assign rfl) ?_
        refine r_nil ?_
        refine hK18 _ _ _ ?_
        clear hK18 K18
        refine c_ret ?_
        refine e_ret 3 hm (res2 (r1_cell_a rfl ts35 (RdA.blk (i := 2) rfl rfl)) (r1_tmp rfl)) ?_
        have hx := rmsg_6 (q := ⟨s, l, false⟩) k1 k6
        rw [decode_short hx ke]
        exact ⟨zSl, zSl, [], rfl, zMsg_ok _, rfl⟩
      ·
        refine c_seq (fun K19 hK19 => ?_)
        refine c_region ?_
        refine r_y rfl rfl (y_move rfl) ?_
        refine r_y rfl rfl (y_not rfl) ?_
        refine r_y rfl rfl (y_move rfl) ?_
        refine r_yg rfl rfl rfl (y_move rfl) ?_
        refine r_yg rfl rfl rfl (y_nilCheck rfl) ?_
        refine r_yg rfl rfl rfl (y_fieldAddr rfl At.lit fo98_0 rfl) ?_
        refine r_yg rfl rfl rfl (y_load_s rfl ts22 (RdS.blk (i := 0) rfl rfl)) ?_
        refine r_yg rfl rfl rfl (y_len tl22 rfl) ?_
        refine r_yg rfl rfl rfl (y_iop rfl rfl rfl) ?_
        refine r_y rfl rfl (y_pickf rfl rfl rfl) ?_
        refine r_y rfl rfl (y_move rfl) ?_
        refine r_split (j := 10) rfl (fun h7 => ?_) (fun h7 => ?_)
        ·
          refine r_no' rfl rfl h7 ?_
          refine r_no' rfl rfl h7 ?_
          refine r_no' rfl rfl h7 ?_
          refine r_y rfl rfl (y_pickt rfl h7 rfl) ?_
          refine r_y rfl rfl (y_assign rfl) ?_
          refine r_nil ?_
          refine hK19 _ _ _ ?_
          clear hK19 K19
          refine c_ift rfl rfl ?_
          refine c_seq (fun K20 hK20 => ?_)
          refine c_region ?_
          refine r_y rfl rfl (y_bld rfl tz35 fk35 bp35_ rfl rfl) ?_
          refine r_s rfl ?_
          refine s_store (us := encMsg zMsg zSl zSl) rfl rfl rfl ts35 rfl rfl (one_msg _ _ _) (i := 2) rfl rfl ?_
          refine r_y rfl rfl (y_assign rfl) ?_
          refine r_nil ?_
          refine hK20 _ _ _ ?_
          clear hK20 K20
          refine c_ret ?_
          refine e_ret 3 hm (res2 (r1_cell_a rfl ts35 (RdA.blk (i := 2) rfl rfl)) (r1_tmp rfl)) ?_
          have hx := rmsg_6 (q := ⟨s, l, false⟩) k1 k6
          have hql := Fz.lenB (s := ((rint 1 ((rmsg0 ⟨s, l, false⟩).2)).2).s) (l := ((rint 1 ((rmsg0 ⟨s, l, false⟩).2)).2).l) (rint_ok (rmsg0_ok (q := ⟨s, l, false⟩) hz))
          rw [decode_bad hx ke (by simp_all)]
          exact ⟨zSl, zSl, [], rfl, zMsg_ok _, rfl⟩
        ·
          refine r_yg rfl h7 rfl (y_load_a (cs := encMsg ({ (rmsg0 ⟨s, l, false⟩).1 with e := (rint 1 (rmsg0 ⟨s, l, false⟩).2).1 }) zSl zSl) rfl ts35 (RdA.blk (i := 1) rfl rfl)) ?_
          refine r_sg rfl h7 ?_
          refine s_call0 rfl Try.call30 rfl (msgSound_ok ({ (rmsg0 ⟨s, l, false⟩).1 with e := (rint 1 (rmsg0 ⟨s, l, false⟩).2).1 }) zSl zSl [] _ _ ⟨fzA_nil _, fun _ => rfl, fzR_nil _, rfl⟩) ?_
          rintro _ m2 _ hm2 ⟨rfl, rfl⟩
          replace hm := hm.trans hm2
          replace hz := hz.mono hm2
          clear hm2
          refine r_yg rfl h7 rfl (y_not rfl) ?_
          refine r_y rfl rfl (y_pickf rfl h7 rfl) ?_
          refine r_y rfl rfl (y_assign rfl) ?_
          refine r_nil ?_
          refine hK19 _ _ _ ?_
          clear hK19 K19
          refine c_cond rfl (fun kb => ?_) (fun kb => ?_)
          ·
            refine c_seq (fun K21 hK21 => ?_)
            refine c_region ?_
            refine r_y rfl rfl (y_bld rfl tz35 fk35 bp35_ rfl rfl) ?_
            refine r_s rfl ?_
            refine s_store (us := encMsg zMsg zSl zSl) rfl rfl rfl ts35 rfl rfl (one_msg _ _ _) (i := 2) rfl rfl ?_
            refine r_y rfl rfl (y_assign rfl) ?_
            refine r_nil ?_
            refine hK21 _ _ _ ?_
            clear hK21 K21
            refine c_ret ?_
            refine e_ret 3 hm (res2 (r1_cell_a rfl ts35 (RdA.blk (i := 2) rfl rfl)) (r1_tmp rfl)) ?_
            have hx := rmsg_6 (q := ⟨s, l, false⟩) k1 k6
            have hql := Fz.lenB (s := ((rint 1 ((rmsg0 ⟨s, l, false⟩).2)).2).s) (l := ((rint 1 ((rmsg0 ⟨s, l, false⟩).2)).2).l) (rint_ok (rmsg0_ok (q := ⟨s, l, false⟩) hz))
            rw [decode_bad hx ke (by simp_all)]
            exact ⟨zSl, zSl, [], rfl, zMsg_ok _, rfl⟩
          ·
            refine c_skip ?_
            refine hK16 _ _ _ ?_
            clear hK16 K16
            refine c_seq (fun K22 hK22 => ?_)
            refine c_region ?_
            refine r_y rfl rfl (y_load_a (cs := encMsg ({ (rmsg0 ⟨s, l, false⟩).1 with e := (rint 1 (rmsg0 ⟨s, l, false⟩).2).1 }) zSl zSl) rfl ts35 (RdA.blk (i := 1) rfl rfl)) ?_
            refine r_s rfl ?_
            refine s_store (us := encMsg ({ (rmsg0 ⟨s, l, false⟩).1 with e := (rint 1 (rmsg0 ⟨s, l, false⟩).2).1 }) zSl zSl) rfl rfl rfl ts35 rfl rfl (one_msg _ _ _) (i := 2) rfl rfl ?_
            refine r_y rfl rfl (y_assign rfl) ?_
            refine r_nil ?_
            refine hK22 _ _ _ ?_
            clear hK22 K22
            refine c_ret ?_
            refine e_ret 3 hm (res2 (r1_cell_a rfl ts35 (RdA.blk (i := 2) rfl rfl)) (r1_tmp rfl)) ?_
            have hx := rmsg_6 (q := ⟨s, l, false⟩) k1 k6
            have hql := Fz.lenB (s := ((rint 1 ((rmsg0 ⟨s, l, false⟩).2)).2).s) (l := ((rint 1 ((rmsg0 ⟨s, l, false⟩).2)).2).l) (rint_ok (rmsg0_ok (q := ⟨s, l, false⟩) hz))
            rw [decode_ok hx ke (by simp_all)]
            exact ⟨zSl, zSl, [], rfl, ⟨fzA_nil _, fun _ => rfl, fzR_nil _, rfl⟩, rfl⟩
    ·
      refine c_seq (fun K23 hK23 => ?_)
      refine c_region ?_
      refine r_y rfl rfl (y_iop rfl rfl rfl) ?_
      refine r_y rfl rfl (y_assign rfl) ?_
      refine r_nil ?_
      refine hK23 _ _ _ ?_
      clear hK23 K23
      refine c_cond rfl (fun k8 => ?_) (fun k8 => ?_)
      ·
        refine c_region ?_
        refine r_y rfl rfl (y_move rfl) ?_
        refine r_front 1 rfl ?_
        refine r_s rfl ?_
        refine s_call0 rfl Try.call53 rfl (num_ok r ((rmsg0 ⟨s, l, false⟩).2) 1 _ _ (rmsg0_ok (q := ⟨s, l, false⟩) hz) (by decide)) ?_
        rintro _ m2 _ hm2 ⟨rfl, rfl⟩
        replace hm := hm.trans hm2
        replace hz := hz.mono hm2
        clear hm2
        refine r_y rfl rfl (y_move rfl) ?_
        refine r_s rfl ?_
        refine s_call0 rfl Try.call55 rfl (rhead_w r ((rint 1 ((rmsg0 ⟨s, l, false⟩).2)).2) _ _ (rint_ok (rmsg0_ok (q := ⟨s, l, false⟩) hz))) ?_
        rintro _ m2 _ hm2 ⟨rfl, rfl⟩
        replace hm := hm.trans hm2
        replace hz := hz.mono hm2
        clear hm2
        refine r_y rfl rfl (y_fieldAddr rfl At.lit fo35_4 rfl) ?_
        refine r_s rfl ?_
        refine s_store rfl rfl rfl ts3 rfl rfl (by simp [Value.oneCell', wv, Sl.v]) (i := 1) rfl rfl ?_
        refine r_y rfl rfl (y_fieldAddr rfl At.lit fo35_5 rfl) ?_
        refine r_s rfl ?_
        refine s_store (us := encHead (rhead ((rint 1 ((rmsg0 ⟨s, l, false⟩).2)).2)).1) rfl rfl rfl ts27 rfl rfl (one_head _) (i := 1) rfl rfl ?_
        refine r_nil ?_
        refine hK4 _ _ _ ?_
        clear hK4 K4
        refine c_seq (fun K24 hK24 => ?_)
        refine c_block ?_
        refine c_seq (fun K25 hK25 => ?_)
        refine c_region ?_
        refine r_y rfl rfl (y_move rfl) ?_
        refine r_y rfl rfl (y_nilCheck rfl) ?_
        refine r_y rfl rfl (y_fieldAddr rfl At.lit fo98_1 rfl) ?_
        refine r_y rfl rfl (y_load_s rfl ts4 (RdS.blk (i := 0) rfl rfl)) ?_
        refine r_y rfl rfl (y_assign rfl) ?_
        refine r_nil ?_
        refine hK25 _ _ _ ?_
        clear hK25 K25
        refine c_cond rfl (fun ke => ?_) (fun ke => ?_)
        ·
          refine c_seq (fun K26 hK26 => ?_)
          refine c_region ?_
          refine r_y rfl rfl (y_bld rfl tz35 fk35 bp35_ rfl rfl) ?_
          refine r_s rfl ?_
          refine s_store (us := encMsg zMsg zSl zSl) rfl rfl rfl ts35 rfl rfl (one_msg _ _ _) (i := 2) rfl rfl ?_
          refine r_y rfl rfl (y_assign rfl) ?_
          refine r_nil ?_
          refine hK26 _ _ _ ?_
          clear hK26 K26
          refine c_ret ?_
          refine e_ret 3 hm (res2 (r1_cell_a rfl ts35 (RdA.blk (i := 2) rfl rfl)) (r1_tmp rfl)) ?_
          have hx := rmsg_8 (q := ⟨s, l, false⟩) k1 k6 k8
          rw [decode_short hx ke]
          exact ⟨zSl, zSl, [], rfl, zMsg_ok _, rfl⟩
        ·
          refine c_seq (fun K27 hK27 => ?_)
          refine c_region ?_
          refine r_y rfl rfl (y_move rfl) ?_
          refine r_y rfl rfl (y_not rfl) ?_
          refine r_y rfl rfl (y_move rfl) ?_
          refine r_yg rfl rfl rfl (y_move rfl) ?_
          refine r_yg rfl rfl rfl (y_nilCheck rfl) ?_
          refine r_yg rfl rfl rfl (y_fieldAddr rfl At.lit fo98_0 rfl) ?_
          refine r_yg rfl rfl rfl (y_load_s rfl ts22 (RdS.blk (i := 0) rfl rfl)) ?_
          refine r_yg rfl rfl rfl (y_len tl22 rfl) ?_
          refine r_yg rfl rfl rfl (y_iop rfl rfl rfl) ?_
          refine r_y rfl rfl (y_pickf rfl rfl rfl) ?_
          refine r_y rfl rfl (y_move rfl) ?_
          refine r_split (j := 10) rfl (fun h11 => ?_) (fun h11 => ?_)
          ·
            refine r_no' rfl rfl h11 ?_
            refine r_no' rfl rfl h11 ?_
            refine r_no' rfl rfl h11 ?_
            refine r_y rfl rfl (y_pickt rfl h11 rfl) ?_
            refine r_y rfl rfl (y_assign rfl) ?_
            refine r_nil ?_
            refine hK27 _ _ _ ?_
            clear hK27 K27
            refine c_ift rfl rfl ?_
            refine c_seq (fun K28 hK28 => ?_)
            refine c_region ?_
            refine r_y rfl rfl (y_bld rfl tz35 fk35 bp35_ rfl rfl) ?_
            refine r_s rfl ?_
            refine s_store (us := encMsg zMsg zSl zSl) rfl rfl rfl ts35 rfl rfl (one_msg _ _ _) (i := 2) rfl rfl ?_
            refine r_y rfl rfl (y_assign rfl) ?_
            refine r_nil ?_
            refine hK28 _ _ _ ?_
            clear hK28 K28
            refine c_ret ?_
            refine e_ret 3 hm (res2 (r1_cell_a rfl ts35 (RdA.blk (i := 2) rfl rfl)) (r1_tmp rfl)) ?_
            have hx := rmsg_8 (q := ⟨s, l, false⟩) k1 k6 k8
            have hql := Fz.lenB (s := ((rhead ((rint 1 ((rmsg0 ⟨s, l, false⟩).2)).2)).2).s) (l := ((rhead ((rint 1 ((rmsg0 ⟨s, l, false⟩).2)).2)).2).l) (rhead_ok (rint_ok (rmsg0_ok (q := ⟨s, l, false⟩) hz)))
            rw [decode_bad hx ke (by simp_all)]
            exact ⟨zSl, zSl, [], rfl, zMsg_ok _, rfl⟩
          ·
            refine r_yg rfl h11 rfl (y_load_a (cs := encMsg ({ (rmsg0 ⟨s, l, false⟩).1 with port := (rint 1 (rmsg0 ⟨s, l, false⟩).2).1, head := (rhead (rint 1 (rmsg0 ⟨s, l, false⟩).2).2).1 }) zSl zSl) rfl ts35 (RdA.blk (i := 1) rfl rfl)) ?_
            refine r_sg rfl h11 ?_
            refine s_call0 rfl Try.call30 rfl (msgSound_ok ({ (rmsg0 ⟨s, l, false⟩).1 with port := (rint 1 (rmsg0 ⟨s, l, false⟩).2).1, head := (rhead (rint 1 (rmsg0 ⟨s, l, false⟩).2).2).1 }) zSl zSl [] _ _ ⟨fzA_nil _, fun _ => rfl, fzR_nil _, rfl⟩) ?_
            rintro _ m2 _ hm2 ⟨rfl, rfl⟩
            replace hm := hm.trans hm2
            replace hz := hz.mono hm2
            clear hm2
            refine r_yg rfl h11 rfl (y_not rfl) ?_
            refine r_y rfl rfl (y_pickf rfl h11 rfl) ?_
            refine r_y rfl rfl (y_assign rfl) ?_
            refine r_nil ?_
            refine hK27 _ _ _ ?_
            clear hK27 K27
            refine c_cond rfl (fun kb => ?_) (fun kb => ?_)
            ·
              refine c_seq (fun K29 hK29 => ?_)
              refine c_region ?_
              refine r_y rfl rfl (y_bld rfl tz35 fk35 bp35_ rfl rfl) ?_
              refine r_s rfl ?_
              refine s_store (us := encMsg zMsg zSl zSl) rfl rfl rfl ts35 rfl rfl (one_msg _ _ _) (i := 2) rfl rfl ?_
              refine r_y rfl rfl (y_assign rfl) ?_
              refine r_nil ?_
              refine hK29 _ _ _ ?_
              clear hK29 K29
              refine c_ret ?_
              refine e_ret 3 hm (res2 (r1_cell_a rfl ts35 (RdA.blk (i := 2) rfl rfl)) (r1_tmp rfl)) ?_
              have hx := rmsg_8 (q := ⟨s, l, false⟩) k1 k6 k8
              have hql := Fz.lenB (s := ((rhead ((rint 1 ((rmsg0 ⟨s, l, false⟩).2)).2)).2).s) (l := ((rhead ((rint 1 ((rmsg0 ⟨s, l, false⟩).2)).2)).2).l) (rhead_ok (rint_ok (rmsg0_ok (q := ⟨s, l, false⟩) hz)))
              rw [decode_bad hx ke (by simp_all)]
              exact ⟨zSl, zSl, [], rfl, zMsg_ok _, rfl⟩
            ·
              refine c_skip ?_
              refine hK24 _ _ _ ?_
              clear hK24 K24
              refine c_seq (fun K30 hK30 => ?_)
              refine c_region ?_
              refine r_y rfl rfl (y_load_a (cs := encMsg ({ (rmsg0 ⟨s, l, false⟩).1 with port := (rint 1 (rmsg0 ⟨s, l, false⟩).2).1, head := (rhead (rint 1 (rmsg0 ⟨s, l, false⟩).2).2).1 }) zSl zSl) rfl ts35 (RdA.blk (i := 1) rfl rfl)) ?_
              refine r_s rfl ?_
              refine s_store (us := encMsg ({ (rmsg0 ⟨s, l, false⟩).1 with port := (rint 1 (rmsg0 ⟨s, l, false⟩).2).1, head := (rhead (rint 1 (rmsg0 ⟨s, l, false⟩).2).2).1 }) zSl zSl) rfl rfl rfl ts35 rfl rfl (one_msg _ _ _) (i := 2) rfl rfl ?_
              refine r_y rfl rfl (y_assign rfl) ?_
              refine r_nil ?_
              refine hK30 _ _ _ ?_
              clear hK30 K30
              refine c_ret ?_
              refine e_ret 3 hm (res2 (r1_cell_a rfl ts35 (RdA.blk (i := 2) rfl rfl)) (r1_tmp rfl)) ?_
              have hx := rmsg_8 (q := ⟨s, l, false⟩) k1 k6 k8
              have hql := Fz.lenB (s := ((rhead ((rint 1 ((rmsg0 ⟨s, l, false⟩).2)).2)).2).s) (l := ((rhead ((rint 1 ((rmsg0 ⟨s, l, false⟩).2)).2)).2).l) (rhead_ok (rint_ok (rmsg0_ok (q := ⟨s, l, false⟩) hz)))
              rw [decode_ok hx ke (by simp_all)]
              exact ⟨zSl, zSl, [], rfl, ⟨fzA_nil _, fun _ => rfl, fzR_nil _, rfl⟩, rfl⟩
      ·
        refine c_seq (fun K31 hK31 => ?_)
        refine c_seq (fun K32 hK32 => ?_)
        refine c_region ?_
        refine r_y rfl rfl (y_iop rfl rfl rfl) ?_
        refine r_y rfl rfl (y_assign rfl) ?_
        refine r_nil ?_
        refine hK32 _ _ _ ?_
        clear hK32 K32
        refine c_cond rfl (fun k9 => ?_) (fun k9 => ?_)
        ·
          refine c_skip ?_
          refine hK31 _ _ _ ?_
          clear hK31 K31
          refine c_ift rfl k9 ?_
          refine c_region ?_
          refine r_y rfl rfl (y_move rfl) ?_
          refine r_front 1 rfl ?_
          refine r_s rfl ?_
          refine s_call0 rfl Try.call56 rfl (rrules_w r ((rmsg0 ⟨s, l, false⟩).2) _ _ (rmsg0_ok (q := ⟨s, l, false⟩) hz)) ?_
          rintro _ m2 _ hm2 ⟨srr, lr, rfl, hzr, her, rfl⟩
          replace hm := hm.trans hm2
          replace hz := hz.mono hm2
          clear hm2
          refine r_y rfl rfl (y_fieldAddr rfl At.lit fo35_6 rfl) ?_
          refine r_s rfl ?_
          refine s_store rfl rfl rfl ts33 rfl rfl (by simp [Value.oneCell', wv, Sl.v]) (i := 1) rfl rfl ?_
          refine r_nil ?_
          refine hK4 _ _ _ ?_
          clear hK4 K4
          refine c_seq (fun K33 hK33 => ?_)
          refine c_block ?_
          refine c_seq (fun K34 hK34 => ?_)
          refine c_region ?_
          refine r_y rfl rfl (y_move rfl) ?_
          refine r_y rfl rfl (y_nilCheck rfl) ?_
          refine r_y rfl rfl (y_fieldAddr rfl At.lit fo98_1 rfl) ?_
          refine r_y rfl rfl (y_load_s rfl ts4 (RdS.blk (i := 0) rfl rfl)) ?_
          refine r_y rfl rfl (y_assign rfl) ?_
          refine r_nil ?_
          refine hK34 _ _ _ ?_
          clear hK34 K34
          refine c_cond rfl (fun ke => ?_) (fun ke => ?_)
          ·
            refine c_seq (fun K35 hK35 => ?_)
            refine c_region ?_
            refine r_y rfl rfl (y_bld rfl tz35 fk35 bp35_ rfl rfl) ?_
            refine r_s rfl ?_
            refine s_store (us := encMsg zMsg zSl zSl) rfl rfl rfl ts35 rfl rfl (one_msg _ _ _) (i := 2) rfl rfl ?_
            refine r_y rfl rfl (y_assign rfl) ?_
            refine r_nil ?_
            refine hK35 _ _ _ ?_
            clear hK35 K35
            refine c_ret ?_
            refine e_ret 3 hm (res2 (r1_cell_a rfl ts35 (RdA.blk (i := 2) rfl rfl)) (r1_tmp rfl)) ?_
            have hx := rmsg_9 (q := ⟨s, l, false⟩) k1 k6 k8 k9
            rw [decode_short hx ke]
            exact ⟨zSl, zSl, [], rfl, zMsg_ok _, rfl⟩
          ·
            refine c_seq (fun K36 hK36 => ?_)
            refine c_region ?_
            refine r_y rfl rfl (y_move rfl) ?_
            refine r_y rfl rfl (y_not rfl) ?_
            refine r_y rfl rfl (y_move rfl) ?_
            refine r_yg rfl rfl rfl (y_move rfl) ?_
            refine r_yg rfl rfl rfl (y_nilCheck rfl) ?_
            refine r_yg rfl rfl rfl (y_fieldAddr rfl At.lit fo98_0 rfl) ?_
            refine r_yg rfl rfl rfl (y_load_s rfl ts22 (RdS.blk (i := 0) rfl rfl)) ?_
            refine r_yg rfl rfl rfl (y_len tl22 rfl) ?_
            refine r_yg rfl rfl rfl (y_iop rfl rfl rfl) ?_
            refine r_y rfl rfl (y_pickf rfl rfl rfl) ?_
            refine r_y rfl rfl (y_move rfl) ?_
            refine r_split (j := 10) rfl (fun h15 => ?_) (fun h15 => ?_)
            ·
              refine r_no' rfl rfl h15 ?_
              refine r_no' rfl rfl h15 ?_
              refine r_no' rfl rfl h15 ?_
              refine r_y rfl rfl (y_pickt rfl h15 rfl) ?_
              refine r_y rfl rfl (y_assign rfl) ?_
              refine r_nil ?_
              refine hK36 _ _ _ ?_
              clear hK36 K36
              refine c_ift rfl rfl ?_
              refine c_seq (fun K37 hK37 => ?_)
              refine c_region ?_
              refine r_y rfl rfl (y_bld rfl tz35 fk35 bp35_ rfl rfl) ?_
              refine r_s rfl ?_
              refine s_store (us := encMsg zMsg zSl zSl) rfl rfl rfl ts35 rfl rfl (one_msg _ _ _) (i := 2) rfl rfl ?_
              refine r_y rfl rfl (y_assign rfl) ?_
              refine r_nil ?_
              refine hK37 _ _ _ ?_
              clear hK37 K37
              refine c_ret ?_
              refine e_ret 3 hm (res2 (r1_cell_a rfl ts35 (RdA.blk (i := 2) rfl rfl)) (r1_tmp rfl)) ?_
              have hx := rmsg_9 (q := ⟨s, l, false⟩) k1 k6 k8 k9
              have hql := Fz.lenB (s := ((rrules ((rmsg0 ⟨s, l, false⟩).2)).2).s) (l := ((rrules ((rmsg0 ⟨s, l, false⟩).2)).2).l) (rrules_ok (rmsg0_ok (q := ⟨s, l, false⟩) hz))
              rw [decode_bad hx ke (by simp_all)]
              exact ⟨zSl, zSl, [], rfl, zMsg_ok _, rfl⟩
            ·
              refine r_yg rfl h15 rfl (y_load_a (cs := encMsg ({ (rmsg0 ⟨s, l, false⟩).1 with rules := (rrules (rmsg0 ⟨s, l, false⟩).2).1 }) zSl srr) rfl ts35 (RdA.blk (i := 1) rfl rfl)) ?_
              refine r_sg rfl h15 ?_
              refine s_call0 rfl Try.call30 rfl (msgSound_ok ({ (rmsg0 ⟨s, l, false⟩).1 with rules := (rrules (rmsg0 ⟨s, l, false⟩).2).1 }) zSl srr lr _ _ ⟨fzA_nil _, fun _ => rfl, hzr, her⟩) ?_
              rintro _ m2 _ hm2 ⟨rfl, rfl⟩
              replace hm := hm.trans hm2
              replace hz := hz.mono hm2
              replace hzr := hzr.mono hm2
              clear hm2
              refine r_yg rfl h15 rfl (y_not rfl) ?_
              refine r_y rfl rfl (y_pickf rfl h15 rfl) ?_
              refine r_y rfl rfl (y_assign rfl) ?_
              refine r_nil ?_
              refine hK36 _ _ _ ?_
              clear hK36 K36
              refine c_cond rfl (fun kb => ?_) (fun kb => ?_)
              ·
                refine c_seq (fun K38 hK38 => ?_)
                refine c_region ?_
                refine r_y rfl rfl (y_bld rfl tz35 fk35 bp35_ rfl rfl) ?_
                refine r_s rfl ?_
                refine s_store (us := encMsg zMsg zSl zSl) rfl rfl rfl ts35 rfl rfl (one_msg _ _ _) (i := 2) rfl rfl ?_
                refine r_y rfl rfl (y_assign rfl) ?_
                refine r_nil ?_
                refine hK38 _ _ _ ?_
                clear hK38 K38
                refine c_ret ?_
                refine e_ret 3 hm (res2 (r1_cell_a rfl ts35 (RdA.blk (i := 2) rfl rfl)) (r1_tmp rfl)) ?_
                have hx := rmsg_9 (q := ⟨s, l, false⟩) k1 k6 k8 k9
                have hql := Fz.lenB (s := ((rrules ((rmsg0 ⟨s, l, false⟩).2)).2).s) (l := ((rrules ((rmsg0 ⟨s, l, false⟩).2)).2).l) (rrules_ok (rmsg0_ok (q := ⟨s, l, false⟩) hz))
                rw [decode_bad hx ke (by simp_all)]
                exact ⟨zSl, zSl, [], rfl, zMsg_ok _, rfl⟩
              ·
                refine c_skip ?_
                refine hK33 _ _ _ ?_
                clear hK33 K33
                refine c_seq (fun K39 hK39 => ?_)
                refine c_region ?_
                refine r_y rfl rfl (y_load_a (cs := encMsg ({ (rmsg0 ⟨s, l, false⟩).1 with rules := (rrules (rmsg0 ⟨s, l, false⟩).2).1 }) zSl srr) rfl ts35 (RdA.blk (i := 1) rfl rfl)) ?_
                refine r_s rfl ?_
                refine s_store (us := encMsg ({ (rmsg0 ⟨s, l, false⟩).1 with rules := (rrules (rmsg0 ⟨s, l, false⟩).2).1 }) zSl srr) rfl rfl rfl ts35 rfl rfl (one_msg _ _ _) (i := 2) rfl rfl ?_
                refine r_y rfl rfl (y_assign rfl) ?_
                refine r_nil ?_
                refine hK39 _ _ _ ?_
                clear hK39 K39
                refine c_ret ?_
                refine e_ret 3 hm (res2 (r1_cell_a rfl ts35 (RdA.blk (i := 2) rfl rfl)) (r1_tmp rfl)) ?_
                have hx := rmsg_9 (q := ⟨s, l, false⟩) k1 k6 k8 k9
                have hql := Fz.lenB (s := ((rrules ((rmsg0 ⟨s, l, false⟩).2)).2).s) (l := ((rrules ((rmsg0 ⟨s, l, false⟩).2)).2).l) (rrules_ok (rmsg0_ok (q := ⟨s, l, false⟩) hz))
                rw [decode_ok hx ke (by simp_all)]
                exact ⟨zSl, srr, lr, rfl, ⟨fzA_nil _, fun _ => rfl, hzr, her⟩, rfl⟩
        ·
          refine c_region ?_
          refine r_y rfl rfl (y_iop rfl rfl rfl) ?_
          refine r_y rfl rfl (y_assign rfl) ?_
          refine r_nil ?_
          refine hK31 _ _ _ ?_
          clear hK31 K31
          refine c_cond rfl (fun k10 => ?_) (fun k10 => ?_)
          ·
            refine c_region ?_
            refine r_y rfl rfl (y_move rfl) ?_
            refine r_front 1 rfl ?_
            refine r_s rfl ?_
            refine s_call0 rfl Try.call56 rfl (rrules_w r ((rmsg0 ⟨s, l, false⟩).2) _ _ (rmsg0_ok (q := ⟨s, l, false⟩) hz)) ?_
            rintro _ m2 _ hm2 ⟨srr, lr, rfl, hzr, her, rfl⟩
            replace hm := hm.trans hm2
            replace hz := hz.mono hm2
            clear hm2
            refine r_y rfl rfl (y_fieldAddr rfl At.lit fo35_6 rfl) ?_
            refine r_s rfl ?_
            refine s_store rfl rfl rfl ts33 rfl rfl (by simp [Value.oneCell', wv, Sl.v]) (i := 1) rfl rfl ?_
            refine r_nil ?_
            refine hK4 _ _ _ ?_
            clear hK4 K4
            refine c_seq (fun K40 hK40 => ?_)
            refine c_block ?_
            refine c_seq (fun K41 hK41 => ?_)
            refine c_region ?_
            refine r_y rfl rfl (y_move rfl) ?_
            refine r_y rfl rfl (y_nilCheck rfl) ?_
            refine r_y rfl rfl (y_fieldAddr rfl At.lit fo98_1 rfl) ?_
            refine r_y rfl rfl (y_load_s rfl ts4 (RdS.blk (i := 0) rfl rfl)) ?_
            refine r_y rfl rfl (y_assign rfl) ?_
            refine r_nil ?_
            refine hK41 _ _ _ ?_
            clear hK41 K41
            refine c_cond rfl (fun ke => ?_) (fun ke => ?_)
            ·
              refine c_seq (fun K42 hK42 => ?_)
              refine c_region ?_
              refine r_y rfl rfl (y_bld rfl tz35 fk35 bp35_ rfl rfl) ?_
              refine r_s rfl ?_
              refine s_store (us := encMsg zMsg zSl zSl) rfl rfl rfl ts35 rfl rfl (one_msg _ _ _) (i := 2) rfl rfl ?_
              refine r_y rfl rfl (y_assign rfl) ?_
              refine r_nil ?_
              refine hK42 _ _ _ ?_
              clear hK42 K42
              refine c_ret ?_
              refine e_ret 3 hm (res2 (r1_cell_a rfl ts35 (RdA.blk (i := 2) rfl rfl)) (r1_tmp rfl)) ?_
              have hx := rmsg_10 (q := ⟨s, l, false⟩) k1 k6 k8 k9 k10
              rw [decode_short hx ke]
              exact ⟨zSl, zSl, [], rfl, zMsg_ok _, rfl⟩
            ·
              refine c_seq (fun K43 hK43 => ?_)
              refine c_region ?_
              refine r_y rfl rfl (y_move rfl) ?_
              refine r_y rfl rfl (y_not rfl) ?_
              refine r_y rfl rfl (y_move rfl) ?_
              refine r_yg rfl rfl rfl (y_move rfl) ?_
              refine r_yg rfl rfl rfl (y_nilCheck rfl) ?_
              refine r_yg rfl rfl rfl (y_fieldAddr rfl At.lit fo98_0 rfl) ?_
              refine r_yg rfl rfl rfl (y_load_s rfl ts22 (RdS.blk (i := 0) rfl rfl)) ?_
              refine r_yg rfl rfl rfl (y_len tl22 rfl) ?_
              refine r_yg rfl rfl rfl (y_iop rfl rfl rfl) ?_
              refine r_y rfl rfl (y_pickf rfl rfl rfl) ?_
              refine r_y rfl rfl (y_move rfl) ?_
              refine r_split (j := 10) rfl (fun h19 => ?_) (fun h19 => ?_)
              ·
                refine r_no' rfl rfl h19 ?_
                refine r_no' rfl rfl h19 ?_
                refine r_no' rfl rfl h19 ?_
                refine r_y rfl rfl (y_pickt rfl h19 rfl) ?_
                refine r_y rfl rfl (y_assign rfl) ?_
                refine r_nil ?_
                refine hK43 _ _ _ ?_
                clear hK43 K43
                refine c_ift rfl rfl ?_
                refine c_seq (fun K44 hK44 => ?_)
                refine c_region ?_
                refine r_y rfl rfl (y_bld rfl tz35 fk35 bp35_ rfl rfl) ?_
                refine r_s rfl ?_
                refine s_store (us := encMsg zMsg zSl zSl) rfl rfl rfl ts35 rfl rfl (one_msg _ _ _) (i := 2) rfl rfl ?_
                refine r_y rfl rfl (y_assign rfl) ?_
                refine r_nil ?_
                refine hK44 _ _ _ ?_
                clear hK44 K44
                refine c_ret ?_
                refine e_ret 3 hm (res2 (r1_cell_a rfl ts35 (RdA.blk (i := 2) rfl rfl)) (r1_tmp rfl)) ?_
                have hx := rmsg_10 (q := ⟨s, l, false⟩) k1 k6 k8 k9 k10
                have hql := Fz.lenB (s := ((rrules ((rmsg0 ⟨s, l, false⟩).2)).2).s) (l := ((rrules ((rmsg0 ⟨s, l, false⟩).2)).2).l) (rrules_ok (rmsg0_ok (q := ⟨s, l, false⟩) hz))
                rw [decode_bad hx ke (by simp_all)]
                exact ⟨zSl, zSl, [], rfl, zMsg_ok _, rfl⟩
              ·
                refine r_yg rfl h19 rfl (y_load_a (cs := encMsg ({ (rmsg0 ⟨s, l, false⟩).1 with rules := (rrules (rmsg0 ⟨s, l, false⟩).2).1 }) zSl srr) rfl ts35 (RdA.blk (i := 1) rfl rfl)) ?_
                refine r_sg rfl h19 ?_
                refine s_call0 rfl Try.call30 rfl (msgSound_ok ({ (rmsg0 ⟨s, l, false⟩).1 with rules := (rrules (rmsg0 ⟨s, l, false⟩).2).1 }) zSl srr lr _ _ ⟨fzA_nil _, fun _ => rfl, hzr, her⟩) ?_
                rintro _ m2 _ hm2 ⟨rfl, rfl⟩
                replace hm := hm.trans hm2
                replace hz := hz.mono hm2
                replace hzr := hzr.mono hm2
                clear hm2
                refine r_yg rfl h19 rfl (y_not rfl) ?_
                refine r_y rfl rfl (y_pickf rfl h19 rfl) ?_
                refine r_y rfl rfl (y_assign rfl) ?_
                refine r_nil ?_
                refine hK43 _ _ _ ?_
                clear hK43 K43
                refine c_cond rfl (fun kb => ?_) (fun kb => ?_)
                ·
                  refine c_seq (fun K45 hK45 => ?_)
                  refine c_region ?_
                  refine r_y rfl rfl (y_bld rfl tz35 fk35 bp35_ rfl rfl) ?_
                  refine r_s rfl ?_
                  refine s_store (us := encMsg zMsg zSl zSl) rfl rfl rfl ts35 rfl rfl (one_msg _ _ _) (i := 2) rfl rfl ?_
                  refine r_y rfl rfl (y_assign rfl) ?_
                  refine r_nil ?_
                  refine hK45 _ _ _ ?_
                  clear hK45 K45
                  refine c_ret ?_
                  refine e_ret 3 hm (res2 (r1_cell_a rfl ts35 (RdA.blk (i := 2) rfl rfl)) (r1_tmp rfl)) ?_
                  have hx := rmsg_10 (q := ⟨s, l, false⟩) k1 k6 k8 k9 k10
                  have hql := Fz.lenB (s := ((rrules ((rmsg0 ⟨s, l, false⟩).2)).2).s) (l := ((rrules ((rmsg0 ⟨s, l, false⟩).2)).2).l) (rrules_ok (rmsg0_ok (q := ⟨s, l, false⟩) hz))
                  rw [decode_bad hx ke (by simp_all)]
                  exact ⟨zSl, zSl, [], rfl, zMsg_ok _, rfl⟩
                ·
                  refine c_skip ?_
                  refine hK40 _ _ _ ?_
                  clear hK40 K40
                  refine c_seq (fun K46 hK46 => ?_)
                  refine c_region ?_
                  refine r_y rfl rfl (y_load_a (cs := encMsg ({ (rmsg0 ⟨s, l, false⟩).1 with rules := (rrules (rmsg0 ⟨s, l, false⟩).2).1 }) zSl srr) rfl ts35 (RdA.blk (i := 1) rfl rfl)) ?_
                  refine r_s rfl ?_
                  refine s_store (us := encMsg ({ (rmsg0 ⟨s, l, false⟩).1 with rules := (rrules (rmsg0 ⟨s, l, false⟩).2).1 }) zSl srr) rfl rfl rfl ts35 rfl rfl (one_msg _ _ _) (i := 2) rfl rfl ?_
                  refine r_y rfl rfl (y_assign rfl) ?_
                  refine r_nil ?_
                  refine hK46 _ _ _ ?_
                  clear hK46 K46
                  refine c_ret ?_
                  refine e_ret 3 hm (res2 (r1_cell_a rfl ts35 (RdA.blk (i := 2) rfl rfl)) (r1_tmp rfl)) ?_
                  have hx := rmsg_10 (q := ⟨s, l, false⟩) k1 k6 k8 k9 k10
                  have hql := Fz.lenB (s := ((rrules ((rmsg0 ⟨s, l, false⟩).2)).2).s) (l := ((rrules ((rmsg0 ⟨s, l, false⟩).2)).2).l) (rrules_ok (rmsg0_ok (q := ⟨s, l, false⟩) hz))
                  rw [decode_ok hx ke (by simp_all)]
                  exact ⟨zSl, srr, lr, rfl, ⟨fzA_nil _, fun _ => rfl, hzr, her⟩, rfl⟩
          ·
            refine c_skip ?_
            refine hK4 _ _ _ ?_
            clear hK4 K4
            refine c_seq (fun K47 hK47 => ?_)
            refine c_block ?_
            refine c_seq (fun K48 hK48 => ?_)
            refine c_region ?_
            refine r_y rfl rfl (y_move rfl) ?_
            refine r_y rfl rfl (y_nilCheck rfl) ?_
            refine r_y rfl rfl (y_fieldAddr rfl At.lit fo98_1 rfl) ?_
            refine r_y rfl rfl (y_load_s rfl ts4 (RdS.blk (i := 1) rfl rfl)) ?_
            refine r_y rfl rfl (y_assign rfl) ?_
            refine r_nil ?_
            refine hK48 _ _ _ ?_
            clear hK48 K48
            refine c_cond rfl (fun ke => ?_) (fun ke => ?_)
            ·
              refine c_seq (fun K49 hK49 => ?_)
              refine c_region ?_
              refine r_y rfl rfl (y_bld rfl tz35 fk35 bp35_ rfl rfl) ?_
              refine r_s rfl ?_
              refine s_store (us := encMsg zMsg zSl zSl) rfl rfl rfl ts35 rfl rfl (one_msg _ _ _) (i := 2) rfl rfl ?_
              refine r_y rfl rfl (y_assign rfl) ?_
              refine r_nil ?_
              refine hK49 _ _ _ ?_
              clear hK49 K49
              refine c_ret ?_
              refine e_ret 3 hm (res2 (r1_cell_a rfl ts35 (RdA.blk (i := 2) rfl rfl)) (r1_tmp rfl)) ?_
              have hx := rmsg_o (q := ⟨s, l, false⟩) k1 k6 k8 k9 k10
              rw [decode_short hx ke]
              exact ⟨zSl, zSl, [], rfl, zMsg_ok _, rfl⟩
            ·
              refine c_seq (fun K50 hK50 => ?_)
              refine c_region ?_
              refine r_y rfl rfl (y_move rfl) ?_
              refine r_y rfl rfl (y_not rfl) ?_
              refine r_y rfl rfl (y_move rfl) ?_
              refine r_yg rfl rfl rfl (y_move rfl) ?_
              refine r_yg rfl rfl rfl (y_nilCheck rfl) ?_
              refine r_yg rfl rfl rfl (y_fieldAddr rfl At.lit fo98_0 rfl) ?_
              refine r_yg rfl rfl rfl (y_load_s rfl ts22 (RdS.blk (i := 1) rfl rfl)) ?_
              refine r_yg rfl rfl rfl (y_len tl22 rfl) ?_
              refine r_yg rfl rfl rfl (y_iop rfl rfl rfl) ?_
              refine r_y rfl rfl (y_pickf rfl rfl rfl) ?_
              refine r_y rfl rfl (y_move rfl) ?_
              refine r_split (j := 10) rfl (fun h22 => ?_) (fun h22 => ?_)
              ·
                refine r_no' rfl rfl h22 ?_
                refine r_no' rfl rfl h22 ?_
                refine r_no' rfl rfl h22 ?_
                refine r_y rfl rfl (y_pickt rfl h22 rfl) ?_
                refine r_y rfl rfl (y_assign rfl) ?_
                refine r_nil ?_
                refine hK50 _ _ _ ?_
                clear hK50 K50
                refine c_ift rfl rfl ?_
                refine c_seq (fun K51 hK51 => ?_)
                refine c_region ?_
                refine r_y rfl rfl (y_bld rfl tz35 fk35 bp35_ rfl rfl) ?_
                refine r_s rfl ?_
                refine s_store (us := encMsg zMsg zSl zSl) rfl rfl rfl ts35 rfl rfl (one_msg _ _ _) (i := 2) rfl rfl ?_
                refine r_y rfl rfl (y_assign rfl) ?_
                refine r_nil ?_
                refine hK51 _ _ _ ?_
                clear hK51 K51
                refine c_ret ?_
                refine e_ret 3 hm (res2 (r1_cell_a rfl ts35 (RdA.blk (i := 2) rfl rfl)) (r1_tmp rfl)) ?_
                have hx := rmsg_o (q := ⟨s, l, false⟩) k1 k6 k8 k9 k10
                have hql := Fz.lenB (s := ((rmsg0 ⟨s, l, false⟩).2).s) (l := ((rmsg0 ⟨s, l, false⟩).2).l) (rmsg0_ok (q := ⟨s, l, false⟩) hz)
                rw [decode_bad hx ke (by simp_all [rmsg0])]
                exact ⟨zSl, zSl, [], rfl, zMsg_ok _, rfl⟩
              ·
                refine r_yg rfl h22 rfl (y_load_a (cs := encMsg ((rmsg0 ⟨s, l, false⟩).1) zSl zSl) rfl ts35 (RdA.blk (i := 0) rfl rfl)) ?_
                refine r_sg rfl h22 ?_
                refine s_call0 rfl Try.call30 rfl (msgSound_ok ((rmsg0 ⟨s, l, false⟩).1) zSl zSl [] _ _ ⟨fzA_nil _, fun _ => rfl, fzR_nil _, rfl⟩) ?_
                rintro _ m2 _ hm2 ⟨rfl, rfl⟩
                replace hm := hm.trans hm2
                replace hz := hz.mono hm2
                clear hm2
                refine r_yg rfl h22 rfl (y_not rfl) ?_
                refine r_y rfl rfl (y_pickf rfl h22 rfl) ?_
                refine r_y rfl rfl (y_assign rfl) ?_
                refine r_nil ?_
                refine hK50 _ _ _ ?_
                clear hK50 K50
                refine c_cond rfl (fun kb => ?_) (fun kb => ?_)
                ·
                  refine c_seq (fun K52 hK52 => ?_)
                  refine c_region ?_
                  refine r_y rfl rfl (y_bld rfl tz35 fk35 bp35_ rfl rfl) ?_
                  refine r_s rfl ?_
                  refine s_store (us := encMsg zMsg zSl zSl) rfl rfl rfl ts35 rfl rfl (one_msg _ _ _) (i := 2) rfl rfl ?_
                  refine r_y rfl rfl (y_assign rfl) ?_
                  refine r_nil ?_
                  refine hK52 _ _ _ ?_
                  clear hK52 K52
                  refine c_ret ?_
                  refine e_ret 3 hm (res2 (r1_cell_a rfl ts35 (RdA.blk (i := 2) rfl rfl)) (r1_tmp rfl)) ?_
                  have hx := rmsg_o (q := ⟨s, l, false⟩) k1 k6 k8 k9 k10
                  have hql := Fz.lenB (s := ((rmsg0 ⟨s, l, false⟩).2).s) (l := ((rmsg0 ⟨s, l, false⟩).2).l) (rmsg0_ok (q := ⟨s, l, false⟩) hz)
                  rw [decode_bad hx ke (by simp_all [rmsg0])]
                  exact ⟨zSl, zSl, [], rfl, zMsg_ok _, rfl⟩
                ·
                  refine c_skip ?_
                  refine hK47 _ _ _ ?_
                  clear hK47 K47
                  refine c_seq (fun K53 hK53 => ?_)
                  refine c_region ?_
                  refine r_y rfl rfl (y_load_a (cs := encMsg ((rmsg0 ⟨s, l, false⟩).1) zSl zSl) rfl ts35 (RdA.blk (i := 0) rfl rfl)) ?_
                  refine r_s rfl ?_
                  refine s_store (us := encMsg ((rmsg0 ⟨s, l, false⟩).1) zSl zSl) rfl rfl rfl ts35 rfl rfl (one_msg _ _ _) (i := 2) rfl rfl ?_
                  refine r_y rfl rfl (y_assign rfl) ?_
                  refine r_nil ?_
                  refine hK53 _ _ _ ?_
                  clear hK53 K53
                  refine c_ret ?_
                  refine e_ret 3 hm (res2 (r1_cell_a rfl ts35 (RdA.blk (i := 2) rfl rfl)) (r1_tmp rfl)) ?_
                  have hx := rmsg_o (q := ⟨s, l, false⟩) k1 k6 k8 k9 k10
                  have hql := Fz.lenB (s := ((rmsg0 ⟨s, l, false⟩).2).s) (l := ((rmsg0 ⟨s, l, false⟩).2).l) (rmsg0_ok (q := ⟨s, l, false⟩) hz)
                  rw [decode_ok hx ke (by simp_all [rmsg0])]
                  exact ⟨zSl, zSl, [], rfl, ⟨fzA_nil _, fun _ => rfl, fzR_nil _, rfl⟩, rfl⟩
end Go.Aw
