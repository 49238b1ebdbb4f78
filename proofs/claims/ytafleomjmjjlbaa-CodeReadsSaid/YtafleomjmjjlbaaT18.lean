import Derived.Test.YtafleomjmjjlbaaT17
import Derived.Test.YtafleomjmjjlbaaData9
namespace Go.Aw
open Go Go.Proofs

theorem encAt_w (x : MsgD) (sm sr : Sl) (lr : List (RuleD × Sl)) (l : List UInt8) (m : Snap) (H : Hp) (hz : MsgOk m x sm sr lr) (he : encode x = some l) : Fn Try.prog 21 [.agg (encMsg x sm sr).toArray] m H (fun v m' H' => ∃ s' : Sl, v = .tuple [s'.v, .int .i64 0].toArray ∧ FzB m' s' l ∧ (s'.a = none → s'.cap = 0) ∧ H' = H) :=
  (encode_w x sm sr lr m H hz).mono fun v m' H' _ ⟨s', h1, h2, h3, h4⟩ => by
    rw [he] at h1 h2
    exact ⟨s', h1, h2, h3, h4⟩
theorem sameOne_w (s1 s2 : Sl) (p1 p2 : MsgS) (m : Snap) (H : Hp) (hz1 : FzMs m s1 [p1]) (hz2 : FzMs m s2 [p2]) (h : p1.x = p2.x) : Fn Try.prog 20 [s1.v, s2.v] m H (fun v _ H' => v = .bool true ∧ H' = H) :=
  (rSameMsgs_w s1 s2 [p1] [p2] m H hz1 hz2).mono fun v m' H' _ ⟨h1, h2⟩ => ⟨by rw [h1]; simp [h], h2⟩
theorem bytesEq_w (s1 s2 : Sl) (l : List UInt8) (m : Snap) (H : Hp) (hz1 : FzB m s1 l) (hz2 : FzB m s2 l) : Fn Try.prog 22 [s1.v, s2.v] m H (fun v _ H' => v = .bool true ∧ H' = H) :=
  (rBytes_w s1 s2 l l m H hz1 hz2).mono fun v m' H' _ ⟨h1, h2⟩ => ⟨by rw [h1]; simp, h2⟩
set_option maxRecDepth 100000 in
set_option maxHeartbeats 8000000 in
theorem codeReads_w (s : Sl) (l : List UInt8) (m : Snap) (H : Hp) (hz : FzB m s l) (hok : s.ok) : Fn Try.prog 3 [s.v] m H (fun v _ H' => v = .bool true ∧ H' = H) := by
  have hl := Fz.lenB hz
  have hm : m.le m := Snap.le.refl m
  refine fn_end Try.func3 rfl rfl rfl ?_
  refine c_seq (fun K0 hK0 => ?_)
  refine c_region ?_
  refine r_y rfl rfl (y_assign rfl) ?_
  refine r_nil ?_
  refine hK0 _ _ _ ?_
  clear hK0 K0
  refine c_seq (fun K1 hK1 => ?_)
  refine c_seq (fun K2 hK2 => ?_)
  refine c_region ?_
  refine r_y rfl rfl (y_move rfl) ?_
  refine r_y rfl rfl (y_len tl22 rfl) ?_
  refine r_y rfl rfl (y_iop rfl rfl rfl) ?_
  refine r_nil ?_
  refine hK2 _ _ _ ?_
  clear hK2 K2
  refine c_cond rfl (fun hS => ?_) (fun hS => ?_)
  ·
    refine c_seq (fun K3 hK3 => ?_)
    refine c_region ?_
    refine r_s rfl ?_
    refine s_call0 rfl Try.call17 rfl (answers_w _ _) ?_
    rintro _ m2 _ hm2 ⟨rfl, rfl⟩
    replace hm := hm.trans hm2
    replace hz := hz.mono hm2
    clear hm2
    refine r_y rfl rfl (y_assign rfl) ?_
    refine r_nil ?_
    refine hK3 _ _ _ ?_
    clear hK3 K3
    refine c_ret ?_
    refine e_ret 0 hm (res_tmps rfl) ?_
    first | exact ⟨rfl, rfl⟩ | (exfalso; simp_all; done)
  ·
    refine c_skip ?_
    refine hK1 _ _ _ ?_
    clear hK1 K1
    refine c_seq (fun K4 hK4 => ?_)
    refine c_region ?_
    refine r_s rfl ?_
    refine s_buildSlice (cs := []) (e := 5) rfl rfl (fun _ => by kernel_rfl) (fun b0 => ?_)
    refine r_toVec (i := 0) (s := 1) (k := 0) [] rfl rfl (fun c h => by cases h) rfl (Nat.zero_le _) ?_
    refine r_y rfl rfl (y_move rfl) ?_
    refine r_s rfl ?_
    refine s_append rfl rfl rfl tl22 zo5 tb5 (i := 0) rfl (Src.fz hz (one_bytes l) hok) (by simp at hS; omega) (by simp at hS; unfold maxLen; omega) (fun a1 c1 => ?_)
    refine r_freezeVec (i := 0) rfl rfl (fun m3 hm3 hzv hnv => ?_)
    replace hm := hm.trans hm3
    replace hz := hz.mono hm3
    clear hm3
    refine r_s rfl ?_
    refine s_call0 rfl Try.call18 rfl (decode_w ⟨a1, 0 + s.n, c1⟩ l _ _ hzv) ?_
    rintro _ m2 _ hm2 ⟨sm, sr, lr, rfl, hx1, rfl⟩
    replace hm := hm.trans hm2
    replace hz := hz.mono hm2
    replace hzv := hzv.mono hm2
    clear hm2
    refine r_y rfl rfl (y_move rfl) ?_
    refine r_y rfl rfl (y_extract rfl rfl) ?_
    refine r_y rfl rfl (y_extract rfl rfl) ?_
    refine r_s rfl ?_
    refine s_alloc rfl tz35 (fun b1 => ?_)
    refine r_s rfl ?_
    refine s_store (us := encMsg (decode ⟨a1, 0 + s.n, c1⟩ l).1 sm sr) rfl rfl rfl ts35 rfl rfl (one_msg _ _ _) (i := 0) rfl rfl ?_
    refine r_y rfl rfl (y_assign rfl) ?_
    refine r_nil ?_
    refine hK4 _ _ _ ?_
    clear hK4 K4
    refine c_seq (fun K5 hK5 => ?_)
    refine c_region ?_
    refine r_y rfl rfl (y_move rfl) ?_
    refine r_s rfl ?_
    refine s_call0 rfl Try.call19 rfl (rDecode_w s ⟨a1, 0 + s.n, c1⟩ l _ _ hz (by simp at hS; omega)) ?_
    rintro _ m2 _ hm2 ⟨sm2, sr2, lr2, rfl, hx2, rfl⟩
    replace hm := hm.trans hm2
    replace hz := hz.mono hm2
    replace hzv := hzv.mono hm2
    replace hx1 := hx1.mono hm2
    clear hm2
    refine r_y rfl rfl (y_move rfl) ?_
    refine r_y rfl rfl (y_extract rfl rfl) ?_
    refine r_y rfl rfl (y_extract rfl rfl) ?_
    refine r_s rfl ?_
    refine s_alloc rfl tz35 (fun b2 => ?_)
    refine r_s rfl ?_
    refine s_store (us := encMsg (decode ⟨a1, 0 + s.n, c1⟩ l).1 sm2 sr2) rfl rfl rfl ts35 rfl rfl (one_msg _ _ _) (i := 0) rfl rfl ?_
    refine r_y rfl rfl (y_assign rfl) ?_
    refine r_nil ?_
    refine hK5 _ _ _ ?_
    clear hK5 K5
    refine c_seq (fun K6 hK6 => ?_)
    refine c_seq (fun K7 hK7 => ?_)
    refine c_region ?_
    refine r_s rfl ?_
    refine s_call0 rfl Try.call17 rfl (answers_w _ _) ?_
    rintro _ m2 _ hm2 ⟨rfl, rfl⟩
    replace hm := hm.trans hm2
    replace hz := hz.mono hm2
    replace hzv := hzv.mono hm2
    replace hx1 := hx1.mono hm2
    replace hx2 := hx2.mono hm2
    clear hm2
    refine r_y rfl rfl (y_not rfl) ?_
    refine r_y rfl rfl (y_move rfl) ?_
    refine r_yg rfl rfl rfl (y_move rfl) ?_
    refine r_yg rfl rfl rfl (y_move rfl) ?_
    refine r_yg rfl rfl rfl (y_iop rfl rfl rfl) ?_
    refine r_y rfl rfl (y_pickf rfl rfl rfl) ?_
    refine r_y rfl rfl (y_move rfl) ?_
    refine r_split (j := 7) rfl (fun h1 => ?_) (fun h1 => ?_)
    ·
      refine r_no' rfl rfl h1 ?_
      refine r_no' rfl rfl h1 ?_
      refine r_no' rfl rfl h1 ?_
      refine r_no' rfl rfl h1 ?_
      refine r_no' rfl rfl h1 ?_
      refine r_no' rfl rfl h1 ?_
      refine r_y rfl rfl (y_pickt rfl h1 rfl) ?_
      refine r_nil ?_
      refine hK7 _ _ _ ?_
      clear hK7 K7
      refine c_ift rfl rfl ?_
      refine c_seq (fun K8 hK8 => ?_)
      refine c_region ?_
      refine r_y rfl rfl (y_assign rfl) ?_
      refine r_nil ?_
      refine hK8 _ _ _ ?_
      clear hK8 K8
      refine c_ret ?_
      refine e_ret 2 hm (res_tmps rfl) ?_
      first | exact ⟨rfl, rfl⟩ | (exfalso; simp_all; done)
    ·
      refine r_yg rfl h1 rfl (y_load_a (cs := encMsg (decode ⟨a1, 0 + s.n, c1⟩ l).1 sm sr) rfl ts35 (RdA.blk (i := 1) rfl rfl)) ?_
      refine r_sg rfl h1 ?_
      refine s_buildSlice (cs := (encMsg (decode ⟨a1, 0 + s.n, c1⟩ l).1 sm sr)) (e := 35) rfl rfl (fun _ => by kernel_rfl) (fun b3 => ?_)
      refine r_yg rfl h1 rfl (y_load_a (cs := encMsg (decode ⟨a1, 0 + s.n, c1⟩ l).1 sm2 sr2) rfl ts35 (RdA.blk (i := 1) rfl rfl)) ?_
      refine r_sg rfl h1 ?_
      refine s_buildSlice (cs := (encMsg (decode ⟨a1, 0 + s.n, c1⟩ l).1 sm2 sr2)) (e := 35) rfl rfl (fun _ => by kernel_rfl) (fun b4 => ?_)
      refine r_freeze (i := 1) rfl (fun m3 hm3 hc0 => ?_)
      replace hm := hm.trans hm3
      replace hz := hz.mono hm3
      replace hzv := hzv.mono hm3
      replace hx1 := hx1.mono hm3
      replace hx2 := hx2.mono hm3
      try replace hc0 := fun j v h => hm3.cell (hc0 j v h)
      try replace hc1 := fun j v h => hm3.cell (hc1 j v h)
      clear hm3
      refine r_freeze (i := 0) rfl (fun m3 hm3 hc1 => ?_)
      replace hm := hm.trans hm3
      replace hz := hz.mono hm3
      replace hzv := hzv.mono hm3
      replace hx1 := hx1.mono hm3
      replace hx2 := hx2.mono hm3
      try replace hc0 := fun j v h => hm3.cell (hc0 j v h)
      try replace hc1 := fun j v h => hm3.cell (hc1 j v h)
      clear hm3
      have hM1 : FzMs _ ⟨some ⟨b3, 0, none⟩, 1, 1⟩ [⟨(decode ⟨a1, 0 + s.n, c1⟩ l).1, sm, sr, lr⟩] := fzMs_one hc0 hx1
      have hM2 : FzMs _ ⟨some ⟨b4, 0, none⟩, 1, 1⟩ [⟨(decode ⟨a1, 0 + s.n, c1⟩ l).1, sm2, sr2, lr2⟩] := fzMs_one hc1 hx2
      refine r_sg rfl h1 ?_
      refine s_call0 rfl Try.call20 rfl (sameOne_w ⟨some ⟨b3, 0, none⟩, 1, 1⟩ ⟨some ⟨b4, 0, none⟩, 1, 1⟩ ⟨(decode ⟨a1, 0 + s.n, c1⟩ l).1, sm, sr, lr⟩ ⟨(decode ⟨a1, 0 + s.n, c1⟩ l).1, sm2, sr2, lr2⟩ _ _ hM1 hM2 rfl) ?_
      rintro _ m2 _ hm2 ⟨rfl, rfl⟩
      replace hm := hm.trans hm2
      replace hz := hz.mono hm2
      replace hzv := hzv.mono hm2
      replace hx1 := hx1.mono hm2
      replace hx2 := hx2.mono hm2
      clear hm2
      refine r_yg rfl h1 rfl (y_not rfl) ?_
      refine r_y rfl rfl (y_pickf rfl h1 rfl) ?_
      refine r_nil ?_
      refine hK7 _ _ _ ?_
      clear hK7 K7
      refine c_iff rfl rfl ?_
      refine c_skip ?_
      refine hK6 _ _ _ ?_
      clear hK6 K6
      refine c_seq (fun K9 hK9 => ?_)
      refine c_seq (fun K10 hK10 => ?_)
      refine c_region ?_
      refine r_y rfl rfl (y_move rfl) ?_
      refine r_y rfl rfl (y_iop rfl rfl rfl) ?_
      refine r_nil ?_
      refine hK10 _ _ _ ?_
      clear hK10 K10
      refine c_cond rfl (fun hE => ?_) (fun hE => ?_)
      ·
        refine c_seq (fun K11 hK11 => ?_)
        refine c_region ?_
        refine r_y rfl rfl (y_assign rfl) ?_
        refine r_nil ?_
        refine hK11 _ _ _ ?_
        clear hK11 K11
        refine c_ret ?_
        refine e_ret 2 hm (res_tmps rfl) ?_
        first | exact ⟨rfl, rfl⟩ | (exfalso; simp_all; done)
      ·
        refine c_skip ?_
        refine hK9 _ _ _ ?_
        clear hK9 K9
        refine c_seq (fun K12 hK12 => ?_)
        refine c_region ?_
        have he : encode (decode ⟨a1, 0 + s.n, c1⟩ l).1 = some l := decode_encode (by simpa using hE)
        refine r_y rfl rfl (y_load_a (cs := encMsg (decode ⟨a1, 0 + s.n, c1⟩ l).1 sm sr) rfl ts35 (RdA.blk (i := 1) rfl rfl)) ?_
        refine r_s rfl ?_
        refine s_call0 rfl Try.call21 rfl (encAt_w (decode ⟨a1, 0 + s.n, c1⟩ l).1 sm sr lr l _ _ hx1 he) ?_
        rintro _ m2 _ hm2 ⟨sc, rfl, hzc, hnc, rfl⟩
        replace hm := hm.trans hm2
        replace hz := hz.mono hm2
        replace hzv := hzv.mono hm2
        replace hx1 := hx1.mono hm2
        replace hx2 := hx2.mono hm2
        clear hm2
        refine r_y rfl rfl (y_move rfl) ?_
        refine r_y rfl rfl (y_extract rfl rfl) ?_
        refine r_y rfl rfl (y_extract rfl rfl) ?_
        refine r_y rfl rfl (y_assign rfl) ?_
        refine r_y rfl rfl (y_assign rfl) ?_
        refine r_nil ?_
        refine hK12 _ _ _ ?_
        clear hK12 K12
        refine c_seq (fun K13 hK13 => ?_)
        refine c_region ?_
        refine r_y rfl rfl (y_move rfl) ?_
        refine r_y rfl rfl (y_iop rfl rfl rfl) ?_
        refine r_y rfl rfl (y_move rfl) ?_
        refine r_split (j := 2) rfl (fun h3 => ?_) (fun h3 => ?_)
        ·
          refine r_yg rfl h3 rfl (y_move rfl) ?_
          refine r_yg rfl h3 rfl (y_move rfl) ?_
          refine r_sg rfl h3 ?_
          refine s_call0 rfl Try.call22 rfl (bytesEq_w s sc l _ _ hz hzc) ?_
          rintro _ m2 _ hm2 ⟨rfl, rfl⟩
          replace hm := hm.trans hm2
          replace hz := hz.mono hm2
          replace hzv := hzv.mono hm2
          replace hx1 := hx1.mono hm2
          replace hx2 := hx2.mono hm2
          replace hzc := hzc.mono hm2
          clear hm2
          refine r_y rfl rfl (y_pickt rfl h3 rfl) ?_
          refine r_y rfl rfl (y_assign rfl) ?_
          refine r_nil ?_
          refine hK13 _ _ _ ?_
          clear hK13 K13
          refine c_ret ?_
          refine e_ret 2 hm (res_tmps rfl) ?_
          first | exact ⟨rfl, rfl⟩ | (exfalso; simp_all; done)
        ·
          refine r_no' rfl rfl h3 ?_
          refine r_no' rfl rfl h3 ?_
          refine r_no' rfl rfl h3 ?_
          refine r_y rfl rfl (y_pickf rfl h3 rfl) ?_
          refine r_y rfl rfl (y_assign rfl) ?_
          refine r_nil ?_
          refine hK13 _ _ _ ?_
          clear hK13 K13
          refine c_ret ?_
          refine e_ret 2 hm (res_tmps rfl) ?_
          first | exact ⟨rfl, rfl⟩ | (exfalso; simp_all; done)
end Go.Aw
