import Derived.Test.YtafleomjmjjlbaaT4
import Derived.Test.YtafleomjmjjlbaaData3
namespace Go.Aw
open Go Go.Proofs
theorem fo98_1 : fieldOff Try.prog 98 1 = some 1 := by kernel_rfl
theorem fo98_0 : fieldOff Try.prog 98 0 = some 0 := by kernel_rfl
theorem ts22 : tshape Try.prog 22 = some (false, 1) := by kernel_rfl
theorem tl22 : tslice Try.prog 22 = some (5, 1) := by kernel_rfl
theorem ts5 : tshape Try.prog 5 = some (false, 1) := by kernel_rfl
theorem un5 : Try.prog.underlying 5 = some (.int .u8) := by kernel_rfl
theorem un25 : Try.prog.underlying 25 = some (.int .u64) := by kernel_rfl
theorem un3 : Try.prog.underlying 3 = some (.int .i64) := by kernel_rfl
theorem tz29 : tzero Try.prog 29 = some [.int .u64 0, .int .u64 0, .int .u64 0, .int .u64 0, .int .u64 0, .int .u64 0, .int .u64 0, .int .u64 0, .int .u64 0, .int .u64 0, .int .u64 0, .int .u64 0, .int .u64 0, .int .u64 0, .int .u64 0, .int .u64 0, .int .u64 0, .int .u64 0, .int .u64 0, .int .u64 0, .int .u64 0, .int .u64 0, .int .u64 0, .int .u64 0] := by kernel_rfl
theorem fk29 : fieldsKnown Try.prog 29 = true := by kernel_rfl
theorem bp29_0_1 : bplaces Try.prog 29 [0, 1] = some [(0, 12), (12, 12)] := by kernel_rfl
theorem bp53_0_1_2_3 : bplaces Try.prog 53 [0, 1, 2, 3] = some [(0, 1), (1, 1), (2, 1), (3, 1)] := by kernel_rfl
theorem zo53 : zeroOk Try.prog 53 = true := by kernel_rfl
theorem tb53 : tbytes Try.prog 53 = some 32 := by kernel_rfl
theorem bp32_0_1_2_4_5_6 : bplaces Try.prog 32 [0, 1, 2, 4, 5, 6] = some [(0, 1), (1, 24), (25, 1), (27, 1), (28, 1), (29, 1)] := by kernel_rfl
theorem fk50 : fieldsKnown Try.prog 50 = true := by kernel_rfl
theorem bp50_0_1_3_4_5_6_7_8 : bplaces Try.prog 50 [0, 1, 3, 4, 5, 6, 7, 8] = some [(0, 24), (24, 1), (26, 1), (27, 1), (28, 1), (29, 1), (30, 1), (31, 1)] := by kernel_rfl
theorem zo50 : zeroOk Try.prog 50 = true := by kernel_rfl
theorem tb50 : tbytes Try.prog 50 = some 272 := by kernel_rfl
set_option maxRecDepth 100000 in
theorem get_ok (r : Nat) (q : Rs) (k : Nat) (m : Snap) (H : Hp) (hz : q.ok m) (hk64 : k ≤ 64) : Fn Try.prog 111 [.pointer (some ⟨r, 0, none⟩), .int .i64 (k : Nat)] m (rdItem r q :: H) (fun v _ H' => v = wv (rget k q).1 ∧ H' = rdItem r (rget k q).2 :: H) := by
  have hl := Fz.lenB (s := q.s) (l := q.l) hz
  have hm : m.le m := Snap.le.refl m
  refine fn_end Try.func111 rfl rfl rfl ?_
  refine c_seq (fun K0 hK0 => ?_)
  refine c_region ?_
  refine r_y rfl rfl (y_assign rfl) ?_
  refine r_nil ?_
  refine hK0 _ _ _ ?_
  clear hK0 K0
  refine c_seq (fun K1 hK1 => ?_)
  refine c_seq (fun K2 hK2 => ?_)
  refine c_region ?_
  refine r_y rfl rfl (y_move rfl) ?_
  refine r_y rfl rfl (y_nilCheck rfl) ?_
  refine r_y rfl rfl (y_fieldAddr rfl At.lit fo98_1 rfl) ?_
  refine r_y rfl rfl (y_load_s rfl ts4 (RdS.blk (i := 0) rfl rfl)) ?_
  refine r_y rfl rfl (y_move rfl) ?_
  refine r_split (j := 4) rfl (fun h0 => ?_) (fun h0 => ?_)
  ·
    refine r_no' rfl rfl h0 ?_
    refine r_no' rfl rfl h0 ?_
    refine r_no' rfl rfl h0 ?_
    refine r_no' rfl rfl h0 ?_
    refine r_no' rfl rfl h0 ?_
    refine r_no' rfl rfl h0 ?_
    refine r_no' rfl rfl h0 ?_
    refine r_y rfl rfl (y_pickt rfl h0 rfl) ?_
    refine r_nil ?_
    refine hK2 _ _ _ ?_
    clear hK2 K2
    refine c_ift rfl rfl ?_
    refine c_seq (fun K3 hK3 => ?_)
    refine c_region ?_
    refine r_y rfl rfl (y_move rfl) ?_
    refine r_y rfl rfl (y_nilCheck rfl) ?_
    refine r_y rfl rfl (y_fieldAddr rfl At.lit fo98_1 rfl) ?_
    refine r_s rfl ?_
    refine s_store rfl rfl rfl ts4 rfl rfl (by simp [Value.oneCell', wv, Sl.v]) (i := 0) rfl rfl ?_
    refine r_nil ?_
    refine hK3 _ _ _ ?_
    clear hK3 K3
    refine c_seq (fun K4 hK4 => ?_)
    refine c_region ?_
    refine r_y rfl rfl (y_assign rfl) ?_
    refine r_nil ?_
    refine hK4 _ _ _ ?_
    clear hK4 K4
    refine c_ret ?_
    refine e_ret 0 hm (res_tmps rfl) ?_
    rw [rget_no (by first | (simp [h0]; done) | (simp at h1; simp; omega))]
    exact ⟨rfl, rfl⟩
  ·
    refine r_yg rfl h0 rfl (y_move rfl) ?_
    refine r_yg rfl h0 rfl (y_nilCheck rfl) ?_
    refine r_yg rfl h0 rfl (y_fieldAddr rfl At.lit fo98_0 rfl) ?_
    refine r_yg rfl h0 rfl (y_load_s rfl ts22 (RdS.blk (i := 0) rfl rfl)) ?_
    refine r_yg rfl h0 rfl (y_len tl22 rfl) ?_
    refine r_yg rfl h0 rfl (y_move rfl) ?_
    refine r_yg rfl h0 rfl (y_iop rfl rfl rfl) ?_
    refine r_y rfl rfl (y_pickf rfl h0 rfl) ?_
    refine r_nil ?_
    refine hK2 _ _ _ ?_
    clear hK2 K2
    refine c_cond rfl (fun h1 => ?_) (fun h1 => ?_)
    ·
      refine c_seq (fun K5 hK5 => ?_)
      refine c_region ?_
      refine r_y rfl rfl (y_move rfl) ?_
      refine r_y rfl rfl (y_nilCheck rfl) ?_
      refine r_y rfl rfl (y_fieldAddr rfl At.lit fo98_1 rfl) ?_
      refine r_s rfl ?_
      refine s_store rfl rfl rfl ts4 rfl rfl (by simp [Value.oneCell', wv, Sl.v]) (i := 0) rfl rfl ?_
      refine r_nil ?_
      refine hK5 _ _ _ ?_
      clear hK5 K5
      refine c_seq (fun K6 hK6 => ?_)
      refine c_region ?_
      refine r_y rfl rfl (y_assign rfl) ?_
      refine r_nil ?_
      refine hK6 _ _ _ ?_
      clear hK6 K6
      refine c_ret ?_
      refine e_ret 0 hm (res_tmps rfl) ?_
      rw [rget_no (by first | (simp [h0]; done) | (simp at h1; simp; omega))]
      exact ⟨rfl, rfl⟩
    ·
      refine c_skip ?_
      refine hK1 _ _ _ ?_
      clear hK1 K1
      refine c_seq (fun K7 hK7 => ?_)
      refine c_region ?_
      refine r_y rfl rfl (y_assign rfl) ?_
      refine r_nil ?_
      refine hK7 _ _ _ ?_
      clear hK7 K7
      refine c_seq (fun K8 hK8 => ?_)
      refine c_seq (fun K9 hK9 => ?_)
      refine c_region ?_
      refine r_y rfl rfl (y_move rfl) ?_
      refine r_y rfl rfl (y_nilCheck rfl) ?_
      refine r_y rfl rfl (y_fieldAddr rfl At.lit fo98_0 rfl) ?_
      refine r_y rfl rfl (y_load_s rfl ts22 (RdS.blk (i := 0) rfl rfl)) ?_
      refine r_y rfl rfl (y_move rfl) ?_
      have hkn : k ≤ q.s.n := by simp at h1; omega
      have hkc : k ≤ q.s.cap := Nat.le_trans hkn hz.le
      have hkm : k ≤ maxLen := Nat.le_trans hkc hz.max
      have hzs := hz.slice (lo := 0) (hi := k) (Nat.zero_le _) hkn
      refine r_y rfl rfl (y_slice rfl tl22 bnd_none (bnd_some (kd := .i64) (x := k) rfl) (Nat.zero_le _) hkc) ?_
      refine r_y rfl rfl (y_len tl22 rfl) ?_
      refine r_y rfl rfl (y_move rfl) ?_
      refine r_nil ?_
      refine hK9 _ _ _ ?_
      clear hK9 K9
      refine c_block ?_
      refine c_loopx (α := Nat) (fun i => [(0, .pointer (some ⟨r, 0, none⟩)), (1, .int .i64 (k : Nat)), (5, wv (rnum (q.l.take i))), (29, .slice (sadd q.s.a 0 1 q.s.cap) (k - 0) (q.s.cap - 0)), (30, .int .i64 ((k - 0 : Nat) : Int)), (31, .int .i64 (i : Nat))]) (fun i => rdItem r (q) :: H) (fun k0 i m1 => (i + k0 = k ∧ True) ∧ m.le m1 ∧ (q.ok m1) ∧ (Fz m1 (sadd q.s.a 0 1 q.s.cap) (k - 0) (q.s.cap - 0) 1 (((bytes1 q.l).drop 0).take (k - 0)))) (k) 0 ⟨rfl, rfl, rfl, rfl, rfl, rfl, trivial⟩ rfl ⟨⟨by omega, trivial⟩, hm, hz, hzs⟩ ?_
      clear hm hz hzs
      rintro k0 i m1 ⟨hi0, hm, hz, hzs⟩
      obtain ⟨hi, hinv⟩ := hi0
      refine c_seq (fun K10 hK10 => ?_)
      refine c_region ?_
      refine r_y rfl rfl (y_iop rfl rfl rfl) ?_
      refine r_nil ?_
      refine hK10 _ _ _ ?_
      clear hK10 K10
      refine c_seq (fun K11 hK11 => ?_)
      refine c_cond rfl (fun h2 => ?_) (fun h2 => ?_)
      ·
        have hlt : i < k - 0 := by simp at h2; omega
        obtain ⟨x, hx⟩ := get_of_lt (l := q.l) (k := i) (by omega)
        refine c_skip ?_
        refine hK11 _ _ _ ?_
        clear hK11 K11
        refine c_seq (fun K12 hK12 => ?_)
        refine c_block ?_
        refine c_seq (fun K13 hK13 => ?_)
        refine c_region ?_
        refine r_y rfl rfl (y_indexAddr_slice rfl rfl tl22 hlt (At.fz hzs hlt)) ?_
        refine r_y rfl rfl (y_load_s rfl ts5 (RdS.fz (j := 0) hzs (bytes1_take hx hlt) rfl)) ?_
        refine r_y rfl rfl (y_assign rfl) ?_
        refine r_nil ?_
        refine hK13 _ _ _ ?_
        clear hK13 K13
        refine c_region ?_
        refine r_y rfl rfl (y_move rfl) ?_
        refine r_y rfl rfl (y_wshl (b := 8) rfl rfl (by decide)) ?_
        refine r_y rfl rfl (y_move rfl) ?_
        refine r_y rfl rfl (y_conv_8w rfl un5 un25) ?_
        refine r_y rfl rfl (y_wop rfl rfl rfl) ?_
        refine r_y rfl rfl (y_assign rfl) ?_
        refine r_nil ?_
        refine hK12 _ _ _ ?_
        clear hK12 K12
        refine c_region ?_
        first | refine r_y rfl rfl (y_inc rfl (by omega)) ?_ | refine r_y rfl rfl (y_iop rfl rfl rfl) ?_
        refine r_y rfl rfl (y_move rfl) ?_
        refine r_nil ?_
        exact ⟨k0 - 1, (i + 1), by omega, ⟨rfl, rfl, (by rw [rnum_take hx]; rfl), rfl, rfl, rfl, trivial⟩, rfl, ⟨by omega, trivial⟩, hm, hz, hzs⟩
      ·
        refine c_exit ?_
        refine hK8 _ _ _ ?_
        clear hK11 K11 hK8 K8
        refine c_seq (fun K14 hK14 => ?_)
        refine c_region ?_
        refine r_y rfl rfl (y_move rfl) ?_
        refine r_y rfl rfl (y_move rfl) ?_
        refine r_y rfl rfl (y_nilCheck rfl) ?_
        refine r_y rfl rfl (y_fieldAddr rfl At.lit fo98_0 rfl) ?_
        refine r_y rfl rfl (y_load_s rfl ts22 (RdS.blk (i := 0) rfl rfl)) ?_
        refine r_y rfl rfl (y_move rfl) ?_
        refine r_y rfl rfl (y_slice rfl tl22 (bnd_some (kd := .i64) (x := k) rfl) bnd_none hkn hz.le) ?_
        refine r_y rfl rfl (y_nilCheck rfl) ?_
        refine r_y rfl rfl (y_fieldAddr rfl At.lit fo98_0 rfl) ?_
        refine r_s rfl ?_
        refine s_store rfl rfl rfl ts22 rfl rfl (by simp [Value.oneCell', wv, Sl.v]) (i := 0) rfl rfl ?_
        refine r_nil ?_
        refine hK14 _ _ _ ?_
        clear hK14 K14
        refine c_seq (fun K15 hK15 => ?_)
        refine c_region ?_
        refine r_y rfl rfl (y_move rfl) ?_
        refine r_y rfl rfl (y_assign rfl) ?_
        refine r_nil ?_
        refine hK15 _ _ _ ?_
        clear hK15 K15
        refine c_ret ?_
        refine e_ret 0 hm (res_tmps rfl) ?_
        rw [rget_yes (by simp at h1; simp [h0]; omega)]
        have hie : i = k := by simp at h2; omega
        subst hie
        rw [h0]
        exact ⟨rfl, rfl⟩
set_option maxRecDepth 100000 in
theorem num_ok (r : Nat) (q : Rs) (k : Nat) (m : Snap) (H : Hp) (hz : q.ok m) (hk64 : k ≤ 64) : Fn Try.prog 53 [.pointer (some ⟨r, 0, none⟩), .int .i64 (k : Nat)] m (rdItem r q :: H) (fun v _ H' => v = .int .i64 (rint k q).1 ∧ H' = rdItem r (rint k q).2 :: H) := by
  have hm : m.le m := Snap.le.refl m
  refine fn_end Try.func53 rfl rfl rfl ?_
  refine c_seq (fun K0 hK0 => ?_)
  refine c_region ?_
  refine r_y rfl rfl (y_assign rfl) ?_
  refine r_nil ?_
  refine hK0 _ _ _ ?_
  clear hK0 K0
  refine c_seq (fun K1 hK1 => ?_)
  refine c_region ?_
  refine r_y rfl rfl (y_move rfl) ?_
  refine r_y rfl rfl (y_move rfl) ?_
  refine r_s rfl ?_
  refine s_call0 rfl Try.call111 rfl (get_ok r (q) k _ _ (hz) hk64) ?_
  rintro _ m2 _ hm2 ⟨rfl, rfl⟩
  replace hm := hm.trans hm2
  replace hz := hz.mono hm2
  clear hm2
  refine r_y rfl rfl (y_conv_wi rfl un25 un3) ?_
  refine r_y rfl rfl (y_assign rfl) ?_
  refine r_nil ?_
  refine hK1 _ _ _ ?_
  clear hK1 K1
  refine c_ret ?_
  refine e_ret 0 hm (res_tmps rfl) ?_
  exact ⟨rfl, rfl⟩
set_option maxRecDepth 100000 in
theorem rhead_w (r : Nat) (q : Rs) (m : Snap) (H : Hp) (hz : q.ok m) : Fn Try.prog 55 [.pointer (some ⟨r, 0, none⟩)] m (rdItem r q :: H) (fun v _ H' => v = .agg (encHead (rhead q).1).toArray ∧ H' = rdItem r (rhead q).2 :: H) := by
  have hm : m.le m := Snap.le.refl m
  refine fn_end Try.func55 rfl rfl rfl ?_
  refine c_seq (fun K0 hK0 => ?_)
  refine c_region ?_
  refine r_s rfl ?_
  refine s_alloc rfl tz27 (fun b0 => ?_)
  refine r_nil ?_
  refine hK0 _ _ _ ?_
  clear hK0 K0
  refine c_seq (fun K1 hK1 => ?_)
  refine c_region ?_
  refine r_s rfl ?_
  refine s_alloc rfl tz27 (fun b1 => ?_)
  refine r_nil ?_
  refine hK1 _ _ _ ?_
  clear hK1 K1
  refine c_seq (fun K2 hK2 => ?_)
  refine c_seq (fun K3 hK3 => ?_)
  refine c_region ?_
  refine r_y rfl rfl (y_move rfl) ?_
  refine r_nil ?_
  refine hK3 _ _ _ ?_
  clear hK3 K3
  refine c_block ?_
  refine c_front 2 rfl ?_
  refine c_loopx (α := Nat) (fun i => [(0, .pointer (some ⟨r, 0, none⟩)), (2, .pointer (some ⟨b0, 0, none⟩)), (3, .pointer (some ⟨b1, 0, none⟩)), (5, .int .i64 (i : Nat))]) (fun i => rdItem r (rheadN i q).2 :: .blk b1 (.cells (encHead (rheadN i q).1).toArray 27) :: .blk b0 (.cells (encHead zHead).toArray 27) :: H) (fun k0 i m1 => (i + k0 = 12 ∧ True) ∧ m.le m1 ∧ (q.ok m1)) (12) 0 ⟨rfl, rfl, rfl, rfl, trivial⟩ rfl ⟨⟨by omega, trivial⟩, hm, hz⟩ ?_
  clear hm hz
  rintro k0 i m1 ⟨hi0, hm, hz⟩
  obtain ⟨hi, hinv⟩ := hi0
  refine c_seq (fun K4 hK4 => ?_)
  refine c_region ?_
  refine r_y rfl rfl (y_iop rfl rfl rfl) ?_
  refine r_nil ?_
  refine hK4 _ _ _ ?_
  clear hK4 K4
  refine c_seq (fun K5 hK5 => ?_)
  refine c_cond rfl (fun h0 => ?_) (fun h0 => ?_)
  ·
    have hlt : i < 12 := by simp at h0; omega
    refine c_skip ?_
    refine hK5 _ _ _ ?_
    clear hK5 K5
    refine c_seq (fun K6 hK6 => ?_)
    refine c_block ?_
    refine c_seq (fun K7 hK7 => ?_)
    refine c_region ?_
    refine r_y rfl rfl (y_move rfl) ?_
    refine r_y rfl rfl (y_assign rfl) ?_
    refine r_nil ?_
    refine hK7 _ _ _ ?_
    clear hK7 K7
    refine c_region ?_
    refine r_y rfl rfl (y_move rfl) ?_
    refine r_y rfl rfl (y_move rfl) ?_
    refine r_s rfl ?_
    refine s_call0 rfl Try.call111 rfl (get_ok r ((rheadN i q).2) 8 _ _ (rheadN_ok hz i) (by decide)) ?_
    rintro _ m2 _ hm2 ⟨rfl, rfl⟩
    replace hm := hm.trans hm2
    replace hz := hz.mono hm2
    clear hm2
    refine r_y rfl rfl (y_indexAddr_arr rfl rfl ta27 hlt At.lit) ?_
    refine r_s rfl ?_
    refine s_store rfl rfl rfl ts25 rfl rfl (by simp [Value.oneCell', wv]) (i := 1) rfl (cput_head _ _ _ hlt) ?_
    refine r_nil ?_
    refine hK6 _ _ _ ?_
    clear hK6 K6
    refine c_region ?_
    first | refine r_y rfl rfl (y_inc rfl (by omega)) ?_ | refine r_y rfl rfl (y_iop rfl rfl rfl) ?_
    refine r_y rfl rfl (y_move rfl) ?_
    refine r_nil ?_
    exact ⟨k0 - 1, (i + 1), by omega, ⟨rfl, rfl, rfl, rfl, trivial⟩, rfl, ⟨by omega, trivial⟩, hm, hz⟩
  ·
    obtain rfl : i = 12 := by simp at h0; omega
    refine c_exit ?_
    refine hK2 _ _ _ ?_
    clear hK5 K5 hK2 K2
    refine c_seq (fun K8 hK8 => ?_)
    refine c_region ?_
    refine r_y rfl rfl (y_load_a rfl ts27 (RdA.blk (i := 1) rfl rfl)) ?_
    refine r_s rfl ?_
    refine s_store (us := encHead (rhead q).1) rfl rfl rfl ts27 rfl rfl (one_head _) (i := 2) rfl rfl ?_
    refine r_nil ?_
    refine hK8 _ _ _ ?_
    clear hK8 K8
    refine c_ret ?_
    refine e_retf [0, 1, 2] 2 hm (res_cell_a rfl ts27 (RdA.blk (i := 2) rfl rfl)) ?_
    exact ⟨rfl, rfl⟩
set_option maxRecDepth 100000 in
theorem rcube_w (r : Nat) (q : Rs) (m : Snap) (H : Hp) (hz : q.ok m) : Fn Try.prog 112 [.pointer (some ⟨r, 0, none⟩)] m (rdItem r q :: H) (fun v _ H' => v = .agg (encCube (rcube q).1).toArray ∧ H' = rdItem r (rcube q).2 :: H) := by
  have hm : m.le m := Snap.le.refl m
  refine fn_end Try.func112 rfl rfl rfl ?_
  refine c_seq (fun K0 hK0 => ?_)
  refine c_region ?_
  refine r_s rfl ?_
  refine s_alloc rfl tz29 (fun b0 => ?_)
  refine r_nil ?_
  refine hK0 _ _ _ ?_
  clear hK0 K0
  refine c_seq (fun K1 hK1 => ?_)
  refine c_region ?_
  refine r_y rfl rfl (y_move rfl) ?_
  refine r_front 1 rfl ?_
  refine r_s rfl ?_
  refine s_call0 rfl Try.call55 rfl (rhead_w r (q) _ _ (hz)) ?_
  rintro _ m2 _ hm2 ⟨rfl, rfl⟩
  replace hm := hm.trans hm2
  replace hz := hz.mono hm2
  clear hm2
  refine r_y rfl rfl (y_move rfl) ?_
  refine r_s rfl ?_
  refine s_call0 rfl Try.call55 rfl (rhead_w r ((rhead (q)).2) _ _ (rhead_ok (hz))) ?_
  rintro _ m2 _ hm2 ⟨rfl, rfl⟩
  replace hm := hm.trans hm2
  replace hz := hz.mono hm2
  clear hm2
  refine r_y rfl rfl (y_bld rfl tz29 fk29 bp29_0_1 rfl rfl) ?_
  refine r_s rfl ?_
  refine s_store (us := encCube (rcube q).1) rfl rfl rfl ts29 rfl rfl (one_cube _) (i := 1) rfl rfl ?_
  refine r_nil ?_
  refine hK1 _ _ _ ?_
  clear hK1 K1
  refine c_ret ?_
  refine e_retf [0, 1] 1 hm (res_cell_a rfl ts29 (RdA.blk (i := 1) rfl rfl)) ?_
  exact ⟨rfl, rfl⟩
set_option maxRecDepth 100000 in
theorem racts_w (r : Nat) (q : Rs) (m : Snap) (H : Hp) (hz : q.ok m) : Fn Try.prog 113 [.pointer (some ⟨r, 0, none⟩)] m (rdItem r q :: H) (fun v m' H' => ∃ sa : Sl, v = sa.v ∧ FzA m' sa (racts q).1 ∧ sa.ok ∧ H' = rdItem r (racts q).2 :: H) := by
  have hm : m.le m := Snap.le.refl m
  refine fn_end Try.func113 rfl rfl rfl ?_
  refine c_seq (fun K0 hK0 => ?_)
  refine c_region ?_
  refine r_y rfl rfl (y_assign rfl) ?_
  refine r_nil ?_
  refine hK0 _ _ _ ?_
  clear hK0 K0
  refine c_seq (fun K1 hK1 => ?_)
  refine c_region ?_
  refine r_nilvec 53 4 ?_
  refine r_y rfl rfl (y_assign rfl) ?_
  refine r_nil ?_
  refine hK1 _ _ _ ?_
  clear hK1 K1
  refine c_seq (fun K2 hK2 => ?_)
  refine c_seq (fun K3 hK3 => ?_)
  refine c_region ?_
  refine r_y rfl rfl (y_move rfl) ?_
  refine r_front 1 rfl ?_
  refine r_s rfl ?_
  refine s_call0 rfl Try.call53 rfl (num_ok r (q) 1 _ _ (hz) (by decide)) ?_
  rintro _ m2 _ hm2 ⟨rfl, rfl⟩
  replace hm := hm.trans hm2
  replace hz := hz.mono hm2
  clear hm2
  refine r_y rfl rfl (y_assign rfl) ?_
  refine r_nil ?_
  refine hK3 _ _ _ ?_
  clear hK3 K3
  refine c_block ?_
  obtain ⟨n0, hne, hn0⟩ := rint_nat (k := 1) (by decide) q
  replace hz := rint_ok (k := 1) hz
  refine c_loopx (α := Nat × Rs × List ActD × Sl) (fun vv => match vv with | (n, q1, l, sv) => [(0, .pointer (some ⟨r, 0, none⟩)), (3, sv.v), (4, .int .i64 (n : Nat))]) (fun vv => match vv with | (n, q1, l, sv) => rdItem r q1 :: .vec sv.a sv.n sv.cap 53 4 (l.map encAct) :: H) (fun k0 vv m1 => match vv with | (n, q1, l, sv) => (n = k0 ∧ sv.n = l.length ∧ n + l.length < 256 ∧ racts q = (l ++ (ractsN n q1).1, (ractsN n q1).2)) ∧ m.le m1 ∧ (q1.ok m1)) (n0) (n0, (rint 1 q).2, [], zSl) ⟨rfl, rfl, (by rw [← hne]; rfl), trivial⟩ rfl ⟨⟨rfl, rfl, by simpa using hn0, by simp [racts, hne]⟩, hm, hz⟩ ?_
  clear hm hz
  rintro k0 ⟨n, q1, l, sv⟩ m1 ⟨hi0, hm, hz⟩
  obtain ⟨hi, hsn, hb, hinv⟩ := hi0
  refine c_seq (fun K4 hK4 => ?_)
  refine c_seq (fun K5 hK5 => ?_)
  refine c_region ?_
  refine r_y rfl rfl (y_move rfl) ?_
  refine r_y rfl rfl (y_iop rfl rfl rfl) ?_
  refine r_y rfl rfl (y_move rfl) ?_
  refine r_split (j := 2) rfl (fun h0 => ?_) (fun h0 => ?_)
  ·
    refine r_yg rfl h0 rfl (y_move rfl) ?_
    refine r_yg rfl h0 rfl (y_nilCheck rfl) ?_
    refine r_yg rfl h0 rfl (y_fieldAddr rfl At.lit fo98_1 rfl) ?_
    refine r_yg rfl h0 rfl (y_load_s rfl ts4 (RdS.blk (i := 0) rfl rfl)) ?_
    refine r_yg rfl h0 rfl (y_not rfl) ?_
    refine r_y rfl rfl (y_pickt rfl h0 rfl) ?_
    refine r_nil ?_
    refine hK5 _ _ _ ?_
    clear hK5 K5
    refine c_cond rfl (fun h1 => ?_) (fun h1 => ?_)
    ·
      refine c_skip ?_
      refine hK4 _ _ _ ?_
      clear hK4 K4
      refine c_seq (fun K6 hK6 => ?_)
      refine c_block ?_
      refine c_region ?_
      refine r_y rfl rfl (y_move rfl) ?_
      refine r_y rfl rfl (y_move rfl) ?_
      refine r_s rfl ?_
      refine s_call0 rfl Try.call53 rfl (num_ok r (q1) 1 _ _ (hz) (by decide)) ?_
      rintro _ m2 _ hm2 ⟨rfl, rfl⟩
      replace hm := hm.trans hm2
      replace hz := hz.mono hm2
      clear hm2
      refine r_y rfl rfl (y_move rfl) ?_
      refine r_s rfl ?_
      refine s_call0 rfl Try.call53 rfl (num_ok r ((rint 1 (q1)).2) 1 _ _ (rint_ok (hz)) (by decide)) ?_
      rintro _ m2 _ hm2 ⟨rfl, rfl⟩
      replace hm := hm.trans hm2
      replace hz := hz.mono hm2
      clear hm2
      refine r_y rfl rfl (y_move rfl) ?_
      refine r_s rfl ?_
      refine s_call0 rfl Try.call53 rfl (num_ok r ((rint 1 ((rint 1 (q1)).2)).2) 1 _ _ (rint_ok (rint_ok (hz))) (by decide)) ?_
      rintro _ m2 _ hm2 ⟨rfl, rfl⟩
      replace hm := hm.trans hm2
      replace hz := hz.mono hm2
      clear hm2
      refine r_y rfl rfl (y_move rfl) ?_
      refine r_s rfl ?_
      refine s_call0 rfl Try.call111 rfl (get_ok r ((rint 1 ((rint 1 ((rint 1 (q1)).2)).2)).2) 8 _ _ (rint_ok (rint_ok (rint_ok (hz)))) (by decide)) ?_
      rintro _ m2 _ hm2 ⟨rfl, rfl⟩
      replace hm := hm.trans hm2
      replace hz := hz.mono hm2
      clear hm2
      refine r_y rfl rfl (y_bld rfl tz53 fk53 bp53_0_1_2_3 rfl rfl) ?_
      refine r_s rfl ?_
      refine s_buildSlice (cs := (encAct (ract q1).1)) (e := 53) rfl rfl (fun _ => by kernel_rfl) (fun b0 => ?_)
      refine r_s rfl ?_
      refine s_append rfl rfl rfl tl30 zo53 tb53 (i := 2) rfl (Src.one' (i := 0) rfl rfl (one_act _)) (by omega) (by unfold maxLen; omega) (fun a1 c1 => ?_)
      refine r_del 0 rfl ?_
      refine r_y rfl rfl (y_assign rfl) ?_
      refine r_nil ?_
      refine hK6 _ _ _ ?_
      clear hK6 K6
      refine c_region ?_
      refine r_y rfl rfl (y_move rfl) ?_
      refine r_y rfl rfl (y_dec rfl (by simp at h0; omega) (by omega)) ?_
      refine r_y rfl rfl (y_assign rfl) ?_
      refine r_nil ?_
      replace hz := ract_ok hz
      obtain ⟨n, rfl⟩ : ∃ j, n = j + 1 := ⟨n - 1, by simp at h0; omega⟩
      exact ⟨k0 - 1, (n, (ract q1).2, l ++ [(ract q1).1], ⟨a1, sv.n + 1, c1⟩), by omega, ⟨rfl, rfl, rfl, trivial⟩, (by simp only [List.map_append]; rfl), ⟨by omega, by simp [hsn], by simp; omega, by rw [hinv, ractsN_succ (by simpa using h1)]; simp⟩, hm, hz⟩
    ·
      refine c_exit ?_
      refine hK2 _ _ _ ?_
      clear hK4 K4 hK2 K2
      refine c_seq (fun K7 hK7 => ?_)
      refine c_region ?_
      refine r_freezeVec (i := 1) rfl rfl (fun m3 hm3 hza hnil => ?_)
      replace hm := hm.trans hm3
      replace hz := hz.mono hm3
      clear hm3
      refine r_y rfl rfl (y_move rfl) ?_
      refine r_y rfl rfl (y_assign rfl) ?_
      refine r_nil ?_
      refine hK7 _ _ _ ?_
      clear hK7 K7
      refine c_ret ?_
      refine e_ret 0 hm (res_tmps rfl) ?_
      have hq : racts q = (l, q1) := by
        rw [hinv]
        first
          | (rw [ractsN_end (by simpa using h1)]; simp; done)
          | (obtain rfl : n = 0 := by simp at h0; omega
             simp [ractsN])
      rw [hq]
      exact ⟨sv, rfl, hza, hnil, rfl⟩
  ·
    refine r_no' rfl rfl h0 ?_
    refine r_no' rfl rfl h0 ?_
    refine r_no' rfl rfl h0 ?_
    refine r_no' rfl rfl h0 ?_
    refine r_no' rfl rfl h0 ?_
    refine r_y rfl rfl (y_pickf rfl h0 rfl) ?_
    refine r_nil ?_
    refine hK5 _ _ _ ?_
    clear hK5 K5
    refine c_iff rfl rfl ?_
    refine c_exit ?_
    refine hK2 _ _ _ ?_
    clear hK4 K4 hK2 K2
    refine c_seq (fun K8 hK8 => ?_)
    refine c_region ?_
    refine r_freezeVec (i := 1) rfl rfl (fun m3 hm3 hza hnil => ?_)
    replace hm := hm.trans hm3
    replace hz := hz.mono hm3
    clear hm3
    refine r_y rfl rfl (y_move rfl) ?_
    refine r_y rfl rfl (y_assign rfl) ?_
    refine r_nil ?_
    refine hK8 _ _ _ ?_
    clear hK8 K8
    refine c_ret ?_
    refine e_ret 0 hm (res_tmps rfl) ?_
    have hq : racts q = (l, q1) := by
      rw [hinv]
      first
        | (rw [ractsN_end (by simpa using h1)]; simp; done)
        | (obtain rfl : n = 0 := by simp at h0; omega
           simp [ractsN])
    rw [hq]
    exact ⟨sv, rfl, hza, hnil, rfl⟩
set_option maxRecDepth 100000 in
theorem rmod_w (r : Nat) (q : Rs) (m : Snap) (H : Hp) (hz : q.ok m) : Fn Try.prog 54 [.pointer (some ⟨r, 0, none⟩)] m (rdItem r q :: H) (fun v m' H' => ∃ sa : Sl, v = .tuple [.agg (encMod (rmod q).1.1 sa).toArray, .bool (rmod q).1.2].toArray ∧ FzA m' sa (rmod q).1.1.acts ∧ sa.ok ∧ H' = rdItem r (rmod q).2 :: H) := by
  have hm : m.le m := Snap.le.refl m
  refine fn_end Try.func54 rfl rfl rfl ?_
  refine c_seq (fun K0 hK0 => ?_)
  refine c_region ?_
  refine r_s rfl ?_
  refine s_alloc rfl tz32 (fun b0 => ?_)
  refine r_y rfl rfl (y_assign rfl) ?_
  refine r_nil ?_
  refine hK0 _ _ _ ?_
  clear hK0 K0
  refine c_seq (fun K1 hK1 => ?_)
  refine c_region ?_
  refine r_y rfl rfl (y_move rfl) ?_
  refine r_front 1 rfl ?_
  refine r_s rfl ?_
  refine s_call0 rfl Try.call53 rfl (num_ok r (q) 1 _ _ (hz) (by decide)) ?_
  rintro _ m2 _ hm2 ⟨rfl, rfl⟩
  replace hm := hm.trans hm2
  replace hz := hz.mono hm2
  clear hm2
  refine r_y rfl rfl (y_move rfl) ?_
  refine r_s rfl ?_
  refine s_call0 rfl Try.call112 rfl (rcube_w r ((rint 1 (q)).2) _ _ (rint_ok (hz))) ?_
  rintro _ m2 _ hm2 ⟨rfl, rfl⟩
  replace hm := hm.trans hm2
  replace hz := hz.mono hm2
  clear hm2
  refine r_y rfl rfl (y_move rfl) ?_
  refine r_s rfl ?_
  refine s_call0 rfl Try.call53 rfl (num_ok r ((rcube ((rint 1 (q)).2)).2) 2 _ _ (rcube_ok (rint_ok (hz))) (by decide)) ?_
  rintro _ m2 _ hm2 ⟨rfl, rfl⟩
  replace hm := hm.trans hm2
  replace hz := hz.mono hm2
  clear hm2
  refine r_y rfl rfl (y_move rfl) ?_
  refine r_s rfl ?_
  refine s_call0 rfl Try.call53 rfl (num_ok r ((rint 2 ((rcube ((rint 1 (q)).2)).2)).2) 4 _ _ (rint_ok (rcube_ok (rint_ok (hz)))) (by decide)) ?_
  rintro _ m2 _ hm2 ⟨rfl, rfl⟩
  replace hm := hm.trans hm2
  replace hz := hz.mono hm2
  clear hm2
  refine r_y rfl rfl (y_move rfl) ?_
  refine r_s rfl ?_
  refine s_call0 rfl Try.call53 rfl (num_ok r ((rint 4 ((rint 2 ((rcube ((rint 1 (q)).2)).2)).2)).2) 4 _ _ (rint_ok (rint_ok (rcube_ok (rint_ok (hz))))) (by decide)) ?_
  rintro _ m2 _ hm2 ⟨rfl, rfl⟩
  replace hm := hm.trans hm2
  replace hz := hz.mono hm2
  clear hm2
  refine r_y rfl rfl (y_move rfl) ?_
  refine r_s rfl ?_
  refine s_call0 rfl Try.call53 rfl (num_ok r ((rint 4 ((rint 4 ((rint 2 ((rcube ((rint 1 (q)).2)).2)).2)).2)).2) 1 _ _ (rint_ok (rint_ok (rint_ok (rcube_ok (rint_ok (hz)))))) (by decide)) ?_
  rintro _ m2 _ hm2 ⟨rfl, rfl⟩
  replace hm := hm.trans hm2
  replace hz := hz.mono hm2
  clear hm2
  refine r_y rfl rfl (y_bld rfl tz32 fk32 bp32_0_1_2_4_5_6 rfl rfl) ?_
  refine r_s rfl ?_
  refine s_alloc rfl tz32 (fun b1 => ?_)
  refine r_s rfl ?_
  refine s_store (us := encMod (rmod0 q).1 zSl) rfl rfl rfl ts32 rfl rfl (one_mod _ _) (i := 0) rfl rfl ?_
  refine r_nil ?_
  refine hK1 _ _ _ ?_
  clear hK1 K1
  refine c_seq (fun K2 hK2 => ?_)
  refine c_region ?_
  refine r_y rfl rfl (y_move rfl) ?_
  refine r_front 1 rfl ?_
  refine r_s rfl ?_
  refine s_call0 rfl Try.call53 rfl (num_ok r ((rint 1 ((rint 4 ((rint 4 ((rint 2 ((rcube ((rint 1 (q)).2)).2)).2)).2)).2)).2) 1 _ _ (rint_ok (rint_ok (rint_ok (rint_ok (rcube_ok (rint_ok (hz))))))) (by decide)) ?_
  rintro _ m2 _ hm2 ⟨rfl, rfl⟩
  replace hm := hm.trans hm2
  replace hz := hz.mono hm2
  clear hm2
  refine r_y rfl rfl (y_assign rfl) ?_
  refine r_nil ?_
  refine hK2 _ _ _ ?_
  clear hK2 K2
  refine c_seq (fun K3 hK3 => ?_)
  refine c_region ?_
  refine r_y rfl rfl (y_move rfl) ?_
  refine r_y rfl rfl (y_iop rfl rfl rfl) ?_
  refine r_y rfl rfl (y_fieldAddr rfl At.lit fo32_7 rfl) ?_
  refine r_s rfl ?_
  refine s_store rfl rfl rfl ts4 rfl rfl (by simp [Value.oneCell', wv, Sl.v]) (i := 1) rfl rfl ?_
  refine r_nil ?_
  refine hK3 _ _ _ ?_
  clear hK3 K3
  refine c_seq (fun K4 hK4 => ?_)
  refine c_region ?_
  refine r_y rfl rfl (y_move rfl) ?_
  refine r_s rfl ?_
  refine s_call0 rfl Try.call113 rfl (racts_w r ((rint 1 ((rint 1 ((rint 4 ((rint 4 ((rint 2 ((rcube ((rint 1 (q)).2)).2)).2)).2)).2)).2)).2) _ _ (rint_ok (rint_ok (rint_ok (rint_ok (rint_ok (rcube_ok (rint_ok (hz))))))))) ?_
  rintro _ m2 _ hm2 ⟨sa, rfl, hza, hsa, rfl⟩
  replace hm := hm.trans hm2
  replace hz := hz.mono hm2
  clear hm2
  refine r_y rfl rfl (y_fieldAddr rfl At.lit fo32_3 rfl) ?_
  refine r_s rfl ?_
  refine s_store rfl rfl rfl ts30 rfl rfl (by simp [Value.oneCell', wv, Sl.v]) (i := 1) rfl rfl ?_
  refine r_nil ?_
  refine hK4 _ _ _ ?_
  clear hK4 K4
  refine c_seq (fun K5 hK5 => ?_)
  refine c_region ?_
  refine r_y rfl rfl (y_load_a (cs := encMod (rmod q).1.1 sa) rfl ts32 (RdA.blk (i := 1) rfl rfl)) ?_
  refine r_y rfl rfl (y_move rfl) ?_
  refine r_y rfl rfl (y_iop rfl rfl rfl) ?_
  refine r_s rfl ?_
  refine s_store (us := encMod (rmod q).1.1 sa) rfl rfl rfl ts32 rfl rfl (one_mod _ _) (i := 2) rfl rfl ?_
  refine r_y rfl rfl (y_assign rfl) ?_
  refine r_nil ?_
  refine hK5 _ _ _ ?_
  clear hK5 K5
  refine c_ret ?_
  refine e_retf [0, 1, 2] 2 hm (res2 (r1_cell_a rfl ts32 (RdA.blk (i := 2) rfl rfl)) (r1_tmp rfl)) ?_
  exact ⟨sa, rfl, hza, hsa, rfl⟩
set_option maxRecDepth 100000 in
theorem rrules_w (r : Nat) (q : Rs) (m : Snap) (H : Hp) (hz : q.ok m) : Fn Try.prog 56 [.pointer (some ⟨r, 0, none⟩)] m (rdItem r q :: H) (fun v m' H' => ∃ (sr : Sl) (lr : List (RuleD × Sl)), v = sr.v ∧ FzR m' sr lr ∧ (rrules q).1 = lr.map (·.1) ∧ H' = rdItem r (rrules q).2 :: H) := by
  have hm : m.le m := Snap.le.refl m
  refine fn_end Try.func56 rfl rfl rfl ?_
  refine c_seq (fun K0 hK0 => ?_)
  refine c_region ?_
  refine r_y rfl rfl (y_assign rfl) ?_
  refine r_nil ?_
  refine hK0 _ _ _ ?_
  clear hK0 K0
  refine c_seq (fun K1 hK1 => ?_)
  refine c_region ?_
  refine r_nilvec 50 32 ?_
  refine r_y rfl rfl (y_assign rfl) ?_
  refine r_nil ?_
  refine hK1 _ _ _ ?_
  clear hK1 K1
  refine c_seq (fun K2 hK2 => ?_)
  refine c_seq (fun K3 hK3 => ?_)
  refine c_region ?_
  refine r_y rfl rfl (y_move rfl) ?_
  refine r_front 1 rfl ?_
  refine r_s rfl ?_
  refine s_call0 rfl Try.call53 rfl (num_ok r (q) 2 _ _ (hz) (by decide)) ?_
  rintro _ m2 _ hm2 ⟨rfl, rfl⟩
  replace hm := hm.trans hm2
  replace hz := hz.mono hm2
  clear hm2
  refine r_y rfl rfl (y_assign rfl) ?_
  refine r_nil ?_
  refine hK3 _ _ _ ?_
  clear hK3 K3
  refine c_block ?_
  obtain ⟨n0, hne, hn0⟩ := rint_nat (k := 2) (by decide) q
  replace hz := rint_ok (k := 2) hz
  have hall : AllA m2 [] := fun p hp => (by cases hp)
  refine c_loopx (α := Nat × Rs × List (RuleD × Sl) × Sl) (fun vv => match vv with | (n, q1, l, sv) => [(0, .pointer (some ⟨r, 0, none⟩)), (3, sv.v), (4, .int .i64 (n : Nat))]) (fun vv => match vv with | (n, q1, l, sv) => rdItem r q1 :: .vec sv.a sv.n sv.cap 50 32 (l.map fun p => encRule p.1 p.2) :: H) (fun k0 vv m1 => match vv with | (n, q1, l, sv) => (n = k0 ∧ sv.n = l.length ∧ n + l.length < 65536 ∧ rrules q = (l.map (·.1) ++ (rrulesN n q1).1, (rrulesN n q1).2)) ∧ m.le m1 ∧ (q1.ok m1) ∧ (AllA m1 l)) (n0) (n0, (rint 2 q).2, [], zSl) ⟨rfl, rfl, (by rw [← hne]; rfl), trivial⟩ rfl ⟨⟨rfl, rfl, by simpa using hn0, by simp [rrules, hne]⟩, hm, hz, hall⟩ ?_
  clear hm hz hall
  rintro k0 ⟨n, q1, l, sv⟩ m1 ⟨hi0, hm, hz, hall⟩
  obtain ⟨hi, hsn, hb, hinv⟩ := hi0
  refine c_seq (fun K4 hK4 => ?_)
  refine c_seq (fun K5 hK5 => ?_)
  refine c_region ?_
  refine r_y rfl rfl (y_move rfl) ?_
  refine r_y rfl rfl (y_iop rfl rfl rfl) ?_
  refine r_y rfl rfl (y_move rfl) ?_
  refine r_split (j := 2) rfl (fun h0 => ?_) (fun h0 => ?_)
  ·
    refine r_yg rfl h0 rfl (y_move rfl) ?_
    refine r_yg rfl h0 rfl (y_nilCheck rfl) ?_
    refine r_yg rfl h0 rfl (y_fieldAddr rfl At.lit fo98_1 rfl) ?_
    refine r_yg rfl h0 rfl (y_load_s rfl ts4 (RdS.blk (i := 0) rfl rfl)) ?_
    refine r_yg rfl h0 rfl (y_not rfl) ?_
    refine r_y rfl rfl (y_pickt rfl h0 rfl) ?_
    refine r_nil ?_
    refine hK5 _ _ _ ?_
    clear hK5 K5
    refine c_cond rfl (fun h1 => ?_) (fun h1 => ?_)
    ·
      refine c_skip ?_
      refine hK4 _ _ _ ?_
      clear hK4 K4
      refine c_seq (fun K6 hK6 => ?_)
      refine c_block ?_
      refine c_seq (fun K7 hK7 => ?_)
      refine c_region ?_
      refine r_y rfl rfl (y_move rfl) ?_
      refine r_s rfl ?_
      refine s_call0 rfl Try.call112 rfl (rcube_w r (q1) _ _ (hz)) ?_
      rintro _ m2 _ hm2 ⟨rfl, rfl⟩
      replace hm := hm.trans hm2
      replace hz := hz.mono hm2
      replace hall := hall.mono hm2
      clear hm2
      refine r_y rfl rfl (y_move rfl) ?_
      refine r_s rfl ?_
      refine s_call0 rfl Try.call53 rfl (num_ok r ((rcube (q1)).2) 2 _ _ (rcube_ok (hz)) (by decide)) ?_
      rintro _ m2 _ hm2 ⟨rfl, rfl⟩
      replace hm := hm.trans hm2
      replace hz := hz.mono hm2
      replace hall := hall.mono hm2
      clear hm2
      refine r_y rfl rfl (y_move rfl) ?_
      refine r_s rfl ?_
      refine s_call0 rfl Try.call53 rfl (num_ok r ((rint 2 ((rcube (q1)).2)).2) 4 _ _ (rint_ok (rcube_ok (hz))) (by decide)) ?_
      rintro _ m2 _ hm2 ⟨rfl, rfl⟩
      replace hm := hm.trans hm2
      replace hz := hz.mono hm2
      replace hall := hall.mono hm2
      clear hm2
      refine r_y rfl rfl (y_move rfl) ?_
      refine r_s rfl ?_
      refine s_call0 rfl Try.call53 rfl (num_ok r ((rint 4 ((rint 2 ((rcube (q1)).2)).2)).2) 4 _ _ (rint_ok (rint_ok (rcube_ok (hz)))) (by decide)) ?_
      rintro _ m2 _ hm2 ⟨rfl, rfl⟩
      replace hm := hm.trans hm2
      replace hz := hz.mono hm2
      replace hall := hall.mono hm2
      clear hm2
      refine r_y rfl rfl (y_move rfl) ?_
      refine r_s rfl ?_
      refine s_call0 rfl Try.call53 rfl (num_ok r ((rint 4 ((rint 4 ((rint 2 ((rcube (q1)).2)).2)).2)).2) 1 _ _ (rint_ok (rint_ok (rint_ok (rcube_ok (hz))))) (by decide)) ?_
      rintro _ m2 _ hm2 ⟨rfl, rfl⟩
      replace hm := hm.trans hm2
      replace hz := hz.mono hm2
      replace hall := hall.mono hm2
      clear hm2
      refine r_y rfl rfl (y_move rfl) ?_
      refine r_s rfl ?_
      refine s_call0 rfl Try.call53 rfl (num_ok r ((rint 1 ((rint 4 ((rint 4 ((rint 2 ((rcube (q1)).2)).2)).2)).2)).2) 8 _ _ (rint_ok (rint_ok (rint_ok (rint_ok (rcube_ok (hz)))))) (by decide)) ?_
      rintro _ m2 _ hm2 ⟨rfl, rfl⟩
      replace hm := hm.trans hm2
      replace hz := hz.mono hm2
      replace hall := hall.mono hm2
      clear hm2
      refine r_y rfl rfl (y_move rfl) ?_
      refine r_s rfl ?_
      refine s_call0 rfl Try.call53 rfl (num_ok r ((rint 8 ((rint 1 ((rint 4 ((rint 4 ((rint 2 ((rcube (q1)).2)).2)).2)).2)).2)).2) 8 _ _ (rint_ok (rint_ok (rint_ok (rint_ok (rint_ok (rcube_ok (hz))))))) (by decide)) ?_
      rintro _ m2 _ hm2 ⟨rfl, rfl⟩
      replace hm := hm.trans hm2
      replace hz := hz.mono hm2
      replace hall := hall.mono hm2
      clear hm2
      refine r_y rfl rfl (y_move rfl) ?_
      refine r_s rfl ?_
      refine s_call0 rfl Try.call53 rfl (num_ok r ((rint 8 ((rint 8 ((rint 1 ((rint 4 ((rint 4 ((rint 2 ((rcube (q1)).2)).2)).2)).2)).2)).2)).2) 8 _ _ (rint_ok (rint_ok (rint_ok (rint_ok (rint_ok (rint_ok (rcube_ok (hz)))))))) (by decide)) ?_
      rintro _ m2 _ hm2 ⟨rfl, rfl⟩
      replace hm := hm.trans hm2
      replace hz := hz.mono hm2
      replace hall := hall.mono hm2
      clear hm2
      refine r_y rfl rfl (y_bld rfl tz50 fk50 bp50_0_1_3_4_5_6_7_8 rfl rfl) ?_
      refine r_s rfl ?_
      refine s_alloc rfl tz50 (fun b0 => ?_)
      refine r_s rfl ?_
      refine s_store (us := encRule (rrule0 q1).1 zSl) rfl rfl rfl ts50 rfl rfl (one_rule _ _) (i := 0) rfl rfl ?_
      refine r_nil ?_
      refine hK7 _ _ _ ?_
      clear hK7 K7
      refine c_seq (fun K8 hK8 => ?_)
      refine c_region ?_
      refine r_y rfl rfl (y_move rfl) ?_
      refine r_front 1 rfl ?_
      refine r_s rfl ?_
      refine s_call0 rfl Try.call113 rfl (racts_w r ((rint 8 ((rint 8 ((rint 8 ((rint 1 ((rint 4 ((rint 4 ((rint 2 ((rcube (q1)).2)).2)).2)).2)).2)).2)).2)).2) _ _ (rint_ok (rint_ok (rint_ok (rint_ok (rint_ok (rint_ok (rint_ok (rcube_ok (hz)))))))))) ?_
      rintro _ m2 _ hm2 ⟨sa, rfl, hza, hsa, rfl⟩
      replace hm := hm.trans hm2
      replace hz := hz.mono hm2
      replace hall := hall.mono hm2
      clear hm2
      refine r_y rfl rfl (y_fieldAddr rfl At.lit fo50_2 rfl) ?_
      refine r_s rfl ?_
      refine s_store rfl rfl rfl ts30 rfl rfl (by simp [Value.oneCell', wv, Sl.v]) (i := 1) rfl rfl ?_
      refine r_nil ?_
      refine hK8 _ _ _ ?_
      clear hK8 K8
      refine c_region ?_
      refine r_y rfl rfl (y_move rfl) ?_
      refine r_y rfl rfl (y_load_a (cs := encRule (rrule q1).1 sa) rfl ts50 (RdA.blk (i := 1) rfl rfl)) ?_
      refine r_s rfl ?_
      refine s_buildSlice (cs := (encRule (rrule q1).1 sa)) (e := 50) rfl rfl (fun _ => by kernel_rfl) (fun b1 => ?_)
      refine r_s rfl ?_
      refine s_append rfl rfl rfl tl33 zo50 tb50 (i := 3) rfl (Src.one' (i := 0) rfl rfl (one_rule _ _)) (by omega) (by unfold maxLen; omega) (fun a1 c1 => ?_)
      refine r_del 0 rfl ?_
      refine r_y rfl rfl (y_assign rfl) ?_
      refine r_nil ?_
      refine hK6 _ _ _ ?_
      clear hK6 K6
      refine c_region ?_
      refine r_del 1 rfl ?_
      refine r_y rfl rfl (y_move rfl) ?_
      refine r_y rfl rfl (y_dec rfl (by simp at h0; omega) (by omega)) ?_
      refine r_y rfl rfl (y_assign rfl) ?_
      refine r_nil ?_
      replace hz := rrule_ok hz
      obtain ⟨n, rfl⟩ : ∃ j, n = j + 1 := ⟨n - 1, by simp at h0; omega⟩
      replace hall := hall.snoc (x := (rrule q1).1) hza hsa
      exact ⟨k0 - 1, (n, (rrule q1).2, l ++ [((rrule q1).1, sa)], ⟨a1, sv.n + 1, c1⟩), by omega, ⟨rfl, rfl, rfl, trivial⟩, (by simp only [List.map_append]; rfl), ⟨by omega, by simp [hsn], by simp; omega, by rw [hinv, rrulesN_succ (by simpa using h1)]; simp⟩, hm, hz, hall⟩
    ·
      refine c_exit ?_
      refine hK2 _ _ _ ?_
      clear hK4 K4 hK2 K2
      refine c_seq (fun K9 hK9 => ?_)
      refine c_region ?_
      refine r_freezeVec (i := 1) rfl rfl (fun m3 hm3 hzr hnil => ?_)
      replace hm := hm.trans hm3
      replace hz := hz.mono hm3
      replace hall := hall.mono hm3
      clear hm3
      refine r_y rfl rfl (y_move rfl) ?_
      refine r_y rfl rfl (y_assign rfl) ?_
      refine r_nil ?_
      refine hK9 _ _ _ ?_
      clear hK9 K9
      refine c_ret ?_
      refine e_ret 0 hm (res_tmps rfl) ?_
      have hq : rrules q = (l.map (·.1), q1) := by
        rw [hinv]
        first
          | (rw [rrulesN_end (by simpa using h1)]; simp; done)
          | (obtain rfl : n = 0 := by simp at h0; omega
             simp [rrulesN])
      rw [hq]
      exact ⟨sv, l, rfl, ⟨hzr, hall⟩, rfl, rfl⟩
  ·
    refine r_no' rfl rfl h0 ?_
    refine r_no' rfl rfl h0 ?_
    refine r_no' rfl rfl h0 ?_
    refine r_no' rfl rfl h0 ?_
    refine r_no' rfl rfl h0 ?_
    refine r_y rfl rfl (y_pickf rfl h0 rfl) ?_
    refine r_nil ?_
    refine hK5 _ _ _ ?_
    clear hK5 K5
    refine c_iff rfl rfl ?_
    refine c_exit ?_
    refine hK2 _ _ _ ?_
    clear hK4 K4 hK2 K2
    refine c_seq (fun K10 hK10 => ?_)
    refine c_region ?_
    refine r_freezeVec (i := 1) rfl rfl (fun m3 hm3 hzr hnil => ?_)
    replace hm := hm.trans hm3
    replace hz := hz.mono hm3
    replace hall := hall.mono hm3
    clear hm3
    refine r_y rfl rfl (y_move rfl) ?_
    refine r_y rfl rfl (y_assign rfl) ?_
    refine r_nil ?_
    refine hK10 _ _ _ ?_
    clear hK10 K10
    refine c_ret ?_
    refine e_ret 0 hm (res_tmps rfl) ?_
    have hq : rrules q = (l.map (·.1), q1) := by
      rw [hinv]
      first
        | (rw [rrulesN_end (by simpa using h1)]; simp; done)
        | (obtain rfl : n = 0 := by simp at h0; omega
           simp [rrulesN])
    rw [hq]
    exact ⟨sv, l, rfl, ⟨hzr, hall⟩, rfl, rfl⟩
end Go.Aw
