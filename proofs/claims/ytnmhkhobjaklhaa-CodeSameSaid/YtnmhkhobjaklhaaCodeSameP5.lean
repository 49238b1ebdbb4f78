/- Part 5 of the words and walks that the proof behind it uses. -/
import Derived.Test.YtnmhkhobjaklhaaCodeSameP4
set_option linter.unusedVariables false
set_option linter.unusedSimpArgs false
namespace Go.Aw
open Go Go.Proofs
theorem fo98_1 : fieldOff Try.prog 98 1 = some 1 := by kernel_rfl
theorem fo98_0 : fieldOff Try.prog 98 0 = some 0 := by kernel_rfl
theorem ts22 : tshape Try.prog 22 = some (false, 1) := by kernel_rfl
theorem tl22 : tslice Try.prog 22 = some (5, 1) := by kernel_rfl
theorem ts5 : tshape Try.prog 5 = some (false, 1) := by kernel_rfl
theorem un5 : Try.prog.underlying 5 = some (.int .u8) := by kernel_rfl
theorem un25 : Try.prog.underlying 25 = some (.int .u64) := by kernel_rfl
theorem un3 : Try.prog.underlying 3 = some (.int .i64) := by kernel_rfl
theorem tz29 : tzero Try.prog 29 = some [.int .u64 0, .int .u64 0, .int .u64 0, .int .u64 0, .int .u64 0, .int .u64 0, .int .u64 0, .int .u64 0, .int .u64 0, .int .u64 0, .int .u64 0, .int .u64 0, .int .u64 0, .int .u64 0, .int .u64 0, .int .u64 0, .int .u64 0, .int .u64 0, .int .u64 0, .int .u64 0, .int .u64 0, .int .u64 0, .int .u64 0, .int .u64 0] := by kernel_rfl
theorem fk29 : fieldsKnown Try.prog 29 = true := by kernel_rfl
theorem bp29_0_1 : bplaces Try.prog 29 [0, 1] = some [(0, 12), (12, 12)] := by kernel_rfl
theorem bp53_0_1_2_3 : bplaces Try.prog 53 [0, 1, 2, 3] = some [(0, 1), (1, 1), (2, 1), (3, 1)] := by kernel_rfl
theorem zo53 : zeroOk Try.prog 53 = true := by kernel_rfl
theorem tb53 : tbytes Try.prog 53 = some 32 := by kernel_rfl
theorem bp32_0_1_2_4_5_6 : bplaces Try.prog 32 [0, 1, 2, 4, 5, 6] = some [(0, 1), (1, 24), (25, 1), (27, 1), (28, 1), (29, 1)] := by kernel_rfl
theorem fk50 : fieldsKnown Try.prog 50 = true := by kernel_rfl
theorem bp50_0_1_3_4_5_6_7_8 : bplaces Try.prog 50 [0, 1, 3, 4, 5, 6, 7, 8] = some [(0, 24), (24, 1), (26, 1), (27, 1), (28, 1), (29, 1), (30, 1), (31, 1)] := by kernel_rfl
theorem zo50 : zeroOk Try.prog 50 = true := by kernel_rfl
theorem tb50 : tbytes Try.prog 50 = some 272 := by kernel_rfl
set_option maxRecDepth 100000 in
theorem get_ok (r : Nat) (q : Rs) (k : Nat) (m : Snap) (H : Hp) (hz : q.ok m) (hk64 : k ≤ 64) : Fn Try.prog 111 [.pointer (some ⟨r, 0, none⟩), .int .i64 (k : Nat)] m (rdItem r q :: H) (fun v _ H' => v = wv (rget k q).1 ∧ H' = rdItem r (rget k q).2 :: H) := by
  have hl := Fz.lenB (s := q.s) (l := q.l) hz
  have hm : m.le m := Snap.le.refl m
  refine fn_end Try.func111 rfl rfl rfl ?_
  refine c_seq (fun K0 hK0 => ?_)
  refine c_region ?_
  refine r_y rfl rfl (y_assign rfl) ?_
  refine r_nil ?_
  refine hK0 _ _ _ ?_
  clear hK0 K0
  refine c_seq (fun K1 hK1 => ?_)
  refine c_seq (fun K2 hK2 => ?_)
  refine c_region ?_
  refine r_y rfl rfl (y_move rfl) ?_
  refine r_y rfl rfl (y_nilCheck rfl) ?_
  refine r_y rfl rfl (y_fieldAddr rfl At.lit fo98_1 rfl) ?_
  refine r_y rfl rfl (y_load_s rfl ts4 (RdS.blk (i := 0) rfl rfl)) ?_
  refine r_y rfl rfl (y_move rfl) ?_
  refine r_split (j := 4) rfl (fun h0 => ?_) (fun h0 => ?_)
  ·
    refine r_no' rfl rfl h0 ?_
    refine r_no' rfl rfl h0 ?_
    refine r_no' rfl rfl h0 ?_
    refine r_no' rfl rfl h0 ?_
    refine r_no' rfl rfl h0 ?_
    refine r_no' rfl rfl h0 ?_
    refine r_no' rfl rfl h0 ?_
    refine r_y rfl rfl (y_pickt rfl h0 rfl) ?_
    refine r_nil ?_
    refine hK2 _ _ _ ?_
    clear hK2 K2
    refine c_ift rfl rfl ?_
    refine c_seq (fun K3 hK3 => ?_)
    refine c_region ?_
    refine r_y rfl rfl (y_move rfl) ?_
    refine r_y rfl rfl (y_nilCheck rfl) ?_
    refine r_y rfl rfl (y_fieldAddr rfl At.lit fo98_1 rfl) ?_
    refine r_s rfl ?_
    refine s_store rfl rfl rfl ts4 rfl rfl (by simp [Value.oneCell', wv, Sl.v]) (i := 0) rfl rfl ?_
    refine r_nil ?_
    refine hK3 _ _ _ ?_
    clear hK3 K3
    refine c_seq (fun K4 hK4 => ?_)
    refine c_region ?_
    refine r_y rfl rfl (y_assign rfl) ?_
    refine r_nil ?_
    refine hK4 _ _ _ ?_
    clear hK4 K4
    refine c_ret ?_
    refine e_ret 0 hm (res_tmps rfl) ?_
    rw [rget_no (by first | (simp [h0]; done) | (simp at h1; simp; omega))]
    exact ⟨rfl, rfl⟩
  ·
    refine r_yg rfl h0 rfl (y_move rfl) ?_
    refine r_yg rfl h0 rfl (y_nilCheck rfl) ?_
    refine r_yg rfl h0 rfl (y_fieldAddr rfl At.lit fo98_0 rfl) ?_
    refine r_yg rfl h0 rfl (y_load_s rfl ts22 (RdS.blk (i := 0) rfl rfl)) ?_
    refine r_yg rfl h0 rfl (y_len tl22 rfl) ?_
    refine r_yg rfl h0 rfl (y_move rfl) ?_
    refine r_yg rfl h0 rfl (y_iop rfl rfl rfl) ?_
    refine r_y rfl rfl (y_pickf rfl h0 rfl) ?_
    refine r_nil ?_
    refine hK2 _ _ _ ?_
    clear hK2 K2
    refine c_cond rfl (fun h1 => ?_) (fun h1 => ?_)
    ·
      refine c_seq (fun K5 hK5 => ?_)
      refine c_region ?_
      refine r_y rfl rfl (y_move rfl) ?_
      refine r_y rfl rfl (y_nilCheck rfl) ?_
      refine r_y rfl rfl (y_fieldAddr rfl At.lit fo98_1 rfl) ?_
      refine r_s rfl ?_
      refine s_store rfl rfl rfl ts4 rfl rfl (by simp [Value.oneCell', wv, Sl.v]) (i := 0) rfl rfl ?_
      refine r_nil ?_
      refine hK5 _ _ _ ?_
      clear hK5 K5
      refine c_seq (fun K6 hK6 => ?_)
      refine c_region ?_
      refine r_y rfl rfl (y_assign rfl) ?_
      refine r_nil ?_
      refine hK6 _ _ _ ?_
      clear hK6 K6
      refine c_ret ?_
      refine e_ret 0 hm (res_tmps rfl) ?_
      rw [rget_no (by first | (simp [h0]; done) | (simp at h1; simp; omega))]
      exact ⟨rfl, rfl⟩
    ·
      refine c_skip ?_
      refine hK1 _ _ _ ?_
      clear hK1 K1
      refine c_seq (fun K7 hK7 => ?_)
      refine c_region ?_
      refine r_y rfl rfl (y_assign rfl) ?_
      refine r_nil ?_
      refine hK7 _ _ _ ?_
      clear hK7 K7
      refine c_seq (fun K8 hK8 => ?_)
      refine c_seq (fun K9 hK9 => ?_)
      refine c_region ?_
      refine r_y rfl rfl (y_move rfl) ?_
      refine r_y rfl rfl (y_nilCheck rfl) ?_
      refine r_y rfl rfl (y_fieldAddr rfl At.lit fo98_0 rfl) ?_
      refine r_y rfl rfl (y_load_s rfl ts22 (RdS.blk (i := 0) rfl rfl)) ?_
      refine r_y rfl rfl (y_move rfl) ?_
      have hkn : k ≤ q.s.n := by simp at h1; omega
      have hkc : k ≤ q.s.cap := Nat.le_trans hkn hz.le
      have hkm : k ≤ maxLen := Nat.le_trans hkc hz.max
      have hzs := hz.slice (lo := 0) (hi := k) (Nat.zero_le _) hkn
      refine r_y rfl rfl (y_slice rfl tl22 bnd_none (bnd_some (kd := .i64) (x := k) rfl) (Nat.zero_le _) hkc) ?_
      refine r_y rfl rfl (y_len tl22 rfl) ?_
      refine r_y rfl rfl (y_move rfl) ?_
      refine r_nil ?_
      refine hK9 _ _ _ ?_
      clear hK9 K9
      refine c_block ?_
      refine c_loopx (α := Nat) (fun i => [(0, .pointer (some ⟨r, 0, none⟩)), (1, .int .i64 (k : Nat)), (5, wv (rnum (q.l.take i))), (29, .slice (sadd q.s.a 0 1 q.s.cap) (k - 0) (q.s.cap - 0)), (30, .int .i64 ((k - 0 : Nat) : Int)), (31, .int .i64 (i : Nat))]) (fun i => rdItem r (q) :: H) (fun k0 i m1 => (i + k0 = k ∧ True) ∧ m.le m1 ∧ (q.ok m1) ∧ (Fz m1 (sadd q.s.a 0 1 q.s.cap) (k - 0) (q.s.cap - 0) 1 (((bytes1 q.l).drop 0).take (k - 0)))) (k) 0 ⟨rfl, rfl, rfl, rfl, rfl, rfl, trivial⟩ rfl ⟨⟨by omega, trivial⟩, hm, hz, hzs⟩ ?_
      clear hm hz hzs
      rintro k0 i m1 ⟨hi0, hm, hz, hzs⟩
      obtain ⟨hi, hinv⟩ := hi0
      refine c_seq (fun K10 hK10 => ?_)
      refine c_region ?_
      refine r_y rfl rfl (y_iop rfl rfl rfl) ?_
      refine r_nil ?_
      refine hK10 _ _ _ ?_
      clear hK10 K10
      refine c_seq (fun K11 hK11 => ?_)
      refine c_cond rfl (fun h2 => ?_) (fun h2 => ?_)
      ·
        have hlt : i < k - 0 := by simp at h2; omega
        obtain ⟨x, hx⟩ := get_of_lt (l := q.l) (k := i) (by omega)
        refine c_skip ?_
        refine hK11 _ _ _ ?_
        clear hK11 K11
        refine c_seq (fun K12 hK12 => ?_)
        refine c_block ?_
        refine c_seq (fun K13 hK13 => ?_)
        refine c_region ?_
        refine r_y rfl rfl (y_indexAddr_slice rfl rfl tl22 hlt (At.fz hzs hlt)) ?_
        refine r_y rfl rfl (y_load_s rfl ts5 (RdS.fz (j := 0) hzs (bytes1_take hx hlt) rfl)) ?_
        refine r_y rfl rfl (y_assign rfl) ?_
        refine r_nil ?_
        refine hK13 _ _ _ ?_
        clear hK13 K13
        refine c_region ?_
        refine r_y rfl rfl (y_move rfl) ?_
        refine r_y rfl rfl (y_wshl (b := 8) rfl rfl (by decide)) ?_
        refine r_y rfl rfl (y_move rfl) ?_
        refine r_y rfl rfl (y_conv_8w rfl un5 un25) ?_
        refine r_y rfl rfl (y_wop rfl rfl rfl) ?_
        refine r_y rfl rfl (y_assign rfl) ?_
        refine r_nil ?_
        refine hK12 _ _ _ ?_
        clear hK12 K12
        refine c_region ?_
        first | refine r_y rfl rfl (y_inc rfl (by omega)) ?_ | refine r_y rfl rfl (y_iop rfl rfl rfl) ?_
        refine r_y rfl rfl (y_move rfl) ?_
        refine r_nil ?_
        exact ⟨k0 - 1, (i + 1), by omega, ⟨rfl, rfl, (by rw [rnum_take hx]; rfl), rfl, rfl, rfl, trivial⟩, rfl, ⟨by omega, trivial⟩, hm, hz, hzs⟩
      ·
        refine c_exit ?_
        refine hK8 _ _ _ ?_
        clear hK11 K11 hK8 K8
        refine c_seq (fun K14 hK14 => ?_)
        refine c_region ?_
        refine r_y rfl rfl (y_move rfl) ?_
        refine r_y rfl rfl (y_move rfl) ?_
        refine r_y rfl rfl (y_nilCheck rfl) ?_
        refine r_y rfl rfl (y_fieldAddr rfl At.lit fo98_0 rfl) ?_
        refine r_y rfl rfl (y_load_s rfl ts22 (RdS.blk (i := 0) rfl rfl)) ?_
        refine r_y rfl rfl (y_move rfl) ?_
        refine r_y rfl rfl (y_slice rfl tl22 (bnd_some (kd := .i64) (x := k) rfl) bnd_none hkn hz.le) ?_
        refine r_y rfl rfl (y_nilCheck rfl) ?_
        refine r_y rfl rfl (y_fieldAddr rfl At.lit fo98_0 rfl) ?_
        refine r_s rfl ?_
        refine s_store rfl rfl rfl ts22 rfl rfl (by simp [Value.oneCell', wv, Sl.v]) (i := 0) rfl rfl ?_
        refine r_nil ?_
        refine hK14 _ _ _ ?_
        clear hK14 K14
        refine c_seq (fun K15 hK15 => ?_)
        refine c_region ?_
        refine r_y rfl rfl (y_move rfl) ?_
        refine r_y rfl rfl (y_assign rfl) ?_
        refine r_nil ?_
        refine hK15 _ _ _ ?_
        clear hK15 K15
        refine c_ret ?_
        refine e_ret 0 hm (res_tmps rfl) ?_
        rw [rget_yes (by simp at h1; simp [h0]; omega)]
        have hie : i = k := by simp at h2; omega
        subst hie
        rw [h0]
        exact ⟨rfl, rfl⟩
set_option maxRecDepth 100000 in
theorem num_ok (r : Nat) (q : Rs) (k : Nat) (m : Snap) (H : Hp) (hz : q.ok m) (hk64 : k ≤ 64) : Fn Try.prog 53 [.pointer (some ⟨r, 0, none⟩), .int .i64 (k : Nat)] m (rdItem r q :: H) (fun v _ H' => v = .int .i64 (rint k q).1 ∧ H' = rdItem r (rint k q).2 :: H) := by
  have hm : m.le m := Snap.le.refl m
  refine fn_end Try.func53 rfl rfl rfl ?_
  refine c_seq (fun K0 hK0 => ?_)
  refine c_region ?_
  refine r_y rfl rfl (y_assign rfl) ?_
  refine r_nil ?_
  refine hK0 _ _ _ ?_
  clear hK0 K0
  refine c_seq (fun K1 hK1 => ?_)
  refine c_region ?_
  refine r_y rfl rfl (y_move rfl) ?_
  refine r_y rfl rfl (y_move rfl) ?_
  refine r_s rfl ?_
  refine s_call0 rfl Try.call111 rfl (get_ok r (q) k _ _ (hz) hk64) ?_
  rintro _ m2 _ hm2 ⟨rfl, rfl⟩
  replace hm := hm.trans hm2
  replace hz := hz.mono hm2
  clear hm2
  refine r_y rfl rfl (y_conv_wi rfl un25 un3) ?_
  refine r_y rfl rfl (y_assign rfl) ?_
  refine r_nil ?_
  refine hK1 _ _ _ ?_
  clear hK1 K1
  refine c_ret ?_
  refine e_ret 0 hm (res_tmps rfl) ?_
  exact ⟨rfl, rfl⟩
set_option maxRecDepth 100000 in
theorem rhead_w (r : Nat) (q : Rs) (m : Snap) (H : Hp) (hz : q.ok m) : Fn Try.prog 55 [.pointer (some ⟨r, 0, none⟩)] m (rdItem r q :: H) (fun v _ H' => v = .agg (encHead (rhead q).1).toArray ∧ H' = rdItem r (rhead q).2 :: H) := by
  have hm : m.le m := Snap.le.refl m
  refine fn_end Try.func55 rfl rfl rfl ?_
  refine c_seq (fun K0 hK0 => ?_)
  refine c_region ?_
  refine r_s rfl ?_
  refine s_alloc rfl tz27 (fun b0 => ?_)
  refine r_nil ?_
  refine hK0 _ _ _ ?_
  clear hK0 K0
  refine c_seq (fun K1 hK1 => ?_)
  refine c_region ?_
  refine r_s rfl ?_
  refine s_alloc rfl tz27 (fun b1 => ?_)
  refine r_nil ?_
  refine hK1 _ _ _ ?_
  clear hK1 K1
  refine c_seq (fun K2 hK2 => ?_)
  refine c_seq (fun K3 hK3 => ?_)
  refine c_region ?_
  refine r_y rfl rfl (y_move rfl) ?_
  refine r_nil ?_
  refine hK3 _ _ _ ?_
  clear hK3 K3
  refine c_block ?_
  refine c_front 2 rfl ?_
  refine c_loopx (α := Nat) (fun i => [(0, .pointer (some ⟨r, 0, none⟩)), (2, .pointer (some ⟨b0, 0, none⟩)), (3, .pointer (some ⟨b1, 0, none⟩)), (5, .int .i64 (i : Nat))]) (fun i => rdItem r (rheadN i q).2 :: .blk b1 (.cells (encHead (rheadN i q).1).toArray 27) :: .blk b0 (.cells (encHead zHead).toArray 27) :: H) (fun k0 i m1 => (i + k0 = 12 ∧ True) ∧ m.le m1 ∧ (q.ok m1)) (12) 0 ⟨rfl, rfl, rfl, rfl, trivial⟩ rfl ⟨⟨by omega, trivial⟩, hm, hz⟩ ?_
  clear hm hz
  rintro k0 i m1 ⟨hi0, hm, hz⟩
  obtain ⟨hi, hinv⟩ := hi0
  refine c_seq (fun K4 hK4 => ?_)
  refine c_region ?_
  refine r_y rfl rfl (y_iop rfl rfl rfl) ?_
  refine r_nil ?_
  refine hK4 _ _ _ ?_
  clear hK4 K4
  refine c_seq (fun K5 hK5 => ?_)
  refine c_cond rfl (fun h0 => ?_) (fun h0 => ?_)
  ·
    have hlt : i < 12 := by simp at h0; omega
    refine c_skip ?_
    refine hK5 _ _ _ ?_
    clear hK5 K5
    refine c_seq (fun K6 hK6 => ?_)
    refine c_block ?_
    refine c_seq (fun K7 hK7 => ?_)
    refine c_region ?_
    refine r_y rfl rfl (y_move rfl) ?_
    refine r_y rfl rfl (y_assign rfl) ?_
    refine r_nil ?_
    refine hK7 _ _ _ ?_
    clear hK7 K7
    refine c_region ?_
    refine r_y rfl rfl (y_move rfl) ?_
    refine r_y rfl rfl (y_move rfl) ?_
    refine r_s rfl ?_
    refine s_call0 rfl Try.call111 rfl (get_ok r ((rheadN i q).2) 8 _ _ (rheadN_ok hz i) (by decide)) ?_
    rintro _ m2 _ hm2 ⟨rfl, rfl⟩
    replace hm := hm.trans hm2
    replace hz := hz.mono hm2
    clear hm2
    refine r_y rfl rfl (y_indexAddr_arr rfl rfl ta27 hlt At.lit) ?_
    refine r_s rfl ?_
    refine s_store rfl rfl rfl ts25 rfl rfl (by simp [Value.oneCell', wv]) (i := 1) rfl (cput_head _ _ _ hlt) ?_
    refine r_nil ?_
    refine hK6 _ _ _ ?_
    clear hK6 K6
    refine c_region ?_
    first | refine r_y rfl rfl (y_inc rfl (by omega)) ?_ | refine r_y rfl rfl (y_iop rfl rfl rfl) ?_
    refine r_y rfl rfl (y_move rfl) ?_
    refine r_nil ?_
    exact ⟨k0 - 1, (i + 1), by omega, ⟨rfl, rfl, rfl, rfl, trivial⟩, rfl, ⟨by omega, trivial⟩, hm, hz⟩
  ·
    obtain rfl : i = 12 := by simp at h0; omega
    refine c_exit ?_
    refine hK2 _ _ _ ?_
    clear hK5 K5 hK2 K2
    refine c_seq (fun K8 hK8 => ?_)
    refine c_region ?_
    refine r_y rfl rfl (y_load_a rfl ts27 (RdA.blk (i := 1) rfl rfl)) ?_
    refine r_s rfl ?_
    refine s_store (us := encHead (rhead q).1) rfl rfl rfl ts27 rfl rfl (one_head _) (i := 2) rfl rfl ?_
    refine r_nil ?_
    refine hK8 _ _ _ ?_
    clear hK8 K8
    refine c_ret ?_
    refine e_retf [0, 1, 2] 2 hm (res_cell_a rfl ts27 (RdA.blk (i := 2) rfl rfl)) ?_
    exact ⟨rfl, rfl⟩
set_option maxRecDepth 100000 in
theorem rcube_w (r : Nat) (q : Rs) (m : Snap) (H : Hp) (hz : q.ok m) : Fn Try.prog 112 [.pointer (some ⟨r, 0, none⟩)] m (rdItem r q :: H) (fun v _ H' => v = .agg (encCube (rcube q).1).toArray ∧ H' = rdItem r (rcube q).2 :: H) := by
  have hm : m.le m := Snap.le.refl m
  refine fn_end Try.func112 rfl rfl rfl ?_
  refine c_seq (fun K0 hK0 => ?_)
  refine c_region ?_
  refine r_s rfl ?_
  refine s_alloc rfl tz29 (fun b0 => ?_)
  refine r_nil ?_
  refine hK0 _ _ _ ?_
  clear hK0 K0
  refine c_seq (fun K1 hK1 => ?_)
  refine c_region ?_
  refine r_y rfl rfl (y_move rfl) ?_
  refine r_front 1 rfl ?_
  refine r_s rfl ?_
  refine s_call0 rfl Try.call55 rfl (rhead_w r (q) _ _ (hz)) ?_
  rintro _ m2 _ hm2 ⟨rfl, rfl⟩
  replace hm := hm.trans hm2
  replace hz := hz.mono hm2
  clear hm2
  refine r_y rfl rfl (y_move rfl) ?_
  refine r_s rfl ?_
  refine s_call0 rfl Try.call55 rfl (rhead_w r ((rhead (q)).2) _ _ (rhead_ok (hz))) ?_
  rintro _ m2 _ hm2 ⟨rfl, rfl⟩
  replace hm := hm.trans hm2
  replace hz := hz.mono hm2
  clear hm2
  refine r_y rfl rfl (y_bld rfl tz29 fk29 bp29_0_1 rfl rfl) ?_
  refine r_s rfl ?_
  refine s_store (us := encCube (rcube q).1) rfl rfl rfl ts29 rfl rfl (one_cube _) (i := 1) rfl rfl ?_
  refine r_nil ?_
  refine hK1 _ _ _ ?_
  clear hK1 K1
  refine c_ret ?_
  refine e_retf [0, 1] 1 hm (res_cell_a rfl ts29 (RdA.blk (i := 1) rfl rfl)) ?_
  exact ⟨rfl, rfl⟩
set_option maxRecDepth 100000 in
theorem racts_w (r : Nat) (q : Rs) (m : Snap) (H : Hp) (hz : q.ok m) : Fn Try.prog 113 [.pointer (some ⟨r, 0, none⟩)] m (rdItem r q :: H) (fun v m' H' => ∃ sa : Sl, v = sa.v ∧ FzA m' sa (racts q).1 ∧ sa.ok ∧ H' = rdItem r (racts q).2 :: H) := by
  have hm : m.le m := Snap.le.refl m
  refine fn_end Try.func113 rfl rfl rfl ?_
  refine c_seq (fun K0 hK0 => ?_)
  refine c_region ?_
  refine r_y rfl rfl (y_assign rfl) ?_
  refine r_nil ?_
  refine hK0 _ _ _ ?_
  clear hK0 K0
  refine c_seq (fun K1 hK1 => ?_)
  refine c_region ?_
  refine r_nilvec 53 4 ?_
  refine r_y rfl rfl (y_assign rfl) ?_
  refine r_nil ?_
  refine hK1 _ _ _ ?_
  clear hK1 K1
  refine c_seq (fun K2 hK2 => ?_)
  refine c_seq (fun K3 hK3 => ?_)
  refine c_region ?_
  refine r_y rfl rfl (y_move rfl) ?_
  refine r_front 1 rfl ?_
  refine r_s rfl ?_
  refine s_call0 rfl Try.call53 rfl (num_ok r (q) 1 _ _ (hz) (by decide)) ?_
  rintro _ m2 _ hm2 ⟨rfl, rfl⟩
  replace hm := hm.trans hm2
  replace hz := hz.mono hm2
  clear hm2
  refine r_y rfl rfl (y_assign rfl) ?_
  refine r_nil ?_
  refine hK3 _ _ _ ?_
  clear hK3 K3
  refine c_block ?_
  obtain ⟨n0, hne, hn0⟩ := rint_nat (k := 1) (by decide) q
  replace hz := rint_ok (k := 1) hz
  refine c_loopx (α := Nat × Rs × List ActD × Sl) (fun vv => match vv with | (n, q1, l, sv) => [(0, .pointer (some ⟨r, 0, none⟩)), (3, sv.v), (4, .int .i64 (n : Nat))]) (fun vv => match vv with | (n, q1, l, sv) => rdItem r q1 :: .vec sv.a sv.n sv.cap 53 4 (l.map encAct) :: H) (fun k0 vv m1 => match vv with | (n, q1, l, sv) => (n = k0 ∧ sv.n = l.length ∧ n + l.length < 256 ∧ racts q = (l ++ (ractsN n q1).1, (ractsN n q1).2)) ∧ m.le m1 ∧ (q1.ok m1)) (n0) (n0, (rint 1 q).2, [], zSl) ⟨rfl, rfl, (by rw [← hne]; rfl), trivial⟩ rfl ⟨⟨rfl, rfl, by simpa using hn0, by simp [racts, hne]⟩, hm, hz⟩ ?_
  clear hm hz
  rintro k0 ⟨n, q1, l, sv⟩ m1 ⟨hi0, hm, hz⟩
  obtain ⟨hi, hsn, hb, hinv⟩ := hi0
  refine c_seq (fun K4 hK4 => ?_)
  refine c_seq (fun K5 hK5 => ?_)
  refine c_region ?_
  refine r_y rfl rfl (y_move rfl) ?_
  refine r_y rfl rfl (y_iop rfl rfl rfl) ?_
  refine r_y rfl rfl (y_move rfl) ?_
  refine r_split (j := 2) rfl (fun h0 => ?_) (fun h0 => ?_)
  ·
    refine r_yg rfl h0 rfl (y_move rfl) ?_
    refine r_yg rfl h0 rfl (y_nilCheck rfl) ?_
    refine r_yg rfl h0 rfl (y_fieldAddr rfl At.lit fo98_1 rfl) ?_
    refine r_yg rfl h0 rfl (y_load_s rfl ts4 (RdS.blk (i := 0) rfl rfl)) ?_
    refine r_yg rfl h0 rfl (y_not rfl) ?_
    refine r_y rfl rfl (y_pickt rfl h0 rfl) ?_
    refine r_nil ?_
    refine hK5 _ _ _ ?_
    clear hK5 K5
    refine c_cond rfl (fun h1 => ?_) (fun h1 => ?_)
    ·
      refine c_skip ?_
      refine hK4 _ _ _ ?_
      clear hK4 K4
      refine c_seq (fun K6 hK6 => ?_)
      refine c_block ?_
      refine c_region ?_
      refine r_y rfl rfl (y_move rfl) ?_
      refine r_y rfl rfl (y_move rfl) ?_
      refine r_s rfl ?_
      refine s_call0 rfl Try.call53 rfl (num_ok r (q1) 1 _ _ (hz) (by decide)) ?_
      rintro _ m2 _ hm2 ⟨rfl, rfl⟩
      replace hm := hm.trans hm2
      replace hz := hz.mono hm2
      clear hm2
      refine r_y rfl rfl (y_move rfl) ?_
      refine r_s rfl ?_
      refine s_call0 rfl Try.call53 rfl (num_ok r ((rint 1 (q1)).2) 1 _ _ (rint_ok (hz)) (by decide)) ?_
      rintro _ m2 _ hm2 ⟨rfl, rfl⟩
      replace hm := hm.trans hm2
      replace hz := hz.mono hm2
      clear hm2
      refine r_y rfl rfl (y_move rfl) ?_
      refine r_s rfl ?_
      refine s_call0 rfl Try.call53 rfl (num_ok r ((rint 1 ((rint 1 (q1)).2)).2) 1 _ _ (rint_ok (rint_ok (hz))) (by decide)) ?_
      rintro _ m2 _ hm2 ⟨rfl, rfl⟩
      replace hm := hm.trans hm2
      replace hz := hz.mono hm2
      clear hm2
      refine r_y rfl rfl (y_move rfl) ?_
      refine r_s rfl ?_
      refine s_call0 rfl Try.call111 rfl (get_ok r ((rint 1 ((rint 1 ((rint 1 (q1)).2)).2)).2) 8 _ _ (rint_ok (rint_ok (rint_ok (hz)))) (by decide)) ?_
      rintro _ m2 _ hm2 ⟨rfl, rfl⟩
      replace hm := hm.trans hm2
      replace hz := hz.mono hm2
      clear hm2
      refine r_y rfl rfl (y_bld rfl tz53 fk53 bp53_0_1_2_3 rfl rfl) ?_
      refine r_s rfl ?_
      refine s_buildSlice (cs := (encAct (ract q1).1)) (e := 53) rfl rfl (fun _ => by kernel_rfl) (fun b0 => ?_)
      refine r_s rfl ?_
      refine s_append rfl rfl rfl tl30 zo53 tb53 (i := 2) rfl (Src.one' (i := 0) rfl rfl (one_act _)) (by omega) (by unfold maxLen; omega) (fun a1 c1 => ?_)
      refine r_del 0 rfl ?_
      refine r_y rfl rfl (y_assign rfl) ?_
      refine r_nil ?_
      refine hK6 _ _ _ ?_
      clear hK6 K6
      refine c_region ?_
      refine r_y rfl rfl (y_move rfl) ?_
      refine r_y rfl rfl (y_dec rfl (by simp at h0; omega) (by omega)) ?_
      refine r_y rfl rfl (y_assign rfl) ?_
      refine r_nil ?_
      replace hz := ract_ok hz
      obtain ⟨n, rfl⟩ : ∃ j, n = j + 1 := ⟨n - 1, by simp at h0; omega⟩
      exact ⟨k0 - 1, (n, (ract q1).2, l ++ [(ract q1).1], ⟨a1, sv.n + 1, c1⟩), by omega, ⟨rfl, rfl, rfl, trivial⟩, (by simp only [List.map_append]; rfl), ⟨by omega, by simp [hsn], by simp; omega, by rw [hinv, ractsN_succ (by simpa using h1)]; simp⟩, hm, hz⟩
    ·
      refine c_exit ?_
      refine hK2 _ _ _ ?_
      clear hK4 K4 hK2 K2
      refine c_seq (fun K7 hK7 => ?_)
      refine c_region ?_
      refine r_freezeVec (i := 1) rfl rfl (fun m3 hm3 hza hnil => ?_)
      replace hm := hm.trans hm3
      replace hz := hz.mono hm3
      clear hm3
      refine r_y rfl rfl (y_move rfl) ?_
      refine r_y rfl rfl (y_assign rfl) ?_
      refine r_nil ?_
      refine hK7 _ _ _ ?_
      clear hK7 K7
      refine c_ret ?_
      refine e_ret 0 hm (res_tmps rfl) ?_
      have hq : racts q = (l, q1) := by
        rw [hinv]
        first
          | (rw [ractsN_end (by simpa using h1)]; simp; done)
          | (obtain rfl : n = 0 := by simp at h0; omega
             simp [ractsN])
      rw [hq]
      exact ⟨sv, rfl, hza, hnil, rfl⟩
  ·
    refine r_no' rfl rfl h0 ?_
    refine r_no' rfl rfl h0 ?_
    refine r_no' rfl rfl h0 ?_
    refine r_no' rfl rfl h0 ?_
    refine r_no' rfl rfl h0 ?_
    refine r_y rfl rfl (y_pickf rfl h0 rfl) ?_
    refine r_nil ?_
    refine hK5 _ _ _ ?_
    clear hK5 K5
    refine c_iff rfl rfl ?_
    refine c_exit ?_
    refine hK2 _ _ _ ?_
    clear hK4 K4 hK2 K2
    refine c_seq (fun K8 hK8 => ?_)
    refine c_region ?_
    refine r_freezeVec (i := 1) rfl rfl (fun m3 hm3 hza hnil => ?_)
    replace hm := hm.trans hm3
    replace hz := hz.mono hm3
    clear hm3
    refine r_y rfl rfl (y_move rfl) ?_
    refine r_y rfl rfl (y_assign rfl) ?_
    refine r_nil ?_
    refine hK8 _ _ _ ?_
    clear hK8 K8
    refine c_ret ?_
    refine e_ret 0 hm (res_tmps rfl) ?_
    have hq : racts q = (l, q1) := by
      rw [hinv]
      first
        | (rw [ractsN_end (by simpa using h1)]; simp; done)
        | (obtain rfl : n = 0 := by simp at h0; omega
           simp [ractsN])
    rw [hq]
    exact ⟨sv, rfl, hza, hnil, rfl⟩
set_option maxRecDepth 100000 in
theorem rmod_w (r : Nat) (q : Rs) (m : Snap) (H : Hp) (hz : q.ok m) : Fn Try.prog 54 [.pointer (some ⟨r, 0, none⟩)] m (rdItem r q :: H) (fun v m' H' => ∃ sa : Sl, v = .tuple [.agg (encMod (rmod q).1.1 sa).toArray, .bool (rmod q).1.2].toArray ∧ FzA m' sa (rmod q).1.1.acts ∧ sa.ok ∧ H' = rdItem r (rmod q).2 :: H) := by
  have hm : m.le m := Snap.le.refl m
  refine fn_end Try.func54 rfl rfl rfl ?_
  refine c_seq (fun K0 hK0 => ?_)
  refine c_region ?_
  refine r_s rfl ?_
  refine s_alloc rfl tz32 (fun b0 => ?_)
  refine r_y rfl rfl (y_assign rfl) ?_
  refine r_nil ?_
  refine hK0 _ _ _ ?_
  clear hK0 K0
  refine c_seq (fun K1 hK1 => ?_)
  refine c_region ?_
  refine r_y rfl rfl (y_move rfl) ?_
  refine r_front 1 rfl ?_
  refine r_s rfl ?_
  refine s_call0 rfl Try.call53 rfl (num_ok r (q) 1 _ _ (hz) (by decide)) ?_
  rintro _ m2 _ hm2 ⟨rfl, rfl⟩
  replace hm := hm.trans hm2
  replace hz := hz.mono hm2
  clear hm2
  refine r_y rfl rfl (y_move rfl) ?_
  refine r_s rfl ?_
  refine s_call0 rfl Try.call112 rfl (rcube_w r ((rint 1 (q)).2) _ _ (rint_ok (hz))) ?_
  rintro _ m2 _ hm2 ⟨rfl, rfl⟩
  replace hm := hm.trans hm2
  replace hz := hz.mono hm2
  clear hm2
  refine r_y rfl rfl (y_move rfl) ?_
  refine r_s rfl ?_
  refine s_call0 rfl Try.call53 rfl (num_ok r ((rcube ((rint 1 (q)).2)).2) 2 _ _ (rcube_ok (rint_ok (hz))) (by decide)) ?_
  rintro _ m2 _ hm2 ⟨rfl, rfl⟩
  replace hm := hm.trans hm2
  replace hz := hz.mono hm2
  clear hm2
  refine r_y rfl rfl (y_move rfl) ?_
  refine r_s rfl ?_
  refine s_call0 rfl Try.call53 rfl (num_ok r ((rint 2 ((rcube ((rint 1 (q)).2)).2)).2) 4 _ _ (rint_ok (rcube_ok (rint_ok (hz)))) (by decide)) ?_
  rintro _ m2 _ hm2 ⟨rfl, rfl⟩
  replace hm := hm.trans hm2
  replace hz := hz.mono hm2
  clear hm2
  refine r_y rfl rfl (y_move rfl) ?_
  refine r_s rfl ?_
  refine s_call0 rfl Try.call53 rfl (num_ok r ((rint 4 ((rint 2 ((rcube ((rint 1 (q)).2)).2)).2)).2) 4 _ _ (rint_ok (rint_ok (rcube_ok (rint_ok (hz))))) (by decide)) ?_
  rintro _ m2 _ hm2 ⟨rfl, rfl⟩
  replace hm := hm.trans hm2
  replace hz := hz.mono hm2
  clear hm2
  refine r_y rfl rfl (y_move rfl) ?_
  refine r_s rfl ?_
  refine s_call0 rfl Try.call53 rfl (num_ok r ((rint 4 ((rint 4 ((rint 2 ((rcube ((rint 1 (q)).2)).2)).2)).2)).2) 1 _ _ (rint_ok (rint_ok (rint_ok (rcube_ok (rint_ok (hz)))))) (by decide)) ?_
  rintro _ m2 _ hm2 ⟨rfl, rfl⟩
  replace hm := hm.trans hm2
  replace hz := hz.mono hm2
  clear hm2
  refine r_y rfl rfl (y_bld rfl tz32 fk32 bp32_0_1_2_4_5_6 rfl rfl) ?_
  refine r_s rfl ?_
  refine s_alloc rfl tz32 (fun b1 => ?_)
  refine r_s rfl ?_
  refine s_store (us := encMod (rmod0 q).1 zSl) rfl rfl rfl ts32 rfl rfl (one_mod _ _) (i := 0) rfl rfl ?_
  refine r_nil ?_
  refine hK1 _ _ _ ?_
  clear hK1 K1
  refine c_seq (fun K2 hK2 => ?_)
  refine c_region ?_
  refine r_y rfl rfl (y_move rfl) ?_
  refine r_front 1 rfl ?_
  refine r_s rfl ?_
  refine s_call0 rfl Try.call53 rfl (num_ok r ((rint 1 ((rint 4 ((rint 4 ((rint 2 ((rcube ((rint 1 (q)).2)).2)).2)).2)).2)).2) 1 _ _ (rint_ok (rint_ok (rint_ok (rint_ok (rcube_ok (rint_ok (hz))))))) (by decide)) ?_
  rintro _ m2 _ hm2 ⟨rfl, rfl⟩
  replace hm := hm.trans hm2
  replace hz := hz.mono hm2
  clear hm2
  refine r_y rfl rfl (y_assign rfl) ?_
  refine r_nil ?_
  refine hK2 _ _ _ ?_
  clear hK2 K2
  refine c_seq (fun K3 hK3 => ?_)
  refine c_region ?_
  refine r_y rfl rfl (y_move rfl) ?_
  refine r_y rfl rfl (y_iop rfl rfl rfl) ?_
  refine r_y rfl rfl (y_fieldAddr rfl At.lit fo32_7 rfl) ?_
  refine r_s rfl ?_
  refine s_store rfl rfl rfl ts4 rfl rfl (by simp [Value.oneCell', wv, Sl.v]) (i := 1) rfl rfl ?_
  refine r_nil ?_
  refine hK3 _ _ _ ?_
  clear hK3 K3
  refine c_seq (fun K4 hK4 => ?_)
  refine c_region ?_
  refine r_y rfl rfl (y_move rfl) ?_
  refine r_s rfl ?_
  refine s_call0 rfl Try.call113 rfl (racts_w r ((rint 1 ((rint 1 ((rint 4 ((rint 4 ((rint 2 ((rcube ((rint 1 (q)).2)).2)).2)).2)).2)).2)).2) _ _ (rint_ok (rint_ok (rint_ok (rint_ok (rint_ok (rcube_ok (rint_ok (hz))))))))) ?_
  rintro _ m2 _ hm2 ⟨sa, rfl, hza, hsa, rfl⟩
  replace hm := hm.trans hm2
  replace hz := hz.mono hm2
  clear hm2
  refine r_y rfl rfl (y_fieldAddr rfl At.lit fo32_3 rfl) ?_
  refine r_s rfl ?_
  refine s_store rfl rfl rfl ts30 rfl rfl (by simp [Value.oneCell', wv, Sl.v]) (i := 1) rfl rfl ?_
  refine r_nil ?_
  refine hK4 _ _ _ ?_
  clear hK4 K4
  refine c_seq (fun K5 hK5 => ?_)
  refine c_region ?_
  refine r_y rfl rfl (y_load_a (cs := encMod (rmod q).1.1 sa) rfl ts32 (RdA.blk (i := 1) rfl rfl)) ?_
  refine r_y rfl rfl (y_move rfl) ?_
  refine r_y rfl rfl (y_iop rfl rfl rfl) ?_
  refine r_s rfl ?_
  refine s_store (us := encMod (rmod q).1.1 sa) rfl rfl rfl ts32 rfl rfl (one_mod _ _) (i := 2) rfl rfl ?_
  refine r_y rfl rfl (y_assign rfl) ?_
  refine r_nil ?_
  refine hK5 _ _ _ ?_
  clear hK5 K5
  refine c_ret ?_
  refine e_retf [0, 1, 2] 2 hm (res2 (r1_cell_a rfl ts32 (RdA.blk (i := 2) rfl rfl)) (r1_tmp rfl)) ?_
  exact ⟨sa, rfl, hza, hsa, rfl⟩
set_option maxRecDepth 100000 in
theorem rrules_w (r : Nat) (q : Rs) (m : Snap) (H : Hp) (hz : q.ok m) : Fn Try.prog 56 [.pointer (some ⟨r, 0, none⟩)] m (rdItem r q :: H) (fun v m' H' => ∃ (sr : Sl) (lr : List (RuleD × Sl)), v = sr.v ∧ FzR m' sr lr ∧ (rrules q).1 = lr.map (·.1) ∧ H' = rdItem r (rrules q).2 :: H) := by
  have hm : m.le m := Snap.le.refl m
  refine fn_end Try.func56 rfl rfl rfl ?_
  refine c_seq (fun K0 hK0 => ?_)
  refine c_region ?_
  refine r_y rfl rfl (y_assign rfl) ?_
  refine r_nil ?_
  refine hK0 _ _ _ ?_
  clear hK0 K0
  refine c_seq (fun K1 hK1 => ?_)
  refine c_region ?_
  refine r_nilvec 50 32 ?_
  refine r_y rfl rfl (y_assign rfl) ?_
  refine r_nil ?_
  refine hK1 _ _ _ ?_
  clear hK1 K1
  refine c_seq (fun K2 hK2 => ?_)
  refine c_seq (fun K3 hK3 => ?_)
  refine c_region ?_
  refine r_y rfl rfl (y_move rfl) ?_
  refine r_front 1 rfl ?_
  refine r_s rfl ?_
  refine s_call0 rfl Try.call53 rfl (num_ok r (q) 2 _ _ (hz) (by decide)) ?_
  rintro _ m2 _ hm2 ⟨rfl, rfl⟩
  replace hm := hm.trans hm2
  replace hz := hz.mono hm2
  clear hm2
  refine r_y rfl rfl (y_assign rfl) ?_
  refine r_nil ?_
  refine hK3 _ _ _ ?_
  clear hK3 K3
  refine c_block ?_
  obtain ⟨n0, hne, hn0⟩ := rint_nat (k := 2) (by decide) q
  replace hz := rint_ok (k := 2) hz
  have hall : AllA m2 [] := fun p hp => (by cases hp)
  refine c_loopx (α := Nat × Rs × List (RuleD × Sl) × Sl) (fun vv => match vv with | (n, q1, l, sv) => [(0, .pointer (some ⟨r, 0, none⟩)), (3, sv.v), (4, .int .i64 (n : Nat))]) (fun vv => match vv with | (n, q1, l, sv) => rdItem r q1 :: .vec sv.a sv.n sv.cap 50 32 (l.map fun p => encRule p.1 p.2) :: H) (fun k0 vv m1 => match vv with | (n, q1, l, sv) => (n = k0 ∧ sv.n = l.length ∧ n + l.length < 65536 ∧ rrules q = (l.map (·.1) ++ (rrulesN n q1).1, (rrulesN n q1).2)) ∧ m.le m1 ∧ (q1.ok m1) ∧ (AllA m1 l)) (n0) (n0, (rint 2 q).2, [], zSl) ⟨rfl, rfl, (by rw [← hne]; rfl), trivial⟩ rfl ⟨⟨rfl, rfl, by simpa using hn0, by simp [rrules, hne]⟩, hm, hz, hall⟩ ?_
  clear hm hz hall
  rintro k0 ⟨n, q1, l, sv⟩ m1 ⟨hi0, hm, hz, hall⟩
  obtain ⟨hi, hsn, hb, hinv⟩ := hi0
  refine c_seq (fun K4 hK4 => ?_)
  refine c_seq (fun K5 hK5 => ?_)
  refine c_region ?_
  refine r_y rfl rfl (y_move rfl) ?_
  refine r_y rfl rfl (y_iop rfl rfl rfl) ?_
  refine r_y rfl rfl (y_move rfl) ?_
  refine r_split (j := 2) rfl (fun h0 => ?_) (fun h0 => ?_)
  ·
    refine r_yg rfl h0 rfl (y_move rfl) ?_
    refine r_yg rfl h0 rfl (y_nilCheck rfl) ?_
    refine r_yg rfl h0 rfl (y_fieldAddr rfl At.lit fo98_1 rfl) ?_
    refine r_yg rfl h0 rfl (y_load_s rfl ts4 (RdS.blk (i := 0) rfl rfl)) ?_
    refine r_yg rfl h0 rfl (y_not rfl) ?_
    refine r_y rfl rfl (y_pickt rfl h0 rfl) ?_
    refine r_nil ?_
    refine hK5 _ _ _ ?_
    clear hK5 K5
    refine c_cond rfl (fun h1 => ?_) (fun h1 => ?_)
    ·
      refine c_skip ?_
      refine hK4 _ _ _ ?_
      clear hK4 K4
      refine c_seq (fun K6 hK6 => ?_)
      refine c_block ?_
      refine c_seq (fun K7 hK7 => ?_)
      refine c_region ?_
      refine r_y rfl rfl (y_move rfl) ?_
      refine r_s rfl ?_
      refine s_call0 rfl Try.call112 rfl (rcube_w r (q1) _ _ (hz)) ?_
      rintro _ m2 _ hm2 ⟨rfl, rfl⟩
      replace hm := hm.trans hm2
      replace hz := hz.mono hm2
      replace hall := hall.mono hm2
      clear hm2
      refine r_y rfl rfl (y_move rfl) ?_
      refine r_s rfl ?_
      refine s_call0 rfl Try.call53 rfl (num_ok r ((rcube (q1)).2) 2 _ _ (rcube_ok (hz)) (by decide)) ?_
      rintro _ m2 _ hm2 ⟨rfl, rfl⟩
      replace hm := hm.trans hm2
      replace hz := hz.mono hm2
      replace hall := hall.mono hm2
      clear hm2
      refine r_y rfl rfl (y_move rfl) ?_
      refine r_s rfl ?_
      refine s_call0 rfl Try.call53 rfl (num_ok r ((rint 2 ((rcube (q1)).2)).2) 4 _ _ (rint_ok (rcube_ok (hz))) (by decide)) ?_
      rintro _ m2 _ hm2 ⟨rfl, rfl⟩
      replace hm := hm.trans hm2
      replace hz := hz.mono hm2
      replace hall := hall.mono hm2
      clear hm2
      refine r_y rfl rfl (y_move rfl) ?_
      refine r_s rfl ?_
      refine s_call0 rfl Try.call53 rfl (num_ok r ((rint 4 ((rint 2 ((rcube (q1)).2)).2)).2) 4 _ _ (rint_ok (rint_ok (rcube_ok (hz)))) (by decide)) ?_
      rintro _ m2 _ hm2 ⟨rfl, rfl⟩
      replace hm := hm.trans hm2
      replace hz := hz.mono hm2
      replace hall := hall.mono hm2
      clear hm2
      refine r_y rfl rfl (y_move rfl) ?_
      refine r_s rfl ?_
      refine s_call0 rfl Try.call53 rfl (num_ok r ((rint 4 ((rint 4 ((rint 2 ((rcube (q1)).2)).2)).2)).2) 1 _ _ (rint_ok (rint_ok (rint_ok (rcube_ok (hz))))) (by decide)) ?_
      rintro _ m2 _ hm2 ⟨rfl, rfl⟩
      replace hm := hm.trans hm2
      replace hz := hz.mono hm2
      replace hall := hall.mono hm2
      clear hm2
      refine r_y rfl rfl (y_move rfl) ?_
      refine r_s rfl ?_
      refine s_call0 rfl Try.call53 rfl (num_ok r ((rint 1 ((rint 4 ((rint 4 ((rint 2 ((rcube (q1)).2)).2)).2)).2)).2) 8 _ _ (rint_ok (rint_ok (rint_ok (rint_ok (rcube_ok (hz)))))) (by decide)) ?_
      rintro _ m2 _ hm2 ⟨rfl, rfl⟩
      replace hm := hm.trans hm2
      replace hz := hz.mono hm2
      replace hall := hall.mono hm2
      clear hm2
      refine r_y rfl rfl (y_move rfl) ?_
      refine r_s rfl ?_
      refine s_call0 rfl Try.call53 rfl (num_ok r ((rint 8 ((rint 1 ((rint 4 ((rint 4 ((rint 2 ((rcube (q1)).2)).2)).2)).2)).2)).2) 8 _ _ (rint_ok (rint_ok (rint_ok (rint_ok (rint_ok (rcube_ok (hz))))))) (by decide)) ?_
      rintro _ m2 _ hm2 ⟨rfl, rfl⟩
      replace hm := hm.trans hm2
      replace hz := hz.mono hm2
      replace hall := hall.mono hm2
      clear hm2
      refine r_y rfl rfl (y_move rfl) ?_
      refine r_s rfl ?_
      refine s_call0 rfl Try.call53 rfl (num_ok r ((rint 8 ((rint 8 ((rint 1 ((rint 4 ((rint 4 ((rint 2 ((rcube (q1)).2)).2)).2)).2)).2)).2)).2) 8 _ _ (rint_ok (rint_ok (rint_ok (rint_ok (rint_ok (rint_ok (rcube_ok (hz)))))))) (by decide)) ?_
      rintro _ m2 _ hm2 ⟨rfl, rfl⟩
      replace hm := hm.trans hm2
      replace hz := hz.mono hm2
      replace hall := hall.mono hm2
      clear hm2
      refine r_y rfl rfl (y_bld rfl tz50 fk50 bp50_0_1_3_4_5_6_7_8 rfl rfl) ?_
      refine r_s rfl ?_
      refine s_alloc rfl tz50 (fun b0 => ?_)
      refine r_s rfl ?_
      refine s_store (us := encRule (rrule0 q1).1 zSl) rfl rfl rfl ts50 rfl rfl (one_rule _ _) (i := 0) rfl rfl ?_
      refine r_nil ?_
      refine hK7 _ _ _ ?_
      clear hK7 K7
      refine c_seq (fun K8 hK8 => ?_)
      refine c_region ?_
      refine r_y rfl rfl (y_move rfl) ?_
      refine r_front 1 rfl ?_
      refine r_s rfl ?_
      refine s_call0 rfl Try.call113 rfl (racts_w r ((rint 8 ((rint 8 ((rint 8 ((rint 1 ((rint 4 ((rint 4 ((rint 2 ((rcube (q1)).2)).2)).2)).2)).2)).2)).2)).2) _ _ (rint_ok (rint_ok (rint_ok (rint_ok (rint_ok (rint_ok (rint_ok (rcube_ok (hz)))))))))) ?_
      rintro _ m2 _ hm2 ⟨sa, rfl, hza, hsa, rfl⟩
      replace hm := hm.trans hm2
      replace hz := hz.mono hm2
      replace hall := hall.mono hm2
      clear hm2
      refine r_y rfl rfl (y_fieldAddr rfl At.lit fo50_2 rfl) ?_
      refine r_s rfl ?_
      refine s_store rfl rfl rfl ts30 rfl rfl (by simp [Value.oneCell', wv, Sl.v]) (i := 1) rfl rfl ?_
      refine r_nil ?_
      refine hK8 _ _ _ ?_
      clear hK8 K8
      refine c_region ?_
      refine r_y rfl rfl (y_move rfl) ?_
      refine r_y rfl rfl (y_load_a (cs := encRule (rrule q1).1 sa) rfl ts50 (RdA.blk (i := 1) rfl rfl)) ?_
      refine r_s rfl ?_
      refine s_buildSlice (cs := (encRule (rrule q1).1 sa)) (e := 50) rfl rfl (fun _ => by kernel_rfl) (fun b1 => ?_)
      refine r_s rfl ?_
      refine s_append rfl rfl rfl tl33 zo50 tb50 (i := 3) rfl (Src.one' (i := 0) rfl rfl (one_rule _ _)) (by omega) (by unfold maxLen; omega) (fun a1 c1 => ?_)
      refine r_del 0 rfl ?_
      refine r_y rfl rfl (y_assign rfl) ?_
      refine r_nil ?_
      refine hK6 _ _ _ ?_
      clear hK6 K6
      refine c_region ?_
      refine r_del 1 rfl ?_
      refine r_y rfl rfl (y_move rfl) ?_
      refine r_y rfl rfl (y_dec rfl (by simp at h0; omega) (by omega)) ?_
      refine r_y rfl rfl (y_assign rfl) ?_
      refine r_nil ?_
      replace hz := rrule_ok hz
      obtain ⟨n, rfl⟩ : ∃ j, n = j + 1 := ⟨n - 1, by simp at h0; omega⟩
      replace hall := hall.snoc (x := (rrule q1).1) hza hsa
      exact ⟨k0 - 1, (n, (rrule q1).2, l ++ [((rrule q1).1, sa)], ⟨a1, sv.n + 1, c1⟩), by omega, ⟨rfl, rfl, rfl, trivial⟩, (by simp only [List.map_append]; rfl), ⟨by omega, by simp [hsn], by simp; omega, by rw [hinv, rrulesN_succ (by simpa using h1)]; simp⟩, hm, hz, hall⟩
    ·
      refine c_exit ?_
      refine hK2 _ _ _ ?_
      clear hK4 K4 hK2 K2
      refine c_seq (fun K9 hK9 => ?_)
      refine c_region ?_
      refine r_freezeVec (i := 1) rfl rfl (fun m3 hm3 hzr hnil => ?_)
      replace hm := hm.trans hm3
      replace hz := hz.mono hm3
      replace hall := hall.mono hm3
      clear hm3
      refine r_y rfl rfl (y_move rfl) ?_
      refine r_y rfl rfl (y_assign rfl) ?_
      refine r_nil ?_
      refine hK9 _ _ _ ?_
      clear hK9 K9
      refine c_ret ?_
      refine e_ret 0 hm (res_tmps rfl) ?_
      have hq : rrules q = (l.map (·.1), q1) := by
        rw [hinv]
        first
          | (rw [rrulesN_end (by simpa using h1)]; simp; done)
          | (obtain rfl : n = 0 := by simp at h0; omega
             simp [rrulesN])
      rw [hq]
      exact ⟨sv, l, rfl, ⟨hzr, hall⟩, rfl, rfl⟩
  ·
    refine r_no' rfl rfl h0 ?_
    refine r_no' rfl rfl h0 ?_
    refine r_no' rfl rfl h0 ?_
    refine r_no' rfl rfl h0 ?_
    refine r_no' rfl rfl h0 ?_
    refine r_y rfl rfl (y_pickf rfl h0 rfl) ?_
    refine r_nil ?_
    refine hK5 _ _ _ ?_
    clear hK5 K5
    refine c_iff rfl rfl ?_
    refine c_exit ?_
    refine hK2 _ _ _ ?_
    clear hK4 K4 hK2 K2
    refine c_seq (fun K10 hK10 => ?_)
    refine c_region ?_
    refine r_freezeVec (i := 1) rfl rfl (fun m3 hm3 hzr hnil => ?_)
    replace hm := hm.trans hm3
    replace hz := hz.mono hm3
    replace hall := hall.mono hm3
    clear hm3
    refine r_y rfl rfl (y_move rfl) ?_
    refine r_y rfl rfl (y_assign rfl) ?_
    refine r_nil ?_
    refine hK10 _ _ _ ?_
    clear hK10 K10
    refine c_ret ?_
    refine e_ret 0 hm (res_tmps rfl) ?_
    have hq : rrules q = (l.map (·.1), q1) := by
      rw [hinv]
      first
        | (rw [rrulesN_end (by simpa using h1)]; simp; done)
        | (obtain rfl : n = 0 := by simp at h0; omega
           simp [rrulesN])
    rw [hq]
    exact ⟨sv, l, rfl, ⟨hzr, hall⟩, rfl, rfl⟩
end Go.Aw
namespace Go.Aw
open Go Go.Proofs
theorem tz98 : tzero Try.prog 98 = some [.slice none 0 0, .bool false] := by kernel_rfl
theorem fk98 : fieldsKnown Try.prog 98 = true := by kernel_rfl
theorem bp98_0 : bplaces Try.prog 98 [0] = some [(0, 1)] := by kernel_rfl
theorem fk35 : fieldsKnown Try.prog 35 = true := by kernel_rfl
theorem bp35_0_1 : bplaces Try.prog 35 [0, 1] = some [(0, 1), (1, 1)] := by kernel_rfl
theorem bp35_ : bplaces Try.prog 35 [] = some [] := by kernel_rfl
set_option maxRecDepth 100000 in
theorem decode_w (s : Sl) (l : List UInt8) (m : Snap) (H : Hp) (hz : FzB m s l) : Fn Try.prog 18 [s.v] m H (fun v m' H' => ∃ sm sr lr, v = .tuple [.agg (encMsg (decode s l).1 sm sr).toArray, .int .i64 (decode s l).2].toArray ∧ MsgOk m' (decode s l).1 sm sr lr ∧ H' = H) := by
  have hm : m.le m := Snap.le.refl m
  refine fn_end Try.func18 rfl rfl rfl ?_
  refine c_seq (fun K0 hK0 => ?_)
  refine c_region ?_
  refine r_s rfl ?_
  refine s_alloc rfl tz35 (fun b0 => ?_)
  refine r_y rfl rfl (y_assign rfl) ?_
  refine r_nil ?_
  refine hK0 _ _ _ ?_
  clear hK0 K0
  refine c_seq (fun K1 hK1 => ?_)
  refine c_region ?_
  refine r_y rfl rfl (y_move rfl) ?_
  refine r_y rfl rfl (y_bld rfl tz98 fk98 bp98_0 rfl rfl) ?_
  refine r_s rfl ?_
  refine s_box_a rfl rfl (fun r => ?_)
  refine r_y rfl rfl (y_assign rfl) ?_
  refine r_nil ?_
  refine hK1 _ _ _ ?_
  clear hK1 K1
  refine c_seq (fun K2 hK2 => ?_)
  refine c_region ?_
  refine r_y rfl rfl (y_move rfl) ?_
  refine r_s rfl ?_
  refine s_call0 rfl Try.call53 rfl (num_ok r (⟨s, l, false⟩) 1 _ _ (hz) (by decide)) ?_
  rintro _ m2 _ hm2 ⟨rfl, rfl⟩
  replace hm := hm.trans hm2
  replace hz := hz.mono hm2
  clear hm2
  refine r_y rfl rfl (y_move rfl) ?_
  refine r_s rfl ?_
  refine s_call0 rfl Try.call53 rfl (num_ok r ((rint 1 (⟨s, l, false⟩)).2) 4 _ _ (rint_ok (hz)) (by decide)) ?_
  rintro _ m2 _ hm2 ⟨rfl, rfl⟩
  replace hm := hm.trans hm2
  replace hz := hz.mono hm2
  clear hm2
  refine r_y rfl rfl (y_bld rfl tz35 fk35 bp35_0_1 rfl rfl) ?_
  refine r_s rfl ?_
  refine s_alloc rfl tz35 (fun b1 => ?_)
  refine r_s rfl ?_
  refine s_store (us := encMsg (rmsg0 ⟨s, l, false⟩).1 zSl zSl) rfl rfl rfl ts35 rfl rfl (one_msg _ _ _) (i := 0) rfl rfl ?_
  refine r_nil ?_
  refine hK2 _ _ _ ?_
  clear hK2 K2
  refine c_seq (fun K3 hK3 => ?_)
  refine c_region ?_
  refine r_y rfl rfl (y_assign rfl) ?_
  refine r_nil ?_
  refine hK3 _ _ _ ?_
  clear hK3 K3
  refine c_seq (fun K4 hK4 => ?_)
  refine c_seq (fun K5 hK5 => ?_)
  refine c_region ?_
  refine r_y rfl rfl (y_fieldAddr rfl At.lit fo35_0 rfl) ?_
  refine r_y rfl rfl (y_load_s rfl ts3 (RdS.blk (i := 0) rfl rfl)) ?_
  refine r_nil ?_
  refine hK5 _ _ _ ?_
  clear hK5 K5
  refine c_block ?_
  refine c_seq (fun K6 hK6 => ?_)
  refine c_region ?_
  refine r_y rfl rfl (y_iop rfl rfl rfl) ?_
  refine r_y rfl rfl (y_assign rfl) ?_
  refine r_nil ?_
  refine hK6 _ _ _ ?_
  clear hK6 K6
  refine c_cond rfl (fun k1 => ?_) (fun k1 => ?_)
  ·
    refine c_region ?_
    refine r_y rfl rfl (y_move rfl) ?_
    refine r_front 1 rfl ?_
    refine r_s rfl ?_
    refine s_call0 rfl Try.call54 rfl (rmod_w r ((rmsg0 ⟨s, l, false⟩).2) _ _ (rmsg0_ok (q := ⟨s, l, false⟩) hz)) ?_
    rintro _ m2 _ hm2 ⟨sa, rfl, hza, hsa, rfl⟩
    replace hm := hm.trans hm2
    replace hz := hz.mono hm2
    clear hm2
    refine r_y rfl rfl (y_move rfl) ?_
    refine r_y rfl rfl (y_extract rfl rfl) ?_
    refine r_y rfl rfl (y_extract rfl rfl) ?_
    refine r_y rfl rfl (y_fieldAddr rfl At.lit fo35_3 rfl) ?_
    refine r_s rfl ?_
    refine s_store (us := encMod (rmod ((rmsg0 ⟨s, l, false⟩).2)).1.1 sa) rfl rfl rfl ts32 rfl rfl (one_mod _ _) (i := 1) rfl rfl ?_
    refine r_y rfl rfl (y_assign rfl) ?_
    refine r_nil ?_
    refine hK4 _ _ _ ?_
    clear hK4 K4
    refine c_seq (fun K7 hK7 => ?_)
    refine c_block ?_
    refine c_seq (fun K8 hK8 => ?_)
    refine c_region ?_
    refine r_y rfl rfl (y_move rfl) ?_
    refine r_y rfl rfl (y_nilCheck rfl) ?_
    refine r_y rfl rfl (y_fieldAddr rfl At.lit fo98_1 rfl) ?_
    refine r_y rfl rfl (y_load_s rfl ts4 (RdS.blk (i := 0) rfl rfl)) ?_
    refine r_y rfl rfl (y_assign rfl) ?_
    refine r_nil ?_
    refine hK8 _ _ _ ?_
    clear hK8 K8
    refine c_cond rfl (fun ke => ?_) (fun ke => ?_)
    ·
      refine c_seq (fun K9 hK9 => ?_)
      refine c_region ?_
      refine r_y rfl rfl (y_bld rfl tz35 fk35 bp35_ rfl rfl) ?_
      refine r_s rfl ?_
      refine s_store (us := encMsg zMsg zSl zSl) rfl rfl rfl ts35 rfl rfl (one_msg _ _ _) (i := 2) rfl rfl ?_
      refine r_y rfl rfl (y_assign rfl) ?_
      refine r_nil ?_
      refine hK9 _ _ _ ?_
      clear hK9 K9
      refine c_ret ?_
      refine e_ret 3 hm (res2 (r1_cell_a rfl ts35 (RdA.blk (i := 2) rfl rfl)) (r1_tmp rfl)) ?_
      have hx := rmsg_1 (q := ⟨s, l, false⟩) k1
      rw [decode_short hx ke]
      exact ⟨zSl, zSl, [], rfl, zMsg_ok _, rfl⟩
    ·
      refine c_seq (fun K10 hK10 => ?_)
      refine c_region ?_
      refine r_y rfl rfl (y_move rfl) ?_
      refine r_y rfl rfl (y_not rfl) ?_
      refine r_y rfl rfl (y_move rfl) ?_
      refine r_split (j := 2) rfl (fun h2 => ?_) (fun h2 => ?_)
      ·
        refine r_no' rfl rfl h2 ?_
        refine r_no' rfl rfl h2 ?_
        refine r_no' rfl rfl h2 ?_
        refine r_no' rfl rfl h2 ?_
        refine r_no' rfl rfl h2 ?_
        refine r_no' rfl rfl h2 ?_
        refine r_y rfl rfl (y_pickt rfl h2 rfl) ?_
        refine r_y rfl rfl (y_move rfl) ?_
        refine r_no' rfl rfl rfl ?_
        refine r_no' rfl rfl rfl ?_
        refine r_no' rfl rfl rfl ?_
        refine r_y rfl rfl (y_pickt rfl rfl rfl) ?_
        refine r_y rfl rfl (y_assign rfl) ?_
        refine r_nil ?_
        refine hK10 _ _ _ ?_
        clear hK10 K10
        refine c_ift rfl rfl ?_
        refine c_seq (fun K11 hK11 => ?_)
        refine c_region ?_
        refine r_y rfl rfl (y_bld rfl tz35 fk35 bp35_ rfl rfl) ?_
        refine r_s rfl ?_
        refine s_store (us := encMsg zMsg zSl zSl) rfl rfl rfl ts35 rfl rfl (one_msg _ _ _) (i := 2) rfl rfl ?_
        refine r_y rfl rfl (y_assign rfl) ?_
        refine r_nil ?_
        refine hK11 _ _ _ ?_
        clear hK11 K11
        refine c_ret ?_
        refine e_ret 3 hm (res2 (r1_cell_a rfl ts35 (RdA.blk (i := 2) rfl rfl)) (r1_tmp rfl)) ?_
        have hx := rmsg_1 (q := ⟨s, l, false⟩) k1
        have hql := Fz.lenB (s := ((rmod ((rmsg0 ⟨s, l, false⟩).2)).2).s) (l := ((rmod ((rmsg0 ⟨s, l, false⟩).2)).2).l) (rmod_ok (rmsg0_ok (q := ⟨s, l, false⟩) hz))
        rw [decode_bad hx ke (by simp_all)]
        exact ⟨zSl, zSl, [], rfl, zMsg_ok _, rfl⟩
      ·
        refine r_yg rfl h2 rfl (y_move rfl) ?_
        refine r_yg rfl h2 rfl (y_nilCheck rfl) ?_
        refine r_yg rfl h2 rfl (y_fieldAddr rfl At.lit fo98_0 rfl) ?_
        refine r_yg rfl h2 rfl (y_load_s rfl ts22 (RdS.blk (i := 0) rfl rfl)) ?_
        refine r_yg rfl h2 rfl (y_len tl22 rfl) ?_
        refine r_yg rfl h2 rfl (y_iop rfl rfl rfl) ?_
        refine r_y rfl rfl (y_pickf rfl h2 rfl) ?_
        refine r_y rfl rfl (y_move rfl) ?_
        refine r_split (j := 10) rfl (fun h3 => ?_) (fun h3 => ?_)
        ·
          refine r_no' rfl rfl h3 ?_
          refine r_no' rfl rfl h3 ?_
          refine r_no' rfl rfl h3 ?_
          refine r_y rfl rfl (y_pickt rfl h3 rfl) ?_
          refine r_y rfl rfl (y_assign rfl) ?_
          refine r_nil ?_
          refine hK10 _ _ _ ?_
          clear hK10 K10
          refine c_ift rfl rfl ?_
          refine c_seq (fun K12 hK12 => ?_)
          refine c_region ?_
          refine r_y rfl rfl (y_bld rfl tz35 fk35 bp35_ rfl rfl) ?_
          refine r_s rfl ?_
          refine s_store (us := encMsg zMsg zSl zSl) rfl rfl rfl ts35 rfl rfl (one_msg _ _ _) (i := 2) rfl rfl ?_
          refine r_y rfl rfl (y_assign rfl) ?_
          refine r_nil ?_
          refine hK12 _ _ _ ?_
          clear hK12 K12
          refine c_ret ?_
          refine e_ret 3 hm (res2 (r1_cell_a rfl ts35 (RdA.blk (i := 2) rfl rfl)) (r1_tmp rfl)) ?_
          have hx := rmsg_1 (q := ⟨s, l, false⟩) k1
          have hql := Fz.lenB (s := ((rmod ((rmsg0 ⟨s, l, false⟩).2)).2).s) (l := ((rmod ((rmsg0 ⟨s, l, false⟩).2)).2).l) (rmod_ok (rmsg0_ok (q := ⟨s, l, false⟩) hz))
          rw [decode_bad hx ke (by simp_all)]
          exact ⟨zSl, zSl, [], rfl, zMsg_ok _, rfl⟩
        ·
          refine r_yg rfl h3 rfl (y_load_a (cs := encMsg ({ (rmsg0 ⟨s, l, false⟩).1 with mod := (rmod (rmsg0 ⟨s, l, false⟩).2).1.1 }) sa zSl) rfl ts35 (RdA.blk (i := 1) rfl rfl)) ?_
          refine r_sg rfl h3 ?_
          refine s_call0 rfl Try.call30 rfl (msgSound_ok ({ (rmsg0 ⟨s, l, false⟩).1 with mod := (rmod (rmsg0 ⟨s, l, false⟩).2).1.1 }) sa zSl [] _ _ ⟨hza, hsa, fzR_nil _, rfl⟩) ?_
          rintro _ m2 _ hm2 ⟨rfl, rfl⟩
          replace hm := hm.trans hm2
          replace hz := hz.mono hm2
          replace hza := hza.mono hm2
          clear hm2
          refine r_yg rfl h3 rfl (y_not rfl) ?_
          refine r_y rfl rfl (y_pickf rfl h3 rfl) ?_
          refine r_y rfl rfl (y_assign rfl) ?_
          refine r_nil ?_
          refine hK10 _ _ _ ?_
          clear hK10 K10
          refine c_cond rfl (fun kb => ?_) (fun kb => ?_)
          ·
            refine c_seq (fun K13 hK13 => ?_)
            refine c_region ?_
            refine r_y rfl rfl (y_bld rfl tz35 fk35 bp35_ rfl rfl) ?_
            refine r_s rfl ?_
            refine s_store (us := encMsg zMsg zSl zSl) rfl rfl rfl ts35 rfl rfl (one_msg _ _ _) (i := 2) rfl rfl ?_
            refine r_y rfl rfl (y_assign rfl) ?_
            refine r_nil ?_
            refine hK13 _ _ _ ?_
            clear hK13 K13
            refine c_ret ?_
            refine e_ret 3 hm (res2 (r1_cell_a rfl ts35 (RdA.blk (i := 2) rfl rfl)) (r1_tmp rfl)) ?_
            have hx := rmsg_1 (q := ⟨s, l, false⟩) k1
            have hql := Fz.lenB (s := ((rmod ((rmsg0 ⟨s, l, false⟩).2)).2).s) (l := ((rmod ((rmsg0 ⟨s, l, false⟩).2)).2).l) (rmod_ok (rmsg0_ok (q := ⟨s, l, false⟩) hz))
            rw [decode_bad hx ke (by simp_all)]
            exact ⟨zSl, zSl, [], rfl, zMsg_ok _, rfl⟩
          ·
            refine c_skip ?_
            refine hK7 _ _ _ ?_
            clear hK7 K7
            refine c_seq (fun K14 hK14 => ?_)
            refine c_region ?_
            refine r_y rfl rfl (y_load_a (cs := encMsg ({ (rmsg0 ⟨s, l, false⟩).1 with mod := (rmod (rmsg0 ⟨s, l, false⟩).2).1.1 }) sa zSl) rfl ts35 (RdA.blk (i := 1) rfl rfl)) ?_
            refine r_s rfl ?_
            refine s_store (us := encMsg ({ (rmsg0 ⟨s, l, false⟩).1 with mod := (rmod (rmsg0 ⟨s, l, false⟩).2).1.1 }) sa zSl) rfl rfl rfl ts35 rfl rfl (one_msg _ _ _) (i := 2) rfl rfl ?_
            refine r_y rfl rfl (y_assign rfl) ?_
            refine r_nil ?_
            refine hK14 _ _ _ ?_
            clear hK14 K14
            refine c_ret ?_
            refine e_ret 3 hm (res2 (r1_cell_a rfl ts35 (RdA.blk (i := 2) rfl rfl)) (r1_tmp rfl)) ?_
            have hx := rmsg_1 (q := ⟨s, l, false⟩) k1
            have hql := Fz.lenB (s := ((rmod ((rmsg0 ⟨s, l, false⟩).2)).2).s) (l := ((rmod ((rmsg0 ⟨s, l, false⟩).2)).2).l) (rmod_ok (rmsg0_ok (q := ⟨s, l, false⟩) hz))
            rw [decode_ok hx ke (by simp_all)]
            exact ⟨sa, zSl, [], rfl, ⟨hza, hsa, fzR_nil _, rfl⟩, rfl⟩
  ·
    refine c_seq (fun K15 hK15 => ?_)
    refine c_region ?_
    refine r_y rfl rfl (y_iop rfl rfl rfl) ?_
    refine r_y rfl rfl (y_assign rfl) ?_
    refine r_nil ?_
    refine hK15 _ _ _ ?_
    clear hK15 K15
    refine c_cond rfl (fun k6 => ?_) (fun k6 => ?_)
    ·
      refine c_region ?_
      refine r_y rfl rfl (y_move rfl) ?_
      refine r_front 1 rfl ?_
      refine r_s rfl ?_
      refine s_call0 rfl Try.call53 rfl (num_ok r ((rmsg0 ⟨s, l, false⟩).2) 1 _ _ (rmsg0_ok (q := ⟨s, l, false⟩) hz) (by decide)) ?_
      rintro _ m2 _ hm2 ⟨rfl, rfl⟩
      replace hm := hm.trans hm2
      replace hz := hz.mono hm2
      clear hm2
      refine r_y rfl rfl (y_fieldAddr rfl At.lit fo35_2 rfl) ?_
      refine r_s rfl ?_
      refine s_store rfl rfl rfl ts24 rfl rfl (by simp [Value.oneCell', wv, Sl.v]) (i := 1) rfl rfl ?_
      refine r_nil ?_
      refine hK4 _ _ _ ?_
      clear hK4 K4
      refine c_seq (fun K16 hK16 => ?_)
      refine c_block ?_
      refine c_seq (fun K17 hK17 => ?_)
      refine c_region ?_
      refine r_y rfl rfl (y_move rfl) ?_
      refine r_y rfl rfl (y_nilCheck rfl) ?_
      refine r_y rfl rfl (y_fieldAddr rfl At.lit fo98_1 rfl) ?_
      refine r_y rfl rfl (y_load_s rfl ts4 (RdS.blk (i := 0) rfl rfl)) ?_
      refine r_y rfl rfl (y_assign rfl) ?_
      refine r_nil ?_
      refine hK17 _ _ _ ?_
      clear hK17 K17
      refine c_cond rfl (fun ke => ?_) (fun ke => ?_)
      ·
        refine c_seq (fun K18 hK18 => ?_)
        refine c_region ?_
        refine r_y rfl rfl (y_bld rfl tz35 fk35 bp35_ rfl rfl) ?_
        refine r_s rfl ?_
        refine s_store (us := encMsg zMsg zSl zSl) rfl rfl rfl ts35 rfl rfl (one_msg _ _ _) (i := 2) rfl rfl ?_
        refine r_y rfl rfl (y_assign rfl) ?_
        refine r_nil ?_
        refine hK18 _ _ _ ?_
        clear hK18 K18
        refine c_ret ?_
        refine e_ret 3 hm (res2 (r1_cell_a rfl ts35 (RdA.blk (i := 2) rfl rfl)) (r1_tmp rfl)) ?_
        have hx := rmsg_6 (q := ⟨s, l, false⟩) k1 k6
        rw [decode_short hx ke]
        exact ⟨zSl, zSl, [], rfl, zMsg_ok _, rfl⟩
      ·
        refine c_seq (fun K19 hK19 => ?_)
        refine c_region ?_
        refine r_y rfl rfl (y_move rfl) ?_
        refine r_y rfl rfl (y_not rfl) ?_
        refine r_y rfl rfl (y_move rfl) ?_
        refine r_yg rfl rfl rfl (y_move rfl) ?_
        refine r_yg rfl rfl rfl (y_nilCheck rfl) ?_
        refine r_yg rfl rfl rfl (y_fieldAddr rfl At.lit fo98_0 rfl) ?_
        refine r_yg rfl rfl rfl (y_load_s rfl ts22 (RdS.blk (i := 0) rfl rfl)) ?_
        refine r_yg rfl rfl rfl (y_len tl22 rfl) ?_
        refine r_yg rfl rfl rfl (y_iop rfl rfl rfl) ?_
        refine r_y rfl rfl (y_pickf rfl rfl rfl) ?_
        refine r_y rfl rfl (y_move rfl) ?_
        refine r_split (j := 10) rfl (fun h7 => ?_) (fun h7 => ?_)
        ·
          refine r_no' rfl rfl h7 ?_
          refine r_no' rfl rfl h7 ?_
          refine r_no' rfl rfl h7 ?_
          refine r_y rfl rfl (y_pickt rfl h7 rfl) ?_
          refine r_y rfl rfl (y_assign rfl) ?_
          refine r_nil ?_
          refine hK19 _ _ _ ?_
          clear hK19 K19
          refine c_ift rfl rfl ?_
          refine c_seq (fun K20 hK20 => ?_)
          refine c_region ?_
          refine r_y rfl rfl (y_bld rfl tz35 fk35 bp35_ rfl rfl) ?_
          refine r_s rfl ?_
          refine s_store (us := encMsg zMsg zSl zSl) rfl rfl rfl ts35 rfl rfl (one_msg _ _ _) (i := 2) rfl rfl ?_
          refine r_y rfl rfl (y_assign rfl) ?_
          refine r_nil ?_
          refine hK20 _ _ _ ?_
          clear hK20 K20
          refine c_ret ?_
          refine e_ret 3 hm (res2 (r1_cell_a rfl ts35 (RdA.blk (i := 2) rfl rfl)) (r1_tmp rfl)) ?_
          have hx := rmsg_6 (q := ⟨s, l, false⟩) k1 k6
          have hql := Fz.lenB (s := ((rint 1 ((rmsg0 ⟨s, l, false⟩).2)).2).s) (l := ((rint 1 ((rmsg0 ⟨s, l, false⟩).2)).2).l) (rint_ok (rmsg0_ok (q := ⟨s, l, false⟩) hz))
          rw [decode_bad hx ke (by simp_all)]
          exact ⟨zSl, zSl, [], rfl, zMsg_ok _, rfl⟩
        ·
          refine r_yg rfl h7 rfl (y_load_a (cs := encMsg ({ (rmsg0 ⟨s, l, false⟩).1 with e := (rint 1 (rmsg0 ⟨s, l, false⟩).2).1 }) zSl zSl) rfl ts35 (RdA.blk (i := 1) rfl rfl)) ?_
          refine r_sg rfl h7 ?_
          refine s_call0 rfl Try.call30 rfl (msgSound_ok ({ (rmsg0 ⟨s, l, false⟩).1 with e := (rint 1 (rmsg0 ⟨s, l, false⟩).2).1 }) zSl zSl [] _ _ ⟨fzA_nil _, fun _ => rfl, fzR_nil _, rfl⟩) ?_
          rintro _ m2 _ hm2 ⟨rfl, rfl⟩
          replace hm := hm.trans hm2
          replace hz := hz.mono hm2
          clear hm2
          refine r_yg rfl h7 rfl (y_not rfl) ?_
          refine r_y rfl rfl (y_pickf rfl h7 rfl) ?_
          refine r_y rfl rfl (y_assign rfl) ?_
          refine r_nil ?_
          refine hK19 _ _ _ ?_
          clear hK19 K19
          refine c_cond rfl (fun kb => ?_) (fun kb => ?_)
          ·
            refine c_seq (fun K21 hK21 => ?_)
            refine c_region ?_
            refine r_y rfl rfl (y_bld rfl tz35 fk35 bp35_ rfl rfl) ?_
            refine r_s rfl ?_
            refine s_store (us := encMsg zMsg zSl zSl) rfl rfl rfl ts35 rfl rfl (one_msg _ _ _) (i := 2) rfl rfl ?_
            refine r_y rfl rfl (y_assign rfl) ?_
            refine r_nil ?_
            refine hK21 _ _ _ ?_
            clear hK21 K21
            refine c_ret ?_
            refine e_ret 3 hm (res2 (r1_cell_a rfl ts35 (RdA.blk (i := 2) rfl rfl)) (r1_tmp rfl)) ?_
            have hx := rmsg_6 (q := ⟨s, l, false⟩) k1 k6
            have hql := Fz.lenB (s := ((rint 1 ((rmsg0 ⟨s, l, false⟩).2)).2).s) (l := ((rint 1 ((rmsg0 ⟨s, l, false⟩).2)).2).l) (rint_ok (rmsg0_ok (q := ⟨s, l, false⟩) hz))
            rw [decode_bad hx ke (by simp_all)]
            exact ⟨zSl, zSl, [], rfl, zMsg_ok _, rfl⟩
          ·
            refine c_skip ?_
            refine hK16 _ _ _ ?_
            clear hK16 K16
            refine c_seq (fun K22 hK22 => ?_)
            refine c_region ?_
            refine r_y rfl rfl (y_load_a (cs := encMsg ({ (rmsg0 ⟨s, l, false⟩).1 with e := (rint 1 (rmsg0 ⟨s, l, false⟩).2).1 }) zSl zSl) rfl ts35 (RdA.blk (i := 1) rfl rfl)) ?_
            refine r_s rfl ?_
            refine s_store (us := encMsg ({ (rmsg0 ⟨s, l, false⟩).1 with e := (rint 1 (rmsg0 ⟨s, l, false⟩).2).1 }) zSl zSl) rfl rfl rfl ts35 rfl rfl (one_msg _ _ _) (i := 2) rfl rfl ?_
            refine r_y rfl rfl (y_assign rfl) ?_
            refine r_nil ?_
            refine hK22 _ _ _ ?_
            clear hK22 K22
            refine c_ret ?_
            refine e_ret 3 hm (res2 (r1_cell_a rfl ts35 (RdA.blk (i := 2) rfl rfl)) (r1_tmp rfl)) ?_
            have hx := rmsg_6 (q := ⟨s, l, false⟩) k1 k6
            have hql := Fz.lenB (s := ((rint 1 ((rmsg0 ⟨s, l, false⟩).2)).2).s) (l := ((rint 1 ((rmsg0 ⟨s, l, false⟩).2)).2).l) (rint_ok (rmsg0_ok (q := ⟨s, l, false⟩) hz))
            rw [decode_ok hx ke (by simp_all)]
            exact ⟨zSl, zSl, [], rfl, ⟨fzA_nil _, fun _ => rfl, fzR_nil _, rfl⟩, rfl⟩
    ·
      refine c_seq (fun K23 hK23 => ?_)
      refine c_region ?_
      refine r_y rfl rfl (y_iop rfl rfl rfl) ?_
      refine r_y rfl rfl (y_assign rfl) ?_
      refine r_nil ?_
      refine hK23 _ _ _ ?_
      clear hK23 K23
      refine c_cond rfl (fun k8 => ?_) (fun k8 => ?_)
      ·
        refine c_region ?_
        refine r_y rfl rfl (y_move rfl) ?_
        refine r_front 1 rfl ?_
        refine r_s rfl ?_
        refine s_call0 rfl Try.call53 rfl (num_ok r ((rmsg0 ⟨s, l, false⟩).2) 1 _ _ (rmsg0_ok (q := ⟨s, l, false⟩) hz) (by decide)) ?_
        rintro _ m2 _ hm2 ⟨rfl, rfl⟩
        replace hm := hm.trans hm2
        replace hz := hz.mono hm2
        clear hm2
        refine r_y rfl rfl (y_move rfl) ?_
        refine r_s rfl ?_
        refine s_call0 rfl Try.call55 rfl (rhead_w r ((rint 1 ((rmsg0 ⟨s, l, false⟩).2)).2) _ _ (rint_ok (rmsg0_ok (q := ⟨s, l, false⟩) hz))) ?_
        rintro _ m2 _ hm2 ⟨rfl, rfl⟩
        replace hm := hm.trans hm2
        replace hz := hz.mono hm2
        clear hm2
        refine r_y rfl rfl (y_fieldAddr rfl At.lit fo35_4 rfl) ?_
        refine r_s rfl ?_
        refine s_store rfl rfl rfl ts3 rfl rfl (by simp [Value.oneCell', wv, Sl.v]) (i := 1) rfl rfl ?_
        refine r_y rfl rfl (y_fieldAddr rfl At.lit fo35_5 rfl) ?_
        refine r_s rfl ?_
        refine s_store (us := encHead (rhead ((rint 1 ((rmsg0 ⟨s, l, false⟩).2)).2)).1) rfl rfl rfl ts27 rfl rfl (one_head _) (i := 1) rfl rfl ?_
        refine r_nil ?_
        refine hK4 _ _ _ ?_
        clear hK4 K4
        refine c_seq (fun K24 hK24 => ?_)
        refine c_block ?_
        refine c_seq (fun K25 hK25 => ?_)
        refine c_region ?_
        refine r_y rfl rfl (y_move rfl) ?_
        refine r_y rfl rfl (y_nilCheck rfl) ?_
        refine r_y rfl rfl (y_fieldAddr rfl At.lit fo98_1 rfl) ?_
        refine r_y rfl rfl (y_load_s rfl ts4 (RdS.blk (i := 0) rfl rfl)) ?_
        refine r_y rfl rfl (y_assign rfl) ?_
        refine r_nil ?_
        refine hK25 _ _ _ ?_
        clear hK25 K25
        refine c_cond rfl (fun ke => ?_) (fun ke => ?_)
        ·
          refine c_seq (fun K26 hK26 => ?_)
          refine c_region ?_
          refine r_y rfl rfl (y_bld rfl tz35 fk35 bp35_ rfl rfl) ?_
          refine r_s rfl ?_
          refine s_store (us := encMsg zMsg zSl zSl) rfl rfl rfl ts35 rfl rfl (one_msg _ _ _) (i := 2) rfl rfl ?_
          refine r_y rfl rfl (y_assign rfl) ?_
          refine r_nil ?_
          refine hK26 _ _ _ ?_
          clear hK26 K26
          refine c_ret ?_
          refine e_ret 3 hm (res2 (r1_cell_a rfl ts35 (RdA.blk (i := 2) rfl rfl)) (r1_tmp rfl)) ?_
          have hx := rmsg_8 (q := ⟨s, l, false⟩) k1 k6 k8
          rw [decode_short hx ke]
          exact ⟨zSl, zSl, [], rfl, zMsg_ok _, rfl⟩
        ·
          refine c_seq (fun K27 hK27 => ?_)
          refine c_region ?_
          refine r_y rfl rfl (y_move rfl) ?_
          refine r_y rfl rfl (y_not rfl) ?_
          refine r_y rfl rfl (y_move rfl) ?_
          refine r_yg rfl rfl rfl (y_move rfl) ?_
          refine r_yg rfl rfl rfl (y_nilCheck rfl) ?_
          refine r_yg rfl rfl rfl (y_fieldAddr rfl At.lit fo98_0 rfl) ?_
          refine r_yg rfl rfl rfl (y_load_s rfl ts22 (RdS.blk (i := 0) rfl rfl)) ?_
          refine r_yg rfl rfl rfl (y_len tl22 rfl) ?_
          refine r_yg rfl rfl rfl (y_iop rfl rfl rfl) ?_
          refine r_y rfl rfl (y_pickf rfl rfl rfl) ?_
          refine r_y rfl rfl (y_move rfl) ?_
          refine r_split (j := 10) rfl (fun h11 => ?_) (fun h11 => ?_)
          ·
            refine r_no' rfl rfl h11 ?_
            refine r_no' rfl rfl h11 ?_
            refine r_no' rfl rfl h11 ?_
            refine r_y rfl rfl (y_pickt rfl h11 rfl) ?_
            refine r_y rfl rfl (y_assign rfl) ?_
            refine r_nil ?_
            refine hK27 _ _ _ ?_
            clear hK27 K27
            refine c_ift rfl rfl ?_
            refine c_seq (fun K28 hK28 => ?_)
            refine c_region ?_
            refine r_y rfl rfl (y_bld rfl tz35 fk35 bp35_ rfl rfl) ?_
            refine r_s rfl ?_
            refine s_store (us := encMsg zMsg zSl zSl) rfl rfl rfl ts35 rfl rfl (one_msg _ _ _) (i := 2) rfl rfl ?_
            refine r_y rfl rfl (y_assign rfl) ?_
            refine r_nil ?_
            refine hK28 _ _ _ ?_
            clear hK28 K28
            refine c_ret ?_
            refine e_ret 3 hm (res2 (r1_cell_a rfl ts35 (RdA.blk (i := 2) rfl rfl)) (r1_tmp rfl)) ?_
            have hx := rmsg_8 (q := ⟨s, l, false⟩) k1 k6 k8
            have hql := Fz.lenB (s := ((rhead ((rint 1 ((rmsg0 ⟨s, l, false⟩).2)).2)).2).s) (l := ((rhead ((rint 1 ((rmsg0 ⟨s, l, false⟩).2)).2)).2).l) (rhead_ok (rint_ok (rmsg0_ok (q := ⟨s, l, false⟩) hz)))
            rw [decode_bad hx ke (by simp_all)]
            exact ⟨zSl, zSl, [], rfl, zMsg_ok _, rfl⟩
          ·
            refine r_yg rfl h11 rfl (y_load_a (cs := encMsg ({ (rmsg0 ⟨s, l, false⟩).1 with port := (rint 1 (rmsg0 ⟨s, l, false⟩).2).1, head := (rhead (rint 1 (rmsg0 ⟨s, l, false⟩).2).2).1 }) zSl zSl) rfl ts35 (RdA.blk (i := 1) rfl rfl)) ?_
            refine r_sg rfl h11 ?_
            refine s_call0 rfl Try.call30 rfl (msgSound_ok ({ (rmsg0 ⟨s, l, false⟩).1 with port := (rint 1 (rmsg0 ⟨s, l, false⟩).2).1, head := (rhead (rint 1 (rmsg0 ⟨s, l, false⟩).2).2).1 }) zSl zSl [] _ _ ⟨fzA_nil _, fun _ => rfl, fzR_nil _, rfl⟩) ?_
            rintro _ m2 _ hm2 ⟨rfl, rfl⟩
            replace hm := hm.trans hm2
            replace hz := hz.mono hm2
            clear hm2
            refine r_yg rfl h11 rfl (y_not rfl) ?_
            refine r_y rfl rfl (y_pickf rfl h11 rfl) ?_
            refine r_y rfl rfl (y_assign rfl) ?_
            refine r_nil ?_
            refine hK27 _ _ _ ?_
            clear hK27 K27
            refine c_cond rfl (fun kb => ?_) (fun kb => ?_)
            ·
              refine c_seq (fun K29 hK29 => ?_)
              refine c_region ?_
              refine r_y rfl rfl (y_bld rfl tz35 fk35 bp35_ rfl rfl) ?_
              refine r_s rfl ?_
              refine s_store (us := encMsg zMsg zSl zSl) rfl rfl rfl ts35 rfl rfl (one_msg _ _ _) (i := 2) rfl rfl ?_
              refine r_y rfl rfl (y_assign rfl) ?_
              refine r_nil ?_
              refine hK29 _ _ _ ?_
              clear hK29 K29
              refine c_ret ?_
              refine e_ret 3 hm (res2 (r1_cell_a rfl ts35 (RdA.blk (i := 2) rfl rfl)) (r1_tmp rfl)) ?_
              have hx := rmsg_8 (q := ⟨s, l, false⟩) k1 k6 k8
              have hql := Fz.lenB (s := ((rhead ((rint 1 ((rmsg0 ⟨s, l, false⟩).2)).2)).2).s) (l := ((rhead ((rint 1 ((rmsg0 ⟨s, l, false⟩).2)).2)).2).l) (rhead_ok (rint_ok (rmsg0_ok (q := ⟨s, l, false⟩) hz)))
              rw [decode_bad hx ke (by simp_all)]
              exact ⟨zSl, zSl, [], rfl, zMsg_ok _, rfl⟩
            ·
              refine c_skip ?_
              refine hK24 _ _ _ ?_
              clear hK24 K24
              refine c_seq (fun K30 hK30 => ?_)
              refine c_region ?_
              refine r_y rfl rfl (y_load_a (cs := encMsg ({ (rmsg0 ⟨s, l, false⟩).1 with port := (rint 1 (rmsg0 ⟨s, l, false⟩).2).1, head := (rhead (rint 1 (rmsg0 ⟨s, l, false⟩).2).2).1 }) zSl zSl) rfl ts35 (RdA.blk (i := 1) rfl rfl)) ?_
              refine r_s rfl ?_
              refine s_store (us := encMsg ({ (rmsg0 ⟨s, l, false⟩).1 with port := (rint 1 (rmsg0 ⟨s, l, false⟩).2).1, head := (rhead (rint 1 (rmsg0 ⟨s, l, false⟩).2).2).1 }) zSl zSl) rfl rfl rfl ts35 rfl rfl (one_msg _ _ _) (i := 2) rfl rfl ?_
              refine r_y rfl rfl (y_assign rfl) ?_
              refine r_nil ?_
              refine hK30 _ _ _ ?_
              clear hK30 K30
              refine c_ret ?_
              refine e_ret 3 hm (res2 (r1_cell_a rfl ts35 (RdA.blk (i := 2) rfl rfl)) (r1_tmp rfl)) ?_
              have hx := rmsg_8 (q := ⟨s, l, false⟩) k1 k6 k8
              have hql := Fz.lenB (s := ((rhead ((rint 1 ((rmsg0 ⟨s, l, false⟩).2)).2)).2).s) (l := ((rhead ((rint 1 ((rmsg0 ⟨s, l, false⟩).2)).2)).2).l) (rhead_ok (rint_ok (rmsg0_ok (q := ⟨s, l, false⟩) hz)))
              rw [decode_ok hx ke (by simp_all)]
              exact ⟨zSl, zSl, [], rfl, ⟨fzA_nil _, fun _ => rfl, fzR_nil _, rfl⟩, rfl⟩
      ·
        refine c_seq (fun K31 hK31 => ?_)
        refine c_seq (fun K32 hK32 => ?_)
        refine c_region ?_
        refine r_y rfl rfl (y_iop rfl rfl rfl) ?_
        refine r_y rfl rfl (y_assign rfl) ?_
        refine r_nil ?_
        refine hK32 _ _ _ ?_
        clear hK32 K32
        refine c_cond rfl (fun k9 => ?_) (fun k9 => ?_)
        ·
          refine c_skip ?_
          refine hK31 _ _ _ ?_
          clear hK31 K31
          refine c_ift rfl k9 ?_
          refine c_region ?_
          refine r_y rfl rfl (y_move rfl) ?_
          refine r_front 1 rfl ?_
          refine r_s rfl ?_
          refine s_call0 rfl Try.call56 rfl (rrules_w r ((rmsg0 ⟨s, l, false⟩).2) _ _ (rmsg0_ok (q := ⟨s, l, false⟩) hz)) ?_
          rintro _ m2 _ hm2 ⟨srr, lr, rfl, hzr, her, rfl⟩
          replace hm := hm.trans hm2
          replace hz := hz.mono hm2
          clear hm2
          refine r_y rfl rfl (y_fieldAddr rfl At.lit fo35_6 rfl) ?_
          refine r_s rfl ?_
          refine s_store rfl rfl rfl ts33 rfl rfl (by simp [Value.oneCell', wv, Sl.v]) (i := 1) rfl rfl ?_
          refine r_nil ?_
          refine hK4 _ _ _ ?_
          clear hK4 K4
          refine c_seq (fun K33 hK33 => ?_)
          refine c_block ?_
          refine c_seq (fun K34 hK34 => ?_)
          refine c_region ?_
          refine r_y rfl rfl (y_move rfl) ?_
          refine r_y rfl rfl (y_nilCheck rfl) ?_
          refine r_y rfl rfl (y_fieldAddr rfl At.lit fo98_1 rfl) ?_
          refine r_y rfl rfl (y_load_s rfl ts4 (RdS.blk (i := 0) rfl rfl)) ?_
          refine r_y rfl rfl (y_assign rfl) ?_
          refine r_nil ?_
          refine hK34 _ _ _ ?_
          clear hK34 K34
          refine c_cond rfl (fun ke => ?_) (fun ke => ?_)
          ·
            refine c_seq (fun K35 hK35 => ?_)
            refine c_region ?_
            refine r_y rfl rfl (y_bld rfl tz35 fk35 bp35_ rfl rfl) ?_
            refine r_s rfl ?_
            refine s_store (us := encMsg zMsg zSl zSl) rfl rfl rfl ts35 rfl rfl (one_msg _ _ _) (i := 2) rfl rfl ?_
            refine r_y rfl rfl (y_assign rfl) ?_
            refine r_nil ?_
            refine hK35 _ _ _ ?_
            clear hK35 K35
            refine c_ret ?_
            refine e_ret 3 hm (res2 (r1_cell_a rfl ts35 (RdA.blk (i := 2) rfl rfl)) (r1_tmp rfl)) ?_
            have hx := rmsg_9 (q := ⟨s, l, false⟩) k1 k6 k8 k9
            rw [decode_short hx ke]
            exact ⟨zSl, zSl, [], rfl, zMsg_ok _, rfl⟩
          ·
            refine c_seq (fun K36 hK36 => ?_)
            refine c_region ?_
            refine r_y rfl rfl (y_move rfl) ?_
            refine r_y rfl rfl (y_not rfl) ?_
            refine r_y rfl rfl (y_move rfl) ?_
            refine r_yg rfl rfl rfl (y_move rfl) ?_
            refine r_yg rfl rfl rfl (y_nilCheck rfl) ?_
            refine r_yg rfl rfl rfl (y_fieldAddr rfl At.lit fo98_0 rfl) ?_
            refine r_yg rfl rfl rfl (y_load_s rfl ts22 (RdS.blk (i := 0) rfl rfl)) ?_
            refine r_yg rfl rfl rfl (y_len tl22 rfl) ?_
            refine r_yg rfl rfl rfl (y_iop rfl rfl rfl) ?_
            refine r_y rfl rfl (y_pickf rfl rfl rfl) ?_
            refine r_y rfl rfl (y_move rfl) ?_
            refine r_split (j := 10) rfl (fun h15 => ?_) (fun h15 => ?_)
            ·
              refine r_no' rfl rfl h15 ?_
              refine r_no' rfl rfl h15 ?_
              refine r_no' rfl rfl h15 ?_
              refine r_y rfl rfl (y_pickt rfl h15 rfl) ?_
              refine r_y rfl rfl (y_assign rfl) ?_
              refine r_nil ?_
              refine hK36 _ _ _ ?_
              clear hK36 K36
              refine c_ift rfl rfl ?_
              refine c_seq (fun K37 hK37 => ?_)
              refine c_region ?_
              refine r_y rfl rfl (y_bld rfl tz35 fk35 bp35_ rfl rfl) ?_
              refine r_s rfl ?_
              refine s_store (us := encMsg zMsg zSl zSl) rfl rfl rfl ts35 rfl rfl (one_msg _ _ _) (i := 2) rfl rfl ?_
              refine r_y rfl rfl (y_assign rfl) ?_
              refine r_nil ?_
              refine hK37 _ _ _ ?_
              clear hK37 K37
              refine c_ret ?_
              refine e_ret 3 hm (res2 (r1_cell_a rfl ts35 (RdA.blk (i := 2) rfl rfl)) (r1_tmp rfl)) ?_
              have hx := rmsg_9 (q := ⟨s, l, false⟩) k1 k6 k8 k9
              have hql := Fz.lenB (s := ((rrules ((rmsg0 ⟨s, l, false⟩).2)).2).s) (l := ((rrules ((rmsg0 ⟨s, l, false⟩).2)).2).l) (rrules_ok (rmsg0_ok (q := ⟨s, l, false⟩) hz))
              rw [decode_bad hx ke (by simp_all)]
              exact ⟨zSl, zSl, [], rfl, zMsg_ok _, rfl⟩
            ·
              refine r_yg rfl h15 rfl (y_load_a (cs := encMsg ({ (rmsg0 ⟨s, l, false⟩).1 with rules := (rrules (rmsg0 ⟨s, l, false⟩).2).1 }) zSl srr) rfl ts35 (RdA.blk (i := 1) rfl rfl)) ?_
              refine r_sg rfl h15 ?_
              refine s_call0 rfl Try.call30 rfl (msgSound_ok ({ (rmsg0 ⟨s, l, false⟩).1 with rules := (rrules (rmsg0 ⟨s, l, false⟩).2).1 }) zSl srr lr _ _ ⟨fzA_nil _, fun _ => rfl, hzr, her⟩) ?_
              rintro _ m2 _ hm2 ⟨rfl, rfl⟩
              replace hm := hm.trans hm2
              replace hz := hz.mono hm2
              replace hzr := hzr.mono hm2
              clear hm2
              refine r_yg rfl h15 rfl (y_not rfl) ?_
              refine r_y rfl rfl (y_pickf rfl h15 rfl) ?_
              refine r_y rfl rfl (y_assign rfl) ?_
              refine r_nil ?_
              refine hK36 _ _ _ ?_
              clear hK36 K36
              refine c_cond rfl (fun kb => ?_) (fun kb => ?_)
              ·
                refine c_seq (fun K38 hK38 => ?_)
                refine c_region ?_
                refine r_y rfl rfl (y_bld rfl tz35 fk35 bp35_ rfl rfl) ?_
                refine r_s rfl ?_
                refine s_store (us := encMsg zMsg zSl zSl) rfl rfl rfl ts35 rfl rfl (one_msg _ _ _) (i := 2) rfl rfl ?_
                refine r_y rfl rfl (y_assign rfl) ?_
                refine r_nil ?_
                refine hK38 _ _ _ ?_
                clear hK38 K38
                refine c_ret ?_
                refine e_ret 3 hm (res2 (r1_cell_a rfl ts35 (RdA.blk (i := 2) rfl rfl)) (r1_tmp rfl)) ?_
                have hx := rmsg_9 (q := ⟨s, l, false⟩) k1 k6 k8 k9
                have hql := Fz.lenB (s := ((rrules ((rmsg0 ⟨s, l, false⟩).2)).2).s) (l := ((rrules ((rmsg0 ⟨s, l, false⟩).2)).2).l) (rrules_ok (rmsg0_ok (q := ⟨s, l, false⟩) hz))
                rw [decode_bad hx ke (by simp_all)]
                exact ⟨zSl, zSl, [], rfl, zMsg_ok _, rfl⟩
              ·
                refine c_skip ?_
                refine hK33 _ _ _ ?_
                clear hK33 K33
                refine c_seq (fun K39 hK39 => ?_)
                refine c_region ?_
                refine r_y rfl rfl (y_load_a (cs := encMsg ({ (rmsg0 ⟨s, l, false⟩).1 with rules := (rrules (rmsg0 ⟨s, l, false⟩).2).1 }) zSl srr) rfl ts35 (RdA.blk (i := 1) rfl rfl)) ?_
                refine r_s rfl ?_
                refine s_store (us := encMsg ({ (rmsg0 ⟨s, l, false⟩).1 with rules := (rrules (rmsg0 ⟨s, l, false⟩).2).1 }) zSl srr) rfl rfl rfl ts35 rfl rfl (one_msg _ _ _) (i := 2) rfl rfl ?_
                refine r_y rfl rfl (y_assign rfl) ?_
                refine r_nil ?_
                refine hK39 _ _ _ ?_
                clear hK39 K39
                refine c_ret ?_
                refine e_ret 3 hm (res2 (r1_cell_a rfl ts35 (RdA.blk (i := 2) rfl rfl)) (r1_tmp rfl)) ?_
                have hx := rmsg_9 (q := ⟨s, l, false⟩) k1 k6 k8 k9
                have hql := Fz.lenB (s := ((rrules ((rmsg0 ⟨s, l, false⟩).2)).2).s) (l := ((rrules ((rmsg0 ⟨s, l, false⟩).2)).2).l) (rrules_ok (rmsg0_ok (q := ⟨s, l, false⟩) hz))
                rw [decode_ok hx ke (by simp_all)]
                exact ⟨zSl, srr, lr, rfl, ⟨fzA_nil _, fun _ => rfl, hzr, her⟩, rfl⟩
        ·
          refine c_region ?_
          refine r_y rfl rfl (y_iop rfl rfl rfl) ?_
          refine r_y rfl rfl (y_assign rfl) ?_
          refine r_nil ?_
          refine hK31 _ _ _ ?_
          clear hK31 K31
          refine c_cond rfl (fun k10 => ?_) (fun k10 => ?_)
          ·
            refine c_region ?_
            refine r_y rfl rfl (y_move rfl) ?_
            refine r_front 1 rfl ?_
            refine r_s rfl ?_
            refine s_call0 rfl Try.call56 rfl (rrules_w r ((rmsg0 ⟨s, l, false⟩).2) _ _ (rmsg0_ok (q := ⟨s, l, false⟩) hz)) ?_
            rintro _ m2 _ hm2 ⟨srr, lr, rfl, hzr, her, rfl⟩
            replace hm := hm.trans hm2
            replace hz := hz.mono hm2
            clear hm2
            refine r_y rfl rfl (y_fieldAddr rfl At.lit fo35_6 rfl) ?_
            refine r_s rfl ?_
            refine s_store rfl rfl rfl ts33 rfl rfl (by simp [Value.oneCell', wv, Sl.v]) (i := 1) rfl rfl ?_
            refine r_nil ?_
            refine hK4 _ _ _ ?_
            clear hK4 K4
            refine c_seq (fun K40 hK40 => ?_)
            refine c_block ?_
            refine c_seq (fun K41 hK41 => ?_)
            refine c_region ?_
            refine r_y rfl rfl (y_move rfl) ?_
            refine r_y rfl rfl (y_nilCheck rfl) ?_
            refine r_y rfl rfl (y_fieldAddr rfl At.lit fo98_1 rfl) ?_
            refine r_y rfl rfl (y_load_s rfl ts4 (RdS.blk (i := 0) rfl rfl)) ?_
            refine r_y rfl rfl (y_assign rfl) ?_
            refine r_nil ?_
            refine hK41 _ _ _ ?_
            clear hK41 K41
            refine c_cond rfl (fun ke => ?_) (fun ke => ?_)
            ·
              refine c_seq (fun K42 hK42 => ?_)
              refine c_region ?_
              refine r_y rfl rfl (y_bld rfl tz35 fk35 bp35_ rfl rfl) ?_
              refine r_s rfl ?_
              refine s_store (us := encMsg zMsg zSl zSl) rfl rfl rfl ts35 rfl rfl (one_msg _ _ _) (i := 2) rfl rfl ?_
              refine r_y rfl rfl (y_assign rfl) ?_
              refine r_nil ?_
              refine hK42 _ _ _ ?_
              clear hK42 K42
              refine c_ret ?_
              refine e_ret 3 hm (res2 (r1_cell_a rfl ts35 (RdA.blk (i := 2) rfl rfl)) (r1_tmp rfl)) ?_
              have hx := rmsg_10 (q := ⟨s, l, false⟩) k1 k6 k8 k9 k10
              rw [decode_short hx ke]
              exact ⟨zSl, zSl, [], rfl, zMsg_ok _, rfl⟩
            ·
              refine c_seq (fun K43 hK43 => ?_)
              refine c_region ?_
              refine r_y rfl rfl (y_move rfl) ?_
              refine r_y rfl rfl (y_not rfl) ?_
              refine r_y rfl rfl (y_move rfl) ?_
              refine r_yg rfl rfl rfl (y_move rfl) ?_
              refine r_yg rfl rfl rfl (y_nilCheck rfl) ?_
              refine r_yg rfl rfl rfl (y_fieldAddr rfl At.lit fo98_0 rfl) ?_
              refine r_yg rfl rfl rfl (y_load_s rfl ts22 (RdS.blk (i := 0) rfl rfl)) ?_
              refine r_yg rfl rfl rfl (y_len tl22 rfl) ?_
              refine r_yg rfl rfl rfl (y_iop rfl rfl rfl) ?_
              refine r_y rfl rfl (y_pickf rfl rfl rfl) ?_
              refine r_y rfl rfl (y_move rfl) ?_
              refine r_split (j := 10) rfl (fun h19 => ?_) (fun h19 => ?_)
              ·
                refine r_no' rfl rfl h19 ?_
                refine r_no' rfl rfl h19 ?_
                refine r_no' rfl rfl h19 ?_
                refine r_y rfl rfl (y_pickt rfl h19 rfl) ?_
                refine r_y rfl rfl (y_assign rfl) ?_
                refine r_nil ?_
                refine hK43 _ _ _ ?_
                clear hK43 K43
                refine c_ift rfl rfl ?_
                refine c_seq (fun K44 hK44 => ?_)
                refine c_region ?_
                refine r_y rfl rfl (y_bld rfl tz35 fk35 bp35_ rfl rfl) ?_
                refine r_s rfl ?_
                refine s_store (us := encMsg zMsg zSl zSl) rfl rfl rfl ts35 rfl rfl (one_msg _ _ _) (i := 2) rfl rfl ?_
                refine r_y rfl rfl (y_assign rfl) ?_
                refine r_nil ?_
                refine hK44 _ _ _ ?_
                clear hK44 K44
                refine c_ret ?_
                refine e_ret 3 hm (res2 (r1_cell_a rfl ts35 (RdA.blk (i := 2) rfl rfl)) (r1_tmp rfl)) ?_
                have hx := rmsg_10 (q := ⟨s, l, false⟩) k1 k6 k8 k9 k10
                have hql := Fz.lenB (s := ((rrules ((rmsg0 ⟨s, l, false⟩).2)).2).s) (l := ((rrules ((rmsg0 ⟨s, l, false⟩).2)).2).l) (rrules_ok (rmsg0_ok (q := ⟨s, l, false⟩) hz))
                rw [decode_bad hx ke (by simp_all)]
                exact ⟨zSl, zSl, [], rfl, zMsg_ok _, rfl⟩
              ·
                refine r_yg rfl h19 rfl (y_load_a (cs := encMsg ({ (rmsg0 ⟨s, l, false⟩).1 with rules := (rrules (rmsg0 ⟨s, l, false⟩).2).1 }) zSl srr) rfl ts35 (RdA.blk (i := 1) rfl rfl)) ?_
                refine r_sg rfl h19 ?_
                refine s_call0 rfl Try.call30 rfl (msgSound_ok ({ (rmsg0 ⟨s, l, false⟩).1 with rules := (rrules (rmsg0 ⟨s, l, false⟩).2).1 }) zSl srr lr _ _ ⟨fzA_nil _, fun _ => rfl, hzr, her⟩) ?_
                rintro _ m2 _ hm2 ⟨rfl, rfl⟩
                replace hm := hm.trans hm2
                replace hz := hz.mono hm2
                replace hzr := hzr.mono hm2
                clear hm2
                refine r_yg rfl h19 rfl (y_not rfl) ?_
                refine r_y rfl rfl (y_pickf rfl h19 rfl) ?_
                refine r_y rfl rfl (y_assign rfl) ?_
                refine r_nil ?_
                refine hK43 _ _ _ ?_
                clear hK43 K43
                refine c_cond rfl (fun kb => ?_) (fun kb => ?_)
                ·
                  refine c_seq (fun K45 hK45 => ?_)
                  refine c_region ?_
                  refine r_y rfl rfl (y_bld rfl tz35 fk35 bp35_ rfl rfl) ?_
                  refine r_s rfl ?_
                  refine s_store (us := encMsg zMsg zSl zSl) rfl rfl rfl ts35 rfl rfl (one_msg _ _ _) (i := 2) rfl rfl ?_
                  refine r_y rfl rfl (y_assign rfl) ?_
                  refine r_nil ?_
                  refine hK45 _ _ _ ?_
                  clear hK45 K45
                  refine c_ret ?_
                  refine e_ret 3 hm (res2 (r1_cell_a rfl ts35 (RdA.blk (i := 2) rfl rfl)) (r1_tmp rfl)) ?_
                  have hx := rmsg_10 (q := ⟨s, l, false⟩) k1 k6 k8 k9 k10
                  have hql := Fz.lenB (s := ((rrules ((rmsg0 ⟨s, l, false⟩).2)).2).s) (l := ((rrules ((rmsg0 ⟨s, l, false⟩).2)).2).l) (rrules_ok (rmsg0_ok (q := ⟨s, l, false⟩) hz))
                  rw [decode_bad hx ke (by simp_all)]
                  exact ⟨zSl, zSl, [], rfl, zMsg_ok _, rfl⟩
                ·
                  refine c_skip ?_
                  refine hK40 _ _ _ ?_
                  clear hK40 K40
                  refine c_seq (fun K46 hK46 => ?_)
                  refine c_region ?_
                  refine r_y rfl rfl (y_load_a (cs := encMsg ({ (rmsg0 ⟨s, l, false⟩).1 with rules := (rrules (rmsg0 ⟨s, l, false⟩).2).1 }) zSl srr) rfl ts35 (RdA.blk (i := 1) rfl rfl)) ?_
                  refine r_s rfl ?_
                  refine s_store (us := encMsg ({ (rmsg0 ⟨s, l, false⟩).1 with rules := (rrules (rmsg0 ⟨s, l, false⟩).2).1 }) zSl srr) rfl rfl rfl ts35 rfl rfl (one_msg _ _ _) (i := 2) rfl rfl ?_
                  refine r_y rfl rfl (y_assign rfl) ?_
                  refine r_nil ?_
                  refine hK46 _ _ _ ?_
                  clear hK46 K46
                  refine c_ret ?_
                  refine e_ret 3 hm (res2 (r1_cell_a rfl ts35 (RdA.blk (i := 2) rfl rfl)) (r1_tmp rfl)) ?_
                  have hx := rmsg_10 (q := ⟨s, l, false⟩) k1 k6 k8 k9 k10
                  have hql := Fz.lenB (s := ((rrules ((rmsg0 ⟨s, l, false⟩).2)).2).s) (l := ((rrules ((rmsg0 ⟨s, l, false⟩).2)).2).l) (rrules_ok (rmsg0_ok (q := ⟨s, l, false⟩) hz))
                  rw [decode_ok hx ke (by simp_all)]
                  exact ⟨zSl, srr, lr, rfl, ⟨fzA_nil _, fun _ => rfl, hzr, her⟩, rfl⟩
          ·
            refine c_skip ?_
            refine hK4 _ _ _ ?_
            clear hK4 K4
            refine c_seq (fun K47 hK47 => ?_)
            refine c_block ?_
            refine c_seq (fun K48 hK48 => ?_)
            refine c_region ?_
            refine r_y rfl rfl (y_move rfl) ?_
            refine r_y rfl rfl (y_nilCheck rfl) ?_
            refine r_y rfl rfl (y_fieldAddr rfl At.lit fo98_1 rfl) ?_
            refine r_y rfl rfl (y_load_s rfl ts4 (RdS.blk (i := 1) rfl rfl)) ?_
            refine r_y rfl rfl (y_assign rfl) ?_
            refine r_nil ?_
            refine hK48 _ _ _ ?_
            clear hK48 K48
            refine c_cond rfl (fun ke => ?_) (fun ke => ?_)
            ·
              refine c_seq (fun K49 hK49 => ?_)
              refine c_region ?_
              refine r_y rfl rfl (y_bld rfl tz35 fk35 bp35_ rfl rfl) ?_
              refine r_s rfl ?_
              refine s_store (us := encMsg zMsg zSl zSl) rfl rfl rfl ts35 rfl rfl (one_msg _ _ _) (i := 2) rfl rfl ?_
              refine r_y rfl rfl (y_assign rfl) ?_
              refine r_nil ?_
              refine hK49 _ _ _ ?_
              clear hK49 K49
              refine c_ret ?_
              refine e_ret 3 hm (res2 (r1_cell_a rfl ts35 (RdA.blk (i := 2) rfl rfl)) (r1_tmp rfl)) ?_
              have hx := rmsg_o (q := ⟨s, l, false⟩) k1 k6 k8 k9 k10
              rw [decode_short hx ke]
              exact ⟨zSl, zSl, [], rfl, zMsg_ok _, rfl⟩
            ·
              refine c_seq (fun K50 hK50 => ?_)
              refine c_region ?_
              refine r_y rfl rfl (y_move rfl) ?_
              refine r_y rfl rfl (y_not rfl) ?_
              refine r_y rfl rfl (y_move rfl) ?_
              refine r_yg rfl rfl rfl (y_move rfl) ?_
              refine r_yg rfl rfl rfl (y_nilCheck rfl) ?_
              refine r_yg rfl rfl rfl (y_fieldAddr rfl At.lit fo98_0 rfl) ?_
              refine r_yg rfl rfl rfl (y_load_s rfl ts22 (RdS.blk (i := 1) rfl rfl)) ?_
              refine r_yg rfl rfl rfl (y_len tl22 rfl) ?_
              refine r_yg rfl rfl rfl (y_iop rfl rfl rfl) ?_
              refine r_y rfl rfl (y_pickf rfl rfl rfl) ?_
              refine r_y rfl rfl (y_move rfl) ?_
              refine r_split (j := 10) rfl (fun h22 => ?_) (fun h22 => ?_)
              ·
                refine r_no' rfl rfl h22 ?_
                refine r_no' rfl rfl h22 ?_
                refine r_no' rfl rfl h22 ?_
                refine r_y rfl rfl (y_pickt rfl h22 rfl) ?_
                refine r_y rfl rfl (y_assign rfl) ?_
                refine r_nil ?_
                refine hK50 _ _ _ ?_
                clear hK50 K50
                refine c_ift rfl rfl ?_
                refine c_seq (fun K51 hK51 => ?_)
                refine c_region ?_
                refine r_y rfl rfl (y_bld rfl tz35 fk35 bp35_ rfl rfl) ?_
                refine r_s rfl ?_
                refine s_store (us := encMsg zMsg zSl zSl) rfl rfl rfl ts35 rfl rfl (one_msg _ _ _) (i := 2) rfl rfl ?_
                refine r_y rfl rfl (y_assign rfl) ?_
                refine r_nil ?_
                refine hK51 _ _ _ ?_
                clear hK51 K51
                refine c_ret ?_
                refine e_ret 3 hm (res2 (r1_cell_a rfl ts35 (RdA.blk (i := 2) rfl rfl)) (r1_tmp rfl)) ?_
                have hx := rmsg_o (q := ⟨s, l, false⟩) k1 k6 k8 k9 k10
                have hql := Fz.lenB (s := ((rmsg0 ⟨s, l, false⟩).2).s) (l := ((rmsg0 ⟨s, l, false⟩).2).l) (rmsg0_ok (q := ⟨s, l, false⟩) hz)
                rw [decode_bad hx ke (by simp_all [rmsg0])]
                exact ⟨zSl, zSl, [], rfl, zMsg_ok _, rfl⟩
              ·
                refine r_yg rfl h22 rfl (y_load_a (cs := encMsg ((rmsg0 ⟨s, l, false⟩).1) zSl zSl) rfl ts35 (RdA.blk (i := 0) rfl rfl)) ?_
                refine r_sg rfl h22 ?_
                refine s_call0 rfl Try.call30 rfl (msgSound_ok ((rmsg0 ⟨s, l, false⟩).1) zSl zSl [] _ _ ⟨fzA_nil _, fun _ => rfl, fzR_nil _, rfl⟩) ?_
                rintro _ m2 _ hm2 ⟨rfl, rfl⟩
                replace hm := hm.trans hm2
                replace hz := hz.mono hm2
                clear hm2
                refine r_yg rfl h22 rfl (y_not rfl) ?_
                refine r_y rfl rfl (y_pickf rfl h22 rfl) ?_
                refine r_y rfl rfl (y_assign rfl) ?_
                refine r_nil ?_
                refine hK50 _ _ _ ?_
                clear hK50 K50
                refine c_cond rfl (fun kb => ?_) (fun kb => ?_)
                ·
                  refine c_seq (fun K52 hK52 => ?_)
                  refine c_region ?_
                  refine r_y rfl rfl (y_bld rfl tz35 fk35 bp35_ rfl rfl) ?_
                  refine r_s rfl ?_
                  refine s_store (us := encMsg zMsg zSl zSl) rfl rfl rfl ts35 rfl rfl (one_msg _ _ _) (i := 2) rfl rfl ?_
                  refine r_y rfl rfl (y_assign rfl) ?_
                  refine r_nil ?_
                  refine hK52 _ _ _ ?_
                  clear hK52 K52
                  refine c_ret ?_
                  refine e_ret 3 hm (res2 (r1_cell_a rfl ts35 (RdA.blk (i := 2) rfl rfl)) (r1_tmp rfl)) ?_
                  have hx := rmsg_o (q := ⟨s, l, false⟩) k1 k6 k8 k9 k10
                  have hql := Fz.lenB (s := ((rmsg0 ⟨s, l, false⟩).2).s) (l := ((rmsg0 ⟨s, l, false⟩).2).l) (rmsg0_ok (q := ⟨s, l, false⟩) hz)
                  rw [decode_bad hx ke (by simp_all [rmsg0])]
                  exact ⟨zSl, zSl, [], rfl, zMsg_ok _, rfl⟩
                ·
                  refine c_skip ?_
                  refine hK47 _ _ _ ?_
                  clear hK47 K47
                  refine c_seq (fun K53 hK53 => ?_)
                  refine c_region ?_
                  refine r_y rfl rfl (y_load_a (cs := encMsg ((rmsg0 ⟨s, l, false⟩).1) zSl zSl) rfl ts35 (RdA.blk (i := 0) rfl rfl)) ?_
                  refine r_s rfl ?_
                  refine s_store (us := encMsg ((rmsg0 ⟨s, l, false⟩).1) zSl zSl) rfl rfl rfl ts35 rfl rfl (one_msg _ _ _) (i := 2) rfl rfl ?_
                  refine r_y rfl rfl (y_assign rfl) ?_
                  refine r_nil ?_
                  refine hK53 _ _ _ ?_
                  clear hK53 K53
                  refine c_ret ?_
                  refine e_ret 3 hm (res2 (r1_cell_a rfl ts35 (RdA.blk (i := 2) rfl rfl)) (r1_tmp rfl)) ?_
                  have hx := rmsg_o (q := ⟨s, l, false⟩) k1 k6 k8 k9 k10
                  have hql := Fz.lenB (s := ((rmsg0 ⟨s, l, false⟩).2).s) (l := ((rmsg0 ⟨s, l, false⟩).2).l) (rmsg0_ok (q := ⟨s, l, false⟩) hz)
                  rw [decode_ok hx ke (by simp_all [rmsg0])]
                  exact ⟨zSl, zSl, [], rfl, ⟨fzA_nil _, fun _ => rfl, fzR_nil _, rfl⟩, rfl⟩
end Go.Aw
namespace Go.Aw
open Go Go.Proofs
theorem fo111_0 : fieldOff Try.prog 111 0 = some 0 := by kernel_rfl
theorem zo5 : zeroOk Try.prog 5 = true := by kernel_rfl
theorem tb5 : tbytes Try.prog 5 = some 1 := by kernel_rfl
theorem tz155 : tzero Try.prog 155 = some [.int .i64 0, .int .i64 0, .int .i64 0] := by kernel_rfl
theorem fk155 : fieldsKnown Try.prog 155 = true := by kernel_rfl
theorem bp155_0_1_2 : bplaces Try.prog 155 [0, 1, 2] = some [(0, 1), (1, 1), (2, 1)] := by kernel_rfl
theorem ta155 : tarray Try.prog 155 = some (3, false, 1) := by kernel_rfl
set_option maxRecDepth 100000 in
theorem put_ok (r : Nat) (s : Sl) (l : List UInt8) (z : W) (k : Nat) (m : Snap) (H : Hp) (hsn : s.n = l.length) (hfit : l.length + k ≤ lim) : Fn Try.prog 60 [.pointer (some ⟨r, 0, none⟩), wv z, .int .i64 (k : Nat)] m (wItem r s :: vItem s l :: H) (fun v m' H' => ∃ s' : Sl, s'.n = (l ++ wput z k).length ∧ H' = wItem r s' :: vItem s' (l ++ wput z k) :: H) := by
  unfold lim at hfit
  have hm : m.le m := Snap.le.refl m
  refine fn_end Try.func60 rfl rfl rfl ?_
  refine c_seq (fun K0 hK0 => ?_)
  refine c_region ?_
  refine r_y rfl rfl (y_move rfl) ?_
  refine r_y rfl rfl (y_dec' rfl (by omega)) ?_
  refine r_y rfl rfl (y_assign rfl) ?_
  refine r_nil ?_
  refine hK0 _ _ _ ?_
  clear hK0 K0
  refine c_block ?_
  refine c_loopx (α := Nat × List UInt8 × Sl) (fun vv => match vv with | (j, l1, sv) => [(0, .pointer (some ⟨r, 0, none⟩)), (1, wv z), (6, .int .i64 ((j : Int) - 1))]) (fun vv => match vv with | (j, l1, sv) => wItem r sv :: vItem sv l1 :: H) (fun k0 vv m1 => match vv with | (j, l1, sv) => (j = k0 ∧ sv.n = l1.length ∧ l1.length + j = l.length + k ∧ l ++ wput z k = l1 ++ wput z j) ∧ m.le m1) (k) (k, l, s) ⟨rfl, rfl, rfl, trivial⟩ rfl ⟨⟨rfl, hsn, rfl, rfl⟩, hm⟩ ?_
  clear hm
  rintro k0 ⟨j, l1, sv⟩ m1 ⟨hi0, hm⟩
  obtain ⟨hi, hsn, hb, hinv⟩ := hi0
  refine c_seq (fun K1 hK1 => ?_)
  refine c_seq (fun K2 hK2 => ?_)
  refine c_region ?_
  refine r_y rfl rfl (y_move rfl) ?_
  refine r_y rfl rfl (y_iop rfl rfl rfl) ?_
  refine r_nil ?_
  refine hK2 _ _ _ ?_
  clear hK2 K2
  refine c_cond rfl (fun h0 => ?_) (fun h0 => ?_)
  ·
    refine c_skip ?_
    refine hK1 _ _ _ ?_
    clear hK1 K1
    refine c_seq (fun K3 hK3 => ?_)
    refine c_block ?_
    refine c_draw ([]) (by kernel_rfl) (fun hg => ?_)
    refine g_y (i := 0) (listed' := #[true, false, false, false, false, false, false, false, false, false, false, false, false, false, false]) rfl (by kernel_rfl) (by kernel_rfl) (by kernel_rfl) (by kernel_rfl) rfl rfl hg alln (fun m' H' hm' hX' => y_move rfl) ?_
    refine g_y (i := 1) (listed' := #[true, true, false, false, false, false, false, false, false, false, false, false, false, false, false]) rfl (by kernel_rfl) (by kernel_rfl) (by kernel_rfl) (by kernel_rfl) rfl rfl hg alln (fun m' H' hm' hX' => y_move rfl) ?_
    refine g_y (i := 2) (listed' := #[true, true, true, false, false, false, false, false, false, false, false, false, false, false, false]) rfl (by kernel_rfl) (by kernel_rfl) (by kernel_rfl) (by kernel_rfl) rfl rfl hg alln (fun m' H' hm' hX' => y_nilCheck rfl) ?_
    refine g_y (i := 3) (listed' := #[true, true, true, true, false, false, false, false, false, false, false, false, false, false, false]) rfl (by kernel_rfl) (by kernel_rfl) (by kernel_rfl) (by kernel_rfl) rfl rfl hg alln (fun m' H' hm' hX' => y_fieldAddr rfl At.lit fo111_0 rfl) ?_
    refine g_y (i := 5) (listed' := #[true, true, true, true, false, true, false, false, false, false, false, false, false, false, false]) rfl (by kernel_rfl) (by kernel_rfl) (by kernel_rfl) (by kernel_rfl) rfl rfl hg alln (fun m' H' hm' hX' => y_move rfl) ?_
    refine g_y (i := 6) (listed' := #[true, true, true, true, false, true, true, false, false, false, false, false, false, false, false]) rfl (by kernel_rfl) (by kernel_rfl) (by kernel_rfl) (by kernel_rfl) rfl rfl hg alln (fun m' H' hm' hX' => y_move rfl) ?_
    obtain ⟨j, rfl⟩ : ∃ i, j = i + 1 := ⟨j - 1, by simp at h0; omega⟩
    refine g_y (i := 7) (listed' := #[true, true, true, true, false, true, true, true, false, false, false, false, false, false, false]) rfl (by kernel_rfl) (by kernel_rfl) (by kernel_rfl) (by kernel_rfl) rfl rfl hg alln (fun m' H' hm' hX' => y_mul8 rfl (by omega)) ?_
    refine g_y (i := 8) (listed' := #[true, true, true, true, false, true, true, true, true, false, false, false, false, false, false]) rfl (by kernel_rfl) (by kernel_rfl) (by kernel_rfl) (by kernel_rfl) rfl rfl hg alln (fun m' H' hm' hX' => y_wshr (b := 8 * j) rfl rfl) ?_
    refine g_y (i := 9) (listed' := #[true, true, true, true, false, true, true, true, true, true, false, false, false, false, false]) rfl (by kernel_rfl) (by kernel_rfl) (by kernel_rfl) (by kernel_rfl) rfl rfl hg alln (fun m' H' hm' hX' => y_conv_w8 rfl un25 un5) ?_
    refine g_each (rs := [4, 10]) (by kernel_rfl) (by simp) ⟨⟨_, rfl, rfl, ?_⟩, ⟨_, rfl, rfl, ?_⟩, trivial⟩
    ·
      refine s_y rfl (y_load_s rfl ts22 (RdS.blk (i := 0) rfl rfl)) ?_
      refine ⟨⟨hg, alln⟩, ?_⟩
      refine g_s (i := 10) (listed' := #[true, true, true, true, true, true, true, true, true, true, true, false, false, false, false]) rfl (by kernel_rfl) (by kernel_rfl) rfl ?_
      refine s_buildSlice (cs := [bv (UInt8.ofNat (z >>> (8 * j)).toNat)]) (e := 5) rfl rfl (fun _ => by kernel_rfl) (fun b0 => ?_)
      refine ⟨⟨hg, alln⟩, ?_⟩
      refine g_s (i := 11) (listed' := #[true, true, true, true, true, true, true, true, true, true, true, true, false, false, false]) rfl (by kernel_rfl) (by kernel_rfl) rfl ?_
      refine s_append rfl rfl rfl tl22 zo5 tb5 (i := 2) rfl (Src.one' (i := 0) rfl rfl (by simp [bv, Value.oneCell'])) (by omega) (by unfold maxLen; omega) (fun a1 c1 => ?_)
      refine ⟨⟨hg, alln⟩, ?_⟩
      refine g_del 0 rfl ?_
      refine g_y (i := 12) (listed' := #[true, true, true, true, true, true, true, true, true, true, true, true, true, false, false]) rfl (by kernel_rfl) (by kernel_rfl) (by kernel_rfl) (by kernel_rfl) rfl rfl hg alln (fun m' H' hm' hX' => y_nilCheck rfl) ?_
      refine g_y (i := 13) (listed' := #[true, true, true, true, true, true, true, true, true, true, true, true, true, true, false]) rfl (by kernel_rfl) (by kernel_rfl) (by kernel_rfl) (by kernel_rfl) rfl rfl hg alln (fun m' H' hm' hX' => y_fieldAddr rfl At.lit fo111_0 rfl) ?_
      refine g_s (i := 14) (listed' := #[true, true, true, true, true, true, true, true, true, true, true, true, true, true, true]) rfl (by kernel_rfl) (by kernel_rfl) rfl ?_
      refine s_store rfl rfl rfl ts22 rfl rfl (by simp [Value.oneCell', wv, Sl.v]) (i := 0) rfl rfl ?_
      refine ⟨⟨hg, alln⟩, ?_⟩
      refine g_done (by kernel_rfl) ?_
      clear hg
      refine hK3 _ _ _ ?_
      clear hK3 K3
      refine c_region ?_
      refine r_y rfl rfl (y_move rfl) ?_
      refine r_y rfl rfl (y_decj rfl (by omega)) ?_
      refine r_y rfl rfl (y_assign rfl) ?_
      refine r_nil ?_
      exact ⟨k0 - 1, (j, l1 ++ [UInt8.ofNat (z >>> (8 * j)).toNat], ⟨a1, sv.n + 1, c1⟩), by omega, ⟨rfl, rfl, rfl, trivial⟩, (by simp only [vItem, bytes1_snoc]; rfl), ⟨by omega, by simp [hsn], by simp; omega, by rw [hinv]; simp [wput]⟩, hm⟩
    ·
      refine s_buildSlice (cs := [bv (UInt8.ofNat (z >>> (8 * j)).toNat)]) (e := 5) rfl rfl (fun _ => by kernel_rfl) (fun b0 => ?_)
      refine ⟨⟨hg, alln⟩, ?_⟩
      refine g_s (i := 4) (listed' := #[true, true, true, true, true, true, true, true, true, true, true, false, false, false, false]) rfl (by kernel_rfl) (by kernel_rfl) rfl ?_
      refine s_y rfl (y_load_s rfl ts22 (RdS.blk (i := 1) rfl rfl)) ?_
      refine ⟨⟨hg, alln⟩, ?_⟩
      refine g_s (i := 11) (listed' := #[true, true, true, true, true, true, true, true, true, true, true, true, false, false, false]) rfl (by kernel_rfl) (by kernel_rfl) rfl ?_
      refine s_append rfl rfl rfl tl22 zo5 tb5 (i := 2) rfl (Src.one' (i := 0) rfl rfl (by simp [bv, Value.oneCell'])) (by omega) (by unfold maxLen; omega) (fun a1 c1 => ?_)
      refine ⟨⟨hg, alln⟩, ?_⟩
      refine g_del 0 rfl ?_
      refine g_y (i := 12) (listed' := #[true, true, true, true, true, true, true, true, true, true, true, true, true, false, false]) rfl (by kernel_rfl) (by kernel_rfl) (by kernel_rfl) (by kernel_rfl) rfl rfl hg alln (fun m' H' hm' hX' => y_nilCheck rfl) ?_
      refine g_y (i := 13) (listed' := #[true, true, true, true, true, true, true, true, true, true, true, true, true, true, false]) rfl (by kernel_rfl) (by kernel_rfl) (by kernel_rfl) (by kernel_rfl) rfl rfl hg alln (fun m' H' hm' hX' => y_fieldAddr rfl At.lit fo111_0 rfl) ?_
      refine g_s (i := 14) (listed' := #[true, true, true, true, true, true, true, true, true, true, true, true, true, true, true]) rfl (by kernel_rfl) (by kernel_rfl) rfl ?_
      refine s_store rfl rfl rfl ts22 rfl rfl (by simp [Value.oneCell', wv, Sl.v]) (i := 0) rfl rfl ?_
      refine ⟨⟨hg, alln⟩, ?_⟩
      refine g_done (by kernel_rfl) ?_
      clear hg
      refine hK3 _ _ _ ?_
      clear hK3 K3
      refine c_region ?_
      refine r_y rfl rfl (y_move rfl) ?_
      refine r_y rfl rfl (y_decj rfl (by omega)) ?_
      refine r_y rfl rfl (y_assign rfl) ?_
      refine r_nil ?_
      exact ⟨k0 - 1, (j, l1 ++ [UInt8.ofNat (z >>> (8 * j)).toNat], ⟨a1, sv.n + 1, c1⟩), by omega, ⟨rfl, rfl, rfl, trivial⟩, (by simp only [vItem, bytes1_snoc]; rfl), ⟨by omega, by simp [hsn], by simp; omega, by rw [hinv]; simp [wput]⟩, hm⟩
  ·
    refine c_exit ?_
    refine e_norm 0 hm (res_tmps rfl) ?_
    obtain rfl : j = 0 := by simp at h0; omega
    rw [hinv]
    exact ⟨sv, by simp [wput, hsn], by simp [wput]; rfl⟩
set_option maxRecDepth 100000 in
theorem whead_w (r : Nat) (s : Sl) (l : List UInt8) (h : Head) (m : Snap) (H : Hp) (hsn : s.n = l.length) (hfit : l.length + 96 ≤ lim) : Fn Try.prog 62 [.pointer (some ⟨r, 0, none⟩), .agg (encHead h).toArray] m (wItem r s :: vItem s l :: H) (fun v m' H' => ∃ s' : Sl, s'.n = (l ++ whead h).length ∧ H' = wItem r s' :: vItem s' (l ++ whead h) :: H) := by
  unfold lim at hfit
  have hm : m.le m := Snap.le.refl m
  refine fn_end Try.func62 rfl rfl rfl ?_
  refine c_seq (fun K0 hK0 => ?_)
  refine c_region ?_
  refine r_s rfl ?_
  refine s_box_a rfl rfl (fun b0 => ?_)
  refine r_nil ?_
  refine hK0 _ _ _ ?_
  clear hK0 K0
  refine c_seq (fun K1 hK1 => ?_)
  refine c_region ?_
  refine r_y rfl rfl (y_load_a (cs := encHead h) rfl ts27 (RdA.blk (i := 0) rfl rfl)) ?_
  refine r_y rfl rfl (y_move rfl) ?_
  refine r_nil ?_
  refine hK1 _ _ _ ?_
  clear hK1 K1
  refine c_block ?_
  refine c_del 0 rfl ?_
  refine c_loopx (α := Nat × Sl) (fun vv => match vv with | (i, sv) => [(0, .pointer (some ⟨r, 0, none⟩)), (6, .agg (encHead h).toArray), (7, .int .i64 (i : Nat))]) (fun vv => match vv with | (i, sv) => wItem r sv :: vItem sv (l ++ wputs 8 ((headL h).take i)) :: H) (fun k0 vv m1 => match vv with | (i, sv) => (i + k0 = 12 ∧ sv.n = (l ++ wputs 8 ((headL h).take i)).length) ∧ m.le m1) (12) (0, s) ⟨rfl, rfl, rfl, trivial⟩ (by simp only [List.take_zero, wputs, List.append_nil]; rfl) ⟨⟨by omega, by simpa [wputs] using hsn⟩, hm⟩ ?_
  clear hm
  rintro k0 ⟨i, sv⟩ m1 ⟨hi0, hm⟩
  obtain ⟨hi, hsn⟩ := hi0
  refine c_seq (fun K2 hK2 => ?_)
  refine c_region ?_
  refine r_y rfl rfl (y_iop rfl rfl rfl) ?_
  refine r_nil ?_
  refine hK2 _ _ _ ?_
  clear hK2 K2
  refine c_seq (fun K3 hK3 => ?_)
  refine c_cond rfl (fun h0 => ?_) (fun h0 => ?_)
  ·
    have hlt : i < 12 := by simp at h0; omega
    refine c_skip ?_
    refine hK3 _ _ _ ?_
    clear hK3 K3
    refine c_seq (fun K4 hK4 => ?_)
    refine c_block ?_
    refine c_seq (fun K5 hK5 => ?_)
    refine c_region ?_
    refine r_y rfl rfl (y_index_arr rfl rfl ta27 hlt (cget_head _ _ hlt)) ?_
    refine r_y rfl rfl (y_assign rfl) ?_
    refine r_nil ?_
    refine hK5 _ _ _ ?_
    clear hK5 K5
    refine c_region ?_
    refine r_y rfl rfl (y_move rfl) ?_
    refine r_y rfl rfl (y_move rfl) ?_
    refine r_front 1 rfl ?_
    refine r_front 1 rfl ?_
    refine r_s rfl ?_
    refine s_call0 rfl Try.call60 rfl (put_ok r _ _ _ 8 _ _ hsn (by simp [lim, headL] <;> omega)) ?_
    rintro _ m2 _ hm2 ⟨sw, hsn, rfl⟩
    replace hm := hm.trans hm2
    clear hm2
    refine r_nil ?_
    refine hK4 _ _ _ ?_
    clear hK4 K4
    refine c_region ?_
    first | refine r_y rfl rfl (y_inc rfl (by omega)) ?_ | refine r_y rfl rfl (y_iop rfl rfl rfl) ?_
    refine r_y rfl rfl (y_move rfl) ?_
    refine r_nil ?_
    exact ⟨k0 - 1, (i + 1, sw), by omega, ⟨rfl, rfl, rfl, trivial⟩, (by simp only [List.append_assoc, whead_step h hlt]; rfl), ⟨by omega, by rw [hsn, List.append_assoc, whead_step h hlt]⟩, hm⟩
  ·
    refine c_exit ?_
    refine e_norm 0 hm (res_tmps rfl) ?_
    obtain rfl : i = 12 := by simp at h0; omega
    exact ⟨sv, hsn, rfl⟩
set_option maxRecDepth 100000 in
theorem wmatch_w (r : Nat) (s : Sl) (l : List UInt8) (c : Cube) (n1 n2 n3 n4 : Int) (m : Snap) (H : Hp) (hsn : s.n = l.length) (hfit : l.length + 203 ≤ lim) : Fn Try.prog 114 [.pointer (some ⟨r, 0, none⟩), .agg (encCube c).toArray, .int .i64 n1, .int .i64 n2, .int .i64 n3, .int .i64 n4] m (wItem r s :: vItem s l :: H) (fun v m' H' => ∃ s' : Sl, s'.n = (l ++ wmatch c n1 n2 n3 n4).length ∧ H' = wItem r s' :: vItem s' (l ++ wmatch c n1 n2 n3 n4) :: H) := by
  unfold lim at hfit
  have hm : m.le m := Snap.le.refl m
  refine fn_end Try.func114 rfl rfl rfl ?_
  refine c_seq (fun K0 hK0 => ?_)
  refine c_region ?_
  refine r_s rfl ?_
  refine s_box_a rfl rfl (fun b0 => ?_)
  refine r_nil ?_
  refine hK0 _ _ _ ?_
  clear hK0 K0
  refine c_seq (fun K1 hK1 => ?_)
  refine c_region ?_
  refine r_y rfl rfl (y_move rfl) ?_
  refine r_y rfl rfl (y_fieldAddr rfl At.lit fo29_0 rfl) ?_
  refine r_y rfl rfl (y_load_a (cs := encHead c.value) rfl ts27 (RdA.blk (i := 0) rfl rfl)) ?_
  refine r_front 2 rfl ?_
  refine r_front 2 rfl ?_
  refine r_s rfl ?_
  refine s_call0 rfl Try.call62 rfl (whead_w r _ _ _ _ _ hsn (by simp [lim, headL] <;> omega)) ?_
  rintro _ m2 _ hm2 ⟨sw, hsn, rfl⟩
  replace hm := hm.trans hm2
  clear hm2
  refine r_nil ?_
  refine hK1 _ _ _ ?_
  clear hK1 K1
  refine c_seq (fun K2 hK2 => ?_)
  refine c_region ?_
  refine r_y rfl rfl (y_move rfl) ?_
  refine r_y rfl rfl (y_fieldAddr rfl At.lit fo29_1 rfl) ?_
  refine r_y rfl rfl (y_load_a (cs := encHead c.care) rfl ts27 (RdA.blk (i := 2) rfl rfl)) ?_
  refine r_front 1 rfl ?_
  refine r_front 1 rfl ?_
  refine r_s rfl ?_
  refine s_call0 rfl Try.call62 rfl (whead_w r _ _ _ _ _ hsn (by simp [lim, headL] <;> omega)) ?_
  rintro _ m2 _ hm2 ⟨sw, hsn, rfl⟩
  replace hm := hm.trans hm2
  clear hm2
  refine r_nil ?_
  refine hK2 _ _ _ ?_
  clear hK2 K2
  refine c_seq (fun K3 hK3 => ?_)
  refine c_region ?_
  refine r_y rfl rfl (y_move rfl) ?_
  refine r_y rfl rfl (y_move rfl) ?_
  refine r_y rfl rfl (y_conv_iw rfl un3 un25) ?_
  refine r_front 1 rfl ?_
  refine r_front 1 rfl ?_
  refine r_s rfl ?_
  refine s_call0 rfl Try.call60 rfl (put_ok r _ _ _ 2 _ _ hsn (by simp [lim, headL] <;> omega)) ?_
  rintro _ m2 _ hm2 ⟨sw, hsn, rfl⟩
  replace hm := hm.trans hm2
  clear hm2
  refine r_nil ?_
  refine hK3 _ _ _ ?_
  clear hK3 K3
  refine c_seq (fun K4 hK4 => ?_)
  refine c_region ?_
  refine r_y rfl rfl (y_move rfl) ?_
  refine r_y rfl rfl (y_move rfl) ?_
  refine r_y rfl rfl (y_conv_iw rfl un3 un25) ?_
  refine r_front 1 rfl ?_
  refine r_front 1 rfl ?_
  refine r_s rfl ?_
  refine s_call0 rfl Try.call60 rfl (put_ok r _ _ _ 4 _ _ hsn (by simp [lim, headL] <;> omega)) ?_
  rintro _ m2 _ hm2 ⟨sw, hsn, rfl⟩
  replace hm := hm.trans hm2
  clear hm2
  refine r_nil ?_
  refine hK4 _ _ _ ?_
  clear hK4 K4
  refine c_seq (fun K5 hK5 => ?_)
  refine c_region ?_
  refine r_y rfl rfl (y_move rfl) ?_
  refine r_y rfl rfl (y_move rfl) ?_
  refine r_y rfl rfl (y_conv_iw rfl un3 un25) ?_
  refine r_front 1 rfl ?_
  refine r_front 1 rfl ?_
  refine r_s rfl ?_
  refine s_call0 rfl Try.call60 rfl (put_ok r _ _ _ 4 _ _ hsn (by simp [lim, headL] <;> omega)) ?_
  rintro _ m2 _ hm2 ⟨sw, hsn, rfl⟩
  replace hm := hm.trans hm2
  clear hm2
  refine r_nil ?_
  refine hK5 _ _ _ ?_
  clear hK5 K5
  refine c_region ?_
  refine r_y rfl rfl (y_move rfl) ?_
  refine r_y rfl rfl (y_move rfl) ?_
  refine r_y rfl rfl (y_conv_iw rfl un3 un25) ?_
  refine r_front 1 rfl ?_
  refine r_front 1 rfl ?_
  refine r_s rfl ?_
  refine s_call0 rfl Try.call60 rfl (put_ok r _ _ _ 1 _ _ hsn (by simp [lim, headL] <;> omega)) ?_
  rintro _ m2 _ hm2 ⟨sw, hsn, rfl⟩
  replace hm := hm.trans hm2
  clear hm2
  refine r_nil ?_
  refine e_normf [1, 1, 2] 1 hm (res_tmps rfl) ?_
  exact ⟨sw, by rw [hsn]; simp [wmatch], by simp [wmatch, hdrop]; try rfl⟩
set_option maxRecDepth 100000 in
theorem wacts_w (r : Nat) (s : Sl) (l : List UInt8) (s1 : Sl) (l1 : List ActD) (m : Snap) (H : Hp) (hz : FzA m s1 l1) (hsn : s.n = l.length) (hfit : l.length + (1 + 11 * l1.length) ≤ lim) : Fn Try.prog 115 [.pointer (some ⟨r, 0, none⟩), s1.v] m (wItem r s :: vItem s l :: H) (fun v m' H' => ∃ s' : Sl, s'.n = (l ++ wacts l1).length ∧ H' = wItem r s' :: vItem s' (l ++ wacts l1) :: H) := by
  unfold lim at hfit
  have hl := hz.lenA
  have hmx := hz.max
  have hle := hz.le
  unfold maxLen at hmx
  have hm : m.le m := Snap.le.refl m
  refine fn_end Try.func115 rfl rfl rfl ?_
  refine c_seq (fun K0 hK0 => ?_)
  refine c_region ?_
  refine r_y rfl rfl (y_move rfl) ?_
  refine r_y rfl rfl (y_move rfl) ?_
  refine r_y rfl rfl (y_len tl30 rfl) ?_
  refine r_y rfl rfl (y_conv_iw rfl un3 un25) ?_
  refine r_front 1 rfl ?_
  refine r_front 1 rfl ?_
  refine r_s rfl ?_
  refine s_call0 rfl Try.call60 rfl (put_ok r _ _ _ 1 _ _ hsn (by simp [lim, headL] <;> omega)) ?_
  rintro _ m2 _ hm2 ⟨sw, hsn, rfl⟩
  replace hm := hm.trans hm2
  replace hz := hz.mono hm2
  clear hm2
  refine r_nil ?_
  refine hK0 _ _ _ ?_
  clear hK0 K0
  refine c_seq (fun K1 hK1 => ?_)
  refine c_region ?_
  refine r_y rfl rfl (y_move rfl) ?_
  refine r_y rfl rfl (y_len tl30 rfl) ?_
  refine r_y rfl rfl (y_move rfl) ?_
  refine r_nil ?_
  refine hK1 _ _ _ ?_
  clear hK1 K1
  refine c_block ?_
  refine c_loopx (α := Nat × Sl) (fun vv => match vv with | (i, sv) => [(0, .pointer (some ⟨r, 0, none⟩)), (11, s1.v), (12, .int .i64 (s1.n : Nat)), (13, .int .i64 (i : Nat))]) (fun vv => match vv with | (i, sv) => wItem r sv :: vItem sv ((l ++ wput (iw (s1.n : Nat)) 1) ++ wactsL (l1.take i)) :: H) (fun k0 vv m1 => match vv with | (i, sv) => (i + k0 = s1.n ∧ sv.n = ((l ++ wput (iw (s1.n : Nat)) 1) ++ wactsL (l1.take i)).length) ∧ m.le m1 ∧ (FzA m1 s1 l1)) (s1.n) (0, sw) ⟨rfl, rfl, rfl, rfl, trivial⟩ (by simp only [List.take_zero, wactsL, List.append_nil]; rfl) ⟨⟨by omega, by simpa [wactsL] using hsn⟩, hm, hz⟩ ?_
  clear hm hz
  rintro k0 ⟨i, sv⟩ m1 ⟨hi0, hm, hz⟩
  obtain ⟨hi, hsn⟩ := hi0
  refine c_seq (fun K2 hK2 => ?_)
  refine c_region ?_
  refine r_y rfl rfl (y_iop rfl rfl rfl) ?_
  refine r_nil ?_
  refine hK2 _ _ _ ?_
  clear hK2 K2
  refine c_seq (fun K3 hK3 => ?_)
  refine c_cond rfl (fun h0 => ?_) (fun h0 => ?_)
  ·
    have hlt : i < s1.n := by simp at h0; omega
    obtain ⟨x, hx⟩ := get_of_lt (l := l1) (k := i) (by omega)
    refine c_skip ?_
    refine hK3 _ _ _ ?_
    clear hK3 K3
    refine c_seq (fun K4 hK4 => ?_)
    refine c_block ?_
    refine c_seq (fun K5 hK5 => ?_)
    refine c_region ?_
    refine r_y rfl rfl (y_indexAddr_slice rfl rfl tl30 hlt (At.fz hz hlt)) ?_
    refine r_y rfl rfl (y_load_a rfl ts53 (RdA.fz0 hz (map_get hx))) ?_
    refine r_s rfl ?_
    refine s_alloc rfl tz53 (fun b0 => ?_)
    refine r_s rfl ?_
    refine s_store (us := encAct x) rfl rfl rfl ts53 rfl rfl (one_act _) (i := 0) rfl rfl ?_
    refine r_nil ?_
    refine hK5 _ _ _ ?_
    clear hK5 K5
    refine c_seq (fun K6 hK6 => ?_)
    refine c_region ?_
    refine r_y rfl rfl (y_move rfl) ?_
    refine r_y rfl rfl (y_fieldAddr rfl At.lit fo53_0 rfl) ?_
    refine r_y rfl rfl (y_load_s rfl ts3 (RdS.blk (i := 0) rfl rfl)) ?_
    refine r_y rfl rfl (y_conv_iw rfl un3 un25) ?_
    refine r_front 2 rfl ?_
    refine r_front 2 rfl ?_
    refine r_s rfl ?_
    refine s_call0 rfl Try.call60 rfl (put_ok r _ _ _ 1 _ _ hsn (by simp [lim, headL] <;> omega)) ?_
    rintro _ m2 _ hm2 ⟨sw, hsn, rfl⟩
    replace hm := hm.trans hm2
    replace hz := hz.mono hm2
    clear hm2
    refine r_nil ?_
    refine hK6 _ _ _ ?_
    clear hK6 K6
    refine c_seq (fun K7 hK7 => ?_)
    refine c_region ?_
    refine r_y rfl rfl (y_move rfl) ?_
    refine r_y rfl rfl (y_fieldAddr rfl At.lit fo53_1 rfl) ?_
    refine r_y rfl rfl (y_load_s rfl ts3 (RdS.blk (i := 2) rfl rfl)) ?_
    refine r_y rfl rfl (y_conv_iw rfl un3 un25) ?_
    refine r_front 1 rfl ?_
    refine r_front 1 rfl ?_
    refine r_s rfl ?_
    refine s_call0 rfl Try.call60 rfl (put_ok r _ _ _ 1 _ _ hsn (by simp [lim, headL] <;> omega)) ?_
    rintro _ m2 _ hm2 ⟨sw, hsn, rfl⟩
    replace hm := hm.trans hm2
    replace hz := hz.mono hm2
    clear hm2
    refine r_nil ?_
    refine hK7 _ _ _ ?_
    clear hK7 K7
    refine c_seq (fun K8 hK8 => ?_)
    refine c_region ?_
    refine r_y rfl rfl (y_move rfl) ?_
    refine r_y rfl rfl (y_fieldAddr rfl At.lit fo53_2 rfl) ?_
    refine r_y rfl rfl (y_load_s rfl ts3 (RdS.blk (i := 2) rfl rfl)) ?_
    refine r_y rfl rfl (y_conv_iw rfl un3 un25) ?_
    refine r_front 1 rfl ?_
    refine r_front 1 rfl ?_
    refine r_s rfl ?_
    refine s_call0 rfl Try.call60 rfl (put_ok r _ _ _ 1 _ _ hsn (by simp [lim, headL] <;> omega)) ?_
    rintro _ m2 _ hm2 ⟨sw, hsn, rfl⟩
    replace hm := hm.trans hm2
    replace hz := hz.mono hm2
    clear hm2
    refine r_nil ?_
    refine hK8 _ _ _ ?_
    clear hK8 K8
    refine c_region ?_
    refine r_y rfl rfl (y_move rfl) ?_
    refine r_y rfl rfl (y_fieldAddr rfl At.lit fo53_3 rfl) ?_
    refine r_y rfl rfl (y_load_s rfl ts25 (RdS.blk (i := 2) rfl rfl)) ?_
    refine r_front 1 rfl ?_
    refine r_front 1 rfl ?_
    refine r_s rfl ?_
    refine s_call0 rfl Try.call60 rfl (put_ok r _ _ _ 8 _ _ hsn (by simp [lim, headL] <;> omega)) ?_
    rintro _ m2 _ hm2 ⟨sw, hsn, rfl⟩
    replace hm := hm.trans hm2
    replace hz := hz.mono hm2
    clear hm2
    refine r_nil ?_
    refine hK4 _ _ _ ?_
    clear hK4 K4
    refine c_region ?_
    refine r_del 2 rfl ?_
    first | refine r_y rfl rfl (y_inc rfl (by omega)) ?_ | refine r_y rfl rfl (y_iop rfl rfl rfl) ?_
    refine r_y rfl rfl (y_move rfl) ?_
    refine r_nil ?_
    exact ⟨k0 - 1, (i + 1, sw), by omega, ⟨rfl, rfl, rfl, rfl, trivial⟩, (by simp only [wacts_step hx, List.append_assoc]; rfl), ⟨by omega, by rw [hsn, wacts_step hx]; simp⟩, hm, hz⟩
  ·
    refine c_exit ?_
    refine e_norm 0 hm (res_tmps rfl) ?_
    obtain rfl : i = s1.n := by simp at h0; omega
    have e : (l ++ wput (iw (s1.n : Nat)) 1) ++ wactsL (l1.take s1.n) = l ++ wacts l1 := by rw [List.take_of_length_le (by omega), hl]; simp [wacts]
    exact ⟨sv, by rw [hsn, e], by simp only [e]; rfl⟩
set_option maxRecDepth 100000 in
theorem wmod_w (r : Nat) (s : Sl) (l : List UInt8) (x : ModD) (sm : Sl) (m : Snap) (H : Hp) (hz : FzA m sm x.acts) (hsn : s.n = l.length) (hfit : l.length + (206 + 11 * x.acts.length) ≤ lim) : Fn Try.prog 61 [.pointer (some ⟨r, 0, none⟩), .agg (encMod x sm).toArray] m (wItem r s :: vItem s l :: H) (fun v m' H' => ∃ s' : Sl, s'.n = (l ++ wmod x).length ∧ H' = wItem r s' :: vItem s' (l ++ wmod x) :: H) := by
  unfold lim at hfit
  have hm : m.le m := Snap.le.refl m
  refine fn_end Try.func61 rfl rfl rfl ?_
  refine c_seq (fun K0 hK0 => ?_)
  refine c_region ?_
  refine r_s rfl ?_
  refine s_box_a rfl rfl (fun b0 => ?_)
  refine r_nil ?_
  refine hK0 _ _ _ ?_
  clear hK0 K0
  refine c_seq (fun K1 hK1 => ?_)
  refine c_region ?_
  refine r_y rfl rfl (y_move rfl) ?_
  refine r_y rfl rfl (y_fieldAddr rfl At.lit fo32_0 rfl) ?_
  refine r_y rfl rfl (y_load_s rfl ts3 (RdS.blk (i := 0) rfl rfl)) ?_
  refine r_y rfl rfl (y_conv_iw rfl un3 un25) ?_
  refine r_front 2 rfl ?_
  refine r_front 2 rfl ?_
  refine r_s rfl ?_
  refine s_call0 rfl Try.call60 rfl (put_ok r _ _ _ 1 _ _ hsn (by simp [lim, headL] <;> omega)) ?_
  rintro _ m2 _ hm2 ⟨sw, hsn, rfl⟩
  replace hm := hm.trans hm2
  replace hz := hz.mono hm2
  clear hm2
  refine r_nil ?_
  refine hK1 _ _ _ ?_
  clear hK1 K1
  refine c_seq (fun K2 hK2 => ?_)
  refine c_region ?_
  refine r_y rfl rfl (y_move rfl) ?_
  refine r_y rfl rfl (y_fieldAddr rfl At.lit fo32_1 rfl) ?_
  refine r_y rfl rfl (y_load_a (cs := encCube x.m) rfl ts29 (RdA.blk (i := 2) rfl rfl)) ?_
  refine r_y rfl rfl (y_fieldAddr rfl At.lit fo32_2 rfl) ?_
  refine r_y rfl rfl (y_load_s rfl ts3 (RdS.blk (i := 2) rfl rfl)) ?_
  refine r_y rfl rfl (y_fieldAddr rfl At.lit fo32_4 rfl) ?_
  refine r_y rfl rfl (y_load_s rfl ts3 (RdS.blk (i := 2) rfl rfl)) ?_
  refine r_y rfl rfl (y_fieldAddr rfl At.lit fo32_5 rfl) ?_
  refine r_y rfl rfl (y_load_s rfl ts3 (RdS.blk (i := 2) rfl rfl)) ?_
  refine r_y rfl rfl (y_fieldAddr rfl At.lit fo32_6 rfl) ?_
  refine r_y rfl rfl (y_load_s rfl ts3 (RdS.blk (i := 2) rfl rfl)) ?_
  refine r_front 1 rfl ?_
  refine r_front 1 rfl ?_
  refine r_s rfl ?_
  refine s_call0 rfl Try.call114 rfl (wmatch_w r _ _ _ _ _ _ _ _ _ hsn (by simp [lim, headL] <;> omega)) ?_
  rintro _ m2 _ hm2 ⟨sw, hsn, rfl⟩
  replace hm := hm.trans hm2
  replace hz := hz.mono hm2
  clear hm2
  refine r_nil ?_
  refine hK2 _ _ _ ?_
  clear hK2 K2
  refine c_seq (fun K3 hK3 => ?_)
  refine c_region ?_
  refine r_y rfl rfl (y_assign rfl) ?_
  refine r_nil ?_
  refine hK3 _ _ _ ?_
  clear hK3 K3
  refine c_seq (fun K4 hK4 => ?_)
  refine c_seq (fun K5 hK5 => ?_)
  refine c_region ?_
  refine r_y rfl rfl (y_fieldAddr rfl At.lit fo32_7 rfl) ?_
  refine r_y rfl rfl (y_load_s rfl ts4 (RdS.blk (i := 2) rfl rfl)) ?_
  refine r_nil ?_
  refine hK5 _ _ _ ?_
  clear hK5 K5
  refine c_cond rfl (fun h0 => ?_) (fun h0 => ?_)
  ·
    refine c_region ?_
    refine r_y rfl rfl (y_assign rfl) ?_
    refine r_nil ?_
    refine hK4 _ _ _ ?_
    clear hK4 K4
    refine c_seq (fun K6 hK6 => ?_)
    refine c_region ?_
    refine r_y rfl rfl (y_move rfl) ?_
    refine r_y rfl rfl (y_move rfl) ?_
    refine r_front 1 rfl ?_
    refine r_front 1 rfl ?_
    refine r_s rfl ?_
    refine s_call0 rfl Try.call60 rfl (put_ok r _ _ (1#64) 1 _ _ hsn (by simp [lim, headL] <;> omega)) ?_
    rintro _ m2 _ hm2 ⟨sw, hsn, rfl⟩
    replace hm := hm.trans hm2
    replace hz := hz.mono hm2
    clear hm2
    refine r_nil ?_
    refine hK6 _ _ _ ?_
    clear hK6 K6
    refine c_region ?_
    refine r_y rfl rfl (y_move rfl) ?_
    refine r_y rfl rfl (y_fieldAddr rfl At.lit fo32_3 rfl) ?_
    refine r_y rfl rfl (y_load_s rfl ts30 (RdS.blk (i := 2) rfl rfl)) ?_
    refine r_front 1 rfl ?_
    refine r_front 1 rfl ?_
    refine r_s rfl ?_
    refine s_call0 rfl Try.call115 rfl (wacts_w r _ _ _ (x.acts) _ _ (hz) hsn (by simp [lim, headL] <;> omega)) ?_
    rintro _ m2 _ hm2 ⟨sw, hsn, rfl⟩
    replace hm := hm.trans hm2
    replace hz := hz.mono hm2
    clear hm2
    refine r_nil ?_
    refine e_normf [1, 1, 2] 1 hm (res_tmps rfl) ?_
    exact ⟨sw, by rw [hsn]; simp [wmod, h0], by simp [wmod, hdrop, h0]; try rfl⟩
  ·
    refine c_skip ?_
    refine hK4 _ _ _ ?_
    clear hK4 K4
    refine c_seq (fun K7 hK7 => ?_)
    refine c_region ?_
    refine r_y rfl rfl (y_move rfl) ?_
    refine r_y rfl rfl (y_move rfl) ?_
    refine r_front 1 rfl ?_
    refine r_front 1 rfl ?_
    refine r_s rfl ?_
    refine s_call0 rfl Try.call60 rfl (put_ok r _ _ (0#64) 1 _ _ hsn (by simp [lim, headL] <;> omega)) ?_
    rintro _ m2 _ hm2 ⟨sw, hsn, rfl⟩
    replace hm := hm.trans hm2
    replace hz := hz.mono hm2
    clear hm2
    refine r_nil ?_
    refine hK7 _ _ _ ?_
    clear hK7 K7
    refine c_region ?_
    refine r_y rfl rfl (y_move rfl) ?_
    refine r_y rfl rfl (y_fieldAddr rfl At.lit fo32_3 rfl) ?_
    refine r_y rfl rfl (y_load_s rfl ts30 (RdS.blk (i := 2) rfl rfl)) ?_
    refine r_front 1 rfl ?_
    refine r_front 1 rfl ?_
    refine r_s rfl ?_
    refine s_call0 rfl Try.call115 rfl (wacts_w r _ _ _ (x.acts) _ _ (hz) hsn (by simp [lim, headL] <;> omega)) ?_
    rintro _ m2 _ hm2 ⟨sw, hsn, rfl⟩
    replace hm := hm.trans hm2
    replace hz := hz.mono hm2
    clear hm2
    refine r_nil ?_
    refine e_normf [1, 1, 2] 1 hm (res_tmps rfl) ?_
    exact ⟨sw, by rw [hsn]; simp [wmod, h0], by simp [wmod, hdrop, h0]; try rfl⟩
set_option maxRecDepth 100000 in
theorem wrules_w (r : Nat) (s : Sl) (l : List UInt8) (s1 : Sl) (l1 : List (RuleD × Sl)) (m : Snap) (H : Hp) (hz : FzR m s1 l1) (hact : ∀ x ∈ l1.map (·.1), x.acts.length ≤ 8) (hsn : s.n = l.length) (hfit : l.length + (2 + 316 * l1.length) ≤ lim) : Fn Try.prog 63 [.pointer (some ⟨r, 0, none⟩), s1.v] m (wItem r s :: vItem s l :: H) (fun v m' H' => ∃ s' : Sl, s'.n = (l ++ wrules (l1.map (·.1))).length ∧ H' = wItem r s' :: vItem s' (l ++ wrules (l1.map (·.1))) :: H) := by
  unfold lim at hfit
  have hl := hz.len
  have hmx := hz.fz.max
  have hle := hz.fz.le
  unfold maxLen at hmx
  have hm : m.le m := Snap.le.refl m
  refine fn_end Try.func63 rfl rfl rfl ?_
  refine c_seq (fun K0 hK0 => ?_)
  refine c_region ?_
  refine r_y rfl rfl (y_move rfl) ?_
  refine r_y rfl rfl (y_move rfl) ?_
  refine r_y rfl rfl (y_len tl33 rfl) ?_
  refine r_y rfl rfl (y_conv_iw rfl un3 un25) ?_
  refine r_front 1 rfl ?_
  refine r_front 1 rfl ?_
  refine r_s rfl ?_
  refine s_call0 rfl Try.call60 rfl (put_ok r _ _ _ 2 _ _ hsn (by simp [lim, headL] <;> omega)) ?_
  rintro _ m2 _ hm2 ⟨sw, hsn, rfl⟩
  replace hm := hm.trans hm2
  replace hz := hz.mono hm2
  clear hm2
  refine r_nil ?_
  refine hK0 _ _ _ ?_
  clear hK0 K0
  refine c_seq (fun K1 hK1 => ?_)
  refine c_region ?_
  refine r_y rfl rfl (y_move rfl) ?_
  refine r_y rfl rfl (y_len tl33 rfl) ?_
  refine r_y rfl rfl (y_move rfl) ?_
  refine r_nil ?_
  refine hK1 _ _ _ ?_
  clear hK1 K1
  refine c_block ?_
  refine c_loopx (α := Nat × Sl) (fun vv => match vv with | (i, sv) => [(0, .pointer (some ⟨r, 0, none⟩)), (13, s1.v), (14, .int .i64 (s1.n : Nat)), (15, .int .i64 (i : Nat))]) (fun vv => match vv with | (i, sv) => wItem r sv :: vItem sv ((l ++ wput (iw (s1.n : Nat)) 2) ++ wrulesL ((l1.map (·.1)).take i)) :: H) (fun k0 vv m1 => match vv with | (i, sv) => (i + k0 = s1.n ∧ sv.n = ((l ++ wput (iw (s1.n : Nat)) 2) ++ wrulesL ((l1.map (·.1)).take i)).length) ∧ m.le m1 ∧ (FzR m1 s1 l1)) (s1.n) (0, sw) ⟨rfl, rfl, rfl, rfl, trivial⟩ (by simp only [List.take_zero, wrulesL, List.append_nil]; rfl) ⟨⟨by omega, by simpa [wrulesL] using hsn⟩, hm, hz⟩ ?_
  clear hm hz
  rintro k0 ⟨i, sv⟩ m1 ⟨hi0, hm, hz⟩
  obtain ⟨hi, hsn⟩ := hi0
  have hbd := wrulesL_take (k := 8) i hact
  refine c_seq (fun K2 hK2 => ?_)
  refine c_region ?_
  refine r_y rfl rfl (y_iop rfl rfl rfl) ?_
  refine r_nil ?_
  refine hK2 _ _ _ ?_
  clear hK2 K2
  refine c_seq (fun K3 hK3 => ?_)
  refine c_cond rfl (fun h0 => ?_) (fun h0 => ?_)
  ·
    have hlt : i < s1.n := by simp at h0; omega
    obtain ⟨x, hx⟩ := get_of_lt (l := l1) (k := i) (by omega)
    have hx1 : (l1.map (·.1))[i]? = some x.1 := map_get hx
    have hxa := hact x.1 (List.mem_of_getElem? hx1)
    refine c_skip ?_
    refine hK3 _ _ _ ?_
    clear hK3 K3
    refine c_seq (fun K4 hK4 => ?_)
    refine c_block ?_
    refine c_seq (fun K5 hK5 => ?_)
    refine c_region ?_
    refine r_y rfl rfl (y_indexAddr_slice rfl rfl tl33 hlt (At.fz hz.fz hlt)) ?_
    refine r_y rfl rfl (y_load_a rfl ts50 (RdA.fz0 hz.fz (map_get hx))) ?_
    refine r_s rfl ?_
    refine s_alloc rfl tz50 (fun b0 => ?_)
    refine r_s rfl ?_
    refine s_store (us := encRule x.1 x.2) rfl rfl rfl ts50 rfl rfl (one_rule _ _) (i := 0) rfl rfl ?_
    refine r_nil ?_
    refine hK5 _ _ _ ?_
    clear hK5 K5
    refine c_seq (fun K6 hK6 => ?_)
    refine c_region ?_
    refine r_y rfl rfl (y_move rfl) ?_
    refine r_y rfl rfl (y_fieldAddr rfl At.lit fo50_0 rfl) ?_
    refine r_y rfl rfl (y_load_a (cs := encCube x.1.m) rfl ts29 (RdA.blk (i := 0) rfl rfl)) ?_
    refine r_y rfl rfl (y_fieldAddr rfl At.lit fo50_1 rfl) ?_
    refine r_y rfl rfl (y_load_s rfl ts3 (RdS.blk (i := 0) rfl rfl)) ?_
    refine r_y rfl rfl (y_fieldAddr rfl At.lit fo50_3 rfl) ?_
    refine r_y rfl rfl (y_load_s rfl ts3 (RdS.blk (i := 0) rfl rfl)) ?_
    refine r_y rfl rfl (y_fieldAddr rfl At.lit fo50_4 rfl) ?_
    refine r_y rfl rfl (y_load_s rfl ts3 (RdS.blk (i := 0) rfl rfl)) ?_
    refine r_y rfl rfl (y_fieldAddr rfl At.lit fo50_5 rfl) ?_
    refine r_y rfl rfl (y_load_s rfl ts3 (RdS.blk (i := 0) rfl rfl)) ?_
    refine r_front 2 rfl ?_
    refine r_front 2 rfl ?_
    refine r_s rfl ?_
    refine s_call0 rfl Try.call114 rfl (wmatch_w r _ _ _ _ _ _ _ _ _ hsn (by simp [lim, headL] <;> omega)) ?_
    rintro _ m2 _ hm2 ⟨sw, hsn, rfl⟩
    replace hm := hm.trans hm2
    replace hz := hz.mono hm2
    clear hm2
    refine r_nil ?_
    refine hK6 _ _ _ ?_
    clear hK6 K6
    refine c_seq (fun K7 hK7 => ?_)
    refine c_seq (fun K8 hK8 => ?_)
    refine c_region ?_
    refine r_y rfl rfl (y_fieldAddr rfl At.lit fo50_6 rfl) ?_
    refine r_y rfl rfl (y_load_s rfl ts3 (RdS.blk (i := 2) rfl rfl)) ?_
    refine r_y rfl rfl (y_fieldAddr rfl At.lit fo50_7 rfl) ?_
    refine r_y rfl rfl (y_load_s rfl ts3 (RdS.blk (i := 2) rfl rfl)) ?_
    refine r_y rfl rfl (y_fieldAddr rfl At.lit fo50_8 rfl) ?_
    refine r_y rfl rfl (y_load_s rfl ts3 (RdS.blk (i := 2) rfl rfl)) ?_
    refine r_y rfl rfl (y_bld rfl tz155 fk155 bp155_0_1_2 rfl rfl) ?_
    refine r_y rfl rfl (y_move rfl) ?_
    refine r_nil ?_
    refine hK8 _ _ _ ?_
    clear hK8 K8
    refine c_block ?_
    refine c_loopx (α := Nat × Sl) (fun vv => match vv with | (j, sv2) => [(0, .pointer (some ⟨r, 0, none⟩)), (5, .pointer (some ⟨b0, 0, none⟩)), (13, s1.v), (14, .int .i64 (s1.n : Nat)), (15, .int .i64 (i : Nat)), (37, .agg ([x.1.hits, x.1.quiet, x.1.age].map i64).toArray), (38, .int .i64 (j : Nat))]) (fun vv => match vv with | (j, sv2) => wItem r sv2 :: vItem sv2 ((((l ++ wput (iw (s1.n : Nat)) 2) ++ wrulesL ((l1.map (·.1)).take i)) ++ wmatch x.1.m x.1.prio x.1.idle x.1.hard x.1.owner) ++ wputs 8 (([x.1.hits, x.1.quiet, x.1.age].take j).map iw)) :: .blk b0 (.cells (encRule x.1 x.2).toArray 50) :: H) (fun k1 vv m1 => match vv with | (j, sv2) => (j + k1 = 3 ∧ sv2.n = ((((l ++ wput (iw (s1.n : Nat)) 2) ++ wrulesL ((l1.map (·.1)).take i)) ++ wmatch x.1.m x.1.prio x.1.idle x.1.hard x.1.owner) ++ wputs 8 (([x.1.hits, x.1.quiet, x.1.age].take j).map iw)).length) ∧ m.le m1 ∧ (FzR m1 s1 l1)) (3) (0, sw) ⟨rfl, rfl, rfl, rfl, rfl, rfl, rfl, trivial⟩ (by simp only [List.take_zero, List.map_nil, wputs, List.append_nil]; rfl) ⟨⟨by omega, by simpa [wputs] using hsn⟩, hm, hz⟩ ?_
    clear hm hz
    rintro k1 ⟨j, sv2⟩ m1 ⟨hi1, hm, hz⟩
    obtain ⟨hj, hsn⟩ := hi1
    refine c_seq (fun K9 hK9 => ?_)
    refine c_region ?_
    refine r_y rfl rfl (y_iop rfl rfl rfl) ?_
    refine r_nil ?_
    refine hK9 _ _ _ ?_
    clear hK9 K9
    refine c_seq (fun K10 hK10 => ?_)
    refine c_cond rfl (fun h1 => ?_) (fun h1 => ?_)
    ·
      have hltj : j < 3 := by simp at h1; omega
      obtain ⟨y, hy⟩ := get_of_lt (l := [x.1.hits, x.1.quiet, x.1.age]) (k := j) (by simpa using hltj)
      refine c_skip ?_
      refine hK10 _ _ _ ?_
      clear hK10 K10
      refine c_seq (fun K11 hK11 => ?_)
      refine c_block ?_
      refine c_seq (fun K12 hK12 => ?_)
      refine c_region ?_
      refine r_y rfl rfl (y_index_arr rfl rfl ta155 hltj (cget_ints hy)) ?_
      refine r_y rfl rfl (y_assign rfl) ?_
      refine r_nil ?_
      refine hK12 _ _ _ ?_
      clear hK12 K12
      refine c_region ?_
      refine r_y rfl rfl (y_move rfl) ?_
      refine r_y rfl rfl (y_move rfl) ?_
      refine r_y rfl rfl (y_conv_iw rfl un3 un25) ?_
      refine r_front 1 rfl ?_
      refine r_front 1 rfl ?_
      refine r_s rfl ?_
      refine s_call0 rfl Try.call60 rfl (put_ok r _ _ _ 8 _ _ hsn (by simp [lim, headL] <;> omega)) ?_
      rintro _ m2 _ hm2 ⟨sw, hsn, rfl⟩
      replace hm := hm.trans hm2
      replace hz := hz.mono hm2
      clear hm2
      refine r_nil ?_
      refine hK11 _ _ _ ?_
      clear hK11 K11
      refine c_region ?_
      first | refine r_y rfl rfl (y_inc rfl (by omega)) ?_ | refine r_y rfl rfl (y_iop rfl rfl rfl) ?_
      refine r_y rfl rfl (y_move rfl) ?_
      refine r_nil ?_
      exact ⟨k1 - 1, (j + 1, sw), by omega, ⟨rfl, rfl, rfl, rfl, rfl, rfl, rfl, trivial⟩, (by simp only [wputs_step hy, List.append_assoc]; rfl), ⟨by omega, by rw [hsn, wputs_step hy]; simp⟩, hm, hz⟩
    ·
      obtain rfl : j = 3 := by simp at h1; omega
      refine c_exit ?_
      refine hK7 _ _ _ ?_
      clear hK10 K10 hK7 K7
      refine c_region ?_
      refine r_y rfl rfl (y_move rfl) ?_
      refine r_y rfl rfl (y_fieldAddr rfl At.lit fo50_2 rfl) ?_
      refine r_y rfl rfl (y_load_s rfl ts30 (RdS.blk (i := 2) rfl rfl)) ?_
      refine r_front 1 rfl ?_
      refine r_front 1 rfl ?_
      refine r_s rfl ?_
      refine s_call0 rfl Try.call115 rfl (wacts_w r _ _ _ (x.1.acts) _ _ ((hz.acts x (List.mem_of_getElem? hx)).1) hsn (by simp [lim, headL] <;> omega)) ?_
      rintro _ m2 _ hm2 ⟨sw, hsn, rfl⟩
      replace hm := hm.trans hm2
      replace hz := hz.mono hm2
      clear hm2
      refine r_nil ?_
      refine hK4 _ _ _ ?_
      clear hK4 K4
      refine c_region ?_
      refine r_del 2 rfl ?_
      first | refine r_y rfl rfl (y_inc rfl (by omega)) ?_ | refine r_y rfl rfl (y_iop rfl rfl rfl) ?_
      refine r_y rfl rfl (y_move rfl) ?_
      refine r_nil ?_
      exact ⟨k0 - 1, (i + 1, sw), by omega, ⟨rfl, rfl, rfl, rfl, trivial⟩, (by simp only [wrules_step hx1, wrule, List.append_assoc]; rfl), ⟨by omega, by rw [hsn, wrules_step hx1]; simp [wrule]⟩, hm, hz⟩
  ·
    refine c_exit ?_
    refine e_norm 0 hm (res_tmps rfl) ?_
    obtain rfl : i = s1.n := by simp at h0; omega
    have e : (l ++ wput (iw (s1.n : Nat)) 2) ++ wrulesL ((l1.map (·.1)).take s1.n) = l ++ wrules (l1.map (·.1)) := by rw [List.take_of_length_le (by simp; omega), hl]; simp [wrules]
    exact ⟨sv, by rw [hsn, e], by simp only [e]; rfl⟩
end Go.Aw
