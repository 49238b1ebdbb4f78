import Derived.Test.YtafleomjmjjlbaaT9
import Derived.Test.YtafleomjmjjlbaaData6
namespace Go.Aw
open Go Go.Proofs
theorem fo106_2 : fieldOff Try.prog 106 2 = some 2 := by kernel_rfl
theorem fo106_1 : fieldOff Try.prog 106 1 = some 1 := by kernel_rfl
theorem fo106_0 : fieldOff Try.prog 106 0 = some 0 := by kernel_rfl
set_option maxRecDepth 100000 in
theorem eget_w (r : Nat) (s : Sl) (l : List UInt8) (q : Rs) (k : Nat) (m : Snap) (H : Hp) (hz : FzB m s l) (hs : Suf l q) (hL : l.length ≤ 4611686018427387904) (hk64 : k ≤ 64) : Fn Try.prog 57 [.pointer (some ⟨r, 0, none⟩), .int .i64 (k : Nat)] m (eyItem r s l q :: H) (fun v _ H' => v = wv (rget k q).1 ∧ H' = eyItem r s l (rget k q).2 :: H) := by
  have hl := Fz.lenB hz
  have hmx := hz.max
  have hle := hz.le
  unfold maxLen at hmx
  have hs1 := hs.1
  have hm : m.le m := Snap.le.refl m
  refine fn_end Try.func57 rfl rfl rfl ?_
  refine c_seq (fun K0 hK0 => ?_)
  refine c_region ?_
  refine r_y rfl rfl (y_assign rfl) ?_
  refine r_nil ?_
  refine hK0 _ _ _ ?_
  clear hK0 K0
  refine c_seq (fun K1 hK1 => ?_)
  refine c_seq (fun K2 hK2 => ?_)
  refine c_draw ([eyItem r s l (q)]) (by kernel_rfl) (fun hg => ?_)
  have hz_g := hz
  refine g_y (i := 0) (listed' := #[true, false, false, false, false, false, false, false, false, false, false, false, false, false, false, false, false, false]) rfl (by kernel_rfl) (by kernel_rfl) (by kernel_rfl) (by kernel_rfl) rfl rfl hg (allc (List.Mem.head _) alln) (fun m' H' hm' hX' => y_move rfl) ?_
  refine g_y (i := 1) (listed' := #[true, true, false, false, false, false, false, false, false, false, false, false, false, false, false, false, false, false]) rfl (by kernel_rfl) (by kernel_rfl) (by kernel_rfl) (by kernel_rfl) rfl rfl hg (allc (List.Mem.head _) alln) (fun m' H' hm' hX' => y_nilCheck rfl) ?_
  refine g_y (i := 2) (listed' := #[true, true, true, false, false, false, false, false, false, false, false, false, false, false, false, false, false, false]) rfl (by kernel_rfl) (by kernel_rfl) (by kernel_rfl) (by kernel_rfl) rfl rfl hg (allc (List.Mem.head _) alln) (fun m' H' hm' hX' => y_fieldAddr rfl At.lit fo106_2 rfl) ?_
  refine g_y (i := 3) (listed' := #[true, true, true, true, false, false, false, false, false, false, false, false, false, false, false, false, false, false]) rfl (by kernel_rfl) (by kernel_rfl) (by kernel_rfl) (by kernel_rfl) rfl rfl hg (allc (List.Mem.head _) alln) (fun m' H' hm' hX' => y_load_s rfl ts4 (RdS.mem (hX' _ (List.Mem.head _)) rfl)) ?_
  refine g_y (i := 4) (listed' := #[true, true, true, true, true, false, false, false, false, false, false, false, false, false, false, false, false, false]) rfl (by kernel_rfl) (by kernel_rfl) (by kernel_rfl) (by kernel_rfl) rfl rfl hg (allc (List.Mem.head _) alln) (fun m' H' hm' hX' => y_move rfl) ?_
  refine g_split (j := 4) rfl (fun h0 => ?_) (fun h0 => ?_)
  ·
    refine g_no (i := 5) (listed' := #[true, true, true, true, true, true, false, false, false, false, false, false, false, false, false, false, false, false]) rfl (by kernel_rfl) (by kernel_rfl) (by kernel_rfl) (by kernel_rfl) rfl rfl h0 rfl hg (allc (List.Mem.head _) alln) ?_
    refine g_no (i := 6) (listed' := #[true, true, true, true, true, true, true, false, false, false, false, false, false, false, false, false, false, false]) rfl (by kernel_rfl) (by kernel_rfl) (by kernel_rfl) (by kernel_rfl) rfl rfl h0 rfl hg (allc (List.Mem.head _) alln) ?_
    refine g_no (i := 7) (listed' := #[true, true, true, true, true, true, true, true, false, false, false, false, false, false, false, false, false, false]) rfl (by kernel_rfl) (by kernel_rfl) (by kernel_rfl) (by kernel_rfl) rfl rfl h0 rfl hg (allc (List.Mem.head _) alln) ?_
    refine g_no (i := 8) (listed' := #[true, true, true, true, true, true, true, true, true, false, false, false, false, false, false, false, false, false]) rfl (by kernel_rfl) (by kernel_rfl) (by kernel_rfl) (by kernel_rfl) rfl rfl h0 rfl hg (allc (List.Mem.head _) alln) ?_
    refine g_no (i := 9) (listed' := #[true, true, true, true, true, true, true, true, true, true, false, false, false, false, false, false, false, false]) rfl (by kernel_rfl) (by kernel_rfl) (by kernel_rfl) (by kernel_rfl) rfl rfl h0 rfl hg (allc (List.Mem.head _) alln) ?_
    refine g_no (i := 10) (listed' := #[true, true, true, true, true, true, true, true, true, true, true, false, false, false, false, false, false, false]) rfl (by kernel_rfl) (by kernel_rfl) (by kernel_rfl) (by kernel_rfl) rfl rfl h0 rfl hg (allc (List.Mem.head _) alln) ?_
    refine g_no (i := 11) (listed' := #[true, true, true, true, true, true, true, true, true, true, true, true, false, false, false, false, false, false]) rfl (by kernel_rfl) (by kernel_rfl) (by kernel_rfl) (by kernel_rfl) rfl rfl h0 rfl hg (allc (List.Mem.head _) alln) ?_
    refine g_no (i := 12) (listed' := #[true, true, true, true, true, true, true, true, true, true, true, true, true, false, false, false, false, false]) rfl (by kernel_rfl) (by kernel_rfl) (by kernel_rfl) (by kernel_rfl) rfl rfl h0 rfl hg (allc (List.Mem.head _) alln) ?_
    refine g_no (i := 13) (listed' := #[true, true, true, true, true, true, true, true, true, true, true, true, true, true, false, false, false, false]) rfl (by kernel_rfl) (by kernel_rfl) (by kernel_rfl) (by kernel_rfl) rfl rfl h0 rfl hg (allc (List.Mem.head _) alln) ?_
    refine g_no (i := 14) (listed' := #[true, true, true, true, true, true, true, true, true, true, true, true, true, true, true, false, false, false]) rfl (by kernel_rfl) (by kernel_rfl) (by kernel_rfl) (by kernel_rfl) rfl rfl h0 rfl hg (allc (List.Mem.head _) alln) ?_
    refine g_no (i := 15) (listed' := #[true, true, true, true, true, true, true, true, true, true, true, true, true, true, true, true, false, false]) rfl (by kernel_rfl) (by kernel_rfl) (by kernel_rfl) (by kernel_rfl) rfl rfl h0 rfl hg (allc (List.Mem.head _) alln) ?_
    refine g_no (i := 16) (listed' := #[true, true, true, true, true, true, true, true, true, true, true, true, true, true, true, true, true, false]) rfl (by kernel_rfl) (by kernel_rfl) (by kernel_rfl) (by kernel_rfl) rfl rfl h0 rfl hg (allc (List.Mem.head _) alln) ?_
    refine g_y (i := 17) (listed' := #[true, true, true, true, true, true, true, true, true, true, true, true, true, true, true, true, true, true]) rfl (by kernel_rfl) (by kernel_rfl) (by kernel_rfl) (by kernel_rfl) rfl rfl hg (allc (List.Mem.head _) alln) (fun m' H' hm' hX' => y_pickt rfl h0 rfl) ?_
    refine g_done (by kernel_rfl) ?_
    clear hg hz_g
    refine hK2 _ _ _ ?_
    clear hK2 K2
    refine c_ift rfl rfl ?_
    refine c_seq (fun K3 hK3 => ?_)
    refine c_region ?_
    refine r_y rfl rfl (y_move rfl) ?_
    refine r_y rfl rfl (y_nilCheck rfl) ?_
    refine r_y rfl rfl (y_fieldAddr rfl At.lit fo106_2 rfl) ?_
    refine r_s rfl ?_
    refine s_store rfl rfl rfl ts4 rfl rfl (by simp [Value.oneCell', wv, Sl.v]) (i := 0) rfl rfl ?_
    refine r_nil ?_
    refine hK3 _ _ _ ?_
    clear hK3 K3
    refine c_seq (fun K4 hK4 => ?_)
    refine c_region ?_
    refine r_y rfl rfl (y_assign rfl) ?_
    refine r_nil ?_
    refine hK4 _ _ _ ?_
    clear hK4 K4
    refine c_ret ?_
    refine e_ret 0 hm (res_tmps rfl) ?_
    rw [rget_no (by first | (simp [h0]; done) | (simp at h1; simp; omega))]
    exact ⟨rfl, rfl⟩
  ·
    refine g_yg (i := 5) (listed' := #[true, true, true, true, true, true, false, false, false, false, false, false, false, false, false, false, false, false]) rfl (by kernel_rfl) (by kernel_rfl) (by kernel_rfl) (by kernel_rfl) rfl rfl h0 rfl hg (allc (List.Mem.head _) alln) (fun m' H' hm' hX' => y_move rfl) ?_
    refine g_yg (i := 6) (listed' := #[true, true, true, true, true, true, true, false, false, false, false, false, false, false, false, false, false, false]) rfl (by kernel_rfl) (by kernel_rfl) (by kernel_rfl) (by kernel_rfl) rfl rfl h0 rfl hg (allc (List.Mem.head _) alln) (fun m' H' hm' hX' => y_nilCheck rfl) ?_
    refine g_yg (i := 7) (listed' := #[true, true, true, true, true, true, true, true, false, false, false, false, false, false, false, false, false, false]) rfl (by kernel_rfl) (by kernel_rfl) (by kernel_rfl) (by kernel_rfl) rfl rfl h0 rfl hg (allc (List.Mem.head _) alln) (fun m' H' hm' hX' => y_fieldAddr rfl At.lit fo106_1 rfl) ?_
    refine g_yg (i := 8) (listed' := #[true, true, true, true, true, true, true, true, true, false, false, false, false, false, false, false, false, false]) rfl (by kernel_rfl) (by kernel_rfl) (by kernel_rfl) (by kernel_rfl) rfl rfl h0 rfl hg (allc (List.Mem.head _) alln) (fun m' H' hm' hX' => y_load_s rfl ts3 (RdS.mem (hX' _ (List.Mem.head _)) rfl)) ?_
    refine g_yg (i := 9) (listed' := #[true, true, true, true, true, true, true, true, true, true, false, false, false, false, false, false, false, false]) rfl (by kernel_rfl) (by kernel_rfl) (by kernel_rfl) (by kernel_rfl) rfl rfl h0 rfl hg (allc (List.Mem.head _) alln) (fun m' H' hm' hX' => y_move rfl) ?_
    refine g_yg (i := 10) (listed' := #[true, true, true, true, true, true, true, true, true, true, true, false, false, false, false, false, false, false]) rfl (by kernel_rfl) (by kernel_rfl) (by kernel_rfl) (by kernel_rfl) rfl rfl h0 rfl hg (allc (List.Mem.head _) alln) (fun m' H' hm' hX' => y_addn rfl rfl (by omega)) ?_
    refine g_yg (i := 11) (listed' := #[true, true, true, true, true, true, true, true, true, true, true, true, false, false, false, false, false, false]) rfl (by kernel_rfl) (by kernel_rfl) (by kernel_rfl) (by kernel_rfl) rfl rfl h0 rfl hg (allc (List.Mem.head _) alln) (fun m' H' hm' hX' => y_move rfl) ?_
    refine g_yg (i := 12) (listed' := #[true, true, true, true, true, true, true, true, true, true, true, true, true, false, false, false, false, false]) rfl (by kernel_rfl) (by kernel_rfl) (by kernel_rfl) (by kernel_rfl) rfl rfl h0 rfl hg (allc (List.Mem.head _) alln) (fun m' H' hm' hX' => y_nilCheck rfl) ?_
    refine g_yg (i := 13) (listed' := #[true, true, true, true, true, true, true, true, true, true, true, true, true, true, false, false, false, false]) rfl (by kernel_rfl) (by kernel_rfl) (by kernel_rfl) (by kernel_rfl) rfl rfl h0 rfl hg (allc (List.Mem.head _) alln) (fun m' H' hm' hX' => y_fieldAddr rfl At.lit fo106_0 rfl) ?_
    refine g_yg (i := 14) (listed' := #[true, true, true, true, true, true, true, true, true, true, true, true, true, true, true, false, false, false]) rfl (by kernel_rfl) (by kernel_rfl) (by kernel_rfl) (by kernel_rfl) rfl rfl h0 rfl hg (allc (List.Mem.head _) alln) (fun m' H' hm' hX' => y_load_s rfl ts22 (RdS.mem (hX' _ (List.Mem.head _)) rfl)) ?_
    refine g_yg (i := 15) (listed' := #[true, true, true, true, true, true, true, true, true, true, true, true, true, true, true, true, false, false]) rfl (by kernel_rfl) (by kernel_rfl) (by kernel_rfl) (by kernel_rfl) rfl rfl h0 rfl hg (allc (List.Mem.head _) alln) (fun m' H' hm' hX' => y_len tl22 rfl) ?_
    refine g_yg (i := 16) (listed' := #[true, true, true, true, true, true, true, true, true, true, true, true, true, true, true, true, true, false]) rfl (by kernel_rfl) (by kernel_rfl) (by kernel_rfl) (by kernel_rfl) rfl rfl h0 rfl hg (allc (List.Mem.head _) alln) (fun m' H' hm' hX' => y_iop rfl rfl rfl) ?_
    refine g_y (i := 17) (listed' := #[true, true, true, true, true, true, true, true, true, true, true, true, true, true, true, true, true, true]) rfl (by kernel_rfl) (by kernel_rfl) (by kernel_rfl) (by kernel_rfl) rfl rfl hg (allc (List.Mem.head _) alln) (fun m' H' hm' hX' => y_pickf rfl h0 rfl) ?_
    refine g_done (by kernel_rfl) ?_
    clear hg hz_g
    refine hK2 _ _ _ ?_
    clear hK2 K2
    refine c_cond rfl (fun h1 => ?_) (fun h1 => ?_)
    ·
      refine c_seq (fun K5 hK5 => ?_)
      refine c_region ?_
      refine r_y rfl rfl (y_move rfl) ?_
      refine r_y rfl rfl (y_nilCheck rfl) ?_
      refine r_y rfl rfl (y_fieldAddr rfl At.lit fo106_2 rfl) ?_
      refine r_s rfl ?_
      refine s_store rfl rfl rfl ts4 rfl rfl (by simp [Value.oneCell', wv, Sl.v]) (i := 0) rfl rfl ?_
      refine r_nil ?_
      refine hK5 _ _ _ ?_
      clear hK5 K5
      refine c_seq (fun K6 hK6 => ?_)
      refine c_region ?_
      refine r_y rfl rfl (y_assign rfl) ?_
      refine r_nil ?_
      refine hK6 _ _ _ ?_
      clear hK6 K6
      refine c_ret ?_
      refine e_ret 0 hm (res_tmps rfl) ?_
      rw [rget_no (by first | (simp [h0]; done) | (simp at h1; simp; omega))]
      exact ⟨rfl, rfl⟩
    ·
      refine c_skip ?_
      refine hK1 _ _ _ ?_
      clear hK1 K1
      refine c_seq (fun K7 hK7 => ?_)
      refine c_region ?_
      refine r_y rfl rfl (y_assign rfl) ?_
      refine r_nil ?_
      refine hK7 _ _ _ ?_
      clear hK7 K7
      refine c_seq (fun K8 hK8 => ?_)
      refine c_seq (fun K9 hK9 => ?_)
      refine c_region ?_
      refine r_y rfl rfl (y_assign rfl) ?_
      refine r_nil ?_
      refine hK9 _ _ _ ?_
      clear hK9 K9
      refine c_block ?_
      refine c_loopx (α := Nat) (fun i => [(0, .pointer (some ⟨r, 0, none⟩)), (1, .int .i64 (k : Nat)), (5, wv (rnum (q.l.take i))), (6, .int .i64 (i : Nat))]) (fun i => eyItem r s l (q) :: H) (fun k0 i m1 => (i + k0 = k ∧ True) ∧ m.le m1 ∧ (FzB m1 s l)) (k) 0 ⟨rfl, rfl, rfl, rfl, trivial⟩ rfl ⟨⟨by omega, trivial⟩, hm, hz⟩ ?_
      clear hm hz
      rintro k0 i m1 ⟨hi0, hm, hz⟩
      obtain ⟨hi, hinv⟩ := hi0
      refine c_seq (fun K10 hK10 => ?_)
      refine c_seq (fun K11 hK11 => ?_)
      refine c_region ?_
      refine r_y rfl rfl (y_move rfl) ?_
      refine r_y rfl rfl (y_move rfl) ?_
      refine r_y rfl rfl (y_iop rfl rfl rfl) ?_
      refine r_nil ?_
      refine hK11 _ _ _ ?_
      clear hK11 K11
      refine c_cond rfl (fun h2 => ?_) (fun h2 => ?_)
      ·
        have hlt0 : i < k := by simp at h2; omega
        have hkq : k ≤ q.l.length := by simp at h1; omega
        have hlt : l.length - q.l.length + i < s.n := by omega
        obtain ⟨x, hxq⟩ := get_of_lt (l := q.l) (k := i) (by omega)
        have hx := hs.get i ▸ hxq
        refine c_skip ?_
        refine hK10 _ _ _ ?_
        clear hK10 K10
        refine c_seq (fun K12 hK12 => ?_)
        refine c_block ?_
        refine c_draw ([eyItem r s l (q)]) (by kernel_rfl) (fun hg => ?_)
        have hz_g := hz
        refine g_y (i := 0) (listed' := #[true, false, false, false, false, false, false, false, false, false, false, false, false, false, false, false, false]) rfl (by kernel_rfl) (by kernel_rfl) (by kernel_rfl) (by kernel_rfl) rfl rfl hg (allc (List.Mem.head _) alln) (fun m' H' hm' hX' => y_move rfl) ?_
        refine g_y (i := 1) (listed' := #[true, true, false, false, false, false, false, false, false, false, false, false, false, false, false, false, false]) rfl (by kernel_rfl) (by kernel_rfl) (by kernel_rfl) (by kernel_rfl) rfl rfl hg (allc (List.Mem.head _) alln) (fun m' H' hm' hX' => y_wmul rfl (opv_wc 256#64)) ?_
        refine g_y (i := 2) (listed' := #[true, true, true, false, false, false, false, false, false, false, false, false, false, false, false, false, false]) rfl (by kernel_rfl) (by kernel_rfl) (by kernel_rfl) (by kernel_rfl) rfl rfl hg (allc (List.Mem.head _) alln) (fun m' H' hm' hX' => y_move rfl) ?_
        refine g_y (i := 3) (listed' := #[true, true, true, true, false, false, false, false, false, false, false, false, false, false, false, false, false]) rfl (by kernel_rfl) (by kernel_rfl) (by kernel_rfl) (by kernel_rfl) rfl rfl hg (allc (List.Mem.head _) alln) (fun m' H' hm' hX' => y_nilCheck rfl) ?_
        refine g_y (i := 4) (listed' := #[true, true, true, true, true, false, false, false, false, false, false, false, false, false, false, false, false]) rfl (by kernel_rfl) (by kernel_rfl) (by kernel_rfl) (by kernel_rfl) rfl rfl hg (allc (List.Mem.head _) alln) (fun m' H' hm' hX' => y_fieldAddr rfl At.lit fo106_0 rfl) ?_
        refine g_y (i := 5) (listed' := #[true, true, true, true, true, true, false, false, false, false, false, false, false, false, false, false, false]) rfl (by kernel_rfl) (by kernel_rfl) (by kernel_rfl) (by kernel_rfl) rfl rfl hg (allc (List.Mem.head _) alln) (fun m' H' hm' hX' => y_load_s rfl ts22 (RdS.mem (hX' _ (List.Mem.head _)) rfl)) ?_
        refine g_y (i := 6) (listed' := #[true, true, true, true, true, true, true, false, false, false, false, false, false, false, false, false, false]) rfl (by kernel_rfl) (by kernel_rfl) (by kernel_rfl) (by kernel_rfl) rfl rfl hg (allc (List.Mem.head _) alln) (fun m' H' hm' hX' => y_move rfl) ?_
        refine g_y (i := 7) (listed' := #[true, true, true, true, true, true, true, true, false, false, false, false, false, false, false, false, false]) rfl (by kernel_rfl) (by kernel_rfl) (by kernel_rfl) (by kernel_rfl) rfl rfl hg (allc (List.Mem.head _) alln) (fun m' H' hm' hX' => y_nilCheck rfl) ?_
        refine g_y (i := 8) (listed' := #[true, true, true, true, true, true, true, true, true, false, false, false, false, false, false, false, false]) rfl (by kernel_rfl) (by kernel_rfl) (by kernel_rfl) (by kernel_rfl) rfl rfl hg (allc (List.Mem.head _) alln) (fun m' H' hm' hX' => y_fieldAddr rfl At.lit fo106_1 rfl) ?_
        refine g_y (i := 9) (listed' := #[true, true, true, true, true, true, true, true, true, true, false, false, false, false, false, false, false]) rfl (by kernel_rfl) (by kernel_rfl) (by kernel_rfl) (by kernel_rfl) rfl rfl hg (allc (List.Mem.head _) alln) (fun m' H' hm' hX' => y_load_s rfl ts3 (RdS.mem (hX' _ (List.Mem.head _)) rfl)) ?_
        refine g_y (i := 10) (listed' := #[true, true, true, true, true, true, true, true, true, true, true, false, false, false, false, false, false]) rfl (by kernel_rfl) (by kernel_rfl) (by kernel_rfl) (by kernel_rfl) rfl rfl hg (allc (List.Mem.head _) alln) (fun m' H' hm' hX' => y_move rfl) ?_
        refine g_y (i := 11) (listed' := #[true, true, true, true, true, true, true, true, true, true, true, true, false, false, false, false, false]) rfl (by kernel_rfl) (by kernel_rfl) (by kernel_rfl) (by kernel_rfl) rfl rfl hg (allc (List.Mem.head _) alln) (fun m' H' hm' hX' => y_addn (a := l.length - q.l.length) (b := i) rfl rfl (by omega)) ?_
        refine g_y (i := 12) (listed' := #[true, true, true, true, true, true, true, true, true, true, true, true, true, false, false, false, false]) rfl (by kernel_rfl) (by kernel_rfl) (by kernel_rfl) (by kernel_rfl) rfl rfl hg (allc (List.Mem.head _) alln) (fun m' H' hm' hX' => y_indexAddr_slice rfl rfl tl22 hlt (At.fz (hz_g.mono hm') hlt)) ?_
        refine g_y (i := 13) (listed' := #[true, true, true, true, true, true, true, true, true, true, true, true, true, true, false, false, false]) rfl (by kernel_rfl) (by kernel_rfl) (by kernel_rfl) (by kernel_rfl) rfl rfl hg (allc (List.Mem.head _) alln) (fun m' H' hm' hX' => y_load_s rfl ts5 (RdS.fz (j := 0) (hz_g.mono hm') (bytes1_get hx) rfl)) ?_
        refine g_y (i := 14) (listed' := #[true, true, true, true, true, true, true, true, true, true, true, true, true, true, true, false, false]) rfl (by kernel_rfl) (by kernel_rfl) (by kernel_rfl) (by kernel_rfl) rfl rfl hg (allc (List.Mem.head _) alln) (fun m' H' hm' hX' => y_conv_8w rfl un5 un25) ?_
        refine g_y (i := 15) (listed' := #[true, true, true, true, true, true, true, true, true, true, true, true, true, true, true, true, false]) rfl (by kernel_rfl) (by kernel_rfl) (by kernel_rfl) (by kernel_rfl) rfl rfl hg (allc (List.Mem.head _) alln) (fun m' H' hm' hX' => y_wadd rfl rfl) ?_
        refine g_y (i := 16) (listed' := #[true, true, true, true, true, true, true, true, true, true, true, true, true, true, true, true, true]) rfl (by kernel_rfl) (by kernel_rfl) (by kernel_rfl) (by kernel_rfl) rfl rfl hg (allc (List.Mem.head _) alln) (fun m' H' hm' hX' => y_assign rfl) ?_
        refine g_done (by kernel_rfl) ?_
        clear hg hz_g
        refine hK12 _ _ _ ?_
        clear hK12 K12
        refine c_region ?_
        refine r_y rfl rfl (y_move rfl) ?_
        first | refine r_y rfl rfl (y_inc rfl (by omega)) ?_ | refine r_y rfl rfl (y_iop rfl rfl rfl) ?_
        refine r_y rfl rfl (y_assign rfl) ?_
        refine r_nil ?_
        exact ⟨k0 - 1, (i + 1), by omega, ⟨rfl, rfl, (by rw [rnum_take' hxq]; rfl), rfl, trivial⟩, rfl, ⟨by omega, trivial⟩, hm, hz⟩
      ·
        refine c_exit ?_
        refine hK8 _ _ _ ?_
        clear hK10 K10 hK8 K8
        refine c_seq (fun K13 hK13 => ?_)
        refine c_region ?_
        refine r_y rfl rfl (y_move rfl) ?_
        refine r_y rfl rfl (y_move rfl) ?_
        refine r_y rfl rfl (y_nilCheck rfl) ?_
        refine r_y rfl rfl (y_fieldAddr rfl At.lit fo106_1 rfl) ?_
        refine r_y rfl rfl (y_load_s rfl ts3 (RdS.blk (i := 0) rfl rfl)) ?_
        refine r_y rfl rfl (y_move rfl) ?_
        refine r_y rfl rfl (y_addn rfl rfl (by omega)) ?_
        refine r_y rfl rfl (y_nilCheck rfl) ?_
        refine r_y rfl rfl (y_fieldAddr rfl At.lit fo106_1 rfl) ?_
        refine r_s rfl ?_
        refine s_store rfl rfl rfl ts3 rfl rfl (by simp [Value.oneCell', wv, Sl.v]) (i := 0) rfl rfl ?_
        refine r_nil ?_
        refine hK13 _ _ _ ?_
        clear hK13 K13
        refine c_seq (fun K14 hK14 => ?_)
        refine c_region ?_
        refine r_y rfl rfl (y_move rfl) ?_
        refine r_y rfl rfl (y_assign rfl) ?_
        refine r_nil ?_
        refine hK14 _ _ _ ?_
        clear hK14 K14
        refine c_ret ?_
        refine e_ret 0 hm (res_tmps rfl) ?_
        have hie : i = k := by simp at h2; omega
        subst hie
        have hkq : i ≤ q.l.length := by simp at h1; omega
        rw [rget_yes (by simp [h0]; omega)]
        refine ⟨rfl, ?_⟩
        rw [show l.length - q.l.length + i = l.length - (q.l.drop i).length by simp; omega]
        rfl
set_option maxRecDepth 100000 in
theorem ehead_w (r : Nat) (s : Sl) (l : List UInt8) (q : Rs) (m : Snap) (H : Hp) (hz : FzB m s l) (hs : Suf l q) (hL : l.length ≤ 4611686018427387904) : Fn Try.prog 58 [.pointer (some ⟨r, 0, none⟩)] m (eyItem r s l q :: H) (fun v _ H' => v = .agg (encHead (rhead q).1).toArray ∧ H' = eyItem r s l (rhead q).2 :: H) := by
  have hm : m.le m := Snap.le.refl m
  refine fn_end Try.func58 rfl rfl rfl ?_
  refine c_seq (fun K0 hK0 => ?_)
  refine c_region ?_
  refine r_s rfl ?_
  refine s_alloc rfl tz27 (fun b0 => ?_)
  refine r_nil ?_
  refine hK0 _ _ _ ?_
  clear hK0 K0
  refine c_seq (fun K1 hK1 => ?_)
  refine c_region ?_
  refine r_s rfl ?_
  refine s_alloc rfl tz27 (fun b1 => ?_)
  refine r_nil ?_
  refine hK1 _ _ _ ?_
  clear hK1 K1
  refine c_seq (fun K2 hK2 => ?_)
  refine c_seq (fun K3 hK3 => ?_)
  refine c_region ?_
  refine r_y rfl rfl (y_assign rfl) ?_
  refine r_nil ?_
  refine hK3 _ _ _ ?_
  clear hK3 K3
  refine c_block ?_
  refine c_front 2 rfl ?_
  refine c_loopx (α := Nat) (fun i => [(0, .pointer (some ⟨r, 0, none⟩)), (2, .pointer (some ⟨b0, 0, none⟩)), (3, .pointer (some ⟨b1, 0, none⟩)), (4, .int .i64 (i : Nat))]) (fun i => eyItem r s l (rheadN i q).2 :: .blk b1 (.cells (encHead (rheadN i q).1).toArray 27) :: .blk b0 (.cells (encHead zHead).toArray 27) :: H) (fun k0 i m1 => (i + k0 = 12 ∧ True) ∧ m.le m1 ∧ (FzB m1 s l)) (12) 0 ⟨rfl, rfl, rfl, rfl, trivial⟩ rfl ⟨⟨by omega, trivial⟩, hm, hz⟩ ?_
  clear hm hz
  rintro k0 i m1 ⟨hi0, hm, hz⟩
  obtain ⟨hi, hinv⟩ := hi0
  refine c_seq (fun K4 hK4 => ?_)
  refine c_seq (fun K5 hK5 => ?_)
  refine c_region ?_
  refine r_y rfl rfl (y_move rfl) ?_
  refine r_y rfl rfl (y_iop rfl rfl rfl) ?_
  refine r_nil ?_
  refine hK5 _ _ _ ?_
  clear hK5 K5
  refine c_cond rfl (fun h0 => ?_) (fun h0 => ?_)
  ·
    have hlt : i < 12 := by simp at h0; omega
    refine c_skip ?_
    refine hK4 _ _ _ ?_
    clear hK4 K4
    refine c_seq (fun K6 hK6 => ?_)
    refine c_block ?_
    refine c_region ?_
    refine r_y rfl rfl (y_move rfl) ?_
    refine r_y rfl rfl (y_move rfl) ?_
    refine r_s rfl ?_
    refine s_call0 rfl Try.call57 rfl (eget_w r s l ((rheadN i q).2) 8 _ _ hz (rheadN_suf hs i) hL (by decide)) ?_
    rintro _ m2 _ hm2 ⟨rfl, rfl⟩
    replace hm := hm.trans hm2
    replace hz := hz.mono hm2
    clear hm2
    refine r_y rfl rfl (y_indexAddr_arr rfl rfl ta27 hlt At.lit) ?_
    refine r_s rfl ?_
    refine s_store rfl rfl rfl ts25 rfl rfl (by simp [Value.oneCell', wv]) (i := 1) rfl (cput_head _ _ _ hlt) ?_
    refine r_nil ?_
    refine hK6 _ _ _ ?_
    clear hK6 K6
    refine c_region ?_
    refine r_y rfl rfl (y_move rfl) ?_
    first | refine r_y rfl rfl (y_inc rfl (by omega)) ?_ | refine r_y rfl rfl (y_iop rfl rfl rfl) ?_
    refine r_y rfl rfl (y_assign rfl) ?_
    refine r_nil ?_
    exact ⟨k0 - 1, (i + 1), by omega, ⟨rfl, rfl, rfl, rfl, trivial⟩, rfl, ⟨by omega, trivial⟩, hm, hz⟩
  ·
    obtain rfl : i = 12 := by simp at h0; omega
    refine c_exit ?_
    refine hK2 _ _ _ ?_
    clear hK4 K4 hK2 K2
    refine c_seq (fun K7 hK7 => ?_)
    refine c_region ?_
    refine r_y rfl rfl (y_load_a rfl ts27 (RdA.blk (i := 1) rfl rfl)) ?_
    refine r_s rfl ?_
    refine s_store (us := encHead (rhead q).1) rfl rfl rfl ts27 rfl rfl (one_head _) (i := 2) rfl rfl ?_
    refine r_nil ?_
    refine hK7 _ _ _ ?_
    clear hK7 K7
    refine c_ret ?_
    refine e_retf [0, 1, 2] 2 hm (res_cell_a rfl ts27 (RdA.blk (i := 2) rfl rfl)) ?_
    exact ⟨rfl, rfl⟩
set_option maxRecDepth 100000 in
theorem eacts_w (r : Nat) (s : Sl) (l : List UInt8) (q : Rs) (m : Snap) (H : Hp) (hz : FzB m s l) (hs : Suf l q) (hL : l.length ≤ 4611686018427387904) : Fn Try.prog 59 [.pointer (some ⟨r, 0, none⟩)] m (eyItem r s l q :: H) (fun v m' H' => ∃ sa : Sl, v = sa.v ∧ FzA m' sa (racts q).1 ∧ sa.ok ∧ H' = eyItem r s l (racts q).2 :: H) := by
  have hm : m.le m := Snap.le.refl m
  refine fn_end Try.func59 rfl rfl rfl ?_
  refine c_seq (fun K0 hK0 => ?_)
  refine c_region ?_
  refine r_y rfl rfl (y_assign rfl) ?_
  refine r_nil ?_
  refine hK0 _ _ _ ?_
  clear hK0 K0
  refine c_seq (fun K1 hK1 => ?_)
  refine c_region ?_
  refine r_nilvec 53 4 ?_
  refine r_y rfl rfl (y_assign rfl) ?_
  refine r_nil ?_
  refine hK1 _ _ _ ?_
  clear hK1 K1
  refine c_seq (fun K2 hK2 => ?_)
  refine c_region ?_
  refine r_y rfl rfl (y_move rfl) ?_
  refine r_front 1 rfl ?_
  refine r_s rfl ?_
  refine s_call0 rfl Try.call57 rfl (eget_w r s l (q) 1 _ _ hz (hs) hL (by decide)) ?_
  rintro _ m2 _ hm2 ⟨rfl, rfl⟩
  replace hm := hm.trans hm2
  replace hz := hz.mono hm2
  clear hm2
  refine r_y rfl rfl (y_conv_wi rfl un25 un3) ?_
  refine r_y rfl rfl (y_assign rfl) ?_
  refine r_nil ?_
  refine hK2 _ _ _ ?_
  clear hK2 K2
  refine c_seq (fun K3 hK3 => ?_)
  refine c_seq (fun K4 hK4 => ?_)
  refine c_region ?_
  refine r_y rfl rfl (y_assign rfl) ?_
  refine r_nil ?_
  refine hK4 _ _ _ ?_
  clear hK4 K4
  refine c_block ?_
  obtain ⟨n0, hne, hn0⟩ := rint_nat (k := 1) (by decide) q
  refine c_loopx (α := Nat × Nat × Rs × List ActD × Sl) (fun vv => match vv with | (i, n, q1, l1, sv) => [(0, .pointer (some ⟨r, 0, none⟩)), (3, sv.v), (4, .int .i64 (n0 : Nat)), (5, .int .i64 (i : Nat))]) (fun vv => match vv with | (i, n, q1, l1, sv) => eyItem r s l q1 :: .vec sv.a sv.n sv.cap 53 4 (l1.map encAct) :: H) (fun k0 vv m1 => match vv with | (i, n, q1, l1, sv) => (n = k0 ∧ i + n = n0 ∧ sv.n = l1.length ∧ n + l1.length < 256 ∧ racts q = (l1 ++ (ractsN n q1).1, (ractsN n q1).2) ∧ Suf l q1) ∧ m.le m1 ∧ (FzB m1 s l)) (n0) (0, n0, (rint 1 q).2, [], zSl) ⟨rfl, rfl, (by rw [← hne]; rfl), rfl, trivial⟩ rfl ⟨⟨rfl, by omega, rfl, by simpa using hn0, by simp [racts, hne], rint_suf hs⟩, hm, hz⟩ ?_
  clear hm hz
  rintro k0 ⟨i, n, q1, l1, sv⟩ m1 ⟨hi0, hm, hz⟩
  obtain ⟨hi, hin, hsn, hb, hinv, hs⟩ := hi0
  refine c_seq (fun K5 hK5 => ?_)
  refine c_seq (fun K6 hK6 => ?_)
  refine c_region ?_
  refine r_y rfl rfl (y_move rfl) ?_
  refine r_y rfl rfl (y_move rfl) ?_
  refine r_y rfl rfl (y_iop rfl rfl rfl) ?_
  refine r_y rfl rfl (y_move rfl) ?_
  refine r_split (j := 3) rfl (fun h0 => ?_) (fun h0 => ?_)
  ·
    refine r_yg rfl h0 rfl (y_move rfl) ?_
    refine r_yg rfl h0 rfl (y_nilCheck rfl) ?_
    refine r_yg rfl h0 rfl (y_fieldAddr rfl At.lit fo106_2 rfl) ?_
    refine r_yg rfl h0 rfl (y_load_s rfl ts4 (RdS.blk (i := 0) rfl rfl)) ?_
    refine r_yg rfl h0 rfl (y_not rfl) ?_
    refine r_y rfl rfl (y_pickt rfl h0 rfl) ?_
    refine r_nil ?_
    refine hK6 _ _ _ ?_
    clear hK6 K6
    refine c_cond rfl (fun h1 => ?_) (fun h1 => ?_)
    ·
      refine c_skip ?_
      refine hK5 _ _ _ ?_
      clear hK5 K5
      refine c_seq (fun K7 hK7 => ?_)
      refine c_block ?_
      refine c_seq (fun K8 hK8 => ?_)
      refine c_region ?_
      refine r_s rfl ?_
      refine s_alloc rfl tz53 (fun b0 => ?_)
      refine r_nil ?_
      refine hK8 _ _ _ ?_
      clear hK8 K8
      refine c_seq (fun K9 hK9 => ?_)
      refine c_region ?_
      refine r_y rfl rfl (y_move rfl) ?_
      refine r_front 1 rfl ?_
      refine r_s rfl ?_
      refine s_call0 rfl Try.call57 rfl (eget_w r s l (q1) 1 _ _ hz (hs) hL (by decide)) ?_
      rintro _ m2 _ hm2 ⟨rfl, rfl⟩
      replace hm := hm.trans hm2
      replace hz := hz.mono hm2
      clear hm2
      refine r_y rfl rfl (y_conv_wi rfl un25 un3) ?_
      refine r_y rfl rfl (y_fieldAddr rfl At.lit fo53_0 rfl) ?_
      refine r_s rfl ?_
      refine s_store rfl rfl rfl ts3 rfl rfl (by simp [Value.oneCell', wv, Sl.v]) (i := 1) rfl rfl ?_
      refine r_nil ?_
      refine hK9 _ _ _ ?_
      clear hK9 K9
      refine c_seq (fun K10 hK10 => ?_)
      refine c_region ?_
      refine r_y rfl rfl (y_move rfl) ?_
      refine r_s rfl ?_
      refine s_call0 rfl Try.call57 rfl (eget_w r s l ((rget 1 (q1)).2) 1 _ _ hz (rget_suf (hs)) hL (by decide)) ?_
      rintro _ m2 _ hm2 ⟨rfl, rfl⟩
      replace hm := hm.trans hm2
      replace hz := hz.mono hm2
      clear hm2
      refine r_y rfl rfl (y_conv_wi rfl un25 un3) ?_
      refine r_y rfl rfl (y_fieldAddr rfl At.lit fo53_1 rfl) ?_
      refine r_s rfl ?_
      refine s_store rfl rfl rfl ts3 rfl rfl (by simp [Value.oneCell', wv, Sl.v]) (i := 1) rfl rfl ?_
      refine r_nil ?_
      refine hK10 _ _ _ ?_
      clear hK10 K10
      refine c_seq (fun K11 hK11 => ?_)
      refine c_region ?_
      refine r_y rfl rfl (y_move rfl) ?_
      refine r_s rfl ?_
      refine s_call0 rfl Try.call57 rfl (eget_w r s l ((rget 1 ((rget 1 (q1)).2)).2) 1 _ _ hz (rget_suf (rget_suf (hs))) hL (by decide)) ?_
      rintro _ m2 _ hm2 ⟨rfl, rfl⟩
      replace hm := hm.trans hm2
      replace hz := hz.mono hm2
      clear hm2
      refine r_y rfl rfl (y_conv_wi rfl un25 un3) ?_
      refine r_y rfl rfl (y_fieldAddr rfl At.lit fo53_2 rfl) ?_
      refine r_s rfl ?_
      refine s_store rfl rfl rfl ts3 rfl rfl (by simp [Value.oneCell', wv, Sl.v]) (i := 1) rfl rfl ?_
      refine r_nil ?_
      refine hK11 _ _ _ ?_
      clear hK11 K11
      refine c_seq (fun K12 hK12 => ?_)
      refine c_region ?_
      refine r_y rfl rfl (y_move rfl) ?_
      refine r_s rfl ?_
      refine s_call0 rfl Try.call57 rfl (eget_w r s l ((rget 1 ((rget 1 ((rget 1 (q1)).2)).2)).2) 8 _ _ hz (rget_suf (rget_suf (rget_suf (hs)))) hL (by decide)) ?_
      rintro _ m2 _ hm2 ⟨rfl, rfl⟩
      replace hm := hm.trans hm2
      replace hz := hz.mono hm2
      clear hm2
      refine r_y rfl rfl (y_fieldAddr rfl At.lit fo53_3 rfl) ?_
      refine r_s rfl ?_
      refine s_store rfl rfl rfl ts25 rfl rfl (by simp [Value.oneCell', wv, Sl.v]) (i := 1) rfl rfl ?_
      refine r_nil ?_
      refine hK12 _ _ _ ?_
      clear hK12 K12
      refine c_region ?_
      refine r_y rfl rfl (y_move rfl) ?_
      refine r_y rfl rfl (y_load_a (cs := encAct (ract q1).1) rfl ts53 (RdA.blk (i := 1) rfl rfl)) ?_
      refine r_s rfl ?_
      refine s_buildSlice (cs := (encAct (ract q1).1)) (e := 53) rfl rfl (fun _ => by kernel_rfl) (fun b1 => ?_)
      refine r_s rfl ?_
      refine s_append rfl rfl rfl tl30 zo53 tb53 (i := 3) rfl (Src.one' (i := 0) rfl rfl (one_act _)) (by omega) (by unfold maxLen; omega) (fun a1 c1 => ?_)
      refine r_del 0 rfl ?_
      refine r_y rfl rfl (y_assign rfl) ?_
      refine r_nil ?_
      refine hK7 _ _ _ ?_
      clear hK7 K7
      refine c_region ?_
      refine r_del 1 rfl ?_
      refine r_y rfl rfl (y_move rfl) ?_
      first | refine r_y rfl rfl (y_inc rfl (by omega)) ?_ | refine r_y rfl rfl (y_iop rfl rfl rfl) ?_
      refine r_y rfl rfl (y_assign rfl) ?_
      refine r_nil ?_
      obtain ⟨n, rfl⟩ : ∃ j, n = j + 1 := ⟨n - 1, by simp at h0; omega⟩
      exact ⟨k0 - 1, (i + 1, n, (ract q1).2, l1 ++ [(ract q1).1], ⟨a1, sv.n + 1, c1⟩), by omega, ⟨rfl, rfl, rfl, rfl, trivial⟩, (by simp only [List.map_append]; rfl), ⟨by omega, by omega, by simp [hsn], by simp; omega, by rw [hinv, ractsN_succ (by simpa using h1)]; simp, ract_suf hs⟩, hm, hz⟩
    ·
      refine c_exit ?_
      refine hK3 _ _ _ ?_
      clear hK5 K5 hK3 K3
      refine c_seq (fun K13 hK13 => ?_)
      refine c_region ?_
      refine r_freezeVec (i := 1) rfl rfl (fun m3 hm3 hza hnil => ?_)
      replace hm := hm.trans hm3
      replace hz := hz.mono hm3
      clear hm3
      refine r_y rfl rfl (y_move rfl) ?_
      refine r_y rfl rfl (y_assign rfl) ?_
      refine r_nil ?_
      refine hK13 _ _ _ ?_
      clear hK13 K13
      refine c_ret ?_
      refine e_ret 0 hm (res_tmps rfl) ?_
      have hq : racts q = (l1, q1) := by
        rw [hinv]
        first
          | (rw [ractsN_end (by simpa using h1)]; simp; done)
          | (obtain rfl : n = 0 := by simp at h0; omega
             simp [ractsN])
      rw [hq]
      exact ⟨sv, rfl, hza, hnil, rfl⟩
  ·
    refine r_no' rfl rfl h0 ?_
    refine r_no' rfl rfl h0 ?_
    refine r_no' rfl rfl h0 ?_
    refine r_no' rfl rfl h0 ?_
    refine r_no' rfl rfl h0 ?_
    refine r_y rfl rfl (y_pickf rfl h0 rfl) ?_
    refine r_nil ?_
    refine hK6 _ _ _ ?_
    clear hK6 K6
    refine c_iff rfl rfl ?_
    refine c_exit ?_
    refine hK3 _ _ _ ?_
    clear hK5 K5 hK3 K3
    refine c_seq (fun K14 hK14 => ?_)
    refine c_region ?_
    refine r_freezeVec (i := 1) rfl rfl (fun m3 hm3 hza hnil => ?_)
    replace hm := hm.trans hm3
    replace hz := hz.mono hm3
    clear hm3
    refine r_y rfl rfl (y_move rfl) ?_
    refine r_y rfl rfl (y_assign rfl) ?_
    refine r_nil ?_
    refine hK14 _ _ _ ?_
    clear hK14 K14
    refine c_ret ?_
    refine e_ret 0 hm (res_tmps rfl) ?_
    have hq : racts q = (l1, q1) := by
      rw [hinv]
      first
        | (rw [ractsN_end (by simpa using h1)]; simp; done)
        | (obtain rfl : n = 0 := by simp at h0; omega
           simp [ractsN])
    rw [hq]
    exact ⟨sv, rfl, hza, hnil, rfl⟩
end Go.Aw
