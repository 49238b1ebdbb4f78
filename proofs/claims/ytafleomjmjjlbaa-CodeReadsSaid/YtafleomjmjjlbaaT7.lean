import Derived.Test.YtafleomjmjjlbaaT6
import Derived.Test.YtafleomjmjjlbaaData4
namespace Go.Aw
open Go Go.Proofs
theorem fo111_0 : fieldOff Try.prog 111 0 = some 0 := by kernel_rfl
theorem zo5 : zeroOk Try.prog 5 = true := by kernel_rfl
theorem tb5 : tbytes Try.prog 5 = some 1 := by kernel_rfl
theorem tz155 : tzero Try.prog 155 = some [.int .i64 0, .int .i64 0, .int .i64 0] := by kernel_rfl
theorem fk155 : fieldsKnown Try.prog 155 = true := by kernel_rfl
theorem bp155_0_1_2 : bplaces Try.prog 155 [0, 1, 2] = some [(0, 1), (1, 1), (2, 1)] := by kernel_rfl
theorem ta155 : tarray Try.prog 155 = some (3, false, 1) := by kernel_rfl
set_option maxRecDepth 100000 in
theorem put_ok (r : Nat) (s : Sl) (l : List UInt8) (z : W) (k : Nat) (m : Snap) (H : Hp) (hsn : s.n = l.length) (hfit : l.length + k ≤ lim) : Fn Try.prog 60 [.pointer (some ⟨r, 0, none⟩), wv z, .int .i64 (k : Nat)] m (wItem r s :: vItem s l :: H) (fun v m' H' => ∃ s' : Sl, s'.n = (l ++ wput z k).length ∧ H' = wItem r s' :: vItem s' (l ++ wput z k) :: H) := by
  unfold lim at hfit
  have hm : m.le m := Snap.le.refl m
  refine fn_end Try.func60 rfl rfl rfl ?_
  refine c_seq (fun K0 hK0 => ?_)
  refine c_region ?_
  refine r_y rfl rfl (y_move rfl) ?_
  refine r_y rfl rfl (y_dec' rfl (by omega)) ?_
  refine r_y rfl rfl (y_assign rfl) ?_
  refine r_nil ?_
  refine hK0 _ _ _ ?_
  clear hK0 K0
  refine c_block ?_
  refine c_loopx (α := Nat × List UInt8 × Sl) (fun vv => match vv with | (j, l1, sv) => [(0, .pointer (some ⟨r, 0, none⟩)), (1, wv z), (6, .int .i64 ((j : Int) - 1))]) (fun vv => match vv with | (j, l1, sv) => wItem r sv :: vItem sv l1 :: H) (fun k0 vv m1 => match vv with | (j, l1, sv) => (j = k0 ∧ sv.n = l1.length ∧ l1.length + j = l.length + k ∧ l ++ wput z k = l1 ++ wput z j) ∧ m.le m1) (k) (k, l, s) ⟨rfl, rfl, rfl, trivial⟩ rfl ⟨⟨rfl, hsn, rfl, rfl⟩, hm⟩ ?_
  clear hm
  rintro k0 ⟨j, l1, sv⟩ m1 ⟨hi0, hm⟩
  obtain ⟨hi, hsn, hb, hinv⟩ := hi0
  refine c_seq (fun K1 hK1 => ?_)
  refine c_seq (fun K2 hK2 => ?_)
  refine c_region ?_
  refine r_y rfl rfl (y_move rfl) ?_
  refine r_y rfl rfl (y_iop rfl rfl rfl) ?_
  refine r_nil ?_
  refine hK2 _ _ _ ?_
  clear hK2 K2
  refine c_cond rfl (fun h0 => ?_) (fun h0 => ?_)
  ·
    refine c_skip ?_
    refine hK1 _ _ _ ?_
    clear hK1 K1
    refine c_seq (fun K3 hK3 => ?_)
    refine c_block ?_
    refine c_draw ([]) (by kernel_rfl) (fun hg => ?_)
    refine g_y (i := 0) (listed' := #[true, false, false, false, false, false, false, false, false, false, false, false, false, false, false]) rfl (by kernel_rfl) (by kernel_rfl) (by kernel_rfl) (by kernel_rfl) rfl rfl hg alln (fun m' H' hm' hX' => y_move rfl) ?_
    refine g_y (i := 1) (listed' := #[true, true, false, false, false, false, false, false, false, false, false, false, false, false, false]) rfl (by kernel_rfl) (by kernel_rfl) (by kernel_rfl) (by kernel_rfl) rfl rfl hg alln (fun m' H' hm' hX' => y_move rfl) ?_
    refine g_y (i := 2) (listed' := #[true, true, true, false, false, false, false, false, false, false, false, false, false, false, false]) rfl (by kernel_rfl) (by kernel_rfl) (by kernel_rfl) (by kernel_rfl) rfl rfl hg alln (fun m' H' hm' hX' => y_nilCheck rfl) ?_
    refine g_y (i := 3) (listed' := #[true, true, true, true, false, false, false, false, false, false, false, false, false, false, false]) rfl (by kernel_rfl) (by kernel_rfl) (by kernel_rfl) (by kernel_rfl) rfl rfl hg alln (fun m' H' hm' hX' => y_fieldAddr rfl At.lit fo111_0 rfl) ?_
    refine g_y (i := 5) (listed' := #[true, true, true, true, false, true, false, false, false, false, false, false, false, false, false]) rfl (by kernel_rfl) (by kernel_rfl) (by kernel_rfl) (by kernel_rfl) rfl rfl hg alln (fun m' H' hm' hX' => y_move rfl) ?_
    refine g_y (i := 6) (listed' := #[true, true, true, true, false, true, true, false, false, false, false, false, false, false, false]) rfl (by kernel_rfl) (by kernel_rfl) (by kernel_rfl) (by kernel_rfl) rfl rfl hg alln (fun m' H' hm' hX' => y_move rfl) ?_
    obtain ⟨j, rfl⟩ : ∃ i, j = i + 1 := ⟨j - 1, by simp at h0; omega⟩
    refine g_y (i := 7) (listed' := #[true, true, true, true, false, true, true, true, false, false, false, false, false, false, false]) rfl (by kernel_rfl) (by kernel_rfl) (by kernel_rfl) (by kernel_rfl) rfl rfl hg alln (fun m' H' hm' hX' => y_mul8 rfl (by omega)) ?_
    refine g_y (i := 8) (listed' := #[true, true, true, true, false, true, true, true, true, false, false, false, false, false, false]) rfl (by kernel_rfl) (by kernel_rfl) (by kernel_rfl) (by kernel_rfl) rfl rfl hg alln (fun m' H' hm' hX' => y_wshr (b := 8 * j) rfl rfl) ?_
    refine g_y (i := 9) (listed' := #[true, true, true, true, false, true, true, true, true, true, false, false, false, false, false]) rfl (by kernel_rfl) (by kernel_rfl) (by kernel_rfl) (by kernel_rfl) rfl rfl hg alln (fun m' H' hm' hX' => y_conv_w8 rfl un25 un5) ?_
    refine g_each (rs := [4, 10]) (by kernel_rfl) (by simp) ⟨⟨_, rfl, rfl, ?_⟩, ⟨_, rfl, rfl, ?_⟩, trivial⟩
    ·
      refine s_y rfl (y_load_s rfl ts22 (RdS.blk (i := 0) rfl rfl)) ?_
      refine ⟨⟨hg, alln⟩, ?_⟩
      refine g_s (i := 10) (listed' := #[true, true, true, true, true, true, true, true, true, true, true, false, false, false, false]) rfl (by kernel_rfl) (by kernel_rfl) rfl ?_
      refine s_buildSlice (cs := [bv (UInt8.ofNat (z >>> (8 * j)).toNat)]) (e := 5) rfl rfl (fun _ => by kernel_rfl) (fun b0 => ?_)
      refine ⟨⟨hg, alln⟩, ?_⟩
      refine g_s (i := 11) (listed' := #[true, true, true, true, true, true, true, true, true, true, true, true, false, false, false]) rfl (by kernel_rfl) (by kernel_rfl) rfl ?_
      refine s_append rfl rfl rfl tl22 zo5 tb5 (i := 2) rfl (Src.one' (i := 0) rfl rfl (by simp [bv, Value.oneCell'])) (by omega) (by unfold maxLen; omega) (fun a1 c1 => ?_)
      refine ⟨⟨hg, alln⟩, ?_⟩
      refine g_del 0 rfl ?_
      refine g_y (i := 12) (listed' := #[true, true, true, true, true, true, true, true, true, true, true, true, true, false, false]) rfl (by kernel_rfl) (by kernel_rfl) (by kernel_rfl) (by kernel_rfl) rfl rfl hg alln (fun m' H' hm' hX' => y_nilCheck rfl) ?_
      refine g_y (i := 13) (listed' := #[true, true, true, true, true, true, true, true, true, true, true, true, true, true, false]) rfl (by kernel_rfl) (by kernel_rfl) (by kernel_rfl) (by kernel_rfl) rfl rfl hg alln (fun m' H' hm' hX' => y_fieldAddr rfl At.lit fo111_0 rfl) ?_
      refine g_s (i := 14) (listed' := #[true, true, true, true, true, true, true, true, true, true, true, true, true, true, true]) rfl (by kernel_rfl) (by kernel_rfl) rfl ?_
      refine s_store rfl rfl rfl ts22 rfl rfl (by simp [Value.oneCell', wv, Sl.v]) (i := 0) rfl rfl ?_
      refine ⟨⟨hg, alln⟩, ?_⟩
      refine g_done (by kernel_rfl) ?_
      clear hg
      refine hK3 _ _ _ ?_
      clear hK3 K3
      refine c_region ?_
      refine r_y rfl rfl (y_move rfl) ?_
      refine r_y rfl rfl (y_decj rfl (by omega)) ?_
      refine r_y rfl rfl (y_assign rfl) ?_
      refine r_nil ?_
      exact ⟨k0 - 1, (j, l1 ++ [UInt8.ofNat (z >>> (8 * j)).toNat], ⟨a1, sv.n + 1, c1⟩), by omega, ⟨rfl, rfl, rfl, trivial⟩, (by simp only [vItem, bytes1_snoc]; rfl), ⟨by omega, by simp [hsn], by simp; omega, by rw [hinv]; simp [wput]⟩, hm⟩
    ·
      refine s_buildSlice (cs := [bv (UInt8.ofNat (z >>> (8 * j)).toNat)]) (e := 5) rfl rfl (fun _ => by kernel_rfl) (fun b0 => ?_)
      refine ⟨⟨hg, alln⟩, ?_⟩
      refine g_s (i := 4) (listed' := #[true, true, true, true, true, true, true, true, true, true, true, false, false, false, false]) rfl (by kernel_rfl) (by kernel_rfl) rfl ?_
      refine s_y rfl (y_load_s rfl ts22 (RdS.blk (i := 1) rfl rfl)) ?_
      refine ⟨⟨hg, alln⟩, ?_⟩
      refine g_s (i := 11) (listed' := #[true, true, true, true, true, true, true, true, true, true, true, true, false, false, false]) rfl (by kernel_rfl) (by kernel_rfl) rfl ?_
      refine s_append rfl rfl rfl tl22 zo5 tb5 (i := 2) rfl (Src.one' (i := 0) rfl rfl (by simp [bv, Value.oneCell'])) (by omega) (by unfold maxLen; omega) (fun a1 c1 => ?_)
      refine ⟨⟨hg, alln⟩, ?_⟩
      refine g_del 0 rfl ?_
      refine g_y (i := 12) (listed' := #[true, true, true, true, true, true, true, true, true, true, true, true, true, false, false]) rfl (by kernel_rfl) (by kernel_rfl) (by kernel_rfl) (by kernel_rfl) rfl rfl hg alln (fun m' H' hm' hX' => y_nilCheck rfl) ?_
      refine g_y (i := 13) (listed' := #[true, true, true, true, true, true, true, true, true, true, true, true, true, true, false]) rfl (by kernel_rfl) (by kernel_rfl) (by kernel_rfl) (by kernel_rfl) rfl rfl hg alln (fun m' H' hm' hX' => y_fieldAddr rfl At.lit fo111_0 rfl) ?_
      refine g_s (i := 14) (listed' := #[true, true, true, true, true, true, true, true, true, true, true, true, true, true, true]) rfl (by kernel_rfl) (by kernel_rfl) rfl ?_
      refine s_store rfl rfl rfl ts22 rfl rfl (by simp [Value.oneCell', wv, Sl.v]) (i := 0) rfl rfl ?_
      refine ⟨⟨hg, alln⟩, ?_⟩
      refine g_done (by kernel_rfl) ?_
      clear hg
      refine hK3 _ _ _ ?_
      clear hK3 K3
      refine c_region ?_
      refine r_y rfl rfl (y_move rfl) ?_
      refine r_y rfl rfl (y_decj rfl (by omega)) ?_
      refine r_y rfl rfl (y_assign rfl) ?_
      refine r_nil ?_
      exact ⟨k0 - 1, (j, l1 ++ [UInt8.ofNat (z >>> (8 * j)).toNat], ⟨a1, sv.n + 1, c1⟩), by omega, ⟨rfl, rfl, rfl, trivial⟩, (by simp only [vItem, bytes1_snoc]; rfl), ⟨by omega, by simp [hsn], by simp; omega, by rw [hinv]; simp [wput]⟩, hm⟩
  ·
    refine c_exit ?_
    refine e_norm 0 hm (res_tmps rfl) ?_
    obtain rfl : j = 0 := by simp at h0; omega
    rw [hinv]
    exact ⟨sv, by simp [wput, hsn], by simp [wput]; rfl⟩
set_option maxRecDepth 100000 in
theorem whead_w (r : Nat) (s : Sl) (l : List UInt8) (h : Head) (m : Snap) (H : Hp) (hsn : s.n = l.length) (hfit : l.length + 96 ≤ lim) : Fn Try.prog 62 [.pointer (some ⟨r, 0, none⟩), .agg (encHead h).toArray] m (wItem r s :: vItem s l :: H) (fun v m' H' => ∃ s' : Sl, s'.n = (l ++ whead h).length ∧ H' = wItem r s' :: vItem s' (l ++ whead h) :: H) := by
  unfold lim at hfit
  have hm : m.le m := Snap.le.refl m
  refine fn_end Try.func62 rfl rfl rfl ?_
  refine c_seq (fun K0 hK0 => ?_)
  refine c_region ?_
  refine r_s rfl ?_
  refine s_box_a rfl rfl (fun b0 => ?_)
  refine r_nil ?_
  refine hK0 _ _ _ ?_
  clear hK0 K0
  refine c_seq (fun K1 hK1 => ?_)
  refine c_region ?_
  refine r_y rfl rfl (y_load_a (cs := encHead h) rfl ts27 (RdA.blk (i := 0) rfl rfl)) ?_
  refine r_y rfl rfl (y_move rfl) ?_
  refine r_nil ?_
  refine hK1 _ _ _ ?_
  clear hK1 K1
  refine c_block ?_
  refine c_del 0 rfl ?_
  refine c_loopx (α := Nat × Sl) (fun vv => match vv with | (i, sv) => [(0, .pointer (some ⟨r, 0, none⟩)), (6, .agg (encHead h).toArray), (7, .int .i64 (i : Nat))]) (fun vv => match vv with | (i, sv) => wItem r sv :: vItem sv (l ++ wputs 8 ((headL h).take i)) :: H) (fun k0 vv m1 => match vv with | (i, sv) => (i + k0 = 12 ∧ sv.n = (l ++ wputs 8 ((headL h).take i)).length) ∧ m.le m1) (12) (0, s) ⟨rfl, rfl, rfl, trivial⟩ (by simp only [List.take_zero, wputs, List.append_nil]; rfl) ⟨⟨by omega, by simpa [wputs] using hsn⟩, hm⟩ ?_
  clear hm
  rintro k0 ⟨i, sv⟩ m1 ⟨hi0, hm⟩
  obtain ⟨hi, hsn⟩ := hi0
  refine c_seq (fun K2 hK2 => ?_)
  refine c_region ?_
  refine r_y rfl rfl (y_iop rfl rfl rfl) ?_
  refine r_nil ?_
  refine hK2 _ _ _ ?_
  clear hK2 K2
  refine c_seq (fun K3 hK3 => ?_)
  refine c_cond rfl (fun h0 => ?_) (fun h0 => ?_)
  ·
    have hlt : i < 12 := by simp at h0; omega
    refine c_skip ?_
    refine hK3 _ _ _ ?_
    clear hK3 K3
    refine c_seq (fun K4 hK4 => ?_)
    refine c_block ?_
    refine c_seq (fun K5 hK5 => ?_)
    refine c_region ?_
    refine r_y rfl rfl (y_index_arr rfl rfl ta27 hlt (cget_head _ _ hlt)) ?_
    refine r_y rfl rfl (y_assign rfl) ?_
    refine r_nil ?_
    refine hK5 _ _ _ ?_
    clear hK5 K5
    refine c_region ?_
    refine r_y rfl rfl (y_move rfl) ?_
    refine r_y rfl rfl (y_move rfl) ?_
    refine r_front 1 rfl ?_
    refine r_front 1 rfl ?_
    refine r_s rfl ?_
    refine s_call0 rfl Try.call60 rfl (put_ok r _ _ _ 8 _ _ hsn (by simp [lim, headL] <;> omega)) ?_
    rintro _ m2 _ hm2 ⟨sw, hsn, rfl⟩
    replace hm := hm.trans hm2
    clear hm2
    refine r_nil ?_
    refine hK4 _ _ _ ?_
    clear hK4 K4
    refine c_region ?_
    first | refine r_y rfl rfl (y_inc rfl (by omega)) ?_ | refine r_y rfl rfl (y_iop rfl rfl rfl) ?_
    refine r_y rfl rfl (y_move rfl) ?_
    refine r_nil ?_
    exact ⟨k0 - 1, (i + 1, sw), by omega, ⟨rfl, rfl, rfl, trivial⟩, (by simp only [List.append_assoc, whead_step h hlt]; rfl), ⟨by omega, by rw [hsn, List.append_assoc, whead_step h hlt]⟩, hm⟩
  ·
    refine c_exit ?_
    refine e_norm 0 hm (res_tmps rfl) ?_
    obtain rfl : i = 12 := by simp at h0; omega
    exact ⟨sv, hsn, rfl⟩
set_option maxRecDepth 100000 in
theorem wmatch_w (r : Nat) (s : Sl) (l : List UInt8) (c : Cube) (n1 n2 n3 n4 : Int) (m : Snap) (H : Hp) (hsn : s.n = l.length) (hfit : l.length + 203 ≤ lim) : Fn Try.prog 114 [.pointer (some ⟨r, 0, none⟩), .agg (encCube c).toArray, .int .i64 n1, .int .i64 n2, .int .i64 n3, .int .i64 n4] m (wItem r s :: vItem s l :: H) (fun v m' H' => ∃ s' : Sl, s'.n = (l ++ wmatch c n1 n2 n3 n4).length ∧ H' = wItem r s' :: vItem s' (l ++ wmatch c n1 n2 n3 n4) :: H) := by
  unfold lim at hfit
  have hm : m.le m := Snap.le.refl m
  refine fn_end Try.func114 rfl rfl rfl ?_
  refine c_seq (fun K0 hK0 => ?_)
  refine c_region ?_
  refine r_s rfl ?_
  refine s_box_a rfl rfl (fun b0 => ?_)
  refine r_nil ?_
  refine hK0 _ _ _ ?_
  clear hK0 K0
  refine c_seq (fun K1 hK1 => ?_)
  refine c_region ?_
  refine r_y rfl rfl (y_move rfl) ?_
  refine r_y rfl rfl (y_fieldAddr rfl At.lit fo29_0 rfl) ?_
  refine r_y rfl rfl (y_load_a (cs := encHead c.value) rfl ts27 (RdA.blk (i := 0) rfl rfl)) ?_
  refine r_front 2 rfl ?_
  refine r_front 2 rfl ?_
  refine r_s rfl ?_
  refine s_call0 rfl Try.call62 rfl (whead_w r _ _ _ _ _ hsn (by simp [lim, headL] <;> omega)) ?_
  rintro _ m2 _ hm2 ⟨sw, hsn, rfl⟩
  replace hm := hm.trans hm2
  clear hm2
  refine r_nil ?_
  refine hK1 _ _ _ ?_
  clear hK1 K1
  refine c_seq (fun K2 hK2 => ?_)
  refine c_region ?_
  refine r_y rfl rfl (y_move rfl) ?_
  refine r_y rfl rfl (y_fieldAddr rfl At.lit fo29_1 rfl) ?_
  refine r_y rfl rfl (y_load_a (cs := encHead c.care) rfl ts27 (RdA.blk (i := 2) rfl rfl)) ?_
  refine r_front 1 rfl ?_
  refine r_front 1 rfl ?_
  refine r_s rfl ?_
  refine s_call0 rfl Try.call62 rfl (whead_w r _ _ _ _ _ hsn (by simp [lim, headL] <;> omega)) ?_
  rintro _ m2 _ hm2 ⟨sw, hsn, rfl⟩
  replace hm := hm.trans hm2
  clear hm2
  refine r_nil ?_
  refine hK2 _ _ _ ?_
  clear hK2 K2
  refine c_seq (fun K3 hK3 => ?_)
  refine c_region ?_
  refine r_y rfl rfl (y_move rfl) ?_
  refine r_y rfl rfl (y_move rfl) ?_
  refine r_y rfl rfl (y_conv_iw rfl un3 un25) ?_
  refine r_front 1 rfl ?_
  refine r_front 1 rfl ?_
  refine r_s rfl ?_
  refine s_call0 rfl Try.call60 rfl (put_ok r _ _ _ 2 _ _ hsn (by simp [lim, headL] <;> omega)) ?_
  rintro _ m2 _ hm2 ⟨sw, hsn, rfl⟩
  replace hm := hm.trans hm2
  clear hm2
  refine r_nil ?_
  refine hK3 _ _ _ ?_
  clear hK3 K3
  refine c_seq (fun K4 hK4 => ?_)
  refine c_region ?_
  refine r_y rfl rfl (y_move rfl) ?_
  refine r_y rfl rfl (y_move rfl) ?_
  refine r_y rfl rfl (y_conv_iw rfl un3 un25) ?_
  refine r_front 1 rfl ?_
  refine r_front 1 rfl ?_
  refine r_s rfl ?_
  refine s_call0 rfl Try.call60 rfl (put_ok r _ _ _ 4 _ _ hsn (by simp [lim, headL] <;> omega)) ?_
  rintro _ m2 _ hm2 ⟨sw, hsn, rfl⟩
  replace hm := hm.trans hm2
  clear hm2
  refine r_nil ?_
  refine hK4 _ _ _ ?_
  clear hK4 K4
  refine c_seq (fun K5 hK5 => ?_)
  refine c_region ?_
  refine r_y rfl rfl (y_move rfl) ?_
  refine r_y rfl rfl (y_move rfl) ?_
  refine r_y rfl rfl (y_conv_iw rfl un3 un25) ?_
  refine r_front 1 rfl ?_
  refine r_front 1 rfl ?_
  refine r_s rfl ?_
  refine s_call0 rfl Try.call60 rfl (put_ok r _ _ _ 4 _ _ hsn (by simp [lim, headL] <;> omega)) ?_
  rintro _ m2 _ hm2 ⟨sw, hsn, rfl⟩
  replace hm := hm.trans hm2
  clear hm2
  refine r_nil ?_
  refine hK5 _ _ _ ?_
  clear hK5 K5
  refine c_region ?_
  refine r_y rfl rfl (y_move rfl) ?_
  refine r_y rfl rfl (y_move rfl) ?_
  refine r_y rfl rfl (y_conv_iw rfl un3 un25) ?_
  refine r_front 1 rfl ?_
  refine r_front 1 rfl ?_
  refine r_s rfl ?_
  refine s_call0 rfl Try.call60 rfl (put_ok r _ _ _ 1 _ _ hsn (by simp [lim, headL] <;> omega)) ?_
  rintro _ m2 _ hm2 ⟨sw, hsn, rfl⟩
  replace hm := hm.trans hm2
  clear hm2
  refine r_nil ?_
  refine e_normf [1, 1, 2] 1 hm (res_tmps rfl) ?_
  exact ⟨sw, by rw [hsn]; simp [wmatch], by simp [wmatch, hdrop]; try rfl⟩
set_option maxRecDepth 100000 in
theorem wacts_w (r : Nat) (s : Sl) (l : List UInt8) (s1 : Sl) (l1 : List ActD) (m : Snap) (H : Hp) (hz : FzA m s1 l1) (hsn : s.n = l.length) (hfit : l.length + (1 + 11 * l1.length) ≤ lim) : Fn Try.prog 115 [.pointer (some ⟨r, 0, none⟩), s1.v] m (wItem r s :: vItem s l :: H) (fun v m' H' => ∃ s' : Sl, s'.n = (l ++ wacts l1).length ∧ H' = wItem r s' :: vItem s' (l ++ wacts l1) :: H) := by
  unfold lim at hfit
  have hl := hz.lenA
  have hmx := hz.max
  have hle := hz.le
  unfold maxLen at hmx
  have hm : m.le m := Snap.le.refl m
  refine fn_end Try.func115 rfl rfl rfl ?_
  refine c_seq (fun K0 hK0 => ?_)
  refine c_region ?_
  refine r_y rfl rfl (y_move rfl) ?_
  refine r_y rfl rfl (y_move rfl) ?_
  refine r_y rfl rfl (y_len tl30 rfl) ?_
  refine r_y rfl rfl (y_conv_iw rfl un3 un25) ?_
  refine r_front 1 rfl ?_
  refine r_front 1 rfl ?_
  refine r_s rfl ?_
  refine s_call0 rfl Try.call60 rfl (put_ok r _ _ _ 1 _ _ hsn (by simp [lim, headL] <;> omega)) ?_
  rintro _ m2 _ hm2 ⟨sw, hsn, rfl⟩
  replace hm := hm.trans hm2
  replace hz := hz.mono hm2
  clear hm2
  refine r_nil ?_
  refine hK0 _ _ _ ?_
  clear hK0 K0
  refine c_seq (fun K1 hK1 => ?_)
  refine c_region ?_
  refine r_y rfl rfl (y_move rfl) ?_
  refine r_y rfl rfl (y_len tl30 rfl) ?_
  refine r_y rfl rfl (y_move rfl) ?_
  refine r_nil ?_
  refine hK1 _ _ _ ?_
  clear hK1 K1
  refine c_block ?_
  refine c_loopx (α := Nat × Sl) (fun vv => match vv with | (i, sv) => [(0, .pointer (some ⟨r, 0, none⟩)), (11, s1.v), (12, .int .i64 (s1.n : Nat)), (13, .int .i64 (i : Nat))]) (fun vv => match vv with | (i, sv) => wItem r sv :: vItem sv ((l ++ wput (iw (s1.n : Nat)) 1) ++ wactsL (l1.take i)) :: H) (fun k0 vv m1 => match vv with | (i, sv) => (i + k0 = s1.n ∧ sv.n = ((l ++ wput (iw (s1.n : Nat)) 1) ++ wactsL (l1.take i)).length) ∧ m.le m1 ∧ (FzA m1 s1 l1)) (s1.n) (0, sw) ⟨rfl, rfl, rfl, rfl, trivial⟩ (by simp only [List.take_zero, wactsL, List.append_nil]; rfl) ⟨⟨by omega, by simpa [wactsL] using hsn⟩, hm, hz⟩ ?_
  clear hm hz
  rintro k0 ⟨i, sv⟩ m1 ⟨hi0, hm, hz⟩
  obtain ⟨hi, hsn⟩ := hi0
  refine c_seq (fun K2 hK2 => ?_)
  refine c_region ?_
  refine r_y rfl rfl (y_iop rfl rfl rfl) ?_
  refine r_nil ?_
  refine hK2 _ _ _ ?_
  clear hK2 K2
  refine c_seq (fun K3 hK3 => ?_)
  refine c_cond rfl (fun h0 => ?_) (fun h0 => ?_)
  ·
    have hlt : i < s1.n := by simp at h0; omega
    obtain ⟨x, hx⟩ := get_of_lt (l := l1) (k := i) (by omega)
    refine c_skip ?_
    refine hK3 _ _ _ ?_
    clear hK3 K3
    refine c_seq (fun K4 hK4 => ?_)
    refine c_block ?_
    refine c_seq (fun K5 hK5 => ?_)
    refine c_region ?_
    refine r_y rfl rfl (y_indexAddr_slice rfl rfl tl30 hlt (At.fz hz hlt)) ?_
    refine r_y rfl rfl (y_load_a rfl ts53 (RdA.fz0 hz (map_get hx))) ?_
    refine r_s rfl ?_
    refine s_alloc rfl tz53 (fun b0 => ?_)
    refine r_s rfl ?_
    refine s_store (us := encAct x) rfl rfl rfl ts53 rfl rfl (one_act _) (i := 0) rfl rfl ?_
    refine r_nil ?_
    refine hK5 _ _ _ ?_
    clear hK5 K5
    refine c_seq (fun K6 hK6 => ?_)
    refine c_region ?_
    refine r_y rfl rfl (y_move rfl) ?_
    refine r_y rfl rfl (y_fieldAddr rfl At.lit fo53_0 rfl) ?_
    refine r_y rfl rfl (y_load_s rfl ts3 (RdS.blk (i := 0) rfl rfl)) ?_
    refine r_y rfl rfl (y_conv_iw rfl un3 un25) ?_
    refine r_front 2 rfl ?_
    refine r_front 2 rfl ?_
    refine r_s rfl ?_
    refine s_call0 rfl Try.call60 rfl (put_ok r _ _ _ 1 _ _ hsn (by simp [lim, headL] <;> omega)) ?_
    rintro _ m2 _ hm2 ⟨sw, hsn, rfl⟩
    replace hm := hm.trans hm2
    replace hz := hz.mono hm2
    clear hm2
    refine r_nil ?_
    refine hK6 _ _ _ ?_
    clear hK6 K6
    refine c_seq (fun K7 hK7 => ?_)
    refine c_region ?_
    refine r_y rfl rfl (y_move rfl) ?_
    refine r_y rfl rfl (y_fieldAddr rfl At.lit fo53_1 rfl) ?_
    refine r_y rfl rfl (y_load_s rfl ts3 (RdS.blk (i := 2) rfl rfl)) ?_
    refine r_y rfl rfl (y_conv_iw rfl un3 un25) ?_
    refine r_front 1 rfl ?_
    refine r_front 1 rfl ?_
    refine r_s rfl ?_
    refine s_call0 rfl Try.call60 rfl (put_ok r _ _ _ 1 _ _ hsn (by simp [lim, headL] <;> omega)) ?_
    rintro _ m2 _ hm2 ⟨sw, hsn, rfl⟩
    replace hm := hm.trans hm2
    replace hz := hz.mono hm2
    clear hm2
    refine r_nil ?_
    refine hK7 _ _ _ ?_
    clear hK7 K7
    refine c_seq (fun K8 hK8 => ?_)
    refine c_region ?_
    refine r_y rfl rfl (y_move rfl) ?_
    refine r_y rfl rfl (y_fieldAddr rfl At.lit fo53_2 rfl) ?_
    refine r_y rfl rfl (y_load_s rfl ts3 (RdS.blk (i := 2) rfl rfl)) ?_
    refine r_y rfl rfl (y_conv_iw rfl un3 un25) ?_
    refine r_front 1 rfl ?_
    refine r_front 1 rfl ?_
    refine r_s rfl ?_
    refine s_call0 rfl Try.call60 rfl (put_ok r _ _ _ 1 _ _ hsn (by simp [lim, headL] <;> omega)) ?_
    rintro _ m2 _ hm2 ⟨sw, hsn, rfl⟩
    replace hm := hm.trans hm2
    replace hz := hz.mono hm2
    clear hm2
    refine r_nil ?_
    refine hK8 _ _ _ ?_
    clear hK8 K8
    refine c_region ?_
    refine r_y rfl rfl (y_move rfl) ?_
    refine r_y rfl rfl (y_fieldAddr rfl At.lit fo53_3 rfl) ?_
    refine r_y rfl rfl (y_load_s rfl ts25 (RdS.blk (i := 2) rfl rfl)) ?_
    refine r_front 1 rfl ?_
    refine r_front 1 rfl ?_
    refine r_s rfl ?_
    refine s_call0 rfl Try.call60 rfl (put_ok r _ _ _ 8 _ _ hsn (by simp [lim, headL] <;> omega)) ?_
    rintro _ m2 _ hm2 ⟨sw, hsn, rfl⟩
    replace hm := hm.trans hm2
    replace hz := hz.mono hm2
    clear hm2
    refine r_nil ?_
    refine hK4 _ _ _ ?_
    clear hK4 K4
    refine c_region ?_
    refine r_del 2 rfl ?_
    first | refine r_y rfl rfl (y_inc rfl (by omega)) ?_ | refine r_y rfl rfl (y_iop rfl rfl rfl) ?_
    refine r_y rfl rfl (y_move rfl) ?_
    refine r_nil ?_
    exact ⟨k0 - 1, (i + 1, sw), by omega, ⟨rfl, rfl, rfl, rfl, trivial⟩, (by simp only [wacts_step hx, List.append_assoc]; rfl), ⟨by omega, by rw [hsn, wacts_step hx]; simp⟩, hm, hz⟩
  ·
    refine c_exit ?_
    refine e_norm 0 hm (res_tmps rfl) ?_
    obtain rfl : i = s1.n := by simp at h0; omega
    have e : (l ++ wput (iw (s1.n : Nat)) 1) ++ wactsL (l1.take s1.n) = l ++ wacts l1 := by rw [List.take_of_length_le (by omega), hl]; simp [wacts]
    exact ⟨sv, by rw [hsn, e], by simp only [e]; rfl⟩
set_option maxRecDepth 100000 in
theorem wmod_w (r : Nat) (s : Sl) (l : List UInt8) (x : ModD) (sm : Sl) (m : Snap) (H : Hp) (hz : FzA m sm x.acts) (hsn : s.n = l.length) (hfit : l.length + (206 + 11 * x.acts.length) ≤ lim) : Fn Try.prog 61 [.pointer (some ⟨r, 0, none⟩), .agg (encMod x sm).toArray] m (wItem r s :: vItem s l :: H) (fun v m' H' => ∃ s' : Sl, s'.n = (l ++ wmod x).length ∧ H' = wItem r s' :: vItem s' (l ++ wmod x) :: H) := by
  unfold lim at hfit
  have hm : m.le m := Snap.le.refl m
  refine fn_end Try.func61 rfl rfl rfl ?_
  refine c_seq (fun K0 hK0 => ?_)
  refine c_region ?_
  refine r_s rfl ?_
  refine s_box_a rfl rfl (fun b0 => ?_)
  refine r_nil ?_
  refine hK0 _ _ _ ?_
  clear hK0 K0
  refine c_seq (fun K1 hK1 => ?_)
  refine c_region ?_
  refine r_y rfl rfl (y_move rfl) ?_
  refine r_y rfl rfl (y_fieldAddr rfl At.lit fo32_0 rfl) ?_
  refine r_y rfl rfl (y_load_s rfl ts3 (RdS.blk (i := 0) rfl rfl)) ?_
  refine r_y rfl rfl (y_conv_iw rfl un3 un25) ?_
  refine r_front 2 rfl ?_
  refine r_front 2 rfl ?_
  refine r_s rfl ?_
  refine s_call0 rfl Try.call60 rfl (put_ok r _ _ _ 1 _ _ hsn (by simp [lim, headL] <;> omega)) ?_
  rintro _ m2 _ hm2 ⟨sw, hsn, rfl⟩
  replace hm := hm.trans hm2
  replace hz := hz.mono hm2
  clear hm2
  refine r_nil ?_
  refine hK1 _ _ _ ?_
  clear hK1 K1
  refine c_seq (fun K2 hK2 => ?_)
  refine c_region ?_
  refine r_y rfl rfl (y_move rfl) ?_
  refine r_y rfl rfl (y_fieldAddr rfl At.lit fo32_1 rfl) ?_
  refine r_y rfl rfl (y_load_a (cs := encCube x.m) rfl ts29 (RdA.blk (i := 2) rfl rfl)) ?_
  refine r_y rfl rfl (y_fieldAddr rfl At.lit fo32_2 rfl) ?_
  refine r_y rfl rfl (y_load_s rfl ts3 (RdS.blk (i := 2) rfl rfl)) ?_
  refine r_y rfl rfl (y_fieldAddr rfl At.lit fo32_4 rfl) ?_
  refine r_y rfl rfl (y_load_s rfl ts3 (RdS.blk (i := 2) rfl rfl)) ?_
  refine r_y rfl rfl (y_fieldAddr rfl At.lit fo32_5 rfl) ?_
  refine r_y rfl rfl (y_load_s rfl ts3 (RdS.blk (i := 2) rfl rfl)) ?_
  refine r_y rfl rfl (y_fieldAddr rfl At.lit fo32_6 rfl) ?_
  refine r_y rfl rfl (y_load_s rfl ts3 (RdS.blk (i := 2) rfl rfl)) ?_
  refine r_front 1 rfl ?_
  refine r_front 1 rfl ?_
  refine r_s rfl ?_
  refine s_call0 rfl Try.call114 rfl (wmatch_w r _ _ _ _ _ _ _ _ _ hsn (by simp [lim, headL] <;> omega)) ?_
  rintro _ m2 _ hm2 ⟨sw, hsn, rfl⟩
  replace hm := hm.trans hm2
  replace hz := hz.mono hm2
  clear hm2
  refine r_nil ?_
  refine hK2 _ _ _ ?_
  clear hK2 K2
  refine c_seq (fun K3 hK3 => ?_)
  refine c_region ?_
  refine r_y rfl rfl (y_assign rfl) ?_
  refine r_nil ?_
  refine hK3 _ _ _ ?_
  clear hK3 K3
  refine c_seq (fun K4 hK4 => ?_)
  refine c_seq (fun K5 hK5 => ?_)
  refine c_region ?_
  refine r_y rfl rfl (y_fieldAddr rfl At.lit fo32_7 rfl) ?_
  refine r_y rfl rfl (y_load_s rfl ts4 (RdS.blk (i := 2) rfl rfl)) ?_
  refine r_nil ?_
  refine hK5 _ _ _ ?_
  clear hK5 K5
  refine c_cond rfl (fun h0 => ?_) (fun h0 => ?_)
  ·
    refine c_region ?_
    refine r_y rfl rfl (y_assign rfl) ?_
    refine r_nil ?_
    refine hK4 _ _ _ ?_
    clear hK4 K4
    refine c_seq (fun K6 hK6 => ?_)
    refine c_region ?_
    refine r_y rfl rfl (y_move rfl) ?_
    refine r_y rfl rfl (y_move rfl) ?_
    refine r_front 1 rfl ?_
    refine r_front 1 rfl ?_
    refine r_s rfl ?_
    refine s_call0 rfl Try.call60 rfl (put_ok r _ _ (1#64) 1 _ _ hsn (by simp [lim, headL] <;> omega)) ?_
    rintro _ m2 _ hm2 ⟨sw, hsn, rfl⟩
    replace hm := hm.trans hm2
    replace hz := hz.mono hm2
    clear hm2
    refine r_nil ?_
    refine hK6 _ _ _ ?_
    clear hK6 K6
    refine c_region ?_
    refine r_y rfl rfl (y_move rfl) ?_
    refine r_y rfl rfl (y_fieldAddr rfl At.lit fo32_3 rfl) ?_
    refine r_y rfl rfl (y_load_s rfl ts30 (RdS.blk (i := 2) rfl rfl)) ?_
    refine r_front 1 rfl ?_
    refine r_front 1 rfl ?_
    refine r_s rfl ?_
    refine s_call0 rfl Try.call115 rfl (wacts_w r _ _ _ (x.acts) _ _ (hz) hsn (by simp [lim, headL] <;> omega)) ?_
    rintro _ m2 _ hm2 ⟨sw, hsn, rfl⟩
    replace hm := hm.trans hm2
    replace hz := hz.mono hm2
    clear hm2
    refine r_nil ?_
    refine e_normf [1, 1, 2] 1 hm (res_tmps rfl) ?_
    exact ⟨sw, by rw [hsn]; simp [wmod, h0], by simp [wmod, hdrop, h0]; try rfl⟩
  ·
    refine c_skip ?_
    refine hK4 _ _ _ ?_
    clear hK4 K4
    refine c_seq (fun K7 hK7 => ?_)
    refine c_region ?_
    refine r_y rfl rfl (y_move rfl) ?_
    refine r_y rfl rfl (y_move rfl) ?_
    refine r_front 1 rfl ?_
    refine r_front 1 rfl ?_
    refine r_s rfl ?_
    refine s_call0 rfl Try.call60 rfl (put_ok r _ _ (0#64) 1 _ _ hsn (by simp [lim, headL] <;> omega)) ?_
    rintro _ m2 _ hm2 ⟨sw, hsn, rfl⟩
    replace hm := hm.trans hm2
    replace hz := hz.mono hm2
    clear hm2
    refine r_nil ?_
    refine hK7 _ _ _ ?_
    clear hK7 K7
    refine c_region ?_
    refine r_y rfl rfl (y_move rfl) ?_
    refine r_y rfl rfl (y_fieldAddr rfl At.lit fo32_3 rfl) ?_
    refine r_y rfl rfl (y_load_s rfl ts30 (RdS.blk (i := 2) rfl rfl)) ?_
    refine r_front 1 rfl ?_
    refine r_front 1 rfl ?_
    refine r_s rfl ?_
    refine s_call0 rfl Try.call115 rfl (wacts_w r _ _ _ (x.acts) _ _ (hz) hsn (by simp [lim, headL] <;> omega)) ?_
    rintro _ m2 _ hm2 ⟨sw, hsn, rfl⟩
    replace hm := hm.trans hm2
    replace hz := hz.mono hm2
    clear hm2
    refine r_nil ?_
    refine e_normf [1, 1, 2] 1 hm (res_tmps rfl) ?_
    exact ⟨sw, by rw [hsn]; simp [wmod, h0], by simp [wmod, hdrop, h0]; try rfl⟩
set_option maxRecDepth 100000 in
theorem wrules_w (r : Nat) (s : Sl) (l : List UInt8) (s1 : Sl) (l1 : List (RuleD × Sl)) (m : Snap) (H : Hp) (hz : FzR m s1 l1) (hact : ∀ x ∈ l1.map (·.1), x.acts.length ≤ 8) (hsn : s.n = l.length) (hfit : l.length + (2 + 316 * l1.length) ≤ lim) : Fn Try.prog 63 [.pointer (some ⟨r, 0, none⟩), s1.v] m (wItem r s :: vItem s l :: H) (fun v m' H' => ∃ s' : Sl, s'.n = (l ++ wrules (l1.map (·.1))).length ∧ H' = wItem r s' :: vItem s' (l ++ wrules (l1.map (·.1))) :: H) := by
  unfold lim at hfit
  have hl := hz.len
  have hmx := hz.fz.max
  have hle := hz.fz.le
  unfold maxLen at hmx
  have hm : m.le m := Snap.le.refl m
  refine fn_end Try.func63 rfl rfl rfl ?_
  refine c_seq (fun K0 hK0 => ?_)
  refine c_region ?_
  refine r_y rfl rfl (y_move rfl) ?_
  refine r_y rfl rfl (y_move rfl) ?_
  refine r_y rfl rfl (y_len tl33 rfl) ?_
  refine r_y rfl rfl (y_conv_iw rfl un3 un25) ?_
  refine r_front 1 rfl ?_
  refine r_front 1 rfl ?_
  refine r_s rfl ?_
  refine s_call0 rfl Try.call60 rfl (put_ok r _ _ _ 2 _ _ hsn (by simp [lim, headL] <;> omega)) ?_
  rintro _ m2 _ hm2 ⟨sw, hsn, rfl⟩
  replace hm := hm.trans hm2
  replace hz := hz.mono hm2
  clear hm2
  refine r_nil ?_
  refine hK0 _ _ _ ?_
  clear hK0 K0
  refine c_seq (fun K1 hK1 => ?_)
  refine c_region ?_
  refine r_y rfl rfl (y_move rfl) ?_
  refine r_y rfl rfl (y_len tl33 rfl) ?_
  refine r_y rfl rfl (y_move rfl) ?_
  refine r_nil ?_
  refine hK1 _ _ _ ?_
  clear hK1 K1
  refine c_block ?_
  refine c_loopx (α := Nat × Sl) (fun vv => match vv with | (i, sv) => [(0, .pointer (some ⟨r, 0, none⟩)), (13, s1.v), (14, .int .i64 (s1.n : Nat)), (15, .int .i64 (i : Nat))]) (fun vv => match vv with | (i, sv) => wItem r sv :: vItem sv ((l ++ wput (iw (s1.n : Nat)) 2) ++ wrulesL ((l1.map (·.1)).take i)) :: H) (fun k0 vv m1 => match vv with | (i, sv) => (i + k0 = s1.n ∧ sv.n = ((l ++ wput (iw (s1.n : Nat)) 2) ++ wrulesL ((l1.map (·.1)).take i)).length) ∧ m.le m1 ∧ (FzR m1 s1 l1)) (s1.n) (0, sw) ⟨rfl, rfl, rfl, rfl, trivial⟩ (by simp only [List.take_zero, wrulesL, List.append_nil]; rfl) ⟨⟨by omega, by simpa [wrulesL] using hsn⟩, hm, hz⟩ ?_
  clear hm hz
  rintro k0 ⟨i, sv⟩ m1 ⟨hi0, hm, hz⟩
  obtain ⟨hi, hsn⟩ := hi0
  have hbd := wrulesL_take (k := 8) i hact
  refine c_seq (fun K2 hK2 => ?_)
  refine c_region ?_
  refine r_y rfl rfl (y_iop rfl rfl rfl) ?_
  refine r_nil ?_
  refine hK2 _ _ _ ?_
  clear hK2 K2
  refine c_seq (fun K3 hK3 => ?_)
  refine c_cond rfl (fun h0 => ?_) (fun h0 => ?_)
  ·
    have hlt : i < s1.n := by simp at h0; omega
    obtain ⟨x, hx⟩ := get_of_lt (l := l1) (k := i) (by omega)
    have hx1 : (l1.map (·.1))[i]? = some x.1 := map_get hx
    have hxa := hact x.1 (List.mem_of_getElem? hx1)
    refine c_skip ?_
    refine hK3 _ _ _ ?_
    clear hK3 K3
    refine c_seq (fun K4 hK4 => ?_)
    refine c_block ?_
    refine c_seq (fun K5 hK5 => ?_)
    refine c_region ?_
    refine r_y rfl rfl (y_indexAddr_slice rfl rfl tl33 hlt (At.fz hz.fz hlt)) ?_
    refine r_y rfl rfl (y_load_a rfl ts50 (RdA.fz0 hz.fz (map_get hx))) ?_
    refine r_s rfl ?_
    refine s_alloc rfl tz50 (fun b0 => ?_)
    refine r_s rfl ?_
    refine s_store (us := encRule x.1 x.2) rfl rfl rfl ts50 rfl rfl (one_rule _ _) (i := 0) rfl rfl ?_
    refine r_nil ?_
    refine hK5 _ _ _ ?_
    clear hK5 K5
    refine c_seq (fun K6 hK6 => ?_)
    refine c_region ?_
    refine r_y rfl rfl (y_move rfl) ?_
    refine r_y rfl rfl (y_fieldAddr rfl At.lit fo50_0 rfl) ?_
    refine r_y rfl rfl (y_load_a (cs := encCube x.1.m) rfl ts29 (RdA.blk (i := 0) rfl rfl)) ?_
    refine r_y rfl rfl (y_fieldAddr rfl At.lit fo50_1 rfl) ?_
    refine r_y rfl rfl (y_load_s rfl ts3 (RdS.blk (i := 0) rfl rfl)) ?_
    refine r_y rfl rfl (y_fieldAddr rfl At.lit fo50_3 rfl) ?_
    refine r_y rfl rfl (y_load_s rfl ts3 (RdS.blk (i := 0) rfl rfl)) ?_
    refine r_y rfl rfl (y_fieldAddr rfl At.lit fo50_4 rfl) ?_
    refine r_y rfl rfl (y_load_s rfl ts3 (RdS.blk (i := 0) rfl rfl)) ?_
    refine r_y rfl rfl (y_fieldAddr rfl At.lit fo50_5 rfl) ?_
    refine r_y rfl rfl (y_load_s rfl ts3 (RdS.blk (i := 0) rfl rfl)) ?_
    refine r_front 2 rfl ?_
    refine r_front 2 rfl ?_
    refine r_s rfl ?_
    refine s_call0 rfl Try.call114 rfl (wmatch_w r _ _ _ _ _ _ _ _ _ hsn (by simp [lim, headL] <;> omega)) ?_
    rintro _ m2 _ hm2 ⟨sw, hsn, rfl⟩
    replace hm := hm.trans hm2
    replace hz := hz.mono hm2
    clear hm2
    refine r_nil ?_
    refine hK6 _ _ _ ?_
    clear hK6 K6
    refine c_seq (fun K7 hK7 => ?_)
    refine c_seq (fun K8 hK8 => ?_)
    refine c_region ?_
    refine r_y rfl rfl (y_fieldAddr rfl At.lit fo50_6 rfl) ?_
    refine r_y rfl rfl (y_load_s rfl ts3 (RdS.blk (i := 2) rfl rfl)) ?_
    refine r_y rfl rfl (y_fieldAddr rfl At.lit fo50_7 rfl) ?_
    refine r_y rfl rfl (y_load_s rfl ts3 (RdS.blk (i := 2) rfl rfl)) ?_
    refine r_y rfl rfl (y_fieldAddr rfl At.lit fo50_8 rfl) ?_
    refine r_y rfl rfl (y_load_s rfl ts3 (RdS.blk (i := 2) rfl rfl)) ?_
    refine r_y rfl rfl (y_bld rfl tz155 fk155 bp155_0_1_2 rfl rfl) ?_
    refine r_y rfl rfl (y_move rfl) ?_
    refine r_nil ?_
    refine hK8 _ _ _ ?_
    clear hK8 K8
    refine c_block ?_
    refine c_loopx (α := Nat × Sl) (fun vv => match vv with | (j, sv2) => [(0, .pointer (some ⟨r, 0, none⟩)), (5, .pointer (some ⟨b0, 0, none⟩)), (13, s1.v), (14, .int .i64 (s1.n : Nat)), (15, .int .i64 (i : Nat)), (37, .agg ([x.1.hits, x.1.quiet, x.1.age].map i64).toArray), (38, .int .i64 (j : Nat))]) (fun vv => match vv with | (j, sv2) => wItem r sv2 :: vItem sv2 ((((l ++ wput (iw (s1.n : Nat)) 2) ++ wrulesL ((l1.map (·.1)).take i)) ++ wmatch x.1.m x.1.prio x.1.idle x.1.hard x.1.owner) ++ wputs 8 (([x.1.hits, x.1.quiet, x.1.age].take j).map iw)) :: .blk b0 (.cells (encRule x.1 x.2).toArray 50) :: H) (fun k1 vv m1 => match vv with | (j, sv2) => (j + k1 = 3 ∧ sv2.n = ((((l ++ wput (iw (s1.n : Nat)) 2) ++ wrulesL ((l1.map (·.1)).take i)) ++ wmatch x.1.m x.1.prio x.1.idle x.1.hard x.1.owner) ++ wputs 8 (([x.1.hits, x.1.quiet, x.1.age].take j).map iw)).length) ∧ m.le m1 ∧ (FzR m1 s1 l1)) (3) (0, sw) ⟨rfl, rfl, rfl, rfl, rfl, rfl, rfl, trivial⟩ (by simp only [List.take_zero, List.map_nil, wputs, List.append_nil]; rfl) ⟨⟨by omega, by simpa [wputs] using hsn⟩, hm, hz⟩ ?_
    clear hm hz
    rintro k1 ⟨j, sv2⟩ m1 ⟨hi1, hm, hz⟩
    obtain ⟨hj, hsn⟩ := hi1
    refine c_seq (fun K9 hK9 => ?_)
    refine c_region ?_
    refine r_y rfl rfl (y_iop rfl rfl rfl) ?_
    refine r_nil ?_
    refine hK9 _ _ _ ?_
    clear hK9 K9
    refine c_seq (fun K10 hK10 => ?_)
    refine c_cond rfl (fun h1 => ?_) (fun h1 => ?_)
    ·
      have hltj : j < 3 := by simp at h1; omega
      obtain ⟨y, hy⟩ := get_of_lt (l := [x.1.hits, x.1.quiet, x.1.age]) (k := j) (by simpa using hltj)
      refine c_skip ?_
      refine hK10 _ _ _ ?_
      clear hK10 K10
      refine c_seq (fun K11 hK11 => ?_)
      refine c_block ?_
      refine c_seq (fun K12 hK12 => ?_)
      refine c_region ?_
      refine r_y rfl rfl (y_index_arr rfl rfl ta155 hltj (cget_ints hy)) ?_
      refine r_y rfl rfl (y_assign rfl) ?_
      refine r_nil ?_
      refine hK12 _ _ _ ?_
      clear hK12 K12
      refine c_region ?_
      refine r_y rfl rfl (y_move rfl) ?_
      refine r_y rfl rfl (y_move rfl) ?_
      refine r_y rfl rfl (y_conv_iw rfl un3 un25) ?_
      refine r_front 1 rfl ?_
      refine r_front 1 rfl ?_
      refine r_s rfl ?_
      refine s_call0 rfl Try.call60 rfl (put_ok r _ _ _ 8 _ _ hsn (by simp [lim, headL] <;> omega)) ?_
      rintro _ m2 _ hm2 ⟨sw, hsn, rfl⟩
      replace hm := hm.trans hm2
      replace hz := hz.mono hm2
      clear hm2
      refine r_nil ?_
      refine hK11 _ _ _ ?_
      clear hK11 K11
      refine c_region ?_
      first | refine r_y rfl rfl (y_inc rfl (by omega)) ?_ | refine r_y rfl rfl (y_iop rfl rfl rfl) ?_
      refine r_y rfl rfl (y_move rfl) ?_
      refine r_nil ?_
      exact ⟨k1 - 1, (j + 1, sw), by omega, ⟨rfl, rfl, rfl, rfl, rfl, rfl, rfl, trivial⟩, (by simp only [wputs_step hy, List.append_assoc]; rfl), ⟨by omega, by rw [hsn, wputs_step hy]; simp⟩, hm, hz⟩
    ·
      obtain rfl : j = 3 := by simp at h1; omega
      refine c_exit ?_
      refine hK7 _ _ _ ?_
      clear hK10 K10 hK7 K7
      refine c_region ?_
      refine r_y rfl rfl (y_move rfl) ?_
      refine r_y rfl rfl (y_fieldAddr rfl At.lit fo50_2 rfl) ?_
      refine r_y rfl rfl (y_load_s rfl ts30 (RdS.blk (i := 2) rfl rfl)) ?_
      refine r_front 1 rfl ?_
      refine r_front 1 rfl ?_
      refine r_s rfl ?_
      refine s_call0 rfl Try.call115 rfl (wacts_w r _ _ _ (x.1.acts) _ _ ((hz.acts x (List.mem_of_getElem? hx)).1) hsn (by simp [lim, headL] <;> omega)) ?_
      rintro _ m2 _ hm2 ⟨sw, hsn, rfl⟩
      replace hm := hm.trans hm2
      replace hz := hz.mono hm2
      clear hm2
      refine r_nil ?_
      refine hK4 _ _ _ ?_
      clear hK4 K4
      refine c_region ?_
      refine r_del 2 rfl ?_
      first | refine r_y rfl rfl (y_inc rfl (by omega)) ?_ | refine r_y rfl rfl (y_iop rfl rfl rfl) ?_
      refine r_y rfl rfl (y_move rfl) ?_
      refine r_nil ?_
      exact ⟨k0 - 1, (i + 1, sw), by omega, ⟨rfl, rfl, rfl, rfl, trivial⟩, (by simp only [wrules_step hx1, wrule, List.append_assoc]; rfl), ⟨by omega, by rw [hsn, wrules_step hx1]; simp [wrule]⟩, hm, hz⟩
  ·
    refine c_exit ?_
    refine e_norm 0 hm (res_tmps rfl) ?_
    obtain rfl : i = s1.n := by simp at h0; omega
    have e : (l ++ wput (iw (s1.n : Nat)) 2) ++ wrulesL ((l1.map (·.1)).take s1.n) = l ++ wrules (l1.map (·.1)) := by rw [List.take_of_length_le (by simp; omega), hl]; simp [wrules]
    exact ⟨sv, by rw [hsn, e], by simp only [e]; rfl⟩
end Go.Aw
