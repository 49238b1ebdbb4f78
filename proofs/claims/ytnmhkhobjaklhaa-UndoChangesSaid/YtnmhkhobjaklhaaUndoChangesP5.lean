/- Part 5 of the words and walks that the proof behind it uses. -/
import Derived.Test.YtnmhkhobjaklhaaUndoChangesP4
set_option linter.unusedVariables false
set_option linter.unusedSimpArgs false
set_option maxHeartbeats 1000000
namespace Go.Aw
open Go Go.Proofs
theorem zo4 : zeroOk Try.prog 4 = true := by kernel_rfl
theorem tb4 : tbytes Try.prog 4 = some 1 := by kernel_rfl
theorem tl166 : tslice Try.prog 166 = some (4, 1) := by kernel_rfl
set_option maxRecDepth 100000 in
theorem rBits_w (z : W) (k : Nat) (m : Snap) (H : Hp) (hk : k ≤ 63) : Fn Try.prog 140 [wv z, .int .i64 (k : Nat)] m H (fun v m' H' => ∃ sb : Sl, v = sb.v ∧ FzT m' sb (bitsL z k) ∧ H' = H) := by
  have hm : m.le m := Snap.le.refl m
  refine fn_end Try.func140 rfl rfl rfl ?_
  refine c_seq (fun K0 hK0 => ?_)
  refine c_region ?_
  refine r_y rfl rfl (y_assign rfl) ?_
  refine r_nil ?_
  refine hK0 _ _ _ ?_
  clear hK0 K0
  refine c_seq (fun K1 hK1 => ?_)
  refine c_region ?_
  refine r_nilvec 4 1 ?_
  refine r_y rfl rfl (y_assign rfl) ?_
  refine r_nil ?_
  refine hK1 _ _ _ ?_
  clear hK1 K1
  refine c_seq (fun K2 hK2 => ?_)
  refine c_seq (fun K3 hK3 => ?_)
  refine c_region ?_
  refine r_y rfl rfl (y_move rfl) ?_
  refine r_y rfl rfl (y_dec' rfl (by omega)) ?_
  refine r_y rfl rfl (y_assign rfl) ?_
  refine r_nil ?_
  refine hK3 _ _ _ ?_
  clear hK3 K3
  refine c_block ?_
  refine c_loopx (α := Nat × List Bool × Sl) (fun vv => match vv with | (j, l1, sv) => [(0, wv z), (5, sv.v), (6, .int .i64 ((j : Int) - 1))]) (fun vv => match vv with | (j, l1, sv) => .vec sv.a sv.n sv.cap 4 1 (l1.map fun b => [.bool b]) :: H) (fun k0 vv m1 => match vv with | (j, l1, sv) => (j = k0 ∧ sv.n = l1.length ∧ l1.length + j = k ∧ bitsL z k = l1 ++ bitsL z j) ∧ m.le m1) (k) (k, [], zSl) ⟨rfl, rfl, rfl, trivial⟩ rfl ⟨⟨rfl, rfl, by simp, rfl⟩, hm⟩ ?_
  clear hm
  rintro k0 ⟨j, l1, sv⟩ m1 ⟨hi0, hm⟩
  obtain ⟨hi, hsn, hb, hinv⟩ := hi0
  refine c_seq (fun K4 hK4 => ?_)
  refine c_seq (fun K5 hK5 => ?_)
  refine c_region ?_
  refine r_y rfl rfl (y_move rfl) ?_
  refine r_y rfl rfl (y_iop rfl rfl rfl) ?_
  refine r_nil ?_
  refine hK5 _ _ _ ?_
  clear hK5 K5
  refine c_cond rfl (fun h0 => ?_) (fun h0 => ?_)
  ·
    refine c_skip ?_
    refine hK4 _ _ _ ?_
    clear hK4 K4
    refine c_seq (fun K6 hK6 => ?_)
    refine c_block ?_
    refine c_region ?_
    refine r_y rfl rfl (y_move rfl) ?_
    refine r_y rfl rfl (y_move rfl) ?_
    refine r_y rfl rfl (y_move rfl) ?_
    obtain ⟨j, rfl⟩ : ∃ i, j = i + 1 := ⟨j - 1, by simp at h0; omega⟩
    refine r_y rfl rfl (y_conv_ij rfl un3 un158 (by omega)) ?_
    refine r_y rfl rfl (y_wshr (b := j) rfl rfl) ?_
    refine r_y rfl rfl (y_wop rfl (opv_wc 1#64) rfl) ?_
    refine r_y rfl rfl (y_wop rfl (opv_wc 1#64) rfl) ?_
    refine r_s rfl ?_
    refine s_buildSlice (cs := [.bool ((z >>> j) &&& 1#64 == 1#64)]) (e := 4) rfl rfl (fun _ => by kernel_rfl) (fun b0 => ?_)
    refine r_s rfl ?_
    refine s_append rfl rfl rfl tl166 zo4 tb4 (i := 1) rfl (Src.one' (i := 0) rfl rfl (by simp [Value.oneCell'])) (by omega) (by unfold maxLen; omega) (fun a1 c1 => ?_)
    refine r_del 0 rfl ?_
    refine r_y rfl rfl (y_assign rfl) ?_
    refine r_nil ?_
    refine hK6 _ _ _ ?_
    clear hK6 K6
    refine c_region ?_
    refine r_y rfl rfl (y_move rfl) ?_
    refine r_y rfl rfl (y_decj rfl (by omega)) ?_
    refine r_y rfl rfl (y_assign rfl) ?_
    refine r_nil ?_
    exact ⟨k0 - 1, (j, l1 ++ [(z >>> j) &&& 1#64 == 1#64], ⟨a1, sv.n + 1, c1⟩), by omega, ⟨rfl, rfl, rfl, trivial⟩, (by simp only [List.map_append]; rfl), ⟨by omega, by simp [hsn], by simp; omega, by rw [hinv]; simp [bitsL]⟩, hm⟩
  ·
    refine c_exit ?_
    refine hK2 _ _ _ ?_
    clear hK4 K4 hK2 K2
    refine c_seq (fun K7 hK7 => ?_)
    refine c_region ?_
    refine r_freezeVec (i := 0) rfl rfl (fun m3 hm3 hzb hnil => ?_)
    replace hm := hm.trans hm3
    clear hm3
    refine r_y rfl rfl (y_move rfl) ?_
    refine r_y rfl rfl (y_assign rfl) ?_
    refine r_nil ?_
    refine hK7 _ _ _ ?_
    clear hK7 K7
    refine c_ret ?_
    refine e_ret 0 hm (res_tmps rfl) ?_
    obtain rfl : j = 0 := by simp at h0; omega
    rw [hinv]
    exact ⟨sv, rfl, by simpa [bitsL] using hzb, rfl⟩
set_option maxRecDepth 100000 in
theorem rText_w (c : Cube) (m : Snap) (H : Hp) : Fn Try.prog 98 [.agg (encCube c).toArray] m H (fun v _ H' => v = .tuple [.string (strB (textN c 12)), .bool (cubeSound c)].toArray ∧ H' = H) := by
  have hm : m.le m := Snap.le.refl m
  refine fn_end Try.func98 rfl rfl rfl ?_
  refine c_seq (fun K0 hK0 => ?_)
  refine c_region ?_
  refine r_s rfl ?_
  refine s_box_a rfl rfl (fun b0 => ?_)
  refine r_y rfl rfl (y_assign rfl) ?_
  refine r_y rfl rfl (y_assign rfl) ?_
  refine r_nil ?_
  refine hK0 _ _ _ ?_
  clear hK0 K0
  refine c_seq (fun K1 hK1 => ?_)
  refine c_region ?_
  refine r_nilvec 5 1 ?_
  refine r_y rfl rfl (y_assign rfl) ?_
  refine r_nil ?_
  refine hK1 _ _ _ ?_
  clear hK1 K1
  refine c_seq (fun K2 hK2 => ?_)
  refine c_region ?_
  refine r_y rfl rfl (y_fieldAddr rfl At.lit fo29_1 rfl) ?_
  refine r_y rfl rfl (y_load_a (cs := encHead c.care) rfl ts27 (RdA.blk (i := 1) rfl rfl)) ?_
  refine r_s rfl ?_
  refine s_call0 rfl Try.call64 rfl (rHead_w c.care _ _) ?_
  rintro _ m2 _ hm2 ⟨rfl, rfl⟩
  replace hm := hm.trans hm2
  clear hm2
  refine r_y rfl rfl (y_assign rfl) ?_
  refine r_nil ?_
  refine hK2 _ _ _ ?_
  clear hK2 K2
  refine c_seq (fun K3 hK3 => ?_)
  refine c_seq (fun K4 hK4 => ?_)
  refine c_region ?_
  refine r_y rfl rfl (y_assign rfl) ?_
  refine r_nil ?_
  refine hK4 _ _ _ ?_
  clear hK4 K4
  refine c_block ?_
  refine c_loopx (α := Nat × Bool × Sl) (fun vv => match vv with | (i, ok, sv) => [(1, .pointer (some ⟨b0, 0, none⟩)), (4, sv.v), (5, .bool ok), (6, .int .i64 (i : Nat))]) (fun vv => match vv with | (i, ok, sv) => .vec sv.a sv.n sv.cap 5 1 (bytes1 (textN c i)) :: .blk b0 (.cells (encCube c).toArray 29) :: H) (fun k0 vv m1 => match vv with | (i, ok, sv) => (i + k0 = 12 ∧ sv.n = (textN c i).length ∧ ok = (headSound c.care && (List.range i).all fun i => (c.value.at i &&& ~~~(c.care.at i)) == 0)) ∧ m.le m1) (12) (0, headSound c.care, zSl) ⟨rfl, rfl, rfl, rfl, trivial⟩ rfl ⟨⟨by omega, rfl, by simp⟩, hm⟩ ?_
  clear hm
  rintro k0 ⟨i, ok, sv⟩ m1 ⟨hi0, hm⟩
  obtain ⟨hi, hsn, hok⟩ := hi0
  refine c_seq (fun K5 hK5 => ?_)
  refine c_seq (fun K6 hK6 => ?_)
  refine c_region ?_
  refine r_y rfl rfl (y_move rfl) ?_
  refine r_y rfl rfl (y_iop rfl rfl rfl) ?_
  refine r_nil ?_
  refine hK6 _ _ _ ?_
  clear hK6 K6
  refine c_cond rfl (fun h0 => ?_) (fun h0 => ?_)
  ·
    have hlt : i < 12 := by simp at h0; omega
    refine c_skip ?_
    refine hK5 _ _ _ ?_
    clear hK5 K5
    refine c_seq (fun K7 hK7 => ?_)
    refine c_block ?_
    refine c_seq (fun K8 hK8 => ?_)
    refine c_seq (fun K9 hK9 => ?_)
    refine c_draw ([.blk b0 (.cells (encCube c).toArray 29)]) (by kernel_rfl) (fun hg => ?_)
    refine g_y (i := 0) (listed' := #[true, false, false, false, false, false, false, false, false, false]) rfl (by kernel_rfl) (by kernel_rfl) (by kernel_rfl) (by kernel_rfl) rfl rfl hg (allc (List.Mem.tail _ (List.Mem.head _)) alln) (fun m' H' hm' hX' => y_move rfl) ?_
    refine g_y (i := 1) (listed' := #[true, true, false, false, false, false, false, false, false, false]) rfl (by kernel_rfl) (by kernel_rfl) (by kernel_rfl) (by kernel_rfl) rfl rfl hg (allc (List.Mem.tail _ (List.Mem.head _)) alln) (fun m' H' hm' hX' => y_fieldAddr rfl At.lit fo29_0 rfl) ?_
    refine g_y (i := 2) (listed' := #[true, true, true, false, false, false, false, false, false, false]) rfl (by kernel_rfl) (by kernel_rfl) (by kernel_rfl) (by kernel_rfl) rfl rfl hg (allc (List.Mem.tail _ (List.Mem.head _)) alln) (fun m' H' hm' hX' => y_indexAddr_arr rfl rfl ta27 hlt At.lit) ?_
    refine g_y (i := 3) (listed' := #[true, true, true, true, false, false, false, false, false, false]) rfl (by kernel_rfl) (by kernel_rfl) (by kernel_rfl) (by kernel_rfl) rfl rfl hg (allc (List.Mem.tail _ (List.Mem.head _)) alln) (fun m' H' hm' hX' => y_load_s rfl ts25 (RdS.mem (hX' _ (List.Mem.head _)) (cget_value _ _ hlt))) ?_
    refine g_y (i := 4) (listed' := #[true, true, true, true, true, false, false, false, false, false]) rfl (by kernel_rfl) (by kernel_rfl) (by kernel_rfl) (by kernel_rfl) rfl rfl hg (allc (List.Mem.tail _ (List.Mem.head _)) alln) (fun m' H' hm' hX' => y_move rfl) ?_
    refine g_y (i := 5) (listed' := #[true, true, true, true, true, true, false, false, false, false]) rfl (by kernel_rfl) (by kernel_rfl) (by kernel_rfl) (by kernel_rfl) rfl rfl hg (allc (List.Mem.tail _ (List.Mem.head _)) alln) (fun m' H' hm' hX' => y_fieldAddr rfl At.lit fo29_1 rfl) ?_
    refine g_y (i := 6) (listed' := #[true, true, true, true, true, true, true, false, false, false]) rfl (by kernel_rfl) (by kernel_rfl) (by kernel_rfl) (by kernel_rfl) rfl rfl hg (allc (List.Mem.tail _ (List.Mem.head _)) alln) (fun m' H' hm' hX' => y_indexAddr_arr rfl rfl ta27 hlt At.lit) ?_
    refine g_y (i := 7) (listed' := #[true, true, true, true, true, true, true, true, false, false]) rfl (by kernel_rfl) (by kernel_rfl) (by kernel_rfl) (by kernel_rfl) rfl rfl hg (allc (List.Mem.tail _ (List.Mem.head _)) alln) (fun m' H' hm' hX' => y_load_s rfl ts25 (RdS.mem (hX' _ (List.Mem.head _)) (cget_care _ _ hlt))) ?_
    refine g_y (i := 8) (listed' := #[true, true, true, true, true, true, true, true, true, false]) rfl (by kernel_rfl) (by kernel_rfl) (by kernel_rfl) (by kernel_rfl) rfl rfl hg (allc (List.Mem.tail _ (List.Mem.head _)) alln) (fun m' H' hm' hX' => y_wop rfl rfl rfl) ?_
    refine g_y (i := 9) (listed' := #[true, true, true, true, true, true, true, true, true, true]) rfl (by kernel_rfl) (by kernel_rfl) (by kernel_rfl) (by kernel_rfl) rfl rfl hg (allc (List.Mem.tail _ (List.Mem.head _)) alln) (fun m' H' hm' hX' => y_wop rfl (opv_wc 0#64) rfl) ?_
    refine g_done (by kernel_rfl) ?_
    clear hg
    refine hK9 _ _ _ ?_
    clear hK9 K9
    refine c_cond rfl (fun hv => ?_) (fun hv => ?_)
    ·
      refine c_region ?_
      refine r_y rfl rfl (y_assign rfl) ?_
      refine r_nil ?_
      refine hK8 _ _ _ ?_
      clear hK8 K8
      refine c_seq (fun K10 hK10 => ?_)
      refine c_draw ([.blk b0 (.cells (encCube c).toArray 29)]) (by kernel_rfl) (fun hg => ?_)
      refine g_y (i := 0) (listed' := #[true, false, false, false, false, false, false, false, false, false, false, false, false, false, false, false]) rfl (by kernel_rfl) (by kernel_rfl) (by kernel_rfl) (by kernel_rfl) rfl rfl hg (allc (List.Mem.tail _ (List.Mem.head _)) alln) (fun m' H' hm' hX' => y_move rfl) ?_
      refine g_y (i := 1) (listed' := #[true, true, false, false, false, false, false, false, false, false, false, false, false, false, false, false]) rfl (by kernel_rfl) (by kernel_rfl) (by kernel_rfl) (by kernel_rfl) rfl rfl hg (allc (List.Mem.tail _ (List.Mem.head _)) alln) (fun m' H' hm' hX' => y_fieldAddr rfl At.lit fo29_0 rfl) ?_
      refine g_y (i := 2) (listed' := #[true, true, true, false, false, false, false, false, false, false, false, false, false, false, false, false]) rfl (by kernel_rfl) (by kernel_rfl) (by kernel_rfl) (by kernel_rfl) rfl rfl hg (allc (List.Mem.tail _ (List.Mem.head _)) alln) (fun m' H' hm' hX' => y_indexAddr_arr rfl rfl ta27 hlt At.lit) ?_
      refine g_y (i := 3) (listed' := #[true, true, true, true, false, false, false, false, false, false, false, false, false, false, false, false]) rfl (by kernel_rfl) (by kernel_rfl) (by kernel_rfl) (by kernel_rfl) rfl rfl hg (allc (List.Mem.tail _ (List.Mem.head _)) alln) (fun m' H' hm' hX' => y_load_s rfl ts25 (RdS.mem (hX' _ (List.Mem.head _)) (cget_value _ _ hlt))) ?_
      refine g_y (i := 4) (listed' := #[true, true, true, true, true, false, false, false, false, false, false, false, false, false, false, false]) rfl (by kernel_rfl) (by kernel_rfl) (by kernel_rfl) (by kernel_rfl) rfl rfl hg (allc (List.Mem.tail _ (List.Mem.head _)) alln) (fun m' H' hm' hX' => y_move rfl) ?_
      refine g_y (i := 7) (listed' := #[true, true, true, true, true, false, false, true, false, false, false, false, false, false, false, false]) rfl (by kernel_rfl) (by kernel_rfl) (by kernel_rfl) (by kernel_rfl) rfl rfl hg (allc (List.Mem.tail _ (List.Mem.head _)) alln) (fun m' H' hm' hX' => y_move rfl) ?_
      refine g_y (i := 8) (listed' := #[true, true, true, true, true, false, false, true, true, false, false, false, false, false, false, false]) rfl (by kernel_rfl) (by kernel_rfl) (by kernel_rfl) (by kernel_rfl) rfl rfl hg (allc (List.Mem.tail _ (List.Mem.head _)) alln) (fun m' H' hm' hX' => y_fieldAddr rfl At.lit fo29_1 rfl) ?_
      refine g_y (i := 9) (listed' := #[true, true, true, true, true, false, false, true, true, true, false, false, false, false, false, false]) rfl (by kernel_rfl) (by kernel_rfl) (by kernel_rfl) (by kernel_rfl) rfl rfl hg (allc (List.Mem.tail _ (List.Mem.head _)) alln) (fun m' H' hm' hX' => y_indexAddr_arr rfl rfl ta27 hlt At.lit) ?_
      refine g_y (i := 10) (listed' := #[true, true, true, true, true, false, false, true, true, true, true, false, false, false, false, false]) rfl (by kernel_rfl) (by kernel_rfl) (by kernel_rfl) (by kernel_rfl) rfl rfl hg (allc (List.Mem.tail _ (List.Mem.head _)) alln) (fun m' H' hm' hX' => y_load_s rfl ts25 (RdS.mem (hX' _ (List.Mem.head _)) (cget_care _ _ hlt))) ?_
      refine g_y (i := 11) (listed' := #[true, true, true, true, true, false, false, true, true, true, true, true, false, false, false, false]) rfl (by kernel_rfl) (by kernel_rfl) (by kernel_rfl) (by kernel_rfl) rfl rfl hg (allc (List.Mem.tail _ (List.Mem.head _)) alln) (fun m' H' hm' hX' => y_move rfl) ?_
      refine g_s (i := 5) (listed' := #[true, true, true, true, true, true, false, true, true, true, true, true, false, false, false, false]) rfl (by kernel_rfl) (by kernel_rfl) rfl ?_
      refine s_call0 rfl Try.call117 rfl (rSize_w _ _ _) ?_
      rintro _ m2 _ hm2 ⟨rfl, rfl⟩
      replace hm := hm.trans hm2
      refine ⟨⟨hg.trans hm2, (allc (List.Mem.tail _ (List.Mem.head _)) alln)⟩, ?_⟩
      replace hg := hg.trans hm2
      clear hm2
      refine g_s (i := 6) (listed' := #[true, true, true, true, true, true, true, true, true, true, true, true, false, false, false, false]) rfl (by kernel_rfl) (by kernel_rfl) rfl ?_
      refine s_call0 rfl Try.call140 rfl (rBits_w (c.value.at i) (hsz (i : Int)) _ _ (Nat.le_trans (hsz_le _) (by decide))) ?_
      rintro _ m2 _ hm2 ⟨sa1, rfl, hza1, rfl⟩
      replace hm := hm.trans hm2
      refine ⟨⟨hg.trans hm2, (allc (List.Mem.tail _ (List.Mem.head _)) alln)⟩, ?_⟩
      replace hg := hg.trans hm2
      clear hm2
      refine g_s (i := 12) (listed' := #[true, true, true, true, true, true, true, true, true, true, true, true, true, false, false, false]) rfl (by kernel_rfl) (by kernel_rfl) rfl ?_
      refine s_call0 rfl Try.call117 rfl (rSize_w _ _ _) ?_
      rintro _ m2 _ hm2 ⟨rfl, rfl⟩
      replace hm := hm.trans hm2
      refine ⟨⟨hg.trans hm2, (allc (List.Mem.tail _ (List.Mem.head _)) alln)⟩, ?_⟩
      replace hg := hg.trans hm2
      replace hza1 := hza1.mono hm2
      clear hm2
      refine g_s (i := 13) (listed' := #[true, true, true, true, true, true, true, true, true, true, true, true, true, true, false, false]) rfl (by kernel_rfl) (by kernel_rfl) rfl ?_
      refine s_call0 rfl Try.call140 rfl (rBits_w (c.care.at i) (hsz (i : Int)) _ _ (Nat.le_trans (hsz_le _) (by decide))) ?_
      rintro _ m2 _ hm2 ⟨sa2, rfl, hza2, rfl⟩
      replace hm := hm.trans hm2
      refine ⟨⟨hg.trans hm2, (allc (List.Mem.tail _ (List.Mem.head _)) alln)⟩, ?_⟩
      replace hg := hg.trans hm2
      replace hza1 := hza1.mono hm2
      clear hm2
      refine g_y (i := 14) (listed' := #[true, true, true, true, true, true, true, true, true, true, true, true, true, true, true, false]) rfl (by kernel_rfl) (by kernel_rfl) (by kernel_rfl) (by kernel_rfl) rfl rfl hg (allc (List.Mem.tail _ (List.Mem.head _)) alln) (fun m' H' hm' hX' => y_assign rfl) ?_
      refine g_y (i := 15) (listed' := #[true, true, true, true, true, true, true, true, true, true, true, true, true, true, true, true]) rfl (by kernel_rfl) (by kernel_rfl) (by kernel_rfl) (by kernel_rfl) rfl rfl hg (allc (List.Mem.tail _ (List.Mem.head _)) alln) (fun m' H' hm' hX' => y_assign rfl) ?_
      refine g_done (by kernel_rfl) ?_
      clear hg
      refine hK10 _ _ _ ?_
      clear hK10 K10
      refine c_seq (fun K11 hK11 => ?_)
      refine c_region ?_
      refine r_y rfl rfl (y_assign rfl) ?_
      refine r_nil ?_
      refine hK11 _ _ _ ?_
      clear hK11 K11
      refine c_block ?_
      refine c_loopx (α := Nat × Bool × Sl) (fun vv => match vv with | (k, ok2, sv2) => [(1, .pointer (some ⟨b0, 0, none⟩)), (4, sv2.v), (5, .bool ok2), (6, .int .i64 (i : Nat)), (7, sa1.v), (8, sa2.v), (9, .int .i64 (k : Nat))]) (fun vv => match vv with | (k, ok2, sv2) => .vec sv2.a sv2.n sv2.cap 5 1 (bytes1 (textN c i ++ (rowT c i).take k)) :: .blk b0 (.cells (encCube c).toArray 29) :: H) (fun k1 vv m1 => match vv with | (k, ok2, sv2) => (k + k1 = sa1.n ∧ sv2.n = (textN c i ++ (rowT c i).take k).length ∧ ok2 = (headSound c.care && (List.range (i + 1)).all fun i => (c.value.at i &&& ~~~(c.care.at i)) == 0)) ∧ m.le m1 ∧ (FzT m1 sa1 (bitsL (c.value.at i) (hsz (i : Int)))) ∧ (FzT m1 sa2 (bitsL (c.care.at i) (hsz (i : Int))))) (sa1.n) (0, false, sv) ⟨rfl, rfl, rfl, rfl, rfl, rfl, rfl, trivial⟩ (by simp only [List.take_zero, List.append_nil] <;> rfl) ⟨⟨by omega, by simpa using hsn, by rw [all_range_succ]; simp_all⟩, hm, hza1, hza2⟩ ?_
      clear hm hza1 hza2
      rintro k1 ⟨k, ok2, sv2⟩ m1 ⟨hi1, hm, hza1, hza2⟩
      obtain ⟨hki, hsn, hok2⟩ := hi1
      refine c_seq (fun K12 hK12 => ?_)
      refine c_seq (fun K13 hK13 => ?_)
      refine c_region ?_
      refine r_y rfl rfl (y_move rfl) ?_
      refine r_y rfl rfl (y_move rfl) ?_
      refine r_y rfl rfl (y_len tl166 rfl) ?_
      refine r_y rfl rfl (y_iop rfl rfl rfl) ?_
      refine r_nil ?_
      refine hK13 _ _ _ ?_
      clear hK13 K13
      refine c_cond rfl (fun hk => ?_) (fun hk => ?_)
      ·
        have hlt1 : k < sa1.n := by simp at hk; omega
        have hL1 := Fz.lenT hza1
        have hL2 := Fz.lenT hza2
        rw [bitsL_len] at hL1 hL2
        have hlt2 : k < sa2.n := by omega
        obtain ⟨p, hx1⟩ := get_of_lt (l := bitsL (c.value.at i) (hsz (i : Int))) (k := k) (by rw [bitsL_len]; omega)
        obtain ⟨q, hx2⟩ := get_of_lt (l := bitsL (c.care.at i) (hsz (i : Int))) (k := k) (by rw [bitsL_len]; omega)
        have hmx := hza1.max
        have hle1 := hza1.le
        unfold maxLen at hmx
        refine c_skip ?_
        refine hK12 _ _ _ ?_
        clear hK12 K12
        refine c_seq (fun K14 hK14 => ?_)
        refine c_block ?_
        refine c_block ?_
        refine c_seq (fun K15 hK15 => ?_)
        refine c_region ?_
        refine r_y rfl rfl (y_move rfl) ?_
        refine r_y rfl rfl (y_move rfl) ?_
        refine r_y rfl rfl (y_indexAddr_slice rfl rfl tl166 hlt2 (At.fz hza2 hlt2)) ?_
        refine r_y rfl rfl (y_load_s rfl ts4 (RdS.fz (j := 0) hza2 (map_get hx2) rfl)) ?_
        refine r_y rfl rfl (y_not rfl) ?_
        refine r_y rfl rfl (y_assign rfl) ?_
        refine r_nil ?_
        refine hK15 _ _ _ ?_
        clear hK15 K15
        refine c_cond rfl (fun hq => ?_) (fun hq => ?_)
        ·
          refine c_region ?_
          refine r_y rfl rfl (y_move rfl) ?_
          refine r_s rfl ?_
          refine s_buildSlice (cs := [.int .u8 120]) (e := 5) rfl rfl (fun _ => by kernel_rfl) (fun b1 => ?_)
          have hbt := textN_len c i
          have hbr : ((rowT c i).take k).length ≤ 48 := Nat.le_trans (by simp; omega) (hsz_le (i : Int))
          refine r_s rfl ?_
          refine s_append rfl rfl rfl tl22 zo5 tb5 (i := 1) rfl (Src.one' (i := 0) rfl rfl (by simp [Value.oneCell'])) (by rw [List.length_append] at hsn; omega) (by rw [List.length_append] at hsn; unfold maxLen; omega) (fun a1 c1 => ?_)
          refine r_del 0 rfl ?_
          refine r_y rfl rfl (y_assign rfl) ?_
          refine r_nil ?_
          refine hK14 _ _ _ ?_
          clear hK14 K14
          refine c_region ?_
          refine r_y rfl rfl (y_move rfl) ?_
          first | refine r_y rfl rfl (y_inc rfl (by omega)) ?_ | refine r_y rfl rfl (y_iop rfl rfl rfl) ?_
          refine r_y rfl rfl (y_assign rfl) ?_
          refine r_nil ?_
          exact ⟨k1 - 1, (k + 1, ok2, ⟨a1, sv2.n + 1, c1⟩), by omega, ⟨rfl, rfl, rfl, rfl, rfl, rfl, rfl, trivial⟩, (by simp only [rowT_step hx1 hx2, ← List.append_assoc, bytes1_snoc]; first | (rw [tch_x hq]; rfl) | (rw [tch_1 hq hp]; rfl) | (rw [tch_0 hq hp]; rfl)), ⟨by omega, by rw [rowT_step hx1 hx2]; simp only [List.length_append] at hsn ⊢; simp [hsn]; omega, hok2⟩, hm, hza1, hza2⟩
        ·
          refine c_seq (fun K16 hK16 => ?_)
          refine c_region ?_
          refine r_y rfl rfl (y_move rfl) ?_
          refine r_y rfl rfl (y_move rfl) ?_
          refine r_y rfl rfl (y_indexAddr_slice rfl rfl tl166 hlt1 (At.fz hza1 hlt1)) ?_
          refine r_y rfl rfl (y_load_s rfl ts4 (RdS.fz (j := 0) hza1 (map_get hx1) rfl)) ?_
          refine r_y rfl rfl (y_assign rfl) ?_
          refine r_nil ?_
          refine hK16 _ _ _ ?_
          clear hK16 K16
          refine c_cond rfl (fun hp => ?_) (fun hp => ?_)
          ·
            refine c_region ?_
            refine r_y rfl rfl (y_move rfl) ?_
            refine r_s rfl ?_
            refine s_buildSlice (cs := [.int .u8 49]) (e := 5) rfl rfl (fun _ => by kernel_rfl) (fun b1 => ?_)
            have hbt := textN_len c i
            have hbr : ((rowT c i).take k).length ≤ 48 := Nat.le_trans (by simp; omega) (hsz_le (i : Int))
            refine r_s rfl ?_
            refine s_append rfl rfl rfl tl22 zo5 tb5 (i := 1) rfl (Src.one' (i := 0) rfl rfl (by simp [Value.oneCell'])) (by rw [List.length_append] at hsn; omega) (by rw [List.length_append] at hsn; unfold maxLen; omega) (fun a1 c1 => ?_)
            refine r_del 0 rfl ?_
            refine r_y rfl rfl (y_assign rfl) ?_
            refine r_nil ?_
            refine hK14 _ _ _ ?_
            clear hK14 K14
            refine c_region ?_
            refine r_y rfl rfl (y_move rfl) ?_
            first | refine r_y rfl rfl (y_inc rfl (by omega)) ?_ | refine r_y rfl rfl (y_iop rfl rfl rfl) ?_
            refine r_y rfl rfl (y_assign rfl) ?_
            refine r_nil ?_
            exact ⟨k1 - 1, (k + 1, ok2, ⟨a1, sv2.n + 1, c1⟩), by omega, ⟨rfl, rfl, rfl, rfl, rfl, rfl, rfl, trivial⟩, (by simp only [rowT_step hx1 hx2, ← List.append_assoc, bytes1_snoc]; first | (rw [tch_x hq]; rfl) | (rw [tch_1 hq hp]; rfl) | (rw [tch_0 hq hp]; rfl)), ⟨by omega, by rw [rowT_step hx1 hx2]; simp only [List.length_append] at hsn ⊢; simp [hsn]; omega, hok2⟩, hm, hza1, hza2⟩
          ·
            refine c_region ?_
            refine r_y rfl rfl (y_move rfl) ?_
            refine r_s rfl ?_
            refine s_buildSlice (cs := [.int .u8 48]) (e := 5) rfl rfl (fun _ => by kernel_rfl) (fun b1 => ?_)
            have hbt := textN_len c i
            have hbr : ((rowT c i).take k).length ≤ 48 := Nat.le_trans (by simp; omega) (hsz_le (i : Int))
            refine r_s rfl ?_
            refine s_append rfl rfl rfl tl22 zo5 tb5 (i := 1) rfl (Src.one' (i := 0) rfl rfl (by simp [Value.oneCell'])) (by rw [List.length_append] at hsn; omega) (by rw [List.length_append] at hsn; unfold maxLen; omega) (fun a1 c1 => ?_)
            refine r_del 0 rfl ?_
            refine r_y rfl rfl (y_assign rfl) ?_
            refine r_nil ?_
            refine hK14 _ _ _ ?_
            clear hK14 K14
            refine c_region ?_
            refine r_y rfl rfl (y_move rfl) ?_
            first | refine r_y rfl rfl (y_inc rfl (by omega)) ?_ | refine r_y rfl rfl (y_iop rfl rfl rfl) ?_
            refine r_y rfl rfl (y_assign rfl) ?_
            refine r_nil ?_
            exact ⟨k1 - 1, (k + 1, ok2, ⟨a1, sv2.n + 1, c1⟩), by omega, ⟨rfl, rfl, rfl, rfl, rfl, rfl, rfl, trivial⟩, (by simp only [rowT_step hx1 hx2, ← List.append_assoc, bytes1_snoc]; first | (rw [tch_x hq]; rfl) | (rw [tch_1 hq hp]; rfl) | (rw [tch_0 hq hp]; rfl)), ⟨by omega, by rw [rowT_step hx1 hx2]; simp only [List.length_append] at hsn ⊢; simp [hsn]; omega, hok2⟩, hm, hza1, hza2⟩
      ·
        refine c_exit ?_
        refine hK7 _ _ _ ?_
        clear hK12 K12 hK7 K7
        refine c_region ?_
        refine r_y rfl rfl (y_move rfl) ?_
        first | refine r_y rfl rfl (y_inc rfl (by omega)) ?_ | refine r_y rfl rfl (y_iop rfl rfl rfl) ?_
        refine r_y rfl rfl (y_assign rfl) ?_
        refine r_nil ?_
        have hL1 := Fz.lenT hza1
        rw [bitsL_len] at hL1
        have e := textN_step (c := c) (i := i) (k := k) (by simp at hk; omega)
        exact ⟨k0 - 1, (i + 1, ok2, sv2), by omega, ⟨rfl, rfl, rfl, rfl, trivial⟩, (by simp only [e] <;> rfl), ⟨by omega, by rw [e]; exact hsn, hok2⟩, hm⟩
    ·
      refine c_skip ?_
      refine hK8 _ _ _ ?_
      clear hK8 K8
      refine c_seq (fun K17 hK17 => ?_)
      refine c_draw ([.blk b0 (.cells (encCube c).toArray 29)]) (by kernel_rfl) (fun hg => ?_)
      refine g_y (i := 0) (listed' := #[true, false, false, false, false, false, false, false, false, false, false, false, false, false, false, false]) rfl (by kernel_rfl) (by kernel_rfl) (by kernel_rfl) (by kernel_rfl) rfl rfl hg (allc (List.Mem.tail _ (List.Mem.head _)) alln) (fun m' H' hm' hX' => y_move rfl) ?_
      refine g_y (i := 1) (listed' := #[true, true, false, false, false, false, false, false, false, false, false, false, false, false, false, false]) rfl (by kernel_rfl) (by kernel_rfl) (by kernel_rfl) (by kernel_rfl) rfl rfl hg (allc (List.Mem.tail _ (List.Mem.head _)) alln) (fun m' H' hm' hX' => y_fieldAddr rfl At.lit fo29_0 rfl) ?_
      refine g_y (i := 2) (listed' := #[true, true, true, false, false, false, false, false, false, false, false, false, false, false, false, false]) rfl (by kernel_rfl) (by kernel_rfl) (by kernel_rfl) (by kernel_rfl) rfl rfl hg (allc (List.Mem.tail _ (List.Mem.head _)) alln) (fun m' H' hm' hX' => y_indexAddr_arr rfl rfl ta27 hlt At.lit) ?_
      refine g_y (i := 3) (listed' := #[true, true, true, true, false, false, false, false, false, false, false, false, false, false, false, false]) rfl (by kernel_rfl) (by kernel_rfl) (by kernel_rfl) (by kernel_rfl) rfl rfl hg (allc (List.Mem.tail _ (List.Mem.head _)) alln) (fun m' H' hm' hX' => y_load_s rfl ts25 (RdS.mem (hX' _ (List.Mem.head _)) (cget_value _ _ hlt))) ?_
      refine g_y (i := 4) (listed' := #[true, true, true, true, true, false, false, false, false, false, false, false, false, false, false, false]) rfl (by kernel_rfl) (by kernel_rfl) (by kernel_rfl) (by kernel_rfl) rfl rfl hg (allc (List.Mem.tail _ (List.Mem.head _)) alln) (fun m' H' hm' hX' => y_move rfl) ?_
      refine g_y (i := 7) (listed' := #[true, true, true, true, true, false, false, true, false, false, false, false, false, false, false, false]) rfl (by kernel_rfl) (by kernel_rfl) (by kernel_rfl) (by kernel_rfl) rfl rfl hg (allc (List.Mem.tail _ (List.Mem.head _)) alln) (fun m' H' hm' hX' => y_move rfl) ?_
      refine g_y (i := 8) (listed' := #[true, true, true, true, true, false, false, true, true, false, false, false, false, false, false, false]) rfl (by kernel_rfl) (by kernel_rfl) (by kernel_rfl) (by kernel_rfl) rfl rfl hg (allc (List.Mem.tail _ (List.Mem.head _)) alln) (fun m' H' hm' hX' => y_fieldAddr rfl At.lit fo29_1 rfl) ?_
      refine g_y (i := 9) (listed' := #[true, true, true, true, true, false, false, true, true, true, false, false, false, false, false, false]) rfl (by kernel_rfl) (by kernel_rfl) (by kernel_rfl) (by kernel_rfl) rfl rfl hg (allc (List.Mem.tail _ (List.Mem.head _)) alln) (fun m' H' hm' hX' => y_indexAddr_arr rfl rfl ta27 hlt At.lit) ?_
      refine g_y (i := 10) (listed' := #[true, true, true, true, true, false, false, true, true, true, true, false, false, false, false, false]) rfl (by kernel_rfl) (by kernel_rfl) (by kernel_rfl) (by kernel_rfl) rfl rfl hg (allc (List.Mem.tail _ (List.Mem.head _)) alln) (fun m' H' hm' hX' => y_load_s rfl ts25 (RdS.mem (hX' _ (List.Mem.head _)) (cget_care _ _ hlt))) ?_
      refine g_y (i := 11) (listed' := #[true, true, true, true, true, false, false, true, true, true, true, true, false, false, false, false]) rfl (by kernel_rfl) (by kernel_rfl) (by kernel_rfl) (by kernel_rfl) rfl rfl hg (allc (List.Mem.tail _ (List.Mem.head _)) alln) (fun m' H' hm' hX' => y_move rfl) ?_
      refine g_s (i := 5) (listed' := #[true, true, true, true, true, true, false, true, true, true, true, true, false, false, false, false]) rfl (by kernel_rfl) (by kernel_rfl) rfl ?_
      refine s_call0 rfl Try.call117 rfl (rSize_w _ _ _) ?_
      rintro _ m2 _ hm2 ⟨rfl, rfl⟩
      replace hm := hm.trans hm2
      refine ⟨⟨hg.trans hm2, (allc (List.Mem.tail _ (List.Mem.head _)) alln)⟩, ?_⟩
      replace hg := hg.trans hm2
      clear hm2
      refine g_s (i := 6) (listed' := #[true, true, true, true, true, true, true, true, true, true, true, true, false, false, false, false]) rfl (by kernel_rfl) (by kernel_rfl) rfl ?_
      refine s_call0 rfl Try.call140 rfl (rBits_w (c.value.at i) (hsz (i : Int)) _ _ (Nat.le_trans (hsz_le _) (by decide))) ?_
      rintro _ m2 _ hm2 ⟨sa1, rfl, hza1, rfl⟩
      replace hm := hm.trans hm2
      refine ⟨⟨hg.trans hm2, (allc (List.Mem.tail _ (List.Mem.head _)) alln)⟩, ?_⟩
      replace hg := hg.trans hm2
      clear hm2
      refine g_s (i := 12) (listed' := #[true, true, true, true, true, true, true, true, true, true, true, true, true, false, false, false]) rfl (by kernel_rfl) (by kernel_rfl) rfl ?_
      refine s_call0 rfl Try.call117 rfl (rSize_w _ _ _) ?_
      rintro _ m2 _ hm2 ⟨rfl, rfl⟩
      replace hm := hm.trans hm2
      refine ⟨⟨hg.trans hm2, (allc (List.Mem.tail _ (List.Mem.head _)) alln)⟩, ?_⟩
      replace hg := hg.trans hm2
      replace hza1 := hza1.mono hm2
      clear hm2
      refine g_s (i := 13) (listed' := #[true, true, true, true, true, true, true, true, true, true, true, true, true, true, false, false]) rfl (by kernel_rfl) (by kernel_rfl) rfl ?_
      refine s_call0 rfl Try.call140 rfl (rBits_w (c.care.at i) (hsz (i : Int)) _ _ (Nat.le_trans (hsz_le _) (by decide))) ?_
      rintro _ m2 _ hm2 ⟨sa2, rfl, hza2, rfl⟩
      replace hm := hm.trans hm2
      refine ⟨⟨hg.trans hm2, (allc (List.Mem.tail _ (List.Mem.head _)) alln)⟩, ?_⟩
      replace hg := hg.trans hm2
      replace hza1 := hza1.mono hm2
      clear hm2
      refine g_y (i := 14) (listed' := #[true, true, true, true, true, true, true, true, true, true, true, true, true, true, true, false]) rfl (by kernel_rfl) (by kernel_rfl) (by kernel_rfl) (by kernel_rfl) rfl rfl hg (allc (List.Mem.tail _ (List.Mem.head _)) alln) (fun m' H' hm' hX' => y_assign rfl) ?_
      refine g_y (i := 15) (listed' := #[true, true, true, true, true, true, true, true, true, true, true, true, true, true, true, true]) rfl (by kernel_rfl) (by kernel_rfl) (by kernel_rfl) (by kernel_rfl) rfl rfl hg (allc (List.Mem.tail _ (List.Mem.head _)) alln) (fun m' H' hm' hX' => y_assign rfl) ?_
      refine g_done (by kernel_rfl) ?_
      clear hg
      refine hK17 _ _ _ ?_
      clear hK17 K17
      refine c_seq (fun K18 hK18 => ?_)
      refine c_region ?_
      refine r_y rfl rfl (y_assign rfl) ?_
      refine r_nil ?_
      refine hK18 _ _ _ ?_
      clear hK18 K18
      refine c_block ?_
      refine c_loopx (α := Nat × Bool × Sl) (fun vv => match vv with | (k, ok2, sv2) => [(1, .pointer (some ⟨b0, 0, none⟩)), (4, sv2.v), (5, .bool ok2), (6, .int .i64 (i : Nat)), (7, sa1.v), (8, sa2.v), (9, .int .i64 (k : Nat))]) (fun vv => match vv with | (k, ok2, sv2) => .vec sv2.a sv2.n sv2.cap 5 1 (bytes1 (textN c i ++ (rowT c i).take k)) :: .blk b0 (.cells (encCube c).toArray 29) :: H) (fun k1 vv m1 => match vv with | (k, ok2, sv2) => (k + k1 = sa1.n ∧ sv2.n = (textN c i ++ (rowT c i).take k).length ∧ ok2 = (headSound c.care && (List.range (i + 1)).all fun i => (c.value.at i &&& ~~~(c.care.at i)) == 0)) ∧ m.le m1 ∧ (FzT m1 sa1 (bitsL (c.value.at i) (hsz (i : Int)))) ∧ (FzT m1 sa2 (bitsL (c.care.at i) (hsz (i : Int))))) (sa1.n) (0, ok, sv) ⟨rfl, rfl, rfl, rfl, rfl, rfl, rfl, trivial⟩ (by simp only [List.take_zero, List.append_nil] <;> rfl) ⟨⟨by omega, by simpa using hsn, by rw [all_range_succ]; simp_all⟩, hm, hza1, hza2⟩ ?_
      clear hm hza1 hza2
      rintro k1 ⟨k, ok2, sv2⟩ m1 ⟨hi1, hm, hza1, hza2⟩
      obtain ⟨hki, hsn, hok2⟩ := hi1
      refine c_seq (fun K19 hK19 => ?_)
      refine c_seq (fun K20 hK20 => ?_)
      refine c_region ?_
      refine r_y rfl rfl (y_move rfl) ?_
      refine r_y rfl rfl (y_move rfl) ?_
      refine r_y rfl rfl (y_len tl166 rfl) ?_
      refine r_y rfl rfl (y_iop rfl rfl rfl) ?_
      refine r_nil ?_
      refine hK20 _ _ _ ?_
      clear hK20 K20
      refine c_cond rfl (fun hk => ?_) (fun hk => ?_)
      ·
        have hlt1 : k < sa1.n := by simp at hk; omega
        have hL1 := Fz.lenT hza1
        have hL2 := Fz.lenT hza2
        rw [bitsL_len] at hL1 hL2
        have hlt2 : k < sa2.n := by omega
        obtain ⟨p, hx1⟩ := get_of_lt (l := bitsL (c.value.at i) (hsz (i : Int))) (k := k) (by rw [bitsL_len]; omega)
        obtain ⟨q, hx2⟩ := get_of_lt (l := bitsL (c.care.at i) (hsz (i : Int))) (k := k) (by rw [bitsL_len]; omega)
        have hmx := hza1.max
        have hle1 := hza1.le
        unfold maxLen at hmx
        refine c_skip ?_
        refine hK19 _ _ _ ?_
        clear hK19 K19
        refine c_seq (fun K21 hK21 => ?_)
        refine c_block ?_
        refine c_block ?_
        refine c_seq (fun K22 hK22 => ?_)
        refine c_region ?_
        refine r_y rfl rfl (y_move rfl) ?_
        refine r_y rfl rfl (y_move rfl) ?_
        refine r_y rfl rfl (y_indexAddr_slice rfl rfl tl166 hlt2 (At.fz hza2 hlt2)) ?_
        refine r_y rfl rfl (y_load_s rfl ts4 (RdS.fz (j := 0) hza2 (map_get hx2) rfl)) ?_
        refine r_y rfl rfl (y_not rfl) ?_
        refine r_y rfl rfl (y_assign rfl) ?_
        refine r_nil ?_
        refine hK22 _ _ _ ?_
        clear hK22 K22
        refine c_cond rfl (fun hq => ?_) (fun hq => ?_)
        ·
          refine c_region ?_
          refine r_y rfl rfl (y_move rfl) ?_
          refine r_s rfl ?_
          refine s_buildSlice (cs := [.int .u8 120]) (e := 5) rfl rfl (fun _ => by kernel_rfl) (fun b1 => ?_)
          have hbt := textN_len c i
          have hbr : ((rowT c i).take k).length ≤ 48 := Nat.le_trans (by simp; omega) (hsz_le (i : Int))
          refine r_s rfl ?_
          refine s_append rfl rfl rfl tl22 zo5 tb5 (i := 1) rfl (Src.one' (i := 0) rfl rfl (by simp [Value.oneCell'])) (by rw [List.length_append] at hsn; omega) (by rw [List.length_append] at hsn; unfold maxLen; omega) (fun a1 c1 => ?_)
          refine r_del 0 rfl ?_
          refine r_y rfl rfl (y_assign rfl) ?_
          refine r_nil ?_
          refine hK21 _ _ _ ?_
          clear hK21 K21
          refine c_region ?_
          refine r_y rfl rfl (y_move rfl) ?_
          first | refine r_y rfl rfl (y_inc rfl (by omega)) ?_ | refine r_y rfl rfl (y_iop rfl rfl rfl) ?_
          refine r_y rfl rfl (y_assign rfl) ?_
          refine r_nil ?_
          exact ⟨k1 - 1, (k + 1, ok2, ⟨a1, sv2.n + 1, c1⟩), by omega, ⟨rfl, rfl, rfl, rfl, rfl, rfl, rfl, trivial⟩, (by simp only [rowT_step hx1 hx2, ← List.append_assoc, bytes1_snoc]; first | (rw [tch_x hq]; rfl) | (rw [tch_1 hq hp]; rfl) | (rw [tch_0 hq hp]; rfl)), ⟨by omega, by rw [rowT_step hx1 hx2]; simp only [List.length_append] at hsn ⊢; simp [hsn]; omega, hok2⟩, hm, hza1, hza2⟩
        ·
          refine c_seq (fun K23 hK23 => ?_)
          refine c_region ?_
          refine r_y rfl rfl (y_move rfl) ?_
          refine r_y rfl rfl (y_move rfl) ?_
          refine r_y rfl rfl (y_indexAddr_slice rfl rfl tl166 hlt1 (At.fz hza1 hlt1)) ?_
          refine r_y rfl rfl (y_load_s rfl ts4 (RdS.fz (j := 0) hza1 (map_get hx1) rfl)) ?_
          refine r_y rfl rfl (y_assign rfl) ?_
          refine r_nil ?_
          refine hK23 _ _ _ ?_
          clear hK23 K23
          refine c_cond rfl (fun hp => ?_) (fun hp => ?_)
          ·
            refine c_region ?_
            refine r_y rfl rfl (y_move rfl) ?_
            refine r_s rfl ?_
            refine s_buildSlice (cs := [.int .u8 49]) (e := 5) rfl rfl (fun _ => by kernel_rfl) (fun b1 => ?_)
            have hbt := textN_len c i
            have hbr : ((rowT c i).take k).length ≤ 48 := Nat.le_trans (by simp; omega) (hsz_le (i : Int))
            refine r_s rfl ?_
            refine s_append rfl rfl rfl tl22 zo5 tb5 (i := 1) rfl (Src.one' (i := 0) rfl rfl (by simp [Value.oneCell'])) (by rw [List.length_append] at hsn; omega) (by rw [List.length_append] at hsn; unfold maxLen; omega) (fun a1 c1 => ?_)
            refine r_del 0 rfl ?_
            refine r_y rfl rfl (y_assign rfl) ?_
            refine r_nil ?_
            refine hK21 _ _ _ ?_
            clear hK21 K21
            refine c_region ?_
            refine r_y rfl rfl (y_move rfl) ?_
            first | refine r_y rfl rfl (y_inc rfl (by omega)) ?_ | refine r_y rfl rfl (y_iop rfl rfl rfl) ?_
            refine r_y rfl rfl (y_assign rfl) ?_
            refine r_nil ?_
            exact ⟨k1 - 1, (k + 1, ok2, ⟨a1, sv2.n + 1, c1⟩), by omega, ⟨rfl, rfl, rfl, rfl, rfl, rfl, rfl, trivial⟩, (by simp only [rowT_step hx1 hx2, ← List.append_assoc, bytes1_snoc]; first | (rw [tch_x hq]; rfl) | (rw [tch_1 hq hp]; rfl) | (rw [tch_0 hq hp]; rfl)), ⟨by omega, by rw [rowT_step hx1 hx2]; simp only [List.length_append] at hsn ⊢; simp [hsn]; omega, hok2⟩, hm, hza1, hza2⟩
          ·
            refine c_region ?_
            refine r_y rfl rfl (y_move rfl) ?_
            refine r_s rfl ?_
            refine s_buildSlice (cs := [.int .u8 48]) (e := 5) rfl rfl (fun _ => by kernel_rfl) (fun b1 => ?_)
            have hbt := textN_len c i
            have hbr : ((rowT c i).take k).length ≤ 48 := Nat.le_trans (by simp; omega) (hsz_le (i : Int))
            refine r_s rfl ?_
            refine s_append rfl rfl rfl tl22 zo5 tb5 (i := 1) rfl (Src.one' (i := 0) rfl rfl (by simp [Value.oneCell'])) (by rw [List.length_append] at hsn; omega) (by rw [List.length_append] at hsn; unfold maxLen; omega) (fun a1 c1 => ?_)
            refine r_del 0 rfl ?_
            refine r_y rfl rfl (y_assign rfl) ?_
            refine r_nil ?_
            refine hK21 _ _ _ ?_
            clear hK21 K21
            refine c_region ?_
            refine r_y rfl rfl (y_move rfl) ?_
            first | refine r_y rfl rfl (y_inc rfl (by omega)) ?_ | refine r_y rfl rfl (y_iop rfl rfl rfl) ?_
            refine r_y rfl rfl (y_assign rfl) ?_
            refine r_nil ?_
            exact ⟨k1 - 1, (k + 1, ok2, ⟨a1, sv2.n + 1, c1⟩), by omega, ⟨rfl, rfl, rfl, rfl, rfl, rfl, rfl, trivial⟩, (by simp only [rowT_step hx1 hx2, ← List.append_assoc, bytes1_snoc]; first | (rw [tch_x hq]; rfl) | (rw [tch_1 hq hp]; rfl) | (rw [tch_0 hq hp]; rfl)), ⟨by omega, by rw [rowT_step hx1 hx2]; simp only [List.length_append] at hsn ⊢; simp [hsn]; omega, hok2⟩, hm, hza1, hza2⟩
      ·
        refine c_exit ?_
        refine hK7 _ _ _ ?_
        clear hK19 K19 hK7 K7
        refine c_region ?_
        refine r_y rfl rfl (y_move rfl) ?_
        first | refine r_y rfl rfl (y_inc rfl (by omega)) ?_ | refine r_y rfl rfl (y_iop rfl rfl rfl) ?_
        refine r_y rfl rfl (y_assign rfl) ?_
        refine r_nil ?_
        have hL1 := Fz.lenT hza1
        rw [bitsL_len] at hL1
        have e := textN_step (c := c) (i := i) (k := k) (by simp at hk; omega)
        exact ⟨k0 - 1, (i + 1, ok2, sv2), by omega, ⟨rfl, rfl, rfl, rfl, trivial⟩, (by simp only [e] <;> rfl), ⟨by omega, by rw [e]; exact hsn, hok2⟩, hm⟩
  ·
    refine c_exit ?_
    refine hK3 _ _ _ ?_
    clear hK5 K5 hK3 K3
    refine c_seq (fun K24 hK24 => ?_)
    refine c_region ?_
    refine r_freezeVec (i := 0) rfl rfl (fun m3 hm3 hzt hnt => ?_)
    replace hm := hm.trans hm3
    clear hm3
    refine r_y rfl rfl (y_move rfl) ?_
    refine r_y rfl rfl (y_conv_str rfl hzt us22 un5 ut9) ?_
    refine r_y rfl rfl (y_move rfl) ?_
    refine r_y rfl rfl (y_assign rfl) ?_
    refine r_y rfl rfl (y_assign rfl) ?_
    refine r_nil ?_
    refine hK24 _ _ _ ?_
    clear hK24 K24
    refine c_ret ?_
    refine e_ret 1 hm (res_tmps rfl) ?_
    obtain rfl : i = 12 := by simp at h0; omega
    refine ⟨?_, rfl⟩
    rw [hok]; rfl
end Go.Aw
