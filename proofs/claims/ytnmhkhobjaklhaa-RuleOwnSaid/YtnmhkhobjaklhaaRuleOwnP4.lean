/- Part 4 of the words and walks that the proof behind it uses. -/
import Derived.Test.YtnmhkhobjaklhaaRuleOwnP3
set_option linter.unusedVariables false
set_option linter.unusedSimpArgs false
set_option maxHeartbeats 1000000
namespace Go.Aw
open Go Go.Proofs
set_option maxRecDepth 100000 in
theorem bsearch_w (a : Option Addr) (n cap : Nat) (lo : List OwnR) (r : RuleD) (sr : Sl) (m : Snap) (H : Hp) (hn : n = lo.length) (hnb : n ≤ 1000000) (hmono : MonoR lo r) : Fn Try.prog 73 [.slice a n cap, .agg (encRule r sr).toArray, .func (.func 74) #[] #[]] m (rowO a n cap lo :: H) (fun v m' H' => ∃ (p : Nat) (f : Bool), v = .tuple [i64 (p : Int), .bool f].toArray ∧ p ≤ n ∧ (LowR lo r p p) ∧ (f = true ↔ ∃ o, lo[p]? = some o ∧ ruleCmp o.r r = 0) ∧ H' = rowO a n cap lo :: H) := by
  have hm : m.le m := Snap.le.refl m
  refine fn_end Try.func73 rfl rfl rfl ?_
  refine c_seq (fun K0 hK0 => ?_)
  refine c_region ?_
  refine r_s rfl ?_
  refine s_box_a rfl rfl (fun b0 => ?_)
  refine r_y rfl rfl (y_assign rfl) ?_
  refine r_y rfl rfl (y_assign rfl) ?_
  refine r_nil ?_
  refine hK0 _ _ _ ?_
  clear hK0 K0
  refine c_seq (fun K1 hK1 => ?_)
  refine c_region ?_
  refine r_y rfl rfl (y_move rfl) ?_
  refine r_y rfl rfl (y_len tl33 rfl) ?_
  refine r_y rfl rfl (y_assign rfl) ?_
  refine r_nil ?_
  refine hK1 _ _ _ ?_
  clear hK1 K1
  refine c_seq (fun K2 hK2 => ?_)
  refine c_region ?_
  refine r_y rfl rfl (y_move rfl) ?_
  refine r_y rfl rfl (y_assign rfl) ?_
  refine r_y rfl rfl (y_assign rfl) ?_
  refine r_nil ?_
  refine hK2 _ _ _ ?_
  clear hK2 K2
  refine c_seq (fun K3 hK3 => ?_)
  refine c_block ?_
  refine c_loopx (α := Nat × Nat) (fun vv => match vv with | (i, j) => [(0, .slice a n cap), (2, .func (.func 74) #[] #[]), (4, .pointer (some ⟨b0, 0, none⟩)), (8, .int .i64 (n : Nat)), (9, .int .i64 (i : Nat)), (10, .int .i64 (j : Nat))]) (fun vv => match vv with | (i, j) => .blk b0 (.cells (encRule r sr).toArray 50) :: rowO a n cap lo :: H) (fun k0 vv m1 => match vv with | (i, j) => (i ≤ j ∧ j ≤ n ∧ j - i ≤ k0 ∧ LowR lo r i j) ∧ m.le m1) (n) (0, n) ⟨rfl, rfl, rfl, rfl, rfl, rfl, trivial⟩ rfl ⟨⟨by omega, by omega, by omega, LowR.start hn⟩, hm⟩ ?_
  clear hm
  rintro k0 ⟨i, j⟩ m1 ⟨hi0, hm⟩
  obtain ⟨hij0, hjn, hk, hlow⟩ := hi0
  refine c_seq (fun K4 hK4 => ?_)
  refine c_seq (fun K5 hK5 => ?_)
  refine c_region ?_
  refine r_y rfl rfl (y_move rfl) ?_
  refine r_y rfl rfl (y_move rfl) ?_
  refine r_y rfl rfl (y_iop rfl rfl rfl) ?_
  refine r_nil ?_
  refine hK5 _ _ _ ?_
  clear hK5 K5
  refine c_cond rfl (fun hij => ?_) (fun hij => ?_)
  ·
    have hij2 : i < j := by simp at hij; omega
    refine c_skip ?_
    refine hK4 _ _ _ ?_
    clear hK4 K4
    refine c_block ?_
    refine c_seq (fun K6 hK6 => ?_)
    refine c_region ?_
    refine r_y rfl rfl (y_move rfl) ?_
    refine r_y rfl rfl (y_move rfl) ?_
    refine r_y rfl rfl (y_addn rfl rfl (by omega)) ?_
    refine r_y rfl rfl (y_conv_in rfl un3 un158 (by omega)) ?_
    refine r_y rfl rfl (y_halfn rfl) ?_
    refine r_y rfl rfl (y_conv_un (k := .u64) rfl un158 un3 (by omega)) ?_
    refine r_y rfl rfl (y_assign rfl) ?_
    refine r_nil ?_
    refine hK6 _ _ _ ?_
    clear hK6 K6
    refine c_seq (fun K7 hK7 => ?_)
    refine c_draw ([rowO a n cap lo, .blk b0 (.cells (encRule r sr).toArray 50)]) (by kernel_rfl) (fun hg => ?_)
    have hlt : (i + j) / 2 < n := by omega
    obtain ⟨o, ho⟩ := get_of_lt (l := lo) (k := (i + j) / 2) (by omega)
    refine g_y (i := 0) (listed' := #[true, false, false, false, false, false, false, false]) rfl (by kernel_rfl) (by kernel_rfl) (by kernel_rfl) (by kernel_rfl) rfl rfl hg (allc (List.Mem.tail _ (List.Mem.head _)) (allc (List.Mem.head _) alln)) (fun m' H' hm' hX' => y_move rfl) ?_
    refine g_y (i := 1) (listed' := #[true, true, false, false, false, false, false, false]) rfl (by kernel_rfl) (by kernel_rfl) (by kernel_rfl) (by kernel_rfl) rfl rfl hg (allc (List.Mem.tail _ (List.Mem.head _)) (allc (List.Mem.head _) alln)) (fun m' H' hm' hX' => y_move rfl) ?_
    refine g_y (i := 2) (listed' := #[true, true, true, false, false, false, false, false]) rfl (by kernel_rfl) (by kernel_rfl) (by kernel_rfl) (by kernel_rfl) rfl rfl hg (allc (List.Mem.tail _ (List.Mem.head _)) (allc (List.Mem.head _) alln)) (fun m' H' hm' hX' => y_move rfl) ?_
    refine g_y (i := 3) (listed' := #[true, true, true, true, false, false, false, false]) rfl (by kernel_rfl) (by kernel_rfl) (by kernel_rfl) (by kernel_rfl) rfl rfl hg (allc (List.Mem.tail _ (List.Mem.head _)) (allc (List.Mem.head _) alln)) (fun m' H' hm' hX' => y_indexAddr_slice (k := ((i + j) / 2)) rfl rfl tl33 hlt (At.memv (hX' _ (List.Mem.head _)) hlt)) ?_
    refine g_y (i := 4) (listed' := #[true, true, true, true, true, false, false, false]) rfl (by kernel_rfl) (by kernel_rfl) (by kernel_rfl) (by kernel_rfl) rfl rfl hg (allc (List.Mem.tail _ (List.Mem.head _)) (allc (List.Mem.head _) alln)) (fun m' H' hm' hX' => y_load_a (cs := o.enc) rfl ts50 (RdA.memv0 (hX' _ (List.Mem.head _)) rfl (map_get ho) rfl)) ?_
    refine g_y (i := 5) (listed' := #[true, true, true, true, true, true, false, false]) rfl (by kernel_rfl) (by kernel_rfl) (by kernel_rfl) (by kernel_rfl) rfl rfl hg (allc (List.Mem.tail _ (List.Mem.head _)) (allc (List.Mem.head _) alln)) (fun m' H' hm' hX' => y_load_a (cs := encRule r sr) rfl ts50 (RdA.mem (hX' _ (List.Mem.tail _ (List.Mem.head _))) rfl)) ?_
    refine g_s (i := 6) (listed' := #[true, true, true, true, true, true, true, false]) rfl (by kernel_rfl) (by kernel_rfl) rfl ?_
    refine s_call rfl Try.call74 rfl rfl (ruleCmp_ok o.r r o.s sr _ _) ?_
    rintro _ m2 _ hm2 ⟨rfl, rfl⟩
    replace hm := hm.trans hm2
    refine ⟨⟨hg.trans hm2, (allc (List.Mem.tail _ (List.Mem.head _)) (allc (List.Mem.head _) alln))⟩, ?_⟩
    replace hg := hg.trans hm2
    clear hm2
    refine g_y (i := 7) (listed' := #[true, true, true, true, true, true, true, true]) rfl (by kernel_rfl) (by kernel_rfl) (by kernel_rfl) (by kernel_rfl) rfl rfl hg (allc (List.Mem.tail _ (List.Mem.head _)) (allc (List.Mem.head _) alln)) (fun m' H' hm' hX' => y_iop rfl rfl rfl) ?_
    refine g_done (by kernel_rfl) ?_
    clear hg
    refine hK7 _ _ _ ?_
    clear hK7 K7
    refine c_cond rfl (fun hc => ?_) (fun hc => ?_)
    ·
      refine c_region ?_
      refine r_y rfl rfl (y_move rfl) ?_
      first | refine r_y rfl rfl (y_inc rfl (by omega)) ?_ | refine r_y rfl rfl (y_iop rfl rfl rfl) ?_
      refine r_y rfl rfl (y_assign rfl) ?_
      refine r_nil ?_
      exact ⟨k0 - 1, ((i + j) / 2 + 1, j), by omega, ⟨rfl, rfl, rfl, rfl, rfl, rfl, trivial⟩, rfl, ⟨by omega, by omega, by omega, hlow.up hmono ho (by simpa using hc)⟩, hm⟩
    ·
      refine c_region ?_
      refine r_y rfl rfl (y_move rfl) ?_
      refine r_y rfl rfl (y_assign rfl) ?_
      refine r_nil ?_
      exact ⟨k0 - 1, (i, (i + j) / 2), by omega, ⟨rfl, rfl, rfl, rfl, rfl, rfl, trivial⟩, rfl, ⟨by omega, by omega, by omega, hlow.down hmono ho (by simpa using hc)⟩, hm⟩
  ·
    obtain rfl : i = j := by simp at hij; omega
    refine c_exit ?_
    refine hK3 _ _ _ ?_
    clear hK4 K4 hK3 K3
    refine c_seq (fun K8 hK8 => ?_)
    refine c_draw ([rowO a n cap lo, .blk b0 (.cells (encRule r sr).toArray 50)]) (by kernel_rfl) (fun hg => ?_)
    refine g_y (i := 0) (listed' := #[true, false, false, false, false, false, false, false, false, false, false, false, false, false, false, false]) rfl (by kernel_rfl) (by kernel_rfl) (by kernel_rfl) (by kernel_rfl) rfl rfl hg (allc (List.Mem.tail _ (List.Mem.head _)) (allc (List.Mem.head _) alln)) (fun m' H' hm' hX' => y_move rfl) ?_
    refine g_y (i := 1) (listed' := #[true, true, false, false, false, false, false, false, false, false, false, false, false, false, false, false]) rfl (by kernel_rfl) (by kernel_rfl) (by kernel_rfl) (by kernel_rfl) rfl rfl hg (allc (List.Mem.tail _ (List.Mem.head _)) (allc (List.Mem.head _) alln)) (fun m' H' hm' hX' => y_move rfl) ?_
    refine g_y (i := 2) (listed' := #[true, true, true, false, false, false, false, false, false, false, false, false, false, false, false, false]) rfl (by kernel_rfl) (by kernel_rfl) (by kernel_rfl) (by kernel_rfl) rfl rfl hg (allc (List.Mem.tail _ (List.Mem.head _)) (allc (List.Mem.head _) alln)) (fun m' H' hm' hX' => y_move rfl) ?_
    refine g_y (i := 3) (listed' := #[true, true, true, true, false, false, false, false, false, false, false, false, false, false, false, false]) rfl (by kernel_rfl) (by kernel_rfl) (by kernel_rfl) (by kernel_rfl) rfl rfl hg (allc (List.Mem.tail _ (List.Mem.head _)) (allc (List.Mem.head _) alln)) (fun m' H' hm' hX' => y_iop rfl rfl rfl) ?_
    refine g_y (i := 4) (listed' := #[true, true, true, true, true, false, false, false, false, false, false, false, false, false, false, false]) rfl (by kernel_rfl) (by kernel_rfl) (by kernel_rfl) (by kernel_rfl) rfl rfl hg (allc (List.Mem.tail _ (List.Mem.head _)) (allc (List.Mem.head _) alln)) (fun m' H' hm' hX' => y_move rfl) ?_
    refine g_split (j := 4) rfl (fun hin => ?_) (fun hin => ?_)
    ·
      have hlt2 : i < n := by simp at hin; omega
      obtain ⟨o2, ho2⟩ := get_of_lt (l := lo) (k := i) (by omega)
      refine g_yg (i := 5) (listed' := #[true, true, true, true, true, true, false, false, false, false, false, false, false, false, false, false]) rfl (by kernel_rfl) (by kernel_rfl) (by kernel_rfl) (by kernel_rfl) rfl rfl hin rfl hg (allc (List.Mem.tail _ (List.Mem.head _)) (allc (List.Mem.head _) alln)) (fun m' H' hm' hX' => y_move rfl) ?_
      refine g_yg (i := 6) (listed' := #[true, true, true, true, true, true, true, false, false, false, false, false, false, false, false, false]) rfl (by kernel_rfl) (by kernel_rfl) (by kernel_rfl) (by kernel_rfl) rfl rfl hin rfl hg (allc (List.Mem.tail _ (List.Mem.head _)) (allc (List.Mem.head _) alln)) (fun m' H' hm' hX' => y_move rfl) ?_
      refine g_yg (i := 7) (listed' := #[true, true, true, true, true, true, true, true, false, false, false, false, false, false, false, false]) rfl (by kernel_rfl) (by kernel_rfl) (by kernel_rfl) (by kernel_rfl) rfl rfl hin rfl hg (allc (List.Mem.tail _ (List.Mem.head _)) (allc (List.Mem.head _) alln)) (fun m' H' hm' hX' => y_move rfl) ?_
      refine g_yg (i := 8) (listed' := #[true, true, true, true, true, true, true, true, true, false, false, false, false, false, false, false]) rfl (by kernel_rfl) (by kernel_rfl) (by kernel_rfl) (by kernel_rfl) rfl rfl hin rfl hg (allc (List.Mem.tail _ (List.Mem.head _)) (allc (List.Mem.head _) alln)) (fun m' H' hm' hX' => y_indexAddr_slice (k := i) rfl rfl tl33 hlt2 (At.memv (hX' _ (List.Mem.head _)) hlt2)) ?_
      refine g_yg (i := 9) (listed' := #[true, true, true, true, true, true, true, true, true, true, false, false, false, false, false, false]) rfl (by kernel_rfl) (by kernel_rfl) (by kernel_rfl) (by kernel_rfl) rfl rfl hin rfl hg (allc (List.Mem.tail _ (List.Mem.head _)) (allc (List.Mem.head _) alln)) (fun m' H' hm' hX' => y_load_a (cs := o2.enc) rfl ts50 (RdA.memv0 (hX' _ (List.Mem.head _)) rfl (map_get ho2) rfl)) ?_
      refine g_yg (i := 10) (listed' := #[true, true, true, true, true, true, true, true, true, true, true, false, false, false, false, false]) rfl (by kernel_rfl) (by kernel_rfl) (by kernel_rfl) (by kernel_rfl) rfl rfl hin rfl hg (allc (List.Mem.tail _ (List.Mem.head _)) (allc (List.Mem.head _) alln)) (fun m' H' hm' hX' => y_load_a (cs := encRule r sr) rfl ts50 (RdA.mem (hX' _ (List.Mem.tail _ (List.Mem.head _))) rfl)) ?_
      refine g_sg (i := 11) (listed' := #[true, true, true, true, true, true, true, true, true, true, true, true, false, false, false, false]) rfl (by kernel_rfl) (by kernel_rfl) rfl rfl hin ?_
      refine s_call rfl Try.call74 rfl rfl (ruleCmp_ok o2.r r o2.s sr _ _) ?_
      rintro _ m2 _ hm2 ⟨rfl, rfl⟩
      replace hm := hm.trans hm2
      refine ⟨⟨hg.trans hm2, (allc (List.Mem.tail _ (List.Mem.head _)) (allc (List.Mem.head _) alln))⟩, ?_⟩
      replace hg := hg.trans hm2
      clear hm2
      refine g_yg (i := 12) (listed' := #[true, true, true, true, true, true, true, true, true, true, true, true, true, false, false, false]) rfl (by kernel_rfl) (by kernel_rfl) (by kernel_rfl) (by kernel_rfl) rfl rfl hin rfl hg (allc (List.Mem.tail _ (List.Mem.head _)) (allc (List.Mem.head _) alln)) (fun m' H' hm' hX' => y_iop rfl rfl rfl) ?_
      refine g_y (i := 13) (listed' := #[true, true, true, true, true, true, true, true, true, true, true, true, true, true, false, false]) rfl (by kernel_rfl) (by kernel_rfl) (by kernel_rfl) (by kernel_rfl) rfl rfl hg (allc (List.Mem.tail _ (List.Mem.head _)) (allc (List.Mem.head _) alln)) (fun m' H' hm' hX' => y_pickt rfl hin rfl) ?_
      refine g_y (i := 14) (listed' := #[true, true, true, true, true, true, true, true, true, true, true, true, true, true, true, false]) rfl (by kernel_rfl) (by kernel_rfl) (by kernel_rfl) (by kernel_rfl) rfl rfl hg (allc (List.Mem.tail _ (List.Mem.head _)) (allc (List.Mem.head _) alln)) (fun m' H' hm' hX' => y_assign rfl) ?_
      refine g_y (i := 15) (listed' := #[true, true, true, true, true, true, true, true, true, true, true, true, true, true, true, true]) rfl (by kernel_rfl) (by kernel_rfl) (by kernel_rfl) (by kernel_rfl) rfl rfl hg (allc (List.Mem.tail _ (List.Mem.head _)) (allc (List.Mem.head _) alln)) (fun m' H' hm' hX' => y_assign rfl) ?_
      refine g_done (by kernel_rfl) ?_
      clear hg
      refine hK8 _ _ _ ?_
      clear hK8 K8
      refine c_ret ?_
      refine e_ret 1 hm (res_tmps rfl) ?_
      first
        | exact ⟨i, _, rfl, hjn, hlow, bs_found ho2, rfl⟩
        | exact ⟨i, _, rfl, hjn, hlow, bs_none (by simp at hin; omega), rfl⟩
    ·
      refine g_no (i := 5) (listed' := #[true, true, true, true, true, true, false, false, false, false, false, false, false, false, false, false]) rfl (by kernel_rfl) (by kernel_rfl) (by kernel_rfl) (by kernel_rfl) rfl rfl hin rfl hg (allc (List.Mem.tail _ (List.Mem.head _)) (allc (List.Mem.head _) alln)) ?_
      refine g_no (i := 6) (listed' := #[true, true, true, true, true, true, true, false, false, false, false, false, false, false, false, false]) rfl (by kernel_rfl) (by kernel_rfl) (by kernel_rfl) (by kernel_rfl) rfl rfl hin rfl hg (allc (List.Mem.tail _ (List.Mem.head _)) (allc (List.Mem.head _) alln)) ?_
      refine g_no (i := 7) (listed' := #[true, true, true, true, true, true, true, true, false, false, false, false, false, false, false, false]) rfl (by kernel_rfl) (by kernel_rfl) (by kernel_rfl) (by kernel_rfl) rfl rfl hin rfl hg (allc (List.Mem.tail _ (List.Mem.head _)) (allc (List.Mem.head _) alln)) ?_
      refine g_no (i := 8) (listed' := #[true, true, true, true, true, true, true, true, true, false, false, false, false, false, false, false]) rfl (by kernel_rfl) (by kernel_rfl) (by kernel_rfl) (by kernel_rfl) rfl rfl hin rfl hg (allc (List.Mem.tail _ (List.Mem.head _)) (allc (List.Mem.head _) alln)) ?_
      refine g_no (i := 9) (listed' := #[true, true, true, true, true, true, true, true, true, true, false, false, false, false, false, false]) rfl (by kernel_rfl) (by kernel_rfl) (by kernel_rfl) (by kernel_rfl) rfl rfl hin rfl hg (allc (List.Mem.tail _ (List.Mem.head _)) (allc (List.Mem.head _) alln)) ?_
      refine g_no (i := 10) (listed' := #[true, true, true, true, true, true, true, true, true, true, true, false, false, false, false, false]) rfl (by kernel_rfl) (by kernel_rfl) (by kernel_rfl) (by kernel_rfl) rfl rfl hin rfl hg (allc (List.Mem.tail _ (List.Mem.head _)) (allc (List.Mem.head _) alln)) ?_
      refine g_no (i := 11) (listed' := #[true, true, true, true, true, true, true, true, true, true, true, true, false, false, false, false]) rfl (by kernel_rfl) (by kernel_rfl) (by kernel_rfl) (by kernel_rfl) rfl rfl hin rfl hg (allc (List.Mem.tail _ (List.Mem.head _)) (allc (List.Mem.head _) alln)) ?_
      refine g_no (i := 12) (listed' := #[true, true, true, true, true, true, true, true, true, true, true, true, true, false, false, false]) rfl (by kernel_rfl) (by kernel_rfl) (by kernel_rfl) (by kernel_rfl) rfl rfl hin rfl hg (allc (List.Mem.tail _ (List.Mem.head _)) (allc (List.Mem.head _) alln)) ?_
      refine g_y (i := 13) (listed' := #[true, true, true, true, true, true, true, true, true, true, true, true, true, true, false, false]) rfl (by kernel_rfl) (by kernel_rfl) (by kernel_rfl) (by kernel_rfl) rfl rfl hg (allc (List.Mem.tail _ (List.Mem.head _)) (allc (List.Mem.head _) alln)) (fun m' H' hm' hX' => y_pickf rfl hin rfl) ?_
      refine g_y (i := 14) (listed' := #[true, true, true, true, true, true, true, true, true, true, true, true, true, true, true, false]) rfl (by kernel_rfl) (by kernel_rfl) (by kernel_rfl) (by kernel_rfl) rfl rfl hg (allc (List.Mem.tail _ (List.Mem.head _)) (allc (List.Mem.head _) alln)) (fun m' H' hm' hX' => y_assign rfl) ?_
      refine g_y (i := 15) (listed' := #[true, true, true, true, true, true, true, true, true, true, true, true, true, true, true, true]) rfl (by kernel_rfl) (by kernel_rfl) (by kernel_rfl) (by kernel_rfl) rfl rfl hg (allc (List.Mem.tail _ (List.Mem.head _)) (allc (List.Mem.head _) alln)) (fun m' H' hm' hX' => y_assign rfl) ?_
      refine g_done (by kernel_rfl) ?_
      clear hg
      refine hK8 _ _ _ ?_
      clear hK8 K8
      refine c_ret ?_
      refine e_ret 1 hm (res_tmps rfl) ?_
      first
        | exact ⟨i, _, rfl, hjn, hlow, bs_found ho2, rfl⟩
        | exact ⟨i, _, rfl, hjn, hlow, bs_none (by simp at hin; omega), rfl⟩
end Go.Aw
namespace Go.Aw
open Go Go.Proofs
set_option maxRecDepth 100000 in
theorem insert_w (a : Option Addr) (n c p b : Nat) (lo : List OwnR) (o : OwnR) (m : Snap) (H : Hp) (hn : n = lo.length) (hnb : n ≤ 1000000) (hp : p ≤ n) : Fn Try.prog 75 [.slice a n c, .int .i64 (p : Nat), .slice (some ⟨b, 0, none⟩) 1 1] m (.blk b (.cells o.enc.toArray 50) :: rowO a n c lo :: H) (fun v m' H' => ∃ a' c', v = .slice a' (n + 1) c' ∧ H' = rowO a' (n + 1) c' (lo.take p ++ o :: lo.drop p) :: H) := by
  have hm : m.le m := Snap.le.refl m
  refine fn_end Try.func75 rfl rfl rfl ?_
  refine c_seq (fun K0 hK0 => ?_)
  refine c_region ?_
  refine r_y rfl rfl (y_assign rfl) ?_
  refine r_nil ?_
  refine hK0 _ _ _ ?_
  clear hK0 K0
  refine c_seq (fun K1 hK1 => ?_)
  refine c_region ?_
  refine r_vecfacts (i := 1) rfl (fun hle hcm hcl hce _ => ?_)
  unfold maxLen at hcm
  refine r_y rfl rfl (y_move rfl) ?_
  refine r_y rfl rfl (y_move rfl) ?_
  refine r_y rfl rfl (y_slice rfl tl33 (bnd_some (kd := .i64) (x := p) rfl) bnd_none hp hle) ?_
  refine r_nil ?_
  refine hK1 _ _ _ ?_
  clear hK1 K1
  refine c_seq (fun K2 hK2 => ?_)
  refine c_region ?_
  refine r_y rfl rfl (y_move rfl) ?_
  refine r_y rfl rfl (y_len tl33 rfl) ?_
  refine r_y rfl rfl (y_assign rfl) ?_
  refine r_nil ?_
  refine hK2 _ _ _ ?_
  clear hK2 K2
  refine c_seq (fun K3 hK3 => ?_)
  refine c_seq (fun K4 hK4 => ?_)
  refine c_region ?_
  refine r_y rfl rfl (y_move rfl) ?_
  refine r_y rfl rfl (y_iop rfl rfl rfl) ?_
  refine r_nil ?_
  refine hK4 _ _ _ ?_
  clear hK4 K4
  refine c_iff rfl rfl ?_
  refine c_skip ?_
  refine hK3 _ _ _ ?_
  clear hK3 K3
  refine c_seq (fun K5 hK5 => ?_)
  refine c_region ?_
  refine r_y rfl rfl (y_move rfl) ?_
  refine r_y rfl rfl (y_len tl33 rfl) ?_
  refine r_y rfl rfl (y_assign rfl) ?_
  refine r_nil ?_
  refine hK5 _ _ _ ?_
  clear hK5 K5
  refine c_seq (fun K6 hK6 => ?_)
  refine c_seq (fun K7 hK7 => ?_)
  refine c_region ?_
  refine r_y rfl rfl (y_move rfl) ?_
  refine r_y rfl rfl (y_move rfl) ?_
  refine r_y rfl rfl (y_iop rfl rfl rfl) ?_
  refine r_nil ?_
  refine hK7 _ _ _ ?_
  clear hK7 K7
  refine c_cond rfl (fun hpn => ?_) (fun hpn => ?_)
  ·
    refine c_seq (fun K8 hK8 => ?_)
    refine c_region ?_
    refine r_y rfl rfl (y_move rfl) ?_
    refine r_y rfl rfl (y_move rfl) ?_
    refine r_s rfl ?_
    refine s_append rfl rfl rfl tl33 zo50 tb50 (i := 1) rfl (Src.one' (i := 0) rfl rfl (one_own _)) (by omega) (by unfold maxLen; omega) (fun a1 c1 => ?_)
    refine r_del 0 rfl ?_
    refine r_y rfl rfl (y_assign rfl) ?_
    refine r_nil ?_
    refine hK8 _ _ _ ?_
    clear hK8 K8
    refine c_ret ?_
    refine e_ret 0 hm (res_tmps rfl) ?_
    obtain rfl : p = n := by simp at hpn; omega
    refine ⟨a1, c1, rfl, ?_⟩
    have e : (lo.take p ++ o :: lo.drop p).map OwnR.enc = lo.map OwnR.enc ++ [o.enc] := by rw [List.take_of_length_le (by omega), List.drop_eq_nil_of_le (by omega)]; simp
    simp only [rowO, e]; rfl
  ·
    refine c_skip ?_
    refine hK6 _ _ _ ?_
    clear hK6 K6
    refine c_seq (fun K9 hK9 => ?_)
    refine c_seq (fun K10 hK10 => ?_)
    refine c_region ?_
    refine r_y rfl rfl (y_move rfl) ?_
    refine r_y rfl rfl (y_move rfl) ?_
    refine r_y rfl rfl (y_addn rfl rfl (by omega)) ?_
    refine r_y rfl rfl (y_move rfl) ?_
    refine r_y rfl rfl (y_cap tl33 rfl) ?_
    refine r_y rfl rfl (y_iop rfl rfl rfl) ?_
    refine r_nil ?_
    refine hK10 _ _ _ ?_
    clear hK10 K10
    refine c_cond rfl (fun hgt => ?_) (fun hgt => ?_)
    ·
      refine c_seq (fun K11 hK11 => ?_)
      refine c_region ?_
      have hpn2 : p < n := lt_of_neq hp hpn
      refine r_y rfl rfl (y_move rfl) ?_
      refine r_y rfl rfl (y_move rfl) ?_
      refine r_y rfl rfl (y_slicel rfl tl33 (hi := p) rfl (by omega)) ?_
      refine r_y rfl rfl (y_move rfl) ?_
      refine r_y rfl rfl (y_move rfl) ?_
      refine r_y rfl rfl (y_addn rfl rfl (by omega)) ?_
      refine r_y rfl rfl (y_move rfl) ?_
      refine r_y rfl rfl (y_subn rfl rfl (by omega) (by omega)) ?_
      refine r_s rfl ?_
      refine s_appendz (kd := .i64) (k := p) (z := n + 1 - p) rfl rfl (fun _ => rfl) (fun _ => by cases a <;> simp) rfl tl33 un3 zo50 tb50 (i := 1) rfl (by omega) (by omega) (by simp at hgt; omega) (by omega) (by unfold maxLen; omega) (fun b2 c2 zs hz1 hz2 => ?_)
      refine r_y rfl rfl (y_assign rfl) ?_
      refine r_nil ?_
      refine hK11 _ _ _ ?_
      clear hK11 K11
      refine c_seq (fun K12 hK12 => ?_)
      refine c_region ?_
      refine r_vecfacts (i := 0) rfl (fun hle2 _ _ _ _ => ?_)
      refine r_y rfl rfl (y_move rfl) ?_
      refine r_y rfl rfl (y_move rfl) ?_
      refine r_y rfl rfl (y_slice rfl tl33 (bnd_some (kd := .i64) (x := p) rfl) bnd_none (by omega) hle2) ?_
      refine r_y rfl rfl (y_move rfl) ?_
      refine r_s rfl ?_
      refine s_copyv (k := p) (c := 1) rfl rfl rfl tl33 (i := 0) rfl (by omega) (by omega) (SrcW.of (Src.one' (i := 1) rfl rfl (one_own _))) (by omega) (by omega) ?_
      refine r_nil ?_
      refine hK12 _ _ _ ?_
      clear hK12 K12
      refine c_seq (fun K13 hK13 => ?_)
      refine c_draw ([]) (by kernel_rfl) (fun hg => ?_)
      refine g_y (i := 0) (listed' := #[true, false, false, false, false, false, false, false, false]) rfl (by kernel_rfl) (by kernel_rfl) (by kernel_rfl) (by kernel_rfl) rfl rfl hg alln (fun m' H' hm' hX' => y_move rfl) ?_
      refine g_y (i := 1) (listed' := #[true, true, false, false, false, false, false, false, false]) rfl (by kernel_rfl) (by kernel_rfl) (by kernel_rfl) (by kernel_rfl) rfl rfl hg alln (fun m' H' hm' hX' => y_move rfl) ?_
      refine g_y (i := 2) (listed' := #[true, true, true, false, false, false, false, false, false]) rfl (by kernel_rfl) (by kernel_rfl) (by kernel_rfl) (by kernel_rfl) rfl rfl hg alln (fun m' H' hm' hX' => y_move rfl) ?_
      refine g_y (i := 3) (listed' := #[true, true, true, true, false, false, false, false, false]) rfl (by kernel_rfl) (by kernel_rfl) (by kernel_rfl) (by kernel_rfl) rfl rfl hg alln (fun m' H' hm' hX' => y_addn rfl rfl (by omega)) ?_
      refine g_y (i := 4) (listed' := #[true, true, true, true, true, false, false, false, false]) rfl (by kernel_rfl) (by kernel_rfl) (by kernel_rfl) (by kernel_rfl) rfl rfl hg alln (fun m' H' hm' hX' => y_slice rfl tl33 (bnd_some (kd := .i64) (x := p + 1) rfl) bnd_none (by omega) hle2) ?_
      refine g_y (i := 5) (listed' := #[true, true, true, true, true, true, false, false, false]) rfl (by kernel_rfl) (by kernel_rfl) (by kernel_rfl) (by kernel_rfl) rfl rfl hg alln (fun m' H' hm' hX' => y_move rfl) ?_
      refine g_y (i := 6) (listed' := #[true, true, true, true, true, true, true, false, false]) rfl (by kernel_rfl) (by kernel_rfl) (by kernel_rfl) (by kernel_rfl) rfl rfl hg alln (fun m' H' hm' hX' => y_move rfl) ?_
      refine g_y (i := 7) (listed' := #[true, true, true, true, true, true, true, true, false]) rfl (by kernel_rfl) (by kernel_rfl) (by kernel_rfl) (by kernel_rfl) rfl rfl hg alln (fun m' H' hm' hX' => y_slice rfl tl33 (bnd_some (kd := .i64) (x := p) rfl) bnd_none hp hle) ?_
      refine g_s (i := 8) (listed' := #[true, true, true, true, true, true, true, true, true]) rfl (by kernel_rfl) (by kernel_rfl) rfl ?_
      refine s_copyv (k := p + 1) (c := n - p) rfl rfl rfl tl33 (i := 0) rfl (by omega) (by omega) (SrcW.vec (i := 2) rfl (by omega) (by omega) hpn2 one_rows lo_enc_len (by simp; omega)) (by omega) (by omega) ?_
      refine ⟨⟨hg, alln⟩, ?_⟩
      refine g_done (by kernel_rfl) ?_
      clear hg
      refine hK13 _ _ _ ?_
      clear hK13 K13
      refine c_seq (fun K14 hK14 => ?_)
      refine c_region ?_
      refine r_y rfl rfl (y_move rfl) ?_
      refine r_y rfl rfl (y_assign rfl) ?_
      refine r_nil ?_
      refine hK14 _ _ _ ?_
      clear hK14 K14
      refine c_ret ?_
      refine e_retf [0, 1, 2] 2 hm (res_tmps rfl) ?_
      have hn2 : p + (n + 1 - p) = n + 1 := by omega
      refine ⟨some ⟨b2, 0, none⟩, c2, congrArg (fun q => Value.slice (some ⟨b2, 0, none⟩) q c2) hn2, ?_⟩
      have e := ins_grow (R := lo.map OwnR.enc) (zs := zs) (x := o.enc) (n := n) (by simp; omega) hp hz1
      simp only [rowO, ins_map, ← e]
      exact congrArg (fun q => Item.vec (some ⟨b2, 0, none⟩) q c2 50 32 _ :: H) hn2
    ·
      refine c_skip ?_
      refine hK9 _ _ _ ?_
      clear hK9 K9
      refine c_seq (fun K15 hK15 => ?_)
      refine c_region ?_
      have hpn2 : p < n := lt_of_neq hp hpn
      have hnc : n + 1 ≤ c := by simp at hgt; omega
      refine r_y rfl rfl (y_move rfl) ?_
      refine r_y rfl rfl (y_move rfl) ?_
      refine r_y rfl rfl (y_move rfl) ?_
      refine r_y rfl rfl (y_addn rfl rfl (by omega)) ?_
      refine r_y rfl rfl (y_slicel rfl tl33 (hi := n + 1) rfl hnc) ?_
      refine r_y rfl rfl (y_assign rfl) ?_
      refine r_nil ?_
      refine hK15 _ _ _ ?_
      clear hK15 K15
      refine c_seq (fun K16 hK16 => ?_)
      refine c_seq (fun K17 hK17 => ?_)
      refine c_region ?_
      refine r_stretch (i := 1) (z := 1) rfl (by omega) hnc (fun zs hz1 hz2 => ?_)
      refine r_y rfl rfl (y_move rfl) ?_
      refine r_y rfl rfl (y_move rfl) ?_
      refine r_y rfl rfl (y_move rfl) ?_
      refine r_y rfl rfl (y_move rfl) ?_
      refine r_y rfl rfl (y_addn rfl rfl (by omega)) ?_
      refine r_y rfl rfl (y_slice rfl tl33 (bnd_some (kd := .i64) (x := p + 1) rfl) bnd_none (by omega) hnc) ?_
      refine r_s rfl ?_
      refine s_overlaps (tR := 4) rfl Try.func122 (by kernel_rfl) (by kernel_rfl) (by kernel_rfl) (by kernel_rfl) tl33 (by decide) rfl rfl (i := 0) (j := 1) rfl rfl (by decide) (by omega) (by omega) ?_
      refine r_y rfl rfl (y_not rfl) ?_
      refine r_nil ?_
      refine hK17 _ _ _ ?_
      clear hK17 K17
      refine c_ift rfl rfl ?_
      refine c_seq (fun K18 hK18 => ?_)
      refine c_draw ([]) (by kernel_rfl) (fun hg => ?_)
      refine g_y (i := 0) (listed' := #[true, false, false, false, false, false, false, false, false]) rfl (by kernel_rfl) (by kernel_rfl) (by kernel_rfl) (by kernel_rfl) rfl rfl hg alln (fun m' H' hm' hX' => y_move rfl) ?_
      refine g_y (i := 1) (listed' := #[true, true, false, false, false, false, false, false, false]) rfl (by kernel_rfl) (by kernel_rfl) (by kernel_rfl) (by kernel_rfl) rfl rfl hg alln (fun m' H' hm' hX' => y_move rfl) ?_
      refine g_y (i := 2) (listed' := #[true, true, true, false, false, false, false, false, false]) rfl (by kernel_rfl) (by kernel_rfl) (by kernel_rfl) (by kernel_rfl) rfl rfl hg alln (fun m' H' hm' hX' => y_move rfl) ?_
      refine g_y (i := 3) (listed' := #[true, true, true, true, false, false, false, false, false]) rfl (by kernel_rfl) (by kernel_rfl) (by kernel_rfl) (by kernel_rfl) rfl rfl hg alln (fun m' H' hm' hX' => y_addn rfl rfl (by omega)) ?_
      refine g_y (i := 4) (listed' := #[true, true, true, true, true, false, false, false, false]) rfl (by kernel_rfl) (by kernel_rfl) (by kernel_rfl) (by kernel_rfl) rfl rfl hg alln (fun m' H' hm' hX' => y_slice rfl tl33 (bnd_some (kd := .i64) (x := p + 1) rfl) bnd_none (by omega) hnc) ?_
      refine g_y (i := 5) (listed' := #[true, true, true, true, true, true, false, false, false]) rfl (by kernel_rfl) (by kernel_rfl) (by kernel_rfl) (by kernel_rfl) rfl rfl hg alln (fun m' H' hm' hX' => y_move rfl) ?_
      refine g_y (i := 6) (listed' := #[true, true, true, true, true, true, true, false, false]) rfl (by kernel_rfl) (by kernel_rfl) (by kernel_rfl) (by kernel_rfl) rfl rfl hg alln (fun m' H' hm' hX' => y_move rfl) ?_
      refine g_y (i := 7) (listed' := #[true, true, true, true, true, true, true, true, false]) rfl (by kernel_rfl) (by kernel_rfl) (by kernel_rfl) (by kernel_rfl) rfl rfl hg alln (fun m' H' hm' hX' => y_slice rfl tl33 (bnd_some (kd := .i64) (x := p) rfl) bnd_none (by omega) hnc) ?_
      refine g_s (i := 8) (listed' := #[true, true, true, true, true, true, true, true, true]) rfl (by kernel_rfl) (by kernel_rfl) rfl ?_
      refine s_copyv (k := p + 1) (c := n - p) rfl rfl rfl tl33 (i := 1) rfl (by omega) (by omega) (SrcW.vec (i := 1) rfl (by omega) (by omega) (by omega) (one_rowsz (by omega)) (lo_encz_len hz2) (by simp; omega)) (by omega) (by omega) ?_
      refine ⟨⟨hg, alln⟩, ?_⟩
      refine g_done (by kernel_rfl) ?_
      clear hg
      refine hK18 _ _ _ ?_
      clear hK18 K18
      refine c_seq (fun K19 hK19 => ?_)
      refine c_region ?_
      refine r_y rfl rfl (y_move rfl) ?_
      refine r_y rfl rfl (y_move rfl) ?_
      refine r_y rfl rfl (y_slice rfl tl33 (bnd_some (kd := .i64) (x := p) rfl) bnd_none (by omega) hnc) ?_
      refine r_y rfl rfl (y_move rfl) ?_
      refine r_s rfl ?_
      refine s_copyv (k := p) (c := 1) rfl rfl rfl tl33 (i := 1) rfl (by omega) (by omega) (SrcW.of (Src.one' (i := 0) rfl rfl (one_own _))) (by omega) (by omega) ?_
      refine r_nil ?_
      refine hK19 _ _ _ ?_
      clear hK19 K19
      refine c_seq (fun K20 hK20 => ?_)
      refine c_region ?_
      refine r_y rfl rfl (y_move rfl) ?_
      refine r_y rfl rfl (y_assign rfl) ?_
      refine r_nil ?_
      refine hK20 _ _ _ ?_
      clear hK20 K20
      refine c_ret ?_
      refine e_ret 1 hm (res_tmps rfl) ?_
      refine ⟨a, c, rfl, ?_⟩
      have e := ins_shift (R := lo.map OwnR.enc) (zs := zs) (x := o.enc) (n := n) (by simp; omega) (by omega) hz1
      simp only [rowO, ins_map, ← e]; rfl
end Go.Aw
namespace Go.Aw
open Go Go.Proofs
set_option maxRecDepth 100000 in
theorem ruleSort_w (s1 : Sl) (l1 : List (RuleD × Sl)) (m : Snap) (H : Hp) (hz : FzR m s1 l1) (hfit : l1.length ≤ 1000000) : Fn Try.prog 28 [s1.v] m H (fun v m' H' => ∃ (a : Option Addr) (n cap : Nat) (lo : List OwnR), v = .slice a n n ∧ n = lo.length ∧ rulesO lo = sortR (l1.map (·.1)) ∧ (∀ o ∈ lo, o.ok) ∧ H' = rowO a n cap lo :: (itsO lo ++ H)) := by
  have hl := hz.len
  have hmx := hz.fz.max
  have hle0 := hz.fz.le
  unfold maxLen at hmx
  have hm : m.le m := Snap.le.refl m
  refine fn_end Try.func28 rfl rfl rfl ?_
  refine c_seq (fun K0 hK0 => ?_)
  refine c_region ?_
  refine r_y rfl rfl (y_assign rfl) ?_
  refine r_nil ?_
  refine hK0 _ _ _ ?_
  clear hK0 K0
  refine c_seq (fun K1 hK1 => ?_)
  refine c_region ?_
  refine r_y rfl rfl (y_assign rfl) ?_
  refine r_nil ?_
  refine hK1 _ _ _ ?_
  clear hK1 K1
  refine c_seq (fun K2 hK2 => ?_)
  refine c_seq (fun K3 hK3 => ?_)
  refine c_region ?_
  refine r_nilvec 50 32 ?_
  refine r_y rfl rfl (y_move rfl) ?_
  refine r_y rfl rfl (y_len tl33 rfl) ?_
  refine r_y rfl rfl (y_move rfl) ?_
  refine r_nil ?_
  refine hK3 _ _ _ ?_
  clear hK3 K3
  refine c_block ?_
  refine c_loopx (α := Nat × List OwnR × Sl) (fun vv => match vv with | (i, lo, sv) => [(3, sv.v), (8, s1.v), (9, .int .i64 (s1.n : Nat)), (10, .int .i64 (i : Nat))]) (fun vv => match vv with | (i, lo, sv) => rowO sv.a sv.n sv.cap lo :: (itsO lo ++ H)) (fun k0 vv m1 => match vv with | (i, lo, sv) => (i + k0 = s1.n ∧ sv.n = lo.length ∧ sv.n ≤ i ∧ rulesO lo = sortR ((l1.map (·.1)).take i) ∧ (∀ o ∈ lo, o.ok)) ∧ m.le m1 ∧ (FzR m1 s1 l1)) (s1.n) (0, [], zSl) ⟨rfl, rfl, rfl, rfl, trivial⟩ rfl ⟨⟨by omega, rfl, by show 0 ≤ 0; omega, rfl, fun o ho => by cases ho⟩, hm, hz⟩ ?_
  clear hm hz
  rintro k0 ⟨i, lo, sv⟩ m1 ⟨hi0, hm, hz⟩
  obtain ⟨hi, hsl, hsi, hro, hoo0⟩ := hi0
  refine c_seq (fun K4 hK4 => ?_)
  refine c_region ?_
  refine r_y rfl rfl (y_iop rfl rfl rfl) ?_
  refine r_nil ?_
  refine hK4 _ _ _ ?_
  clear hK4 K4
  refine c_seq (fun K5 hK5 => ?_)
  refine c_cond rfl (fun h0 => ?_) (fun h0 => ?_)
  ·
    have hlt : i < s1.n := by simp at h0; omega
    obtain ⟨x, hx⟩ := get_of_lt (l := l1) (k := i) (by omega)
    have hsrt : Srt (rulesO lo) := by rw [hro]; exact sortR_srt _
    have hT : sortR ((l1.map (·.1)).take (i + 1)) = if ruleSound x.1 then insR (sortR ((l1.map (·.1)).take i)) x.1 else sortR ((l1.map (·.1)).take i) := by rw [List.take_add_one, map_get hx]; exact sortR_snoc _ _
    refine c_skip ?_
    refine hK5 _ _ _ ?_
    clear hK5 K5
    refine c_seq (fun K6 hK6 => ?_)
    refine c_block ?_
    refine c_seq (fun K7 hK7 => ?_)
    refine c_region ?_
    refine r_y rfl rfl (y_indexAddr_slice rfl rfl tl33 hlt (At.fz hz.fz hlt)) ?_
    refine r_y rfl rfl (y_load_a rfl ts50 (RdA.fz0 hz.fz (map_get hx))) ?_
    refine r_s rfl ?_
    refine s_alloc rfl tz50 (fun b0 => ?_)
    refine r_s rfl ?_
    refine s_store (us := encRule x.1 x.2) rfl rfl rfl ts50 rfl rfl (one_rule _ _) (i := 0) rfl rfl ?_
    refine r_nil ?_
    refine hK7 _ _ _ ?_
    clear hK7 K7
    refine c_seq (fun K8 hK8 => ?_)
    refine c_seq (fun K9 hK9 => ?_)
    refine c_region ?_
    refine r_y rfl rfl (y_load_a (cs := encRule x.1 x.2) rfl ts50 (RdA.blk (i := 0) rfl rfl)) ?_
    refine r_s rfl ?_
    refine s_call0 rfl Try.call70 rfl (ruleSound_ok x.1 x.2 _ _ (hz.acts x (List.mem_of_getElem? hx)).1) ?_
    rintro _ m2 _ hm2 ⟨rfl, rfl⟩
    replace hm := hm.trans hm2
    replace hz := hz.mono hm2
    clear hm2
    refine r_y rfl rfl (y_not rfl) ?_
    refine r_nil ?_
    refine hK9 _ _ _ ?_
    clear hK9 K9
    refine c_cond rfl (fun hs1 => ?_) (fun hs1 => ?_)
    ·
      refine c_exit ?_
      refine hK6 _ _ _ ?_
      clear hK8 K8 hK6 K6
      refine c_region ?_
      refine r_del 0 rfl ?_
      first | refine r_y rfl rfl (y_inc rfl (by omega)) ?_ | refine r_y rfl rfl (y_iop rfl rfl rfl) ?_
      refine r_y rfl rfl (y_move rfl) ?_
      refine r_nil ?_
      exact ⟨k0 - 1, (i + 1, lo, sv), by omega, ⟨rfl, rfl, rfl, rfl, trivial⟩, (by first | rfl | (simp only [rowO, List.map_set]; rfl)), ⟨by omega, hsl, by omega, by rw [hro, hT, if_neg (by simpa using hs1)], hoo0⟩, hm, hz⟩
    ·
      refine c_skip ?_
      refine hK8 _ _ _ ?_
      clear hK8 K8
      refine c_seq (fun K10 hK10 => ?_)
      refine c_region ?_
      refine r_y rfl rfl (y_move rfl) ?_
      refine r_y rfl rfl (y_load_a (cs := encRule x.1 x.2) rfl ts50 (RdA.blk (i := 0) rfl rfl)) ?_
      refine r_front 1 rfl ?_
      refine r_s rfl ?_
      refine s_call0 rfl Try.call73 rfl (bsearch_w sv.a sv.n sv.cap lo x.1 x.2 _ _ hsl (by omega) (mono_of hsrt)) ?_
      rintro _ m2 _ hm2 ⟨p, f, rfl, hp, hlow, hf, rfl⟩
      replace hm := hm.trans hm2
      replace hz := hz.mono hm2
      clear hm2
      refine r_y rfl rfl (y_move rfl) ?_
      refine r_y rfl rfl (y_extract rfl rfl) ?_
      refine r_y rfl rfl (y_extract rfl rfl) ?_
      refine r_y rfl rfl (y_assign rfl) ?_
      refine r_y rfl rfl (y_assign rfl) ?_
      refine r_nil ?_
      refine hK10 _ _ _ ?_
      clear hK10 K10
      refine c_seq (fun K11 hK11 => ?_)
      refine c_region ?_
      refine r_y rfl rfl (y_move rfl) ?_
      refine r_nil ?_
      refine hK11 _ _ _ ?_
      clear hK11 K11
      refine c_cond rfl (fun hf1 => ?_) (fun hf1 => ?_)
      ·
        have hplt : p < lo.length := by obtain ⟨y, hy, _⟩ := hf.1 hf1; exact (List.getElem?_eq_some_iff.1 hy).1
        refine c_region ?_
        refine r_y rfl rfl (y_move rfl) ?_
        refine r_y rfl rfl (y_move rfl) ?_
        refine r_y rfl rfl (y_load_a (cs := encRule x.1 x.2) rfl ts50 (RdA.blk (i := 1) rfl rfl)) ?_
        refine r_s rfl ?_
        refine s_call0 rfl Try.call71 rfl (copied_w x.1 x.2 _ _ (hz.acts x (List.mem_of_getElem? hx)).1 (hz.acts x (List.mem_of_getElem? hx)).2 (by have := ruleSound_acts (x := x.1) (by simpa using hs1); omega)) ?_
        rintro _ m2 _ hm2 ⟨o, rfl, hor, hoo, rfl⟩
        replace hm := hm.trans hm2
        replace hz := hz.mono hm2
        clear hm2
        refine r_y rfl rfl (y_indexAddr_slice (k := p) rfl rfl tl33 (by omega) (At.vec (k := p) (i := 1) rfl (by omega))) ?_
        refine r_s rfl ?_
        refine s_storev (k := p) (j := 0) (c := lo[p].enc) (us := o.enc) rfl rfl rfl ts50 rfl rfl (one_own _) (i := 1) rfl (by simp [hplt]) rfl ?_
        refine r_nil ?_
        refine hK6 _ _ _ ?_
        clear hK6 K6
        refine c_region ?_
        refine r_del 2 rfl ?_
        refine r_ent m2 _ (fun _ hs => St.setIts hplt hs) ?_
        first | refine r_y rfl rfl (y_inc rfl (by omega)) ?_ | refine r_y rfl rfl (y_iop rfl rfl rfl) ?_
        refine r_y rfl rfl (y_move rfl) ?_
        refine r_nil ?_
        exact ⟨k0 - 1, (i + 1, lo.set p o, sv), by omega, ⟨rfl, rfl, rfl, rfl, trivial⟩, (by first | rfl | (simp only [rowO, List.map_set]; rfl)), ⟨by omega, by simpa using hsl, by omega, by rw [sort_found hlow (hf.1 hf1) hor, hro, hT, if_pos (by simpa using hs1)], ok_set hoo0 hoo⟩, hm, hz⟩
      ·
        refine c_region ?_
        refine r_y rfl rfl (y_move rfl) ?_
        refine r_y rfl rfl (y_move rfl) ?_
        refine r_y rfl rfl (y_load_a (cs := encRule x.1 x.2) rfl ts50 (RdA.blk (i := 1) rfl rfl)) ?_
        refine r_s rfl ?_
        refine s_call0 rfl Try.call71 rfl (copied_w x.1 x.2 _ _ (hz.acts x (List.mem_of_getElem? hx)).1 (hz.acts x (List.mem_of_getElem? hx)).2 (by have := ruleSound_acts (x := x.1) (by simpa using hs1); omega)) ?_
        rintro _ m2 _ hm2 ⟨o, rfl, hor, hoo, rfl⟩
        replace hm := hm.trans hm2
        replace hz := hz.mono hm2
        clear hm2
        refine r_s rfl ?_
        refine s_buildSlice (cs := (o.enc)) (e := 50) rfl rfl (fun _ => by kernel_rfl) (fun b1 => ?_)
        refine r_front 2 rfl ?_
        refine r_front 1 rfl ?_
        refine r_s rfl ?_
        refine s_call0 rfl Try.call75 rfl (insert_w sv.a sv.n sv.cap p b1 lo o _ _ hsl (by omega) hp) ?_
        rintro _ m2 _ hm2 ⟨a3, c3, rfl, rfl⟩
        replace hm := hm.trans hm2
        replace hz := hz.mono hm2
        clear hm2
        refine r_y rfl rfl (y_assign rfl) ?_
        refine r_nil ?_
        refine hK6 _ _ _ ?_
        clear hK6 K6
        refine c_region ?_
        refine r_del 2 rfl ?_
        refine r_front 1 rfl ?_
        refine r_perm _ (perm_ins _ lo o p H) ?_
        first | refine r_y rfl rfl (y_inc rfl (by omega)) ?_ | refine r_y rfl rfl (y_iop rfl rfl rfl) ?_
        refine r_y rfl rfl (y_move rfl) ?_
        refine r_nil ?_
        exact ⟨k0 - 1, (i + 1, lo.take p ++ o :: lo.drop p, ⟨a3, sv.n + 1, c3⟩), by omega, ⟨rfl, rfl, rfl, rfl, trivial⟩, (by first | rfl | (simp only [rowO, List.map_set]; rfl)), ⟨by omega, by simp; omega, by show sv.n + 1 ≤ i + 1; omega, by rw [sort_new hlow (by omega) (fun h => by have := hf.2 h; rw [hf1] at this; cases this) hor, hro, hT, if_pos (by simpa using hs1)], ok_ins hoo0 hoo⟩, hm, hz⟩
  ·
    refine c_exit ?_
    refine hK2 _ _ _ ?_
    clear hK5 K5 hK2 K2
    refine c_seq (fun K12 hK12 => ?_)
    refine c_region ?_
    refine r_y rfl rfl (y_move rfl) ?_
    refine r_vecfacts (i := 0) rfl (fun hle _ _ _ _ => ?_)
    refine r_s rfl ?_
    refine s_call0 rfl Try.call72 rfl (clipR_w sv.a sv.n sv.cap _ _ hle) ?_
    rintro _ m2 _ hm2 ⟨rfl, rfl⟩
    replace hm := hm.trans hm2
    replace hz := hz.mono hm2
    clear hm2
    refine r_y rfl rfl (y_assign rfl) ?_
    refine r_nil ?_
    refine hK12 _ _ _ ?_
    clear hK12 K12
    refine c_ret ?_
    refine e_ret 0 hm (res_tmps rfl) ?_
    obtain rfl : i = s1.n := by simp at h0; omega
    have hrl : rulesO lo = sortR (l1.map (·.1)) := by rw [hro, List.take_of_length_le (by simp; omega)]
    exact ⟨sv.a, sv.n, sv.cap, lo, rfl, hsl, hrl, hoo0, rfl⟩
end Go.Aw
namespace Go.Aw
open Go Go.Proofs
theorem bp50_1 : bplaces Try.prog 50 [1] = some [(24, 1)] := by kernel_rfl
theorem ruleSortF_w (s1 : Sl) (l1 : List (RuleD × Sl)) (m : Snap) (H : Hp) (hz : FzR m s1 l1) (hfit : l1.length ≤ 1000000) : Fn Try.prog 28 [s1.v] m H (fun v m' H' => ∃ (a : Option Addr) (n : Nat) (lr : List (RuleD × Sl)), v = .slice a n n ∧ FzR m' ⟨a, n, n⟩ lr ∧ lr.map (·.1) = sortR (l1.map (·.1)) ∧ (a = none → n = 0) ∧ H' = H) :=
  (ruleSort_w s1 l1 m H hz hfit).post fun v m' H' w hm hs ⟨a, n, cap, lo, h1, h2, h3, h4, h5⟩ => by
    subst h5
    obtain ⟨m2, g1, g2, g3, g4⟩ := hs.freezeO h4
    exact ⟨m2, H, g1, g2, a, n, _, h1, g3, by rw [map_fst, h3], g4, rfl⟩
set_option maxRecDepth 100000 in
theorem idxRules_w (s : Sl) (l : List (RuleD × Sl)) (f : Nat) (cp : List Value) (p : RuleD → Bool) (m : Snap) (H : Hp) (hz : FzR m s l) (hr : runs Try.prog f) (hf : ∀ m' x, m.le m' → x ∈ l → Fn Try.prog f (.agg (encRule x.1 x.2).toArray :: cp) m' H (fun v _ H' => v = .bool (p x.1) ∧ H' = H)) : Fn Try.prog 118 [s.v, .func (.func f) [].toArray cp.toArray] m H (fun v _ H' => v = .int .i64 (idxF p (l.map (·.1))) ∧ H' = H) := by
  have hm : m.le m := Snap.le.refl m
  refine fn_end Try.func118 rfl rfl rfl ?_
  refine c_seq (fun K0 hK0 => ?_)
  refine c_region ?_
  refine r_y rfl rfl (y_assign rfl) ?_
  refine r_nil ?_
  refine hK0 _ _ _ ?_
  clear hK0 K0
  refine c_seq (fun K1 hK1 => ?_)
  refine c_seq (fun K2 hK2 => ?_)
  refine c_region ?_
  refine r_y rfl rfl (y_move rfl) ?_
  refine r_y rfl rfl (y_len tl33 rfl) ?_
  refine r_y rfl rfl (y_move rfl) ?_
  refine r_nil ?_
  refine hK2 _ _ _ ?_
  clear hK2 K2
  refine c_block ?_
  have hl := hz.len
  have hmx := hz.fz.max
  have hle := hz.fz.le
  unfold maxLen at hmx
  refine c_loopx (α := Nat) (fun i => [(0, s.v), (1, .func (.func f) [].toArray cp.toArray), (7, .int .i64 (s.n : Nat)), (8, .int .i64 (i : Nat))]) (fun i => H) (fun k0 i m1 => (i + k0 = s.n ∧ ((l.map (·.1)).take i).any p = false) ∧ m.le m1 ∧ (FzR m1 s l)) (s.n) 0 ⟨rfl, rfl, rfl, rfl, trivial⟩ rfl ⟨⟨by omega, rfl⟩, hm, hz⟩ ?_
  clear hm hz
  rintro k0 i m1 ⟨hi0, hm, hz⟩
  obtain ⟨hi, hinv⟩ := hi0
  refine c_seq (fun K3 hK3 => ?_)
  refine c_region ?_
  refine r_y rfl rfl (y_iop rfl rfl rfl) ?_
  refine r_nil ?_
  refine hK3 _ _ _ ?_
  clear hK3 K3
  refine c_seq (fun K4 hK4 => ?_)
  refine c_cond rfl (fun h0 => ?_) (fun h0 => ?_)
  ·
    have hlt : i < s.n := by simp at h0; omega
    obtain ⟨x, hx⟩ := get_of_lt (l := l) (k := i) (by omega)
    have hy : (l.map (·.1))[i]? = some x.1 := map_get hx
    refine c_skip ?_
    refine hK4 _ _ _ ?_
    clear hK4 K4
    refine c_seq (fun K5 hK5 => ?_)
    refine c_block ?_
    refine c_seq (fun K6 hK6 => ?_)
    refine c_region ?_
    refine r_y rfl rfl (y_move rfl) ?_
    refine r_y rfl rfl (y_assign rfl) ?_
    refine r_nil ?_
    refine hK6 _ _ _ ?_
    clear hK6 K6
    refine c_seq (fun K7 hK7 => ?_)
    refine c_region ?_
    refine r_y rfl rfl (y_move rfl) ?_
    refine r_y rfl rfl (y_move rfl) ?_
    refine r_y rfl rfl (y_move rfl) ?_
    refine r_y rfl rfl (y_indexAddr_slice rfl rfl tl33 hlt (At.fz hz.fz hlt)) ?_
    refine r_y rfl rfl (y_load_a rfl ts50 (RdA.fz0 hz.fz (map_get hx))) ?_
    refine r_s rfl ?_
    refine s_call rfl hr rfl rfl (hf _ x hm (List.mem_of_getElem? hx)) ?_
    rintro _ m2 _ hm2 ⟨rfl, rfl⟩
    replace hm := hm.trans hm2
    replace hz := hz.mono hm2
    clear hm2
    refine r_nil ?_
    refine hK7 _ _ _ ?_
    clear hK7 K7
    refine c_cond rfl (fun h1 => ?_) (fun h1 => ?_)
    ·
      refine c_seq (fun K8 hK8 => ?_)
      refine c_region ?_
      refine r_y rfl rfl (y_move rfl) ?_
      refine r_y rfl rfl (y_assign rfl) ?_
      refine r_nil ?_
      refine hK8 _ _ _ ?_
      clear hK8 K8
      refine c_ret ?_
      refine e_ret 0 hm (res_tmps rfl) ?_
      exact ⟨congrArg _ (idxF_at hinv hy h1).symm, rfl⟩
    ·
      refine c_skip ?_
      refine hK5 _ _ _ ?_
      clear hK5 K5
      refine c_region ?_
      first | refine r_y rfl rfl (y_inc rfl (by omega)) ?_ | refine r_y rfl rfl (y_iop rfl rfl rfl) ?_
      refine r_y rfl rfl (y_move rfl) ?_
      refine r_nil ?_
      exact ⟨k0 - 1, (i + 1), by omega, ⟨rfl, rfl, rfl, rfl, trivial⟩, rfl, ⟨by omega, by rw [any_take_succ hy, hinv]; simpa using h1⟩, hm, hz⟩
  ·
    refine c_exit ?_
    refine hK1 _ _ _ ?_
    clear hK4 K4 hK1 K1
    refine c_seq (fun K9 hK9 => ?_)
    refine c_region ?_
    refine r_y rfl rfl (y_assign rfl) ?_
    refine r_nil ?_
    refine hK9 _ _ _ ?_
    clear hK9 K9
    refine c_ret ?_
    refine e_ret 0 hm (res_tmps rfl) ?_
    refine ⟨congrArg _ (idxF_no ?_).symm, rfl⟩
    have hie : i = s.n := by simp at h0; omega
    rw [List.take_of_length_le (by simp; omega)] at hinv
    exact hinv
set_option maxRecDepth 100000 in
theorem find1_w (r : RuleD) (s : Sl) (h : Head) (b : Nat) (m : Snap) (H : Hp) : Fn Try.prog 119 [.agg (encRule r s).toArray, .pointer (some ⟨b, 0, none⟩)] m (.blk b (.cells (encHead h).toArray 27) :: H) (fun v _ H' => v = .bool (cubeHas r.m h) ∧ H' = .blk b (.cells (encHead h).toArray 27) :: H) := by
  have hm : m.le m := Snap.le.refl m
  refine fn_end Try.func119 rfl rfl rfl ?_
  refine c_seq (fun K0 hK0 => ?_)
  refine c_region ?_
  refine r_s rfl ?_
  refine s_box_a rfl rfl (fun b0 => ?_)
  refine r_y rfl rfl (y_assign rfl) ?_
  refine r_nil ?_
  refine hK0 _ _ _ ?_
  clear hK0 K0
  refine c_seq (fun K1 hK1 => ?_)
  refine c_region ?_
  refine r_y rfl rfl (y_fieldAddr rfl At.lit fo50_0 rfl) ?_
  refine r_y rfl rfl (y_load_a (cs := encCube r.m) rfl ts29 (RdA.blk (i := 0) rfl rfl)) ?_
  refine r_y rfl rfl (y_load_a (cs := encHead h) rfl ts27 (RdA.blk (i := 1) rfl rfl)) ?_
  refine r_s rfl ?_
  refine s_call0 rfl Try.call109 rfl (cubeHas_ok r.m h _ _) ?_
  rintro _ m2 _ hm2 ⟨rfl, rfl⟩
  replace hm := hm.trans hm2
  clear hm2
  refine r_y rfl rfl (y_assign rfl) ?_
  refine r_nil ?_
  refine hK1 _ _ _ ?_
  clear hK1 K1
  refine c_ret ?_
  refine e_ret 1 hm (res_tmps rfl) ?_
  exact ⟨rfl, rfl⟩
set_option maxRecDepth 100000 in
theorem find_w (s : Sl) (l : List (RuleD × Sl)) (h : Head) (m : Snap) (H : Hp) (hz : FzR m s l) : Fn Try.prog 69 [s.v, .agg (encHead h).toArray] m H (fun v _ H' => v = .tuple [i64 (max (idxF (fun r => cubeHas r.m h) (l.map (·.1))) 0), .bool (decide (idxF (fun r => cubeHas r.m h) (l.map (·.1)) ≥ 0))].toArray ∧ H' = H) := by
  have hm : m.le m := Snap.le.refl m
  refine fn_end Try.func69 rfl rfl rfl ?_
  refine c_seq (fun K0 hK0 => ?_)
  refine c_region ?_
  refine r_s rfl ?_
  refine s_box_a rfl rfl (fun b0 => ?_)
  refine r_y rfl rfl (y_assign rfl) ?_
  refine r_y rfl rfl (y_assign rfl) ?_
  refine r_nil ?_
  refine hK0 _ _ _ ?_
  clear hK0 K0
  refine c_seq (fun K1 hK1 => ?_)
  refine c_region ?_
  refine r_y rfl rfl (y_move rfl) ?_
  refine r_y rfl rfl (y_makeFunc rfl) ?_
  refine r_s rfl ?_
  refine s_call0 rfl Try.call118 rfl (idxRules_w s l 119 [.pointer (some ⟨b0, 0, none⟩)] (fun r => cubeHas r.m h) _ _ hz Try.call119 (fun m' x _ _ => find1_w x.1 x.2 h b0 m' _)) ?_
  rintro _ m2 _ hm2 ⟨rfl, rfl⟩
  replace hm := hm.trans hm2
  replace hz := hz.mono hm2
  clear hm2
  refine r_y rfl rfl (y_assign rfl) ?_
  refine r_nil ?_
  refine hK1 _ _ _ ?_
  clear hK1 K1
  refine c_seq (fun K2 hK2 => ?_)
  refine c_region ?_
  refine r_y rfl rfl (y_move rfl) ?_
  refine r_y rfl rfl (y_max2 rfl rfl) ?_
  refine r_y rfl rfl (y_move rfl) ?_
  refine r_y rfl rfl (y_iop rfl rfl rfl) ?_
  refine r_y rfl rfl (y_assign rfl) ?_
  refine r_y rfl rfl (y_assign rfl) ?_
  refine r_nil ?_
  refine hK2 _ _ _ ?_
  clear hK2 K2
  refine c_ret ?_
  refine e_ret 1 hm (res_tmps rfl) ?_
  exact ⟨rfl, rfl⟩
set_option maxRecDepth 100000 in
theorem answers5_w (m : Snap) (H : Hp) : Fn Try.prog 26 [] m H (fun v _ H' => v = .bool true ∧ H' = H) := by
  have hm : m.le m := Snap.le.refl m
  refine fn_end Try.func26 rfl rfl rfl ?_
  refine c_seq (fun K0 hK0 => ?_)
  refine c_region ?_
  refine r_y rfl rfl (y_assign rfl) ?_
  refine r_nil ?_
  refine hK0 _ _ _ ?_
  clear hK0 K0
  refine c_seq (fun K1 hK1 => ?_)
  refine c_region ?_
  refine r_y rfl rfl (y_bld rfl tz50 fk50 bp50_1 rfl rfl) ?_
  refine r_y rfl rfl (y_bld rfl tz50 fk50 bp50_1 rfl rfl) ?_
  refine r_s rfl ?_
  refine s_buildSlice (cs := (encRule (ansR 1) zSl ++ encRule (ansR 2) zSl)) (e := 50) rfl rfl (fun _ => by kernel_rfl) (fun b0 => ?_)
  refine r_freeze (i := 0) rfl (fun m3 hm3 hc0 => ?_)
  replace hm := hm.trans hm3
  try replace hc0 := fun j v h => hm3.cell (hc0 j v h)
  clear hm3
  have hz0 := fzR_two hc0 rfl rfl
  refine r_s rfl ?_
  refine s_call0 rfl Try.call28 rfl (ruleSortF_w ⟨some ⟨b0, 0, none⟩, 2, 2⟩ [(ansR 1, zSl), (ansR 2, zSl)] _ _ hz0 (by simp)) ?_
  rintro _ m2 _ hm2 ⟨a, n, lr, rfl, hzr, hlr, hnn, rfl⟩
  replace hm := hm.trans hm2
  clear hm2
  refine r_y rfl rfl (y_assign rfl) ?_
  refine r_nil ?_
  refine hK1 _ _ _ ?_
  clear hK1 K1
  refine c_seq (fun K2 hK2 => ?_)
  refine c_region ?_
  have e1 : lr.map (·.1) = [ansR 2, ansR 1] := by rw [hlr]; exact ans_sort
  have hn2 : n = 2 := by have := congrArg List.length e1; have h2 := hzr.len; simp at this h2; omega
  have hsL : ({ a := a, n := n, cap := n } : Sl).n = lr.length := hzr.len
  have hlt : 0 < n := by omega
  have hl2 : lr.length = 2 := by have := congrArg List.length e1; simpa using this
  obtain ⟨x, hx⟩ := get_of_lt (l := lr) (k := 0) (by omega)
  have hx1 : x.1 = ansR 2 := by have h3 := map_get (f := fun (p : RuleD × Sl) => p.1) hx; rw [e1] at h3; simpa using h3.symm
  have hidx : idxF (fun r => cubeHas r.m zHead) (lr.map (·.1)) = 0 := by rw [e1]; exact idxF_at (i := 0) (x := ansR 2) rfl rfl ans_has
  have hsd : ruleSound x.1 = true := by rw [hx1]; exact ans_sound
  have hpr : x.1.prio = 2 := by rw [hx1]; rfl
  refine r_y rfl rfl (y_move rfl) ?_
  refine r_y rfl rfl (y_bld rfl tz27 fk27 bp27_ rfl rfl) ?_
  refine r_s rfl ?_
  refine s_call0 rfl Try.call69 rfl (find_w ⟨a, n, n⟩ lr zHead _ _ hzr) ?_
  rintro _ m2 _ hm2 ⟨rfl, rfl⟩
  replace hm := hm.trans hm2
  replace hzr := hzr.mono hm2
  clear hm2
  refine r_y rfl rfl (y_move rfl) ?_
  refine r_y rfl rfl (y_extract rfl rfl) ?_
  refine r_y rfl rfl (y_extract rfl rfl) ?_
  refine r_y rfl rfl (y_assign rfl) ?_
  refine r_y rfl rfl (y_assign rfl) ?_
  refine r_nil ?_
  refine hK2 _ _ _ ?_
  clear hK2 K2
  refine c_seq (fun K3 hK3 => ?_)
  refine c_region ?_
  refine r_y rfl rfl (y_move rfl) ?_
  refine r_y rfl rfl (y_len tl33 rfl) ?_
  refine r_y rfl rfl (y_iop rfl rfl rfl) ?_
  refine r_y rfl rfl (y_move rfl) ?_
  refine r_yg rfl (by rw [hn2]; rfl) rfl (y_move rfl) ?_
  refine r_y rfl rfl (y_pickt rfl (by rw [hn2]; rfl) rfl) ?_
  refine r_y rfl rfl (y_move rfl) ?_
  refine r_yg rfl (by rw [hidx]; rfl) rfl (y_move rfl) ?_
  refine r_yg rfl (by rw [hidx]; rfl) rfl (y_iop rfl rfl rfl) ?_
  refine r_y rfl rfl (y_pickt rfl (by rw [hidx]; rfl) rfl) ?_
  refine r_y rfl rfl (y_move rfl) ?_
  refine r_yg rfl (by rw [hidx]; rfl) rfl (y_move rfl) ?_
  refine r_yg rfl (by rw [hidx]; rfl) rfl (y_indexAddr_slice (k := 0) rfl rfl tl33 hlt (At.fz hzr.fz hlt)) ?_
  refine r_yg rfl (by rw [hidx]; rfl) rfl (y_fieldAddr rfl ((At.fz hzr.fz hlt).eadd) fo50_1 (eadd_eadd _ _ _)) ?_
  refine r_yg rfl (by rw [hidx]; rfl) rfl (y_load_s rfl ts3 (RdS.fz (k := 0) hzr.fz (map_get hx) rfl)) ?_
  refine r_yg rfl (by rw [hidx]; rfl) rfl (y_iop rfl rfl rfl) ?_
  refine r_y rfl rfl (y_pickt rfl (by rw [hidx]; rfl) rfl) ?_
  refine r_y rfl rfl (y_move rfl) ?_
  refine r_yg rfl (by rw [hpr]; rfl) rfl (y_move rfl) ?_
  refine r_yg rfl (by rw [hpr]; rfl) rfl (y_indexAddr_slice (k := 0) rfl rfl tl33 hlt (At.fz hzr.fz hlt)) ?_
  refine r_yg rfl (by rw [hpr]; rfl) rfl (y_load_a (cs := encRule x.1 x.2) rfl ts50 (RdA.fz0 (k := 0) hzr.fz (map_get hx))) ?_
  refine r_sg rfl (by rw [hpr]; rfl) ?_
  refine s_call0 rfl Try.call70 rfl (ruleSound_ok x.1 x.2 _ _ (hzr.acts x (List.mem_of_getElem? hx)).1) ?_
  rintro _ m2 _ hm2 ⟨rfl, rfl⟩
  replace hm := hm.trans hm2
  replace hzr := hzr.mono hm2
  clear hm2
  refine r_y rfl rfl (y_pickt rfl (by rw [hpr]; rfl) rfl) ?_
  refine r_y rfl rfl (y_assign rfl) ?_
  refine r_nil ?_
  refine hK3 _ _ _ ?_
  clear hK3 K3
  refine c_ret ?_
  refine e_ret 0 hm (res_tmps rfl) ?_
  exact ⟨congrArg Value.bool hsd, rfl⟩
end Go.Aw
namespace Go.Aw
open Go Go.Proofs
set_option maxRecDepth 100000 in
theorem ruleOwn_w (s1 : Sl) (l1 : List (RuleD × Sl)) (m : Snap) (H : Hp) (hz : FzR m s1 l1) (hfa : ∀ p ∈ l1, p.1.acts.length ≤ 4398046511103) : Fn Try.prog 6 [s1.v] m H (fun v _ H' => v = .bool true ∧ H' = H) := by
  have hm : m.le m := Snap.le.refl m
  refine fn_end Try.func6 rfl rfl rfl ?_
  refine c_seq (fun K0 hK0 => ?_)
  refine c_region ?_
  refine r_y rfl rfl (y_assign rfl) ?_
  refine r_nil ?_
  refine hK0 _ _ _ ?_
  clear hK0 K0
  refine c_seq (fun K1 hK1 => ?_)
  refine c_seq (fun K2 hK2 => ?_)
  refine c_region ?_
  refine r_y rfl rfl (y_move rfl) ?_
  refine r_y rfl rfl (y_len tl33 rfl) ?_
  refine r_y rfl rfl (y_iop rfl rfl rfl) ?_
  refine r_nil ?_
  refine hK2 _ _ _ ?_
  clear hK2 K2
  refine c_cond rfl (fun hS => ?_) (fun hS => ?_)
  ·
    refine c_seq (fun K3 hK3 => ?_)
    refine c_region ?_
    refine r_s rfl ?_
    refine s_call0 rfl Try.call26 rfl (answers5_w _ _) ?_
    rintro _ m2 _ hm2 ⟨rfl, rfl⟩
    replace hm := hm.trans hm2
    replace hz := hz.mono hm2
    clear hm2
    refine r_y rfl rfl (y_assign rfl) ?_
    refine r_nil ?_
    refine hK3 _ _ _ ?_
    clear hK3 K3
    refine c_ret ?_
    refine e_ret 0 hm (res_tmps rfl) ?_
    first | exact ⟨rfl, rfl⟩ | exact ⟨by rw [hneq]; rfl, rfl⟩
  ·
    refine c_skip ?_
    refine hK1 _ _ _ ?_
    clear hK1 K1
    refine c_seq (fun K4 hK4 => ?_)
    refine c_region ?_
    refine r_nilvec 50 32 ?_
    refine r_y rfl rfl (y_assign rfl) ?_
    refine r_nil ?_
    refine hK4 _ _ _ ?_
    clear hK4 K4
    refine c_seq (fun K5 hK5 => ?_)
    refine c_seq (fun K6 hK6 => ?_)
    refine c_region ?_
    refine r_y rfl rfl (y_assign rfl) ?_
    refine r_nil ?_
    refine hK6 _ _ _ ?_
    clear hK6 K6
    refine c_block ?_
    have hl := hz.len
    have hs40 : s1.n ≤ 40 := by simp at hS; omega
    have hall : AllA m [] := fun p hp => (by cases hp)
    replace hall := hall.mono hm
    refine c_loopx (α := Nat × List (RuleD × Sl) × Sl) (fun vv => match vv with | (i, li, sv) => [(0, s1.v), (3, sv.v), (4, .int .i64 (i : Nat))]) (fun vv => match vv with | (i, li, sv) => .vec sv.a sv.n sv.cap 50 32 (li.map fun p => encRule p.1 p.2) :: H) (fun k0 vv m1 => match vv with | (i, li, sv) => (i + k0 = s1.n ∧ sv.n = i ∧ li.map (·.1) = (l1.map (·.1)).take i) ∧ m.le m1 ∧ (FzR m1 s1 l1) ∧ (AllA m1 li)) (s1.n) (0, [], zSl) ⟨rfl, rfl, rfl, trivial⟩ rfl ⟨⟨by omega, rfl, rfl⟩, hm, hz, hall⟩ ?_
    clear hm hz hall
    rintro k0 ⟨i, li, sv⟩ m1 ⟨hi0, hm, hz, hall⟩
    obtain ⟨hi, hsn, hro⟩ := hi0
    refine c_seq (fun K7 hK7 => ?_)
    refine c_seq (fun K8 hK8 => ?_)
    refine c_region ?_
    refine r_y rfl rfl (y_move rfl) ?_
    refine r_y rfl rfl (y_move rfl) ?_
    refine r_y rfl rfl (y_len tl33 rfl) ?_
    refine r_y rfl rfl (y_iop rfl rfl rfl) ?_
    refine r_nil ?_
    refine hK8 _ _ _ ?_
    clear hK8 K8
    refine c_cond rfl (fun h0 => ?_) (fun h0 => ?_)
    ·
      have hlt : i < s1.n := by simp at h0; omega
      obtain ⟨x, hx⟩ := get_of_lt (l := l1) (k := i) (by omega)
      refine c_skip ?_
      refine hK7 _ _ _ ?_
      clear hK7 K7
      refine c_seq (fun K9 hK9 => ?_)
      refine c_block ?_
      refine c_seq (fun K10 hK10 => ?_)
      refine c_region ?_
      refine r_y rfl rfl (y_move rfl) ?_
      refine r_y rfl rfl (y_move rfl) ?_
      refine r_y rfl rfl (y_indexAddr_slice rfl rfl tl33 hlt (At.fz hz.fz hlt)) ?_
      refine r_y rfl rfl (y_load_a rfl ts50 (RdA.fz0 hz.fz (map_get hx))) ?_
      refine r_s rfl ?_
      refine s_alloc rfl tz50 (fun b0 => ?_)
      refine r_s rfl ?_
      refine s_store (us := encRule x.1 x.2) rfl rfl rfl ts50 rfl rfl (one_rule _ _) (i := 0) rfl rfl ?_
      refine r_nil ?_
      refine hK10 _ _ _ ?_
      clear hK10 K10
      refine c_seq (fun K11 hK11 => ?_)
      refine c_region ?_
      refine r_s rfl ?_
      refine s_buildSlice (cs := []) (e := 53) rfl rfl (fun _ => by kernel_rfl) (fun b1 => ?_)
      refine r_toVec (i := 0) (s := 4) (k := 0) [] rfl rfl (fun c h => by cases h) rfl (Nat.zero_le _) ?_
      refine r_y rfl rfl (y_fieldAddr rfl At.lit fo50_2 rfl) ?_
      refine r_y rfl rfl (y_load_s rfl ts30 (RdS.blk (i := 1) rfl rfl)) ?_
      have hxa := (hz.acts x (List.mem_of_getElem? hx)).1.lenA
      have hxb := hfa x (List.mem_of_getElem? hx)
      refine r_s rfl ?_
      refine s_append rfl rfl rfl tl30 zo53 tb53 (i := 0) rfl (Src.fz (hz.acts x (List.mem_of_getElem? hx)).1 (one_acts _) (hz.acts x (List.mem_of_getElem? hx)).2) (by omega) (by unfold maxLen; omega) (fun a1 c1 => ?_)
      refine r_freezeVec (i := 0) rfl rfl (fun m3 hm3 hza hna => ?_)
      replace hm := hm.trans hm3
      replace hz := hz.mono hm3
      replace hall := hall.mono hm3
      clear hm3
      refine r_y rfl rfl (y_fieldAddr rfl At.lit fo50_2 rfl) ?_
      refine r_s rfl ?_
      refine s_store rfl rfl rfl ts30 rfl rfl (by simp [Value.oneCell', wv, Sl.v]) (i := 0) rfl rfl ?_
      refine r_nil ?_
      refine hK11 _ _ _ ?_
      clear hK11 K11
      refine c_region ?_
      refine r_y rfl rfl (y_move rfl) ?_
      refine r_y rfl rfl (y_load_a (cs := encRule x.1 ⟨a1, 0 + x.2.n, c1⟩) rfl ts50 (RdA.blk (i := 0) rfl rfl)) ?_
      refine r_s rfl ?_
      refine s_buildSlice (cs := (encRule x.1 ⟨a1, 0 + x.2.n, c1⟩)) (e := 50) rfl rfl (fun _ => by kernel_rfl) (fun b2 => ?_)
      refine r_s rfl ?_
      refine s_append rfl rfl rfl tl33 zo50 tb50 (i := 2) rfl (Src.one' (i := 0) rfl rfl (one_rule _ _)) (by omega) (by unfold maxLen; omega) (fun a2 c2 => ?_)
      refine r_del 0 rfl ?_
      refine r_y rfl rfl (y_assign rfl) ?_
      refine r_nil ?_
      refine hK9 _ _ _ ?_
      clear hK9 K9
      refine c_region ?_
      refine r_del 0 rfl ?_
      refine r_y rfl rfl (y_move rfl) ?_
      first | refine r_y rfl rfl (y_inc rfl (by omega)) ?_ | refine r_y rfl rfl (y_iop rfl rfl rfl) ?_
      refine r_y rfl rfl (y_assign rfl) ?_
      refine r_nil ?_
      replace hall := hall.snoc (x := x.1) (s := ⟨a1, 0 + x.2.n, c1⟩) hza hna
      exact ⟨k0 - 1, (i + 1, li ++ [(x.1, ⟨a1, 0 + x.2.n, c1⟩)], ⟨a2, sv.n + 1, c2⟩), by omega, ⟨rfl, rfl, rfl, trivial⟩, (by simp only [List.map_append]; rfl), ⟨by omega, by simp [hsn], by rw [List.map_append, hro, List.take_add_one, map_get hx]; rfl⟩, hm, hz, hall⟩
    ·
      refine c_exit ?_
      refine hK5 _ _ _ ?_
      clear hK7 K7 hK5 K5
      refine c_seq (fun K12 hK12 => ?_)
      refine c_region ?_
      refine r_freezeVec (i := 0) rfl rfl (fun m3 hm3 hzi hni => ?_)
      replace hm := hm.trans hm3
      replace hz := hz.mono hm3
      replace hall := hall.mono hm3
      clear hm3
      have hzin : FzR _ sv li := ⟨hzi, hall⟩
      obtain rfl : i = s1.n := by simp at h0; omega
      have hli : li.map (·.1) = l1.map (·.1) := by rw [hro]; exact List.take_of_length_le (by simp; omega)
      have hfl := acts_le hfa hli
      have hlil : li.length = l1.length := by have := congrArg List.length hli; simpa using this
      refine r_y rfl rfl (y_move rfl) ?_
      refine r_s rfl ?_
      refine s_call0 rfl Try.call27 rfl (ruleCopy_w sv li _ _ hzin hfl (by omega)) ?_
      rintro _ m2 _ hm2 ⟨a, n, cap, lo, rfl, hnl, hlo, hok1, rfl⟩
      replace hm := hm.trans hm2
      replace hz := hz.mono hm2
      replace hall := hall.mono hm2
      replace hzi := hzi.mono hm2
      replace hzin := hzin.mono hm2
      clear hm2
      refine r_y rfl rfl (y_assign rfl) ?_
      refine r_nil ?_
      refine hK12 _ _ _ ?_
      clear hK12 K12
      refine c_seq (fun K13 hK13 => ?_)
      refine c_region ?_
      refine r_y rfl rfl (y_move rfl) ?_
      refine r_s rfl ?_
      refine s_call0 rfl Try.call28 rfl (ruleSort_w sv li _ _ hzin (by omega)) ?_
      rintro _ m2 _ hm2 ⟨a2, n2, cap2, lo2, rfl, hnl2, hlo2, hok2, rfl⟩
      replace hm := hm.trans hm2
      replace hz := hz.mono hm2
      replace hall := hall.mono hm2
      replace hzi := hzi.mono hm2
      replace hzin := hzin.mono hm2
      clear hm2
      refine r_y rfl rfl (y_assign rfl) ?_
      refine r_nil ?_
      refine hK13 _ _ _ ?_
      clear hK13 K13
      refine c_seq (fun K14 hK14 => ?_)
      refine c_seq (fun K15 hK15 => ?_)
      refine c_region ?_
      have hnn : n = s1.n := by have := congrArg List.length hlo; simp [rulesO] at this; omega
      refine r_perm _ (perm_swap2 _ _ _ _ _) ?_
      refine r_y rfl rfl (y_assign rfl) ?_
      refine r_nil ?_
      refine hK15 _ _ _ ?_
      clear hK15 K15
      refine c_block ?_
      refine c_loopx (α := Nat × List OwnR) (fun vv => match vv with | (i, lc) => [(0, s1.v), (3, sv.v), (6, .slice a n n), (7, .slice a2 n2 n2), (8, .int .i64 (i : Nat))]) (fun vv => match vv with | (i, lc) => rowO a n cap lc :: (itsO lc ++ (rowO a2 n2 cap2 lo2 :: (itsO lo2 ++ H)))) (fun k1 vv m1 => match vv with | (i, lc) => (i + k1 = n ∧ lc.length = n ∧ (∀ o ∈ lc, o.ok) ∧ Bumped lo lc i) ∧ m.le m1 ∧ (FzR m1 s1 l1) ∧ (FzR m1 sv li)) (n) (0, lo) ⟨rfl, rfl, rfl, rfl, rfl, trivial⟩ rfl ⟨⟨by omega, by omega, hok1, .inl ⟨rfl, rfl⟩⟩, hm, hz, hzin⟩ ?_
      clear hm hz hzin
      rintro k1 ⟨i, lc⟩ m1 ⟨hi1, hm, hz, hzin⟩
      obtain ⟨hi, hlc, hokc, hex⟩ := hi1
      refine c_seq (fun K16 hK16 => ?_)
      refine c_seq (fun K17 hK17 => ?_)
      refine c_region ?_
      refine r_y rfl rfl (y_move rfl) ?_
      refine r_y rfl rfl (y_move rfl) ?_
      refine r_y rfl rfl (y_len tl33 rfl) ?_
      refine r_y rfl rfl (y_iop rfl rfl rfl) ?_
      refine r_nil ?_
      refine hK17 _ _ _ ?_
      clear hK17 K17
      refine c_cond rfl (fun h1 => ?_) (fun h1 => ?_)
      ·
        have hlt : i < n := by simp at h1; omega
        obtain ⟨o, ho⟩ := get_of_lt (l := lc) (k := i) (by omega)
        refine c_skip ?_
        refine hK16 _ _ _ ?_
        clear hK16 K16
        refine c_seq (fun K18 hK18 => ?_)
        refine c_block ?_
        refine c_seq (fun K19 hK19 => ?_)
        refine c_seq (fun K20 hK20 => ?_)
        refine c_region ?_
        refine r_y rfl rfl (y_assign rfl) ?_
        refine r_nil ?_
        refine hK20 _ _ _ ?_
        clear hK20 K20
        refine c_block ?_
        refine c_perm _ (perm_take ho _ _) ?_
        refine c_vecfacts (i := 0) (a := o.s.a) (len := o.s.n) (cap := o.k) (e := 53) (s := 4) (cs := o.r.acts.map encAct) rfl (fun _ hom hla _ _ => ?_)
        unfold maxLen at hom
        refine c_loopx (α := Nat × List ActD) (fun vv => match vv with | (k, la) => [(0, s1.v), (3, sv.v), (6, .slice a n n), (7, .slice a2 n2 n2), (8, .int .i64 (i : Nat)), (9, .int .i64 (k : Nat))]) (fun vv => match vv with | (k, la) => (o.withActs la).it :: rowO a n cap lc :: (itsX lc i ++ (rowO a2 n2 cap2 lo2 :: (itsO lo2 ++ H)))) (fun k2 vv m1 => match vv with | (k, la) => (k + k2 = o.s.n ∧ la.length = o.s.n) ∧ m.le m1 ∧ (FzR m1 s1 l1) ∧ (FzR m1 sv li)) (o.s.n) (0, o.r.acts) ⟨rfl, rfl, rfl, rfl, rfl, rfl, trivial⟩ rfl ⟨⟨by omega, by simpa using hla⟩, hm, hz, hzin⟩ ?_
        clear hm hz hzin
        rintro k2 ⟨k, la⟩ m1 ⟨hi2, hm, hz, hzin⟩
        obtain ⟨hk, hla2⟩ := hi2
        refine c_seq (fun K21 hK21 => ?_)
        refine c_seq (fun K22 hK22 => ?_)
        refine c_region ?_
        refine r_y rfl rfl (y_move rfl) ?_
        refine r_y rfl rfl (y_move rfl) ?_
        refine r_y rfl rfl (y_move rfl) ?_
        refine r_y rfl rfl (y_indexAddr_slice (k := i) rfl rfl tl33 hlt (At.vec (i := 1) rfl hlt)) ?_
        refine r_y rfl rfl (y_fieldAddr rfl ((At.vec (k := i) (i := 1) rfl hlt).eadd) fo50_2 (eadd_eadd _ _ _)) ?_
        refine r_y rfl rfl (y_load_s rfl ts30 (RdS.vec (k := i) (j := 25) (i := 1) rfl rfl (map_get ho) rfl)) ?_
        refine r_y rfl rfl (y_len tl30 rfl) ?_
        refine r_y rfl rfl (y_iop rfl rfl rfl) ?_
        refine r_nil ?_
        refine hK22 _ _ _ ?_
        clear hK22 K22
        refine c_cond rfl (fun hk1 => ?_) (fun hk1 => ?_)
        ·
          have hkl : k < o.s.n := by simp at hk1; omega
          obtain ⟨x, hx⟩ := get_of_lt (l := la) (k := k) (by omega)
          refine c_skip ?_
          refine hK21 _ _ _ ?_
          clear hK21 K21
          refine c_seq (fun K23 hK23 => ?_)
          refine c_block ?_
          refine c_region ?_
          refine r_y rfl rfl (y_move rfl) ?_
          refine r_y rfl rfl (y_move rfl) ?_
          refine r_y rfl rfl (y_indexAddr_slice (k := i) rfl rfl tl33 hlt (At.vec (i := 1) rfl hlt)) ?_
          refine r_y rfl rfl (y_fieldAddr rfl ((At.vec (k := i) (i := 1) rfl hlt).eadd) fo50_2 (eadd_eadd _ _ _)) ?_
          refine r_y rfl rfl (y_load_s rfl ts30 (RdS.vec (k := i) (j := 25) (i := 1) rfl rfl (map_get ho) rfl)) ?_
          refine r_y rfl rfl (y_move rfl) ?_
          refine r_y rfl rfl (y_indexAddr_slice (k := k) rfl rfl tl30 hkl (At.vec (i := 0) rfl hkl)) ?_
          refine r_y rfl rfl (y_fieldAddr rfl ((At.vec (k := k) (i := 0) rfl hkl).eadd) fo53_1 (eadd_eadd _ _ _)) ?_
          refine r_y rfl rfl (y_load_s rfl ts3 (RdS.vec (k := k) (j := 1) (i := 0) rfl rfl (map_get hx) rfl)) ?_
          first | refine r_y rfl rfl (y_inc rfl (by omega)) ?_ | refine r_y rfl rfl (y_iop rfl rfl rfl) ?_
          refine r_y rfl rfl (y_indexAddr_slice (k := k) rfl rfl tl30 hkl (At.vec (i := 0) rfl hkl)) ?_
          refine r_y rfl rfl (y_fieldAddr rfl ((At.vec (k := k) (i := 0) rfl hkl).eadd) fo53_1 (eadd_eadd _ _ _)) ?_
          refine r_s rfl ?_
          refine s_storev (k := k) (j := 1) (c := encAct x) rfl rfl rfl ts3 rfl rfl (by simp [Value.oneCell']) (i := 0) rfl (map_get hx) rfl ?_
          refine r_nil ?_
          refine hK23 _ _ _ ?_
          clear hK23 K23
          refine c_region ?_
          refine r_y rfl rfl (y_move rfl) ?_
          first | refine r_y rfl rfl (y_inc rfl (by omega)) ?_ | refine r_y rfl rfl (y_iop rfl rfl rfl) ?_
          refine r_y rfl rfl (y_assign rfl) ?_
          refine r_nil ?_
          exact ⟨k2 - 1, (k + 1, la.set k { x with port := IntKind.i64.wrap (x.port + 1) }), by omega, ⟨rfl, rfl, rfl, rfl, rfl, rfl, trivial⟩, (by simp only [OwnR.it, OwnR.withActs, List.map_set]; rfl), ⟨by omega, by simpa using hla2⟩, hm, hz, hzin⟩
        ·
          refine c_exit ?_
          refine hK19 _ _ _ ?_
          clear hK21 K21 hK19 K19
          refine c_region ?_
          refine r_perm _ (perm_put (by omega) ((o.withActs la).withPrio (IntKind.i64.wrap (o.r.prio + 1))) _ _) ?_
          refine r_y rfl rfl (y_move rfl) ?_
          refine r_y rfl rfl (y_move rfl) ?_
          refine r_y rfl rfl (y_indexAddr_slice (k := i) rfl rfl tl33 hlt (At.vec (i := 0) rfl hlt)) ?_
          refine r_y rfl rfl (y_fieldAddr rfl ((At.vec (k := i) (i := 0) rfl hlt).eadd) fo50_1 (eadd_eadd _ _ _)) ?_
          refine r_y rfl rfl (y_load_s rfl ts3 (RdS.vec (k := i) (j := 24) (i := 0) rfl rfl (map_get ho) rfl)) ?_
          first | refine r_y rfl rfl (y_inc rfl (by omega)) ?_ | refine r_y rfl rfl (y_iop rfl rfl rfl) ?_
          refine r_y rfl rfl (y_indexAddr_slice (k := i) rfl rfl tl33 hlt (At.vec (i := 0) rfl hlt)) ?_
          refine r_y rfl rfl (y_fieldAddr rfl ((At.vec (k := i) (i := 0) rfl hlt).eadd) fo50_1 (eadd_eadd _ _ _)) ?_
          refine r_s rfl ?_
          refine s_storev (k := i) (j := 24) (c := o.enc) rfl rfl rfl ts3 rfl rfl (by simp [Value.oneCell']) (i := 0) rfl (map_get ho) rfl ?_
          refine r_nil ?_
          refine hK18 _ _ _ ?_
          clear hK18 K18
          refine c_region ?_
          refine r_y rfl rfl (y_move rfl) ?_
          first | refine r_y rfl rfl (y_inc rfl (by omega)) ?_ | refine r_y rfl rfl (y_iop rfl rfl rfl) ?_
          refine r_y rfl rfl (y_assign rfl) ?_
          refine r_nil ?_
          exact ⟨k1 - 1, (i + 1, lc.set i ((o.withActs la).withPrio (IntKind.i64.wrap (o.r.prio + 1)))), by omega, ⟨rfl, rfl, rfl, rfl, rfl, trivial⟩, (by simp only [rowO, List.map_set]; rfl), ⟨by omega, by simpa using hlc, ok_set hokc (hokc o (List.mem_of_getElem? ho)), hex.next ho (wrap_succ_ne _)⟩, hm, hz, hzin⟩
      ·
        refine c_exit ?_
        refine hK14 _ _ _ ?_
        clear hK16 K16 hK14 K14
        refine c_seq (fun K24 hK24 => ?_)
        refine c_seq (fun K25 hK25 => ?_)
        refine c_region ?_
        have hin : i = n := by simp at h1; omega
        have hbump : Bumped lo lc n := hin ▸ hex
        have hokC := hokc
        have hn2b : n2 ≤ 40 := by have h1 := own_len hlo2; have h2 := sortR_len (li.map (·.1)); rw [List.length_map] at h2; omega
        refine r_perm _ (perm_swap2 _ _ _ _ _) ?_
        refine r_y rfl rfl (y_assign rfl) ?_
        refine r_nil ?_
        refine hK25 _ _ _ ?_
        clear hK25 K25
        refine c_block ?_
        refine c_loopx (α := Nat × List OwnR) (fun vv => match vv with | (i, ld) => [(0, s1.v), (3, sv.v), (6, .slice a n n), (7, .slice a2 n2 n2), (10, .int .i64 (i : Nat))]) (fun vv => match vv with | (i, ld) => rowO a2 n2 cap2 ld :: (itsO ld ++ (rowO a n cap lc :: (itsO lc ++ H)))) (fun k3 vv m1 => match vv with | (i, ld) => (i + k3 = n2 ∧ ld.length = n2 ∧ (∀ o ∈ ld, o.ok) ∧ True) ∧ m.le m1 ∧ (FzR m1 s1 l1) ∧ (FzR m1 sv li)) (n2) (0, lo2) ⟨rfl, rfl, rfl, rfl, rfl, trivial⟩ rfl ⟨⟨by omega, by omega, hok2, trivial⟩, hm, hz, hzin⟩ ?_
        clear hm hz hzin
        rintro k3 ⟨i, ld⟩ m1 ⟨hi3, hm, hz, hzin⟩
        obtain ⟨hi, hlc, hokc, hex⟩ := hi3
        refine c_seq (fun K26 hK26 => ?_)
        refine c_seq (fun K27 hK27 => ?_)
        refine c_region ?_
        refine r_y rfl rfl (y_move rfl) ?_
        refine r_y rfl rfl (y_move rfl) ?_
        refine r_y rfl rfl (y_len tl33 rfl) ?_
        refine r_y rfl rfl (y_iop rfl rfl rfl) ?_
        refine r_nil ?_
        refine hK27 _ _ _ ?_
        clear hK27 K27
        refine c_cond rfl (fun h2 => ?_) (fun h2 => ?_)
        ·
          have hlt : i < n2 := by simp at h2; omega
          obtain ⟨o, ho⟩ := get_of_lt (l := ld) (k := i) (by omega)
          refine c_skip ?_
          refine hK26 _ _ _ ?_
          clear hK26 K26
          refine c_seq (fun K28 hK28 => ?_)
          refine c_block ?_
          refine c_seq (fun K29 hK29 => ?_)
          refine c_region ?_
          refine r_y rfl rfl (y_assign rfl) ?_
          refine r_nil ?_
          refine hK29 _ _ _ ?_
          clear hK29 K29
          refine c_block ?_
          refine c_perm _ (perm_take ho _ _) ?_
          refine c_vecfacts (i := 0) (a := o.s.a) (len := o.s.n) (cap := o.k) (e := 53) (s := 4) (cs := o.r.acts.map encAct) rfl (fun _ hom hla _ _ => ?_)
          unfold maxLen at hom
          refine c_loopx (α := Nat × List ActD) (fun vv => match vv with | (k, la) => [(0, s1.v), (3, sv.v), (6, .slice a n n), (7, .slice a2 n2 n2), (10, .int .i64 (i : Nat)), (11, .int .i64 (k : Nat))]) (fun vv => match vv with | (k, la) => (o.withActs la).it :: rowO a2 n2 cap2 ld :: (itsX ld i ++ (rowO a n cap lc :: (itsO lc ++ H)))) (fun k4 vv m1 => match vv with | (k, la) => (k + k4 = o.s.n ∧ la.length = o.s.n) ∧ m.le m1 ∧ (FzR m1 s1 l1) ∧ (FzR m1 sv li)) (o.s.n) (0, o.r.acts) ⟨rfl, rfl, rfl, rfl, rfl, rfl, trivial⟩ rfl ⟨⟨by omega, by simpa using hla⟩, hm, hz, hzin⟩ ?_
          clear hm hz hzin
          rintro k4 ⟨k, la⟩ m1 ⟨hi4, hm, hz, hzin⟩
          obtain ⟨hk, hla2⟩ := hi4
          refine c_seq (fun K30 hK30 => ?_)
          refine c_seq (fun K31 hK31 => ?_)
          refine c_region ?_
          refine r_y rfl rfl (y_move rfl) ?_
          refine r_y rfl rfl (y_move rfl) ?_
          refine r_y rfl rfl (y_move rfl) ?_
          refine r_y rfl rfl (y_indexAddr_slice (k := i) rfl rfl tl33 hlt (At.vec (i := 1) rfl hlt)) ?_
          refine r_y rfl rfl (y_fieldAddr rfl ((At.vec (k := i) (i := 1) rfl hlt).eadd) fo50_2 (eadd_eadd _ _ _)) ?_
          refine r_y rfl rfl (y_load_s rfl ts30 (RdS.vec (k := i) (j := 25) (i := 1) rfl rfl (map_get ho) rfl)) ?_
          refine r_y rfl rfl (y_len tl30 rfl) ?_
          refine r_y rfl rfl (y_iop rfl rfl rfl) ?_
          refine r_nil ?_
          refine hK31 _ _ _ ?_
          clear hK31 K31
          refine c_cond rfl (fun hk2 => ?_) (fun hk2 => ?_)
          ·
            have hkl : k < o.s.n := by simp at hk2; omega
            obtain ⟨x, hx⟩ := get_of_lt (l := la) (k := k) (by omega)
            refine c_skip ?_
            refine hK30 _ _ _ ?_
            clear hK30 K30
            refine c_seq (fun K32 hK32 => ?_)
            refine c_block ?_
            refine c_region ?_
            refine r_y rfl rfl (y_move rfl) ?_
            refine r_y rfl rfl (y_move rfl) ?_
            refine r_y rfl rfl (y_indexAddr_slice (k := i) rfl rfl tl33 hlt (At.vec (i := 1) rfl hlt)) ?_
            refine r_y rfl rfl (y_fieldAddr rfl ((At.vec (k := i) (i := 1) rfl hlt).eadd) fo50_2 (eadd_eadd _ _ _)) ?_
            refine r_y rfl rfl (y_load_s rfl ts30 (RdS.vec (k := i) (j := 25) (i := 1) rfl rfl (map_get ho) rfl)) ?_
            refine r_y rfl rfl (y_move rfl) ?_
            refine r_y rfl rfl (y_indexAddr_slice (k := k) rfl rfl tl30 hkl (At.vec (i := 0) rfl hkl)) ?_
            refine r_y rfl rfl (y_fieldAddr rfl ((At.vec (k := k) (i := 0) rfl hkl).eadd) fo53_1 (eadd_eadd _ _ _)) ?_
            refine r_y rfl rfl (y_load_s rfl ts3 (RdS.vec (k := k) (j := 1) (i := 0) rfl rfl (map_get hx) rfl)) ?_
            first | refine r_y rfl rfl (y_inc rfl (by omega)) ?_ | refine r_y rfl rfl (y_iop rfl rfl rfl) ?_
            refine r_y rfl rfl (y_indexAddr_slice (k := k) rfl rfl tl30 hkl (At.vec (i := 0) rfl hkl)) ?_
            refine r_y rfl rfl (y_fieldAddr rfl ((At.vec (k := k) (i := 0) rfl hkl).eadd) fo53_1 (eadd_eadd _ _ _)) ?_
            refine r_s rfl ?_
            refine s_storev (k := k) (j := 1) (c := encAct x) rfl rfl rfl ts3 rfl rfl (by simp [Value.oneCell']) (i := 0) rfl (map_get hx) rfl ?_
            refine r_nil ?_
            refine hK32 _ _ _ ?_
            clear hK32 K32
            refine c_region ?_
            refine r_y rfl rfl (y_move rfl) ?_
            first | refine r_y rfl rfl (y_inc rfl (by omega)) ?_ | refine r_y rfl rfl (y_iop rfl rfl rfl) ?_
            refine r_y rfl rfl (y_assign rfl) ?_
            refine r_nil ?_
            exact ⟨k4 - 1, (k + 1, la.set k { x with port := IntKind.i64.wrap (x.port + 1) }), by omega, ⟨rfl, rfl, rfl, rfl, rfl, rfl, trivial⟩, (by simp only [OwnR.it, OwnR.withActs, List.map_set]; rfl), ⟨by omega, by simpa using hla2⟩, hm, hz, hzin⟩
          ·
            refine c_exit ?_
            refine hK28 _ _ _ ?_
            clear hK30 K30 hK28 K28
            refine c_region ?_
            refine r_perm _ (perm_put (by omega) (o.withActs la) _ _) ?_
            refine r_y rfl rfl (y_move rfl) ?_
            first | refine r_y rfl rfl (y_inc rfl (by omega)) ?_ | refine r_y rfl rfl (y_iop rfl rfl rfl) ?_
            refine r_y rfl rfl (y_assign rfl) ?_
            refine r_nil ?_
            exact ⟨k3 - 1, (i + 1, ld.set i (o.withActs la)), by omega, ⟨rfl, rfl, rfl, rfl, rfl, trivial⟩, (by simp only [rowO, map_enc_set ho (enc_withActs o la)]), ⟨by omega, by simpa using hlc, ok_set hokc (hokc o (List.mem_of_getElem? ho)), trivial⟩, hm, hz, hzin⟩
        ·
          refine c_exit ?_
          refine hK24 _ _ _ ?_
          clear hK26 K26 hK24 K24
          refine c_seq (fun K33 hK33 => ?_)
          refine c_region ?_
          refine r_s rfl ?_
          refine s_call0 rfl Try.call26 rfl (answers5_w _ _) ?_
          rintro _ m2 _ hm2 ⟨rfl, rfl⟩
          replace hm := hm.trans hm2
          replace hz := hz.mono hm2
          replace hzin := hzin.mono hm2
          clear hm2
          refine r_y rfl rfl (y_move rfl) ?_
          refine r_yg rfl rfl rfl (y_move rfl) ?_
          refine r_yg rfl rfl rfl (y_move rfl) ?_
          refine r_sg rfl rfl ?_
          refine s_call0 rfl Try.call29 rfl (ruleSame_w sv s1 li l1 _ _ hzin hz) ?_
          rintro _ m2 _ hm2 ⟨rfl, rfl⟩
          replace hm := hm.trans hm2
          replace hz := hz.mono hm2
          replace hzin := hzin.mono hm2
          clear hm2
          refine r_y rfl rfl (y_pickt rfl rfl rfl) ?_
          refine r_y rfl rfl (y_move rfl) ?_
          refine r_yg rfl (by simp [hli]) rfl (y_move rfl) ?_
          refine r_yg rfl (by simp [hli]) rfl (y_len tl33 rfl) ?_
          refine r_yg rfl (by simp [hli]) rfl (y_move rfl) ?_
          refine r_yg rfl (by simp [hli]) rfl (y_len tl33 rfl) ?_
          refine r_yg rfl (by simp [hli]) rfl (y_iop rfl rfl rfl) ?_
          refine r_y rfl rfl (y_pickt rfl (by simp [hli]) rfl) ?_
          refine r_y rfl rfl (y_move rfl) ?_
          refine r_yg rfl (by simp; omega) rfl (y_move rfl) ?_
          refine r_yg rfl (by simp; omega) rfl (y_len tl33 rfl) ?_
          refine r_yg rfl (by simp; omega) rfl (y_iop rfl rfl rfl) ?_
          refine r_yg rfl (by simp; omega) rfl (y_move rfl) ?_
          refine r_split (j := 17) rfl (fun hz0 => ?_) (fun hz0 => ?_)
          ·
            refine r_no' rfl rfl hz0 ?_
            refine r_no' rfl rfl hz0 ?_
            refine r_no' rfl rfl hz0 ?_
            refine r_no' rfl rfl hz0 ?_
            refine r_yg rfl (by simp; omega) rfl (y_pickt rfl hz0 rfl) ?_
            refine r_y rfl rfl (y_pickt rfl (by simp; omega) rfl) ?_
            refine r_y rfl rfl (y_assign rfl) ?_
            refine r_nil ?_
            refine hK33 _ _ _ ?_
            clear hK33 K33
            refine c_ent _ _ (fun w hs => St.dropT hs) ?_
            refine c_ent _ _ (fun w hs => St.dropT hs) ?_
            refine c_ret ?_
            refine e_ret 0 hm (res_tmps rfl) ?_
            first | exact ⟨rfl, rfl⟩ | exact ⟨by rw [hneq]; rfl, rfl⟩
          ·
            refine r_perm _ (perm_swap2 _ _ _ _ _) ?_
            refine r_freezeO rfl hokC (fun m3 hm3 hzc hnc => ?_)
            replace hm := hm.trans hm3
            replace hz := hz.mono hm3
            replace hzin := hzin.mono hm3
            have hneq : decide ((lc.map fun o => (o.r, o.s)).map (·.1) = l1.map (·.1)) = false := by
              refine decide_eq_false ?_
              rw [map_fst, ← hli, ← hlo]
              exact hbump.ne (by simp at hz0; omega)
            refine r_yg rfl hz0 rfl (y_move rfl) ?_
            refine r_yg rfl hz0 rfl (y_move rfl) ?_
            refine r_sg rfl hz0 ?_
            refine s_call0 rfl Try.call29 rfl (ruleSame_w ⟨a, n, n⟩ s1 _ l1 _ _ hzc hz) ?_
            rintro _ m2 _ hm2 ⟨rfl, rfl⟩
            replace hm := hm.trans hm2
            replace hz := hz.mono hm2
            replace hzin := hzin.mono hm2
            clear hm2
            refine r_yg rfl hz0 rfl (y_not rfl) ?_
            refine r_yg rfl (by simp; omega) rfl (y_pickf rfl hz0 rfl) ?_
            refine r_y rfl rfl (y_pickt rfl (by simp; omega) rfl) ?_
            refine r_y rfl rfl (y_assign rfl) ?_
            refine r_nil ?_
            refine hK33 _ _ _ ?_
            clear hK33 K33
            refine c_ent _ _ (fun w hs => St.dropT hs) ?_
            refine c_ret ?_
            refine e_ret 0 hm (res_tmps rfl) ?_
            first | exact ⟨rfl, rfl⟩ | exact ⟨by rw [hneq]; rfl, rfl⟩
end Go.Aw
