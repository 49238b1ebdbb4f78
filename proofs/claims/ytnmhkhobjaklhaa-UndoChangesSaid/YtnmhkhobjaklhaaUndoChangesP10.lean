/- Part 10 of the words and walks that the proof behind it uses. -/
import Derived.Test.YtnmhkhobjaklhaaUndoChangesP9
set_option linter.unusedVariables false
set_option linter.unusedSimpArgs false
set_option maxHeartbeats 1000000
namespace Go.Aw
open Go Go.Proofs
set_option maxRecDepth 100000 in
theorem rSort_w (s1 : Sl) (l1 : List (RuleD × Sl)) (m : Snap) (H : Hp) (hz : FzR m s1 l1) (hfit : l1.length ≤ 1000000) : Fn Try.prog 87 [s1.v] m H (fun v m' H' => ∃ (s : Sl) (lr : List (RuleD × Sl)), v = s.v ∧ FzR m' s lr ∧ lr.map (·.1) = sortR (l1.map (·.1)) ∧ (s.a = none → s.cap = 0) ∧ H' = H) := by
  have hl := hz.len
  have hmx := hz.fz.max
  have hle0 := hz.fz.le
  unfold maxLen at hmx
  have hm : m.le m := Snap.le.refl m
  refine fn_end Try.func87 rfl rfl rfl ?_
  refine c_seq (fun K0 hK0 => ?_)
  refine c_region ?_
  refine r_y rfl rfl (y_assign rfl) ?_
  refine r_nil ?_
  refine hK0 _ _ _ ?_
  clear hK0 K0
  refine c_seq (fun K1 hK1 => ?_)
  refine c_region ?_
  refine r_y rfl rfl (y_assign rfl) ?_
  refine r_nil ?_
  refine hK1 _ _ _ ?_
  clear hK1 K1
  refine c_seq (fun K2 hK2 => ?_)
  refine c_seq (fun K3 hK3 => ?_)
  refine c_region ?_
  refine r_y rfl rfl (y_assign rfl) ?_
  refine r_nil ?_
  refine hK3 _ _ _ ?_
  clear hK3 K3
  refine c_block ?_
  have hz3 : FzR m zSl [] := fzR_nil m
  replace hz3 := hz3.mono hm
  refine c_loopx (α := Nat × List (RuleD × Sl) × Sl) (fun vv => match vv with | (i, lr, s3) => [(0, s1.v), (3, s3.v), (4, .int .i64 (i : Nat))]) (fun vv => match vv with | (i, lr, s3) => H) (fun k0 vv m1 => match vv with | (i, lr, s3) => (i + k0 = s1.n ∧ lr.map (·.1) = sortR ((l1.map (·.1)).take i) ∧ (s3.a = none → s3.cap = 0) ∧ lr.length ≤ i) ∧ m.le m1 ∧ (FzR m1 s1 l1) ∧ (FzR m1 s3 lr)) (s1.n) (0, [], zSl) ⟨rfl, rfl, rfl, trivial⟩ rfl ⟨⟨by omega, rfl, fun _ => rfl, Nat.le_refl _⟩, hm, hz, hz3⟩ ?_
  clear hm hz hz3
  rintro k0 ⟨i, lr, s3⟩ m1 ⟨hi0, hm, hz, hz3⟩
  obtain ⟨hi, hro, hn3, hli⟩ := hi0
  have hl3 := hz3.len
  have hle3 := hz3.fz.le
  refine c_seq (fun K4 hK4 => ?_)
  refine c_seq (fun K5 hK5 => ?_)
  refine c_region ?_
  refine r_y rfl rfl (y_move rfl) ?_
  refine r_y rfl rfl (y_move rfl) ?_
  refine r_y rfl rfl (y_len tl33 rfl) ?_
  refine r_y rfl rfl (y_iop rfl rfl rfl) ?_
  refine r_nil ?_
  refine hK5 _ _ _ ?_
  clear hK5 K5
  refine c_cond rfl (fun h0 => ?_) (fun h0 => ?_)
  ·
    have hlt : i < s1.n := by simp at h0; omega
    obtain ⟨x, hx⟩ := get_of_lt (l := l1) (k := i) (by omega)
    have hsrt : Srt (lr.map (·.1)) := by rw [hro]; exact sortR_srt _
    have hT : sortR ((l1.map (·.1)).take (i + 1)) = if ruleSound x.1 then insR (sortR ((l1.map (·.1)).take i)) x.1 else sortR ((l1.map (·.1)).take i) := by rw [List.take_add_one, map_get hx]; exact sortR_snoc _ _
    refine c_skip ?_
    refine hK4 _ _ _ ?_
    clear hK4 K4
    refine c_seq (fun K6 hK6 => ?_)
    refine c_block ?_
    refine c_seq (fun K7 hK7 => ?_)
    refine c_seq (fun K8 hK8 => ?_)
    refine c_region ?_
    refine r_y rfl rfl (y_move rfl) ?_
    refine r_y rfl rfl (y_move rfl) ?_
    refine r_y rfl rfl (y_indexAddr_slice rfl rfl tl33 hlt (At.fz hz.fz hlt)) ?_
    refine r_y rfl rfl (y_load_a rfl ts50 (RdA.fz0 hz.fz (map_get hx))) ?_
    refine r_s rfl ?_
    refine s_call0 rfl Try.call65 rfl (rRule_w x.1 x.2 _ _ (hz.acts x (List.mem_of_getElem? hx)).1) ?_
    rintro _ m2 _ hm2 ⟨rfl, hHq⟩
    replace hHq := hHq.symm
    subst hHq
    replace hm := hm.trans hm2
    replace hz := hz.mono hm2
    replace hz3 := hz3.mono hm2
    clear hm2
    refine r_y rfl rfl (y_not rfl) ?_
    refine r_nil ?_
    refine hK8 _ _ _ ?_
    clear hK8 K8
    refine c_cond rfl (fun hs1 => ?_) (fun hs1 => ?_)
    ·
      refine c_exit ?_
      refine hK6 _ _ _ ?_
      clear hK7 K7 hK6 K6
      refine c_region ?_
      refine r_y rfl rfl (y_move rfl) ?_
      first | refine r_y rfl rfl (y_inc rfl (by omega)) ?_ | refine r_y rfl rfl (y_iop rfl rfl rfl) ?_
      refine r_y rfl rfl (y_assign rfl) ?_
      refine r_nil ?_
      exact ⟨k0 - 1, (i + 1, lr, s3), by omega, ⟨rfl, rfl, rfl, trivial⟩, rfl, ⟨by omega, by rw [hro, hT, if_neg (by simpa using hs1)], hn3, by omega⟩, hm, hz, hz3⟩
    ·
      refine c_skip ?_
      refine hK7 _ _ _ ?_
      clear hK7 K7
      refine c_seq (fun K9 hK9 => ?_)
      refine c_region ?_
      refine r_y rfl rfl (y_assign rfl) ?_
      refine r_nil ?_
      refine hK9 _ _ _ ?_
      clear hK9 K9
      refine c_seq (fun K10 hK10 => ?_)
      refine c_block ?_
      refine c_loopx (α := Nat) (fun p => [(0, s1.v), (3, s3.v), (4, .int .i64 (i : Nat)), (5, .int .i64 (p : Nat))]) (fun p => H) (fun k1 p m1 => (p + k1 = s3.n ∧ ScanP (lr.map (·.1)) x.1 p) ∧ m.le m1 ∧ (FzR m1 s1 l1) ∧ (FzR m1 s3 lr)) (s3.n) 0 ⟨rfl, rfl, rfl, rfl, trivial⟩ rfl ⟨⟨by omega, fun q x hq => by omega⟩, hm, hz, hz3⟩ ?_
      clear hm hz hz3
      rintro k1 p m1 ⟨hi1, hm, hz, hz3⟩
      obtain ⟨hp, hsc⟩ := hi1
      have hpn : p ≤ s3.n := by omega
      refine c_seq (fun K11 hK11 => ?_)
      refine c_seq (fun K12 hK12 => ?_)
      refine c_draw ([]) (by kernel_rfl) (fun hg => ?_)
      have hz_g := hz
      have hz3_g := hz3
      refine g_y (i := 0) (listed' := #[true, false, false, false, false, false, false, false, false, false, false, false, false, false, false]) rfl (by kernel_rfl) (by kernel_rfl) (by kernel_rfl) (by kernel_rfl) rfl rfl hg alln (fun m' H' hm' hX' => y_move rfl) ?_
      refine g_y (i := 1) (listed' := #[true, true, false, false, false, false, false, false, false, false, false, false, false, false, false]) rfl (by kernel_rfl) (by kernel_rfl) (by kernel_rfl) (by kernel_rfl) rfl rfl hg alln (fun m' H' hm' hX' => y_move rfl) ?_
      refine g_y (i := 2) (listed' := #[true, true, true, false, false, false, false, false, false, false, false, false, false, false, false]) rfl (by kernel_rfl) (by kernel_rfl) (by kernel_rfl) (by kernel_rfl) rfl rfl hg alln (fun m' H' hm' hX' => y_len tl33 rfl) ?_
      refine g_y (i := 3) (listed' := #[true, true, true, true, false, false, false, false, false, false, false, false, false, false, false]) rfl (by kernel_rfl) (by kernel_rfl) (by kernel_rfl) (by kernel_rfl) rfl rfl hg alln (fun m' H' hm' hX' => y_iop rfl rfl rfl) ?_
      refine g_y (i := 4) (listed' := #[true, true, true, true, true, false, false, false, false, false, false, false, false, false, false]) rfl (by kernel_rfl) (by kernel_rfl) (by kernel_rfl) (by kernel_rfl) rfl rfl hg alln (fun m' H' hm' hX' => y_move rfl) ?_
      refine g_split (j := 4) rfl (fun hP => ?_) (fun hP => ?_)
      ·
        have hpl : p < s3.n := by simp at hP; omega
        obtain ⟨y, hp1⟩ := get_of_lt (l := lr) (k := p) (by omega)
        refine g_yg (i := 5) (listed' := #[true, true, true, true, true, true, false, false, false, false, false, false, false, false, false]) rfl (by kernel_rfl) (by kernel_rfl) (by kernel_rfl) (by kernel_rfl) rfl rfl hP rfl hg alln (fun m' H' hm' hX' => y_move rfl) ?_
        refine g_yg (i := 6) (listed' := #[true, true, true, true, true, true, true, false, false, false, false, false, false, false, false]) rfl (by kernel_rfl) (by kernel_rfl) (by kernel_rfl) (by kernel_rfl) rfl rfl hP rfl hg alln (fun m' H' hm' hX' => y_move rfl) ?_
        refine g_yg (i := 7) (listed' := #[true, true, true, true, true, true, true, true, false, false, false, false, false, false, false]) rfl (by kernel_rfl) (by kernel_rfl) (by kernel_rfl) (by kernel_rfl) rfl rfl hP rfl hg alln (fun m' H' hm' hX' => y_indexAddr_slice rfl rfl tl33 hpl (At.fz (hz3_g.fz.mono hm') hpl)) ?_
        refine g_yg (i := 8) (listed' := #[true, true, true, true, true, true, true, true, true, false, false, false, false, false, false]) rfl (by kernel_rfl) (by kernel_rfl) (by kernel_rfl) (by kernel_rfl) rfl rfl hP rfl hg alln (fun m' H' hm' hX' => y_load_a rfl ts50 (RdA.fz0 (hz3_g.fz.mono hm') (map_get hp1))) ?_
        refine g_yg (i := 9) (listed' := #[true, true, true, true, true, true, true, true, true, true, false, false, false, false, false]) rfl (by kernel_rfl) (by kernel_rfl) (by kernel_rfl) (by kernel_rfl) rfl rfl hP rfl hg alln (fun m' H' hm' hX' => y_move rfl) ?_
        refine g_yg (i := 10) (listed' := #[true, true, true, true, true, true, true, true, true, true, true, false, false, false, false]) rfl (by kernel_rfl) (by kernel_rfl) (by kernel_rfl) (by kernel_rfl) rfl rfl hP rfl hg alln (fun m' H' hm' hX' => y_move rfl) ?_
        refine g_yg (i := 11) (listed' := #[true, true, true, true, true, true, true, true, true, true, true, true, false, false, false]) rfl (by kernel_rfl) (by kernel_rfl) (by kernel_rfl) (by kernel_rfl) rfl rfl hP rfl hg alln (fun m' H' hm' hX' => y_indexAddr_slice rfl rfl tl33 hlt (At.fz (hz_g.fz.mono hm') hlt)) ?_
        refine g_yg (i := 12) (listed' := #[true, true, true, true, true, true, true, true, true, true, true, true, true, false, false]) rfl (by kernel_rfl) (by kernel_rfl) (by kernel_rfl) (by kernel_rfl) rfl rfl hP rfl hg alln (fun m' H' hm' hX' => y_load_a rfl ts50 (RdA.fz0 (hz_g.fz.mono hm') (map_get hx))) ?_
        refine g_sg (i := 13) (listed' := #[true, true, true, true, true, true, true, true, true, true, true, true, true, true, false]) rfl (by kernel_rfl) (by kernel_rfl) rfl rfl hP ?_
        refine s_call0 rfl Try.call97 rfl (rBefore_w y.1 x.1 y.2 x.2 _ _) ?_
        rintro _ m2 _ hm2 ⟨rfl, hHq⟩
        replace hHq := hHq.symm
        subst hHq
        replace hm := hm.trans hm2
        refine ⟨⟨hg.trans hm2, alln⟩, ?_⟩
        replace hg := hg.trans hm2
        replace hz := hz.mono hm2
        replace hz3 := hz3.mono hm2
        clear hm2
        refine g_y (i := 14) (listed' := #[true, true, true, true, true, true, true, true, true, true, true, true, true, true, true]) rfl (by kernel_rfl) (by kernel_rfl) (by kernel_rfl) (by kernel_rfl) rfl rfl hg alln (fun m' H' hm' hX' => y_pickt rfl hP rfl) ?_
        refine g_done (by kernel_rfl) ?_
        clear hg hz_g hz3_g
        refine hK12 _ _ _ ?_
        clear hK12 K12
        refine c_cond rfl (fun hC => ?_) (fun hC => ?_)
        ·
          refine c_skip ?_
          refine hK11 _ _ _ ?_
          clear hK11 K11
          refine c_block ?_
          refine c_region ?_
          refine r_y rfl rfl (y_move rfl) ?_
          first | refine r_y rfl rfl (y_inc rfl (by omega)) ?_ | refine r_y rfl rfl (y_iop rfl rfl rfl) ?_
          refine r_y rfl rfl (y_assign rfl) ?_
          refine r_nil ?_
          exact ⟨k1 - 1, (p + 1), by omega, ⟨rfl, rfl, rfl, rfl, trivial⟩, rfl, ⟨by omega, hsc.next (map_get hp1) (by simpa using hC)⟩, hm, hz, hz3⟩
        ·
          refine c_exit ?_
          refine hK10 _ _ _ ?_
          clear hK11 K11 hK10 K10
          refine c_seq (fun K13 hK13 => ?_)
          refine c_region ?_
          have hlow : LowP (lr.map (·.1)) x.1 p := hsc.low hsrt (by first | exact .inl (by simp at hP ⊢; omega) | exact .inr ⟨y.1, map_get hp1, by simpa using hC⟩)
          refine r_s rfl ?_
          refine s_buildSlice (cs := []) (e := 50) rfl rfl (fun _ => by kernel_rfl) (fun b0 => ?_)
          refine r_toVec (i := 0) (s := 32) (k := 0) [] rfl rfl (fun c h => by cases h) rfl (Nat.zero_le _) ?_
          refine r_y rfl rfl (y_move rfl) ?_
          refine r_y rfl rfl (y_move rfl) ?_
          refine r_y rfl rfl (y_slice rfl tl33 (bnd_some (kd := .i64) (x := p) rfl) bnd_none hpn hle3) ?_
          have hz9 := hz3.from hpn
          refine r_s rfl ?_
          refine s_append rfl rfl rfl tl33 zo50 tb50 (i := 0) rfl (hz9.src (cut_nil hn3)) (by show (0 + (s3.n - p)) * 272 ≤ _; omega) (by show 0 + (s3.n - p) ≤ _; unfold maxLen; omega) (fun a1 c1 => ?_)
          refine r_freezeVec (i := 0) rfl rfl (fun m3 hm3 hzw hnw => ?_)
          replace hm := hm.trans hm3
          replace hz := hz.mono hm3
          replace hz3 := hz3.mono hm3
          clear hm3
          have hz6 : FzR _ ⟨a1, 0 + (s3.n - p), c1⟩ (lr.drop p) := fzr_of hzw (by simp) (AllA.sub (AllA.of hz3) (fun x hx => List.mem_of_mem_drop hx))
          have hn6 : (⟨a1, 0 + (s3.n - p), c1⟩ : Sl).a = none → (⟨a1, 0 + (s3.n - p), c1⟩ : Sl).cap = 0 := hnw
          have hl6 := hz6.len
          rw [List.length_drop] at hl6
          simp only at hl6
          refine r_y rfl rfl (y_assign rfl) ?_
          refine r_nil ?_
          refine hK13 _ _ _ ?_
          clear hK13 K13
          refine c_seq (fun K14 hK14 => ?_)
          refine c_seq (fun K15 hK15 => ?_)
          refine c_draw ([]) (by kernel_rfl) (fun hg => ?_)
          have hz_g := hz
          have hz3_g := hz3
          have hzw_g := hzw
          have hz6_g := hz6
          refine g_y (i := 0) (listed' := #[true, false, false, false, false, false, false, false, false, false, false, false, false]) rfl (by kernel_rfl) (by kernel_rfl) (by kernel_rfl) (by kernel_rfl) rfl rfl hg alln (fun m' H' hm' hX' => y_move rfl) ?_
          refine g_y (i := 1) (listed' := #[true, true, false, false, false, false, false, false, false, false, false, false, false]) rfl (by kernel_rfl) (by kernel_rfl) (by kernel_rfl) (by kernel_rfl) rfl rfl hg alln (fun m' H' hm' hX' => y_len tl33 rfl) ?_
          refine g_y (i := 2) (listed' := #[true, true, true, false, false, false, false, false, false, false, false, false, false]) rfl (by kernel_rfl) (by kernel_rfl) (by kernel_rfl) (by kernel_rfl) rfl rfl hg alln (fun m' H' hm' hX' => y_iop rfl rfl rfl) ?_
          refine g_y (i := 3) (listed' := #[true, true, true, true, false, false, false, false, false, false, false, false, false]) rfl (by kernel_rfl) (by kernel_rfl) (by kernel_rfl) (by kernel_rfl) rfl rfl hg alln (fun m' H' hm' hX' => y_move rfl) ?_
          refine g_split (j := 3) rfl (fun hG => ?_) (fun hG => ?_)
          ·
            refine g_yg (i := 4) (listed' := #[true, true, true, true, true, false, false, false, false, false, false, false, false]) rfl (by kernel_rfl) (by kernel_rfl) (by kernel_rfl) (by kernel_rfl) rfl rfl hG rfl hg alln (fun m' H' hm' hX' => y_move rfl) ?_
            obtain ⟨y, hy0⟩ := get_of_lt (l := lr.drop p) (k := 0) (by rw [List.length_drop]; simp only [show (s3.cut p s3.n 32).n = s3.n - p from rfl] at hG; simp at hG; omega)
            have hpp : 0 < 0 + (s3.n - p) := by simp only [show (s3.cut p s3.n 32).n = s3.n - p from rfl] at hG; simp at hG; omega
            have hy2 : lr[p]? = some y := by rw [List.getElem?_drop] at hy0; simpa using hy0
            have hy1 : (lr.map (·.1))[p]? = some y.1 := map_get hy2
            refine g_yg (i := 5) (listed' := #[true, true, true, true, true, true, false, false, false, false, false, false, false]) rfl (by kernel_rfl) (by kernel_rfl) (by kernel_rfl) (by kernel_rfl) rfl rfl hG rfl hg alln (fun m' H' hm' hX' => y_indexAddr_slice (k := 0) rfl rfl tl33 hpp (At.fz (hz6_g.fz.mono hm') hpp)) ?_
            refine g_yg (i := 6) (listed' := #[true, true, true, true, true, true, true, false, false, false, false, false, false]) rfl (by kernel_rfl) (by kernel_rfl) (by kernel_rfl) (by kernel_rfl) rfl rfl hG rfl hg alln (fun m' H' hm' hX' => y_load_a (cs := encRule y.1 y.2) rfl ts50 (RdA.fz0 (k := 0) (hz6_g.fz.mono hm') (map_get hy0))) ?_
            refine g_yg (i := 7) (listed' := #[true, true, true, true, true, true, true, true, false, false, false, false, false]) rfl (by kernel_rfl) (by kernel_rfl) (by kernel_rfl) (by kernel_rfl) rfl rfl hG rfl hg alln (fun m' H' hm' hX' => y_move rfl) ?_
            refine g_yg (i := 8) (listed' := #[true, true, true, true, true, true, true, true, true, false, false, false, false]) rfl (by kernel_rfl) (by kernel_rfl) (by kernel_rfl) (by kernel_rfl) rfl rfl hG rfl hg alln (fun m' H' hm' hX' => y_move rfl) ?_
            refine g_yg (i := 9) (listed' := #[true, true, true, true, true, true, true, true, true, true, false, false, false]) rfl (by kernel_rfl) (by kernel_rfl) (by kernel_rfl) (by kernel_rfl) rfl rfl hG rfl hg alln (fun m' H' hm' hX' => y_indexAddr_slice rfl rfl tl33 hlt (At.fz (hz_g.fz.mono hm') hlt)) ?_
            refine g_yg (i := 10) (listed' := #[true, true, true, true, true, true, true, true, true, true, true, false, false]) rfl (by kernel_rfl) (by kernel_rfl) (by kernel_rfl) (by kernel_rfl) rfl rfl hG rfl hg alln (fun m' H' hm' hX' => y_load_a rfl ts50 (RdA.fz0 (hz_g.fz.mono hm') (map_get hx))) ?_
            refine g_sg (i := 11) (listed' := #[true, true, true, true, true, true, true, true, true, true, true, true, false]) rfl (by kernel_rfl) (by kernel_rfl) rfl rfl hG ?_
            refine s_call0 rfl Try.call85 rfl (rKey_w y.1 x.1 y.2 x.2 _ _) ?_
            rintro _ m2 _ hm2 ⟨rfl, hHq⟩
            replace hHq := hHq.symm
            subst hHq
            replace hm := hm.trans hm2
            refine ⟨⟨hg.trans hm2, alln⟩, ?_⟩
            replace hg := hg.trans hm2
            replace hz := hz.mono hm2
            replace hz3 := hz3.mono hm2
            replace hzw := hzw.mono hm2
            replace hz6 := hz6.mono hm2
            clear hm2
            refine g_y (i := 12) (listed' := #[true, true, true, true, true, true, true, true, true, true, true, true, true]) rfl (by kernel_rfl) (by kernel_rfl) (by kernel_rfl) (by kernel_rfl) rfl rfl hg alln (fun m' H' hm' hX' => y_pickt rfl hG rfl) ?_
            refine g_done (by kernel_rfl) ?_
            clear hg hz_g hz3_g hzw_g hz6_g
            refine hK15 _ _ _ ?_
            clear hK15 K15
            refine c_cond rfl (fun hK => ?_) (fun hK => ?_)
            ·
              refine c_region ?_
              have hk1 : ruleKey y.1 x.1 = true := hK
              refine r_y rfl rfl (y_move rfl) ?_
              refine r_y rfl rfl (y_slice rfl tl33 (bnd_some (kd := .i64) (x := 1) rfl) bnd_none hpp hz6.fz.le) ?_
              refine r_y rfl rfl (y_assign rfl) ?_
              refine r_nil ?_
              refine hK14 _ _ _ ?_
              clear hK14 K14
              refine c_draw ([]) (by kernel_rfl) (fun hg => ?_)
              have hz_g := hz
              have hz3_g := hz3
              have hzw_g := hzw
              have hz6_g := hz6
              refine g_y (i := 1) (listed' := #[false, true, false, false, false, false, false, false, false, false, false, false, false, false]) rfl (by kernel_rfl) (by kernel_rfl) (by kernel_rfl) (by kernel_rfl) rfl rfl hg alln (fun m' H' hm' hX' => y_move rfl) ?_
              refine g_y (i := 2) (listed' := #[false, true, true, false, false, false, false, false, false, false, false, false, false, false]) rfl (by kernel_rfl) (by kernel_rfl) (by kernel_rfl) (by kernel_rfl) rfl rfl hg alln (fun m' H' hm' hX' => y_move rfl) ?_
              refine g_y (i := 3) (listed' := #[false, true, true, true, false, false, false, false, false, false, false, false, false, false]) rfl (by kernel_rfl) (by kernel_rfl) (by kernel_rfl) (by kernel_rfl) rfl rfl hg alln (fun m' H' hm' hX' => y_slicel rfl tl33 (hi := p) rfl (Nat.le_trans hpn hle3)) ?_
              refine g_y (i := 5) (listed' := #[false, true, true, true, false, true, false, false, false, false, false, false, false, false]) rfl (by kernel_rfl) (by kernel_rfl) (by kernel_rfl) (by kernel_rfl) rfl rfl hg alln (fun m' H' hm' hX' => y_move rfl) ?_
              refine g_y (i := 6) (listed' := #[false, true, true, true, false, true, true, false, false, false, false, false, false, false]) rfl (by kernel_rfl) (by kernel_rfl) (by kernel_rfl) (by kernel_rfl) rfl rfl hg alln (fun m' H' hm' hX' => y_move rfl) ?_
              refine g_y (i := 7) (listed' := #[false, true, true, true, false, true, true, true, false, false, false, false, false, false]) rfl (by kernel_rfl) (by kernel_rfl) (by kernel_rfl) (by kernel_rfl) rfl rfl hg alln (fun m' H' hm' hX' => y_indexAddr_slice rfl rfl tl33 hlt (At.fz (hz_g.fz.mono hm') hlt)) ?_
              refine g_y (i := 8) (listed' := #[false, true, true, true, false, true, true, true, true, false, false, false, false, false]) rfl (by kernel_rfl) (by kernel_rfl) (by kernel_rfl) (by kernel_rfl) rfl rfl hg alln (fun m' H' hm' hX' => y_load_a rfl ts50 (RdA.fz0 (hz_g.fz.mono hm') (map_get hx))) ?_
              refine g_y (i := 11) (listed' := #[false, true, true, true, false, true, true, true, true, false, false, true, false, false]) rfl (by kernel_rfl) (by kernel_rfl) (by kernel_rfl) (by kernel_rfl) rfl rfl hg alln (fun m' H' hm' hX' => y_move rfl) ?_
              refine g_each (rs := [0, 9]) (by kernel_rfl) (by simp) ⟨⟨_, rfl, rfl, ?_⟩, ⟨_, rfl, rfl, ?_⟩, trivial⟩
              ·
                refine s_buildSlice (cs := []) (e := 50) rfl rfl (fun _ => by kernel_rfl) (fun b1 => ?_)
                refine ⟨⟨hg, alln⟩, ?_⟩
                refine g_toVec (i := 0) (s := 32) (k := 0) [] rfl rfl (fun c h => by cases h) rfl (Nat.zero_le _) ?_
                refine g_each (rs := [4, 9]) (by kernel_rfl) (by simp) ⟨⟨_, rfl, rfl, ?_⟩, ⟨_, rfl, rfl, ?_⟩, trivial⟩
                ·
                  refine s_append rfl rfl rfl tl33 zo50 tb50 (i := 0) rfl (FzR.src (hz3.first hpn) hn3) (by show (0 + p) * 272 ≤ _; omega) (by show 0 + p ≤ _; unfold maxLen; omega) (fun a2 c2 => ?_)
                  refine ⟨⟨hg, alln⟩, ?_⟩
                  refine g_s (i := 9) (listed' := #[true, true, true, true, true, true, true, true, true, true, false, true, false, false]) rfl (by kernel_rfl) (by kernel_rfl) rfl ?_
                  refine s_buildSlice (cs := (encRule x.1 x.2)) (e := 50) rfl rfl (fun _ => by kernel_rfl) (fun b2 => ?_)
                  refine ⟨⟨hg, alln⟩, ?_⟩
                  refine g_s (i := 10) (listed' := #[true, true, true, true, true, true, true, true, true, true, true, true, false, false]) rfl (by kernel_rfl) (by kernel_rfl) rfl ?_
                  refine s_append rfl rfl rfl tl33 zo50 tb50 (i := 1) rfl (Src.one' (i := 0) rfl rfl (one_rule _ _)) (by show (0 + p + 1) * 272 ≤ _; omega) (by show 0 + p + 1 ≤ _; unfold maxLen; omega) (fun a5 c5 => ?_)
                  refine ⟨⟨hg, alln⟩, ?_⟩
                  refine g_del 0 rfl ?_
                  refine g_s (i := 12) (listed' := #[true, true, true, true, true, true, true, true, true, true, true, true, true, false]) rfl (by kernel_rfl) (by kernel_rfl) rfl ?_
                  refine s_append rfl rfl rfl tl33 zo50 tb50 (i := 0) rfl (FzR.src (hz6.from (by show 1 ≤ 0 + (s3.n - p); simp only [show (s3.cut p s3.n 32).n = s3.n - p from rfl] at hG; simp at hG; omega)) (cut_nil hn6)) (by show (0 + p + 1 + (0 + (s3.n - p) - 1)) * 272 ≤ _; omega) (by show 0 + p + 1 + (0 + (s3.n - p) - 1) ≤ _; unfold maxLen; omega) (fun a3 c3 => ?_)
                  refine ⟨⟨hg, alln⟩, ?_⟩
                  refine g_y (i := 13) (listed' := #[true, true, true, true, true, true, true, true, true, true, true, true, true, true]) rfl (by kernel_rfl) (by kernel_rfl) (by kernel_rfl) (by kernel_rfl) rfl rfl hg alln (fun m' H' hm' hX' => y_assign rfl) ?_
                  refine g_done (by kernel_rfl) ?_
                  clear hg hz_g hz3_g hzw_g hz6_g
                  refine hK6 _ _ _ ?_
                  clear hK6 K6
                  refine c_region ?_
                  refine r_freezeVec (i := 0) rfl rfl (fun m3 hm3 hzu hnu => ?_)
                  replace hm := hm.trans hm3
                  replace hz := hz.mono hm3
                  replace hz3 := hz3.mono hm3
                  replace hzw := hzw.mono hm3
                  replace hz6 := hz6.mono hm3
                  clear hm3
                  replace hz3 : FzR _ _ (lr.take p ++ [x] ++ (lr.drop p).drop 1) := fzr_of hzu (by simp [List.map_take, List.map_drop]) (AllA.app (AllA.app (AllA.sub (AllA.of hz3) (fun y hy => List.mem_of_mem_take hy)) (fun y hy => by rw [List.mem_singleton.1 hy]; exact hz.acts x (List.mem_of_getElem? hx))) (AllA.sub (AllA.of hz3) (fun y hy => List.mem_of_mem_drop (List.mem_of_mem_drop hy))))
                  refine r_y rfl rfl (y_move rfl) ?_
                  first | refine r_y rfl rfl (y_inc rfl (by omega)) ?_ | refine r_y rfl rfl (y_iop rfl rfl rfl) ?_
                  refine r_y rfl rfl (y_assign rfl) ?_
                  refine r_nil ?_
                  exact ⟨k0 - 1, (i + 1, (lr.take p ++ [x] ++ (lr.drop p).drop 1), ⟨a3, _, c3⟩), by omega, ⟨rfl, rfl, rfl, trivial⟩, rfl, ⟨by omega, by rw [hT, if_pos (by simpa using hs1), ← hro, insR_at hlow hy1 hk1]; simp [List.map_take, List.map_drop], hnu, by simp; omega⟩, hm, hz, hz3⟩
                ·
                  refine s_buildSlice (cs := (encRule x.1 x.2)) (e := 50) rfl rfl (fun _ => by kernel_rfl) (fun b2 => ?_)
                  refine ⟨⟨hg, alln⟩, ?_⟩
                  refine g_s (i := 4) (listed' := #[true, true, true, true, true, true, true, true, true, true, false, true, false, false]) rfl (by kernel_rfl) (by kernel_rfl) rfl ?_
                  refine s_append rfl rfl rfl tl33 zo50 tb50 (i := 1) rfl (FzR.src (hz3.first hpn) hn3) (by show (0 + p) * 272 ≤ _; omega) (by show 0 + p ≤ _; unfold maxLen; omega) (fun a2 c2 => ?_)
                  refine ⟨⟨hg, alln⟩, ?_⟩
                  refine g_s (i := 10) (listed' := #[true, true, true, true, true, true, true, true, true, true, true, true, false, false]) rfl (by kernel_rfl) (by kernel_rfl) rfl ?_
                  refine s_append rfl rfl rfl tl33 zo50 tb50 (i := 1) rfl (Src.one' (i := 0) rfl rfl (one_rule _ _)) (by show (0 + p + 1) * 272 ≤ _; omega) (by show 0 + p + 1 ≤ _; unfold maxLen; omega) (fun a5 c5 => ?_)
                  refine ⟨⟨hg, alln⟩, ?_⟩
                  refine g_del 0 rfl ?_
                  refine g_s (i := 12) (listed' := #[true, true, true, true, true, true, true, true, true, true, true, true, true, false]) rfl (by kernel_rfl) (by kernel_rfl) rfl ?_
                  refine s_append rfl rfl rfl tl33 zo50 tb50 (i := 0) rfl (FzR.src (hz6.from (by show 1 ≤ 0 + (s3.n - p); simp only [show (s3.cut p s3.n 32).n = s3.n - p from rfl] at hG; simp at hG; omega)) (cut_nil hn6)) (by show (0 + p + 1 + (0 + (s3.n - p) - 1)) * 272 ≤ _; omega) (by show 0 + p + 1 + (0 + (s3.n - p) - 1) ≤ _; unfold maxLen; omega) (fun a3 c3 => ?_)
                  refine ⟨⟨hg, alln⟩, ?_⟩
                  refine g_y (i := 13) (listed' := #[true, true, true, true, true, true, true, true, true, true, true, true, true, true]) rfl (by kernel_rfl) (by kernel_rfl) (by kernel_rfl) (by kernel_rfl) rfl rfl hg alln (fun m' H' hm' hX' => y_assign rfl) ?_
                  refine g_done (by kernel_rfl) ?_
                  clear hg hz_g hz3_g hzw_g hz6_g
                  refine hK6 _ _ _ ?_
                  clear hK6 K6
                  refine c_region ?_
                  refine r_freezeVec (i := 0) rfl rfl (fun m3 hm3 hzu hnu => ?_)
                  replace hm := hm.trans hm3
                  replace hz := hz.mono hm3
                  replace hz3 := hz3.mono hm3
                  replace hzw := hzw.mono hm3
                  replace hz6 := hz6.mono hm3
                  clear hm3
                  replace hz3 : FzR _ _ (lr.take p ++ [x] ++ (lr.drop p).drop 1) := fzr_of hzu (by simp [List.map_take, List.map_drop]) (AllA.app (AllA.app (AllA.sub (AllA.of hz3) (fun y hy => List.mem_of_mem_take hy)) (fun y hy => by rw [List.mem_singleton.1 hy]; exact hz.acts x (List.mem_of_getElem? hx))) (AllA.sub (AllA.of hz3) (fun y hy => List.mem_of_mem_drop (List.mem_of_mem_drop hy))))
                  refine r_y rfl rfl (y_move rfl) ?_
                  first | refine r_y rfl rfl (y_inc rfl (by omega)) ?_ | refine r_y rfl rfl (y_iop rfl rfl rfl) ?_
                  refine r_y rfl rfl (y_assign rfl) ?_
                  refine r_nil ?_
                  exact ⟨k0 - 1, (i + 1, (lr.take p ++ [x] ++ (lr.drop p).drop 1), ⟨a3, _, c3⟩), by omega, ⟨rfl, rfl, rfl, trivial⟩, rfl, ⟨by omega, by rw [hT, if_pos (by simpa using hs1), ← hro, insR_at hlow hy1 hk1]; simp [List.map_take, List.map_drop], hnu, by simp; omega⟩, hm, hz, hz3⟩
              ·
                refine s_buildSlice (cs := (encRule x.1 x.2)) (e := 50) rfl rfl (fun _ => by kernel_rfl) (fun b1 => ?_)
                refine ⟨⟨hg, alln⟩, ?_⟩
                refine g_s (i := 0) (listed' := #[true, true, true, true, false, true, true, true, true, true, false, true, false, false]) rfl (by kernel_rfl) (by kernel_rfl) rfl ?_
                refine s_buildSlice (cs := []) (e := 50) rfl rfl (fun _ => by kernel_rfl) (fun b2 => ?_)
                refine ⟨⟨hg, alln⟩, ?_⟩
                refine g_toVec (i := 0) (s := 32) (k := 0) [] rfl rfl (fun c h => by cases h) rfl (Nat.zero_le _) ?_
                refine g_s (i := 4) (listed' := #[true, true, true, true, true, true, true, true, true, true, false, true, false, false]) rfl (by kernel_rfl) (by kernel_rfl) rfl ?_
                refine s_append rfl rfl rfl tl33 zo50 tb50 (i := 0) rfl (FzR.src (hz3.first hpn) hn3) (by show (0 + p) * 272 ≤ _; omega) (by show 0 + p ≤ _; unfold maxLen; omega) (fun a2 c2 => ?_)
                refine ⟨⟨hg, alln⟩, ?_⟩
                refine g_s (i := 10) (listed' := #[true, true, true, true, true, true, true, true, true, true, true, true, false, false]) rfl (by kernel_rfl) (by kernel_rfl) rfl ?_
                refine s_append rfl rfl rfl tl33 zo50 tb50 (i := 0) rfl (Src.one' (i := 1) rfl rfl (one_rule _ _)) (by show (0 + p + 1) * 272 ≤ _; omega) (by show 0 + p + 1 ≤ _; unfold maxLen; omega) (fun a5 c5 => ?_)
                refine ⟨⟨hg, alln⟩, ?_⟩
                refine g_del 1 rfl ?_
                refine g_s (i := 12) (listed' := #[true, true, true, true, true, true, true, true, true, true, true, true, true, false]) rfl (by kernel_rfl) (by kernel_rfl) rfl ?_
                refine s_append rfl rfl rfl tl33 zo50 tb50 (i := 0) rfl (FzR.src (hz6.from (by show 1 ≤ 0 + (s3.n - p); simp only [show (s3.cut p s3.n 32).n = s3.n - p from rfl] at hG; simp at hG; omega)) (cut_nil hn6)) (by show (0 + p + 1 + (0 + (s3.n - p) - 1)) * 272 ≤ _; omega) (by show 0 + p + 1 + (0 + (s3.n - p) - 1) ≤ _; unfold maxLen; omega) (fun a3 c3 => ?_)
                refine ⟨⟨hg, alln⟩, ?_⟩
                refine g_y (i := 13) (listed' := #[true, true, true, true, true, true, true, true, true, true, true, true, true, true]) rfl (by kernel_rfl) (by kernel_rfl) (by kernel_rfl) (by kernel_rfl) rfl rfl hg alln (fun m' H' hm' hX' => y_assign rfl) ?_
                refine g_done (by kernel_rfl) ?_
                clear hg hz_g hz3_g hzw_g hz6_g
                refine hK6 _ _ _ ?_
                clear hK6 K6
                refine c_region ?_
                refine r_freezeVec (i := 0) rfl rfl (fun m3 hm3 hzu hnu => ?_)
                replace hm := hm.trans hm3
                replace hz := hz.mono hm3
                replace hz3 := hz3.mono hm3
                replace hzw := hzw.mono hm3
                replace hz6 := hz6.mono hm3
                clear hm3
                replace hz3 : FzR _ _ (lr.take p ++ [x] ++ (lr.drop p).drop 1) := fzr_of hzu (by simp [List.map_take, List.map_drop]) (AllA.app (AllA.app (AllA.sub (AllA.of hz3) (fun y hy => List.mem_of_mem_take hy)) (fun y hy => by rw [List.mem_singleton.1 hy]; exact hz.acts x (List.mem_of_getElem? hx))) (AllA.sub (AllA.of hz3) (fun y hy => List.mem_of_mem_drop (List.mem_of_mem_drop hy))))
                refine r_y rfl rfl (y_move rfl) ?_
                first | refine r_y rfl rfl (y_inc rfl (by omega)) ?_ | refine r_y rfl rfl (y_iop rfl rfl rfl) ?_
                refine r_y rfl rfl (y_assign rfl) ?_
                refine r_nil ?_
                exact ⟨k0 - 1, (i + 1, (lr.take p ++ [x] ++ (lr.drop p).drop 1), ⟨a3, _, c3⟩), by omega, ⟨rfl, rfl, rfl, trivial⟩, rfl, ⟨by omega, by rw [hT, if_pos (by simpa using hs1), ← hro, insR_at hlow hy1 hk1]; simp [List.map_take, List.map_drop], hnu, by simp; omega⟩, hm, hz, hz3⟩
            ·
              refine c_skip ?_
              refine hK14 _ _ _ ?_
              clear hK14 K14
              refine c_draw ([]) (by kernel_rfl) (fun hg => ?_)
              have hz_g := hz
              have hz3_g := hz3
              have hzw_g := hzw
              have hz6_g := hz6
              refine g_y (i := 1) (listed' := #[false, true, false, false, false, false, false, false, false, false, false, false, false, false]) rfl (by kernel_rfl) (by kernel_rfl) (by kernel_rfl) (by kernel_rfl) rfl rfl hg alln (fun m' H' hm' hX' => y_move rfl) ?_
              refine g_y (i := 2) (listed' := #[false, true, true, false, false, false, false, false, false, false, false, false, false, false]) rfl (by kernel_rfl) (by kernel_rfl) (by kernel_rfl) (by kernel_rfl) rfl rfl hg alln (fun m' H' hm' hX' => y_move rfl) ?_
              refine g_y (i := 3) (listed' := #[false, true, true, true, false, false, false, false, false, false, false, false, false, false]) rfl (by kernel_rfl) (by kernel_rfl) (by kernel_rfl) (by kernel_rfl) rfl rfl hg alln (fun m' H' hm' hX' => y_slicel rfl tl33 (hi := p) rfl (Nat.le_trans hpn hle3)) ?_
              refine g_y (i := 5) (listed' := #[false, true, true, true, false, true, false, false, false, false, false, false, false, false]) rfl (by kernel_rfl) (by kernel_rfl) (by kernel_rfl) (by kernel_rfl) rfl rfl hg alln (fun m' H' hm' hX' => y_move rfl) ?_
              refine g_y (i := 6) (listed' := #[false, true, true, true, false, true, true, false, false, false, false, false, false, false]) rfl (by kernel_rfl) (by kernel_rfl) (by kernel_rfl) (by kernel_rfl) rfl rfl hg alln (fun m' H' hm' hX' => y_move rfl) ?_
              refine g_y (i := 7) (listed' := #[false, true, true, true, false, true, true, true, false, false, false, false, false, false]) rfl (by kernel_rfl) (by kernel_rfl) (by kernel_rfl) (by kernel_rfl) rfl rfl hg alln (fun m' H' hm' hX' => y_indexAddr_slice rfl rfl tl33 hlt (At.fz (hz_g.fz.mono hm') hlt)) ?_
              refine g_y (i := 8) (listed' := #[false, true, true, true, false, true, true, true, true, false, false, false, false, false]) rfl (by kernel_rfl) (by kernel_rfl) (by kernel_rfl) (by kernel_rfl) rfl rfl hg alln (fun m' H' hm' hX' => y_load_a rfl ts50 (RdA.fz0 (hz_g.fz.mono hm') (map_get hx))) ?_
              refine g_y (i := 11) (listed' := #[false, true, true, true, false, true, true, true, true, false, false, true, false, false]) rfl (by kernel_rfl) (by kernel_rfl) (by kernel_rfl) (by kernel_rfl) rfl rfl hg alln (fun m' H' hm' hX' => y_move rfl) ?_
              refine g_each (rs := [0, 9]) (by kernel_rfl) (by simp) ⟨⟨_, rfl, rfl, ?_⟩, ⟨_, rfl, rfl, ?_⟩, trivial⟩
              ·
                have hk0 : ∀ z, (lr.map (·.1))[p]? = some z → ruleKey z x.1 = false := by first | (intro z hz; rw [hy1] at hz; cases hz; exact hK) | (intro z hz; have h8 := (List.getElem?_eq_some_iff.1 hz).1; simp only [show (s3.cut p s3.n 32).n = s3.n - p from rfl] at hG; simp at hG h8; omega)
                refine s_buildSlice (cs := []) (e := 50) rfl rfl (fun _ => by kernel_rfl) (fun b1 => ?_)
                refine ⟨⟨hg, alln⟩, ?_⟩
                refine g_toVec (i := 0) (s := 32) (k := 0) [] rfl rfl (fun c h => by cases h) rfl (Nat.zero_le _) ?_
                refine g_each (rs := [4, 9]) (by kernel_rfl) (by simp) ⟨⟨_, rfl, rfl, ?_⟩, ⟨_, rfl, rfl, ?_⟩, trivial⟩
                ·
                  refine s_append rfl rfl rfl tl33 zo50 tb50 (i := 0) rfl (FzR.src (hz3.first hpn) hn3) (by show (0 + p) * 272 ≤ _; omega) (by show 0 + p ≤ _; unfold maxLen; omega) (fun a2 c2 => ?_)
                  refine ⟨⟨hg, alln⟩, ?_⟩
                  refine g_s (i := 9) (listed' := #[true, true, true, true, true, true, true, true, true, true, false, true, false, false]) rfl (by kernel_rfl) (by kernel_rfl) rfl ?_
                  refine s_buildSlice (cs := (encRule x.1 x.2)) (e := 50) rfl rfl (fun _ => by kernel_rfl) (fun b2 => ?_)
                  refine ⟨⟨hg, alln⟩, ?_⟩
                  refine g_s (i := 10) (listed' := #[true, true, true, true, true, true, true, true, true, true, true, true, false, false]) rfl (by kernel_rfl) (by kernel_rfl) rfl ?_
                  refine s_append rfl rfl rfl tl33 zo50 tb50 (i := 1) rfl (Src.one' (i := 0) rfl rfl (one_rule _ _)) (by show (0 + p + 1) * 272 ≤ _; omega) (by show 0 + p + 1 ≤ _; unfold maxLen; omega) (fun a5 c5 => ?_)
                  refine ⟨⟨hg, alln⟩, ?_⟩
                  refine g_del 0 rfl ?_
                  refine g_s (i := 12) (listed' := #[true, true, true, true, true, true, true, true, true, true, true, true, true, false]) rfl (by kernel_rfl) (by kernel_rfl) rfl ?_
                  refine s_append rfl rfl rfl tl33 zo50 tb50 (i := 0) rfl (FzR.src hz6 hn6) (by show (0 + p + 1 + (0 + (s3.n - p))) * 272 ≤ _; omega) (by show 0 + p + 1 + (0 + (s3.n - p)) ≤ _; unfold maxLen; omega) (fun a3 c3 => ?_)
                  refine ⟨⟨hg, alln⟩, ?_⟩
                  refine g_y (i := 13) (listed' := #[true, true, true, true, true, true, true, true, true, true, true, true, true, true]) rfl (by kernel_rfl) (by kernel_rfl) (by kernel_rfl) (by kernel_rfl) rfl rfl hg alln (fun m' H' hm' hX' => y_assign rfl) ?_
                  refine g_done (by kernel_rfl) ?_
                  clear hg hz_g hz3_g hzw_g hz6_g
                  refine hK6 _ _ _ ?_
                  clear hK6 K6
                  refine c_region ?_
                  refine r_freezeVec (i := 0) rfl rfl (fun m3 hm3 hzu hnu => ?_)
                  replace hm := hm.trans hm3
                  replace hz := hz.mono hm3
                  replace hz3 := hz3.mono hm3
                  replace hzw := hzw.mono hm3
                  replace hz6 := hz6.mono hm3
                  clear hm3
                  replace hz3 : FzR _ _ (lr.take p ++ [x] ++ lr.drop p) := fzr_of hzu (by simp [List.map_take, List.map_drop]) (AllA.app (AllA.app (AllA.sub (AllA.of hz3) (fun y hy => List.mem_of_mem_take hy)) (fun y hy => by rw [List.mem_singleton.1 hy]; exact hz.acts x (List.mem_of_getElem? hx))) (AllA.sub (AllA.of hz3) (fun y hy => List.mem_of_mem_drop hy)))
                  refine r_y rfl rfl (y_move rfl) ?_
                  first | refine r_y rfl rfl (y_inc rfl (by omega)) ?_ | refine r_y rfl rfl (y_iop rfl rfl rfl) ?_
                  refine r_y rfl rfl (y_assign rfl) ?_
                  refine r_nil ?_
                  exact ⟨k0 - 1, (i + 1, (lr.take p ++ [x] ++ lr.drop p), ⟨a3, _, c3⟩), by omega, ⟨rfl, rfl, rfl, trivial⟩, rfl, ⟨by omega, by rw [hT, if_pos (by simpa using hs1), ← hro, insR_new hlow (by simp; omega) hk0]; simp [List.map_take, List.map_drop], hnu, by simp; omega⟩, hm, hz, hz3⟩
                ·
                  refine s_buildSlice (cs := (encRule x.1 x.2)) (e := 50) rfl rfl (fun _ => by kernel_rfl) (fun b2 => ?_)
                  refine ⟨⟨hg, alln⟩, ?_⟩
                  refine g_s (i := 4) (listed' := #[true, true, true, true, true, true, true, true, true, true, false, true, false, false]) rfl (by kernel_rfl) (by kernel_rfl) rfl ?_
                  refine s_append rfl rfl rfl tl33 zo50 tb50 (i := 1) rfl (FzR.src (hz3.first hpn) hn3) (by show (0 + p) * 272 ≤ _; omega) (by show 0 + p ≤ _; unfold maxLen; omega) (fun a2 c2 => ?_)
                  refine ⟨⟨hg, alln⟩, ?_⟩
                  refine g_s (i := 10) (listed' := #[true, true, true, true, true, true, true, true, true, true, true, true, false, false]) rfl (by kernel_rfl) (by kernel_rfl) rfl ?_
                  refine s_append rfl rfl rfl tl33 zo50 tb50 (i := 1) rfl (Src.one' (i := 0) rfl rfl (one_rule _ _)) (by show (0 + p + 1) * 272 ≤ _; omega) (by show 0 + p + 1 ≤ _; unfold maxLen; omega) (fun a5 c5 => ?_)
                  refine ⟨⟨hg, alln⟩, ?_⟩
                  refine g_del 0 rfl ?_
                  refine g_s (i := 12) (listed' := #[true, true, true, true, true, true, true, true, true, true, true, true, true, false]) rfl (by kernel_rfl) (by kernel_rfl) rfl ?_
                  refine s_append rfl rfl rfl tl33 zo50 tb50 (i := 0) rfl (FzR.src hz6 hn6) (by show (0 + p + 1 + (0 + (s3.n - p))) * 272 ≤ _; omega) (by show 0 + p + 1 + (0 + (s3.n - p)) ≤ _; unfold maxLen; omega) (fun a3 c3 => ?_)
                  refine ⟨⟨hg, alln⟩, ?_⟩
                  refine g_y (i := 13) (listed' := #[true, true, true, true, true, true, true, true, true, true, true, true, true, true]) rfl (by kernel_rfl) (by kernel_rfl) (by kernel_rfl) (by kernel_rfl) rfl rfl hg alln (fun m' H' hm' hX' => y_assign rfl) ?_
                  refine g_done (by kernel_rfl) ?_
                  clear hg hz_g hz3_g hzw_g hz6_g
                  refine hK6 _ _ _ ?_
                  clear hK6 K6
                  refine c_region ?_
                  refine r_freezeVec (i := 0) rfl rfl (fun m3 hm3 hzu hnu => ?_)
                  replace hm := hm.trans hm3
                  replace hz := hz.mono hm3
                  replace hz3 := hz3.mono hm3
                  replace hzw := hzw.mono hm3
                  replace hz6 := hz6.mono hm3
                  clear hm3
                  replace hz3 : FzR _ _ (lr.take p ++ [x] ++ lr.drop p) := fzr_of hzu (by simp [List.map_take, List.map_drop]) (AllA.app (AllA.app (AllA.sub (AllA.of hz3) (fun y hy => List.mem_of_mem_take hy)) (fun y hy => by rw [List.mem_singleton.1 hy]; exact hz.acts x (List.mem_of_getElem? hx))) (AllA.sub (AllA.of hz3) (fun y hy => List.mem_of_mem_drop hy)))
                  refine r_y rfl rfl (y_move rfl) ?_
                  first | refine r_y rfl rfl (y_inc rfl (by omega)) ?_ | refine r_y rfl rfl (y_iop rfl rfl rfl) ?_
                  refine r_y rfl rfl (y_assign rfl) ?_
                  refine r_nil ?_
                  exact ⟨k0 - 1, (i + 1, (lr.take p ++ [x] ++ lr.drop p), ⟨a3, _, c3⟩), by omega, ⟨rfl, rfl, rfl, trivial⟩, rfl, ⟨by omega, by rw [hT, if_pos (by simpa using hs1), ← hro, insR_new hlow (by simp; omega) hk0]; simp [List.map_take, List.map_drop], hnu, by simp; omega⟩, hm, hz, hz3⟩
              ·
                refine s_buildSlice (cs := (encRule x.1 x.2)) (e := 50) rfl rfl (fun _ => by kernel_rfl) (fun b1 => ?_)
                refine ⟨⟨hg, alln⟩, ?_⟩
                have hk0 : ∀ z, (lr.map (·.1))[p]? = some z → ruleKey z x.1 = false := by first | (intro z hz; rw [hy1] at hz; cases hz; exact hK) | (intro z hz; have h8 := (List.getElem?_eq_some_iff.1 hz).1; simp only [show (s3.cut p s3.n 32).n = s3.n - p from rfl] at hG; simp at hG h8; omega)
                refine g_s (i := 0) (listed' := #[true, true, true, true, false, true, true, true, true, true, false, true, false, false]) rfl (by kernel_rfl) (by kernel_rfl) rfl ?_
                refine s_buildSlice (cs := []) (e := 50) rfl rfl (fun _ => by kernel_rfl) (fun b2 => ?_)
                refine ⟨⟨hg, alln⟩, ?_⟩
                refine g_toVec (i := 0) (s := 32) (k := 0) [] rfl rfl (fun c h => by cases h) rfl (Nat.zero_le _) ?_
                refine g_s (i := 4) (listed' := #[true, true, true, true, true, true, true, true, true, true, false, true, false, false]) rfl (by kernel_rfl) (by kernel_rfl) rfl ?_
                refine s_append rfl rfl rfl tl33 zo50 tb50 (i := 0) rfl (FzR.src (hz3.first hpn) hn3) (by show (0 + p) * 272 ≤ _; omega) (by show 0 + p ≤ _; unfold maxLen; omega) (fun a2 c2 => ?_)
                refine ⟨⟨hg, alln⟩, ?_⟩
                refine g_s (i := 10) (listed' := #[true, true, true, true, true, true, true, true, true, true, true, true, false, false]) rfl (by kernel_rfl) (by kernel_rfl) rfl ?_
                refine s_append rfl rfl rfl tl33 zo50 tb50 (i := 0) rfl (Src.one' (i := 1) rfl rfl (one_rule _ _)) (by show (0 + p + 1) * 272 ≤ _; omega) (by show 0 + p + 1 ≤ _; unfold maxLen; omega) (fun a5 c5 => ?_)
                refine ⟨⟨hg, alln⟩, ?_⟩
                refine g_del 1 rfl ?_
                refine g_s (i := 12) (listed' := #[true, true, true, true, true, true, true, true, true, true, true, true, true, false]) rfl (by kernel_rfl) (by kernel_rfl) rfl ?_
                refine s_append rfl rfl rfl tl33 zo50 tb50 (i := 0) rfl (FzR.src hz6 hn6) (by show (0 + p + 1 + (0 + (s3.n - p))) * 272 ≤ _; omega) (by show 0 + p + 1 + (0 + (s3.n - p)) ≤ _; unfold maxLen; omega) (fun a3 c3 => ?_)
                refine ⟨⟨hg, alln⟩, ?_⟩
                refine g_y (i := 13) (listed' := #[true, true, true, true, true, true, true, true, true, true, true, true, true, true]) rfl (by kernel_rfl) (by kernel_rfl) (by kernel_rfl) (by kernel_rfl) rfl rfl hg alln (fun m' H' hm' hX' => y_assign rfl) ?_
                refine g_done (by kernel_rfl) ?_
                clear hg hz_g hz3_g hzw_g hz6_g
                refine hK6 _ _ _ ?_
                clear hK6 K6
                refine c_region ?_
                refine r_freezeVec (i := 0) rfl rfl (fun m3 hm3 hzu hnu => ?_)
                replace hm := hm.trans hm3
                replace hz := hz.mono hm3
                replace hz3 := hz3.mono hm3
                replace hzw := hzw.mono hm3
                replace hz6 := hz6.mono hm3
                clear hm3
                replace hz3 : FzR _ _ (lr.take p ++ [x] ++ lr.drop p) := fzr_of hzu (by simp [List.map_take, List.map_drop]) (AllA.app (AllA.app (AllA.sub (AllA.of hz3) (fun y hy => List.mem_of_mem_take hy)) (fun y hy => by rw [List.mem_singleton.1 hy]; exact hz.acts x (List.mem_of_getElem? hx))) (AllA.sub (AllA.of hz3) (fun y hy => List.mem_of_mem_drop hy)))
                refine r_y rfl rfl (y_move rfl) ?_
                first | refine r_y rfl rfl (y_inc rfl (by omega)) ?_ | refine r_y rfl rfl (y_iop rfl rfl rfl) ?_
                refine r_y rfl rfl (y_assign rfl) ?_
                refine r_nil ?_
                exact ⟨k0 - 1, (i + 1, (lr.take p ++ [x] ++ lr.drop p), ⟨a3, _, c3⟩), by omega, ⟨rfl, rfl, rfl, trivial⟩, rfl, ⟨by omega, by rw [hT, if_pos (by simpa using hs1), ← hro, insR_new hlow (by simp; omega) hk0]; simp [List.map_take, List.map_drop], hnu, by simp; omega⟩, hm, hz, hz3⟩
          ·
            refine g_no (i := 4) (listed' := #[true, true, true, true, true, false, false, false, false, false, false, false, false]) rfl (by kernel_rfl) (by kernel_rfl) (by kernel_rfl) (by kernel_rfl) rfl rfl hG rfl hg alln ?_
            refine g_no (i := 5) (listed' := #[true, true, true, true, true, true, false, false, false, false, false, false, false]) rfl (by kernel_rfl) (by kernel_rfl) (by kernel_rfl) (by kernel_rfl) rfl rfl hG rfl hg alln ?_
            refine g_no (i := 6) (listed' := #[true, true, true, true, true, true, true, false, false, false, false, false, false]) rfl (by kernel_rfl) (by kernel_rfl) (by kernel_rfl) (by kernel_rfl) rfl rfl hG rfl hg alln ?_
            refine g_no (i := 7) (listed' := #[true, true, true, true, true, true, true, true, false, false, false, false, false]) rfl (by kernel_rfl) (by kernel_rfl) (by kernel_rfl) (by kernel_rfl) rfl rfl hG rfl hg alln ?_
            refine g_no (i := 8) (listed' := #[true, true, true, true, true, true, true, true, true, false, false, false, false]) rfl (by kernel_rfl) (by kernel_rfl) (by kernel_rfl) (by kernel_rfl) rfl rfl hG rfl hg alln ?_
            refine g_no (i := 9) (listed' := #[true, true, true, true, true, true, true, true, true, true, false, false, false]) rfl (by kernel_rfl) (by kernel_rfl) (by kernel_rfl) (by kernel_rfl) rfl rfl hG rfl hg alln ?_
            refine g_no (i := 10) (listed' := #[true, true, true, true, true, true, true, true, true, true, true, false, false]) rfl (by kernel_rfl) (by kernel_rfl) (by kernel_rfl) (by kernel_rfl) rfl rfl hG rfl hg alln ?_
            refine g_no (i := 11) (listed' := #[true, true, true, true, true, true, true, true, true, true, true, true, false]) rfl (by kernel_rfl) (by kernel_rfl) (by kernel_rfl) (by kernel_rfl) rfl rfl hG rfl hg alln ?_
            refine g_y (i := 12) (listed' := #[true, true, true, true, true, true, true, true, true, true, true, true, true]) rfl (by kernel_rfl) (by kernel_rfl) (by kernel_rfl) (by kernel_rfl) rfl rfl hg alln (fun m' H' hm' hX' => y_pickf rfl hG rfl) ?_
            refine g_done (by kernel_rfl) ?_
            clear hg hz_g hz3_g hzw_g hz6_g
            refine hK15 _ _ _ ?_
            clear hK15 K15
            refine c_iff rfl rfl ?_
            refine c_skip ?_
            refine hK14 _ _ _ ?_
            clear hK14 K14
            refine c_draw ([]) (by kernel_rfl) (fun hg => ?_)
            have hz_g := hz
            have hz3_g := hz3
            have hzw_g := hzw
            have hz6_g := hz6
            refine g_y (i := 1) (listed' := #[false, true, false, false, false, false, false, false, false, false, false, false, false, false]) rfl (by kernel_rfl) (by kernel_rfl) (by kernel_rfl) (by kernel_rfl) rfl rfl hg alln (fun m' H' hm' hX' => y_move rfl) ?_
            refine g_y (i := 2) (listed' := #[false, true, true, false, false, false, false, false, false, false, false, false, false, false]) rfl (by kernel_rfl) (by kernel_rfl) (by kernel_rfl) (by kernel_rfl) rfl rfl hg alln (fun m' H' hm' hX' => y_move rfl) ?_
            refine g_y (i := 3) (listed' := #[false, true, true, true, false, false, false, false, false, false, false, false, false, false]) rfl (by kernel_rfl) (by kernel_rfl) (by kernel_rfl) (by kernel_rfl) rfl rfl hg alln (fun m' H' hm' hX' => y_slicel rfl tl33 (hi := p) rfl (Nat.le_trans hpn hle3)) ?_
            refine g_y (i := 5) (listed' := #[false, true, true, true, false, true, false, false, false, false, false, false, false, false]) rfl (by kernel_rfl) (by kernel_rfl) (by kernel_rfl) (by kernel_rfl) rfl rfl hg alln (fun m' H' hm' hX' => y_move rfl) ?_
            refine g_y (i := 6) (listed' := #[false, true, true, true, false, true, true, false, false, false, false, false, false, false]) rfl (by kernel_rfl) (by kernel_rfl) (by kernel_rfl) (by kernel_rfl) rfl rfl hg alln (fun m' H' hm' hX' => y_move rfl) ?_
            refine g_y (i := 7) (listed' := #[false, true, true, true, false, true, true, true, false, false, false, false, false, false]) rfl (by kernel_rfl) (by kernel_rfl) (by kernel_rfl) (by kernel_rfl) rfl rfl hg alln (fun m' H' hm' hX' => y_indexAddr_slice rfl rfl tl33 hlt (At.fz (hz_g.fz.mono hm') hlt)) ?_
            refine g_y (i := 8) (listed' := #[false, true, true, true, false, true, true, true, true, false, false, false, false, false]) rfl (by kernel_rfl) (by kernel_rfl) (by kernel_rfl) (by kernel_rfl) rfl rfl hg alln (fun m' H' hm' hX' => y_load_a rfl ts50 (RdA.fz0 (hz_g.fz.mono hm') (map_get hx))) ?_
            refine g_y (i := 11) (listed' := #[false, true, true, true, false, true, true, true, true, false, false, true, false, false]) rfl (by kernel_rfl) (by kernel_rfl) (by kernel_rfl) (by kernel_rfl) rfl rfl hg alln (fun m' H' hm' hX' => y_move rfl) ?_
            refine g_each (rs := [0, 9]) (by kernel_rfl) (by simp) ⟨⟨_, rfl, rfl, ?_⟩, ⟨_, rfl, rfl, ?_⟩, trivial⟩
            ·
              have hk0 : ∀ z, (lr.map (·.1))[p]? = some z → ruleKey z x.1 = false := by first | (intro z hz; rw [hy1] at hz; cases hz; exact hK) | (intro z hz; have h8 := (List.getElem?_eq_some_iff.1 hz).1; simp only [show (s3.cut p s3.n 32).n = s3.n - p from rfl] at hG; simp at hG h8; omega)
              refine s_buildSlice (cs := []) (e := 50) rfl rfl (fun _ => by kernel_rfl) (fun b3 => ?_)
              refine ⟨⟨hg, alln⟩, ?_⟩
              refine g_toVec (i := 0) (s := 32) (k := 0) [] rfl rfl (fun c h => by cases h) rfl (Nat.zero_le _) ?_
              refine g_each (rs := [4, 9]) (by kernel_rfl) (by simp) ⟨⟨_, rfl, rfl, ?_⟩, ⟨_, rfl, rfl, ?_⟩, trivial⟩
              ·
                refine s_append rfl rfl rfl tl33 zo50 tb50 (i := 0) rfl (FzR.src (hz3.first hpn) hn3) (by show (0 + p) * 272 ≤ _; omega) (by show 0 + p ≤ _; unfold maxLen; omega) (fun a2 c2 => ?_)
                refine ⟨⟨hg, alln⟩, ?_⟩
                refine g_s (i := 9) (listed' := #[true, true, true, true, true, true, true, true, true, true, false, true, false, false]) rfl (by kernel_rfl) (by kernel_rfl) rfl ?_
                refine s_buildSlice (cs := (encRule x.1 x.2)) (e := 50) rfl rfl (fun _ => by kernel_rfl) (fun b4 => ?_)
                refine ⟨⟨hg, alln⟩, ?_⟩
                refine g_s (i := 10) (listed' := #[true, true, true, true, true, true, true, true, true, true, true, true, false, false]) rfl (by kernel_rfl) (by kernel_rfl) rfl ?_
                refine s_append rfl rfl rfl tl33 zo50 tb50 (i := 1) rfl (Src.one' (i := 0) rfl rfl (one_rule _ _)) (by show (0 + p + 1) * 272 ≤ _; omega) (by show 0 + p + 1 ≤ _; unfold maxLen; omega) (fun a5 c5 => ?_)
                refine ⟨⟨hg, alln⟩, ?_⟩
                refine g_del 0 rfl ?_
                refine g_s (i := 12) (listed' := #[true, true, true, true, true, true, true, true, true, true, true, true, true, false]) rfl (by kernel_rfl) (by kernel_rfl) rfl ?_
                refine s_append rfl rfl rfl tl33 zo50 tb50 (i := 0) rfl (FzR.src hz6 hn6) (by show (0 + p + 1 + (0 + (s3.n - p))) * 272 ≤ _; omega) (by show 0 + p + 1 + (0 + (s3.n - p)) ≤ _; unfold maxLen; omega) (fun a3 c3 => ?_)
                refine ⟨⟨hg, alln⟩, ?_⟩
                refine g_y (i := 13) (listed' := #[true, true, true, true, true, true, true, true, true, true, true, true, true, true]) rfl (by kernel_rfl) (by kernel_rfl) (by kernel_rfl) (by kernel_rfl) rfl rfl hg alln (fun m' H' hm' hX' => y_assign rfl) ?_
                refine g_done (by kernel_rfl) ?_
                clear hg hz_g hz3_g hzw_g hz6_g
                refine hK6 _ _ _ ?_
                clear hK6 K6
                refine c_region ?_
                refine r_freezeVec (i := 0) rfl rfl (fun m3 hm3 hzu hnu => ?_)
                replace hm := hm.trans hm3
                replace hz := hz.mono hm3
                replace hz3 := hz3.mono hm3
                replace hzw := hzw.mono hm3
                replace hz6 := hz6.mono hm3
                clear hm3
                replace hz3 : FzR _ _ (lr.take p ++ [x] ++ lr.drop p) := fzr_of hzu (by simp [List.map_take, List.map_drop]) (AllA.app (AllA.app (AllA.sub (AllA.of hz3) (fun y hy => List.mem_of_mem_take hy)) (fun y hy => by rw [List.mem_singleton.1 hy]; exact hz.acts x (List.mem_of_getElem? hx))) (AllA.sub (AllA.of hz3) (fun y hy => List.mem_of_mem_drop hy)))
                refine r_y rfl rfl (y_move rfl) ?_
                first | refine r_y rfl rfl (y_inc rfl (by omega)) ?_ | refine r_y rfl rfl (y_iop rfl rfl rfl) ?_
                refine r_y rfl rfl (y_assign rfl) ?_
                refine r_nil ?_
                exact ⟨k0 - 1, (i + 1, (lr.take p ++ [x] ++ lr.drop p), ⟨a3, _, c3⟩), by omega, ⟨rfl, rfl, rfl, trivial⟩, rfl, ⟨by omega, by rw [hT, if_pos (by simpa using hs1), ← hro, insR_new hlow (by simp; omega) hk0]; simp [List.map_take, List.map_drop], hnu, by simp; omega⟩, hm, hz, hz3⟩
              ·
                refine s_buildSlice (cs := (encRule x.1 x.2)) (e := 50) rfl rfl (fun _ => by kernel_rfl) (fun b4 => ?_)
                refine ⟨⟨hg, alln⟩, ?_⟩
                refine g_s (i := 4) (listed' := #[true, true, true, true, true, true, true, true, true, true, false, true, false, false]) rfl (by kernel_rfl) (by kernel_rfl) rfl ?_
                refine s_append rfl rfl rfl tl33 zo50 tb50 (i := 1) rfl (FzR.src (hz3.first hpn) hn3) (by show (0 + p) * 272 ≤ _; omega) (by show 0 + p ≤ _; unfold maxLen; omega) (fun a2 c2 => ?_)
                refine ⟨⟨hg, alln⟩, ?_⟩
                refine g_s (i := 10) (listed' := #[true, true, true, true, true, true, true, true, true, true, true, true, false, false]) rfl (by kernel_rfl) (by kernel_rfl) rfl ?_
                refine s_append rfl rfl rfl tl33 zo50 tb50 (i := 1) rfl (Src.one' (i := 0) rfl rfl (one_rule _ _)) (by show (0 + p + 1) * 272 ≤ _; omega) (by show 0 + p + 1 ≤ _; unfold maxLen; omega) (fun a5 c5 => ?_)
                refine ⟨⟨hg, alln⟩, ?_⟩
                refine g_del 0 rfl ?_
                refine g_s (i := 12) (listed' := #[true, true, true, true, true, true, true, true, true, true, true, true, true, false]) rfl (by kernel_rfl) (by kernel_rfl) rfl ?_
                refine s_append rfl rfl rfl tl33 zo50 tb50 (i := 0) rfl (FzR.src hz6 hn6) (by show (0 + p + 1 + (0 + (s3.n - p))) * 272 ≤ _; omega) (by show 0 + p + 1 + (0 + (s3.n - p)) ≤ _; unfold maxLen; omega) (fun a3 c3 => ?_)
                refine ⟨⟨hg, alln⟩, ?_⟩
                refine g_y (i := 13) (listed' := #[true, true, true, true, true, true, true, true, true, true, true, true, true, true]) rfl (by kernel_rfl) (by kernel_rfl) (by kernel_rfl) (by kernel_rfl) rfl rfl hg alln (fun m' H' hm' hX' => y_assign rfl) ?_
                refine g_done (by kernel_rfl) ?_
                clear hg hz_g hz3_g hzw_g hz6_g
                refine hK6 _ _ _ ?_
                clear hK6 K6
                refine c_region ?_
                refine r_freezeVec (i := 0) rfl rfl (fun m3 hm3 hzu hnu => ?_)
                replace hm := hm.trans hm3
                replace hz := hz.mono hm3
                replace hz3 := hz3.mono hm3
                replace hzw := hzw.mono hm3
                replace hz6 := hz6.mono hm3
                clear hm3
                replace hz3 : FzR _ _ (lr.take p ++ [x] ++ lr.drop p) := fzr_of hzu (by simp [List.map_take, List.map_drop]) (AllA.app (AllA.app (AllA.sub (AllA.of hz3) (fun y hy => List.mem_of_mem_take hy)) (fun y hy => by rw [List.mem_singleton.1 hy]; exact hz.acts x (List.mem_of_getElem? hx))) (AllA.sub (AllA.of hz3) (fun y hy => List.mem_of_mem_drop hy)))
                refine r_y rfl rfl (y_move rfl) ?_
                first | refine r_y rfl rfl (y_inc rfl (by omega)) ?_ | refine r_y rfl rfl (y_iop rfl rfl rfl) ?_
                refine r_y rfl rfl (y_assign rfl) ?_
                refine r_nil ?_
                exact ⟨k0 - 1, (i + 1, (lr.take p ++ [x] ++ lr.drop p), ⟨a3, _, c3⟩), by omega, ⟨rfl, rfl, rfl, trivial⟩, rfl, ⟨by omega, by rw [hT, if_pos (by simpa using hs1), ← hro, insR_new hlow (by simp; omega) hk0]; simp [List.map_take, List.map_drop], hnu, by simp; omega⟩, hm, hz, hz3⟩
            ·
              refine s_buildSlice (cs := (encRule x.1 x.2)) (e := 50) rfl rfl (fun _ => by kernel_rfl) (fun b3 => ?_)
              refine ⟨⟨hg, alln⟩, ?_⟩
              have hk0 : ∀ z, (lr.map (·.1))[p]? = some z → ruleKey z x.1 = false := by first | (intro z hz; rw [hy1] at hz; cases hz; exact hK) | (intro z hz; have h8 := (List.getElem?_eq_some_iff.1 hz).1; simp only [show (s3.cut p s3.n 32).n = s3.n - p from rfl] at hG; simp at hG h8; omega)
              refine g_s (i := 0) (listed' := #[true, true, true, true, false, true, true, true, true, true, false, true, false, false]) rfl (by kernel_rfl) (by kernel_rfl) rfl ?_
              refine s_buildSlice (cs := []) (e := 50) rfl rfl (fun _ => by kernel_rfl) (fun b4 => ?_)
              refine ⟨⟨hg, alln⟩, ?_⟩
              refine g_toVec (i := 0) (s := 32) (k := 0) [] rfl rfl (fun c h => by cases h) rfl (Nat.zero_le _) ?_
              refine g_s (i := 4) (listed' := #[true, true, true, true, true, true, true, true, true, true, false, true, false, false]) rfl (by kernel_rfl) (by kernel_rfl) rfl ?_
              refine s_append rfl rfl rfl tl33 zo50 tb50 (i := 0) rfl (FzR.src (hz3.first hpn) hn3) (by show (0 + p) * 272 ≤ _; omega) (by show 0 + p ≤ _; unfold maxLen; omega) (fun a2 c2 => ?_)
              refine ⟨⟨hg, alln⟩, ?_⟩
              refine g_s (i := 10) (listed' := #[true, true, true, true, true, true, true, true, true, true, true, true, false, false]) rfl (by kernel_rfl) (by kernel_rfl) rfl ?_
              refine s_append rfl rfl rfl tl33 zo50 tb50 (i := 0) rfl (Src.one' (i := 1) rfl rfl (one_rule _ _)) (by show (0 + p + 1) * 272 ≤ _; omega) (by show 0 + p + 1 ≤ _; unfold maxLen; omega) (fun a5 c5 => ?_)
              refine ⟨⟨hg, alln⟩, ?_⟩
              refine g_del 1 rfl ?_
              refine g_s (i := 12) (listed' := #[true, true, true, true, true, true, true, true, true, true, true, true, true, false]) rfl (by kernel_rfl) (by kernel_rfl) rfl ?_
              refine s_append rfl rfl rfl tl33 zo50 tb50 (i := 0) rfl (FzR.src hz6 hn6) (by show (0 + p + 1 + (0 + (s3.n - p))) * 272 ≤ _; omega) (by show 0 + p + 1 + (0 + (s3.n - p)) ≤ _; unfold maxLen; omega) (fun a3 c3 => ?_)
              refine ⟨⟨hg, alln⟩, ?_⟩
              refine g_y (i := 13) (listed' := #[true, true, true, true, true, true, true, true, true, true, true, true, true, true]) rfl (by kernel_rfl) (by kernel_rfl) (by kernel_rfl) (by kernel_rfl) rfl rfl hg alln (fun m' H' hm' hX' => y_assign rfl) ?_
              refine g_done (by kernel_rfl) ?_
              clear hg hz_g hz3_g hzw_g hz6_g
              refine hK6 _ _ _ ?_
              clear hK6 K6
              refine c_region ?_
              refine r_freezeVec (i := 0) rfl rfl (fun m3 hm3 hzu hnu => ?_)
              replace hm := hm.trans hm3
              replace hz := hz.mono hm3
              replace hz3 := hz3.mono hm3
              replace hzw := hzw.mono hm3
              replace hz6 := hz6.mono hm3
              clear hm3
              replace hz3 : FzR _ _ (lr.take p ++ [x] ++ lr.drop p) := fzr_of hzu (by simp [List.map_take, List.map_drop]) (AllA.app (AllA.app (AllA.sub (AllA.of hz3) (fun y hy => List.mem_of_mem_take hy)) (fun y hy => by rw [List.mem_singleton.1 hy]; exact hz.acts x (List.mem_of_getElem? hx))) (AllA.sub (AllA.of hz3) (fun y hy => List.mem_of_mem_drop hy)))
              refine r_y rfl rfl (y_move rfl) ?_
              first | refine r_y rfl rfl (y_inc rfl (by omega)) ?_ | refine r_y rfl rfl (y_iop rfl rfl rfl) ?_
              refine r_y rfl rfl (y_assign rfl) ?_
              refine r_nil ?_
              exact ⟨k0 - 1, (i + 1, (lr.take p ++ [x] ++ lr.drop p), ⟨a3, _, c3⟩), by omega, ⟨rfl, rfl, rfl, trivial⟩, rfl, ⟨by omega, by rw [hT, if_pos (by simpa using hs1), ← hro, insR_new hlow (by simp; omega) hk0]; simp [List.map_take, List.map_drop], hnu, by simp; omega⟩, hm, hz, hz3⟩
      ·
        refine g_no (i := 5) (listed' := #[true, true, true, true, true, true, false, false, false, false, false, false, false, false, false]) rfl (by kernel_rfl) (by kernel_rfl) (by kernel_rfl) (by kernel_rfl) rfl rfl hP rfl hg alln ?_
        refine g_no (i := 6) (listed' := #[true, true, true, true, true, true, true, false, false, false, false, false, false, false, false]) rfl (by kernel_rfl) (by kernel_rfl) (by kernel_rfl) (by kernel_rfl) rfl rfl hP rfl hg alln ?_
        refine g_no (i := 7) (listed' := #[true, true, true, true, true, true, true, true, false, false, false, false, false, false, false]) rfl (by kernel_rfl) (by kernel_rfl) (by kernel_rfl) (by kernel_rfl) rfl rfl hP rfl hg alln ?_
        refine g_no (i := 8) (listed' := #[true, true, true, true, true, true, true, true, true, false, false, false, false, false, false]) rfl (by kernel_rfl) (by kernel_rfl) (by kernel_rfl) (by kernel_rfl) rfl rfl hP rfl hg alln ?_
        refine g_no (i := 9) (listed' := #[true, true, true, true, true, true, true, true, true, true, false, false, false, false, false]) rfl (by kernel_rfl) (by kernel_rfl) (by kernel_rfl) (by kernel_rfl) rfl rfl hP rfl hg alln ?_
        refine g_no (i := 10) (listed' := #[true, true, true, true, true, true, true, true, true, true, true, false, false, false, false]) rfl (by kernel_rfl) (by kernel_rfl) (by kernel_rfl) (by kernel_rfl) rfl rfl hP rfl hg alln ?_
        refine g_no (i := 11) (listed' := #[true, true, true, true, true, true, true, true, true, true, true, true, false, false, false]) rfl (by kernel_rfl) (by kernel_rfl) (by kernel_rfl) (by kernel_rfl) rfl rfl hP rfl hg alln ?_
        refine g_no (i := 12) (listed' := #[true, true, true, true, true, true, true, true, true, true, true, true, true, false, false]) rfl (by kernel_rfl) (by kernel_rfl) (by kernel_rfl) (by kernel_rfl) rfl rfl hP rfl hg alln ?_
        refine g_no (i := 13) (listed' := #[true, true, true, true, true, true, true, true, true, true, true, true, true, true, false]) rfl (by kernel_rfl) (by kernel_rfl) (by kernel_rfl) (by kernel_rfl) rfl rfl hP rfl hg alln ?_
        refine g_y (i := 14) (listed' := #[true, true, true, true, true, true, true, true, true, true, true, true, true, true, true]) rfl (by kernel_rfl) (by kernel_rfl) (by kernel_rfl) (by kernel_rfl) rfl rfl hg alln (fun m' H' hm' hX' => y_pickf rfl hP rfl) ?_
        refine g_done (by kernel_rfl) ?_
        clear hg hz_g hz3_g
        refine hK12 _ _ _ ?_
        clear hK12 K12
        refine c_iff rfl rfl ?_
        refine c_exit ?_
        refine hK10 _ _ _ ?_
        clear hK11 K11 hK10 K10
        refine c_seq (fun K16 hK16 => ?_)
        refine c_region ?_
        have hlow : LowP (lr.map (·.1)) x.1 p := hsc.low hsrt (by first | exact .inl (by simp at hP ⊢; omega) | exact .inr ⟨y.1, map_get hp1, by simpa using hC⟩)
        refine r_s rfl ?_
        refine s_buildSlice (cs := []) (e := 50) rfl rfl (fun _ => by kernel_rfl) (fun b5 => ?_)
        refine r_toVec (i := 0) (s := 32) (k := 0) [] rfl rfl (fun c h => by cases h) rfl (Nat.zero_le _) ?_
        refine r_y rfl rfl (y_move rfl) ?_
        refine r_y rfl rfl (y_move rfl) ?_
        refine r_y rfl rfl (y_slice rfl tl33 (bnd_some (kd := .i64) (x := p) rfl) bnd_none hpn hle3) ?_
        have hz9 := hz3.from hpn
        refine r_s rfl ?_
        refine s_append rfl rfl rfl tl33 zo50 tb50 (i := 0) rfl (hz9.src (cut_nil hn3)) (by show (0 + (s3.n - p)) * 272 ≤ _; omega) (by show 0 + (s3.n - p) ≤ _; unfold maxLen; omega) (fun a1 c1 => ?_)
        refine r_freezeVec (i := 0) rfl rfl (fun m3 hm3 hzw hnw => ?_)
        replace hm := hm.trans hm3
        replace hz := hz.mono hm3
        replace hz3 := hz3.mono hm3
        clear hm3
        have hz6 : FzR _ ⟨a1, 0 + (s3.n - p), c1⟩ (lr.drop p) := fzr_of hzw (by simp) (AllA.sub (AllA.of hz3) (fun x hx => List.mem_of_mem_drop hx))
        have hn6 : (⟨a1, 0 + (s3.n - p), c1⟩ : Sl).a = none → (⟨a1, 0 + (s3.n - p), c1⟩ : Sl).cap = 0 := hnw
        have hl6 := hz6.len
        rw [List.length_drop] at hl6
        simp only at hl6
        refine r_y rfl rfl (y_assign rfl) ?_
        refine r_nil ?_
        refine hK16 _ _ _ ?_
        clear hK16 K16
        refine c_seq (fun K17 hK17 => ?_)
        refine c_seq (fun K18 hK18 => ?_)
        refine c_draw ([]) (by kernel_rfl) (fun hg => ?_)
        have hz_g := hz
        have hz3_g := hz3
        have hzw_g := hzw
        have hz6_g := hz6
        refine g_y (i := 0) (listed' := #[true, false, false, false, false, false, false, false, false, false, false, false, false]) rfl (by kernel_rfl) (by kernel_rfl) (by kernel_rfl) (by kernel_rfl) rfl rfl hg alln (fun m' H' hm' hX' => y_move rfl) ?_
        refine g_y (i := 1) (listed' := #[true, true, false, false, false, false, false, false, false, false, false, false, false]) rfl (by kernel_rfl) (by kernel_rfl) (by kernel_rfl) (by kernel_rfl) rfl rfl hg alln (fun m' H' hm' hX' => y_len tl33 rfl) ?_
        refine g_y (i := 2) (listed' := #[true, true, true, false, false, false, false, false, false, false, false, false, false]) rfl (by kernel_rfl) (by kernel_rfl) (by kernel_rfl) (by kernel_rfl) rfl rfl hg alln (fun m' H' hm' hX' => y_iop rfl rfl rfl) ?_
        refine g_y (i := 3) (listed' := #[true, true, true, true, false, false, false, false, false, false, false, false, false]) rfl (by kernel_rfl) (by kernel_rfl) (by kernel_rfl) (by kernel_rfl) rfl rfl hg alln (fun m' H' hm' hX' => y_move rfl) ?_
        refine g_split (j := 3) rfl (fun hG => ?_) (fun hG => ?_)
        ·
          refine g_yg (i := 4) (listed' := #[true, true, true, true, true, false, false, false, false, false, false, false, false]) rfl (by kernel_rfl) (by kernel_rfl) (by kernel_rfl) (by kernel_rfl) rfl rfl hG rfl hg alln (fun m' H' hm' hX' => y_move rfl) ?_
          obtain ⟨y, hy0⟩ := get_of_lt (l := lr.drop p) (k := 0) (by rw [List.length_drop]; simp only [show (s3.cut p s3.n 32).n = s3.n - p from rfl] at hG; simp at hG; omega)
          have hpp : 0 < 0 + (s3.n - p) := by simp only [show (s3.cut p s3.n 32).n = s3.n - p from rfl] at hG; simp at hG; omega
          have hy2 : lr[p]? = some y := by rw [List.getElem?_drop] at hy0; simpa using hy0
          have hy1 : (lr.map (·.1))[p]? = some y.1 := map_get hy2
          refine g_yg (i := 5) (listed' := #[true, true, true, true, true, true, false, false, false, false, false, false, false]) rfl (by kernel_rfl) (by kernel_rfl) (by kernel_rfl) (by kernel_rfl) rfl rfl hG rfl hg alln (fun m' H' hm' hX' => y_indexAddr_slice (k := 0) rfl rfl tl33 hpp (At.fz (hz6_g.fz.mono hm') hpp)) ?_
          refine g_yg (i := 6) (listed' := #[true, true, true, true, true, true, true, false, false, false, false, false, false]) rfl (by kernel_rfl) (by kernel_rfl) (by kernel_rfl) (by kernel_rfl) rfl rfl hG rfl hg alln (fun m' H' hm' hX' => y_load_a (cs := encRule y.1 y.2) rfl ts50 (RdA.fz0 (k := 0) (hz6_g.fz.mono hm') (map_get hy0))) ?_
          refine g_yg (i := 7) (listed' := #[true, true, true, true, true, true, true, true, false, false, false, false, false]) rfl (by kernel_rfl) (by kernel_rfl) (by kernel_rfl) (by kernel_rfl) rfl rfl hG rfl hg alln (fun m' H' hm' hX' => y_move rfl) ?_
          refine g_yg (i := 8) (listed' := #[true, true, true, true, true, true, true, true, true, false, false, false, false]) rfl (by kernel_rfl) (by kernel_rfl) (by kernel_rfl) (by kernel_rfl) rfl rfl hG rfl hg alln (fun m' H' hm' hX' => y_move rfl) ?_
          refine g_yg (i := 9) (listed' := #[true, true, true, true, true, true, true, true, true, true, false, false, false]) rfl (by kernel_rfl) (by kernel_rfl) (by kernel_rfl) (by kernel_rfl) rfl rfl hG rfl hg alln (fun m' H' hm' hX' => y_indexAddr_slice rfl rfl tl33 hlt (At.fz (hz_g.fz.mono hm') hlt)) ?_
          refine g_yg (i := 10) (listed' := #[true, true, true, true, true, true, true, true, true, true, true, false, false]) rfl (by kernel_rfl) (by kernel_rfl) (by kernel_rfl) (by kernel_rfl) rfl rfl hG rfl hg alln (fun m' H' hm' hX' => y_load_a rfl ts50 (RdA.fz0 (hz_g.fz.mono hm') (map_get hx))) ?_
          refine g_sg (i := 11) (listed' := #[true, true, true, true, true, true, true, true, true, true, true, true, false]) rfl (by kernel_rfl) (by kernel_rfl) rfl rfl hG ?_
          refine s_call0 rfl Try.call85 rfl (rKey_w y.1 x.1 y.2 x.2 _ _) ?_
          rintro _ m2 _ hm2 ⟨rfl, hHq⟩
          replace hHq := hHq.symm
          subst hHq
          replace hm := hm.trans hm2
          refine ⟨⟨hg.trans hm2, alln⟩, ?_⟩
          replace hg := hg.trans hm2
          replace hz := hz.mono hm2
          replace hz3 := hz3.mono hm2
          replace hzw := hzw.mono hm2
          replace hz6 := hz6.mono hm2
          clear hm2
          refine g_y (i := 12) (listed' := #[true, true, true, true, true, true, true, true, true, true, true, true, true]) rfl (by kernel_rfl) (by kernel_rfl) (by kernel_rfl) (by kernel_rfl) rfl rfl hg alln (fun m' H' hm' hX' => y_pickt rfl hG rfl) ?_
          refine g_done (by kernel_rfl) ?_
          clear hg hz_g hz3_g hzw_g hz6_g
          refine hK18 _ _ _ ?_
          clear hK18 K18
          refine c_cond rfl (fun hK => ?_) (fun hK => ?_)
          ·
            refine c_region ?_
            have hk1 : ruleKey y.1 x.1 = true := hK
            refine r_y rfl rfl (y_move rfl) ?_
            refine r_y rfl rfl (y_slice rfl tl33 (bnd_some (kd := .i64) (x := 1) rfl) bnd_none hpp hz6.fz.le) ?_
            refine r_y rfl rfl (y_assign rfl) ?_
            refine r_nil ?_
            refine hK17 _ _ _ ?_
            clear hK17 K17
            refine c_draw ([]) (by kernel_rfl) (fun hg => ?_)
            have hz_g := hz
            have hz3_g := hz3
            have hzw_g := hzw
            have hz6_g := hz6
            refine g_y (i := 1) (listed' := #[false, true, false, false, false, false, false, false, false, false, false, false, false, false]) rfl (by kernel_rfl) (by kernel_rfl) (by kernel_rfl) (by kernel_rfl) rfl rfl hg alln (fun m' H' hm' hX' => y_move rfl) ?_
            refine g_y (i := 2) (listed' := #[false, true, true, false, false, false, false, false, false, false, false, false, false, false]) rfl (by kernel_rfl) (by kernel_rfl) (by kernel_rfl) (by kernel_rfl) rfl rfl hg alln (fun m' H' hm' hX' => y_move rfl) ?_
            refine g_y (i := 3) (listed' := #[false, true, true, true, false, false, false, false, false, false, false, false, false, false]) rfl (by kernel_rfl) (by kernel_rfl) (by kernel_rfl) (by kernel_rfl) rfl rfl hg alln (fun m' H' hm' hX' => y_slicel rfl tl33 (hi := p) rfl (Nat.le_trans hpn hle3)) ?_
            refine g_y (i := 5) (listed' := #[false, true, true, true, false, true, false, false, false, false, false, false, false, false]) rfl (by kernel_rfl) (by kernel_rfl) (by kernel_rfl) (by kernel_rfl) rfl rfl hg alln (fun m' H' hm' hX' => y_move rfl) ?_
            refine g_y (i := 6) (listed' := #[false, true, true, true, false, true, true, false, false, false, false, false, false, false]) rfl (by kernel_rfl) (by kernel_rfl) (by kernel_rfl) (by kernel_rfl) rfl rfl hg alln (fun m' H' hm' hX' => y_move rfl) ?_
            refine g_y (i := 7) (listed' := #[false, true, true, true, false, true, true, true, false, false, false, false, false, false]) rfl (by kernel_rfl) (by kernel_rfl) (by kernel_rfl) (by kernel_rfl) rfl rfl hg alln (fun m' H' hm' hX' => y_indexAddr_slice rfl rfl tl33 hlt (At.fz (hz_g.fz.mono hm') hlt)) ?_
            refine g_y (i := 8) (listed' := #[false, true, true, true, false, true, true, true, true, false, false, false, false, false]) rfl (by kernel_rfl) (by kernel_rfl) (by kernel_rfl) (by kernel_rfl) rfl rfl hg alln (fun m' H' hm' hX' => y_load_a rfl ts50 (RdA.fz0 (hz_g.fz.mono hm') (map_get hx))) ?_
            refine g_y (i := 11) (listed' := #[false, true, true, true, false, true, true, true, true, false, false, true, false, false]) rfl (by kernel_rfl) (by kernel_rfl) (by kernel_rfl) (by kernel_rfl) rfl rfl hg alln (fun m' H' hm' hX' => y_move rfl) ?_
            refine g_each (rs := [0, 9]) (by kernel_rfl) (by simp) ⟨⟨_, rfl, rfl, ?_⟩, ⟨_, rfl, rfl, ?_⟩, trivial⟩
            ·
              refine s_buildSlice (cs := []) (e := 50) rfl rfl (fun _ => by kernel_rfl) (fun b6 => ?_)
              refine ⟨⟨hg, alln⟩, ?_⟩
              refine g_toVec (i := 0) (s := 32) (k := 0) [] rfl rfl (fun c h => by cases h) rfl (Nat.zero_le _) ?_
              refine g_each (rs := [4, 9]) (by kernel_rfl) (by simp) ⟨⟨_, rfl, rfl, ?_⟩, ⟨_, rfl, rfl, ?_⟩, trivial⟩
              ·
                refine s_append rfl rfl rfl tl33 zo50 tb50 (i := 0) rfl (FzR.src (hz3.first hpn) hn3) (by show (0 + p) * 272 ≤ _; omega) (by show 0 + p ≤ _; unfold maxLen; omega) (fun a2 c2 => ?_)
                refine ⟨⟨hg, alln⟩, ?_⟩
                refine g_s (i := 9) (listed' := #[true, true, true, true, true, true, true, true, true, true, false, true, false, false]) rfl (by kernel_rfl) (by kernel_rfl) rfl ?_
                refine s_buildSlice (cs := (encRule x.1 x.2)) (e := 50) rfl rfl (fun _ => by kernel_rfl) (fun b7 => ?_)
                refine ⟨⟨hg, alln⟩, ?_⟩
                refine g_s (i := 10) (listed' := #[true, true, true, true, true, true, true, true, true, true, true, true, false, false]) rfl (by kernel_rfl) (by kernel_rfl) rfl ?_
                refine s_append rfl rfl rfl tl33 zo50 tb50 (i := 1) rfl (Src.one' (i := 0) rfl rfl (one_rule _ _)) (by show (0 + p + 1) * 272 ≤ _; omega) (by show 0 + p + 1 ≤ _; unfold maxLen; omega) (fun a5 c5 => ?_)
                refine ⟨⟨hg, alln⟩, ?_⟩
                refine g_del 0 rfl ?_
                refine g_s (i := 12) (listed' := #[true, true, true, true, true, true, true, true, true, true, true, true, true, false]) rfl (by kernel_rfl) (by kernel_rfl) rfl ?_
                refine s_append rfl rfl rfl tl33 zo50 tb50 (i := 0) rfl (FzR.src (hz6.from (by show 1 ≤ 0 + (s3.n - p); simp only [show (s3.cut p s3.n 32).n = s3.n - p from rfl] at hG; simp at hG; omega)) (cut_nil hn6)) (by show (0 + p + 1 + (0 + (s3.n - p) - 1)) * 272 ≤ _; omega) (by show 0 + p + 1 + (0 + (s3.n - p) - 1) ≤ _; unfold maxLen; omega) (fun a3 c3 => ?_)
                refine ⟨⟨hg, alln⟩, ?_⟩
                refine g_y (i := 13) (listed' := #[true, true, true, true, true, true, true, true, true, true, true, true, true, true]) rfl (by kernel_rfl) (by kernel_rfl) (by kernel_rfl) (by kernel_rfl) rfl rfl hg alln (fun m' H' hm' hX' => y_assign rfl) ?_
                refine g_done (by kernel_rfl) ?_
                clear hg hz_g hz3_g hzw_g hz6_g
                refine hK6 _ _ _ ?_
                clear hK6 K6
                refine c_region ?_
                refine r_freezeVec (i := 0) rfl rfl (fun m3 hm3 hzu hnu => ?_)
                replace hm := hm.trans hm3
                replace hz := hz.mono hm3
                replace hz3 := hz3.mono hm3
                replace hzw := hzw.mono hm3
                replace hz6 := hz6.mono hm3
                clear hm3
                replace hz3 : FzR _ _ (lr.take p ++ [x] ++ (lr.drop p).drop 1) := fzr_of hzu (by simp [List.map_take, List.map_drop]) (AllA.app (AllA.app (AllA.sub (AllA.of hz3) (fun y hy => List.mem_of_mem_take hy)) (fun y hy => by rw [List.mem_singleton.1 hy]; exact hz.acts x (List.mem_of_getElem? hx))) (AllA.sub (AllA.of hz3) (fun y hy => List.mem_of_mem_drop (List.mem_of_mem_drop hy))))
                refine r_y rfl rfl (y_move rfl) ?_
                first | refine r_y rfl rfl (y_inc rfl (by omega)) ?_ | refine r_y rfl rfl (y_iop rfl rfl rfl) ?_
                refine r_y rfl rfl (y_assign rfl) ?_
                refine r_nil ?_
                exact ⟨k0 - 1, (i + 1, (lr.take p ++ [x] ++ (lr.drop p).drop 1), ⟨a3, _, c3⟩), by omega, ⟨rfl, rfl, rfl, trivial⟩, rfl, ⟨by omega, by rw [hT, if_pos (by simpa using hs1), ← hro, insR_at hlow hy1 hk1]; simp [List.map_take, List.map_drop], hnu, by simp; omega⟩, hm, hz, hz3⟩
              ·
                refine s_buildSlice (cs := (encRule x.1 x.2)) (e := 50) rfl rfl (fun _ => by kernel_rfl) (fun b7 => ?_)
                refine ⟨⟨hg, alln⟩, ?_⟩
                refine g_s (i := 4) (listed' := #[true, true, true, true, true, true, true, true, true, true, false, true, false, false]) rfl (by kernel_rfl) (by kernel_rfl) rfl ?_
                refine s_append rfl rfl rfl tl33 zo50 tb50 (i := 1) rfl (FzR.src (hz3.first hpn) hn3) (by show (0 + p) * 272 ≤ _; omega) (by show 0 + p ≤ _; unfold maxLen; omega) (fun a2 c2 => ?_)
                refine ⟨⟨hg, alln⟩, ?_⟩
                refine g_s (i := 10) (listed' := #[true, true, true, true, true, true, true, true, true, true, true, true, false, false]) rfl (by kernel_rfl) (by kernel_rfl) rfl ?_
                refine s_append rfl rfl rfl tl33 zo50 tb50 (i := 1) rfl (Src.one' (i := 0) rfl rfl (one_rule _ _)) (by show (0 + p + 1) * 272 ≤ _; omega) (by show 0 + p + 1 ≤ _; unfold maxLen; omega) (fun a5 c5 => ?_)
                refine ⟨⟨hg, alln⟩, ?_⟩
                refine g_del 0 rfl ?_
                refine g_s (i := 12) (listed' := #[true, true, true, true, true, true, true, true, true, true, true, true, true, false]) rfl (by kernel_rfl) (by kernel_rfl) rfl ?_
                refine s_append rfl rfl rfl tl33 zo50 tb50 (i := 0) rfl (FzR.src (hz6.from (by show 1 ≤ 0 + (s3.n - p); simp only [show (s3.cut p s3.n 32).n = s3.n - p from rfl] at hG; simp at hG; omega)) (cut_nil hn6)) (by show (0 + p + 1 + (0 + (s3.n - p) - 1)) * 272 ≤ _; omega) (by show 0 + p + 1 + (0 + (s3.n - p) - 1) ≤ _; unfold maxLen; omega) (fun a3 c3 => ?_)
                refine ⟨⟨hg, alln⟩, ?_⟩
                refine g_y (i := 13) (listed' := #[true, true, true, true, true, true, true, true, true, true, true, true, true, true]) rfl (by kernel_rfl) (by kernel_rfl) (by kernel_rfl) (by kernel_rfl) rfl rfl hg alln (fun m' H' hm' hX' => y_assign rfl) ?_
                refine g_done (by kernel_rfl) ?_
                clear hg hz_g hz3_g hzw_g hz6_g
                refine hK6 _ _ _ ?_
                clear hK6 K6
                refine c_region ?_
                refine r_freezeVec (i := 0) rfl rfl (fun m3 hm3 hzu hnu => ?_)
                replace hm := hm.trans hm3
                replace hz := hz.mono hm3
                replace hz3 := hz3.mono hm3
                replace hzw := hzw.mono hm3
                replace hz6 := hz6.mono hm3
                clear hm3
                replace hz3 : FzR _ _ (lr.take p ++ [x] ++ (lr.drop p).drop 1) := fzr_of hzu (by simp [List.map_take, List.map_drop]) (AllA.app (AllA.app (AllA.sub (AllA.of hz3) (fun y hy => List.mem_of_mem_take hy)) (fun y hy => by rw [List.mem_singleton.1 hy]; exact hz.acts x (List.mem_of_getElem? hx))) (AllA.sub (AllA.of hz3) (fun y hy => List.mem_of_mem_drop (List.mem_of_mem_drop hy))))
                refine r_y rfl rfl (y_move rfl) ?_
                first | refine r_y rfl rfl (y_inc rfl (by omega)) ?_ | refine r_y rfl rfl (y_iop rfl rfl rfl) ?_
                refine r_y rfl rfl (y_assign rfl) ?_
                refine r_nil ?_
                exact ⟨k0 - 1, (i + 1, (lr.take p ++ [x] ++ (lr.drop p).drop 1), ⟨a3, _, c3⟩), by omega, ⟨rfl, rfl, rfl, trivial⟩, rfl, ⟨by omega, by rw [hT, if_pos (by simpa using hs1), ← hro, insR_at hlow hy1 hk1]; simp [List.map_take, List.map_drop], hnu, by simp; omega⟩, hm, hz, hz3⟩
            ·
              refine s_buildSlice (cs := (encRule x.1 x.2)) (e := 50) rfl rfl (fun _ => by kernel_rfl) (fun b6 => ?_)
              refine ⟨⟨hg, alln⟩, ?_⟩
              refine g_s (i := 0) (listed' := #[true, true, true, true, false, true, true, true, true, true, false, true, false, false]) rfl (by kernel_rfl) (by kernel_rfl) rfl ?_
              refine s_buildSlice (cs := []) (e := 50) rfl rfl (fun _ => by kernel_rfl) (fun b7 => ?_)
              refine ⟨⟨hg, alln⟩, ?_⟩
              refine g_toVec (i := 0) (s := 32) (k := 0) [] rfl rfl (fun c h => by cases h) rfl (Nat.zero_le _) ?_
              refine g_s (i := 4) (listed' := #[true, true, true, true, true, true, true, true, true, true, false, true, false, false]) rfl (by kernel_rfl) (by kernel_rfl) rfl ?_
              refine s_append rfl rfl rfl tl33 zo50 tb50 (i := 0) rfl (FzR.src (hz3.first hpn) hn3) (by show (0 + p) * 272 ≤ _; omega) (by show 0 + p ≤ _; unfold maxLen; omega) (fun a2 c2 => ?_)
              refine ⟨⟨hg, alln⟩, ?_⟩
              refine g_s (i := 10) (listed' := #[true, true, true, true, true, true, true, true, true, true, true, true, false, false]) rfl (by kernel_rfl) (by kernel_rfl) rfl ?_
              refine s_append rfl rfl rfl tl33 zo50 tb50 (i := 0) rfl (Src.one' (i := 1) rfl rfl (one_rule _ _)) (by show (0 + p + 1) * 272 ≤ _; omega) (by show 0 + p + 1 ≤ _; unfold maxLen; omega) (fun a5 c5 => ?_)
              refine ⟨⟨hg, alln⟩, ?_⟩
              refine g_del 1 rfl ?_
              refine g_s (i := 12) (listed' := #[true, true, true, true, true, true, true, true, true, true, true, true, true, false]) rfl (by kernel_rfl) (by kernel_rfl) rfl ?_
              refine s_append rfl rfl rfl tl33 zo50 tb50 (i := 0) rfl (FzR.src (hz6.from (by show 1 ≤ 0 + (s3.n - p); simp only [show (s3.cut p s3.n 32).n = s3.n - p from rfl] at hG; simp at hG; omega)) (cut_nil hn6)) (by show (0 + p + 1 + (0 + (s3.n - p) - 1)) * 272 ≤ _; omega) (by show 0 + p + 1 + (0 + (s3.n - p) - 1) ≤ _; unfold maxLen; omega) (fun a3 c3 => ?_)
              refine ⟨⟨hg, alln⟩, ?_⟩
              refine g_y (i := 13) (listed' := #[true, true, true, true, true, true, true, true, true, true, true, true, true, true]) rfl (by kernel_rfl) (by kernel_rfl) (by kernel_rfl) (by kernel_rfl) rfl rfl hg alln (fun m' H' hm' hX' => y_assign rfl) ?_
              refine g_done (by kernel_rfl) ?_
              clear hg hz_g hz3_g hzw_g hz6_g
              refine hK6 _ _ _ ?_
              clear hK6 K6
              refine c_region ?_
              refine r_freezeVec (i := 0) rfl rfl (fun m3 hm3 hzu hnu => ?_)
              replace hm := hm.trans hm3
              replace hz := hz.mono hm3
              replace hz3 := hz3.mono hm3
              replace hzw := hzw.mono hm3
              replace hz6 := hz6.mono hm3
              clear hm3
              replace hz3 : FzR _ _ (lr.take p ++ [x] ++ (lr.drop p).drop 1) := fzr_of hzu (by simp [List.map_take, List.map_drop]) (AllA.app (AllA.app (AllA.sub (AllA.of hz3) (fun y hy => List.mem_of_mem_take hy)) (fun y hy => by rw [List.mem_singleton.1 hy]; exact hz.acts x (List.mem_of_getElem? hx))) (AllA.sub (AllA.of hz3) (fun y hy => List.mem_of_mem_drop (List.mem_of_mem_drop hy))))
              refine r_y rfl rfl (y_move rfl) ?_
              first | refine r_y rfl rfl (y_inc rfl (by omega)) ?_ | refine r_y rfl rfl (y_iop rfl rfl rfl) ?_
              refine r_y rfl rfl (y_assign rfl) ?_
              refine r_nil ?_
              exact ⟨k0 - 1, (i + 1, (lr.take p ++ [x] ++ (lr.drop p).drop 1), ⟨a3, _, c3⟩), by omega, ⟨rfl, rfl, rfl, trivial⟩, rfl, ⟨by omega, by rw [hT, if_pos (by simpa using hs1), ← hro, insR_at hlow hy1 hk1]; simp [List.map_take, List.map_drop], hnu, by simp; omega⟩, hm, hz, hz3⟩
          ·
            refine c_skip ?_
            refine hK17 _ _ _ ?_
            clear hK17 K17
            refine c_draw ([]) (by kernel_rfl) (fun hg => ?_)
            have hz_g := hz
            have hz3_g := hz3
            have hzw_g := hzw
            have hz6_g := hz6
            refine g_y (i := 1) (listed' := #[false, true, false, false, false, false, false, false, false, false, false, false, false, false]) rfl (by kernel_rfl) (by kernel_rfl) (by kernel_rfl) (by kernel_rfl) rfl rfl hg alln (fun m' H' hm' hX' => y_move rfl) ?_
            refine g_y (i := 2) (listed' := #[false, true, true, false, false, false, false, false, false, false, false, false, false, false]) rfl (by kernel_rfl) (by kernel_rfl) (by kernel_rfl) (by kernel_rfl) rfl rfl hg alln (fun m' H' hm' hX' => y_move rfl) ?_
            refine g_y (i := 3) (listed' := #[false, true, true, true, false, false, false, false, false, false, false, false, false, false]) rfl (by kernel_rfl) (by kernel_rfl) (by kernel_rfl) (by kernel_rfl) rfl rfl hg alln (fun m' H' hm' hX' => y_slicel rfl tl33 (hi := p) rfl (Nat.le_trans hpn hle3)) ?_
            refine g_y (i := 5) (listed' := #[false, true, true, true, false, true, false, false, false, false, false, false, false, false]) rfl (by kernel_rfl) (by kernel_rfl) (by kernel_rfl) (by kernel_rfl) rfl rfl hg alln (fun m' H' hm' hX' => y_move rfl) ?_
            refine g_y (i := 6) (listed' := #[false, true, true, true, false, true, true, false, false, false, false, false, false, false]) rfl (by kernel_rfl) (by kernel_rfl) (by kernel_rfl) (by kernel_rfl) rfl rfl hg alln (fun m' H' hm' hX' => y_move rfl) ?_
            refine g_y (i := 7) (listed' := #[false, true, true, true, false, true, true, true, false, false, false, false, false, false]) rfl (by kernel_rfl) (by kernel_rfl) (by kernel_rfl) (by kernel_rfl) rfl rfl hg alln (fun m' H' hm' hX' => y_indexAddr_slice rfl rfl tl33 hlt (At.fz (hz_g.fz.mono hm') hlt)) ?_
            refine g_y (i := 8) (listed' := #[false, true, true, true, false, true, true, true, true, false, false, false, false, false]) rfl (by kernel_rfl) (by kernel_rfl) (by kernel_rfl) (by kernel_rfl) rfl rfl hg alln (fun m' H' hm' hX' => y_load_a rfl ts50 (RdA.fz0 (hz_g.fz.mono hm') (map_get hx))) ?_
            refine g_y (i := 11) (listed' := #[false, true, true, true, false, true, true, true, true, false, false, true, false, false]) rfl (by kernel_rfl) (by kernel_rfl) (by kernel_rfl) (by kernel_rfl) rfl rfl hg alln (fun m' H' hm' hX' => y_move rfl) ?_
            refine g_each (rs := [0, 9]) (by kernel_rfl) (by simp) ⟨⟨_, rfl, rfl, ?_⟩, ⟨_, rfl, rfl, ?_⟩, trivial⟩
            ·
              have hk0 : ∀ z, (lr.map (·.1))[p]? = some z → ruleKey z x.1 = false := by first | (intro z hz; rw [hy1] at hz; cases hz; exact hK) | (intro z hz; have h8 := (List.getElem?_eq_some_iff.1 hz).1; simp only [show (s3.cut p s3.n 32).n = s3.n - p from rfl] at hG; simp at hG h8; omega)
              refine s_buildSlice (cs := []) (e := 50) rfl rfl (fun _ => by kernel_rfl) (fun b6 => ?_)
              refine ⟨⟨hg, alln⟩, ?_⟩
              refine g_toVec (i := 0) (s := 32) (k := 0) [] rfl rfl (fun c h => by cases h) rfl (Nat.zero_le _) ?_
              refine g_each (rs := [4, 9]) (by kernel_rfl) (by simp) ⟨⟨_, rfl, rfl, ?_⟩, ⟨_, rfl, rfl, ?_⟩, trivial⟩
              ·
                refine s_append rfl rfl rfl tl33 zo50 tb50 (i := 0) rfl (FzR.src (hz3.first hpn) hn3) (by show (0 + p) * 272 ≤ _; omega) (by show 0 + p ≤ _; unfold maxLen; omega) (fun a2 c2 => ?_)
                refine ⟨⟨hg, alln⟩, ?_⟩
                refine g_s (i := 9) (listed' := #[true, true, true, true, true, true, true, true, true, true, false, true, false, false]) rfl (by kernel_rfl) (by kernel_rfl) rfl ?_
                refine s_buildSlice (cs := (encRule x.1 x.2)) (e := 50) rfl rfl (fun _ => by kernel_rfl) (fun b7 => ?_)
                refine ⟨⟨hg, alln⟩, ?_⟩
                refine g_s (i := 10) (listed' := #[true, true, true, true, true, true, true, true, true, true, true, true, false, false]) rfl (by kernel_rfl) (by kernel_rfl) rfl ?_
                refine s_append rfl rfl rfl tl33 zo50 tb50 (i := 1) rfl (Src.one' (i := 0) rfl rfl (one_rule _ _)) (by show (0 + p + 1) * 272 ≤ _; omega) (by show 0 + p + 1 ≤ _; unfold maxLen; omega) (fun a5 c5 => ?_)
                refine ⟨⟨hg, alln⟩, ?_⟩
                refine g_del 0 rfl ?_
                refine g_s (i := 12) (listed' := #[true, true, true, true, true, true, true, true, true, true, true, true, true, false]) rfl (by kernel_rfl) (by kernel_rfl) rfl ?_
                refine s_append rfl rfl rfl tl33 zo50 tb50 (i := 0) rfl (FzR.src hz6 hn6) (by show (0 + p + 1 + (0 + (s3.n - p))) * 272 ≤ _; omega) (by show 0 + p + 1 + (0 + (s3.n - p)) ≤ _; unfold maxLen; omega) (fun a3 c3 => ?_)
                refine ⟨⟨hg, alln⟩, ?_⟩
                refine g_y (i := 13) (listed' := #[true, true, true, true, true, true, true, true, true, true, true, true, true, true]) rfl (by kernel_rfl) (by kernel_rfl) (by kernel_rfl) (by kernel_rfl) rfl rfl hg alln (fun m' H' hm' hX' => y_assign rfl) ?_
                refine g_done (by kernel_rfl) ?_
                clear hg hz_g hz3_g hzw_g hz6_g
                refine hK6 _ _ _ ?_
                clear hK6 K6
                refine c_region ?_
                refine r_freezeVec (i := 0) rfl rfl (fun m3 hm3 hzu hnu => ?_)
                replace hm := hm.trans hm3
                replace hz := hz.mono hm3
                replace hz3 := hz3.mono hm3
                replace hzw := hzw.mono hm3
                replace hz6 := hz6.mono hm3
                clear hm3
                replace hz3 : FzR _ _ (lr.take p ++ [x] ++ lr.drop p) := fzr_of hzu (by simp [List.map_take, List.map_drop]) (AllA.app (AllA.app (AllA.sub (AllA.of hz3) (fun y hy => List.mem_of_mem_take hy)) (fun y hy => by rw [List.mem_singleton.1 hy]; exact hz.acts x (List.mem_of_getElem? hx))) (AllA.sub (AllA.of hz3) (fun y hy => List.mem_of_mem_drop hy)))
                refine r_y rfl rfl (y_move rfl) ?_
                first | refine r_y rfl rfl (y_inc rfl (by omega)) ?_ | refine r_y rfl rfl (y_iop rfl rfl rfl) ?_
                refine r_y rfl rfl (y_assign rfl) ?_
                refine r_nil ?_
                exact ⟨k0 - 1, (i + 1, (lr.take p ++ [x] ++ lr.drop p), ⟨a3, _, c3⟩), by omega, ⟨rfl, rfl, rfl, trivial⟩, rfl, ⟨by omega, by rw [hT, if_pos (by simpa using hs1), ← hro, insR_new hlow (by simp; omega) hk0]; simp [List.map_take, List.map_drop], hnu, by simp; omega⟩, hm, hz, hz3⟩
              ·
                refine s_buildSlice (cs := (encRule x.1 x.2)) (e := 50) rfl rfl (fun _ => by kernel_rfl) (fun b7 => ?_)
                refine ⟨⟨hg, alln⟩, ?_⟩
                refine g_s (i := 4) (listed' := #[true, true, true, true, true, true, true, true, true, true, false, true, false, false]) rfl (by kernel_rfl) (by kernel_rfl) rfl ?_
                refine s_append rfl rfl rfl tl33 zo50 tb50 (i := 1) rfl (FzR.src (hz3.first hpn) hn3) (by show (0 + p) * 272 ≤ _; omega) (by show 0 + p ≤ _; unfold maxLen; omega) (fun a2 c2 => ?_)
                refine ⟨⟨hg, alln⟩, ?_⟩
                refine g_s (i := 10) (listed' := #[true, true, true, true, true, true, true, true, true, true, true, true, false, false]) rfl (by kernel_rfl) (by kernel_rfl) rfl ?_
                refine s_append rfl rfl rfl tl33 zo50 tb50 (i := 1) rfl (Src.one' (i := 0) rfl rfl (one_rule _ _)) (by show (0 + p + 1) * 272 ≤ _; omega) (by show 0 + p + 1 ≤ _; unfold maxLen; omega) (fun a5 c5 => ?_)
                refine ⟨⟨hg, alln⟩, ?_⟩
                refine g_del 0 rfl ?_
                refine g_s (i := 12) (listed' := #[true, true, true, true, true, true, true, true, true, true, true, true, true, false]) rfl (by kernel_rfl) (by kernel_rfl) rfl ?_
                refine s_append rfl rfl rfl tl33 zo50 tb50 (i := 0) rfl (FzR.src hz6 hn6) (by show (0 + p + 1 + (0 + (s3.n - p))) * 272 ≤ _; omega) (by show 0 + p + 1 + (0 + (s3.n - p)) ≤ _; unfold maxLen; omega) (fun a3 c3 => ?_)
                refine ⟨⟨hg, alln⟩, ?_⟩
                refine g_y (i := 13) (listed' := #[true, true, true, true, true, true, true, true, true, true, true, true, true, true]) rfl (by kernel_rfl) (by kernel_rfl) (by kernel_rfl) (by kernel_rfl) rfl rfl hg alln (fun m' H' hm' hX' => y_assign rfl) ?_
                refine g_done (by kernel_rfl) ?_
                clear hg hz_g hz3_g hzw_g hz6_g
                refine hK6 _ _ _ ?_
                clear hK6 K6
                refine c_region ?_
                refine r_freezeVec (i := 0) rfl rfl (fun m3 hm3 hzu hnu => ?_)
                replace hm := hm.trans hm3
                replace hz := hz.mono hm3
                replace hz3 := hz3.mono hm3
                replace hzw := hzw.mono hm3
                replace hz6 := hz6.mono hm3
                clear hm3
                replace hz3 : FzR _ _ (lr.take p ++ [x] ++ lr.drop p) := fzr_of hzu (by simp [List.map_take, List.map_drop]) (AllA.app (AllA.app (AllA.sub (AllA.of hz3) (fun y hy => List.mem_of_mem_take hy)) (fun y hy => by rw [List.mem_singleton.1 hy]; exact hz.acts x (List.mem_of_getElem? hx))) (AllA.sub (AllA.of hz3) (fun y hy => List.mem_of_mem_drop hy)))
                refine r_y rfl rfl (y_move rfl) ?_
                first | refine r_y rfl rfl (y_inc rfl (by omega)) ?_ | refine r_y rfl rfl (y_iop rfl rfl rfl) ?_
                refine r_y rfl rfl (y_assign rfl) ?_
                refine r_nil ?_
                exact ⟨k0 - 1, (i + 1, (lr.take p ++ [x] ++ lr.drop p), ⟨a3, _, c3⟩), by omega, ⟨rfl, rfl, rfl, trivial⟩, rfl, ⟨by omega, by rw [hT, if_pos (by simpa using hs1), ← hro, insR_new hlow (by simp; omega) hk0]; simp [List.map_take, List.map_drop], hnu, by simp; omega⟩, hm, hz, hz3⟩
            ·
              refine s_buildSlice (cs := (encRule x.1 x.2)) (e := 50) rfl rfl (fun _ => by kernel_rfl) (fun b6 => ?_)
              refine ⟨⟨hg, alln⟩, ?_⟩
              have hk0 : ∀ z, (lr.map (·.1))[p]? = some z → ruleKey z x.1 = false := by first | (intro z hz; rw [hy1] at hz; cases hz; exact hK) | (intro z hz; have h8 := (List.getElem?_eq_some_iff.1 hz).1; simp only [show (s3.cut p s3.n 32).n = s3.n - p from rfl] at hG; simp at hG h8; omega)
              refine g_s (i := 0) (listed' := #[true, true, true, true, false, true, true, true, true, true, false, true, false, false]) rfl (by kernel_rfl) (by kernel_rfl) rfl ?_
              refine s_buildSlice (cs := []) (e := 50) rfl rfl (fun _ => by kernel_rfl) (fun b7 => ?_)
              refine ⟨⟨hg, alln⟩, ?_⟩
              refine g_toVec (i := 0) (s := 32) (k := 0) [] rfl rfl (fun c h => by cases h) rfl (Nat.zero_le _) ?_
              refine g_s (i := 4) (listed' := #[true, true, true, true, true, true, true, true, true, true, false, true, false, false]) rfl (by kernel_rfl) (by kernel_rfl) rfl ?_
              refine s_append rfl rfl rfl tl33 zo50 tb50 (i := 0) rfl (FzR.src (hz3.first hpn) hn3) (by show (0 + p) * 272 ≤ _; omega) (by show 0 + p ≤ _; unfold maxLen; omega) (fun a2 c2 => ?_)
              refine ⟨⟨hg, alln⟩, ?_⟩
              refine g_s (i := 10) (listed' := #[true, true, true, true, true, true, true, true, true, true, true, true, false, false]) rfl (by kernel_rfl) (by kernel_rfl) rfl ?_
              refine s_append rfl rfl rfl tl33 zo50 tb50 (i := 0) rfl (Src.one' (i := 1) rfl rfl (one_rule _ _)) (by show (0 + p + 1) * 272 ≤ _; omega) (by show 0 + p + 1 ≤ _; unfold maxLen; omega) (fun a5 c5 => ?_)
              refine ⟨⟨hg, alln⟩, ?_⟩
              refine g_del 1 rfl ?_
              refine g_s (i := 12) (listed' := #[true, true, true, true, true, true, true, true, true, true, true, true, true, false]) rfl (by kernel_rfl) (by kernel_rfl) rfl ?_
              refine s_append rfl rfl rfl tl33 zo50 tb50 (i := 0) rfl (FzR.src hz6 hn6) (by show (0 + p + 1 + (0 + (s3.n - p))) * 272 ≤ _; omega) (by show 0 + p + 1 + (0 + (s3.n - p)) ≤ _; unfold maxLen; omega) (fun a3 c3 => ?_)
              refine ⟨⟨hg, alln⟩, ?_⟩
              refine g_y (i := 13) (listed' := #[true, true, true, true, true, true, true, true, true, true, true, true, true, true]) rfl (by kernel_rfl) (by kernel_rfl) (by kernel_rfl) (by kernel_rfl) rfl rfl hg alln (fun m' H' hm' hX' => y_assign rfl) ?_
              refine g_done (by kernel_rfl) ?_
              clear hg hz_g hz3_g hzw_g hz6_g
              refine hK6 _ _ _ ?_
              clear hK6 K6
              refine c_region ?_
              refine r_freezeVec (i := 0) rfl rfl (fun m3 hm3 hzu hnu => ?_)
              replace hm := hm.trans hm3
              replace hz := hz.mono hm3
              replace hz3 := hz3.mono hm3
              replace hzw := hzw.mono hm3
              replace hz6 := hz6.mono hm3
              clear hm3
              replace hz3 : FzR _ _ (lr.take p ++ [x] ++ lr.drop p) := fzr_of hzu (by simp [List.map_take, List.map_drop]) (AllA.app (AllA.app (AllA.sub (AllA.of hz3) (fun y hy => List.mem_of_mem_take hy)) (fun y hy => by rw [List.mem_singleton.1 hy]; exact hz.acts x (List.mem_of_getElem? hx))) (AllA.sub (AllA.of hz3) (fun y hy => List.mem_of_mem_drop hy)))
              refine r_y rfl rfl (y_move rfl) ?_
              first | refine r_y rfl rfl (y_inc rfl (by omega)) ?_ | refine r_y rfl rfl (y_iop rfl rfl rfl) ?_
              refine r_y rfl rfl (y_assign rfl) ?_
              refine r_nil ?_
              exact ⟨k0 - 1, (i + 1, (lr.take p ++ [x] ++ lr.drop p), ⟨a3, _, c3⟩), by omega, ⟨rfl, rfl, rfl, trivial⟩, rfl, ⟨by omega, by rw [hT, if_pos (by simpa using hs1), ← hro, insR_new hlow (by simp; omega) hk0]; simp [List.map_take, List.map_drop], hnu, by simp; omega⟩, hm, hz, hz3⟩
        ·
          refine g_no (i := 4) (listed' := #[true, true, true, true, true, false, false, false, false, false, false, false, false]) rfl (by kernel_rfl) (by kernel_rfl) (by kernel_rfl) (by kernel_rfl) rfl rfl hG rfl hg alln ?_
          refine g_no (i := 5) (listed' := #[true, true, true, true, true, true, false, false, false, false, false, false, false]) rfl (by kernel_rfl) (by kernel_rfl) (by kernel_rfl) (by kernel_rfl) rfl rfl hG rfl hg alln ?_
          refine g_no (i := 6) (listed' := #[true, true, true, true, true, true, true, false, false, false, false, false, false]) rfl (by kernel_rfl) (by kernel_rfl) (by kernel_rfl) (by kernel_rfl) rfl rfl hG rfl hg alln ?_
          refine g_no (i := 7) (listed' := #[true, true, true, true, true, true, true, true, false, false, false, false, false]) rfl (by kernel_rfl) (by kernel_rfl) (by kernel_rfl) (by kernel_rfl) rfl rfl hG rfl hg alln ?_
          refine g_no (i := 8) (listed' := #[true, true, true, true, true, true, true, true, true, false, false, false, false]) rfl (by kernel_rfl) (by kernel_rfl) (by kernel_rfl) (by kernel_rfl) rfl rfl hG rfl hg alln ?_
          refine g_no (i := 9) (listed' := #[true, true, true, true, true, true, true, true, true, true, false, false, false]) rfl (by kernel_rfl) (by kernel_rfl) (by kernel_rfl) (by kernel_rfl) rfl rfl hG rfl hg alln ?_
          refine g_no (i := 10) (listed' := #[true, true, true, true, true, true, true, true, true, true, true, false, false]) rfl (by kernel_rfl) (by kernel_rfl) (by kernel_rfl) (by kernel_rfl) rfl rfl hG rfl hg alln ?_
          refine g_no (i := 11) (listed' := #[true, true, true, true, true, true, true, true, true, true, true, true, false]) rfl (by kernel_rfl) (by kernel_rfl) (by kernel_rfl) (by kernel_rfl) rfl rfl hG rfl hg alln ?_
          refine g_y (i := 12) (listed' := #[true, true, true, true, true, true, true, true, true, true, true, true, true]) rfl (by kernel_rfl) (by kernel_rfl) (by kernel_rfl) (by kernel_rfl) rfl rfl hg alln (fun m' H' hm' hX' => y_pickf rfl hG rfl) ?_
          refine g_done (by kernel_rfl) ?_
          clear hg hz_g hz3_g hzw_g hz6_g
          refine hK18 _ _ _ ?_
          clear hK18 K18
          refine c_iff rfl rfl ?_
          refine c_skip ?_
          refine hK17 _ _ _ ?_
          clear hK17 K17
          refine c_draw ([]) (by kernel_rfl) (fun hg => ?_)
          have hz_g := hz
          have hz3_g := hz3
          have hzw_g := hzw
          have hz6_g := hz6
          refine g_y (i := 1) (listed' := #[false, true, false, false, false, false, false, false, false, false, false, false, false, false]) rfl (by kernel_rfl) (by kernel_rfl) (by kernel_rfl) (by kernel_rfl) rfl rfl hg alln (fun m' H' hm' hX' => y_move rfl) ?_
          refine g_y (i := 2) (listed' := #[false, true, true, false, false, false, false, false, false, false, false, false, false, false]) rfl (by kernel_rfl) (by kernel_rfl) (by kernel_rfl) (by kernel_rfl) rfl rfl hg alln (fun m' H' hm' hX' => y_move rfl) ?_
          refine g_y (i := 3) (listed' := #[false, true, true, true, false, false, false, false, false, false, false, false, false, false]) rfl (by kernel_rfl) (by kernel_rfl) (by kernel_rfl) (by kernel_rfl) rfl rfl hg alln (fun m' H' hm' hX' => y_slicel rfl tl33 (hi := p) rfl (Nat.le_trans hpn hle3)) ?_
          refine g_y (i := 5) (listed' := #[false, true, true, true, false, true, false, false, false, false, false, false, false, false]) rfl (by kernel_rfl) (by kernel_rfl) (by kernel_rfl) (by kernel_rfl) rfl rfl hg alln (fun m' H' hm' hX' => y_move rfl) ?_
          refine g_y (i := 6) (listed' := #[false, true, true, true, false, true, true, false, false, false, false, false, false, false]) rfl (by kernel_rfl) (by kernel_rfl) (by kernel_rfl) (by kernel_rfl) rfl rfl hg alln (fun m' H' hm' hX' => y_move rfl) ?_
          refine g_y (i := 7) (listed' := #[false, true, true, true, false, true, true, true, false, false, false, false, false, false]) rfl (by kernel_rfl) (by kernel_rfl) (by kernel_rfl) (by kernel_rfl) rfl rfl hg alln (fun m' H' hm' hX' => y_indexAddr_slice rfl rfl tl33 hlt (At.fz (hz_g.fz.mono hm') hlt)) ?_
          refine g_y (i := 8) (listed' := #[false, true, true, true, false, true, true, true, true, false, false, false, false, false]) rfl (by kernel_rfl) (by kernel_rfl) (by kernel_rfl) (by kernel_rfl) rfl rfl hg alln (fun m' H' hm' hX' => y_load_a rfl ts50 (RdA.fz0 (hz_g.fz.mono hm') (map_get hx))) ?_
          refine g_y (i := 11) (listed' := #[false, true, true, true, false, true, true, true, true, false, false, true, false, false]) rfl (by kernel_rfl) (by kernel_rfl) (by kernel_rfl) (by kernel_rfl) rfl rfl hg alln (fun m' H' hm' hX' => y_move rfl) ?_
          refine g_each (rs := [0, 9]) (by kernel_rfl) (by simp) ⟨⟨_, rfl, rfl, ?_⟩, ⟨_, rfl, rfl, ?_⟩, trivial⟩
          ·
            have hk0 : ∀ z, (lr.map (·.1))[p]? = some z → ruleKey z x.1 = false := by first | (intro z hz; rw [hy1] at hz; cases hz; exact hK) | (intro z hz; have h8 := (List.getElem?_eq_some_iff.1 hz).1; simp only [show (s3.cut p s3.n 32).n = s3.n - p from rfl] at hG; simp at hG h8; omega)
            refine s_buildSlice (cs := []) (e := 50) rfl rfl (fun _ => by kernel_rfl) (fun b8 => ?_)
            refine ⟨⟨hg, alln⟩, ?_⟩
            refine g_toVec (i := 0) (s := 32) (k := 0) [] rfl rfl (fun c h => by cases h) rfl (Nat.zero_le _) ?_
            refine g_each (rs := [4, 9]) (by kernel_rfl) (by simp) ⟨⟨_, rfl, rfl, ?_⟩, ⟨_, rfl, rfl, ?_⟩, trivial⟩
            ·
              refine s_append rfl rfl rfl tl33 zo50 tb50 (i := 0) rfl (FzR.src (hz3.first hpn) hn3) (by show (0 + p) * 272 ≤ _; omega) (by show 0 + p ≤ _; unfold maxLen; omega) (fun a2 c2 => ?_)
              refine ⟨⟨hg, alln⟩, ?_⟩
              refine g_s (i := 9) (listed' := #[true, true, true, true, true, true, true, true, true, true, false, true, false, false]) rfl (by kernel_rfl) (by kernel_rfl) rfl ?_
              refine s_buildSlice (cs := (encRule x.1 x.2)) (e := 50) rfl rfl (fun _ => by kernel_rfl) (fun b9 => ?_)
              refine ⟨⟨hg, alln⟩, ?_⟩
              refine g_s (i := 10) (listed' := #[true, true, true, true, true, true, true, true, true, true, true, true, false, false]) rfl (by kernel_rfl) (by kernel_rfl) rfl ?_
              refine s_append rfl rfl rfl tl33 zo50 tb50 (i := 1) rfl (Src.one' (i := 0) rfl rfl (one_rule _ _)) (by show (0 + p + 1) * 272 ≤ _; omega) (by show 0 + p + 1 ≤ _; unfold maxLen; omega) (fun a5 c5 => ?_)
              refine ⟨⟨hg, alln⟩, ?_⟩
              refine g_del 0 rfl ?_
              refine g_s (i := 12) (listed' := #[true, true, true, true, true, true, true, true, true, true, true, true, true, false]) rfl (by kernel_rfl) (by kernel_rfl) rfl ?_
              refine s_append rfl rfl rfl tl33 zo50 tb50 (i := 0) rfl (FzR.src hz6 hn6) (by show (0 + p + 1 + (0 + (s3.n - p))) * 272 ≤ _; omega) (by show 0 + p + 1 + (0 + (s3.n - p)) ≤ _; unfold maxLen; omega) (fun a3 c3 => ?_)
              refine ⟨⟨hg, alln⟩, ?_⟩
              refine g_y (i := 13) (listed' := #[true, true, true, true, true, true, true, true, true, true, true, true, true, true]) rfl (by kernel_rfl) (by kernel_rfl) (by kernel_rfl) (by kernel_rfl) rfl rfl hg alln (fun m' H' hm' hX' => y_assign rfl) ?_
              refine g_done (by kernel_rfl) ?_
              clear hg hz_g hz3_g hzw_g hz6_g
              refine hK6 _ _ _ ?_
              clear hK6 K6
              refine c_region ?_
              refine r_freezeVec (i := 0) rfl rfl (fun m3 hm3 hzu hnu => ?_)
              replace hm := hm.trans hm3
              replace hz := hz.mono hm3
              replace hz3 := hz3.mono hm3
              replace hzw := hzw.mono hm3
              replace hz6 := hz6.mono hm3
              clear hm3
              replace hz3 : FzR _ _ (lr.take p ++ [x] ++ lr.drop p) := fzr_of hzu (by simp [List.map_take, List.map_drop]) (AllA.app (AllA.app (AllA.sub (AllA.of hz3) (fun y hy => List.mem_of_mem_take hy)) (fun y hy => by rw [List.mem_singleton.1 hy]; exact hz.acts x (List.mem_of_getElem? hx))) (AllA.sub (AllA.of hz3) (fun y hy => List.mem_of_mem_drop hy)))
              refine r_y rfl rfl (y_move rfl) ?_
              first | refine r_y rfl rfl (y_inc rfl (by omega)) ?_ | refine r_y rfl rfl (y_iop rfl rfl rfl) ?_
              refine r_y rfl rfl (y_assign rfl) ?_
              refine r_nil ?_
              exact ⟨k0 - 1, (i + 1, (lr.take p ++ [x] ++ lr.drop p), ⟨a3, _, c3⟩), by omega, ⟨rfl, rfl, rfl, trivial⟩, rfl, ⟨by omega, by rw [hT, if_pos (by simpa using hs1), ← hro, insR_new hlow (by simp; omega) hk0]; simp [List.map_take, List.map_drop], hnu, by simp; omega⟩, hm, hz, hz3⟩
            ·
              refine s_buildSlice (cs := (encRule x.1 x.2)) (e := 50) rfl rfl (fun _ => by kernel_rfl) (fun b9 => ?_)
              refine ⟨⟨hg, alln⟩, ?_⟩
              refine g_s (i := 4) (listed' := #[true, true, true, true, true, true, true, true, true, true, false, true, false, false]) rfl (by kernel_rfl) (by kernel_rfl) rfl ?_
              refine s_append rfl rfl rfl tl33 zo50 tb50 (i := 1) rfl (FzR.src (hz3.first hpn) hn3) (by show (0 + p) * 272 ≤ _; omega) (by show 0 + p ≤ _; unfold maxLen; omega) (fun a2 c2 => ?_)
              refine ⟨⟨hg, alln⟩, ?_⟩
              refine g_s (i := 10) (listed' := #[true, true, true, true, true, true, true, true, true, true, true, true, false, false]) rfl (by kernel_rfl) (by kernel_rfl) rfl ?_
              refine s_append rfl rfl rfl tl33 zo50 tb50 (i := 1) rfl (Src.one' (i := 0) rfl rfl (one_rule _ _)) (by show (0 + p + 1) * 272 ≤ _; omega) (by show 0 + p + 1 ≤ _; unfold maxLen; omega) (fun a5 c5 => ?_)
              refine ⟨⟨hg, alln⟩, ?_⟩
              refine g_del 0 rfl ?_
              refine g_s (i := 12) (listed' := #[true, true, true, true, true, true, true, true, true, true, true, true, true, false]) rfl (by kernel_rfl) (by kernel_rfl) rfl ?_
              refine s_append rfl rfl rfl tl33 zo50 tb50 (i := 0) rfl (FzR.src hz6 hn6) (by show (0 + p + 1 + (0 + (s3.n - p))) * 272 ≤ _; omega) (by show 0 + p + 1 + (0 + (s3.n - p)) ≤ _; unfold maxLen; omega) (fun a3 c3 => ?_)
              refine ⟨⟨hg, alln⟩, ?_⟩
              refine g_y (i := 13) (listed' := #[true, true, true, true, true, true, true, true, true, true, true, true, true, true]) rfl (by kernel_rfl) (by kernel_rfl) (by kernel_rfl) (by kernel_rfl) rfl rfl hg alln (fun m' H' hm' hX' => y_assign rfl) ?_
              refine g_done (by kernel_rfl) ?_
              clear hg hz_g hz3_g hzw_g hz6_g
              refine hK6 _ _ _ ?_
              clear hK6 K6
              refine c_region ?_
              refine r_freezeVec (i := 0) rfl rfl (fun m3 hm3 hzu hnu => ?_)
              replace hm := hm.trans hm3
              replace hz := hz.mono hm3
              replace hz3 := hz3.mono hm3
              replace hzw := hzw.mono hm3
              replace hz6 := hz6.mono hm3
              clear hm3
              replace hz3 : FzR _ _ (lr.take p ++ [x] ++ lr.drop p) := fzr_of hzu (by simp [List.map_take, List.map_drop]) (AllA.app (AllA.app (AllA.sub (AllA.of hz3) (fun y hy => List.mem_of_mem_take hy)) (fun y hy => by rw [List.mem_singleton.1 hy]; exact hz.acts x (List.mem_of_getElem? hx))) (AllA.sub (AllA.of hz3) (fun y hy => List.mem_of_mem_drop hy)))
              refine r_y rfl rfl (y_move rfl) ?_
              first | refine r_y rfl rfl (y_inc rfl (by omega)) ?_ | refine r_y rfl rfl (y_iop rfl rfl rfl) ?_
              refine r_y rfl rfl (y_assign rfl) ?_
              refine r_nil ?_
              exact ⟨k0 - 1, (i + 1, (lr.take p ++ [x] ++ lr.drop p), ⟨a3, _, c3⟩), by omega, ⟨rfl, rfl, rfl, trivial⟩, rfl, ⟨by omega, by rw [hT, if_pos (by simpa using hs1), ← hro, insR_new hlow (by simp; omega) hk0]; simp [List.map_take, List.map_drop], hnu, by simp; omega⟩, hm, hz, hz3⟩
          ·
            refine s_buildSlice (cs := (encRule x.1 x.2)) (e := 50) rfl rfl (fun _ => by kernel_rfl) (fun b8 => ?_)
            refine ⟨⟨hg, alln⟩, ?_⟩
            have hk0 : ∀ z, (lr.map (·.1))[p]? = some z → ruleKey z x.1 = false := by first | (intro z hz; rw [hy1] at hz; cases hz; exact hK) | (intro z hz; have h8 := (List.getElem?_eq_some_iff.1 hz).1; simp only [show (s3.cut p s3.n 32).n = s3.n - p from rfl] at hG; simp at hG h8; omega)
            refine g_s (i := 0) (listed' := #[true, true, true, true, false, true, true, true, true, true, false, true, false, false]) rfl (by kernel_rfl) (by kernel_rfl) rfl ?_
            refine s_buildSlice (cs := []) (e := 50) rfl rfl (fun _ => by kernel_rfl) (fun b9 => ?_)
            refine ⟨⟨hg, alln⟩, ?_⟩
            refine g_toVec (i := 0) (s := 32) (k := 0) [] rfl rfl (fun c h => by cases h) rfl (Nat.zero_le _) ?_
            refine g_s (i := 4) (listed' := #[true, true, true, true, true, true, true, true, true, true, false, true, false, false]) rfl (by kernel_rfl) (by kernel_rfl) rfl ?_
            refine s_append rfl rfl rfl tl33 zo50 tb50 (i := 0) rfl (FzR.src (hz3.first hpn) hn3) (by show (0 + p) * 272 ≤ _; omega) (by show 0 + p ≤ _; unfold maxLen; omega) (fun a2 c2 => ?_)
            refine ⟨⟨hg, alln⟩, ?_⟩
            refine g_s (i := 10) (listed' := #[true, true, true, true, true, true, true, true, true, true, true, true, false, false]) rfl (by kernel_rfl) (by kernel_rfl) rfl ?_
            refine s_append rfl rfl rfl tl33 zo50 tb50 (i := 0) rfl (Src.one' (i := 1) rfl rfl (one_rule _ _)) (by show (0 + p + 1) * 272 ≤ _; omega) (by show 0 + p + 1 ≤ _; unfold maxLen; omega) (fun a5 c5 => ?_)
            refine ⟨⟨hg, alln⟩, ?_⟩
            refine g_del 1 rfl ?_
            refine g_s (i := 12) (listed' := #[true, true, true, true, true, true, true, true, true, true, true, true, true, false]) rfl (by kernel_rfl) (by kernel_rfl) rfl ?_
            refine s_append rfl rfl rfl tl33 zo50 tb50 (i := 0) rfl (FzR.src hz6 hn6) (by show (0 + p + 1 + (0 + (s3.n - p))) * 272 ≤ _; omega) (by show 0 + p + 1 + (0 + (s3.n - p)) ≤ _; unfold maxLen; omega) (fun a3 c3 => ?_)
            refine ⟨⟨hg, alln⟩, ?_⟩
            refine g_y (i := 13) (listed' := #[true, true, true, true, true, true, true, true, true, true, true, true, true, true]) rfl (by kernel_rfl) (by kernel_rfl) (by kernel_rfl) (by kernel_rfl) rfl rfl hg alln (fun m' H' hm' hX' => y_assign rfl) ?_
            refine g_done (by kernel_rfl) ?_
            clear hg hz_g hz3_g hzw_g hz6_g
            refine hK6 _ _ _ ?_
            clear hK6 K6
            refine c_region ?_
            refine r_freezeVec (i := 0) rfl rfl (fun m3 hm3 hzu hnu => ?_)
            replace hm := hm.trans hm3
            replace hz := hz.mono hm3
            replace hz3 := hz3.mono hm3
            replace hzw := hzw.mono hm3
            replace hz6 := hz6.mono hm3
            clear hm3
            replace hz3 : FzR _ _ (lr.take p ++ [x] ++ lr.drop p) := fzr_of hzu (by simp [List.map_take, List.map_drop]) (AllA.app (AllA.app (AllA.sub (AllA.of hz3) (fun y hy => List.mem_of_mem_take hy)) (fun y hy => by rw [List.mem_singleton.1 hy]; exact hz.acts x (List.mem_of_getElem? hx))) (AllA.sub (AllA.of hz3) (fun y hy => List.mem_of_mem_drop hy)))
            refine r_y rfl rfl (y_move rfl) ?_
            first | refine r_y rfl rfl (y_inc rfl (by omega)) ?_ | refine r_y rfl rfl (y_iop rfl rfl rfl) ?_
            refine r_y rfl rfl (y_assign rfl) ?_
            refine r_nil ?_
            exact ⟨k0 - 1, (i + 1, (lr.take p ++ [x] ++ lr.drop p), ⟨a3, _, c3⟩), by omega, ⟨rfl, rfl, rfl, trivial⟩, rfl, ⟨by omega, by rw [hT, if_pos (by simpa using hs1), ← hro, insR_new hlow (by simp; omega) hk0]; simp [List.map_take, List.map_drop], hnu, by simp; omega⟩, hm, hz, hz3⟩
  ·
    refine c_exit ?_
    refine hK2 _ _ _ ?_
    clear hK4 K4 hK2 K2
    refine c_seq (fun K19 hK19 => ?_)
    refine c_region ?_
    refine r_y rfl rfl (y_move rfl) ?_
    refine r_y rfl rfl (y_assign rfl) ?_
    refine r_nil ?_
    refine hK19 _ _ _ ?_
    clear hK19 K19
    refine c_ret ?_
    refine e_ret 0 hm (res_tmps rfl) ?_
    obtain rfl : i = s1.n := by simp at h0; omega
    exact ⟨s3, lr, rfl, hz3, by rw [hro, List.take_of_length_le (by simp; omega)], hn3, rfl⟩
end Go.Aw
