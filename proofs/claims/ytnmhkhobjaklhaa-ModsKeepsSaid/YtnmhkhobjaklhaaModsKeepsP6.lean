/- Part 6 of the words and walks that the proof behind it uses. -/
import Derived.Test.YtnmhkhobjaklhaaModsKeepsP5
import Derived.Laws.IdiomStrings
set_option linter.unusedVariables false
set_option linter.unusedSimpArgs false
set_option maxHeartbeats 1000000
namespace Go.Aw
open Go Go.Proofs
set_option maxRecDepth 100000 in
theorem add_w (s1 : Sl) (l1 : List (RuleD × Sl)) (x : ModD) (sm : Sl) (room : Int) (m : Snap) (H : Hp) (hz : FzR m s1 l1) (hfa : ∀ p ∈ l1, p.1.acts.length ≤ 4398046511103) (hfit : l1.length < 1000000) (hzx : FzA m sm x.acts) (hokx : sm.ok) (hfx : x.acts.length ≤ 4398046511103) (hsrt : Srt (l1.map (·.1))) : Fn Try.prog 81 [s1.v, .agg (encMod x sm).toArray, .int .i64 room] m H (fun v m' H' => ∃ (a : Option Addr) (n c cap : Nat) (lo : List OwnR), v = .tuple [.slice a n c, i64 (addR (l1.map (·.1)) x room).2].toArray ∧ n = lo.length ∧ (c = n ∨ c = cap) ∧ rulesO lo = (addR (l1.map (·.1)) x room).1 ∧ (∀ o ∈ lo, o.ok) ∧ H' = rowO a n cap lo :: (itsO lo ++ H)) := by
  have hl := hz.len
  have hm : m.le m := Snap.le.refl m
  refine fn_end Try.func81 rfl rfl rfl ?_
  refine c_seq (fun K0 hK0 => ?_)
  refine c_region ?_
  refine r_s rfl ?_
  refine s_box_a rfl rfl (fun b0 => ?_)
  refine r_y rfl rfl (y_assign rfl) ?_
  refine r_y rfl rfl (y_assign rfl) ?_
  refine r_nil ?_
  refine hK0 _ _ _ ?_
  clear hK0 K0
  refine c_seq (fun K1 hK1 => ?_)
  refine c_region ?_
  refine r_y rfl rfl (y_load_a (cs := encMod x sm) rfl ts32 (RdA.blk (i := 0) rfl rfl)) ?_
  refine r_s rfl ?_
  refine s_call0 rfl Try.call129 rfl (modRule_w x sm _ _ hzx hokx hfx) ?_
  rintro _ m2 _ hm2 ⟨o, rfl, hor, hoo, rfl⟩
  replace hm := hm.trans hm2
  replace hz := hz.mono hm2
  replace hzx := hzx.mono hm2
  clear hm2
  refine r_s rfl ?_
  refine s_alloc rfl tz50 (fun b1 => ?_)
  refine r_s rfl ?_
  refine s_store (us := o.enc) rfl rfl rfl ts50 rfl rfl (one_own _) (i := 0) rfl rfl ?_
  refine r_nil ?_
  refine hK1 _ _ _ ?_
  clear hK1 K1
  refine c_seq (fun K2 hK2 => ?_)
  refine c_region ?_
  refine r_y rfl rfl (y_move rfl) ?_
  refine r_y rfl rfl (y_makeFunc rfl) ?_
  refine r_s rfl ?_
  refine s_call0 rfl Try.call118 rfl (idxRules_w s1 l1 130 [.pointer (some ⟨b1, 0, none⟩)] (fun r => ruleKey r o.r) _ _ hz Try.call130 (fun m' z _ _ => add1_w z.1 o.r z.2 o.s b1 m' _)) ?_
  rintro _ m2 _ hm2 ⟨rfl, rfl⟩
  replace hm := hm.trans hm2
  replace hz := hz.mono hm2
  replace hzx := hzx.mono hm2
  clear hm2
  refine r_y rfl rfl (y_assign rfl) ?_
  refine r_nil ?_
  refine hK2 _ _ _ ?_
  clear hK2 K2
  refine c_seq (fun K3 hK3 => ?_)
  refine c_region ?_
  refine r_y rfl rfl (y_makeFunc rfl) ?_
  refine r_y rfl rfl (y_assign rfl) ?_
  refine r_nil ?_
  refine hK3 _ _ _ ?_
  clear hK3 K3
  refine c_seq (fun K4 hK4 => ?_)
  refine c_block ?_
  refine c_seq (fun K5 hK5 => ?_)
  refine c_draw ([.blk b0 (.cells (encMod x sm).toArray 32)]) (by kernel_rfl) (fun hg => ?_)
  have hz_g := hz
  have hzx_g := hzx
  refine g_y (i := 0) (listed' := #[true, false, false, false, false, false, false, false, false, false, false, false, false]) rfl (by kernel_rfl) (by kernel_rfl) (by kernel_rfl) (by kernel_rfl) rfl rfl hg (allc (List.Mem.tail _ (List.Mem.tail _ (List.Mem.head _))) alln) (fun m' H' hm' hX' => y_move rfl) ?_
  refine g_y (i := 1) (listed' := #[true, true, false, false, false, false, false, false, false, false, false, false, false]) rfl (by kernel_rfl) (by kernel_rfl) (by kernel_rfl) (by kernel_rfl) rfl rfl hg (allc (List.Mem.tail _ (List.Mem.tail _ (List.Mem.head _))) alln) (fun m' H' hm' hX' => y_iop rfl rfl rfl) ?_
  refine g_y (i := 2) (listed' := #[true, true, true, false, false, false, false, false, false, false, false, false, false]) rfl (by kernel_rfl) (by kernel_rfl) (by kernel_rfl) (by kernel_rfl) rfl rfl hg (allc (List.Mem.tail _ (List.Mem.tail _ (List.Mem.head _))) alln) (fun m' H' hm' hX' => y_move rfl) ?_
  refine g_split (j := 2) rfl (fun hI => ?_) (fun hI => ?_)
  ·
    refine g_yg (i := 3) (listed' := #[true, true, true, true, false, false, false, false, false, false, false, false, false]) rfl (by kernel_rfl) (by kernel_rfl) (by kernel_rfl) (by kernel_rfl) rfl rfl hI rfl hg (allc (List.Mem.tail _ (List.Mem.tail _ (List.Mem.head _))) alln) (fun m' H' hm' hX' => y_move rfl) ?_
    refine g_yg (i := 4) (listed' := #[true, true, true, true, true, false, false, false, false, false, false, false, false]) rfl (by kernel_rfl) (by kernel_rfl) (by kernel_rfl) (by kernel_rfl) rfl rfl hI rfl hg (allc (List.Mem.tail _ (List.Mem.tail _ (List.Mem.head _))) alln) (fun m' H' hm' hX' => y_move rfl) ?_
    obtain ⟨k, z, hk, hz1, hpk⟩ := idxF_pos (by simpa using hI)
    rw [List.getElem?_map] at hz1
    obtain ⟨y, hx, rfl⟩ := Option.map_eq_some_iff.1 hz1
    rw [hor] at hpk
    have hymem : y.1 ∈ l1.map (·.1) := List.mem_map.2 ⟨y, List.mem_of_getElem? hx, rfl⟩
    have hany : (l1.map (·.1)).any (fun z => ruleKey z (modRule x)) = true := List.any_eq_true.2 ⟨_, hymem, hpk⟩
    have hown : (l1.map (·.1)).any (fun z => ruleKey z (modRule x) && (z.owner != x.owner)) = (y.1.owner != x.owner) := any_owner hsrt hymem hpk
    have hlt : k < s1.n := by have := (List.getElem?_eq_some_iff.1 hx).1; omega
    refine g_yg (i := 5) (listed' := #[true, true, true, true, true, true, false, false, false, false, false, false, false]) rfl (by kernel_rfl) (by kernel_rfl) (by kernel_rfl) (by kernel_rfl) rfl rfl hI rfl hg (allc (List.Mem.tail _ (List.Mem.tail _ (List.Mem.head _))) alln) (fun m' H' hm' hX' => y_indexAddr_sl rfl rfl hk tl33 hlt (At.fz (hz_g.fz.mono hm') hlt)) ?_
    refine g_yg (i := 6) (listed' := #[true, true, true, true, true, true, true, false, false, false, false, false, false]) rfl (by kernel_rfl) (by kernel_rfl) (by kernel_rfl) (by kernel_rfl) rfl rfl hI rfl hg (allc (List.Mem.tail _ (List.Mem.tail _ (List.Mem.head _))) alln) (fun m' H' hm' hX' => y_fieldAddr rfl ((At.fz (hz_g.fz.mono hm') hlt).eadd) fo50_5 (eadd_eadd _ _ _)) ?_
    refine g_yg (i := 7) (listed' := #[true, true, true, true, true, true, true, true, false, false, false, false, false]) rfl (by kernel_rfl) (by kernel_rfl) (by kernel_rfl) (by kernel_rfl) rfl rfl hI rfl hg (allc (List.Mem.tail _ (List.Mem.tail _ (List.Mem.head _))) alln) (fun m' H' hm' hX' => y_load_s rfl ts3 (RdS.fz (hz_g.fz.mono hm') (map_get hx) rfl)) ?_
    refine g_yg (i := 8) (listed' := #[true, true, true, true, true, true, true, true, true, false, false, false, false]) rfl (by kernel_rfl) (by kernel_rfl) (by kernel_rfl) (by kernel_rfl) rfl rfl hI rfl hg (allc (List.Mem.tail _ (List.Mem.tail _ (List.Mem.head _))) alln) (fun m' H' hm' hX' => y_fieldAddr rfl At.lit fo32_6 rfl) ?_
    refine g_yg (i := 9) (listed' := #[true, true, true, true, true, true, true, true, true, true, false, false, false]) rfl (by kernel_rfl) (by kernel_rfl) (by kernel_rfl) (by kernel_rfl) rfl rfl hI rfl hg (allc (List.Mem.tail _ (List.Mem.tail _ (List.Mem.head _))) alln) (fun m' H' hm' hX' => y_load_s rfl ts3 (RdS.mem (hX' _ (List.Mem.head _)) rfl)) ?_
    refine g_yg (i := 10) (listed' := #[true, true, true, true, true, true, true, true, true, true, true, false, false]) rfl (by kernel_rfl) (by kernel_rfl) (by kernel_rfl) (by kernel_rfl) rfl rfl hI rfl hg (allc (List.Mem.tail _ (List.Mem.tail _ (List.Mem.head _))) alln) (fun m' H' hm' hX' => y_iop rfl rfl rfl) ?_
    refine g_y (i := 11) (listed' := #[true, true, true, true, true, true, true, true, true, true, true, true, false]) rfl (by kernel_rfl) (by kernel_rfl) (by kernel_rfl) (by kernel_rfl) rfl rfl hg (allc (List.Mem.tail _ (List.Mem.tail _ (List.Mem.head _))) alln) (fun m' H' hm' hX' => y_pickt rfl hI rfl) ?_
    refine g_y (i := 12) (listed' := #[true, true, true, true, true, true, true, true, true, true, true, true, true]) rfl (by kernel_rfl) (by kernel_rfl) (by kernel_rfl) (by kernel_rfl) rfl rfl hg (allc (List.Mem.tail _ (List.Mem.tail _ (List.Mem.head _))) alln) (fun m' H' hm' hX' => y_assign rfl) ?_
    refine g_done (by kernel_rfl) ?_
    clear hg hz_g hzx_g
    refine hK5 _ _ _ ?_
    clear hK5 K5
    refine c_cond rfl (fun hW => ?_) (fun hW => ?_)
    ·
      refine c_seq (fun K6 hK6 => ?_)
      refine c_region ?_
      refine r_nilvec 50 32 ?_
      refine r_y rfl rfl (y_assign rfl) ?_
      refine r_y rfl rfl (y_assign rfl) ?_
      refine r_nil ?_
      refine hK6 _ _ _ ?_
      clear hK6 K6
      refine c_ret ?_
      refine e_retf [0, 1, 2, 3] 3 hm (res_tmps rfl) ?_
      rw [addR_7 (by rw [hown]; simpa using hW)]
      exact ⟨none, 0, 0, 0, [], rfl, rfl, .inl rfl, rfl, fun o ho => (by cases ho), rfl⟩
    ·
      refine c_seq (fun K7 hK7 => ?_)
      refine c_region ?_
      refine r_y rfl rfl (y_fieldAddr rfl At.lit fo32_7 rfl) ?_
      refine r_y rfl rfl (y_load_s rfl ts4 (RdS.blk (i := 2) rfl rfl)) ?_
      refine r_y rfl rfl (y_move rfl) ?_
      refine r_split (j := 2) rfl (fun hC => ?_) (fun hC => ?_)
      ·
        refine r_yg rfl hC rfl (y_move rfl) ?_
        refine r_yg rfl hC rfl (y_move rfl) ?_
        refine r_sg rfl hC ?_
        refine s_call0 rfl Try.call133 rfl (hasRules_w s1 l1 131 [.pointer (some ⟨b1, 0, none⟩)] (fun r => !ruleKey r o.r && ruleOverlap r o.r) _ _ hz Try.call131 (fun m' z _ _ => add2_w z.1 o.r z.2 o.s b1 m' _)) ?_
        rintro _ m2 _ hm2 ⟨rfl, rfl⟩
        replace hm := hm.trans hm2
        replace hz := hz.mono hm2
        replace hzx := hzx.mono hm2
        clear hm2
        refine r_y rfl rfl (y_pickt rfl hC rfl) ?_
        refine r_y rfl rfl (y_assign rfl) ?_
        refine r_nil ?_
        refine hK7 _ _ _ ?_
        clear hK7 K7
        refine c_cond rfl (fun hO => ?_) (fun hO => ?_)
        ·
          refine c_seq (fun K8 hK8 => ?_)
          refine c_region ?_
          refine r_nilvec 50 32 ?_
          refine r_y rfl rfl (y_assign rfl) ?_
          refine r_y rfl rfl (y_assign rfl) ?_
          refine r_nil ?_
          refine hK8 _ _ _ ?_
          clear hK8 K8
          refine c_ret ?_
          refine e_retf [0, 1, 2, 3] 3 hm (res_tmps rfl) ?_
          rw [addR_6 (by first | exact hown | (rw [hown]; simpa using hW)) (by first | (rw [hC]; rfl) | (rw [hC, ← hor, hO]; rfl))]
          exact ⟨none, 0, 0, 0, [], rfl, rfl, .inl rfl, rfl, fun o ho => (by cases ho), rfl⟩
        ·
          refine c_seq (fun K9 hK9 => ?_)
          refine c_region ?_
          refine r_y rfl rfl (y_move rfl) ?_
          refine r_y rfl rfl (y_iop rfl rfl rfl) ?_
          refine r_y rfl rfl (y_move rfl) ?_
          refine r_no' rfl rfl (by simp at hI ⊢; omega) ?_
          refine r_no' rfl rfl (by simp at hI ⊢; omega) ?_
          refine r_no' rfl rfl (by simp at hI ⊢; omega) ?_
          refine r_no' rfl rfl (by simp at hI ⊢; omega) ?_
          refine r_y rfl rfl (y_pickf rfl (by simp at hI ⊢; omega) rfl) ?_
          refine r_y rfl rfl (y_assign rfl) ?_
          refine r_nil ?_
          refine hK9 _ _ _ ?_
          clear hK9 K9
          refine c_iff rfl rfl ?_
          refine c_skip ?_
          refine hK4 _ _ _ ?_
          clear hK4 K4
          refine c_seq (fun K10 hK10 => ?_)
          refine c_draw ([]) (by kernel_rfl) (fun hg => ?_)
          have hz_g := hz
          have hzx_g := hzx
          refine g_y (i := 0) (listed' := #[true, false, false, false, false, false, false, false]) rfl (by kernel_rfl) (by kernel_rfl) (by kernel_rfl) (by kernel_rfl) rfl rfl hg alln (fun m' H' hm' hX' => y_move rfl) ?_
          refine g_each (rs := [1, 2]) (by kernel_rfl) (by simp) ⟨⟨_, rfl, rfl, ?_⟩, ⟨_, rfl, rfl, ?_⟩, trivial⟩
          ·
            refine s_call0 rfl Try.call27 rfl (ruleCopyF_w s1 l1 _ _ hz hfa (by omega)) ?_
            rintro _ m2 _ hm2 ⟨a, n, lr, rfl, hzr, hlr, hnn, rfl⟩
            replace hm := hm.trans hm2
            refine ⟨⟨hg.trans hm2, alln⟩, ?_⟩
            replace hg := hg.trans hm2
            replace hz := hz.mono hm2
            replace hzx := hzx.mono hm2
            clear hm2
            refine g_s (i := 2) (listed' := #[true, true, true, false, false, false, false, false]) rfl (by kernel_rfl) (by kernel_rfl) rfl ?_
            refine s_y rfl (y_load_a (cs := o.enc) rfl ts50 (RdA.blk (i := 0) rfl rfl)) ?_
            refine ⟨⟨hg, alln⟩, ?_⟩
            refine g_s (i := 3) (listed' := #[true, true, true, true, false, false, false, false]) rfl (by kernel_rfl) (by kernel_rfl) rfl ?_
            refine s_buildSlice (cs := (o.enc)) (e := 50) rfl rfl (fun _ => by kernel_rfl) (fun b2 => ?_)
            refine ⟨⟨hg, alln⟩, ?_⟩
            have hnl : n ≤ 1000000 := by have h3 := hzr.len; have h4 := congrArg List.length hlr; simp at h3 h4; omega
            refine g_s (i := 4) (listed' := #[true, true, true, true, true, false, false, false]) rfl (by kernel_rfl) (by kernel_rfl) rfl ?_
            refine s_appendf rfl rfl rfl tl33 zo50 tb50 hzr.fz hnn (Src.one' (i := 0) rfl rfl (one_own _)) (by decide) (by omega) (by unfold maxLen; omega) (fun a2 c2 => ?_)
            refine ⟨⟨hg, alln⟩, ?_⟩
            refine g_freezeVec (i := 0) rfl rfl (fun m3 hm3 hzv hnv => ?_)
            replace hm := hm.trans hm3
            replace hg := hg.trans hm3
            replace hz := hz.mono hm3
            replace hzx := hzx.mono hm3
            replace hzr := hzr.mono hm3
            clear hm3
            refine g_freezeVec (i := 2) rfl rfl (fun m3 hm3 hza hna => ?_)
            replace hm := hm.trans hm3
            replace hg := hg.trans hm3
            replace hz := hz.mono hm3
            replace hzx := hzx.mono hm3
            replace hzr := hzr.mono hm3
            replace hzv := hzv.mono hm3
            clear hm3
            refine g_del 0 rfl ?_
            refine g_del 0 rfl ?_
            refine g_del 0 rfl ?_
            have hzt := hzr.snoc hzv hza hoo hna
            refine g_s (i := 5) (listed' := #[true, true, true, true, true, true, false, false]) rfl (by kernel_rfl) (by kernel_rfl) rfl ?_
            refine s_call0 rfl Try.call28 rfl (ruleSort_w ⟨a2, n + 1, c2⟩ (lr ++ [(o.r, o.s)]) _ _ hzt (by have := congrArg List.length hlr; simp at this ⊢; omega)) ?_
            rintro _ m2 _ hm2 ⟨a3, n3, cap3, lo3, rfl, hn3, hlo3, hok3, rfl⟩
            replace hm := hm.trans hm2
            refine ⟨⟨hg.trans hm2, alln⟩, ?_⟩
            replace hg := hg.trans hm2
            replace hz := hz.mono hm2
            replace hzx := hzx.mono hm2
            replace hzr := hzr.mono hm2
            replace hzv := hzv.mono hm2
            replace hza := hza.mono hm2
            clear hm2
            refine g_y (i := 6) (listed' := #[true, true, true, true, true, true, true, false]) rfl (by kernel_rfl) (by kernel_rfl) (by kernel_rfl) (by kernel_rfl) rfl rfl hg alln (fun m' H' hm' hX' => y_assign rfl) ?_
            refine g_y (i := 7) (listed' := #[true, true, true, true, true, true, true, true]) rfl (by kernel_rfl) (by kernel_rfl) (by kernel_rfl) (by kernel_rfl) rfl rfl hg alln (fun m' H' hm' hX' => y_assign rfl) ?_
            refine g_done (by kernel_rfl) ?_
            clear hg hz_g hzx_g
            refine hK10 _ _ _ ?_
            clear hK10 K10
            refine c_ret ?_
            refine e_ret 0 hm (res_tmps rfl) ?_
            rw [addR_0 (by first | exact hown | (rw [hown]; simpa using hW)) (by first | (rw [hC]; rfl) | (rw [hC, ← hor, hO]; rfl)) (by first | (rw [hany]; rfl) | (rw [hany, List.length_map, ← hl]; simpa using hF))]
            refine ⟨a3, n3, n3, cap3, lo3, rfl, hn3, .inl rfl, ?_, hok3, rfl⟩
            rw [hlo3, List.map_append, hlr, ← hor]; rfl
          ·
            refine s_y rfl (y_load_a (cs := o.enc) rfl ts50 (RdA.blk (i := 0) rfl rfl)) ?_
            refine ⟨⟨hg, alln⟩, ?_⟩
            refine g_each (rs := [1, 3]) (by kernel_rfl) (by simp) ⟨⟨_, rfl, rfl, ?_⟩, ⟨_, rfl, rfl, ?_⟩, trivial⟩
            ·
              refine s_call0 rfl Try.call27 rfl (ruleCopyF_w s1 l1 _ _ hz hfa (by omega)) ?_
              rintro _ m2 _ hm2 ⟨a, n, lr, rfl, hzr, hlr, hnn, rfl⟩
              replace hm := hm.trans hm2
              refine ⟨⟨hg.trans hm2, alln⟩, ?_⟩
              replace hg := hg.trans hm2
              replace hz := hz.mono hm2
              replace hzx := hzx.mono hm2
              clear hm2
              refine g_s (i := 3) (listed' := #[true, true, true, true, false, false, false, false]) rfl (by kernel_rfl) (by kernel_rfl) rfl ?_
              refine s_buildSlice (cs := (o.enc)) (e := 50) rfl rfl (fun _ => by kernel_rfl) (fun b2 => ?_)
              refine ⟨⟨hg, alln⟩, ?_⟩
              have hnl : n ≤ 1000000 := by have h3 := hzr.len; have h4 := congrArg List.length hlr; simp at h3 h4; omega
              refine g_s (i := 4) (listed' := #[true, true, true, true, true, false, false, false]) rfl (by kernel_rfl) (by kernel_rfl) rfl ?_
              refine s_appendf rfl rfl rfl tl33 zo50 tb50 hzr.fz hnn (Src.one' (i := 0) rfl rfl (one_own _)) (by decide) (by omega) (by unfold maxLen; omega) (fun a2 c2 => ?_)
              refine ⟨⟨hg, alln⟩, ?_⟩
              refine g_freezeVec (i := 0) rfl rfl (fun m3 hm3 hzv hnv => ?_)
              replace hm := hm.trans hm3
              replace hg := hg.trans hm3
              replace hz := hz.mono hm3
              replace hzx := hzx.mono hm3
              replace hzr := hzr.mono hm3
              clear hm3
              refine g_freezeVec (i := 2) rfl rfl (fun m3 hm3 hza hna => ?_)
              replace hm := hm.trans hm3
              replace hg := hg.trans hm3
              replace hz := hz.mono hm3
              replace hzx := hzx.mono hm3
              replace hzr := hzr.mono hm3
              replace hzv := hzv.mono hm3
              clear hm3
              refine g_del 0 rfl ?_
              refine g_del 0 rfl ?_
              refine g_del 0 rfl ?_
              have hzt := hzr.snoc hzv hza hoo hna
              refine g_s (i := 5) (listed' := #[true, true, true, true, true, true, false, false]) rfl (by kernel_rfl) (by kernel_rfl) rfl ?_
              refine s_call0 rfl Try.call28 rfl (ruleSort_w ⟨a2, n + 1, c2⟩ (lr ++ [(o.r, o.s)]) _ _ hzt (by have := congrArg List.length hlr; simp at this ⊢; omega)) ?_
              rintro _ m2 _ hm2 ⟨a3, n3, cap3, lo3, rfl, hn3, hlo3, hok3, rfl⟩
              replace hm := hm.trans hm2
              refine ⟨⟨hg.trans hm2, alln⟩, ?_⟩
              replace hg := hg.trans hm2
              replace hz := hz.mono hm2
              replace hzx := hzx.mono hm2
              replace hzr := hzr.mono hm2
              replace hzv := hzv.mono hm2
              replace hza := hza.mono hm2
              clear hm2
              refine g_y (i := 6) (listed' := #[true, true, true, true, true, true, true, false]) rfl (by kernel_rfl) (by kernel_rfl) (by kernel_rfl) (by kernel_rfl) rfl rfl hg alln (fun m' H' hm' hX' => y_assign rfl) ?_
              refine g_y (i := 7) (listed' := #[true, true, true, true, true, true, true, true]) rfl (by kernel_rfl) (by kernel_rfl) (by kernel_rfl) (by kernel_rfl) rfl rfl hg alln (fun m' H' hm' hX' => y_assign rfl) ?_
              refine g_done (by kernel_rfl) ?_
              clear hg hz_g hzx_g
              refine hK10 _ _ _ ?_
              clear hK10 K10
              refine c_ret ?_
              refine e_ret 0 hm (res_tmps rfl) ?_
              rw [addR_0 (by first | exact hown | (rw [hown]; simpa using hW)) (by first | (rw [hC]; rfl) | (rw [hC, ← hor, hO]; rfl)) (by first | (rw [hany]; rfl) | (rw [hany, List.length_map, ← hl]; simpa using hF))]
              refine ⟨a3, n3, n3, cap3, lo3, rfl, hn3, .inl rfl, ?_, hok3, rfl⟩
              rw [hlo3, List.map_append, hlr, ← hor]; rfl
            ·
              refine s_buildSlice (cs := (o.enc)) (e := 50) rfl rfl (fun _ => by kernel_rfl) (fun b2 => ?_)
              refine ⟨⟨hg, alln⟩, ?_⟩
              refine g_s (i := 1) (listed' := #[true, true, true, true, false, false, false, false]) rfl (by kernel_rfl) (by kernel_rfl) rfl ?_
              refine s_call0 rfl Try.call27 rfl (ruleCopyF_w s1 l1 _ _ hz hfa (by omega)) ?_
              rintro _ m2 _ hm2 ⟨a, n, lr, rfl, hzr, hlr, hnn, rfl⟩
              replace hm := hm.trans hm2
              refine ⟨⟨hg.trans hm2, alln⟩, ?_⟩
              replace hg := hg.trans hm2
              replace hz := hz.mono hm2
              replace hzx := hzx.mono hm2
              clear hm2
              have hnl : n ≤ 1000000 := by have h3 := hzr.len; have h4 := congrArg List.length hlr; simp at h3 h4; omega
              refine g_s (i := 4) (listed' := #[true, true, true, true, true, false, false, false]) rfl (by kernel_rfl) (by kernel_rfl) rfl ?_
              refine s_appendf rfl rfl rfl tl33 zo50 tb50 hzr.fz hnn (Src.one' (i := 0) rfl rfl (one_own _)) (by decide) (by omega) (by unfold maxLen; omega) (fun a2 c2 => ?_)
              refine ⟨⟨hg, alln⟩, ?_⟩
              refine g_freezeVec (i := 0) rfl rfl (fun m3 hm3 hzv hnv => ?_)
              replace hm := hm.trans hm3
              replace hg := hg.trans hm3
              replace hz := hz.mono hm3
              replace hzx := hzx.mono hm3
              replace hzr := hzr.mono hm3
              clear hm3
              refine g_freezeVec (i := 2) rfl rfl (fun m3 hm3 hza hna => ?_)
              replace hm := hm.trans hm3
              replace hg := hg.trans hm3
              replace hz := hz.mono hm3
              replace hzx := hzx.mono hm3
              replace hzr := hzr.mono hm3
              replace hzv := hzv.mono hm3
              clear hm3
              refine g_del 0 rfl ?_
              refine g_del 0 rfl ?_
              refine g_del 0 rfl ?_
              have hzt := hzr.snoc hzv hza hoo hna
              refine g_s (i := 5) (listed' := #[true, true, true, true, true, true, false, false]) rfl (by kernel_rfl) (by kernel_rfl) rfl ?_
              refine s_call0 rfl Try.call28 rfl (ruleSort_w ⟨a2, n + 1, c2⟩ (lr ++ [(o.r, o.s)]) _ _ hzt (by have := congrArg List.length hlr; simp at this ⊢; omega)) ?_
              rintro _ m2 _ hm2 ⟨a3, n3, cap3, lo3, rfl, hn3, hlo3, hok3, rfl⟩
              replace hm := hm.trans hm2
              refine ⟨⟨hg.trans hm2, alln⟩, ?_⟩
              replace hg := hg.trans hm2
              replace hz := hz.mono hm2
              replace hzx := hzx.mono hm2
              replace hzr := hzr.mono hm2
              replace hzv := hzv.mono hm2
              replace hza := hza.mono hm2
              clear hm2
              refine g_y (i := 6) (listed' := #[true, true, true, true, true, true, true, false]) rfl (by kernel_rfl) (by kernel_rfl) (by kernel_rfl) (by kernel_rfl) rfl rfl hg alln (fun m' H' hm' hX' => y_assign rfl) ?_
              refine g_y (i := 7) (listed' := #[true, true, true, true, true, true, true, true]) rfl (by kernel_rfl) (by kernel_rfl) (by kernel_rfl) (by kernel_rfl) rfl rfl hg alln (fun m' H' hm' hX' => y_assign rfl) ?_
              refine g_done (by kernel_rfl) ?_
              clear hg hz_g hzx_g
              refine hK10 _ _ _ ?_
              clear hK10 K10
              refine c_ret ?_
              refine e_ret 0 hm (res_tmps rfl) ?_
              rw [addR_0 (by first | exact hown | (rw [hown]; simpa using hW)) (by first | (rw [hC]; rfl) | (rw [hC, ← hor, hO]; rfl)) (by first | (rw [hany]; rfl) | (rw [hany, List.length_map, ← hl]; simpa using hF))]
              refine ⟨a3, n3, n3, cap3, lo3, rfl, hn3, .inl rfl, ?_, hok3, rfl⟩
              rw [hlo3, List.map_append, hlr, ← hor]; rfl
      ·
        refine r_no' rfl rfl hC ?_
        refine r_no' rfl rfl hC ?_
        refine r_no' rfl rfl hC ?_
        refine r_y rfl rfl (y_pickf rfl hC rfl) ?_
        refine r_y rfl rfl (y_assign rfl) ?_
        refine r_nil ?_
        refine hK7 _ _ _ ?_
        clear hK7 K7
        refine c_iff rfl rfl ?_
        refine c_seq (fun K11 hK11 => ?_)
        refine c_region ?_
        refine r_y rfl rfl (y_move rfl) ?_
        refine r_y rfl rfl (y_iop rfl rfl rfl) ?_
        refine r_y rfl rfl (y_move rfl) ?_
        refine r_no' rfl rfl (by simp at hI ⊢; omega) ?_
        refine r_no' rfl rfl (by simp at hI ⊢; omega) ?_
        refine r_no' rfl rfl (by simp at hI ⊢; omega) ?_
        refine r_no' rfl rfl (by simp at hI ⊢; omega) ?_
        refine r_y rfl rfl (y_pickf rfl (by simp at hI ⊢; omega) rfl) ?_
        refine r_y rfl rfl (y_assign rfl) ?_
        refine r_nil ?_
        refine hK11 _ _ _ ?_
        clear hK11 K11
        refine c_iff rfl rfl ?_
        refine c_skip ?_
        refine hK4 _ _ _ ?_
        clear hK4 K4
        refine c_seq (fun K12 hK12 => ?_)
        refine c_draw ([]) (by kernel_rfl) (fun hg => ?_)
        have hz_g := hz
        have hzx_g := hzx
        refine g_y (i := 0) (listed' := #[true, false, false, false, false, false, false, false]) rfl (by kernel_rfl) (by kernel_rfl) (by kernel_rfl) (by kernel_rfl) rfl rfl hg alln (fun m' H' hm' hX' => y_move rfl) ?_
        refine g_each (rs := [1, 2]) (by kernel_rfl) (by simp) ⟨⟨_, rfl, rfl, ?_⟩, ⟨_, rfl, rfl, ?_⟩, trivial⟩
        ·
          refine s_call0 rfl Try.call27 rfl (ruleCopyF_w s1 l1 _ _ hz hfa (by omega)) ?_
          rintro _ m2 _ hm2 ⟨a, n, lr, rfl, hzr, hlr, hnn, rfl⟩
          replace hm := hm.trans hm2
          refine ⟨⟨hg.trans hm2, alln⟩, ?_⟩
          replace hg := hg.trans hm2
          replace hz := hz.mono hm2
          replace hzx := hzx.mono hm2
          clear hm2
          refine g_s (i := 2) (listed' := #[true, true, true, false, false, false, false, false]) rfl (by kernel_rfl) (by kernel_rfl) rfl ?_
          refine s_y rfl (y_load_a (cs := o.enc) rfl ts50 (RdA.blk (i := 0) rfl rfl)) ?_
          refine ⟨⟨hg, alln⟩, ?_⟩
          refine g_s (i := 3) (listed' := #[true, true, true, true, false, false, false, false]) rfl (by kernel_rfl) (by kernel_rfl) rfl ?_
          refine s_buildSlice (cs := (o.enc)) (e := 50) rfl rfl (fun _ => by kernel_rfl) (fun b3 => ?_)
          refine ⟨⟨hg, alln⟩, ?_⟩
          have hnl : n ≤ 1000000 := by have h3 := hzr.len; have h4 := congrArg List.length hlr; simp at h3 h4; omega
          refine g_s (i := 4) (listed' := #[true, true, true, true, true, false, false, false]) rfl (by kernel_rfl) (by kernel_rfl) rfl ?_
          refine s_appendf rfl rfl rfl tl33 zo50 tb50 hzr.fz hnn (Src.one' (i := 0) rfl rfl (one_own _)) (by decide) (by omega) (by unfold maxLen; omega) (fun a2 c2 => ?_)
          refine ⟨⟨hg, alln⟩, ?_⟩
          refine g_freezeVec (i := 0) rfl rfl (fun m3 hm3 hzv hnv => ?_)
          replace hm := hm.trans hm3
          replace hg := hg.trans hm3
          replace hz := hz.mono hm3
          replace hzx := hzx.mono hm3
          replace hzr := hzr.mono hm3
          clear hm3
          refine g_freezeVec (i := 2) rfl rfl (fun m3 hm3 hza hna => ?_)
          replace hm := hm.trans hm3
          replace hg := hg.trans hm3
          replace hz := hz.mono hm3
          replace hzx := hzx.mono hm3
          replace hzr := hzr.mono hm3
          replace hzv := hzv.mono hm3
          clear hm3
          refine g_del 0 rfl ?_
          refine g_del 0 rfl ?_
          refine g_del 0 rfl ?_
          have hzt := hzr.snoc hzv hza hoo hna
          refine g_s (i := 5) (listed' := #[true, true, true, true, true, true, false, false]) rfl (by kernel_rfl) (by kernel_rfl) rfl ?_
          refine s_call0 rfl Try.call28 rfl (ruleSort_w ⟨a2, n + 1, c2⟩ (lr ++ [(o.r, o.s)]) _ _ hzt (by have := congrArg List.length hlr; simp at this ⊢; omega)) ?_
          rintro _ m2 _ hm2 ⟨a3, n3, cap3, lo3, rfl, hn3, hlo3, hok3, rfl⟩
          replace hm := hm.trans hm2
          refine ⟨⟨hg.trans hm2, alln⟩, ?_⟩
          replace hg := hg.trans hm2
          replace hz := hz.mono hm2
          replace hzx := hzx.mono hm2
          replace hzr := hzr.mono hm2
          replace hzv := hzv.mono hm2
          replace hza := hza.mono hm2
          clear hm2
          refine g_y (i := 6) (listed' := #[true, true, true, true, true, true, true, false]) rfl (by kernel_rfl) (by kernel_rfl) (by kernel_rfl) (by kernel_rfl) rfl rfl hg alln (fun m' H' hm' hX' => y_assign rfl) ?_
          refine g_y (i := 7) (listed' := #[true, true, true, true, true, true, true, true]) rfl (by kernel_rfl) (by kernel_rfl) (by kernel_rfl) (by kernel_rfl) rfl rfl hg alln (fun m' H' hm' hX' => y_assign rfl) ?_
          refine g_done (by kernel_rfl) ?_
          clear hg hz_g hzx_g
          refine hK12 _ _ _ ?_
          clear hK12 K12
          refine c_ret ?_
          refine e_ret 0 hm (res_tmps rfl) ?_
          rw [addR_0 (by first | exact hown | (rw [hown]; simpa using hW)) (by first | (rw [hC]; rfl) | (rw [hC, ← hor, hO]; rfl)) (by first | (rw [hany]; rfl) | (rw [hany, List.length_map, ← hl]; simpa using hF))]
          refine ⟨a3, n3, n3, cap3, lo3, rfl, hn3, .inl rfl, ?_, hok3, rfl⟩
          rw [hlo3, List.map_append, hlr, ← hor]; rfl
        ·
          refine s_y rfl (y_load_a (cs := o.enc) rfl ts50 (RdA.blk (i := 0) rfl rfl)) ?_
          refine ⟨⟨hg, alln⟩, ?_⟩
          refine g_each (rs := [1, 3]) (by kernel_rfl) (by simp) ⟨⟨_, rfl, rfl, ?_⟩, ⟨_, rfl, rfl, ?_⟩, trivial⟩
          ·
            refine s_call0 rfl Try.call27 rfl (ruleCopyF_w s1 l1 _ _ hz hfa (by omega)) ?_
            rintro _ m2 _ hm2 ⟨a, n, lr, rfl, hzr, hlr, hnn, rfl⟩
            replace hm := hm.trans hm2
            refine ⟨⟨hg.trans hm2, alln⟩, ?_⟩
            replace hg := hg.trans hm2
            replace hz := hz.mono hm2
            replace hzx := hzx.mono hm2
            clear hm2
            refine g_s (i := 3) (listed' := #[true, true, true, true, false, false, false, false]) rfl (by kernel_rfl) (by kernel_rfl) rfl ?_
            refine s_buildSlice (cs := (o.enc)) (e := 50) rfl rfl (fun _ => by kernel_rfl) (fun b3 => ?_)
            refine ⟨⟨hg, alln⟩, ?_⟩
            have hnl : n ≤ 1000000 := by have h3 := hzr.len; have h4 := congrArg List.length hlr; simp at h3 h4; omega
            refine g_s (i := 4) (listed' := #[true, true, true, true, true, false, false, false]) rfl (by kernel_rfl) (by kernel_rfl) rfl ?_
            refine s_appendf rfl rfl rfl tl33 zo50 tb50 hzr.fz hnn (Src.one' (i := 0) rfl rfl (one_own _)) (by decide) (by omega) (by unfold maxLen; omega) (fun a2 c2 => ?_)
            refine ⟨⟨hg, alln⟩, ?_⟩
            refine g_freezeVec (i := 0) rfl rfl (fun m3 hm3 hzv hnv => ?_)
            replace hm := hm.trans hm3
            replace hg := hg.trans hm3
            replace hz := hz.mono hm3
            replace hzx := hzx.mono hm3
            replace hzr := hzr.mono hm3
            clear hm3
            refine g_freezeVec (i := 2) rfl rfl (fun m3 hm3 hza hna => ?_)
            replace hm := hm.trans hm3
            replace hg := hg.trans hm3
            replace hz := hz.mono hm3
            replace hzx := hzx.mono hm3
            replace hzr := hzr.mono hm3
            replace hzv := hzv.mono hm3
            clear hm3
            refine g_del 0 rfl ?_
            refine g_del 0 rfl ?_
            refine g_del 0 rfl ?_
            have hzt := hzr.snoc hzv hza hoo hna
            refine g_s (i := 5) (listed' := #[true, true, true, true, true, true, false, false]) rfl (by kernel_rfl) (by kernel_rfl) rfl ?_
            refine s_call0 rfl Try.call28 rfl (ruleSort_w ⟨a2, n + 1, c2⟩ (lr ++ [(o.r, o.s)]) _ _ hzt (by have := congrArg List.length hlr; simp at this ⊢; omega)) ?_
            rintro _ m2 _ hm2 ⟨a3, n3, cap3, lo3, rfl, hn3, hlo3, hok3, rfl⟩
            replace hm := hm.trans hm2
            refine ⟨⟨hg.trans hm2, alln⟩, ?_⟩
            replace hg := hg.trans hm2
            replace hz := hz.mono hm2
            replace hzx := hzx.mono hm2
            replace hzr := hzr.mono hm2
            replace hzv := hzv.mono hm2
            replace hza := hza.mono hm2
            clear hm2
            refine g_y (i := 6) (listed' := #[true, true, true, true, true, true, true, false]) rfl (by kernel_rfl) (by kernel_rfl) (by kernel_rfl) (by kernel_rfl) rfl rfl hg alln (fun m' H' hm' hX' => y_assign rfl) ?_
            refine g_y (i := 7) (listed' := #[true, true, true, true, true, true, true, true]) rfl (by kernel_rfl) (by kernel_rfl) (by kernel_rfl) (by kernel_rfl) rfl rfl hg alln (fun m' H' hm' hX' => y_assign rfl) ?_
            refine g_done (by kernel_rfl) ?_
            clear hg hz_g hzx_g
            refine hK12 _ _ _ ?_
            clear hK12 K12
            refine c_ret ?_
            refine e_ret 0 hm (res_tmps rfl) ?_
            rw [addR_0 (by first | exact hown | (rw [hown]; simpa using hW)) (by first | (rw [hC]; rfl) | (rw [hC, ← hor, hO]; rfl)) (by first | (rw [hany]; rfl) | (rw [hany, List.length_map, ← hl]; simpa using hF))]
            refine ⟨a3, n3, n3, cap3, lo3, rfl, hn3, .inl rfl, ?_, hok3, rfl⟩
            rw [hlo3, List.map_append, hlr, ← hor]; rfl
          ·
            refine s_buildSlice (cs := (o.enc)) (e := 50) rfl rfl (fun _ => by kernel_rfl) (fun b3 => ?_)
            refine ⟨⟨hg, alln⟩, ?_⟩
            refine g_s (i := 1) (listed' := #[true, true, true, true, false, false, false, false]) rfl (by kernel_rfl) (by kernel_rfl) rfl ?_
            refine s_call0 rfl Try.call27 rfl (ruleCopyF_w s1 l1 _ _ hz hfa (by omega)) ?_
            rintro _ m2 _ hm2 ⟨a, n, lr, rfl, hzr, hlr, hnn, rfl⟩
            replace hm := hm.trans hm2
            refine ⟨⟨hg.trans hm2, alln⟩, ?_⟩
            replace hg := hg.trans hm2
            replace hz := hz.mono hm2
            replace hzx := hzx.mono hm2
            clear hm2
            have hnl : n ≤ 1000000 := by have h3 := hzr.len; have h4 := congrArg List.length hlr; simp at h3 h4; omega
            refine g_s (i := 4) (listed' := #[true, true, true, true, true, false, false, false]) rfl (by kernel_rfl) (by kernel_rfl) rfl ?_
            refine s_appendf rfl rfl rfl tl33 zo50 tb50 hzr.fz hnn (Src.one' (i := 0) rfl rfl (one_own _)) (by decide) (by omega) (by unfold maxLen; omega) (fun a2 c2 => ?_)
            refine ⟨⟨hg, alln⟩, ?_⟩
            refine g_freezeVec (i := 0) rfl rfl (fun m3 hm3 hzv hnv => ?_)
            replace hm := hm.trans hm3
            replace hg := hg.trans hm3
            replace hz := hz.mono hm3
            replace hzx := hzx.mono hm3
            replace hzr := hzr.mono hm3
            clear hm3
            refine g_freezeVec (i := 2) rfl rfl (fun m3 hm3 hza hna => ?_)
            replace hm := hm.trans hm3
            replace hg := hg.trans hm3
            replace hz := hz.mono hm3
            replace hzx := hzx.mono hm3
            replace hzr := hzr.mono hm3
            replace hzv := hzv.mono hm3
            clear hm3
            refine g_del 0 rfl ?_
            refine g_del 0 rfl ?_
            refine g_del 0 rfl ?_
            have hzt := hzr.snoc hzv hza hoo hna
            refine g_s (i := 5) (listed' := #[true, true, true, true, true, true, false, false]) rfl (by kernel_rfl) (by kernel_rfl) rfl ?_
            refine s_call0 rfl Try.call28 rfl (ruleSort_w ⟨a2, n + 1, c2⟩ (lr ++ [(o.r, o.s)]) _ _ hzt (by have := congrArg List.length hlr; simp at this ⊢; omega)) ?_
            rintro _ m2 _ hm2 ⟨a3, n3, cap3, lo3, rfl, hn3, hlo3, hok3, rfl⟩
            replace hm := hm.trans hm2
            refine ⟨⟨hg.trans hm2, alln⟩, ?_⟩
            replace hg := hg.trans hm2
            replace hz := hz.mono hm2
            replace hzx := hzx.mono hm2
            replace hzr := hzr.mono hm2
            replace hzv := hzv.mono hm2
            replace hza := hza.mono hm2
            clear hm2
            refine g_y (i := 6) (listed' := #[true, true, true, true, true, true, true, false]) rfl (by kernel_rfl) (by kernel_rfl) (by kernel_rfl) (by kernel_rfl) rfl rfl hg alln (fun m' H' hm' hX' => y_assign rfl) ?_
            refine g_y (i := 7) (listed' := #[true, true, true, true, true, true, true, true]) rfl (by kernel_rfl) (by kernel_rfl) (by kernel_rfl) (by kernel_rfl) rfl rfl hg alln (fun m' H' hm' hX' => y_assign rfl) ?_
            refine g_done (by kernel_rfl) ?_
            clear hg hz_g hzx_g
            refine hK12 _ _ _ ?_
            clear hK12 K12
            refine c_ret ?_
            refine e_ret 0 hm (res_tmps rfl) ?_
            rw [addR_0 (by first | exact hown | (rw [hown]; simpa using hW)) (by first | (rw [hC]; rfl) | (rw [hC, ← hor, hO]; rfl)) (by first | (rw [hany]; rfl) | (rw [hany, List.length_map, ← hl]; simpa using hF))]
            refine ⟨a3, n3, n3, cap3, lo3, rfl, hn3, .inl rfl, ?_, hok3, rfl⟩
            rw [hlo3, List.map_append, hlr, ← hor]; rfl
  ·
    refine g_no (i := 3) (listed' := #[true, true, true, true, false, false, false, false, false, false, false, false, false]) rfl (by kernel_rfl) (by kernel_rfl) (by kernel_rfl) (by kernel_rfl) rfl rfl hI rfl hg (allc (List.Mem.tail _ (List.Mem.tail _ (List.Mem.head _))) alln) ?_
    refine g_no (i := 4) (listed' := #[true, true, true, true, true, false, false, false, false, false, false, false, false]) rfl (by kernel_rfl) (by kernel_rfl) (by kernel_rfl) (by kernel_rfl) rfl rfl hI rfl hg (allc (List.Mem.tail _ (List.Mem.tail _ (List.Mem.head _))) alln) ?_
    refine g_no (i := 5) (listed' := #[true, true, true, true, true, true, false, false, false, false, false, false, false]) rfl (by kernel_rfl) (by kernel_rfl) (by kernel_rfl) (by kernel_rfl) rfl rfl hI rfl hg (allc (List.Mem.tail _ (List.Mem.tail _ (List.Mem.head _))) alln) ?_
    refine g_no (i := 6) (listed' := #[true, true, true, true, true, true, true, false, false, false, false, false, false]) rfl (by kernel_rfl) (by kernel_rfl) (by kernel_rfl) (by kernel_rfl) rfl rfl hI rfl hg (allc (List.Mem.tail _ (List.Mem.tail _ (List.Mem.head _))) alln) ?_
    refine g_no (i := 7) (listed' := #[true, true, true, true, true, true, true, true, false, false, false, false, false]) rfl (by kernel_rfl) (by kernel_rfl) (by kernel_rfl) (by kernel_rfl) rfl rfl hI rfl hg (allc (List.Mem.tail _ (List.Mem.tail _ (List.Mem.head _))) alln) ?_
    refine g_no (i := 8) (listed' := #[true, true, true, true, true, true, true, true, true, false, false, false, false]) rfl (by kernel_rfl) (by kernel_rfl) (by kernel_rfl) (by kernel_rfl) rfl rfl hI rfl hg (allc (List.Mem.tail _ (List.Mem.tail _ (List.Mem.head _))) alln) ?_
    refine g_no (i := 9) (listed' := #[true, true, true, true, true, true, true, true, true, true, false, false, false]) rfl (by kernel_rfl) (by kernel_rfl) (by kernel_rfl) (by kernel_rfl) rfl rfl hI rfl hg (allc (List.Mem.tail _ (List.Mem.tail _ (List.Mem.head _))) alln) ?_
    refine g_no (i := 10) (listed' := #[true, true, true, true, true, true, true, true, true, true, true, false, false]) rfl (by kernel_rfl) (by kernel_rfl) (by kernel_rfl) (by kernel_rfl) rfl rfl hI rfl hg (allc (List.Mem.tail _ (List.Mem.tail _ (List.Mem.head _))) alln) ?_
    have hany : (l1.map (·.1)).any (fun z => ruleKey z (modRule x)) = false := by rw [← hor]; have h3 := idxF_nonneg (fun r => ruleKey r o.r) (l1.map (·.1)); rw [← h3]; simpa using hI
    have hown := any_owner_no (o := x.owner) hany
    refine g_y (i := 11) (listed' := #[true, true, true, true, true, true, true, true, true, true, true, true, false]) rfl (by kernel_rfl) (by kernel_rfl) (by kernel_rfl) (by kernel_rfl) rfl rfl hg (allc (List.Mem.tail _ (List.Mem.tail _ (List.Mem.head _))) alln) (fun m' H' hm' hX' => y_pickf rfl hI rfl) ?_
    refine g_y (i := 12) (listed' := #[true, true, true, true, true, true, true, true, true, true, true, true, true]) rfl (by kernel_rfl) (by kernel_rfl) (by kernel_rfl) (by kernel_rfl) rfl rfl hg (allc (List.Mem.tail _ (List.Mem.tail _ (List.Mem.head _))) alln) (fun m' H' hm' hX' => y_assign rfl) ?_
    refine g_done (by kernel_rfl) ?_
    clear hg hz_g hzx_g
    refine hK5 _ _ _ ?_
    clear hK5 K5
    refine c_iff rfl rfl ?_
    refine c_seq (fun K13 hK13 => ?_)
    refine c_region ?_
    refine r_y rfl rfl (y_fieldAddr rfl At.lit fo32_7 rfl) ?_
    refine r_y rfl rfl (y_load_s rfl ts4 (RdS.blk (i := 2) rfl rfl)) ?_
    refine r_y rfl rfl (y_move rfl) ?_
    refine r_split (j := 2) rfl (fun hC => ?_) (fun hC => ?_)
    ·
      refine r_yg rfl hC rfl (y_move rfl) ?_
      refine r_yg rfl hC rfl (y_move rfl) ?_
      refine r_sg rfl hC ?_
      refine s_call0 rfl Try.call133 rfl (hasRules_w s1 l1 131 [.pointer (some ⟨b1, 0, none⟩)] (fun r => !ruleKey r o.r && ruleOverlap r o.r) _ _ hz Try.call131 (fun m' z _ _ => add2_w z.1 o.r z.2 o.s b1 m' _)) ?_
      rintro _ m2 _ hm2 ⟨rfl, rfl⟩
      replace hm := hm.trans hm2
      replace hz := hz.mono hm2
      replace hzx := hzx.mono hm2
      clear hm2
      refine r_y rfl rfl (y_pickt rfl hC rfl) ?_
      refine r_y rfl rfl (y_assign rfl) ?_
      refine r_nil ?_
      refine hK13 _ _ _ ?_
      clear hK13 K13
      refine c_cond rfl (fun hO => ?_) (fun hO => ?_)
      ·
        refine c_seq (fun K14 hK14 => ?_)
        refine c_region ?_
        refine r_nilvec 50 32 ?_
        refine r_y rfl rfl (y_assign rfl) ?_
        refine r_y rfl rfl (y_assign rfl) ?_
        refine r_nil ?_
        refine hK14 _ _ _ ?_
        clear hK14 K14
        refine c_ret ?_
        refine e_retf [0, 1, 2, 3] 3 hm (res_tmps rfl) ?_
        rw [addR_6 (by first | exact hown | (rw [hown]; simpa using hW)) (by first | (rw [hC]; rfl) | (rw [hC, ← hor, hO]; rfl))]
        exact ⟨none, 0, 0, 0, [], rfl, rfl, .inl rfl, rfl, fun o ho => (by cases ho), rfl⟩
      ·
        refine c_seq (fun K15 hK15 => ?_)
        refine c_region ?_
        refine r_y rfl rfl (y_move rfl) ?_
        refine r_y rfl rfl (y_iop rfl rfl rfl) ?_
        refine r_y rfl rfl (y_move rfl) ?_
        refine r_yg rfl (by simp at hI ⊢; omega) rfl (y_move rfl) ?_
        refine r_yg rfl (by simp at hI ⊢; omega) rfl (y_len tl33 rfl) ?_
        refine r_yg rfl (by simp at hI ⊢; omega) rfl (y_move rfl) ?_
        refine r_yg rfl (by simp at hI ⊢; omega) rfl (y_iop rfl rfl rfl) ?_
        refine r_y rfl rfl (y_pickt rfl (by simp at hI ⊢; omega) rfl) ?_
        refine r_y rfl rfl (y_assign rfl) ?_
        refine r_nil ?_
        refine hK15 _ _ _ ?_
        clear hK15 K15
        refine c_cond rfl (fun hF => ?_) (fun hF => ?_)
        ·
          refine c_seq (fun K16 hK16 => ?_)
          refine c_region ?_
          refine r_nilvec 50 32 ?_
          refine r_y rfl rfl (y_assign rfl) ?_
          refine r_y rfl rfl (y_assign rfl) ?_
          refine r_nil ?_
          refine hK16 _ _ _ ?_
          clear hK16 K16
          refine c_ret ?_
          refine e_retf [0, 1, 2, 3] 3 hm (res_tmps rfl) ?_
          rw [addR_3 (by first | exact hown | (rw [hown]; simpa using hW)) (by first | (rw [hC]; rfl) | (rw [hC, ← hor, hO]; rfl)) (by first | (rw [hany]; rfl) | (rw [hany, List.length_map, ← hl]; simpa using hF))]
          exact ⟨none, 0, 0, 0, [], rfl, rfl, .inl rfl, rfl, fun o ho => (by cases ho), rfl⟩
        ·
          refine c_skip ?_
          refine hK4 _ _ _ ?_
          clear hK4 K4
          refine c_seq (fun K17 hK17 => ?_)
          refine c_draw ([]) (by kernel_rfl) (fun hg => ?_)
          have hz_g := hz
          have hzx_g := hzx
          refine g_y (i := 0) (listed' := #[true, false, false, false, false, false, false, false]) rfl (by kernel_rfl) (by kernel_rfl) (by kernel_rfl) (by kernel_rfl) rfl rfl hg alln (fun m' H' hm' hX' => y_move rfl) ?_
          refine g_each (rs := [1, 2]) (by kernel_rfl) (by simp) ⟨⟨_, rfl, rfl, ?_⟩, ⟨_, rfl, rfl, ?_⟩, trivial⟩
          ·
            refine s_call0 rfl Try.call27 rfl (ruleCopyF_w s1 l1 _ _ hz hfa (by omega)) ?_
            rintro _ m2 _ hm2 ⟨a, n, lr, rfl, hzr, hlr, hnn, rfl⟩
            replace hm := hm.trans hm2
            refine ⟨⟨hg.trans hm2, alln⟩, ?_⟩
            replace hg := hg.trans hm2
            replace hz := hz.mono hm2
            replace hzx := hzx.mono hm2
            clear hm2
            refine g_s (i := 2) (listed' := #[true, true, true, false, false, false, false, false]) rfl (by kernel_rfl) (by kernel_rfl) rfl ?_
            refine s_y rfl (y_load_a (cs := o.enc) rfl ts50 (RdA.blk (i := 0) rfl rfl)) ?_
            refine ⟨⟨hg, alln⟩, ?_⟩
            refine g_s (i := 3) (listed' := #[true, true, true, true, false, false, false, false]) rfl (by kernel_rfl) (by kernel_rfl) rfl ?_
            refine s_buildSlice (cs := (o.enc)) (e := 50) rfl rfl (fun _ => by kernel_rfl) (fun b4 => ?_)
            refine ⟨⟨hg, alln⟩, ?_⟩
            have hnl : n ≤ 1000000 := by have h3 := hzr.len; have h4 := congrArg List.length hlr; simp at h3 h4; omega
            refine g_s (i := 4) (listed' := #[true, true, true, true, true, false, false, false]) rfl (by kernel_rfl) (by kernel_rfl) rfl ?_
            refine s_appendf rfl rfl rfl tl33 zo50 tb50 hzr.fz hnn (Src.one' (i := 0) rfl rfl (one_own _)) (by decide) (by omega) (by unfold maxLen; omega) (fun a2 c2 => ?_)
            refine ⟨⟨hg, alln⟩, ?_⟩
            refine g_freezeVec (i := 0) rfl rfl (fun m3 hm3 hzv hnv => ?_)
            replace hm := hm.trans hm3
            replace hg := hg.trans hm3
            replace hz := hz.mono hm3
            replace hzx := hzx.mono hm3
            replace hzr := hzr.mono hm3
            clear hm3
            refine g_freezeVec (i := 2) rfl rfl (fun m3 hm3 hza hna => ?_)
            replace hm := hm.trans hm3
            replace hg := hg.trans hm3
            replace hz := hz.mono hm3
            replace hzx := hzx.mono hm3
            replace hzr := hzr.mono hm3
            replace hzv := hzv.mono hm3
            clear hm3
            refine g_del 0 rfl ?_
            refine g_del 0 rfl ?_
            refine g_del 0 rfl ?_
            have hzt := hzr.snoc hzv hza hoo hna
            refine g_s (i := 5) (listed' := #[true, true, true, true, true, true, false, false]) rfl (by kernel_rfl) (by kernel_rfl) rfl ?_
            refine s_call0 rfl Try.call28 rfl (ruleSort_w ⟨a2, n + 1, c2⟩ (lr ++ [(o.r, o.s)]) _ _ hzt (by have := congrArg List.length hlr; simp at this ⊢; omega)) ?_
            rintro _ m2 _ hm2 ⟨a3, n3, cap3, lo3, rfl, hn3, hlo3, hok3, rfl⟩
            replace hm := hm.trans hm2
            refine ⟨⟨hg.trans hm2, alln⟩, ?_⟩
            replace hg := hg.trans hm2
            replace hz := hz.mono hm2
            replace hzx := hzx.mono hm2
            replace hzr := hzr.mono hm2
            replace hzv := hzv.mono hm2
            replace hza := hza.mono hm2
            clear hm2
            refine g_y (i := 6) (listed' := #[true, true, true, true, true, true, true, false]) rfl (by kernel_rfl) (by kernel_rfl) (by kernel_rfl) (by kernel_rfl) rfl rfl hg alln (fun m' H' hm' hX' => y_assign rfl) ?_
            refine g_y (i := 7) (listed' := #[true, true, true, true, true, true, true, true]) rfl (by kernel_rfl) (by kernel_rfl) (by kernel_rfl) (by kernel_rfl) rfl rfl hg alln (fun m' H' hm' hX' => y_assign rfl) ?_
            refine g_done (by kernel_rfl) ?_
            clear hg hz_g hzx_g
            refine hK17 _ _ _ ?_
            clear hK17 K17
            refine c_ret ?_
            refine e_ret 0 hm (res_tmps rfl) ?_
            rw [addR_0 (by first | exact hown | (rw [hown]; simpa using hW)) (by first | (rw [hC]; rfl) | (rw [hC, ← hor, hO]; rfl)) (by first | (rw [hany]; rfl) | (rw [hany, List.length_map, ← hl]; simpa using hF))]
            refine ⟨a3, n3, n3, cap3, lo3, rfl, hn3, .inl rfl, ?_, hok3, rfl⟩
            rw [hlo3, List.map_append, hlr, ← hor]; rfl
          ·
            refine s_y rfl (y_load_a (cs := o.enc) rfl ts50 (RdA.blk (i := 0) rfl rfl)) ?_
            refine ⟨⟨hg, alln⟩, ?_⟩
            refine g_each (rs := [1, 3]) (by kernel_rfl) (by simp) ⟨⟨_, rfl, rfl, ?_⟩, ⟨_, rfl, rfl, ?_⟩, trivial⟩
            ·
              refine s_call0 rfl Try.call27 rfl (ruleCopyF_w s1 l1 _ _ hz hfa (by omega)) ?_
              rintro _ m2 _ hm2 ⟨a, n, lr, rfl, hzr, hlr, hnn, rfl⟩
              replace hm := hm.trans hm2
              refine ⟨⟨hg.trans hm2, alln⟩, ?_⟩
              replace hg := hg.trans hm2
              replace hz := hz.mono hm2
              replace hzx := hzx.mono hm2
              clear hm2
              refine g_s (i := 3) (listed' := #[true, true, true, true, false, false, false, false]) rfl (by kernel_rfl) (by kernel_rfl) rfl ?_
              refine s_buildSlice (cs := (o.enc)) (e := 50) rfl rfl (fun _ => by kernel_rfl) (fun b4 => ?_)
              refine ⟨⟨hg, alln⟩, ?_⟩
              have hnl : n ≤ 1000000 := by have h3 := hzr.len; have h4 := congrArg List.length hlr; simp at h3 h4; omega
              refine g_s (i := 4) (listed' := #[true, true, true, true, true, false, false, false]) rfl (by kernel_rfl) (by kernel_rfl) rfl ?_
              refine s_appendf rfl rfl rfl tl33 zo50 tb50 hzr.fz hnn (Src.one' (i := 0) rfl rfl (one_own _)) (by decide) (by omega) (by unfold maxLen; omega) (fun a2 c2 => ?_)
              refine ⟨⟨hg, alln⟩, ?_⟩
              refine g_freezeVec (i := 0) rfl rfl (fun m3 hm3 hzv hnv => ?_)
              replace hm := hm.trans hm3
              replace hg := hg.trans hm3
              replace hz := hz.mono hm3
              replace hzx := hzx.mono hm3
              replace hzr := hzr.mono hm3
              clear hm3
              refine g_freezeVec (i := 2) rfl rfl (fun m3 hm3 hza hna => ?_)
              replace hm := hm.trans hm3
              replace hg := hg.trans hm3
              replace hz := hz.mono hm3
              replace hzx := hzx.mono hm3
              replace hzr := hzr.mono hm3
              replace hzv := hzv.mono hm3
              clear hm3
              refine g_del 0 rfl ?_
              refine g_del 0 rfl ?_
              refine g_del 0 rfl ?_
              have hzt := hzr.snoc hzv hza hoo hna
              refine g_s (i := 5) (listed' := #[true, true, true, true, true, true, false, false]) rfl (by kernel_rfl) (by kernel_rfl) rfl ?_
              refine s_call0 rfl Try.call28 rfl (ruleSort_w ⟨a2, n + 1, c2⟩ (lr ++ [(o.r, o.s)]) _ _ hzt (by have := congrArg List.length hlr; simp at this ⊢; omega)) ?_
              rintro _ m2 _ hm2 ⟨a3, n3, cap3, lo3, rfl, hn3, hlo3, hok3, rfl⟩
              replace hm := hm.trans hm2
              refine ⟨⟨hg.trans hm2, alln⟩, ?_⟩
              replace hg := hg.trans hm2
              replace hz := hz.mono hm2
              replace hzx := hzx.mono hm2
              replace hzr := hzr.mono hm2
              replace hzv := hzv.mono hm2
              replace hza := hza.mono hm2
              clear hm2
              refine g_y (i := 6) (listed' := #[true, true, true, true, true, true, true, false]) rfl (by kernel_rfl) (by kernel_rfl) (by kernel_rfl) (by kernel_rfl) rfl rfl hg alln (fun m' H' hm' hX' => y_assign rfl) ?_
              refine g_y (i := 7) (listed' := #[true, true, true, true, true, true, true, true]) rfl (by kernel_rfl) (by kernel_rfl) (by kernel_rfl) (by kernel_rfl) rfl rfl hg alln (fun m' H' hm' hX' => y_assign rfl) ?_
              refine g_done (by kernel_rfl) ?_
              clear hg hz_g hzx_g
              refine hK17 _ _ _ ?_
              clear hK17 K17
              refine c_ret ?_
              refine e_ret 0 hm (res_tmps rfl) ?_
              rw [addR_0 (by first | exact hown | (rw [hown]; simpa using hW)) (by first | (rw [hC]; rfl) | (rw [hC, ← hor, hO]; rfl)) (by first | (rw [hany]; rfl) | (rw [hany, List.length_map, ← hl]; simpa using hF))]
              refine ⟨a3, n3, n3, cap3, lo3, rfl, hn3, .inl rfl, ?_, hok3, rfl⟩
              rw [hlo3, List.map_append, hlr, ← hor]; rfl
            ·
              refine s_buildSlice (cs := (o.enc)) (e := 50) rfl rfl (fun _ => by kernel_rfl) (fun b4 => ?_)
              refine ⟨⟨hg, alln⟩, ?_⟩
              refine g_s (i := 1) (listed' := #[true, true, true, true, false, false, false, false]) rfl (by kernel_rfl) (by kernel_rfl) rfl ?_
              refine s_call0 rfl Try.call27 rfl (ruleCopyF_w s1 l1 _ _ hz hfa (by omega)) ?_
              rintro _ m2 _ hm2 ⟨a, n, lr, rfl, hzr, hlr, hnn, rfl⟩
              replace hm := hm.trans hm2
              refine ⟨⟨hg.trans hm2, alln⟩, ?_⟩
              replace hg := hg.trans hm2
              replace hz := hz.mono hm2
              replace hzx := hzx.mono hm2
              clear hm2
              have hnl : n ≤ 1000000 := by have h3 := hzr.len; have h4 := congrArg List.length hlr; simp at h3 h4; omega
              refine g_s (i := 4) (listed' := #[true, true, true, true, true, false, false, false]) rfl (by kernel_rfl) (by kernel_rfl) rfl ?_
              refine s_appendf rfl rfl rfl tl33 zo50 tb50 hzr.fz hnn (Src.one' (i := 0) rfl rfl (one_own _)) (by decide) (by omega) (by unfold maxLen; omega) (fun a2 c2 => ?_)
              refine ⟨⟨hg, alln⟩, ?_⟩
              refine g_freezeVec (i := 0) rfl rfl (fun m3 hm3 hzv hnv => ?_)
              replace hm := hm.trans hm3
              replace hg := hg.trans hm3
              replace hz := hz.mono hm3
              replace hzx := hzx.mono hm3
              replace hzr := hzr.mono hm3
              clear hm3
              refine g_freezeVec (i := 2) rfl rfl (fun m3 hm3 hza hna => ?_)
              replace hm := hm.trans hm3
              replace hg := hg.trans hm3
              replace hz := hz.mono hm3
              replace hzx := hzx.mono hm3
              replace hzr := hzr.mono hm3
              replace hzv := hzv.mono hm3
              clear hm3
              refine g_del 0 rfl ?_
              refine g_del 0 rfl ?_
              refine g_del 0 rfl ?_
              have hzt := hzr.snoc hzv hza hoo hna
              refine g_s (i := 5) (listed' := #[true, true, true, true, true, true, false, false]) rfl (by kernel_rfl) (by kernel_rfl) rfl ?_
              refine s_call0 rfl Try.call28 rfl (ruleSort_w ⟨a2, n + 1, c2⟩ (lr ++ [(o.r, o.s)]) _ _ hzt (by have := congrArg List.length hlr; simp at this ⊢; omega)) ?_
              rintro _ m2 _ hm2 ⟨a3, n3, cap3, lo3, rfl, hn3, hlo3, hok3, rfl⟩
              replace hm := hm.trans hm2
              refine ⟨⟨hg.trans hm2, alln⟩, ?_⟩
              replace hg := hg.trans hm2
              replace hz := hz.mono hm2
              replace hzx := hzx.mono hm2
              replace hzr := hzr.mono hm2
              replace hzv := hzv.mono hm2
              replace hza := hza.mono hm2
              clear hm2
              refine g_y (i := 6) (listed' := #[true, true, true, true, true, true, true, false]) rfl (by kernel_rfl) (by kernel_rfl) (by kernel_rfl) (by kernel_rfl) rfl rfl hg alln (fun m' H' hm' hX' => y_assign rfl) ?_
              refine g_y (i := 7) (listed' := #[true, true, true, true, true, true, true, true]) rfl (by kernel_rfl) (by kernel_rfl) (by kernel_rfl) (by kernel_rfl) rfl rfl hg alln (fun m' H' hm' hX' => y_assign rfl) ?_
              refine g_done (by kernel_rfl) ?_
              clear hg hz_g hzx_g
              refine hK17 _ _ _ ?_
              clear hK17 K17
              refine c_ret ?_
              refine e_ret 0 hm (res_tmps rfl) ?_
              rw [addR_0 (by first | exact hown | (rw [hown]; simpa using hW)) (by first | (rw [hC]; rfl) | (rw [hC, ← hor, hO]; rfl)) (by first | (rw [hany]; rfl) | (rw [hany, List.length_map, ← hl]; simpa using hF))]
              refine ⟨a3, n3, n3, cap3, lo3, rfl, hn3, .inl rfl, ?_, hok3, rfl⟩
              rw [hlo3, List.map_append, hlr, ← hor]; rfl
    ·
      refine r_no' rfl rfl hC ?_
      refine r_no' rfl rfl hC ?_
      refine r_no' rfl rfl hC ?_
      refine r_y rfl rfl (y_pickf rfl hC rfl) ?_
      refine r_y rfl rfl (y_assign rfl) ?_
      refine r_nil ?_
      refine hK13 _ _ _ ?_
      clear hK13 K13
      refine c_iff rfl rfl ?_
      refine c_seq (fun K18 hK18 => ?_)
      refine c_region ?_
      refine r_y rfl rfl (y_move rfl) ?_
      refine r_y rfl rfl (y_iop rfl rfl rfl) ?_
      refine r_y rfl rfl (y_move rfl) ?_
      refine r_yg rfl (by simp at hI ⊢; omega) rfl (y_move rfl) ?_
      refine r_yg rfl (by simp at hI ⊢; omega) rfl (y_len tl33 rfl) ?_
      refine r_yg rfl (by simp at hI ⊢; omega) rfl (y_move rfl) ?_
      refine r_yg rfl (by simp at hI ⊢; omega) rfl (y_iop rfl rfl rfl) ?_
      refine r_y rfl rfl (y_pickt rfl (by simp at hI ⊢; omega) rfl) ?_
      refine r_y rfl rfl (y_assign rfl) ?_
      refine r_nil ?_
      refine hK18 _ _ _ ?_
      clear hK18 K18
      refine c_cond rfl (fun hF => ?_) (fun hF => ?_)
      ·
        refine c_seq (fun K19 hK19 => ?_)
        refine c_region ?_
        refine r_nilvec 50 32 ?_
        refine r_y rfl rfl (y_assign rfl) ?_
        refine r_y rfl rfl (y_assign rfl) ?_
        refine r_nil ?_
        refine hK19 _ _ _ ?_
        clear hK19 K19
        refine c_ret ?_
        refine e_retf [0, 1, 2, 3] 3 hm (res_tmps rfl) ?_
        rw [addR_3 (by first | exact hown | (rw [hown]; simpa using hW)) (by first | (rw [hC]; rfl) | (rw [hC, ← hor, hO]; rfl)) (by first | (rw [hany]; rfl) | (rw [hany, List.length_map, ← hl]; simpa using hF))]
        exact ⟨none, 0, 0, 0, [], rfl, rfl, .inl rfl, rfl, fun o ho => (by cases ho), rfl⟩
      ·
        refine c_skip ?_
        refine hK4 _ _ _ ?_
        clear hK4 K4
        refine c_seq (fun K20 hK20 => ?_)
        refine c_draw ([]) (by kernel_rfl) (fun hg => ?_)
        have hz_g := hz
        have hzx_g := hzx
        refine g_y (i := 0) (listed' := #[true, false, false, false, false, false, false, false]) rfl (by kernel_rfl) (by kernel_rfl) (by kernel_rfl) (by kernel_rfl) rfl rfl hg alln (fun m' H' hm' hX' => y_move rfl) ?_
        refine g_each (rs := [1, 2]) (by kernel_rfl) (by simp) ⟨⟨_, rfl, rfl, ?_⟩, ⟨_, rfl, rfl, ?_⟩, trivial⟩
        ·
          refine s_call0 rfl Try.call27 rfl (ruleCopyF_w s1 l1 _ _ hz hfa (by omega)) ?_
          rintro _ m2 _ hm2 ⟨a, n, lr, rfl, hzr, hlr, hnn, rfl⟩
          replace hm := hm.trans hm2
          refine ⟨⟨hg.trans hm2, alln⟩, ?_⟩
          replace hg := hg.trans hm2
          replace hz := hz.mono hm2
          replace hzx := hzx.mono hm2
          clear hm2
          refine g_s (i := 2) (listed' := #[true, true, true, false, false, false, false, false]) rfl (by kernel_rfl) (by kernel_rfl) rfl ?_
          refine s_y rfl (y_load_a (cs := o.enc) rfl ts50 (RdA.blk (i := 0) rfl rfl)) ?_
          refine ⟨⟨hg, alln⟩, ?_⟩
          refine g_s (i := 3) (listed' := #[true, true, true, true, false, false, false, false]) rfl (by kernel_rfl) (by kernel_rfl) rfl ?_
          refine s_buildSlice (cs := (o.enc)) (e := 50) rfl rfl (fun _ => by kernel_rfl) (fun b5 => ?_)
          refine ⟨⟨hg, alln⟩, ?_⟩
          have hnl : n ≤ 1000000 := by have h3 := hzr.len; have h4 := congrArg List.length hlr; simp at h3 h4; omega
          refine g_s (i := 4) (listed' := #[true, true, true, true, true, false, false, false]) rfl (by kernel_rfl) (by kernel_rfl) rfl ?_
          refine s_appendf rfl rfl rfl tl33 zo50 tb50 hzr.fz hnn (Src.one' (i := 0) rfl rfl (one_own _)) (by decide) (by omega) (by unfold maxLen; omega) (fun a2 c2 => ?_)
          refine ⟨⟨hg, alln⟩, ?_⟩
          refine g_freezeVec (i := 0) rfl rfl (fun m3 hm3 hzv hnv => ?_)
          replace hm := hm.trans hm3
          replace hg := hg.trans hm3
          replace hz := hz.mono hm3
          replace hzx := hzx.mono hm3
          replace hzr := hzr.mono hm3
          clear hm3
          refine g_freezeVec (i := 2) rfl rfl (fun m3 hm3 hza hna => ?_)
          replace hm := hm.trans hm3
          replace hg := hg.trans hm3
          replace hz := hz.mono hm3
          replace hzx := hzx.mono hm3
          replace hzr := hzr.mono hm3
          replace hzv := hzv.mono hm3
          clear hm3
          refine g_del 0 rfl ?_
          refine g_del 0 rfl ?_
          refine g_del 0 rfl ?_
          have hzt := hzr.snoc hzv hza hoo hna
          refine g_s (i := 5) (listed' := #[true, true, true, true, true, true, false, false]) rfl (by kernel_rfl) (by kernel_rfl) rfl ?_
          refine s_call0 rfl Try.call28 rfl (ruleSort_w ⟨a2, n + 1, c2⟩ (lr ++ [(o.r, o.s)]) _ _ hzt (by have := congrArg List.length hlr; simp at this ⊢; omega)) ?_
          rintro _ m2 _ hm2 ⟨a3, n3, cap3, lo3, rfl, hn3, hlo3, hok3, rfl⟩
          replace hm := hm.trans hm2
          refine ⟨⟨hg.trans hm2, alln⟩, ?_⟩
          replace hg := hg.trans hm2
          replace hz := hz.mono hm2
          replace hzx := hzx.mono hm2
          replace hzr := hzr.mono hm2
          replace hzv := hzv.mono hm2
          replace hza := hza.mono hm2
          clear hm2
          refine g_y (i := 6) (listed' := #[true, true, true, true, true, true, true, false]) rfl (by kernel_rfl) (by kernel_rfl) (by kernel_rfl) (by kernel_rfl) rfl rfl hg alln (fun m' H' hm' hX' => y_assign rfl) ?_
          refine g_y (i := 7) (listed' := #[true, true, true, true, true, true, true, true]) rfl (by kernel_rfl) (by kernel_rfl) (by kernel_rfl) (by kernel_rfl) rfl rfl hg alln (fun m' H' hm' hX' => y_assign rfl) ?_
          refine g_done (by kernel_rfl) ?_
          clear hg hz_g hzx_g
          refine hK20 _ _ _ ?_
          clear hK20 K20
          refine c_ret ?_
          refine e_ret 0 hm (res_tmps rfl) ?_
          rw [addR_0 (by first | exact hown | (rw [hown]; simpa using hW)) (by first | (rw [hC]; rfl) | (rw [hC, ← hor, hO]; rfl)) (by first | (rw [hany]; rfl) | (rw [hany, List.length_map, ← hl]; simpa using hF))]
          refine ⟨a3, n3, n3, cap3, lo3, rfl, hn3, .inl rfl, ?_, hok3, rfl⟩
          rw [hlo3, List.map_append, hlr, ← hor]; rfl
        ·
          refine s_y rfl (y_load_a (cs := o.enc) rfl ts50 (RdA.blk (i := 0) rfl rfl)) ?_
          refine ⟨⟨hg, alln⟩, ?_⟩
          refine g_each (rs := [1, 3]) (by kernel_rfl) (by simp) ⟨⟨_, rfl, rfl, ?_⟩, ⟨_, rfl, rfl, ?_⟩, trivial⟩
          ·
            refine s_call0 rfl Try.call27 rfl (ruleCopyF_w s1 l1 _ _ hz hfa (by omega)) ?_
            rintro _ m2 _ hm2 ⟨a, n, lr, rfl, hzr, hlr, hnn, rfl⟩
            replace hm := hm.trans hm2
            refine ⟨⟨hg.trans hm2, alln⟩, ?_⟩
            replace hg := hg.trans hm2
            replace hz := hz.mono hm2
            replace hzx := hzx.mono hm2
            clear hm2
            refine g_s (i := 3) (listed' := #[true, true, true, true, false, false, false, false]) rfl (by kernel_rfl) (by kernel_rfl) rfl ?_
            refine s_buildSlice (cs := (o.enc)) (e := 50) rfl rfl (fun _ => by kernel_rfl) (fun b5 => ?_)
            refine ⟨⟨hg, alln⟩, ?_⟩
            have hnl : n ≤ 1000000 := by have h3 := hzr.len; have h4 := congrArg List.length hlr; simp at h3 h4; omega
            refine g_s (i := 4) (listed' := #[true, true, true, true, true, false, false, false]) rfl (by kernel_rfl) (by kernel_rfl) rfl ?_
            refine s_appendf rfl rfl rfl tl33 zo50 tb50 hzr.fz hnn (Src.one' (i := 0) rfl rfl (one_own _)) (by decide) (by omega) (by unfold maxLen; omega) (fun a2 c2 => ?_)
            refine ⟨⟨hg, alln⟩, ?_⟩
            refine g_freezeVec (i := 0) rfl rfl (fun m3 hm3 hzv hnv => ?_)
            replace hm := hm.trans hm3
            replace hg := hg.trans hm3
            replace hz := hz.mono hm3
            replace hzx := hzx.mono hm3
            replace hzr := hzr.mono hm3
            clear hm3
            refine g_freezeVec (i := 2) rfl rfl (fun m3 hm3 hza hna => ?_)
            replace hm := hm.trans hm3
            replace hg := hg.trans hm3
            replace hz := hz.mono hm3
            replace hzx := hzx.mono hm3
            replace hzr := hzr.mono hm3
            replace hzv := hzv.mono hm3
            clear hm3
            refine g_del 0 rfl ?_
            refine g_del 0 rfl ?_
            refine g_del 0 rfl ?_
            have hzt := hzr.snoc hzv hza hoo hna
            refine g_s (i := 5) (listed' := #[true, true, true, true, true, true, false, false]) rfl (by kernel_rfl) (by kernel_rfl) rfl ?_
            refine s_call0 rfl Try.call28 rfl (ruleSort_w ⟨a2, n + 1, c2⟩ (lr ++ [(o.r, o.s)]) _ _ hzt (by have := congrArg List.length hlr; simp at this ⊢; omega)) ?_
            rintro _ m2 _ hm2 ⟨a3, n3, cap3, lo3, rfl, hn3, hlo3, hok3, rfl⟩
            replace hm := hm.trans hm2
            refine ⟨⟨hg.trans hm2, alln⟩, ?_⟩
            replace hg := hg.trans hm2
            replace hz := hz.mono hm2
            replace hzx := hzx.mono hm2
            replace hzr := hzr.mono hm2
            replace hzv := hzv.mono hm2
            replace hza := hza.mono hm2
            clear hm2
            refine g_y (i := 6) (listed' := #[true, true, true, true, true, true, true, false]) rfl (by kernel_rfl) (by kernel_rfl) (by kernel_rfl) (by kernel_rfl) rfl rfl hg alln (fun m' H' hm' hX' => y_assign rfl) ?_
            refine g_y (i := 7) (listed' := #[true, true, true, true, true, true, true, true]) rfl (by kernel_rfl) (by kernel_rfl) (by kernel_rfl) (by kernel_rfl) rfl rfl hg alln (fun m' H' hm' hX' => y_assign rfl) ?_
            refine g_done (by kernel_rfl) ?_
            clear hg hz_g hzx_g
            refine hK20 _ _ _ ?_
            clear hK20 K20
            refine c_ret ?_
            refine e_ret 0 hm (res_tmps rfl) ?_
            rw [addR_0 (by first | exact hown | (rw [hown]; simpa using hW)) (by first | (rw [hC]; rfl) | (rw [hC, ← hor, hO]; rfl)) (by first | (rw [hany]; rfl) | (rw [hany, List.length_map, ← hl]; simpa using hF))]
            refine ⟨a3, n3, n3, cap3, lo3, rfl, hn3, .inl rfl, ?_, hok3, rfl⟩
            rw [hlo3, List.map_append, hlr, ← hor]; rfl
          ·
            refine s_buildSlice (cs := (o.enc)) (e := 50) rfl rfl (fun _ => by kernel_rfl) (fun b5 => ?_)
            refine ⟨⟨hg, alln⟩, ?_⟩
            refine g_s (i := 1) (listed' := #[true, true, true, true, false, false, false, false]) rfl (by kernel_rfl) (by kernel_rfl) rfl ?_
            refine s_call0 rfl Try.call27 rfl (ruleCopyF_w s1 l1 _ _ hz hfa (by omega)) ?_
            rintro _ m2 _ hm2 ⟨a, n, lr, rfl, hzr, hlr, hnn, rfl⟩
            replace hm := hm.trans hm2
            refine ⟨⟨hg.trans hm2, alln⟩, ?_⟩
            replace hg := hg.trans hm2
            replace hz := hz.mono hm2
            replace hzx := hzx.mono hm2
            clear hm2
            have hnl : n ≤ 1000000 := by have h3 := hzr.len; have h4 := congrArg List.length hlr; simp at h3 h4; omega
            refine g_s (i := 4) (listed' := #[true, true, true, true, true, false, false, false]) rfl (by kernel_rfl) (by kernel_rfl) rfl ?_
            refine s_appendf rfl rfl rfl tl33 zo50 tb50 hzr.fz hnn (Src.one' (i := 0) rfl rfl (one_own _)) (by decide) (by omega) (by unfold maxLen; omega) (fun a2 c2 => ?_)
            refine ⟨⟨hg, alln⟩, ?_⟩
            refine g_freezeVec (i := 0) rfl rfl (fun m3 hm3 hzv hnv => ?_)
            replace hm := hm.trans hm3
            replace hg := hg.trans hm3
            replace hz := hz.mono hm3
            replace hzx := hzx.mono hm3
            replace hzr := hzr.mono hm3
            clear hm3
            refine g_freezeVec (i := 2) rfl rfl (fun m3 hm3 hza hna => ?_)
            replace hm := hm.trans hm3
            replace hg := hg.trans hm3
            replace hz := hz.mono hm3
            replace hzx := hzx.mono hm3
            replace hzr := hzr.mono hm3
            replace hzv := hzv.mono hm3
            clear hm3
            refine g_del 0 rfl ?_
            refine g_del 0 rfl ?_
            refine g_del 0 rfl ?_
            have hzt := hzr.snoc hzv hza hoo hna
            refine g_s (i := 5) (listed' := #[true, true, true, true, true, true, false, false]) rfl (by kernel_rfl) (by kernel_rfl) rfl ?_
            refine s_call0 rfl Try.call28 rfl (ruleSort_w ⟨a2, n + 1, c2⟩ (lr ++ [(o.r, o.s)]) _ _ hzt (by have := congrArg List.length hlr; simp at this ⊢; omega)) ?_
            rintro _ m2 _ hm2 ⟨a3, n3, cap3, lo3, rfl, hn3, hlo3, hok3, rfl⟩
            replace hm := hm.trans hm2
            refine ⟨⟨hg.trans hm2, alln⟩, ?_⟩
            replace hg := hg.trans hm2
            replace hz := hz.mono hm2
            replace hzx := hzx.mono hm2
            replace hzr := hzr.mono hm2
            replace hzv := hzv.mono hm2
            replace hza := hza.mono hm2
            clear hm2
            refine g_y (i := 6) (listed' := #[true, true, true, true, true, true, true, false]) rfl (by kernel_rfl) (by kernel_rfl) (by kernel_rfl) (by kernel_rfl) rfl rfl hg alln (fun m' H' hm' hX' => y_assign rfl) ?_
            refine g_y (i := 7) (listed' := #[true, true, true, true, true, true, true, true]) rfl (by kernel_rfl) (by kernel_rfl) (by kernel_rfl) (by kernel_rfl) rfl rfl hg alln (fun m' H' hm' hX' => y_assign rfl) ?_
            refine g_done (by kernel_rfl) ?_
            clear hg hz_g hzx_g
            refine hK20 _ _ _ ?_
            clear hK20 K20
            refine c_ret ?_
            refine e_ret 0 hm (res_tmps rfl) ?_
            rw [addR_0 (by first | exact hown | (rw [hown]; simpa using hW)) (by first | (rw [hC]; rfl) | (rw [hC, ← hor, hO]; rfl)) (by first | (rw [hany]; rfl) | (rw [hany, List.length_map, ← hl]; simpa using hF))]
            refine ⟨a3, n3, n3, cap3, lo3, rfl, hn3, .inl rfl, ?_, hok3, rfl⟩
            rw [hlo3, List.map_append, hlr, ← hor]; rfl
end Go.Aw
namespace Go.Aw
open Go
theorem perm_mid2 (v c b : Item) (A H : Hp) : (v :: c :: (A ++ (b :: H))).Perm (b :: c :: v :: (A ++ H)) := by
  refine (List.Perm.cons _ (List.Perm.cons _ List.perm_middle)).trans ?_
  refine (List.Perm.swap ..).trans ?_
  refine (List.Perm.cons _ (List.Perm.swap ..)).trans ?_
  exact List.Perm.swap ..
theorem perm_front3 (x a b c : Item) (X : Hp) : (a :: b :: c :: (x :: X)).Perm (x :: a :: b :: c :: X) :=
  (List.perm_middle (l₁ := [a, b, c]) (l₂ := X) (a := x))
theorem perm_pick3 {lo : List OwnR} {i : Nat} {o : OwnR} (ho : lo[i]? = some o) (a b c : Item) (ol : List OwnR) (H : Hp) :
    (a :: b :: c :: (itsO ol ++ (itsO (lo.drop i) ++ H))).Perm (o.it :: a :: b :: c :: (itsO ol ++ (itsO (lo.drop (i + 1)) ++ H))) := by
  have hlt := (List.getElem?_eq_some_iff.1 ho).1
  have he : lo.drop i = o :: lo.drop (i + 1) := by rw [List.drop_eq_getElem_cons hlt, (List.getElem?_eq_some_iff.1 ho).2]
  rw [he]
  have h1 : (itsO ol ++ (itsO (o :: lo.drop (i + 1)) ++ H)).Perm (o.it :: (itsO ol ++ (itsO (lo.drop (i + 1)) ++ H))) := List.perm_middle
  exact (((h1.cons _).cons _).cons _).trans (perm_front3 _ _ _ _ _)
theorem perm_put3 (a b c : Item) (ol : List OwnR) (o : OwnR) (X : Hp) : (o.it :: a :: b :: c :: (itsO ol ++ X)).Perm (a :: b :: c :: (itsO (ol ++ [o]) ++ X)) := by
  refine (perm_front3 _ _ _ _ _).symm.trans (.cons _ (.cons _ (.cons _ ?_)))
  rw [itsO_snoc, List.append_assoc]
  exact List.perm_middle.symm
theorem filterMap_take_succ {α β : Type} {f : α → Option β} {l : List α} {i : Nat} {x : α} (h : l[i]? = some x) : (l.take (i + 1)).filterMap f = (l.take i).filterMap f ++ (match f x with | some y => [y] | none => []) := by
  rw [List.take_add_one, h, List.filterMap_append]
  congr 1
  cases hf : f x <;> simp [List.filterMap_cons, hf]
theorem modR1_keep {x : ModD} {r : RuleD} (h : modTouches x r = false) : modR1 x r = some r := by unfold modR1; rw [h, if_neg (by decide)]
theorem modR1_del {x : ModD} {r : RuleD} (h : modTouches x r = true) (k : x.kind = 3 ∨ x.kind = 5) : modR1 x r = none := by unfold modR1; rw [if_pos h, if_pos k]
theorem modR1_set {x : ModD} {r : RuleD} (h : modTouches x r = true) (k : ¬ (x.kind = 3 ∨ x.kind = 5)) : modR1 x r = some { r with acts := x.acts } := by unfold modR1; rw [if_pos h, if_neg k]
theorem applyR_bad {l : List RuleD} {x : ModD} {room : Int} (h : (ruleTable l && modSound x) = false) : applyR l x room = ([], 2) := by unfold applyR; rw [h]; rfl
theorem applyR_add {l : List RuleD} {x : ModD} {room : Int} (h : (ruleTable l && modSound x) = true) (k : x.kind = 1) : applyR l x room = addR l x room := by unfold applyR; rw [h, if_neg (by decide), if_pos k]
theorem applyR_map {l : List RuleD} {x : ModD} {room : Int} (h : (ruleTable l && modSound x) = true) (k : x.kind ≠ 1) : applyR l x room = (l.filterMap (modR1 x), 0) := by unfold applyR; rw [h, if_neg (by decide), if_neg k]
end Go.Aw
namespace Go.Aw
open Go Go.Proofs
set_option maxRecDepth 100000 in
theorem apply_w (s1 : Sl) (l1 : List (RuleD × Sl)) (x : ModD) (sm : Sl) (room : Int) (m : Snap) (H : Hp) (hz : FzR m s1 l1) (hfa : ∀ p ∈ l1, p.1.acts.length ≤ 4398046511103) (hfit : l1.length < 1000000) (hzx : FzA m sm x.acts) (hokx : sm.ok) (hfx : x.acts.length ≤ 4398046511103) : Fn Try.prog 33 [s1.v, .agg (encMod x sm).toArray, .int .i64 room] m H (fun v m' H' => ∃ (a : Option Addr) (n c cap : Nat) (lo : List OwnR), v = .tuple [.slice a n c, i64 (applyR (l1.map (·.1)) x room).2].toArray ∧ n = lo.length ∧ (c = n ∨ c = cap) ∧ rulesO lo = (applyR (l1.map (·.1)) x room).1 ∧ (∀ o ∈ lo, o.ok) ∧ H' = rowO a n cap lo :: (itsO lo ++ H)) := by
  have hl := hz.len
  have hm : m.le m := Snap.le.refl m
  refine fn_end Try.func33 rfl rfl rfl ?_
  refine c_seq (fun K0 hK0 => ?_)
  refine c_region ?_
  refine r_s rfl ?_
  refine s_box_a rfl rfl (fun b0 => ?_)
  refine r_y rfl rfl (y_assign rfl) ?_
  refine r_y rfl rfl (y_assign rfl) ?_
  refine r_nil ?_
  refine hK0 _ _ _ ?_
  clear hK0 K0
  refine c_seq (fun K1 hK1 => ?_)
  refine c_seq (fun K2 hK2 => ?_)
  refine c_region ?_
  refine r_y rfl rfl (y_move rfl) ?_
  refine r_s rfl ?_
  refine s_call0 rfl Try.call80 rfl (ruleTable_ok s1 l1 _ _ hz) ?_
  rintro _ m2 _ hm2 ⟨rfl, rfl⟩
  replace hm := hm.trans hm2
  replace hz := hz.mono hm2
  replace hzx := hzx.mono hm2
  clear hm2
  refine r_y rfl rfl (y_not rfl) ?_
  refine r_y rfl rfl (y_move rfl) ?_
  refine r_split (j := 3) rfl (fun hM => ?_) (fun hM => ?_)
  ·
    refine r_no' rfl rfl hM ?_
    refine r_no' rfl rfl hM ?_
    refine r_no' rfl rfl hM ?_
    refine r_y rfl rfl (y_pickt rfl hM rfl) ?_
    refine r_nil ?_
    refine hK2 _ _ _ ?_
    clear hK2 K2
    refine c_ift rfl rfl ?_
    refine c_seq (fun K3 hK3 => ?_)
    refine c_region ?_
    refine r_nilvec 50 32 ?_
    refine r_y rfl rfl (y_assign rfl) ?_
    refine r_y rfl rfl (y_assign rfl) ?_
    refine r_nil ?_
    refine hK3 _ _ _ ?_
    clear hK3 K3
    refine c_ret ?_
    refine e_retf [0, 1] 1 hm (res_tmps rfl) ?_
    rw [applyR_bad (by first | (simp at hM; rw [hM]; rfl) | (simp at hM hS0; rw [hM, hS0]; rfl))]
    exact ⟨none, 0, 0, 0, [], rfl, rfl, .inl rfl, rfl, fun o ho => (by cases ho), rfl⟩
  ·
    refine r_yg rfl hM rfl (y_load_a (cs := encMod x sm) rfl ts32 (RdA.blk (i := 0) rfl rfl)) ?_
    refine r_sg rfl hM ?_
    refine s_call0 rfl Try.call36 rfl (modSound_ok x sm _ _ hzx) ?_
    rintro _ m2 _ hm2 ⟨rfl, rfl⟩
    replace hm := hm.trans hm2
    replace hz := hz.mono hm2
    replace hzx := hzx.mono hm2
    clear hm2
    refine r_yg rfl hM rfl (y_not rfl) ?_
    refine r_y rfl rfl (y_pickf rfl hM rfl) ?_
    refine r_nil ?_
    refine hK2 _ _ _ ?_
    clear hK2 K2
    refine c_cond rfl (fun hS0 => ?_) (fun hS0 => ?_)
    ·
      refine c_seq (fun K4 hK4 => ?_)
      refine c_region ?_
      refine r_nilvec 50 32 ?_
      refine r_y rfl rfl (y_assign rfl) ?_
      refine r_y rfl rfl (y_assign rfl) ?_
      refine r_nil ?_
      refine hK4 _ _ _ ?_
      clear hK4 K4
      refine c_ret ?_
      refine e_retf [0, 1] 1 hm (res_tmps rfl) ?_
      rw [applyR_bad (by first | (simp at hM; rw [hM]; rfl) | (simp at hM hS0; rw [hM, hS0]; rfl))]
      exact ⟨none, 0, 0, 0, [], rfl, rfl, .inl rfl, rfl, fun o ho => (by cases ho), rfl⟩
    ·
      have hTS : (ruleTable (l1.map (·.1)) && modSound x) = true := by first | (simp_all; done) | (rw [Bool.and_eq_true]; simp at hM hS0 ⊢; exact ⟨hM, hS0⟩)
      have hsrt : Srt (l1.map (·.1)) := (table_iff.1 (Bool.and_eq_true .. ▸ hTS : _ ∧ _).1).2
      refine c_skip ?_
      refine hK1 _ _ _ ?_
      clear hK1 K1
      refine c_seq (fun K5 hK5 => ?_)
      refine c_seq (fun K6 hK6 => ?_)
      refine c_region ?_
      refine r_y rfl rfl (y_fieldAddr rfl At.lit fo32_0 rfl) ?_
      refine r_y rfl rfl (y_load_s rfl ts3 (RdS.blk (i := 0) rfl rfl)) ?_
      refine r_y rfl rfl (y_iop rfl rfl rfl) ?_
      refine r_nil ?_
      refine hK6 _ _ _ ?_
      clear hK6 K6
      refine c_cond rfl (fun hK1 => ?_) (fun hK1 => ?_)
      ·
        refine c_seq (fun K7 hK7 => ?_)
        refine c_region ?_
        refine r_y rfl rfl (y_move rfl) ?_
        refine r_y rfl rfl (y_load_a (cs := encMod x sm) rfl ts32 (RdA.blk (i := 0) rfl rfl)) ?_
        refine r_y rfl rfl (y_move rfl) ?_
        refine r_del 0 rfl ?_
        refine r_s rfl ?_
        refine s_call0 rfl Try.call81 rfl (add_w s1 l1 x sm room _ _ hz hfa hfit hzx hokx hfx hsrt) ?_
        rintro _ m2 _ hm2 ⟨a, n, c, cap, lo, rfl, hnl, hnc, hlo, hok1, rfl⟩
        replace hm := hm.trans hm2
        replace hz := hz.mono hm2
        replace hzx := hzx.mono hm2
        clear hm2
        refine r_y rfl rfl (y_extract rfl rfl) ?_
        refine r_y rfl rfl (y_extract rfl rfl) ?_
        refine r_y rfl rfl (y_assign rfl) ?_
        refine r_y rfl rfl (y_assign rfl) ?_
        refine r_nil ?_
        refine hK7 _ _ _ ?_
        clear hK7 K7
        refine c_ret ?_
        refine e_ret 0 hm (res_tmps rfl) ?_
        rw [applyR_add hTS (by simpa using hK1)]
        exact ⟨a, n, c, cap, lo, rfl, hnl, hnc, hlo, hok1, rfl⟩
      ·
        refine c_skip ?_
        refine hK5 _ _ _ ?_
        clear hK5 K5
        refine c_seq (fun K8 hK8 => ?_)
        refine c_region ?_
        refine r_y rfl rfl (y_assign rfl) ?_
        refine r_nil ?_
        refine hK8 _ _ _ ?_
        clear hK8 K8
        refine c_seq (fun K9 hK9 => ?_)
        refine c_seq (fun K10 hK10 => ?_)
        refine c_region ?_
        refine r_y rfl rfl (y_move rfl) ?_
        refine r_s rfl ?_
        refine s_call0 rfl Try.call27 rfl (ruleCopy_w s1 l1 _ _ hz hfa (by omega)) ?_
        rintro _ m2 _ hm2 ⟨a, n, cap, lo, rfl, hnl, hlo, hoc, rfl⟩
        replace hm := hm.trans hm2
        replace hz := hz.mono hm2
        replace hzx := hzx.mono hm2
        clear hm2
        refine r_nilvec 50 32 ?_
        refine r_perm _ (perm_mid2 _ _ _ _ _) ?_
        refine r_y rfl rfl (y_len tl33 rfl) ?_
        refine r_y rfl rfl (y_move rfl) ?_
        refine r_nil ?_
        refine hK10 _ _ _ ?_
        clear hK10 K10
        refine c_block ?_
        have hnb : n ≤ 1000000 := by have h4 := congrArg List.length hlo; simp [rulesO] at h4; omega
        refine c_loopx (α := Nat × List OwnR × Sl) (fun vv => match vv with | (i, ol, sv) => [(4, .pointer (some ⟨b0, 0, none⟩)), (8, sv.v), (29, .slice a n n), (30, .int .i64 (n : Nat)), (31, .int .i64 (i : Nat))]) (fun vv => match vv with | (i, ol, sv) => .blk b0 (.cells (encMod x sm).toArray 32) :: rowO a n cap lo :: rowO sv.a sv.n sv.cap ol :: (itsO ol ++ (itsO (lo.drop i) ++ H))) (fun k0 vv m1 => match vv with | (i, ol, sv) => (i + k0 = n ∧ sv.n = ol.length ∧ sv.n ≤ i ∧ rulesO ol = ((l1.map (·.1)).take i).filterMap (modR1 x) ∧ (∀ o ∈ ol, o.ok)) ∧ m.le m1 ∧ (FzA m1 sm x.acts)) (n) (0, [], zSl) ⟨rfl, rfl, rfl, rfl, rfl, trivial⟩ rfl ⟨⟨by omega, rfl, by show 0 ≤ 0; omega, rfl, fun o ho => by cases ho⟩, hm, hzx⟩ ?_
        clear hm hzx
        rintro k0 ⟨i, ol, sv⟩ m1 ⟨hi0, hm, hzx⟩
        obtain ⟨hi, hsl, hsi, hro, hoo0⟩ := hi0
        refine c_seq (fun K11 hK11 => ?_)
        refine c_region ?_
        refine r_y rfl rfl (y_iop rfl rfl rfl) ?_
        refine r_nil ?_
        refine hK11 _ _ _ ?_
        clear hK11 K11
        refine c_seq (fun K12 hK12 => ?_)
        refine c_cond rfl (fun hL => ?_) (fun hL => ?_)
        ·
          have hlt : i < n := by simp at hL; omega
          obtain ⟨o, ho⟩ := get_of_lt (l := lo) (k := i) (by omega)
          have hT := filterMap_take_succ (f := modR1 x) (l := l1.map (·.1)) (i := i) (x := o.r) (by rw [← hlo]; simp [rulesO, ho])
          refine c_skip ?_
          refine hK12 _ _ _ ?_
          clear hK12 K12
          refine c_seq (fun K13 hK13 => ?_)
          refine c_block ?_
          refine c_seq (fun K14 hK14 => ?_)
          refine c_region ?_
          refine r_perm _ (perm_pick3 ho _ _ _ ol _) ?_
          refine r_y rfl rfl (y_indexAddr_slice (k := i) rfl rfl tl33 hlt (At.vec (k := i) (i := 2) rfl hlt)) ?_
          refine r_y rfl rfl (y_load_a (cs := o.enc) rfl ts50 (RdA.vec0 (k := i) (i := 2) rfl rfl (map_get ho) rfl)) ?_
          refine r_s rfl ?_
          refine s_alloc rfl tz50 (fun b1 => ?_)
          refine r_s rfl ?_
          refine s_store (us := o.enc) rfl rfl rfl ts50 rfl rfl (one_own _) (i := 0) rfl rfl ?_
          refine r_nil ?_
          refine hK14 _ _ _ ?_
          clear hK14 K14
          refine c_seq (fun K15 hK15 => ?_)
          refine c_seq (fun K16 hK16 => ?_)
          refine c_region ?_
          refine r_y rfl rfl (y_load_a (cs := encMod x sm) rfl ts32 (RdA.blk (i := 2) rfl rfl)) ?_
          refine r_y rfl rfl (y_load_a (cs := o.enc) rfl ts50 (RdA.blk (i := 0) rfl rfl)) ?_
          refine r_s rfl ?_
          refine s_call0 rfl Try.call82 rfl (touches_w x sm o.r o.s _ _ hzx hokx hfx) ?_
          rintro _ m2 _ hm2 ⟨rfl, rfl⟩
          replace hm := hm.trans hm2
          replace hzx := hzx.mono hm2
          clear hm2
          refine r_nil ?_
          refine hK16 _ _ _ ?_
          clear hK16 K16
          refine c_cond rfl (fun hTo => ?_) (fun hTo => ?_)
          ·
            refine c_seq (fun K17 hK17 => ?_)
            refine c_seq (fun K18 hK18 => ?_)
            refine c_region ?_
            refine r_y rfl rfl (y_fieldAddr rfl At.lit fo32_0 rfl) ?_
            refine r_y rfl rfl (y_load_s rfl ts3 (RdS.blk (i := 2) rfl rfl)) ?_
            refine r_y rfl rfl (y_iop rfl rfl rfl) ?_
            refine r_y rfl rfl (y_move rfl) ?_
            refine r_split (j := 3) rfl (fun hK3 => ?_) (fun hK3 => ?_)
            ·
              refine r_no' rfl rfl hK3 ?_
              refine r_no' rfl rfl hK3 ?_
              refine r_no' rfl rfl hK3 ?_
              refine r_y rfl rfl (y_pickt rfl hK3 rfl) ?_
              refine r_nil ?_
              refine hK18 _ _ _ ?_
              clear hK18 K18
              refine c_ift rfl rfl ?_
              refine c_exit ?_
              refine hK13 _ _ _ ?_
              clear hK17 K17 hK15 K15 hK13 K13
              refine c_region ?_
              refine r_del 0 rfl ?_
              refine r_del 0 rfl ?_
              first | refine r_y rfl rfl (y_inc rfl (by omega)) ?_ | refine r_y rfl rfl (y_iop rfl rfl rfl) ?_
              refine r_y rfl rfl (y_move rfl) ?_
              refine r_nil ?_
              exact ⟨k0 - 1, (i + 1, ol, sv), by omega, ⟨rfl, rfl, rfl, rfl, rfl, trivial⟩, (by simp only [rowO, List.map_append]; rfl), ⟨by omega, hsl, by omega, by rw [hT, modR1_del (by simpa using hTo) (by first | (simp at hK3; exact .inl hK3) | (simp at hK4; exact .inr hK4)), hro, List.append_nil], hoo0⟩, hm, hzx⟩
            ·
              refine r_yg rfl hK3 rfl (y_fieldAddr rfl At.lit fo32_0 rfl) ?_
              refine r_yg rfl hK3 rfl (y_load_s rfl ts3 (RdS.blk (i := 2) rfl rfl)) ?_
              refine r_yg rfl hK3 rfl (y_iop rfl rfl rfl) ?_
              refine r_y rfl rfl (y_pickf rfl hK3 rfl) ?_
              refine r_nil ?_
              refine hK18 _ _ _ ?_
              clear hK18 K18
              refine c_cond rfl (fun hK4 => ?_) (fun hK4 => ?_)
              ·
                refine c_exit ?_
                refine hK13 _ _ _ ?_
                clear hK17 K17 hK15 K15 hK13 K13
                refine c_region ?_
                refine r_del 0 rfl ?_
                refine r_del 0 rfl ?_
                first | refine r_y rfl rfl (y_inc rfl (by omega)) ?_ | refine r_y rfl rfl (y_iop rfl rfl rfl) ?_
                refine r_y rfl rfl (y_move rfl) ?_
                refine r_nil ?_
                exact ⟨k0 - 1, (i + 1, ol, sv), by omega, ⟨rfl, rfl, rfl, rfl, rfl, trivial⟩, (by simp only [rowO, List.map_append]; rfl), ⟨by omega, hsl, by omega, by rw [hT, modR1_del (by simpa using hTo) (by first | (simp at hK3; exact .inl hK3) | (simp at hK4; exact .inr hK4)), hro, List.append_nil], hoo0⟩, hm, hzx⟩
              ·
                have hKd : ¬ (x.kind = 3 ∨ x.kind = 5) := by simp at hK3 hK4; omega
                refine c_skip ?_
                refine hK17 _ _ _ ?_
                clear hK17 K17
                refine c_region ?_
                refine r_y rfl rfl (y_fieldAddr rfl At.lit fo32_3 rfl) ?_
                refine r_y rfl rfl (y_load_s rfl ts30 (RdS.blk (i := 2) rfl rfl)) ?_
                refine r_s rfl ?_
                refine s_call0 rfl Try.call84 rfl (cloneA2_w sm x.acts _ _ hzx hokx hfx) ?_
                rintro _ m2 _ hm2 ⟨sc, rfl, hsc, hle, rfl⟩
                replace hm := hm.trans hm2
                replace hzx := hzx.mono hm2
                clear hm2
                refine r_s rfl ?_
                refine s_call0 rfl Try.call83 rfl (clipA_w sc.a sc.n sc.cap _ _ hle) ?_
                rintro _ m2 _ hm2 ⟨rfl, rfl⟩
                replace hm := hm.trans hm2
                replace hzx := hzx.mono hm2
                clear hm2
                refine r_y rfl rfl (y_fieldAddr rfl At.lit fo50_2 rfl) ?_
                refine r_s rfl ?_
                refine s_store rfl rfl rfl ts30 rfl rfl (by simp [Value.oneCell', wv, Sl.v]) (i := 1) rfl rfl ?_
                refine r_nil ?_
                refine hK15 _ _ _ ?_
                clear hK15 K15
                refine c_region ?_
                refine r_y rfl rfl (y_move rfl) ?_
                refine r_y rfl rfl (y_load_a (cs := encRule { o.r with acts := x.acts } ⟨sc.a, sc.n, sc.n⟩) rfl ts50 (RdA.blk (i := 1) rfl rfl)) ?_
                refine r_s rfl ?_
                refine s_buildSlice (cs := (encRule { o.r with acts := x.acts } ⟨sc.a, sc.n, sc.n⟩)) (e := 50) rfl rfl (fun _ => by kernel_rfl) (fun b2 => ?_)
                refine r_s rfl ?_
                refine s_append rfl rfl rfl tl33 zo50 tb50 (i := 6) rfl (Src.one' (i := 0) rfl rfl (one_rule _ _)) (by omega) (by unfold maxLen; omega) (fun a1 c1 => ?_)
                refine r_del 0 rfl ?_
                refine r_y rfl rfl (y_assign rfl) ?_
                refine r_nil ?_
                refine hK13 _ _ _ ?_
                clear hK13 K13
                refine c_region ?_
                refine r_del 1 rfl ?_
                refine r_del 1 rfl ?_
                refine r_perm _ (perm_put3 _ _ _ ol ⟨{ o.r with acts := x.acts }, ⟨sc.a, sc.n, sc.n⟩, sc.cap⟩ _) ?_
                first | refine r_y rfl rfl (y_inc rfl (by omega)) ?_ | refine r_y rfl rfl (y_iop rfl rfl rfl) ?_
                refine r_y rfl rfl (y_move rfl) ?_
                refine r_nil ?_
                exact ⟨k0 - 1, (i + 1, ol ++ [⟨{ o.r with acts := x.acts }, ⟨sc.a, sc.n, sc.n⟩, sc.cap⟩], ⟨a1, sv.n + 1, c1⟩), by omega, ⟨rfl, rfl, rfl, rfl, rfl, trivial⟩, (by simp only [rowO, List.map_append]; rfl), ⟨by omega, by simp [hsl], by show sv.n + 1 ≤ i + 1; omega, by rw [rulesO_snoc, hT, modR1_set (by simpa using hTo) hKd, hro], ok_snoc hoo0 (show OwnR.ok ⟨{ o.r with acts := x.acts }, ⟨sc.a, sc.n, sc.n⟩, sc.cap⟩ from rfl)⟩, hm, hzx⟩
          ·
            refine c_skip ?_
            refine hK15 _ _ _ ?_
            clear hK15 K15
            refine c_region ?_
            refine r_y rfl rfl (y_move rfl) ?_
            refine r_y rfl rfl (y_load_a (cs := o.enc) rfl ts50 (RdA.blk (i := 0) rfl rfl)) ?_
            refine r_s rfl ?_
            refine s_buildSlice (cs := (o.enc)) (e := 50) rfl rfl (fun _ => by kernel_rfl) (fun b2 => ?_)
            refine r_s rfl ?_
            refine s_append rfl rfl rfl tl33 zo50 tb50 (i := 5) rfl (Src.one' (i := 0) rfl rfl (one_rule _ _)) (by omega) (by unfold maxLen; omega) (fun a1 c1 => ?_)
            refine r_del 0 rfl ?_
            refine r_y rfl rfl (y_assign rfl) ?_
            refine r_nil ?_
            refine hK13 _ _ _ ?_
            clear hK13 K13
            refine c_region ?_
            refine r_del 0 rfl ?_
            refine r_perm _ (perm_put3 _ _ _ ol o _) ?_
            first | refine r_y rfl rfl (y_inc rfl (by omega)) ?_ | refine r_y rfl rfl (y_iop rfl rfl rfl) ?_
            refine r_y rfl rfl (y_move rfl) ?_
            refine r_nil ?_
            exact ⟨k0 - 1, (i + 1, ol ++ [o], ⟨a1, sv.n + 1, c1⟩), by omega, ⟨rfl, rfl, rfl, rfl, rfl, trivial⟩, (by simp only [rowO, List.map_append]; rfl), ⟨by omega, by simp [hsl], by show sv.n + 1 ≤ i + 1; omega, by rw [rulesO_snoc, hT, modR1_keep (by simpa using hTo), hro], ok_snoc hoo0 (hoc o (List.mem_of_getElem? ho))⟩, hm, hzx⟩
        ·
          refine c_exit ?_
          refine hK9 _ _ _ ?_
          clear hK12 K12 hK9 K9
          refine c_seq (fun K19 hK19 => ?_)
          refine c_region ?_
          refine r_vecfacts (i := 2) rfl (fun hle _ _ _ _ => ?_)
          refine r_y rfl rfl (y_move rfl) ?_
          refine r_y rfl rfl (y_assign rfl) ?_
          refine r_y rfl rfl (y_assign rfl) ?_
          refine r_nil ?_
          refine hK19 _ _ _ ?_
          clear hK19 K19
          refine c_ret ?_
          refine e_ret 2 hm (res_tmps rfl) ?_
          rw [applyR_map hTS (by simpa using hK1)]
          have hin : i = n := by simp at hL; omega
          have hdr : lo.drop i = [] := List.drop_eq_nil_of_le (by omega)
          refine ⟨sv.a, sv.n, sv.cap, sv.cap, ol, rfl, hsl, .inr rfl, ?_, hoo0, by simp only [hdr]; rfl⟩
          rw [hro, List.take_of_length_le (by rw [← hlo]; simp [rulesO]; omega)]
end Go.Aw
namespace Go.Aw
open Go
theorem bit_and1 (x : W) (k : Nat) : ((x >>> k) &&& 1#64 == 1#64) = x.getLsbD k := by
  rw [Bool.eq_iff_iff, beq_iff_eq, ← BitVec.toNat_inj]
  simp [BitVec.getLsbD, Nat.testBit, Nat.and_one_is_mod, Nat.one_and_eq_mod_two]
  try omega
def zipAll (F : UInt8 → UInt8 → Bool) (x y : List UInt8) : Bool := (List.zip x y).all fun p => F p.1 p.2
theorem zipAll_append {F : UInt8 → UInt8 → Bool} {x x' y y' : List UInt8} (h : x.length = y.length) : zipAll F (x ++ x') (y ++ y') = (zipAll F x y && zipAll F x' y') := by
  unfold zipAll
  rw [List.zip_append h, List.all_append]
theorem row_all {F : UInt8 → UInt8 → Bool} {v c v' c' : W} : ∀ n, zipAll F (List.zipWith tch (bitsL v n) (bitsL c n)) (List.zipWith tch (bitsL v' n) (bitsL c' n)) = true ↔ ∀ k, k < n → F (tch (v.getLsbD k) (c.getLsbD k)) (tch (v'.getLsbD k) (c'.getLsbD k)) = true
  | 0 => by simp [bitsL, zipAll]
  | n + 1 => by
    have ih := row_all (F := F) (v := v) (c := c) (v' := v') (c' := c') n
    unfold zipAll at ih ⊢
    simp only [bitsL, bit_and1, List.zipWith_cons_cons, List.zip_cons_cons, List.all_cons, Bool.and_eq_true]
    rw [ih]
    constructor
    · rintro ⟨h1, h2⟩ k hk
      rcases Nat.lt_or_ge k n with h | h
      · exact h2 k h
      · obtain rfl : k = n := by omega
        exact h1
    · intro h
      exact ⟨h n (by omega), fun k hk => h k (by omega)⟩
theorem textN_len2 (a b : Cube) : ∀ n, (textN a n).length = (textN b n).length
  | 0 => rfl
  | n + 1 => by simp only [textN, List.length_append, rowT_len, textN_len2 a b n]
theorem text_all {F : UInt8 → UInt8 → Bool} {a b : Cube} : ∀ n, zipAll F (textN a n) (textN b n) = true ↔ ∀ i, i < n → ∀ k, k < hsz (i : Int) → F (tch ((a.value.at i).getLsbD k) ((a.care.at i).getLsbD k)) (tch ((b.value.at i).getLsbD k) ((b.care.at i).getLsbD k)) = true
  | 0 => by simp [textN, zipAll]
  | n + 1 => by
    simp only [textN]
    rw [zipAll_append (textN_len2 a b n), Bool.and_eq_true, text_all n]
    unfold rowT
    rw [row_all]
    constructor
    · rintro ⟨h1, h2⟩ i hi
      rcases Nat.lt_or_ge i n with h | h
      · exact h1 i h
      · obtain rfl : i = n := by omega
        exact h2
    · intro h
      exact ⟨fun i hi => h i (by omega), h n (by omega)⟩
def withinF (x y : UInt8) : Bool := y == 120 || x == y
def meetF (x y : UInt8) : Bool := x == 120 || !(y != 120 && x != y)
theorem withinF_t (p q p' q' : Bool) : withinF (tch p q) (tch p' q') = (!q' || (q && p == p')) := by cases p <;> cases q <;> cases p' <;> cases q' <;> decide
theorem meetF_t (p q p' q' : Bool) : meetF (tch p q) (tch p' q') = !(q && q' && p != p') := by cases p <;> cases q <;> cases p' <;> cases q' <;> decide
end Go.Aw
namespace Go.Aw
open Go
structure CB (c : Cube) : Prop where
  sub : ∀ i, i < 12 → ∀ k, (c.value.at i).getLsbD k = true → (c.care.at i).getLsbD k = true
  fit : ∀ i : Nat, i < 12 → ∀ k, hsz (i : Int) ≤ k → (c.care.at i).getLsbD k = false
theorem CB.of {c : Cube} (h : cubeSound c = true) : CB c := by
  unfold cubeSound headSound at h
  simp only [Bool.and_eq_true, List.all_eq_true, List.mem_range, beq_iff_eq] at h
  refine ⟨fun i hi k hv => ?_, fun i hi k hk => ?_⟩
  · have := congrArg (fun x => x.getLsbD k) (h.2 i hi)
    simp [hv] at this
    by_cases hk : k < 64
    · exact this hk
    · rw [BitVec.getLsbD_of_ge _ _ (by omega)] at hv; cases hv
  · have h1 := h.1 i hi
    unfold fits at h1
    rw [beq_iff_eq] at h1
    have := congrArg (fun x => x.getLsbD (k - hsz (i : Int))) h1
    simp only [BitVec.getLsbD_ushiftRight] at this
    rw [Nat.add_sub_cancel' hk] at this
    simpa using this
theorem cubeMeet_eq {a b : Cube} : cubeMeet a b = a ↔ ∀ i, i < 12 → (a.value.at i ||| b.value.at i = a.value.at i) ∧ (a.care.at i ||| b.care.at i = a.care.at i) := by
  have hm : ∀ (h g : Head) (i : Nat), i < 12 → (h.merge g 12).at i = h.at i ||| g.at i := by
    intro h g i hi
    rw [at_lt hi, at_lt hi, at_lt hi]
    unfold Head.merge
    rw [if_pos hi]
  have hx : ∀ (h g : Head), (∀ i, i < 12 → h.at i = g.at i) → h = g := by
    intro h g hh
    funext k
    have := hh k.val k.isLt
    rw [at_lt k.isLt, at_lt k.isLt] at this
    exact this
  unfold cubeMeet cubeMerge
  constructor
  · intro h i hi
    have h1 := congrArg Cube.value h
    have h2 := congrArg Cube.care h
    simp only at h1 h2
    exact ⟨by rw [← hm _ _ i hi, h1], by rw [← hm _ _ i hi, h2]⟩
  · intro h
    cases a
    simp only [Cube.mk.injEq] at h ⊢
    exact ⟨hx _ _ fun i hi => by rw [hm _ _ i hi]; exact (h i hi).1, hx _ _ fun i hi => by rw [hm _ _ i hi]; exact (h i hi).2⟩
theorem clash_bits {a b : Cube} (ha : CB a) (hb : CB b) {i : Nat} (hi : i < 12) : cubeClash a b i = true ↔ ∀ k, k < hsz (i : Int) → meetF (tch ((a.value.at i).getLsbD k) ((a.care.at i).getLsbD k)) (tch ((b.value.at i).getLsbD k) ((b.care.at i).getLsbD k)) = true := by
  simp only [meetF_t]
  unfold cubeClash
  rw [beq_iff_eq]
  constructor
  · intro h k hk
    have := congrArg (fun x => x.getLsbD k) h
    simp at this
    generalize (a.value.at i).getLsbD k = p at this ⊢
    generalize (a.care.at i).getLsbD k = q at this ⊢
    generalize (b.value.at i).getLsbD k = p' at this ⊢
    generalize (b.care.at i).getLsbD k = q' at this ⊢
    revert this
    cases p <;> cases q <;> cases p' <;> cases q' <;> decide
  · intro h
    refine BitVec.eq_of_getLsbD_eq fun k hk => ?_
    rcases Nat.lt_or_ge k (hsz (i : Int)) with hlt | hge
    · have := h k hlt
      simp
      generalize (a.value.at i).getLsbD k = p at this ⊢
      generalize (a.care.at i).getLsbD k = q at this ⊢
      generalize (b.value.at i).getLsbD k = p' at this ⊢
      generalize (b.care.at i).getLsbD k = q' at this ⊢
      revert this
      cases p <;> cases q <;> cases p' <;> cases q' <;> decide
    · have f := ha.fit i hi k hge
      simp [f]
theorem within_bits {a b : Cube} (ha : CB a) (hb : CB b) {i : Nat} (hi : i < 12) : (cubeClash a b i = true ∧ (a.value.at i ||| b.value.at i = a.value.at i) ∧ (a.care.at i ||| b.care.at i = a.care.at i)) ↔ ∀ k, k < hsz (i : Int) → withinF (tch ((a.value.at i).getLsbD k) ((a.care.at i).getLsbD k)) (tch ((b.value.at i).getLsbD k) ((b.care.at i).getLsbD k)) = true := by
  rw [clash_bits ha hb hi]
  simp only [meetF_t, withinF_t]
  constructor
  · rintro ⟨h0, h1, h2⟩ k hk
    have e0 := h0 k hk
    have e1 := congrArg (fun x => x.getLsbD k) h1
    have e2 := congrArg (fun x => x.getLsbD k) h2
    simp only [BitVec.getLsbD_or] at e1 e2
    generalize (a.value.at i).getLsbD k = p at *
    generalize (a.care.at i).getLsbD k = q at *
    generalize (b.value.at i).getLsbD k = p' at *
    generalize (b.care.at i).getLsbD k = q' at *
    clear h0 h1 h2
    revert e0 e1 e2
    cases p <;> cases q <;> cases p' <;> cases q' <;> decide
  · intro h
    refine ⟨fun k hk => ?_, BitVec.eq_of_getLsbD_eq fun k hk => ?_, BitVec.eq_of_getLsbD_eq fun k hk => ?_⟩
    · have e0 := h k hk
      clear h
      revert e0
      generalize (a.value.at i).getLsbD k = p
      generalize (a.care.at i).getLsbD k = q
      generalize (b.value.at i).getLsbD k = p'
      generalize (b.care.at i).getLsbD k = q'
      cases p <;> cases q <;> cases p' <;> cases q' <;> decide
    · rw [BitVec.getLsbD_or]
      have sb := hb.sub i hi k
      rcases Nat.lt_or_ge k (hsz (i : Int)) with hlt | hge
      · have e0 := h k hlt
        clear h
        revert e0 sb
        generalize (a.value.at i).getLsbD k = p
        generalize (a.care.at i).getLsbD k = q
        generalize (b.value.at i).getLsbD k = p'
        generalize (b.care.at i).getLsbD k = q'
        cases p <;> cases q <;> cases p' <;> cases q' <;> decide
      · have f := hb.fit i hi k hge
        rw [f] at sb
        revert sb
        generalize (a.value.at i).getLsbD k = p
        generalize (b.value.at i).getLsbD k = p'
        cases p <;> cases p' <;> decide
    · rw [BitVec.getLsbD_or]
      rcases Nat.lt_or_ge k (hsz (i : Int)) with hlt | hge
      · have e0 := h k hlt
        clear h
        revert e0
        generalize (a.value.at i).getLsbD k = p
        generalize (a.care.at i).getLsbD k = q
        generalize (b.value.at i).getLsbD k = p'
        generalize (b.care.at i).getLsbD k = q'
        cases p <;> cases q <;> cases p' <;> cases q' <;> decide
      · rw [hb.fit i hi k hge]; simp
theorem within_text {a b : Cube} : cubeWithin a b = (cubeSound a && zipAll withinF (textN a 12) (textN b 12) && cubeSound b) := by
  unfold cubeWithin cubeMeetOk
  cases ha : cubeSound a with
  | false => rfl
  | true =>
    cases hb : cubeSound b with
    | false => simp
    | true =>
      simp only [Bool.and_self, Bool.true_and, Bool.and_true]
      rw [Bool.eq_iff_iff, text_all, Bool.and_eq_true, List.all_eq_true, decide_eq_true_iff, cubeMeet_eq]
      simp only [List.mem_range]
      constructor
      · rintro ⟨h1, h2⟩ i hi
        exact (within_bits (CB.of ha) (CB.of hb) hi).1 ⟨h1 i hi, h2 i hi⟩
      · intro h
        exact ⟨fun i hi => ((within_bits (CB.of ha) (CB.of hb) hi).2 (h i hi)).1, fun i hi => ((within_bits (CB.of ha) (CB.of hb) hi).2 (h i hi)).2⟩
end Go.Aw
namespace Go.Aw
open Go
theorem FzR.cut {m : Snap} {s : Sl} {lr : List (RuleD × Sl)} (h : FzR m s lr) {lo hi : Nat} (h1 : lo ≤ hi) (h2 : hi ≤ s.n) : FzR m (s.cut lo hi 32) ((lr.drop lo).take (hi - lo)) :=
  ⟨by
    have := h.fz.slice h1 h2
    have e : ((lr.drop lo).take (hi - lo)).map (fun p => encRule p.1 p.2) = ((lr.map fun p => encRule p.1 p.2).drop lo).take (hi - lo) := by rw [List.map_take, List.map_drop]
    rw [e]; exact this, fun p hp => h.acts p (List.mem_of_mem_drop (List.mem_of_mem_take hp))⟩
theorem FzR.from {m : Snap} {s : Sl} {lr : List (RuleD × Sl)} (h : FzR m s lr) {lo : Nat} (h1 : lo ≤ s.n) : FzR m (s.cut lo s.n 32) (lr.drop lo) := by
  have := h.cut h1 (Nat.le_refl _)
  rwa [List.take_of_length_le (by rw [List.length_drop, ← h.len]; exact Nat.le_refl _)] at this
theorem FzR.src {m : Snap} {H : Hp} {s : Sl} {lr : List (RuleD × Sl)} (h : FzR m s lr) (hn : s.a = none → s.cap = 0) : Src m H s.v s.n 32 (lr.map fun p => encRule p.1 p.2) :=
  Src.fz h.fz (fun c hc u hu => by obtain ⟨x, _, rfl⟩ := List.mem_map.1 hc; exact one_rule _ _ u hu) hn
/-- A slice's first rows, its room left as it is. -/
theorem FzR.first {m : Snap} {a : Option Addr} {n c : Nat} {lr : List (RuleD × Sl)} (h : FzR m ⟨a, n, c⟩ lr) {p : Nat} (hp : p ≤ n) : FzR m ⟨a, p, c⟩ (lr.take p) := by
  have h2 := h.fz.slice (lo := 0) (hi := p) (Nat.zero_le _) hp
  refine ⟨?_, fun q hq => h.acts q (List.mem_of_mem_take hq)⟩
  rw [List.map_take]
  have e : sadd a 0 32 c = a := sadd_zero ..
  rw [e, List.drop_zero] at h2
  exact h2
theorem AllA.of {m : Snap} {s : Sl} {lr : List (RuleD × Sl)} (h : FzR m s lr) : AllA m lr := h.acts
theorem AllA.sub {m : Snap} {l l' : List (RuleD × Sl)} (h : AllA m l) (hs : ∀ x ∈ l', x ∈ l) : AllA m l' := fun p hp => h p (hs p hp)
section
variable {P : Program} {n : Nat} {L : Slots} {m : Snap} {H : Hp} {Q : Post} {ops : Array Oper} {fuel : Nat} {listed : Array Bool}
end
end Go.Aw
namespace Go.Aw
open Go
def rowsN (l : List Nat) : List (List Value) := l.map fun (k : Nat) => [Value.int .i64 (k : Int)]
abbrev FzN (m : Snap) (s : Sl) (l : List Nat) : Prop := Fz m s.a s.n s.cap 1 (rowsN l)
theorem Fz.lenN {m : Snap} {s : Sl} {l : List Nat} (h : FzN m s l) : s.n = l.length := by have := h.len; simpa [rowsN] using this.symm
theorem FzN.from {m : Snap} {s : Sl} {l : List Nat} (h : FzN m s l) {lo : Nat} (h1 : lo ≤ s.n) : FzN m (s.cut lo s.n 1) (l.drop lo) := by
  have h2 := Fz.slice h h1 (Nat.le_refl _)
  have hl := Fz.lenN h
  have e : rowsN (l.drop lo) = ((rowsN l).drop lo).take (s.n - lo) := by
    unfold rowsN
    rw [List.map_drop, List.take_of_length_le (by simp; omega)]
  show Fz m _ _ _ 1 (rowsN _)
  rw [e]; exact h2
end Go.Aw
namespace Go.Aw
open Go
def ansM1 : ModD := ⟨1, zCube, 7, [], 0, 0, 1, false⟩
def ansM2 : ModD := ⟨3, zCube, 0, [], 0, 0, 1, false⟩
set_option maxRecDepth 100000 in
theorem ans7_1 : applyR [] ansM1 1 = ([modRule ansM1], 0) := by decide +kernel
set_option maxRecDepth 100000 in
theorem ans7_w : cubeWithin zCube zCube = true := by rw [within_text]; decide +kernel
set_option maxRecDepth 100000 in
theorem ans7_4 : (ruleTable [modRule ansM1] && modSound ansM2) = true := by decide +kernel
theorem ans7_2 : applyR [modRule ansM1] ansM2 0 = ([], 0) := by
  rw [applyR_map ans7_4 (by decide)]
  have h : modTouches ansM2 (modRule ansM1) = true := by
    unfold modTouches
    rw [if_pos (.inr rfl)]
    show ((1 : Int) == 1 && cubeWithin zCube zCube) = true
    rw [ans7_w]; rfl
  rw [List.filterMap_cons, modR1_del h (.inl rfl)]; rfl
set_option maxRecDepth 100000 in
theorem ans7_3 : modSound ansM1 = true := by decide +kernel
/-- A table of the call's own is given up, the slice's room being its length or all that stands behind it. -/
theorem St.freezeC {m : Snap} {w : World} {H : Hp} {a : Option Addr} {n cap c : Nat} {l : List OwnR} (hok : ∀ o ∈ l, o.ok) (hc : c = n ∨ c = cap) (h : St m (rowO a n cap l :: (itsO l ++ H)) w) :
    ∃ m', m.le m' ∧ St m' H w ∧ FzR m' ⟨a, n, c⟩ (l.map fun o => (o.r, o.s)) ∧ (a = none → c = 0) := by
  obtain ⟨m1, g1, g2, g3, g4⟩ := St.freezeVec (i := 0) h rfl (by decide)
  obtain ⟨m2, k1, k2, k3⟩ := St.freezeIts l hok (show St m1 (itsO l ++ H) w from g2)
  have e : ((l.map fun o => (o.r, o.s)).map fun p => encRule p.1 p.2) = l.map OwnR.enc := by simp [OwnR.enc]
  refine ⟨m2, g1.trans k1, k2, ⟨?_, fun p hp => ?_⟩, fun hn => ?_⟩
  · show Fz m2 a n c 32 _
    rw [e]
    rcases hc with rfl | rfl
    · exact (g3.mono k1).clip
    · exact g3.mono k1
  · obtain ⟨o, ho, rfl⟩ := List.mem_map.1 hp
    exact k3 o ho
  · have := g4 hn
    have hle := g3.le
    rcases hc with rfl | rfl <;> omega
end Go.Aw
namespace Go.Aw
open Go Go.Proofs
theorem bp32_0_2_6 : bplaces Try.prog 32 [0, 2, 6] = some [(0, 1), (25, 1), (29, 1)] := by kernel_rfl
theorem bp32_0_6 : bplaces Try.prog 32 [0, 6] = some [(0, 1), (29, 1)] := by kernel_rfl
theorem applyF_w (s1 : Sl) (l1 : List (RuleD × Sl)) (x : ModD) (sm : Sl) (room : Int) (m : Snap) (H : Hp) (hz : FzR m s1 l1) (hfa : ∀ p ∈ l1, p.1.acts.length ≤ 4398046511103) (hfit : l1.length < 1000000) (hzx : FzA m sm x.acts) (hokx : sm.ok) (hfx : x.acts.length ≤ 4398046511103) : Fn Try.prog 33 [s1.v, .agg (encMod x sm).toArray, .int .i64 room] m H (fun v m' H' => ∃ (s : Sl) (lr : List (RuleD × Sl)), v = .tuple [s.v, i64 (applyR (l1.map (·.1)) x room).2].toArray ∧ FzR m' s lr ∧ lr.map (·.1) = (applyR (l1.map (·.1)) x room).1 ∧ (s.a = none → s.cap = 0) ∧ H' = H) :=
  (apply_w s1 l1 x sm room m H hz hfa hfit hzx hokx hfx).post fun v m' H' w hm hs ⟨a, n, c, cap, lo, h1, h2, h3, h4, h5, h6⟩ => by
    subst h6
    obtain ⟨m2, g1, g2, g3, g4⟩ := hs.freezeC h5 h3
    exact ⟨m2, H, g1, g2, ⟨a, n, c⟩, _, h1, g3, by rw [map_fst, h4], g4, rfl⟩
set_option maxRecDepth 100000 in
theorem answers7_w (m : Snap) (H : Hp) : Fn Try.prog 32 [] m H (fun v _ H' => v = .bool true ∧ H' = H) := by
  have hm : m.le m := Snap.le.refl m
  refine fn_end Try.func32 rfl rfl rfl ?_
  refine c_seq (fun K0 hK0 => ?_)
  refine c_region ?_
  refine r_y rfl rfl (y_assign rfl) ?_
  refine r_nil ?_
  refine hK0 _ _ _ ?_
  clear hK0 K0
  refine c_seq (fun K1 hK1 => ?_)
  refine c_region ?_
  refine r_y rfl rfl (y_bld rfl tz32 fk32 bp32_0_2_6 rfl rfl) ?_
  refine r_s rfl ?_
  refine s_alloc rfl tz32 (fun b0 => ?_)
  refine r_s rfl ?_
  refine s_store (us := encMod ansM1 zSl) rfl rfl rfl ts32 rfl rfl (one_mod _ _) (i := 0) rfl rfl ?_
  refine r_nil ?_
  refine hK1 _ _ _ ?_
  clear hK1 K1
  refine c_seq (fun K2 hK2 => ?_)
  refine c_region ?_
  refine r_y rfl rfl (y_load_a (cs := encMod ansM1 zSl) rfl ts32 (RdA.blk (i := 0) rfl rfl)) ?_
  refine r_s rfl ?_
  refine s_call0 rfl Try.call33 rfl (applyF_w zSl [] ansM1 zSl 1 _ _ (fzR_nil _) (fun p hp => by cases hp) (by decide) (fzA_nil _) (fun _ => rfl) (by decide)) ?_
  rintro _ m2 _ hm2 ⟨sa, la, rfl, hza, hla, hna, rfl⟩
  replace hm := hm.trans hm2
  clear hm2
  refine r_y rfl rfl (y_move rfl) ?_
  refine r_y rfl rfl (y_extract rfl rfl) ?_
  refine r_y rfl rfl (y_extract rfl rfl) ?_
  refine r_y rfl rfl (y_assign rfl) ?_
  refine r_y rfl rfl (y_assign rfl) ?_
  refine r_nil ?_
  refine hK2 _ _ _ ?_
  clear hK2 K2
  refine c_seq (fun K3 hK3 => ?_)
  refine c_region ?_
  have e1 : la.map (·.1) = [modRule ansM1] := by rw [hla]; show (applyR [] ansM1 1).1 = _; rw [ans7_1]
  have hc1 : (applyR (([] : List (RuleD × Sl)).map (·.1)) ansM1 1).2 = 0 := by show (applyR [] ansM1 1).2 = 0; rw [ans7_1]
  have hla1 : la.length = 1 := by have := congrArg List.length e1; simpa using this
  have hn1a : sa.n = 1 := by have := hza.len; omega
  obtain ⟨y, hy⟩ := get_of_lt (l := la) (k := 0) (by omega)
  have hy1 : y.1 = modRule ansM1 := by have h3 := map_get (f := fun (p : RuleD × Sl) => p.1) hy; rw [e1] at h3; simpa using h3.symm
  have hfb : ∀ p ∈ la, p.1.acts.length ≤ 4398046511103 := by intro p hp; have h9 : p.1 ∈ la.map (·.1) := List.mem_map.2 ⟨p, hp, rfl⟩; rw [e1] at h9; rw [List.mem_singleton.1 h9]; decide
  have hlt : 0 < sa.n := by omega
  refine r_y rfl rfl (y_move rfl) ?_
  refine r_y rfl rfl (y_bld rfl tz32 fk32 bp32_0_6 rfl rfl) ?_
  refine r_s rfl ?_
  refine s_call0 rfl Try.call33 rfl (applyF_w sa la ansM2 zSl 0 _ _ hza hfb (by omega) (fzA_nil _) (fun _ => rfl) (by decide)) ?_
  rintro _ m2 _ hm2 ⟨sb, lb, rfl, hzb, hlb, hnb, rfl⟩
  replace hm := hm.trans hm2
  replace hza := hza.mono hm2
  clear hm2
  refine r_y rfl rfl (y_move rfl) ?_
  refine r_y rfl rfl (y_extract rfl rfl) ?_
  refine r_y rfl rfl (y_extract rfl rfl) ?_
  refine r_y rfl rfl (y_assign rfl) ?_
  refine r_y rfl rfl (y_assign rfl) ?_
  refine r_nil ?_
  refine hK3 _ _ _ ?_
  clear hK3 K3
  refine c_seq (fun K4 hK4 => ?_)
  refine c_region ?_
  have e2 : lb.map (·.1) = [] := by rw [hlb, e1, ans7_2]
  have hc2 : (applyR (la.map (·.1)) ansM2 0).2 = 0 := by rw [e1, ans7_2]
  have hn1b : sb.n = 0 := by have h3 := hzb.len; have h4 := congrArg List.length e2; simp at h4; rw [h3, h4]; rfl
  refine r_y rfl rfl (y_move rfl) ?_
  refine r_y rfl rfl (y_iop rfl rfl rfl) ?_
  refine r_y rfl rfl (y_move rfl) ?_
  refine r_yg rfl (by rw [hc1]; rfl) rfl (y_move rfl) ?_
  refine r_yg rfl (by rw [hc1]; rfl) rfl (y_iop rfl rfl rfl) ?_
  refine r_y rfl rfl (y_pickt rfl (by rw [hc1]; rfl) rfl) ?_
  refine r_y rfl rfl (y_move rfl) ?_
  refine r_yg rfl (by rw [hc2]; rfl) rfl (y_move rfl) ?_
  refine r_yg rfl (by rw [hc2]; rfl) rfl (y_len tl33 rfl) ?_
  refine r_yg rfl (by rw [hc2]; rfl) rfl (y_iop rfl rfl rfl) ?_
  refine r_y rfl rfl (y_pickt rfl (by rw [hc2]; rfl) rfl) ?_
  refine r_y rfl rfl (y_move rfl) ?_
  refine r_yg rfl (by rw [hn1a]; rfl) rfl (y_move rfl) ?_
  refine r_yg rfl (by rw [hn1a]; rfl) rfl (y_indexAddr_slice (k := 0) rfl rfl tl33 hlt (At.fz hza.fz hlt)) ?_
  refine r_yg rfl (by rw [hn1a]; rfl) rfl (y_fieldAddr rfl ((At.fz hza.fz hlt).eadd) fo50_1 (eadd_eadd _ _ _)) ?_
  refine r_yg rfl (by rw [hn1a]; rfl) rfl (y_load_s (v := i64 7) rfl ts3 (RdS.fz (k := 0) hza.fz (map_get hy) (by rw [hy1]; rfl)) ) ?_
  refine r_yg rfl (by rw [hn1a]; rfl) rfl (y_iop rfl rfl rfl) ?_
  refine r_y rfl rfl (y_pickt rfl (by rw [hn1a]; rfl) rfl) ?_
  refine r_y rfl rfl (y_move rfl) ?_
  refine r_yg rfl rfl rfl (y_move rfl) ?_
  refine r_yg rfl rfl rfl (y_len tl33 rfl) ?_
  refine r_yg rfl rfl rfl (y_iop rfl rfl rfl) ?_
  refine r_y rfl rfl (y_pickt rfl rfl rfl) ?_
  refine r_y rfl rfl (y_move rfl) ?_
  refine r_yg rfl (by rw [hn1b]; rfl) rfl (y_load_a (cs := encMod ansM1 zSl) rfl ts32 (RdA.blk (i := 0) rfl rfl)) ?_
  refine r_sg rfl (by rw [hn1b]; rfl) ?_
  refine s_call0 rfl Try.call36 rfl (modSound_ok ansM1 zSl _ _ (fzA_nil _)) ?_
  rintro _ m2 _ hm2 ⟨rfl, rfl⟩
  replace hm := hm.trans hm2
  replace hza := hza.mono hm2
  replace hzb := hzb.mono hm2
  clear hm2
  refine r_y rfl rfl (y_pickt rfl (by rw [hn1b]; rfl) rfl) ?_
  refine r_y rfl rfl (y_assign rfl) ?_
  refine r_nil ?_
  refine hK4 _ _ _ ?_
  clear hK4 K4
  refine c_ret ?_
  refine e_ret 1 hm (res_tmps rfl) ?_
  refine ⟨congrArg Value.bool ?_, rfl⟩
  exact ans7_3
end Go.Aw
namespace Go.Aw
open Go
theorem applyR_len (l : List RuleD) (x : ModD) (room : Int) : (applyR l x room).1.length ≤ l.length + 1 := by
  unfold applyR
  split
  · simp
  · split
    · unfold addR
      repeat' split
      all_goals first | (simp; done) | (have := sortR_len (l ++ [modRule x]); simp at this; exact this)
    · exact Nat.le_trans (List.length_filterMap_le ..) (Nat.le_succ _)
end Go.Aw
namespace Go.Aw
open Go Go.Proofs
set_option maxRecDepth 100000 in
theorem modsKeeps_w (s1 : Sl) (l1 : List (RuleD × Sl)) (x : ModD) (sm : Sl) (m : Snap) (H : Hp) (hz : FzR m s1 l1) (hfa : ∀ p ∈ l1, p.1.acts.length ≤ 4398046511103) (hzx : FzA m sm x.acts) (hokx : sm.ok) (hfx : x.acts.length ≤ 4398046511103) : Fn Try.prog 11 [s1.v, .agg (encMod x sm).toArray] m H (fun v _ H' => v = .bool true ∧ H' = H) := by
  have hm : m.le m := Snap.le.refl m
  refine fn_end Try.func11 rfl rfl rfl ?_
  refine c_seq (fun K0 hK0 => ?_)
  refine c_region ?_
  refine r_s rfl ?_
  refine s_box_a rfl rfl (fun b0 => ?_)
  refine r_y rfl rfl (y_assign rfl) ?_
  refine r_nil ?_
  refine hK0 _ _ _ ?_
  clear hK0 K0
  refine c_seq (fun K1 hK1 => ?_)
  refine c_seq (fun K2 hK2 => ?_)
  refine c_region ?_
  refine r_y rfl rfl (y_move rfl) ?_
  refine r_y rfl rfl (y_len tl33 rfl) ?_
  refine r_y rfl rfl (y_iop rfl rfl rfl) ?_
  refine r_y rfl rfl (y_move rfl) ?_
  refine r_split (j := 3) rfl (fun hS1 => ?_) (fun hS1 => ?_)
  ·
    refine r_no' rfl rfl hS1 ?_
    refine r_no' rfl rfl hS1 ?_
    refine r_no' rfl rfl hS1 ?_
    refine r_no' rfl rfl hS1 ?_
    refine r_y rfl rfl (y_pickt rfl hS1 rfl) ?_
    refine r_nil ?_
    refine hK2 _ _ _ ?_
    clear hK2 K2
    refine c_ift rfl rfl ?_
    refine c_seq (fun K3 hK3 => ?_)
    refine c_region ?_
    refine r_s rfl ?_
    refine s_call0 rfl Try.call32 rfl (answers7_w _ _) ?_
    rintro _ m2 _ hm2 ⟨rfl, rfl⟩
    replace hm := hm.trans hm2
    replace hz := hz.mono hm2
    replace hzx := hzx.mono hm2
    clear hm2
    refine r_y rfl rfl (y_assign rfl) ?_
    refine r_nil ?_
    refine hK3 _ _ _ ?_
    clear hK3 K3
    refine c_ret ?_
    refine e_ret 1 hm (res_tmps rfl) ?_
    first | exact ⟨rfl, rfl⟩ | exact ⟨congrArg Value.bool (by simp [hli]), rfl⟩
  ·
    refine r_yg rfl hS1 rfl (y_fieldAddr rfl At.lit fo32_3 rfl) ?_
    refine r_yg rfl hS1 rfl (y_load_s rfl ts30 (RdS.blk (i := 0) rfl rfl)) ?_
    refine r_yg rfl hS1 rfl (y_len tl30 rfl) ?_
    refine r_yg rfl hS1 rfl (y_iop rfl rfl rfl) ?_
    refine r_y rfl rfl (y_pickf rfl hS1 rfl) ?_
    refine r_nil ?_
    refine hK2 _ _ _ ?_
    clear hK2 K2
    refine c_cond rfl (fun hS => ?_) (fun hS => ?_)
    ·
      refine c_seq (fun K4 hK4 => ?_)
      refine c_region ?_
      refine r_s rfl ?_
      refine s_call0 rfl Try.call32 rfl (answers7_w _ _) ?_
      rintro _ m2 _ hm2 ⟨rfl, rfl⟩
      replace hm := hm.trans hm2
      replace hz := hz.mono hm2
      replace hzx := hzx.mono hm2
      clear hm2
      refine r_y rfl rfl (y_assign rfl) ?_
      refine r_nil ?_
      refine hK4 _ _ _ ?_
      clear hK4 K4
      refine c_ret ?_
      refine e_ret 1 hm (res_tmps rfl) ?_
      first | exact ⟨rfl, rfl⟩ | exact ⟨congrArg Value.bool (by simp [hli]), rfl⟩
    ·
      refine c_skip ?_
      refine hK1 _ _ _ ?_
      clear hK1 K1
      refine c_seq (fun K5 hK5 => ?_)
      refine c_region ?_
      refine r_nilvec 50 32 ?_
      refine r_y rfl rfl (y_assign rfl) ?_
      refine r_nil ?_
      refine hK5 _ _ _ ?_
      clear hK5 K5
      refine c_seq (fun K6 hK6 => ?_)
      refine c_seq (fun K7 hK7 => ?_)
      refine c_region ?_
      refine r_y rfl rfl (y_assign rfl) ?_
      refine r_nil ?_
      refine hK7 _ _ _ ?_
      clear hK7 K7
      refine c_block ?_
      have hl := hz.len
      have hs40 : s1.n ≤ 40 := by simp at hS1; omega
      have hall : AllA m [] := fun p hp => (by cases hp)
      replace hall := hall.mono hm
      refine c_loopx (α := Nat × List (RuleD × Sl) × Sl) (fun vv => match vv with | (i, li, sv) => [(0, s1.v), (3, .pointer (some ⟨b0, 0, none⟩)), (5, sv.v), (6, .int .i64 (i : Nat))]) (fun vv => match vv with | (i, li, sv) => .vec sv.a sv.n sv.cap 50 32 (li.map fun p => encRule p.1 p.2) :: .blk b0 (.cells (encMod x sm).toArray 32) :: H) (fun k0 vv m1 => match vv with | (i, li, sv) => (i + k0 = s1.n ∧ sv.n = i ∧ li.map (·.1) = (l1.map (·.1)).take i) ∧ m.le m1 ∧ (FzR m1 s1 l1) ∧ (AllA m1 li) ∧ (FzA m1 sm x.acts)) (s1.n) (0, [], zSl) ⟨rfl, rfl, rfl, rfl, trivial⟩ rfl ⟨⟨by omega, rfl, rfl⟩, hm, hz, hall, hzx⟩ ?_
      clear hm hz hall hzx
      rintro k0 ⟨i, li, sv⟩ m1 ⟨hi0, hm, hz, hall, hzx⟩
      obtain ⟨hi, hsn, hro⟩ := hi0
      refine c_seq (fun K8 hK8 => ?_)
      refine c_seq (fun K9 hK9 => ?_)
      refine c_region ?_
      refine r_y rfl rfl (y_move rfl) ?_
      refine r_y rfl rfl (y_move rfl) ?_
      refine r_y rfl rfl (y_len tl33 rfl) ?_
      refine r_y rfl rfl (y_iop rfl rfl rfl) ?_
      refine r_nil ?_
      refine hK9 _ _ _ ?_
      clear hK9 K9
      refine c_cond rfl (fun h0 => ?_) (fun h0 => ?_)
      ·
        have hlt : i < s1.n := by simp at h0; omega
        obtain ⟨r, hr⟩ := get_of_lt (l := l1) (k := i) (by omega)
        refine c_skip ?_
        refine hK8 _ _ _ ?_
        clear hK8 K8
        refine c_seq (fun K10 hK10 => ?_)
        refine c_block ?_
        refine c_seq (fun K11 hK11 => ?_)
        refine c_region ?_
        refine r_y rfl rfl (y_move rfl) ?_
        refine r_y rfl rfl (y_move rfl) ?_
        refine r_y rfl rfl (y_indexAddr_slice rfl rfl tl33 hlt (At.fz hz.fz hlt)) ?_
        refine r_y rfl rfl (y_load_a rfl ts50 (RdA.fz0 hz.fz (map_get hr))) ?_
        refine r_s rfl ?_
        refine s_alloc rfl tz50 (fun b1 => ?_)
        refine r_s rfl ?_
        refine s_store (us := encRule r.1 r.2) rfl rfl rfl ts50 rfl rfl (one_rule _ _) (i := 0) rfl rfl ?_
        refine r_nil ?_
        refine hK11 _ _ _ ?_
        clear hK11 K11
        refine c_seq (fun K12 hK12 => ?_)
        refine c_region ?_
        refine r_s rfl ?_
        refine s_buildSlice (cs := []) (e := 53) rfl rfl (fun _ => by kernel_rfl) (fun b2 => ?_)
        refine r_toVec (i := 0) (s := 4) (k := 0) [] rfl rfl (fun c h => by cases h) rfl (Nat.zero_le _) ?_
        refine r_y rfl rfl (y_fieldAddr rfl At.lit fo50_2 rfl) ?_
        refine r_y rfl rfl (y_load_s rfl ts30 (RdS.blk (i := 1) rfl rfl)) ?_
        have hxa := (hz.acts r (List.mem_of_getElem? hr)).1.lenA
        have hxb := hfa r (List.mem_of_getElem? hr)
        refine r_s rfl ?_
        refine s_append rfl rfl rfl tl30 zo53 tb53 (i := 0) rfl (Src.fz (hz.acts r (List.mem_of_getElem? hr)).1 (one_acts _) (hz.acts r (List.mem_of_getElem? hr)).2) (by omega) (by unfold maxLen; omega) (fun a1 c1 => ?_)
        refine r_freezeVec (i := 0) rfl rfl (fun m3 hm3 hza hna => ?_)
        replace hm := hm.trans hm3
        replace hz := hz.mono hm3
        replace hall := hall.mono hm3
        replace hzx := hzx.mono hm3
        clear hm3
        refine r_y rfl rfl (y_fieldAddr rfl At.lit fo50_2 rfl) ?_
        refine r_s rfl ?_
        refine s_store rfl rfl rfl ts30 rfl rfl (by simp [Value.oneCell', wv, Sl.v]) (i := 0) rfl rfl ?_
        refine r_nil ?_
        refine hK12 _ _ _ ?_
        clear hK12 K12
        refine c_region ?_
        refine r_y rfl rfl (y_move rfl) ?_
        refine r_y rfl rfl (y_load_a (cs := encRule r.1 ⟨a1, 0 + r.2.n, c1⟩) rfl ts50 (RdA.blk (i := 0) rfl rfl)) ?_
        refine r_s rfl ?_
        refine s_buildSlice (cs := (encRule r.1 ⟨a1, 0 + r.2.n, c1⟩)) (e := 50) rfl rfl (fun _ => by kernel_rfl) (fun b3 => ?_)
        refine r_s rfl ?_
        refine s_append rfl rfl rfl tl33 zo50 tb50 (i := 2) rfl (Src.one' (i := 0) rfl rfl (one_rule _ _)) (by omega) (by unfold maxLen; omega) (fun a2 c2 => ?_)
        refine r_del 0 rfl ?_
        refine r_y rfl rfl (y_assign rfl) ?_
        refine r_nil ?_
        refine hK10 _ _ _ ?_
        clear hK10 K10
        refine c_region ?_
        refine r_del 0 rfl ?_
        refine r_y rfl rfl (y_move rfl) ?_
        first | refine r_y rfl rfl (y_inc rfl (by omega)) ?_ | refine r_y rfl rfl (y_iop rfl rfl rfl) ?_
        refine r_y rfl rfl (y_assign rfl) ?_
        refine r_nil ?_
        replace hall := hall.snoc (x := r.1) (s := ⟨a1, 0 + r.2.n, c1⟩) hza hna
        exact ⟨k0 - 1, (i + 1, li ++ [(r.1, ⟨a1, 0 + r.2.n, c1⟩)], ⟨a2, sv.n + 1, c2⟩), by omega, ⟨rfl, rfl, rfl, rfl, trivial⟩, (by simp only [List.map_append]; rfl), ⟨by omega, by simp [hsn], by rw [List.map_append, hro, List.take_add_one, map_get hr]; rfl⟩, hm, hz, hall, hzx⟩
      ·
        refine c_exit ?_
        refine hK6 _ _ _ ?_
        clear hK8 K8 hK6 K6
        refine c_seq (fun K13 hK13 => ?_)
        refine c_region ?_
        refine r_freezeVec (i := 0) rfl rfl (fun m3 hm3 hzi hni => ?_)
        replace hm := hm.trans hm3
        replace hz := hz.mono hm3
        replace hall := hall.mono hm3
        replace hzx := hzx.mono hm3
        clear hm3
        have hzin : FzR _ sv li := ⟨hzi, hall⟩
        obtain rfl : i = s1.n := by simp at h0; omega
        have hli : li.map (·.1) = l1.map (·.1) := by rw [hro]; exact List.take_of_length_le (by simp; omega)
        have hfl := acts_le hfa hli
        have hlil : li.length = l1.length := by have := congrArg List.length hli; simpa using this
        refine r_y rfl rfl (y_load_a (cs := encMod x sm) rfl ts32 (RdA.blk (i := 0) rfl rfl)) ?_
        refine r_s rfl ?_
        refine s_alloc rfl tz32 (fun b1 => ?_)
        refine r_s rfl ?_
        refine s_store (us := encMod x sm) rfl rfl rfl ts32 rfl rfl (one_mod _ _) (i := 0) rfl rfl ?_
        refine r_nil ?_
        refine hK13 _ _ _ ?_
        clear hK13 K13
        refine c_seq (fun K14 hK14 => ?_)
        refine c_region ?_
        refine r_s rfl ?_
        refine s_buildSlice (cs := []) (e := 53) rfl rfl (fun _ => by kernel_rfl) (fun b2 => ?_)
        refine r_toVec (i := 0) (s := 4) (k := 0) [] rfl rfl (fun c h => by cases h) rfl (Nat.zero_le _) ?_
        refine r_y rfl rfl (y_fieldAddr rfl At.lit fo32_3 rfl) ?_
        refine r_y rfl rfl (y_load_s rfl ts30 (RdS.blk (i := 2) rfl rfl)) ?_
        have hxm := hzx.lenA
        refine r_s rfl ?_
        refine s_append rfl rfl rfl tl30 zo53 tb53 (i := 0) rfl (Src.fz hzx (one_acts _) hokx) (by omega) (by unfold maxLen; omega) (fun a6 c6 => ?_)
        refine r_freezeVec (i := 0) rfl rfl (fun m3 hm3 hzm hnm => ?_)
        replace hm := hm.trans hm3
        replace hz := hz.mono hm3
        replace hall := hall.mono hm3
        replace hzx := hzx.mono hm3
        replace hzi := hzi.mono hm3
        replace hzin := hzin.mono hm3
        clear hm3
        refine r_y rfl rfl (y_fieldAddr rfl At.lit fo32_3 rfl) ?_
        refine r_s rfl ?_
        refine s_store rfl rfl rfl ts30 rfl rfl (by simp [Value.oneCell', wv, Sl.v]) (i := 0) rfl rfl ?_
        refine r_nil ?_
        refine hK14 _ _ _ ?_
        clear hK14 K14
        refine c_seq (fun K15 hK15 => ?_)
        refine c_region ?_
        refine r_y rfl rfl (y_move rfl) ?_
        refine r_y rfl rfl (y_load_a (cs := encMod x ⟨a6, 0 + sm.n, c6⟩) rfl ts32 (RdA.blk (i := 0) rfl rfl)) ?_
        refine r_s rfl ?_
        refine s_call0 rfl Try.call33 rfl (apply_w sv li x ⟨a6, 0 + sm.n, c6⟩ 1000 _ _ hzin hfl (by omega) hzm hnm hfx) ?_
        rintro _ m2 _ hm2 ⟨a, n, c, cap, lo, rfl, hnl, hnc, hlo, hok1, rfl⟩
        replace hm := hm.trans hm2
        replace hz := hz.mono hm2
        replace hall := hall.mono hm2
        replace hzx := hzx.mono hm2
        replace hzi := hzi.mono hm2
        replace hzin := hzin.mono hm2
        replace hzm := hzm.mono hm2
        clear hm2
        refine r_y rfl rfl (y_move rfl) ?_
        refine r_y rfl rfl (y_extract rfl rfl) ?_
        refine r_y rfl rfl (y_extract rfl rfl) ?_
        refine r_y rfl rfl (y_assign rfl) ?_
        refine r_y rfl rfl (y_assign rfl) ?_
        refine r_nil ?_
        refine hK15 _ _ _ ?_
        clear hK15 K15
        refine c_seq (fun K16 hK16 => ?_)
        refine c_seq (fun K17 hK17 => ?_)
        refine c_region ?_
        have hn41 : n ≤ 41 := by have h3 := congrArg List.length hlo; have h4 := applyR_len (li.map (·.1)) x 1000; simp [rulesO] at h3 h4; omega
        refine r_y rfl rfl (y_assign rfl) ?_
        refine r_nil ?_
        refine hK17 _ _ _ ?_
        clear hK17 K17
        refine c_block ?_
        refine c_loopx (α := Nat × List OwnR) (fun vv => match vv with | (i, ld) => [(0, s1.v), (3, .pointer (some ⟨b0, 0, none⟩)), (5, sv.v), (8, .pointer (some ⟨b1, 0, none⟩)), (9, .slice a n c), (11, .int .i64 (i : Nat))]) (fun vv => match vv with | (i, ld) => rowO a n cap ld :: (itsO ld ++ (.blk b1 (.cells (encMod x ⟨a6, 0 + sm.n, c6⟩).toArray 32) :: .blk b0 (.cells (encMod x sm).toArray 32) :: H))) (fun k1 vv m1 => match vv with | (i, ld) => (i + k1 = n ∧ ld.length = n ∧ (∀ o ∈ ld, o.ok) ∧ True) ∧ m.le m1 ∧ (FzR m1 s1 l1) ∧ (FzR m1 sv li) ∧ (FzA m1 sm x.acts) ∧ (Fz m1 a6 (0 + sm.n) c6 4 ([] ++ x.acts.map encAct))) (n) (0, lo) ⟨rfl, rfl, rfl, rfl, rfl, rfl, trivial⟩ rfl ⟨⟨by omega, by omega, hok1, trivial⟩, hm, hz, hzin, hzx, hzm⟩ ?_
        clear hm hz hzin hzx hzm
        rintro k1 ⟨i, ld⟩ m1 ⟨hi1, hm, hz, hzin, hzx, hzm⟩
        obtain ⟨hi, hlc, hokc, hex⟩ := hi1
        refine c_seq (fun K18 hK18 => ?_)
        refine c_seq (fun K19 hK19 => ?_)
        refine c_region ?_
        refine r_y rfl rfl (y_move rfl) ?_
        refine r_y rfl rfl (y_move rfl) ?_
        refine r_y rfl rfl (y_len tl33 rfl) ?_
        refine r_y rfl rfl (y_iop rfl rfl rfl) ?_
        refine r_nil ?_
        refine hK19 _ _ _ ?_
        clear hK19 K19
        refine c_cond rfl (fun h1 => ?_) (fun h1 => ?_)
        ·
          have hlt : i < n := by simp at h1; omega
          obtain ⟨o, ho⟩ := get_of_lt (l := ld) (k := i) (by omega)
          refine c_skip ?_
          refine hK18 _ _ _ ?_
          clear hK18 K18
          refine c_seq (fun K20 hK20 => ?_)
          refine c_block ?_
          refine c_seq (fun K21 hK21 => ?_)
          refine c_region ?_
          refine r_y rfl rfl (y_assign rfl) ?_
          refine r_nil ?_
          refine hK21 _ _ _ ?_
          clear hK21 K21
          refine c_block ?_
          refine c_perm _ (perm_take ho _ _) ?_
          refine c_vecfacts (i := 0) (a := o.s.a) (len := o.s.n) (cap := o.k) (e := 53) (s := 4) (cs := o.r.acts.map encAct) rfl (fun _ hom hla _ _ => ?_)
          unfold maxLen at hom
          refine c_loopx (α := Nat × List ActD) (fun vv => match vv with | (k, la) => [(0, s1.v), (3, .pointer (some ⟨b0, 0, none⟩)), (5, sv.v), (8, .pointer (some ⟨b1, 0, none⟩)), (9, .slice a n c), (11, .int .i64 (i : Nat)), (12, .int .i64 (k : Nat))]) (fun vv => match vv with | (k, la) => (o.withActs la).it :: rowO a n cap ld :: (itsX ld i ++ (.blk b1 (.cells (encMod x ⟨a6, 0 + sm.n, c6⟩).toArray 32) :: .blk b0 (.cells (encMod x sm).toArray 32) :: H))) (fun k2 vv m1 => match vv with | (k, la) => (k + k2 = o.s.n ∧ la.length = o.s.n) ∧ m.le m1 ∧ (FzR m1 s1 l1) ∧ (FzR m1 sv li) ∧ (FzA m1 sm x.acts) ∧ (Fz m1 a6 (0 + sm.n) c6 4 ([] ++ x.acts.map encAct))) (o.s.n) (0, o.r.acts) ⟨rfl, rfl, rfl, rfl, rfl, rfl, rfl, trivial⟩ rfl ⟨⟨by omega, by simpa using hla⟩, hm, hz, hzin, hzx, hzm⟩ ?_
          clear hm hz hzin hzx hzm
          rintro k2 ⟨k, la⟩ m1 ⟨hi2, hm, hz, hzin, hzx, hzm⟩
          obtain ⟨hk, hla2⟩ := hi2
          refine c_seq (fun K22 hK22 => ?_)
          refine c_seq (fun K23 hK23 => ?_)
          refine c_region ?_
          refine r_y rfl rfl (y_move rfl) ?_
          refine r_y rfl rfl (y_move rfl) ?_
          refine r_y rfl rfl (y_move rfl) ?_
          refine r_y rfl rfl (y_indexAddr_slice (k := i) rfl rfl tl33 hlt (At.vec (i := 1) rfl hlt)) ?_
          refine r_y rfl rfl (y_fieldAddr rfl ((At.vec (k := i) (i := 1) rfl hlt).eadd) fo50_2 (eadd_eadd _ _ _)) ?_
          refine r_y rfl rfl (y_load_s rfl ts30 (RdS.vec (k := i) (j := 25) (i := 1) rfl rfl (map_get ho) rfl)) ?_
          refine r_y rfl rfl (y_len tl30 rfl) ?_
          refine r_y rfl rfl (y_iop rfl rfl rfl) ?_
          refine r_nil ?_
          refine hK23 _ _ _ ?_
          clear hK23 K23
          refine c_cond rfl (fun hk1 => ?_) (fun hk1 => ?_)
          ·
            have hkl : k < o.s.n := by simp at hk1; omega
            obtain ⟨x, hx⟩ := get_of_lt (l := la) (k := k) (by omega)
            refine c_skip ?_
            refine hK22 _ _ _ ?_
            clear hK22 K22
            refine c_seq (fun K24 hK24 => ?_)
            refine c_block ?_
            refine c_region ?_
            refine r_y rfl rfl (y_move rfl) ?_
            refine r_y rfl rfl (y_move rfl) ?_
            refine r_y rfl rfl (y_indexAddr_slice (k := i) rfl rfl tl33 hlt (At.vec (i := 1) rfl hlt)) ?_
            refine r_y rfl rfl (y_fieldAddr rfl ((At.vec (k := i) (i := 1) rfl hlt).eadd) fo50_2 (eadd_eadd _ _ _)) ?_
            refine r_y rfl rfl (y_load_s rfl ts30 (RdS.vec (k := i) (j := 25) (i := 1) rfl rfl (map_get ho) rfl)) ?_
            refine r_y rfl rfl (y_move rfl) ?_
            refine r_y rfl rfl (y_indexAddr_slice (k := k) rfl rfl tl30 hkl (At.vec (i := 0) rfl hkl)) ?_
            refine r_y rfl rfl (y_fieldAddr rfl ((At.vec (k := k) (i := 0) rfl hkl).eadd) fo53_1 (eadd_eadd _ _ _)) ?_
            refine r_y rfl rfl (y_load_s rfl ts3 (RdS.vec (k := k) (j := 1) (i := 0) rfl rfl (map_get hx) rfl)) ?_
            first | refine r_y rfl rfl (y_inc rfl (by omega)) ?_ | refine r_y rfl rfl (y_iop rfl rfl rfl) ?_
            refine r_y rfl rfl (y_indexAddr_slice (k := k) rfl rfl tl30 hkl (At.vec (i := 0) rfl hkl)) ?_
            refine r_y rfl rfl (y_fieldAddr rfl ((At.vec (k := k) (i := 0) rfl hkl).eadd) fo53_1 (eadd_eadd _ _ _)) ?_
            refine r_s rfl ?_
            refine s_storev (k := k) (j := 1) (c := encAct x) rfl rfl rfl ts3 rfl rfl (by simp [Value.oneCell']) (i := 0) rfl (map_get hx) rfl ?_
            refine r_nil ?_
            refine hK24 _ _ _ ?_
            clear hK24 K24
            refine c_region ?_
            refine r_y rfl rfl (y_move rfl) ?_
            first | refine r_y rfl rfl (y_inc rfl (by omega)) ?_ | refine r_y rfl rfl (y_iop rfl rfl rfl) ?_
            refine r_y rfl rfl (y_assign rfl) ?_
            refine r_nil ?_
            exact ⟨k2 - 1, (k + 1, la.set k { x with port := IntKind.i64.wrap (x.port + 1) }), by omega, ⟨rfl, rfl, rfl, rfl, rfl, rfl, rfl, trivial⟩, (by simp only [OwnR.it, OwnR.withActs, List.map_set]; rfl), ⟨by omega, by simpa using hla2⟩, hm, hz, hzin, hzx, hzm⟩
          ·
            refine c_exit ?_
            refine hK20 _ _ _ ?_
            clear hK22 K22 hK20 K20
            refine c_region ?_
            refine r_perm _ (perm_put (by omega) (o.withActs la) _ _) ?_
            refine r_y rfl rfl (y_move rfl) ?_
            first | refine r_y rfl rfl (y_inc rfl (by omega)) ?_ | refine r_y rfl rfl (y_iop rfl rfl rfl) ?_
            refine r_y rfl rfl (y_assign rfl) ?_
            refine r_nil ?_
            exact ⟨k1 - 1, (i + 1, ld.set i (o.withActs la)), by omega, ⟨rfl, rfl, rfl, rfl, rfl, rfl, trivial⟩, (by simp only [rowO, map_enc_set ho (enc_withActs o la)]), ⟨by omega, by simpa using hlc, ok_set hokc (hokc o (List.mem_of_getElem? ho)), trivial⟩, hm, hz, hzin, hzx, hzm⟩
        ·
          refine c_exit ?_
          refine hK16 _ _ _ ?_
          clear hK18 K18 hK16 K16
          refine c_seq (fun K25 hK25 => ?_)
          refine c_region ?_
          refine r_freezeO rfl hokc (fun m3 hm3 hzc hnc3 => ?_)
          replace hm := hm.trans hm3
          replace hz := hz.mono hm3
          replace hzin := hzin.mono hm3
          replace hzx := hzx.mono hm3
          replace hzm := Fz.mono hzm hm3
          refine r_s rfl ?_
          refine s_call0 rfl Try.call32 rfl (answers7_w _ _) ?_
          rintro _ m2 _ hm2 ⟨rfl, rfl⟩
          replace hm := hm.trans hm2
          replace hz := hz.mono hm2
          replace hzin := hzin.mono hm2
          replace hzx := hzx.mono hm2
          replace hzm := hzm.mono hm2
          clear hm2
          refine r_y rfl rfl (y_move rfl) ?_
          refine r_yg rfl rfl rfl (y_move rfl) ?_
          refine r_yg rfl rfl rfl (y_move rfl) ?_
          refine r_sg rfl rfl ?_
          refine s_call0 rfl Try.call35 rfl (rSame_w sv s1 li l1 _ _ hzin hz) ?_
          rintro _ m2 _ hm2 ⟨rfl, rfl⟩
          replace hm := hm.trans hm2
          replace hz := hz.mono hm2
          replace hzin := hzin.mono hm2
          replace hzx := hzx.mono hm2
          replace hzm := hzm.mono hm2
          clear hm2
          refine r_y rfl rfl (y_pickt rfl rfl rfl) ?_
          refine r_y rfl rfl (y_move rfl) ?_
          refine r_yg rfl (by simp [hli]) rfl (y_load_a (cs := encMod x ⟨a6, 0 + sm.n, c6⟩) rfl ts32 (RdA.blk (i := 0) rfl rfl)) ?_
          refine r_yg rfl (by simp [hli]) rfl (y_load_a (cs := encMod x sm) rfl ts32 (RdA.blk (i := 1) rfl rfl)) ?_
          refine r_sg rfl (by simp [hli]) ?_
          refine s_call0 rfl Try.call40 rfl (rSameMods_w x x ⟨a6, 0 + sm.n, c6⟩ sm _ _ hzm hzx) ?_
          rintro _ m2 _ hm2 ⟨rfl, rfl⟩
          replace hm := hm.trans hm2
          replace hz := hz.mono hm2
          replace hzin := hzin.mono hm2
          replace hzx := hzx.mono hm2
          replace hzm := hzm.mono hm2
          clear hm2
          refine r_y rfl rfl (y_pickt rfl (by simp [hli]) rfl) ?_
          refine r_y rfl rfl (y_assign rfl) ?_
          refine r_nil ?_
          refine hK25 _ _ _ ?_
          clear hK25 K25
          refine c_ret ?_
          refine e_ret 2 hm (res_tmps rfl) ?_
          first | exact ⟨rfl, rfl⟩ | exact ⟨congrArg Value.bool (by simp [hli]), rfl⟩
end Go.Aw
