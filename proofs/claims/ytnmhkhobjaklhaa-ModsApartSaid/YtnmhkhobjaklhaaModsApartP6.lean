/- Part 6 of the words and walks that the proof behind it uses. -/
import Derived.Test.YtnmhkhobjaklhaaModsApartP5
import Derived.Laws.IdiomStrings
set_option linter.unusedVariables false
set_option linter.unusedSimpArgs false
set_option maxHeartbeats 1000000
namespace Go.Aw
open Go Go.Proofs
set_option maxRecDepth 100000 in
theorem add_w (s1 : Sl) (l1 : List (RuleD × Sl)) (x : ModD) (sm : Sl) (room : Int) (m : Snap) (H : Hp) (hz : FzR m s1 l1) (hfa : ∀ p ∈ l1, p.1.acts.length ≤ 4398046511103) (hfit : l1.length < 1000000) (hzx : FzA m sm x.acts) (hokx : sm.ok) (hfx : x.acts.length ≤ 4398046511103) (hsrt : Srt (l1.map (·.1))) : Fn Try.prog 81 [s1.v, .agg (encMod x sm).toArray, .int .i64 room] m H (fun v m' H' => ∃ (a : Option Addr) (n c cap : Nat) (lo : List OwnR), v = .tuple [.slice a n c, i64 (addR (l1.map (·.1)) x room).2].toArray ∧ n = lo.length ∧ (c = n ∨ c = cap) ∧ rulesO lo = (addR (l1.map (·.1)) x room).1 ∧ (∀ o ∈ lo, o.ok) ∧ H' = rowO a n cap lo :: (itsO lo ++ H)) := by
  have hl := hz.len
  have hm : m.le m := Snap.le.refl m
  refine fn_end Try.func81 rfl rfl rfl ?_
  refine c_seq (fun K0 hK0 => ?_)
  refine c_region ?_
  refine r_s rfl ?_
  refine s_box_a rfl rfl (fun b0 => ?_)
  refine r_y rfl rfl (y_assign rfl) ?_
  refine r_y rfl rfl (y_assign rfl) ?_
  refine r_nil ?_
  refine hK0 _ _ _ ?_
  clear hK0 K0
  refine c_seq (fun K1 hK1 => ?_)
  refine c_region ?_
  refine r_y rfl rfl (y_load_a (cs := encMod x sm) rfl ts32 (RdA.blk (i := 0) rfl rfl)) ?_
  refine r_s rfl ?_
  refine s_call0 rfl Try.call129 rfl (modRule_w x sm _ _ hzx hokx hfx) ?_
  rintro _ m2 _ hm2 ⟨o, rfl, hor, hoo, rfl⟩
  replace hm := hm.trans hm2
  replace hz := hz.mono hm2
  replace hzx := hzx.mono hm2
  clear hm2
  refine r_s rfl ?_
  refine s_alloc rfl tz50 (fun b1 => ?_)
  refine r_s rfl ?_
  refine s_store (us := o.enc) rfl rfl rfl ts50 rfl rfl (one_own _) (i := 0) rfl rfl ?_
  refine r_nil ?_
  refine hK1 _ _ _ ?_
  clear hK1 K1
  refine c_seq (fun K2 hK2 => ?_)
  refine c_region ?_
  refine r_y rfl rfl (y_move rfl) ?_
  refine r_y rfl rfl (y_makeFunc rfl) ?_
  refine r_s rfl ?_
  refine s_call0 rfl Try.call118 rfl (idxRules_w s1 l1 130 [.pointer (some ⟨b1, 0, none⟩)] (fun r => ruleKey r o.r) _ _ hz Try.call130 (fun m' z _ _ => add1_w z.1 o.r z.2 o.s b1 m' _)) ?_
  rintro _ m2 _ hm2 ⟨rfl, rfl⟩
  replace hm := hm.trans hm2
  replace hz := hz.mono hm2
  replace hzx := hzx.mono hm2
  clear hm2
  refine r_y rfl rfl (y_assign rfl) ?_
  refine r_nil ?_
  refine hK2 _ _ _ ?_
  clear hK2 K2
  refine c_seq (fun K3 hK3 => ?_)
  refine c_region ?_
  refine r_y rfl rfl (y_makeFunc rfl) ?_
  refine r_y rfl rfl (y_assign rfl) ?_
  refine r_nil ?_
  refine hK3 _ _ _ ?_
  clear hK3 K3
  refine c_seq (fun K4 hK4 => ?_)
  refine c_block ?_
  refine c_seq (fun K5 hK5 => ?_)
  refine c_draw ([.blk b0 (.cells (encMod x sm).toArray 32)]) (by kernel_rfl) (fun hg => ?_)
  have hz_g := hz
  have hzx_g := hzx
  refine g_y (i := 0) (listed' := #[true, false, false, false, false, false, false, false, false, false, false, false, false]) rfl (by kernel_rfl) (by kernel_rfl) (by kernel_rfl) (by kernel_rfl) rfl rfl hg (allc (List.Mem.tail _ (List.Mem.tail _ (List.Mem.head _))) alln) (fun m' H' hm' hX' => y_move rfl) ?_
  refine g_y (i := 1) (listed' := #[true, true, false, false, false, false, false, false, false, false, false, false, false]) rfl (by kernel_rfl) (by kernel_rfl) (by kernel_rfl) (by kernel_rfl) rfl rfl hg (allc (List.Mem.tail _ (List.Mem.tail _ (List.Mem.head _))) alln) (fun m' H' hm' hX' => y_iop rfl rfl rfl) ?_
  refine g_y (i := 2) (listed' := #[true, true, true, false, false, false, false, false, false, false, false, false, false]) rfl (by kernel_rfl) (by kernel_rfl) (by kernel_rfl) (by kernel_rfl) rfl rfl hg (allc (List.Mem.tail _ (List.Mem.tail _ (List.Mem.head _))) alln) (fun m' H' hm' hX' => y_move rfl) ?_
  refine g_split (j := 2) rfl (fun hI => ?_) (fun hI => ?_)
  ·
    refine g_yg (i := 3) (listed' := #[true, true, true, true, false, false, false, false, false, false, false, false, false]) rfl (by kernel_rfl) (by kernel_rfl) (by kernel_rfl) (by kernel_rfl) rfl rfl hI rfl hg (allc (List.Mem.tail _ (List.Mem.tail _ (List.Mem.head _))) alln) (fun m' H' hm' hX' => y_move rfl) ?_
    refine g_yg (i := 4) (listed' := #[true, true, true, true, true, false, false, false, false, false, false, false, false]) rfl (by kernel_rfl) (by kernel_rfl) (by kernel_rfl) (by kernel_rfl) rfl rfl hI rfl hg (allc (List.Mem.tail _ (List.Mem.tail _ (List.Mem.head _))) alln) (fun m' H' hm' hX' => y_move rfl) ?_
    obtain ⟨k, z, hk, hz1, hpk⟩ := idxF_pos (by simpa using hI)
    rw [List.getElem?_map] at hz1
    obtain ⟨y, hx, rfl⟩ := Option.map_eq_some_iff.1 hz1
    rw [hor] at hpk
    have hymem : y.1 ∈ l1.map (·.1) := List.mem_map.2 ⟨y, List.mem_of_getElem? hx, rfl⟩
    have hany : (l1.map (·.1)).any (fun z => ruleKey z (modRule x)) = true := List.any_eq_true.2 ⟨_, hymem, hpk⟩
    have hown : (l1.map (·.1)).any (fun z => ruleKey z (modRule x) && (z.owner != x.owner)) = (y.1.owner != x.owner) := any_owner hsrt hymem hpk
    have hlt : k < s1.n := by have := (List.getElem?_eq_some_iff.1 hx).1; omega
    refine g_yg (i := 5) (listed' := #[true, true, true, true, true, true, false, false, false, false, false, false, false]) rfl (by kernel_rfl) (by kernel_rfl) (by kernel_rfl) (by kernel_rfl) rfl rfl hI rfl hg (allc (List.Mem.tail _ (List.Mem.tail _ (List.Mem.head _))) alln) (fun m' H' hm' hX' => y_indexAddr_sl rfl rfl hk tl33 hlt (At.fz (hz_g.fz.mono hm') hlt)) ?_
    refine g_yg (i := 6) (listed' := #[true, true, true, true, true, true, true, false, false, false, false, false, false]) rfl (by kernel_rfl) (by kernel_rfl) (by kernel_rfl) (by kernel_rfl) rfl rfl hI rfl hg (allc (List.Mem.tail _ (List.Mem.tail _ (List.Mem.head _))) alln) (fun m' H' hm' hX' => y_fieldAddr rfl ((At.fz (hz_g.fz.mono hm') hlt).eadd) fo50_5 (eadd_eadd _ _ _)) ?_
    refine g_yg (i := 7) (listed' := #[true, true, true, true, true, true, true, true, false, false, false, false, false]) rfl (by kernel_rfl) (by kernel_rfl) (by kernel_rfl) (by kernel_rfl) rfl rfl hI rfl hg (allc (List.Mem.tail _ (List.Mem.tail _ (List.Mem.head _))) alln) (fun m' H' hm' hX' => y_load_s rfl ts3 (RdS.fz (hz_g.fz.mono hm') (map_get hx) rfl)) ?_
    refine g_yg (i := 8) (listed' := #[true, true, true, true, true, true, true, true, true, false, false, false, false]) rfl (by kernel_rfl) (by kernel_rfl) (by kernel_rfl) (by kernel_rfl) rfl rfl hI rfl hg (allc (List.Mem.tail _ (List.Mem.tail _ (List.Mem.head _))) alln) (fun m' H' hm' hX' => y_fieldAddr rfl At.lit fo32_6 rfl) ?_
    refine g_yg (i := 9) (listed' := #[true, true, true, true, true, true, true, true, true, true, false, false, false]) rfl (by kernel_rfl) (by kernel_rfl) (by kernel_rfl) (by kernel_rfl) rfl rfl hI rfl hg (allc (List.Mem.tail _ (List.Mem.tail _ (List.Mem.head _))) alln) (fun m' H' hm' hX' => y_load_s rfl ts3 (RdS.mem (hX' _ (List.Mem.head _)) rfl)) ?_
    refine g_yg (i := 10) (listed' := #[true, true, true, true, true, true, true, true, true, true, true, false, false]) rfl (by kernel_rfl) (by kernel_rfl) (by kernel_rfl) (by kernel_rfl) rfl rfl hI rfl hg (allc (List.Mem.tail _ (List.Mem.tail _ (List.Mem.head _))) alln) (fun m' H' hm' hX' => y_iop rfl rfl rfl) ?_
    refine g_y (i := 11) (listed' := #[true, true, true, true, true, true, true, true, true, true, true, true, false]) rfl (by kernel_rfl) (by kernel_rfl) (by kernel_rfl) (by kernel_rfl) rfl rfl hg (allc (List.Mem.tail _ (List.Mem.tail _ (List.Mem.head _))) alln) (fun m' H' hm' hX' => y_pickt rfl hI rfl) ?_
    refine g_y (i := 12) (listed' := #[true, true, true, true, true, true, true, true, true, true, true, true, true]) rfl (by kernel_rfl) (by kernel_rfl) (by kernel_rfl) (by kernel_rfl) rfl rfl hg (allc (List.Mem.tail _ (List.Mem.tail _ (List.Mem.head _))) alln) (fun m' H' hm' hX' => y_assign rfl) ?_
    refine g_done (by kernel_rfl) ?_
    clear hg hz_g hzx_g
    refine hK5 _ _ _ ?_
    clear hK5 K5
    refine c_cond rfl (fun hW => ?_) (fun hW => ?_)
    ·
      refine c_seq (fun K6 hK6 => ?_)
      refine c_region ?_
      refine r_nilvec 50 32 ?_
      refine r_y rfl rfl (y_assign rfl) ?_
      refine r_y rfl rfl (y_assign rfl) ?_
      refine r_nil ?_
      refine hK6 _ _ _ ?_
      clear hK6 K6
      refine c_ret ?_
      refine e_retf [0, 1, 2, 3] 3 hm (res_tmps rfl) ?_
      rw [addR_7 (by rw [hown]; simpa using hW)]
      exact ⟨none, 0, 0, 0, [], rfl, rfl, .inl rfl, rfl, fun o ho => (by cases ho), rfl⟩
    ·
      refine c_seq (fun K7 hK7 => ?_)
      refine c_region ?_
      refine r_y rfl rfl (y_fieldAddr rfl At.lit fo32_7 rfl) ?_
      refine r_y rfl rfl (y_load_s rfl ts4 (RdS.blk (i := 2) rfl rfl)) ?_
      refine r_y rfl rfl (y_move rfl) ?_
      refine r_split (j := 2) rfl (fun hC => ?_) (fun hC => ?_)
      ·
        refine r_yg rfl hC rfl (y_move rfl) ?_
        refine r_yg rfl hC rfl (y_move rfl) ?_
        refine r_sg rfl hC ?_
        refine s_call0 rfl Try.call133 rfl (hasRules_w s1 l1 131 [.pointer (some ⟨b1, 0, none⟩)] (fun r => !ruleKey r o.r && ruleOverlap r o.r) _ _ hz Try.call131 (fun m' z _ _ => add2_w z.1 o.r z.2 o.s b1 m' _)) ?_
        rintro _ m2 _ hm2 ⟨rfl, rfl⟩
        replace hm := hm.trans hm2
        replace hz := hz.mono hm2
        replace hzx := hzx.mono hm2
        clear hm2
        refine r_y rfl rfl (y_pickt rfl hC rfl) ?_
        refine r_y rfl rfl (y_assign rfl) ?_
        refine r_nil ?_
        refine hK7 _ _ _ ?_
        clear hK7 K7
        refine c_cond rfl (fun hO => ?_) (fun hO => ?_)
        ·
          refine c_seq (fun K8 hK8 => ?_)
          refine c_region ?_
          refine r_nilvec 50 32 ?_
          refine r_y rfl rfl (y_assign rfl) ?_
          refine r_y rfl rfl (y_assign rfl) ?_
          refine r_nil ?_
          refine hK8 _ _ _ ?_
          clear hK8 K8
          refine c_ret ?_
          refine e_retf [0, 1, 2, 3] 3 hm (res_tmps rfl) ?_
          rw [addR_6 (by first | exact hown | (rw [hown]; simpa using hW)) (by first | (rw [hC]; rfl) | (rw [hC, ← hor, hO]; rfl))]
          exact ⟨none, 0, 0, 0, [], rfl, rfl, .inl rfl, rfl, fun o ho => (by cases ho), rfl⟩
        ·
          refine c_seq (fun K9 hK9 => ?_)
          refine c_region ?_
          refine r_y rfl rfl (y_move rfl) ?_
          refine r_y rfl rfl (y_iop rfl rfl rfl) ?_
          refine r_y rfl rfl (y_move rfl) ?_
          refine r_no' rfl rfl (by simp at hI ⊢; omega) ?_
          refine r_no' rfl rfl (by simp at hI ⊢; omega) ?_
          refine r_no' rfl rfl (by simp at hI ⊢; omega) ?_
          refine r_no' rfl rfl (by simp at hI ⊢; omega) ?_
          refine r_y rfl rfl (y_pickf rfl (by simp at hI ⊢; omega) rfl) ?_
          refine r_y rfl rfl (y_assign rfl) ?_
          refine r_nil ?_
          refine hK9 _ _ _ ?_
          clear hK9 K9
          refine c_iff rfl rfl ?_
          refine c_skip ?_
          refine hK4 _ _ _ ?_
          clear hK4 K4
          refine c_seq (fun K10 hK10 => ?_)
          refine c_draw ([]) (by kernel_rfl) (fun hg => ?_)
          have hz_g := hz
          have hzx_g := hzx
          refine g_y (i := 0) (listed' := #[true, false, false, false, false, false, false, false]) rfl (by kernel_rfl) (by kernel_rfl) (by kernel_rfl) (by kernel_rfl) rfl rfl hg alln (fun m' H' hm' hX' => y_move rfl) ?_
          refine g_each (rs := [1, 2]) (by kernel_rfl) (by simp) ⟨⟨_, rfl, rfl, ?_⟩, ⟨_, rfl, rfl, ?_⟩, trivial⟩
          ·
            refine s_call0 rfl Try.call27 rfl (ruleCopyF_w s1 l1 _ _ hz hfa (by omega)) ?_
            rintro _ m2 _ hm2 ⟨a, n, lr, rfl, hzr, hlr, hnn, rfl⟩
            replace hm := hm.trans hm2
            refine ⟨⟨hg.trans hm2, alln⟩, ?_⟩
            replace hg := hg.trans hm2
            replace hz := hz.mono hm2
            replace hzx := hzx.mono hm2
            clear hm2
            refine g_s (i := 2) (listed' := #[true, true, true, false, false, false, false, false]) rfl (by kernel_rfl) (by kernel_rfl) rfl ?_
            refine s_y rfl (y_load_a (cs := o.enc) rfl ts50 (RdA.blk (i := 0) rfl rfl)) ?_
            refine ⟨⟨hg, alln⟩, ?_⟩
            refine g_s (i := 3) (listed' := #[true, true, true, true, false, false, false, false]) rfl (by kernel_rfl) (by kernel_rfl) rfl ?_
            refine s_buildSlice (cs := (o.enc)) (e := 50) rfl rfl (fun _ => by kernel_rfl) (fun b2 => ?_)
            refine ⟨⟨hg, alln⟩, ?_⟩
            have hnl : n ≤ 1000000 := by have h3 := hzr.len; have h4 := congrArg List.length hlr; simp at h3 h4; omega
            refine g_s (i := 4) (listed' := #[true, true, true, true, true, false, false, false]) rfl (by kernel_rfl) (by kernel_rfl) rfl ?_
            refine s_appendf rfl rfl rfl tl33 zo50 tb50 hzr.fz hnn (Src.one' (i := 0) rfl rfl (one_own _)) (by decide) (by omega) (by unfold maxLen; omega) (fun a2 c2 => ?_)
            refine ⟨⟨hg, alln⟩, ?_⟩
            refine g_freezeVec (i := 0) rfl rfl (fun m3 hm3 hzv hnv => ?_)
            replace hm := hm.trans hm3
            replace hg := hg.trans hm3
            replace hz := hz.mono hm3
            replace hzx := hzx.mono hm3
            replace hzr := hzr.mono hm3
            clear hm3
            refine g_freezeVec (i := 2) rfl rfl (fun m3 hm3 hza hna => ?_)
            replace hm := hm.trans hm3
            replace hg := hg.trans hm3
            replace hz := hz.mono hm3
            replace hzx := hzx.mono hm3
            replace hzr := hzr.mono hm3
            replace hzv := hzv.mono hm3
            clear hm3
            refine g_del 0 rfl ?_
            refine g_del 0 rfl ?_
            refine g_del 0 rfl ?_
            have hzt := hzr.snoc hzv hza hoo hna
            refine g_s (i := 5) (listed' := #[true, true, true, true, true, true, false, false]) rfl (by kernel_rfl) (by kernel_rfl) rfl ?_
            refine s_call0 rfl Try.call28 rfl (ruleSort_w ⟨a2, n + 1, c2⟩ (lr ++ [(o.r, o.s)]) _ _ hzt (by have := congrArg List.length hlr; simp at this ⊢; omega)) ?_
            rintro _ m2 _ hm2 ⟨a3, n3, cap3, lo3, rfl, hn3, hlo3, hok3, rfl⟩
            replace hm := hm.trans hm2
            refine ⟨⟨hg.trans hm2, alln⟩, ?_⟩
            replace hg := hg.trans hm2
            replace hz := hz.mono hm2
            replace hzx := hzx.mono hm2
            replace hzr := hzr.mono hm2
            replace hzv := hzv.mono hm2
            replace hza := hza.mono hm2
            clear hm2
            refine g_y (i := 6) (listed' := #[true, true, true, true, true, true, true, false]) rfl (by kernel_rfl) (by kernel_rfl) (by kernel_rfl) (by kernel_rfl) rfl rfl hg alln (fun m' H' hm' hX' => y_assign rfl) ?_
            refine g_y (i := 7) (listed' := #[true, true, true, true, true, true, true, true]) rfl (by kernel_rfl) (by kernel_rfl) (by kernel_rfl) (by kernel_rfl) rfl rfl hg alln (fun m' H' hm' hX' => y_assign rfl) ?_
            refine g_done (by kernel_rfl) ?_
            clear hg hz_g hzx_g
            refine hK10 _ _ _ ?_
            clear hK10 K10
            refine c_ret ?_
            refine e_ret 0 hm (res_tmps rfl) ?_
            rw [addR_0 (by first | exact hown | (rw [hown]; simpa using hW)) (by first | (rw [hC]; rfl) | (rw [hC, ← hor, hO]; rfl)) (by first | (rw [hany]; rfl) | (rw [hany, List.length_map, ← hl]; simpa using hF))]
            refine ⟨a3, n3, n3, cap3, lo3, rfl, hn3, .inl rfl, ?_, hok3, rfl⟩
            rw [hlo3, List.map_append, hlr, ← hor]; rfl
          ·
            refine s_y rfl (y_load_a (cs := o.enc) rfl ts50 (RdA.blk (i := 0) rfl rfl)) ?_
            refine ⟨⟨hg, alln⟩, ?_⟩
            refine g_each (rs := [1, 3]) (by kernel_rfl) (by simp) ⟨⟨_, rfl, rfl, ?_⟩, ⟨_, rfl, rfl, ?_⟩, trivial⟩
            ·
              refine s_call0 rfl Try.call27 rfl (ruleCopyF_w s1 l1 _ _ hz hfa (by omega)) ?_
              rintro _ m2 _ hm2 ⟨a, n, lr, rfl, hzr, hlr, hnn, rfl⟩
              replace hm := hm.trans hm2
              refine ⟨⟨hg.trans hm2, alln⟩, ?_⟩
              replace hg := hg.trans hm2
              replace hz := hz.mono hm2
              replace hzx := hzx.mono hm2
              clear hm2
              refine g_s (i := 3) (listed' := #[true, true, true, true, false, false, false, false]) rfl (by kernel_rfl) (by kernel_rfl) rfl ?_
              refine s_buildSlice (cs := (o.enc)) (e := 50) rfl rfl (fun _ => by kernel_rfl) (fun b2 => ?_)
              refine ⟨⟨hg, alln⟩, ?_⟩
              have hnl : n ≤ 1000000 := by have h3 := hzr.len; have h4 := congrArg List.length hlr; simp at h3 h4; omega
              refine g_s (i := 4) (listed' := #[true, true, true, true, true, false, false, false]) rfl (by kernel_rfl) (by kernel_rfl) rfl ?_
              refine s_appendf rfl rfl rfl tl33 zo50 tb50 hzr.fz hnn (Src.one' (i := 0) rfl rfl (one_own _)) (by decide) (by omega) (by unfold maxLen; omega) (fun a2 c2 => ?_)
              refine ⟨⟨hg, alln⟩, ?_⟩
              refine g_freezeVec (i := 0) rfl rfl (fun m3 hm3 hzv hnv => ?_)
              replace hm := hm.trans hm3
              replace hg := hg.trans hm3
              replace hz := hz.mono hm3
              replace hzx := hzx.mono hm3
              replace hzr := hzr.mono hm3
              clear hm3
              refine g_freezeVec (i := 2) rfl rfl (fun m3 hm3 hza hna => ?_)
              replace hm := hm.trans hm3
              replace hg := hg.trans hm3
              replace hz := hz.mono hm3
              replace hzx := hzx.mono hm3
              replace hzr := hzr.mono hm3
              replace hzv := hzv.mono hm3
              clear hm3
              refine g_del 0 rfl ?_
              refine g_del 0 rfl ?_
              refine g_del 0 rfl ?_
              have hzt := hzr.snoc hzv hza hoo hna
              refine g_s (i := 5) (listed' := #[true, true, true, true, true, true, false, false]) rfl (by kernel_rfl) (by kernel_rfl) rfl ?_
              refine s_call0 rfl Try.call28 rfl (ruleSort_w ⟨a2, n + 1, c2⟩ (lr ++ [(o.r, o.s)]) _ _ hzt (by have := congrArg List.length hlr; simp at this ⊢; omega)) ?_
              rintro _ m2 _ hm2 ⟨a3, n3, cap3, lo3, rfl, hn3, hlo3, hok3, rfl⟩
              replace hm := hm.trans hm2
              refine ⟨⟨hg.trans hm2, alln⟩, ?_⟩
              replace hg := hg.trans hm2
              replace hz := hz.mono hm2
              replace hzx := hzx.mono hm2
              replace hzr := hzr.mono hm2
              replace hzv := hzv.mono hm2
              replace hza := hza.mono hm2
              clear hm2
              refine g_y (i := 6) (listed' := #[true, true, true, true, true, true, true, false]) rfl (by kernel_rfl) (by kernel_rfl) (by kernel_rfl) (by kernel_rfl) rfl rfl hg alln (fun m' H' hm' hX' => y_assign rfl) ?_
              refine g_y (i := 7) (listed' := #[true, true, true, true, true, true, true, true]) rfl (by kernel_rfl) (by kernel_rfl) (by kernel_rfl) (by kernel_rfl) rfl rfl hg alln (fun m' H' hm' hX' => y_assign rfl) ?_
              refine g_done (by kernel_rfl) ?_
              clear hg hz_g hzx_g
              refine hK10 _ _ _ ?_
              clear hK10 K10
              refine c_ret ?_
              refine e_ret 0 hm (res_tmps rfl) ?_
              rw [addR_0 (by first | exact hown | (rw [hown]; simpa using hW)) (by first | (rw [hC]; rfl) | (rw [hC, ← hor, hO]; rfl)) (by first | (rw [hany]; rfl) | (rw [hany, List.length_map, ← hl]; simpa using hF))]
              refine ⟨a3, n3, n3, cap3, lo3, rfl, hn3, .inl rfl, ?_, hok3, rfl⟩
              rw [hlo3, List.map_append, hlr, ← hor]; rfl
            ·
              refine s_buildSlice (cs := (o.enc)) (e := 50) rfl rfl (fun _ => by kernel_rfl) (fun b2 => ?_)
              refine ⟨⟨hg, alln⟩, ?_⟩
              refine g_s (i := 1) (listed' := #[true, true, true, true, false, false, false, false]) rfl (by kernel_rfl) (by kernel_rfl) rfl ?_
              refine s_call0 rfl Try.call27 rfl (ruleCopyF_w s1 l1 _ _ hz hfa (by omega)) ?_
              rintro _ m2 _ hm2 ⟨a, n, lr, rfl, hzr, hlr, hnn, rfl⟩
              replace hm := hm.trans hm2
              refine ⟨⟨hg.trans hm2, alln⟩, ?_⟩
              replace hg := hg.trans hm2
              replace hz := hz.mono hm2
              replace hzx := hzx.mono hm2
              clear hm2
              have hnl : n ≤ 1000000 := by have h3 := hzr.len; have h4 := congrArg List.length hlr; simp at h3 h4; omega
              refine g_s (i := 4) (listed' := #[true, true, true, true, true, false, false, false]) rfl (by kernel_rfl) (by kernel_rfl) rfl ?_
              refine s_appendf rfl rfl rfl tl33 zo50 tb50 hzr.fz hnn (Src.one' (i := 0) rfl rfl (one_own _)) (by decide) (by omega) (by unfold maxLen; omega) (fun a2 c2 => ?_)
              refine ⟨⟨hg, alln⟩, ?_⟩
              refine g_freezeVec (i := 0) rfl rfl (fun m3 hm3 hzv hnv => ?_)
              replace hm := hm.trans hm3
              replace hg := hg.trans hm3
              replace hz := hz.mono hm3
              replace hzx := hzx.mono hm3
              replace hzr := hzr.mono hm3
              clear hm3
              refine g_freezeVec (i := 2) rfl rfl (fun m3 hm3 hza hna => ?_)
              replace hm := hm.trans hm3
              replace hg := hg.trans hm3
              replace hz := hz.mono hm3
              replace hzx := hzx.mono hm3
              replace hzr := hzr.mono hm3
              replace hzv := hzv.mono hm3
              clear hm3
              refine g_del 0 rfl ?_
              refine g_del 0 rfl ?_
              refine g_del 0 rfl ?_
              have hzt := hzr.snoc hzv hza hoo hna
              refine g_s (i := 5) (listed' := #[true, true, true, true, true, true, false, false]) rfl (by kernel_rfl) (by kernel_rfl) rfl ?_
              refine s_call0 rfl Try.call28 rfl (ruleSort_w ⟨a2, n + 1, c2⟩ (lr ++ [(o.r, o.s)]) _ _ hzt (by have := congrArg List.length hlr; simp at this ⊢; omega)) ?_
              rintro _ m2 _ hm2 ⟨a3, n3, cap3, lo3, rfl, hn3, hlo3, hok3, rfl⟩
              replace hm := hm.trans hm2
              refine ⟨⟨hg.trans hm2, alln⟩, ?_⟩
              replace hg := hg.trans hm2
              replace hz := hz.mono hm2
              replace hzx := hzx.mono hm2
              replace hzr := hzr.mono hm2
              replace hzv := hzv.mono hm2
              replace hza := hza.mono hm2
              clear hm2
              refine g_y (i := 6) (listed' := #[true, true, true, true, true, true, true, false]) rfl (by kernel_rfl) (by kernel_rfl) (by kernel_rfl) (by kernel_rfl) rfl rfl hg alln (fun m' H' hm' hX' => y_assign rfl) ?_
              refine g_y (i := 7) (listed' := #[true, true, true, true, true, true, true, true]) rfl (by kernel_rfl) (by kernel_rfl) (by kernel_rfl) (by kernel_rfl) rfl rfl hg alln (fun m' H' hm' hX' => y_assign rfl) ?_
              refine g_done (by kernel_rfl) ?_
              clear hg hz_g hzx_g
              refine hK10 _ _ _ ?_
              clear hK10 K10
              refine c_ret ?_
              refine e_ret 0 hm (res_tmps rfl) ?_
              rw [addR_0 (by first | exact hown | (rw [hown]; simpa using hW)) (by first | (rw [hC]; rfl) | (rw [hC, ← hor, hO]; rfl)) (by first | (rw [hany]; rfl) | (rw [hany, List.length_map, ← hl]; simpa using hF))]
              refine ⟨a3, n3, n3, cap3, lo3, rfl, hn3, .inl rfl, ?_, hok3, rfl⟩
              rw [hlo3, List.map_append, hlr, ← hor]; rfl
      ·
        refine r_no' rfl rfl hC ?_
        refine r_no' rfl rfl hC ?_
        refine r_no' rfl rfl hC ?_
        refine r_y rfl rfl (y_pickf rfl hC rfl) ?_
        refine r_y rfl rfl (y_assign rfl) ?_
        refine r_nil ?_
        refine hK7 _ _ _ ?_
        clear hK7 K7
        refine c_iff rfl rfl ?_
        refine c_seq (fun K11 hK11 => ?_)
        refine c_region ?_
        refine r_y rfl rfl (y_move rfl) ?_
        refine r_y rfl rfl (y_iop rfl rfl rfl) ?_
        refine r_y rfl rfl (y_move rfl) ?_
        refine r_no' rfl rfl (by simp at hI ⊢; omega) ?_
        refine r_no' rfl rfl (by simp at hI ⊢; omega) ?_
        refine r_no' rfl rfl (by simp at hI ⊢; omega) ?_
        refine r_no' rfl rfl (by simp at hI ⊢; omega) ?_
        refine r_y rfl rfl (y_pickf rfl (by simp at hI ⊢; omega) rfl) ?_
        refine r_y rfl rfl (y_assign rfl) ?_
        refine r_nil ?_
        refine hK11 _ _ _ ?_
        clear hK11 K11
        refine c_iff rfl rfl ?_
        refine c_skip ?_
        refine hK4 _ _ _ ?_
        clear hK4 K4
        refine c_seq (fun K12 hK12 => ?_)
        refine c_draw ([]) (by kernel_rfl) (fun hg => ?_)
        have hz_g := hz
        have hzx_g := hzx
        refine g_y (i := 0) (listed' := #[true, false, false, false, false, false, false, false]) rfl (by kernel_rfl) (by kernel_rfl) (by kernel_rfl) (by kernel_rfl) rfl rfl hg alln (fun m' H' hm' hX' => y_move rfl) ?_
        refine g_each (rs := [1, 2]) (by kernel_rfl) (by simp) ⟨⟨_, rfl, rfl, ?_⟩, ⟨_, rfl, rfl, ?_⟩, trivial⟩
        ·
          refine s_call0 rfl Try.call27 rfl (ruleCopyF_w s1 l1 _ _ hz hfa (by omega)) ?_
          rintro _ m2 _ hm2 ⟨a, n, lr, rfl, hzr, hlr, hnn, rfl⟩
          replace hm := hm.trans hm2
          refine ⟨⟨hg.trans hm2, alln⟩, ?_⟩
          replace hg := hg.trans hm2
          replace hz := hz.mono hm2
          replace hzx := hzx.mono hm2
          clear hm2
          refine g_s (i := 2) (listed' := #[true, true, true, false, false, false, false, false]) rfl (by kernel_rfl) (by kernel_rfl) rfl ?_
          refine s_y rfl (y_load_a (cs := o.enc) rfl ts50 (RdA.blk (i := 0) rfl rfl)) ?_
          refine ⟨⟨hg, alln⟩, ?_⟩
          refine g_s (i := 3) (listed' := #[true, true, true, true, false, false, false, false]) rfl (by kernel_rfl) (by kernel_rfl) rfl ?_
          refine s_buildSlice (cs := (o.enc)) (e := 50) rfl rfl (fun _ => by kernel_rfl) (fun b3 => ?_)
          refine ⟨⟨hg, alln⟩, ?_⟩
          have hnl : n ≤ 1000000 := by have h3 := hzr.len; have h4 := congrArg List.length hlr; simp at h3 h4; omega
          refine g_s (i := 4) (listed' := #[true, true, true, true, true, false, false, false]) rfl (by kernel_rfl) (by kernel_rfl) rfl ?_
          refine s_appendf rfl rfl rfl tl33 zo50 tb50 hzr.fz hnn (Src.one' (i := 0) rfl rfl (one_own _)) (by decide) (by omega) (by unfold maxLen; omega) (fun a2 c2 => ?_)
          refine ⟨⟨hg, alln⟩, ?_⟩
          refine g_freezeVec (i := 0) rfl rfl (fun m3 hm3 hzv hnv => ?_)
          replace hm := hm.trans hm3
          replace hg := hg.trans hm3
          replace hz := hz.mono hm3
          replace hzx := hzx.mono hm3
          replace hzr := hzr.mono hm3
          clear hm3
          refine g_freezeVec (i := 2) rfl rfl (fun m3 hm3 hza hna => ?_)
          replace hm := hm.trans hm3
          replace hg := hg.trans hm3
          replace hz := hz.mono hm3
          replace hzx := hzx.mono hm3
          replace hzr := hzr.mono hm3
          replace hzv := hzv.mono hm3
          clear hm3
          refine g_del 0 rfl ?_
          refine g_del 0 rfl ?_
          refine g_del 0 rfl ?_
          have hzt := hzr.snoc hzv hza hoo hna
          refine g_s (i := 5) (listed' := #[true, true, true, true, true, true, false, false]) rfl (by kernel_rfl) (by kernel_rfl) rfl ?_
          refine s_call0 rfl Try.call28 rfl (ruleSort_w ⟨a2, n + 1, c2⟩ (lr ++ [(o.r, o.s)]) _ _ hzt (by have := congrArg List.length hlr; simp at this ⊢; omega)) ?_
          rintro _ m2 _ hm2 ⟨a3, n3, cap3, lo3, rfl, hn3, hlo3, hok3, rfl⟩
          replace hm := hm.trans hm2
          refine ⟨⟨hg.trans hm2, alln⟩, ?_⟩
          replace hg := hg.trans hm2
          replace hz := hz.mono hm2
          replace hzx := hzx.mono hm2
          replace hzr := hzr.mono hm2
          replace hzv := hzv.mono hm2
          replace hza := hza.mono hm2
          clear hm2
          refine g_y (i := 6) (listed' := #[true, true, true, true, true, true, true, false]) rfl (by kernel_rfl) (by kernel_rfl) (by kernel_rfl) (by kernel_rfl) rfl rfl hg alln (fun m' H' hm' hX' => y_assign rfl) ?_
          refine g_y (i := 7) (listed' := #[true, true, true, true, true, true, true, true]) rfl (by kernel_rfl) (by kernel_rfl) (by kernel_rfl) (by kernel_rfl) rfl rfl hg alln (fun m' H' hm' hX' => y_assign rfl) ?_
          refine g_done (by kernel_rfl) ?_
          clear hg hz_g hzx_g
          refine hK12 _ _ _ ?_
          clear hK12 K12
          refine c_ret ?_
          refine e_ret 0 hm (res_tmps rfl) ?_
          rw [addR_0 (by first | exact hown | (rw [hown]; simpa using hW)) (by first | (rw [hC]; rfl) | (rw [hC, ← hor, hO]; rfl)) (by first | (rw [hany]; rfl) | (rw [hany, List.length_map, ← hl]; simpa using hF))]
          refine ⟨a3, n3, n3, cap3, lo3, rfl, hn3, .inl rfl, ?_, hok3, rfl⟩
          rw [hlo3, List.map_append, hlr, ← hor]; rfl
        ·
          refine s_y rfl (y_load_a (cs := o.enc) rfl ts50 (RdA.blk (i := 0) rfl rfl)) ?_
          refine ⟨⟨hg, alln⟩, ?_⟩
          refine g_each (rs := [1, 3]) (by kernel_rfl) (by simp) ⟨⟨_, rfl, rfl, ?_⟩, ⟨_, rfl, rfl, ?_⟩, trivial⟩
          ·
            refine s_call0 rfl Try.call27 rfl (ruleCopyF_w s1 l1 _ _ hz hfa (by omega)) ?_
            rintro _ m2 _ hm2 ⟨a, n, lr, rfl, hzr, hlr, hnn, rfl⟩
            replace hm := hm.trans hm2
            refine ⟨⟨hg.trans hm2, alln⟩, ?_⟩
            replace hg := hg.trans hm2
            replace hz := hz.mono hm2
            replace hzx := hzx.mono hm2
            clear hm2
            refine g_s (i := 3) (listed' := #[true, true, true, true, false, false, false, false]) rfl (by kernel_rfl) (by kernel_rfl) rfl ?_
            refine s_buildSlice (cs := (o.enc)) (e := 50) rfl rfl (fun _ => by kernel_rfl) (fun b3 => ?_)
            refine ⟨⟨hg, alln⟩, ?_⟩
            have hnl : n ≤ 1000000 := by have h3 := hzr.len; have h4 := congrArg List.length hlr; simp at h3 h4; omega
            refine g_s (i := 4) (listed' := #[true, true, true, true, true, false, false, false]) rfl (by kernel_rfl) (by kernel_rfl) rfl ?_
            refine s_appendf rfl rfl rfl tl33 zo50 tb50 hzr.fz hnn (Src.one' (i := 0) rfl rfl (one_own _)) (by decide) (by omega) (by unfold maxLen; omega) (fun a2 c2 => ?_)
            refine ⟨⟨hg, alln⟩, ?_⟩
            refine g_freezeVec (i := 0) rfl rfl (fun m3 hm3 hzv hnv => ?_)
            replace hm := hm.trans hm3
            replace hg := hg.trans hm3
            replace hz := hz.mono hm3
            replace hzx := hzx.mono hm3
            replace hzr := hzr.mono hm3
            clear hm3
            refine g_freezeVec (i := 2) rfl rfl (fun m3 hm3 hza hna => ?_)
            replace hm := hm.trans hm3
            replace hg := hg.trans hm3
            replace hz := hz.mono hm3
            replace hzx := hzx.mono hm3
            replace hzr := hzr.mono hm3
            replace hzv := hzv.mono hm3
            clear hm3
            refine g_del 0 rfl ?_
            refine g_del 0 rfl ?_
            refine g_del 0 rfl ?_
            have hzt := hzr.snoc hzv hza hoo hna
            refine g_s (i := 5) (listed' := #[true, true, true, true, true, true, false, false]) rfl (by kernel_rfl) (by kernel_rfl) rfl ?_
            refine s_call0 rfl Try.call28 rfl (ruleSort_w ⟨a2, n + 1, c2⟩ (lr ++ [(o.r, o.s)]) _ _ hzt (by have := congrArg List.length hlr; simp at this ⊢; omega)) ?_
            rintro _ m2 _ hm2 ⟨a3, n3, cap3, lo3, rfl, hn3, hlo3, hok3, rfl⟩
            replace hm := hm.trans hm2
            refine ⟨⟨hg.trans hm2, alln⟩, ?_⟩
            replace hg := hg.trans hm2
            replace hz := hz.mono hm2
            replace hzx := hzx.mono hm2
            replace hzr := hzr.mono hm2
            replace hzv := hzv.mono hm2
            replace hza := hza.mono hm2
            clear hm2
            refine g_y (i := 6) (listed' := #[true, true, true, true, true, true, true, false]) rfl (by kernel_rfl) (by kernel_rfl) (by kernel_rfl) (by kernel_rfl) rfl rfl hg alln (fun m' H' hm' hX' => y_assign rfl) ?_
            refine g_y (i := 7) (listed' := #[true, true, true, true, true, true, true, true]) rfl (by kernel_rfl) (by kernel_rfl) (by kernel_rfl) (by kernel_rfl) rfl rfl hg alln (fun m' H' hm' hX' => y_assign rfl) ?_
            refine g_done (by kernel_rfl) ?_
            clear hg hz_g hzx_g
            refine hK12 _ _ _ ?_
            clear hK12 K12
            refine c_ret ?_
            refine e_ret 0 hm (res_tmps rfl) ?_
            rw [addR_0 (by first | exact hown | (rw [hown]; simpa using hW)) (by first | (rw [hC]; rfl) | (rw [hC, ← hor, hO]; rfl)) (by first | (rw [hany]; rfl) | (rw [hany, List.length_map, ← hl]; simpa using hF))]
            refine ⟨a3, n3, n3, cap3, lo3, rfl, hn3, .inl rfl, ?_, hok3, rfl⟩
            rw [hlo3, List.map_append, hlr, ← hor]; rfl
          ·
            refine s_buildSlice (cs := (o.enc)) (e := 50) rfl rfl (fun _ => by kernel_rfl) (fun b3 => ?_)
            refine ⟨⟨hg, alln⟩, ?_⟩
            refine g_s (i := 1) (listed' := #[true, true, true, true, false, false, false, false]) rfl (by kernel_rfl) (by kernel_rfl) rfl ?_
            refine s_call0 rfl Try.call27 rfl (ruleCopyF_w s1 l1 _ _ hz hfa (by omega)) ?_
            rintro _ m2 _ hm2 ⟨a, n, lr, rfl, hzr, hlr, hnn, rfl⟩
            replace hm := hm.trans hm2
            refine ⟨⟨hg.trans hm2, alln⟩, ?_⟩
            replace hg := hg.trans hm2
            replace hz := hz.mono hm2
            replace hzx := hzx.mono hm2
            clear hm2
            have hnl : n ≤ 1000000 := by have h3 := hzr.len; have h4 := congrArg List.length hlr; simp at h3 h4; omega
            refine g_s (i := 4) (listed' := #[true, true, true, true, true, false, false, false]) rfl (by kernel_rfl) (by kernel_rfl) rfl ?_
            refine s_appendf rfl rfl rfl tl33 zo50 tb50 hzr.fz hnn (Src.one' (i := 0) rfl rfl (one_own _)) (by decide) (by omega) (by unfold maxLen; omega) (fun a2 c2 => ?_)
            refine ⟨⟨hg, alln⟩, ?_⟩
            refine g_freezeVec (i := 0) rfl rfl (fun m3 hm3 hzv hnv => ?_)
            replace hm := hm.trans hm3
            replace hg := hg.trans hm3
            replace hz := hz.mono hm3
            replace hzx := hzx.mono hm3
            replace hzr := hzr.mono hm3
            clear hm3
            refine g_freezeVec (i := 2) rfl rfl (fun m3 hm3 hza hna => ?_)
            replace hm := hm.trans hm3
            replace hg := hg.trans hm3
            replace hz := hz.mono hm3
            replace hzx := hzx.mono hm3
            replace hzr := hzr.mono hm3
            replace hzv := hzv.mono hm3
            clear hm3
            refine g_del 0 rfl ?_
            refine g_del 0 rfl ?_
            refine g_del 0 rfl ?_
            have hzt := hzr.snoc hzv hza hoo hna
            refine g_s (i := 5) (listed' := #[true, true, true, true, true, true, false, false]) rfl (by kernel_rfl) (by kernel_rfl) rfl ?_
            refine s_call0 rfl Try.call28 rfl (ruleSort_w ⟨a2, n + 1, c2⟩ (lr ++ [(o.r, o.s)]) _ _ hzt (by have := congrArg List.length hlr; simp at this ⊢; omega)) ?_
            rintro _ m2 _ hm2 ⟨a3, n3, cap3, lo3, rfl, hn3, hlo3, hok3, rfl⟩
            replace hm := hm.trans hm2
            refine ⟨⟨hg.trans hm2, alln⟩, ?_⟩
            replace hg := hg.trans hm2
            replace hz := hz.mono hm2
            replace hzx := hzx.mono hm2
            replace hzr := hzr.mono hm2
            replace hzv := hzv.mono hm2
            replace hza := hza.mono hm2
            clear hm2
            refine g_y (i := 6) (listed' := #[true, true, true, true, true, true, true, false]) rfl (by kernel_rfl) (by kernel_rfl) (by kernel_rfl) (by kernel_rfl) rfl rfl hg alln (fun m' H' hm' hX' => y_assign rfl) ?_
            refine g_y (i := 7) (listed' := #[true, true, true, true, true, true, true, true]) rfl (by kernel_rfl) (by kernel_rfl) (by kernel_rfl) (by kernel_rfl) rfl rfl hg alln (fun m' H' hm' hX' => y_assign rfl) ?_
            refine g_done (by kernel_rfl) ?_
            clear hg hz_g hzx_g
            refine hK12 _ _ _ ?_
            clear hK12 K12
            refine c_ret ?_
            refine e_ret 0 hm (res_tmps rfl) ?_
            rw [addR_0 (by first | exact hown | (rw [hown]; simpa using hW)) (by first | (rw [hC]; rfl) | (rw [hC, ← hor, hO]; rfl)) (by first | (rw [hany]; rfl) | (rw [hany, List.length_map, ← hl]; simpa using hF))]
            refine ⟨a3, n3, n3, cap3, lo3, rfl, hn3, .inl rfl, ?_, hok3, rfl⟩
            rw [hlo3, List.map_append, hlr, ← hor]; rfl
  ·
    refine g_no (i := 3) (listed' := #[true, true, true, true, false, false, false, false, false, false, false, false, false]) rfl (by kernel_rfl) (by kernel_rfl) (by kernel_rfl) (by kernel_rfl) rfl rfl hI rfl hg (allc (List.Mem.tail _ (List.Mem.tail _ (List.Mem.head _))) alln) ?_
    refine g_no (i := 4) (listed' := #[true, true, true, true, true, false, false, false, false, false, false, false, false]) rfl (by kernel_rfl) (by kernel_rfl) (by kernel_rfl) (by kernel_rfl) rfl rfl hI rfl hg (allc (List.Mem.tail _ (List.Mem.tail _ (List.Mem.head _))) alln) ?_
    refine g_no (i := 5) (listed' := #[true, true, true, true, true, true, false, false, false, false, false, false, false]) rfl (by kernel_rfl) (by kernel_rfl) (by kernel_rfl) (by kernel_rfl) rfl rfl hI rfl hg (allc (List.Mem.tail _ (List.Mem.tail _ (List.Mem.head _))) alln) ?_
    refine g_no (i := 6) (listed' := #[true, true, true, true, true, true, true, false, false, false, false, false, false]) rfl (by kernel_rfl) (by kernel_rfl) (by kernel_rfl) (by kernel_rfl) rfl rfl hI rfl hg (allc (List.Mem.tail _ (List.Mem.tail _ (List.Mem.head _))) alln) ?_
    refine g_no (i := 7) (listed' := #[true, true, true, true, true, true, true, true, false, false, false, false, false]) rfl (by kernel_rfl) (by kernel_rfl) (by kernel_rfl) (by kernel_rfl) rfl rfl hI rfl hg (allc (List.Mem.tail _ (List.Mem.tail _ (List.Mem.head _))) alln) ?_
    refine g_no (i := 8) (listed' := #[true, true, true, true, true, true, true, true, true, false, false, false, false]) rfl (by kernel_rfl) (by kernel_rfl) (by kernel_rfl) (by kernel_rfl) rfl rfl hI rfl hg (allc (List.Mem.tail _ (List.Mem.tail _ (List.Mem.head _))) alln) ?_
    refine g_no (i := 9) (listed' := #[true, true, true, true, true, true, true, true, true, true, false, false, false]) rfl (by kernel_rfl) (by kernel_rfl) (by kernel_rfl) (by kernel_rfl) rfl rfl hI rfl hg (allc (List.Mem.tail _ (List.Mem.tail _ (List.Mem.head _))) alln) ?_
    refine g_no (i := 10) (listed' := #[true, true, true, true, true, true, true, true, true, true, true, false, false]) rfl (by kernel_rfl) (by kernel_rfl) (by kernel_rfl) (by kernel_rfl) rfl rfl hI rfl hg (allc (List.Mem.tail _ (List.Mem.tail _ (List.Mem.head _))) alln) ?_
    have hany : (l1.map (·.1)).any (fun z => ruleKey z (modRule x)) = false := by rw [← hor]; have h3 := idxF_nonneg (fun r => ruleKey r o.r) (l1.map (·.1)); rw [← h3]; simpa using hI
    have hown := any_owner_no (o := x.owner) hany
    refine g_y (i := 11) (listed' := #[true, true, true, true, true, true, true, true, true, true, true, true, false]) rfl (by kernel_rfl) (by kernel_rfl) (by kernel_rfl) (by kernel_rfl) rfl rfl hg (allc (List.Mem.tail _ (List.Mem.tail _ (List.Mem.head _))) alln) (fun m' H' hm' hX' => y_pickf rfl hI rfl) ?_
    refine g_y (i := 12) (listed' := #[true, true, true, true, true, true, true, true, true, true, true, true, true]) rfl (by kernel_rfl) (by kernel_rfl) (by kernel_rfl) (by kernel_rfl) rfl rfl hg (allc (List.Mem.tail _ (List.Mem.tail _ (List.Mem.head _))) alln) (fun m' H' hm' hX' => y_assign rfl) ?_
    refine g_done (by kernel_rfl) ?_
    clear hg hz_g hzx_g
    refine hK5 _ _ _ ?_
    clear hK5 K5
    refine c_iff rfl rfl ?_
    refine c_seq (fun K13 hK13 => ?_)
    refine c_region ?_
    refine r_y rfl rfl (y_fieldAddr rfl At.lit fo32_7 rfl) ?_
    refine r_y rfl rfl (y_load_s rfl ts4 (RdS.blk (i := 2) rfl rfl)) ?_
    refine r_y rfl rfl (y_move rfl) ?_
    refine r_split (j := 2) rfl (fun hC => ?_) (fun hC => ?_)
    ·
      refine r_yg rfl hC rfl (y_move rfl) ?_
      refine r_yg rfl hC rfl (y_move rfl) ?_
      refine r_sg rfl hC ?_
      refine s_call0 rfl Try.call133 rfl (hasRules_w s1 l1 131 [.pointer (some ⟨b1, 0, none⟩)] (fun r => !ruleKey r o.r && ruleOverlap r o.r) _ _ hz Try.call131 (fun m' z _ _ => add2_w z.1 o.r z.2 o.s b1 m' _)) ?_
      rintro _ m2 _ hm2 ⟨rfl, rfl⟩
      replace hm := hm.trans hm2
      replace hz := hz.mono hm2
      replace hzx := hzx.mono hm2
      clear hm2
      refine r_y rfl rfl (y_pickt rfl hC rfl) ?_
      refine r_y rfl rfl (y_assign rfl) ?_
      refine r_nil ?_
      refine hK13 _ _ _ ?_
      clear hK13 K13
      refine c_cond rfl (fun hO => ?_) (fun hO => ?_)
      ·
        refine c_seq (fun K14 hK14 => ?_)
        refine c_region ?_
        refine r_nilvec 50 32 ?_
        refine r_y rfl rfl (y_assign rfl) ?_
        refine r_y rfl rfl (y_assign rfl) ?_
        refine r_nil ?_
        refine hK14 _ _ _ ?_
        clear hK14 K14
        refine c_ret ?_
        refine e_retf [0, 1, 2, 3] 3 hm (res_tmps rfl) ?_
        rw [addR_6 (by first | exact hown | (rw [hown]; simpa using hW)) (by first | (rw [hC]; rfl) | (rw [hC, ← hor, hO]; rfl))]
        exact ⟨none, 0, 0, 0, [], rfl, rfl, .inl rfl, rfl, fun o ho => (by cases ho), rfl⟩
      ·
        refine c_seq (fun K15 hK15 => ?_)
        refine c_region ?_
        refine r_y rfl rfl (y_move rfl) ?_
        refine r_y rfl rfl (y_iop rfl rfl rfl) ?_
        refine r_y rfl rfl (y_move rfl) ?_
        refine r_yg rfl (by simp at hI ⊢; omega) rfl (y_move rfl) ?_
        refine r_yg rfl (by simp at hI ⊢; omega) rfl (y_len tl33 rfl) ?_
        refine r_yg rfl (by simp at hI ⊢; omega) rfl (y_move rfl) ?_
        refine r_yg rfl (by simp at hI ⊢; omega) rfl (y_iop rfl rfl rfl) ?_
        refine r_y rfl rfl (y_pickt rfl (by simp at hI ⊢; omega) rfl) ?_
        refine r_y rfl rfl (y_assign rfl) ?_
        refine r_nil ?_
        refine hK15 _ _ _ ?_
        clear hK15 K15
        refine c_cond rfl (fun hF => ?_) (fun hF => ?_)
        ·
          refine c_seq (fun K16 hK16 => ?_)
          refine c_region ?_
          refine r_nilvec 50 32 ?_
          refine r_y rfl rfl (y_assign rfl) ?_
          refine r_y rfl rfl (y_assign rfl) ?_
          refine r_nil ?_
          refine hK16 _ _ _ ?_
          clear hK16 K16
          refine c_ret ?_
          refine e_retf [0, 1, 2, 3] 3 hm (res_tmps rfl) ?_
          rw [addR_3 (by first | exact hown | (rw [hown]; simpa using hW)) (by first | (rw [hC]; rfl) | (rw [hC, ← hor, hO]; rfl)) (by first | (rw [hany]; rfl) | (rw [hany, List.length_map, ← hl]; simpa using hF))]
          exact ⟨none, 0, 0, 0, [], rfl, rfl, .inl rfl, rfl, fun o ho => (by cases ho), rfl⟩
        ·
          refine c_skip ?_
          refine hK4 _ _ _ ?_
          clear hK4 K4
          refine c_seq (fun K17 hK17 => ?_)
          refine c_draw ([]) (by kernel_rfl) (fun hg => ?_)
          have hz_g := hz
          have hzx_g := hzx
          refine g_y (i := 0) (listed' := #[true, false, false, false, false, false, false, false]) rfl (by kernel_rfl) (by kernel_rfl) (by kernel_rfl) (by kernel_rfl) rfl rfl hg alln (fun m' H' hm' hX' => y_move rfl) ?_
          refine g_each (rs := [1, 2]) (by kernel_rfl) (by simp) ⟨⟨_, rfl, rfl, ?_⟩, ⟨_, rfl, rfl, ?_⟩, trivial⟩
          ·
            refine s_call0 rfl Try.call27 rfl (ruleCopyF_w s1 l1 _ _ hz hfa (by omega)) ?_
            rintro _ m2 _ hm2 ⟨a, n, lr, rfl, hzr, hlr, hnn, rfl⟩
            replace hm := hm.trans hm2
            refine ⟨⟨hg.trans hm2, alln⟩, ?_⟩
            replace hg := hg.trans hm2
            replace hz := hz.mono hm2
            replace hzx := hzx.mono hm2
            clear hm2
            refine g_s (i := 2) (listed' := #[true, true, true, false, false, false, false, false]) rfl (by kernel_rfl) (by kernel_rfl) rfl ?_
            refine s_y rfl (y_load_a (cs := o.enc) rfl ts50 (RdA.blk (i := 0) rfl rfl)) ?_
            refine ⟨⟨hg, alln⟩, ?_⟩
            refine g_s (i := 3) (listed' := #[true, true, true, true, false, false, false, false]) rfl (by kernel_rfl) (by kernel_rfl) rfl ?_
            refine s_buildSlice (cs := (o.enc)) (e := 50) rfl rfl (fun _ => by kernel_rfl) (fun b4 => ?_)
            refine ⟨⟨hg, alln⟩, ?_⟩
            have hnl : n ≤ 1000000 := by have h3 := hzr.len; have h4 := congrArg List.length hlr; simp at h3 h4; omega
            refine g_s (i := 4) (listed' := #[true, true, true, true, true, false, false, false]) rfl (by kernel_rfl) (by kernel_rfl) rfl ?_
            refine s_appendf rfl rfl rfl tl33 zo50 tb50 hzr.fz hnn (Src.one' (i := 0) rfl rfl (one_own _)) (by decide) (by omega) (by unfold maxLen; omega) (fun a2 c2 => ?_)
            refine ⟨⟨hg, alln⟩, ?_⟩
            refine g_freezeVec (i := 0) rfl rfl (fun m3 hm3 hzv hnv => ?_)
            replace hm := hm.trans hm3
            replace hg := hg.trans hm3
            replace hz := hz.mono hm3
            replace hzx := hzx.mono hm3
            replace hzr := hzr.mono hm3
            clear hm3
            refine g_freezeVec (i := 2) rfl rfl (fun m3 hm3 hza hna => ?_)
            replace hm := hm.trans hm3
            replace hg := hg.trans hm3
            replace hz := hz.mono hm3
            replace hzx := hzx.mono hm3
            replace hzr := hzr.mono hm3
            replace hzv := hzv.mono hm3
            clear hm3
            refine g_del 0 rfl ?_
            refine g_del 0 rfl ?_
            refine g_del 0 rfl ?_
            have hzt := hzr.snoc hzv hza hoo hna
            refine g_s (i := 5) (listed' := #[true, true, true, true, true, true, false, false]) rfl (by kernel_rfl) (by kernel_rfl) rfl ?_
            refine s_call0 rfl Try.call28 rfl (ruleSort_w ⟨a2, n + 1, c2⟩ (lr ++ [(o.r, o.s)]) _ _ hzt (by have := congrArg List.length hlr; simp at this ⊢; omega)) ?_
            rintro _ m2 _ hm2 ⟨a3, n3, cap3, lo3, rfl, hn3, hlo3, hok3, rfl⟩
            replace hm := hm.trans hm2
            refine ⟨⟨hg.trans hm2, alln⟩, ?_⟩
            replace hg := hg.trans hm2
            replace hz := hz.mono hm2
            replace hzx := hzx.mono hm2
            replace hzr := hzr.mono hm2
            replace hzv := hzv.mono hm2
            replace hza := hza.mono hm2
            clear hm2
            refine g_y (i := 6) (listed' := #[true, true, true, true, true, true, true, false]) rfl (by kernel_rfl) (by kernel_rfl) (by kernel_rfl) (by kernel_rfl) rfl rfl hg alln (fun m' H' hm' hX' => y_assign rfl) ?_
            refine g_y (i := 7) (listed' := #[true, true, true, true, true, true, true, true]) rfl (by kernel_rfl) (by kernel_rfl) (by kernel_rfl) (by kernel_rfl) rfl rfl hg alln (fun m' H' hm' hX' => y_assign rfl) ?_
            refine g_done (by kernel_rfl) ?_
            clear hg hz_g hzx_g
            refine hK17 _ _ _ ?_
            clear hK17 K17
            refine c_ret ?_
            refine e_ret 0 hm (res_tmps rfl) ?_
            rw [addR_0 (by first | exact hown | (rw [hown]; simpa using hW)) (by first | (rw [hC]; rfl) | (rw [hC, ← hor, hO]; rfl)) (by first | (rw [hany]; rfl) | (rw [hany, List.length_map, ← hl]; simpa using hF))]
            refine ⟨a3, n3, n3, cap3, lo3, rfl, hn3, .inl rfl, ?_, hok3, rfl⟩
            rw [hlo3, List.map_append, hlr, ← hor]; rfl
          ·
            refine s_y rfl (y_load_a (cs := o.enc) rfl ts50 (RdA.blk (i := 0) rfl rfl)) ?_
            refine ⟨⟨hg, alln⟩, ?_⟩
            refine g_each (rs := [1, 3]) (by kernel_rfl) (by simp) ⟨⟨_, rfl, rfl, ?_⟩, ⟨_, rfl, rfl, ?_⟩, trivial⟩
            ·
              refine s_call0 rfl Try.call27 rfl (ruleCopyF_w s1 l1 _ _ hz hfa (by omega)) ?_
              rintro _ m2 _ hm2 ⟨a, n, lr, rfl, hzr, hlr, hnn, rfl⟩
              replace hm := hm.trans hm2
              refine ⟨⟨hg.trans hm2, alln⟩, ?_⟩
              replace hg := hg.trans hm2
              replace hz := hz.mono hm2
              replace hzx := hzx.mono hm2
              clear hm2
              refine g_s (i := 3) (listed' := #[true, true, true, true, false, false, false, false]) rfl (by kernel_rfl) (by kernel_rfl) rfl ?_
              refine s_buildSlice (cs := (o.enc)) (e := 50) rfl rfl (fun _ => by kernel_rfl) (fun b4 => ?_)
              refine ⟨⟨hg, alln⟩, ?_⟩
              have hnl : n ≤ 1000000 := by have h3 := hzr.len; have h4 := congrArg List.length hlr; simp at h3 h4; omega
              refine g_s (i := 4) (listed' := #[true, true, true, true, true, false, false, false]) rfl (by kernel_rfl) (by kernel_rfl) rfl ?_
              refine s_appendf rfl rfl rfl tl33 zo50 tb50 hzr.fz hnn (Src.one' (i := 0) rfl rfl (one_own _)) (by decide) (by omega) (by unfold maxLen; omega) (fun a2 c2 => ?_)
              refine ⟨⟨hg, alln⟩, ?_⟩
              refine g_freezeVec (i := 0) rfl rfl (fun m3 hm3 hzv hnv => ?_)
              replace hm := hm.trans hm3
              replace hg := hg.trans hm3
              replace hz := hz.mono hm3
              replace hzx := hzx.mono hm3
              replace hzr := hzr.mono hm3
              clear hm3
              refine g_freezeVec (i := 2) rfl rfl (fun m3 hm3 hza hna => ?_)
              replace hm := hm.trans hm3
              replace hg := hg.trans hm3
              replace hz := hz.mono hm3
              replace hzx := hzx.mono hm3
              replace hzr := hzr.mono hm3
              replace hzv := hzv.mono hm3
              clear hm3
              refine g_del 0 rfl ?_
              refine g_del 0 rfl ?_
              refine g_del 0 rfl ?_
              have hzt := hzr.snoc hzv hza hoo hna
              refine g_s (i := 5) (listed' := #[true, true, true, true, true, true, false, false]) rfl (by kernel_rfl) (by kernel_rfl) rfl ?_
              refine s_call0 rfl Try.call28 rfl (ruleSort_w ⟨a2, n + 1, c2⟩ (lr ++ [(o.r, o.s)]) _ _ hzt (by have := congrArg List.length hlr; simp at this ⊢; omega)) ?_
              rintro _ m2 _ hm2 ⟨a3, n3, cap3, lo3, rfl, hn3, hlo3, hok3, rfl⟩
              replace hm := hm.trans hm2
              refine ⟨⟨hg.trans hm2, alln⟩, ?_⟩
              replace hg := hg.trans hm2
              replace hz := hz.mono hm2
              replace hzx := hzx.mono hm2
              replace hzr := hzr.mono hm2
              replace hzv := hzv.mono hm2
              replace hza := hza.mono hm2
              clear hm2
              refine g_y (i := 6) (listed' := #[true, true, true, true, true, true, true, false]) rfl (by kernel_rfl) (by kernel_rfl) (by kernel_rfl) (by kernel_rfl) rfl rfl hg alln (fun m' H' hm' hX' => y_assign rfl) ?_
              refine g_y (i := 7) (listed' := #[true, true, true, true, true, true, true, true]) rfl (by kernel_rfl) (by kernel_rfl) (by kernel_rfl) (by kernel_rfl) rfl rfl hg alln (fun m' H' hm' hX' => y_assign rfl) ?_
              refine g_done (by kernel_rfl) ?_
              clear hg hz_g hzx_g
              refine hK17 _ _ _ ?_
              clear hK17 K17
              refine c_ret ?_
              refine e_ret 0 hm (res_tmps rfl) ?_
              rw [addR_0 (by first | exact hown | (rw [hown]; simpa using hW)) (by first | (rw [hC]; rfl) | (rw [hC, ← hor, hO]; rfl)) (by first | (rw [hany]; rfl) | (rw [hany, List.length_map, ← hl]; simpa using hF))]
              refine ⟨a3, n3, n3, cap3, lo3, rfl, hn3, .inl rfl, ?_, hok3, rfl⟩
              rw [hlo3, List.map_append, hlr, ← hor]; rfl
            ·
              refine s_buildSlice (cs := (o.enc)) (e := 50) rfl rfl (fun _ => by kernel_rfl) (fun b4 => ?_)
              refine ⟨⟨hg, alln⟩, ?_⟩
              refine g_s (i := 1) (listed' := #[true, true, true, true, false, false, false, false]) rfl (by kernel_rfl) (by kernel_rfl) rfl ?_
              refine s_call0 rfl Try.call27 rfl (ruleCopyF_w s1 l1 _ _ hz hfa (by omega)) ?_
              rintro _ m2 _ hm2 ⟨a, n, lr, rfl, hzr, hlr, hnn, rfl⟩
              replace hm := hm.trans hm2
              refine ⟨⟨hg.trans hm2, alln⟩, ?_⟩
              replace hg := hg.trans hm2
              replace hz := hz.mono hm2
              replace hzx := hzx.mono hm2
              clear hm2
              have hnl : n ≤ 1000000 := by have h3 := hzr.len; have h4 := congrArg List.length hlr; simp at h3 h4; omega
              refine g_s (i := 4) (listed' := #[true, true, true, true, true, false, false, false]) rfl (by kernel_rfl) (by kernel_rfl) rfl ?_
              refine s_appendf rfl rfl rfl tl33 zo50 tb50 hzr.fz hnn (Src.one' (i := 0) rfl rfl (one_own _)) (by decide) (by omega) (by unfold maxLen; omega) (fun a2 c2 => ?_)
              refine ⟨⟨hg, alln⟩, ?_⟩
              refine g_freezeVec (i := 0) rfl rfl (fun m3 hm3 hzv hnv => ?_)
              replace hm := hm.trans hm3
              replace hg := hg.trans hm3
              replace hz := hz.mono hm3
              replace hzx := hzx.mono hm3
              replace hzr := hzr.mono hm3
              clear hm3
              refine g_freezeVec (i := 2) rfl rfl (fun m3 hm3 hza hna => ?_)
              replace hm := hm.trans hm3
              replace hg := hg.trans hm3
              replace hz := hz.mono hm3
              replace hzx := hzx.mono hm3
              replace hzr := hzr.mono hm3
              replace hzv := hzv.mono hm3
              clear hm3
              refine g_del 0 rfl ?_
              refine g_del 0 rfl ?_
              refine g_del 0 rfl ?_
              have hzt := hzr.snoc hzv hza hoo hna
              refine g_s (i := 5) (listed' := #[true, true, true, true, true, true, false, false]) rfl (by kernel_rfl) (by kernel_rfl) rfl ?_
              refine s_call0 rfl Try.call28 rfl (ruleSort_w ⟨a2, n + 1, c2⟩ (lr ++ [(o.r, o.s)]) _ _ hzt (by have := congrArg List.length hlr; simp at this ⊢; omega)) ?_
              rintro _ m2 _ hm2 ⟨a3, n3, cap3, lo3, rfl, hn3, hlo3, hok3, rfl⟩
              replace hm := hm.trans hm2
              refine ⟨⟨hg.trans hm2, alln⟩, ?_⟩
              replace hg := hg.trans hm2
              replace hz := hz.mono hm2
              replace hzx := hzx.mono hm2
              replace hzr := hzr.mono hm2
              replace hzv := hzv.mono hm2
              replace hza := hza.mono hm2
              clear hm2
              refine g_y (i := 6) (listed' := #[true, true, true, true, true, true, true, false]) rfl (by kernel_rfl) (by kernel_rfl) (by kernel_rfl) (by kernel_rfl) rfl rfl hg alln (fun m' H' hm' hX' => y_assign rfl) ?_
              refine g_y (i := 7) (listed' := #[true, true, true, true, true, true, true, true]) rfl (by kernel_rfl) (by kernel_rfl) (by kernel_rfl) (by kernel_rfl) rfl rfl hg alln (fun m' H' hm' hX' => y_assign rfl) ?_
              refine g_done (by kernel_rfl) ?_
              clear hg hz_g hzx_g
              refine hK17 _ _ _ ?_
              clear hK17 K17
              refine c_ret ?_
              refine e_ret 0 hm (res_tmps rfl) ?_
              rw [addR_0 (by first | exact hown | (rw [hown]; simpa using hW)) (by first | (rw [hC]; rfl) | (rw [hC, ← hor, hO]; rfl)) (by first | (rw [hany]; rfl) | (rw [hany, List.length_map, ← hl]; simpa using hF))]
              refine ⟨a3, n3, n3, cap3, lo3, rfl, hn3, .inl rfl, ?_, hok3, rfl⟩
              rw [hlo3, List.map_append, hlr, ← hor]; rfl
    ·
      refine r_no' rfl rfl hC ?_
      refine r_no' rfl rfl hC ?_
      refine r_no' rfl rfl hC ?_
      refine r_y rfl rfl (y_pickf rfl hC rfl) ?_
      refine r_y rfl rfl (y_assign rfl) ?_
      refine r_nil ?_
      refine hK13 _ _ _ ?_
      clear hK13 K13
      refine c_iff rfl rfl ?_
      refine c_seq (fun K18 hK18 => ?_)
      refine c_region ?_
      refine r_y rfl rfl (y_move rfl) ?_
      refine r_y rfl rfl (y_iop rfl rfl rfl) ?_
      refine r_y rfl rfl (y_move rfl) ?_
      refine r_yg rfl (by simp at hI ⊢; omega) rfl (y_move rfl) ?_
      refine r_yg rfl (by simp at hI ⊢; omega) rfl (y_len tl33 rfl) ?_
      refine r_yg rfl (by simp at hI ⊢; omega) rfl (y_move rfl) ?_
      refine r_yg rfl (by simp at hI ⊢; omega) rfl (y_iop rfl rfl rfl) ?_
      refine r_y rfl rfl (y_pickt rfl (by simp at hI ⊢; omega) rfl) ?_
      refine r_y rfl rfl (y_assign rfl) ?_
      refine r_nil ?_
      refine hK18 _ _ _ ?_
      clear hK18 K18
      refine c_cond rfl (fun hF => ?_) (fun hF => ?_)
      ·
        refine c_seq (fun K19 hK19 => ?_)
        refine c_region ?_
        refine r_nilvec 50 32 ?_
        refine r_y rfl rfl (y_assign rfl) ?_
        refine r_y rfl rfl (y_assign rfl) ?_
        refine r_nil ?_
        refine hK19 _ _ _ ?_
        clear hK19 K19
        refine c_ret ?_
        refine e_retf [0, 1, 2, 3] 3 hm (res_tmps rfl) ?_
        rw [addR_3 (by first | exact hown | (rw [hown]; simpa using hW)) (by first | (rw [hC]; rfl) | (rw [hC, ← hor, hO]; rfl)) (by first | (rw [hany]; rfl) | (rw [hany, List.length_map, ← hl]; simpa using hF))]
        exact ⟨none, 0, 0, 0, [], rfl, rfl, .inl rfl, rfl, fun o ho => (by cases ho), rfl⟩
      ·
        refine c_skip ?_
        refine hK4 _ _ _ ?_
        clear hK4 K4
        refine c_seq (fun K20 hK20 => ?_)
        refine c_draw ([]) (by kernel_rfl) (fun hg => ?_)
        have hz_g := hz
        have hzx_g := hzx
        refine g_y (i := 0) (listed' := #[true, false, false, false, false, false, false, false]) rfl (by kernel_rfl) (by kernel_rfl) (by kernel_rfl) (by kernel_rfl) rfl rfl hg alln (fun m' H' hm' hX' => y_move rfl) ?_
        refine g_each (rs := [1, 2]) (by kernel_rfl) (by simp) ⟨⟨_, rfl, rfl, ?_⟩, ⟨_, rfl, rfl, ?_⟩, trivial⟩
        ·
          refine s_call0 rfl Try.call27 rfl (ruleCopyF_w s1 l1 _ _ hz hfa (by omega)) ?_
          rintro _ m2 _ hm2 ⟨a, n, lr, rfl, hzr, hlr, hnn, rfl⟩
          replace hm := hm.trans hm2
          refine ⟨⟨hg.trans hm2, alln⟩, ?_⟩
          replace hg := hg.trans hm2
          replace hz := hz.mono hm2
          replace hzx := hzx.mono hm2
          clear hm2
          refine g_s (i := 2) (listed' := #[true, true, true, false, false, false, false, false]) rfl (by kernel_rfl) (by kernel_rfl) rfl ?_
          refine s_y rfl (y_load_a (cs := o.enc) rfl ts50 (RdA.blk (i := 0) rfl rfl)) ?_
          refine ⟨⟨hg, alln⟩, ?_⟩
          refine g_s (i := 3) (listed' := #[true, true, true, true, false, false, false, false]) rfl (by kernel_rfl) (by kernel_rfl) rfl ?_
          refine s_buildSlice (cs := (o.enc)) (e := 50) rfl rfl (fun _ => by kernel_rfl) (fun b5 => ?_)
          refine ⟨⟨hg, alln⟩, ?_⟩
          have hnl : n ≤ 1000000 := by have h3 := hzr.len; have h4 := congrArg List.length hlr; simp at h3 h4; omega
          refine g_s (i := 4) (listed' := #[true, true, true, true, true, false, false, false]) rfl (by kernel_rfl) (by kernel_rfl) rfl ?_
          refine s_appendf rfl rfl rfl tl33 zo50 tb50 hzr.fz hnn (Src.one' (i := 0) rfl rfl (one_own _)) (by decide) (by omega) (by unfold maxLen; omega) (fun a2 c2 => ?_)
          refine ⟨⟨hg, alln⟩, ?_⟩
          refine g_freezeVec (i := 0) rfl rfl (fun m3 hm3 hzv hnv => ?_)
          replace hm := hm.trans hm3
          replace hg := hg.trans hm3
          replace hz := hz.mono hm3
          replace hzx := hzx.mono hm3
          replace hzr := hzr.mono hm3
          clear hm3
          refine g_freezeVec (i := 2) rfl rfl (fun m3 hm3 hza hna => ?_)
          replace hm := hm.trans hm3
          replace hg := hg.trans hm3
          replace hz := hz.mono hm3
          replace hzx := hzx.mono hm3
          replace hzr := hzr.mono hm3
          replace hzv := hzv.mono hm3
          clear hm3
          refine g_del 0 rfl ?_
          refine g_del 0 rfl ?_
          refine g_del 0 rfl ?_
          have hzt := hzr.snoc hzv hza hoo hna
          refine g_s (i := 5) (listed' := #[true, true, true, true, true, true, false, false]) rfl (by kernel_rfl) (by kernel_rfl) rfl ?_
          refine s_call0 rfl Try.call28 rfl (ruleSort_w ⟨a2, n + 1, c2⟩ (lr ++ [(o.r, o.s)]) _ _ hzt (by have := congrArg List.length hlr; simp at this ⊢; omega)) ?_
          rintro _ m2 _ hm2 ⟨a3, n3, cap3, lo3, rfl, hn3, hlo3, hok3, rfl⟩
          replace hm := hm.trans hm2
          refine ⟨⟨hg.trans hm2, alln⟩, ?_⟩
          replace hg := hg.trans hm2
          replace hz := hz.mono hm2
          replace hzx := hzx.mono hm2
          replace hzr := hzr.mono hm2
          replace hzv := hzv.mono hm2
          replace hza := hza.mono hm2
          clear hm2
          refine g_y (i := 6) (listed' := #[true, true, true, true, true, true, true, false]) rfl (by kernel_rfl) (by kernel_rfl) (by kernel_rfl) (by kernel_rfl) rfl rfl hg alln (fun m' H' hm' hX' => y_assign rfl) ?_
          refine g_y (i := 7) (listed' := #[true, true, true, true, true, true, true, true]) rfl (by kernel_rfl) (by kernel_rfl) (by kernel_rfl) (by kernel_rfl) rfl rfl hg alln (fun m' H' hm' hX' => y_assign rfl) ?_
          refine g_done (by kernel_rfl) ?_
          clear hg hz_g hzx_g
          refine hK20 _ _ _ ?_
          clear hK20 K20
          refine c_ret ?_
          refine e_ret 0 hm (res_tmps rfl) ?_
          rw [addR_0 (by first | exact hown | (rw [hown]; simpa using hW)) (by first | (rw [hC]; rfl) | (rw [hC, ← hor, hO]; rfl)) (by first | (rw [hany]; rfl) | (rw [hany, List.length_map, ← hl]; simpa using hF))]
          refine ⟨a3, n3, n3, cap3, lo3, rfl, hn3, .inl rfl, ?_, hok3, rfl⟩
          rw [hlo3, List.map_append, hlr, ← hor]; rfl
        ·
          refine s_y rfl (y_load_a (cs := o.enc) rfl ts50 (RdA.blk (i := 0) rfl rfl)) ?_
          refine ⟨⟨hg, alln⟩, ?_⟩
          refine g_each (rs := [1, 3]) (by kernel_rfl) (by simp) ⟨⟨_, rfl, rfl, ?_⟩, ⟨_, rfl, rfl, ?_⟩, trivial⟩
          ·
            refine s_call0 rfl Try.call27 rfl (ruleCopyF_w s1 l1 _ _ hz hfa (by omega)) ?_
            rintro _ m2 _ hm2 ⟨a, n, lr, rfl, hzr, hlr, hnn, rfl⟩
            replace hm := hm.trans hm2
            refine ⟨⟨hg.trans hm2, alln⟩, ?_⟩
            replace hg := hg.trans hm2
            replace hz := hz.mono hm2
            replace hzx := hzx.mono hm2
            clear hm2
            refine g_s (i := 3) (listed' := #[true, true, true, true, false, false, false, false]) rfl (by kernel_rfl) (by kernel_rfl) rfl ?_
            refine s_buildSlice (cs := (o.enc)) (e := 50) rfl rfl (fun _ => by kernel_rfl) (fun b5 => ?_)
            refine ⟨⟨hg, alln⟩, ?_⟩
            have hnl : n ≤ 1000000 := by have h3 := hzr.len; have h4 := congrArg List.length hlr; simp at h3 h4; omega
            refine g_s (i := 4) (listed' := #[true, true, true, true, true, false, false, false]) rfl (by kernel_rfl) (by kernel_rfl) rfl ?_
            refine s_appendf rfl rfl rfl tl33 zo50 tb50 hzr.fz hnn (Src.one' (i := 0) rfl rfl (one_own _)) (by decide) (by omega) (by unfold maxLen; omega) (fun a2 c2 => ?_)
            refine ⟨⟨hg, alln⟩, ?_⟩
            refine g_freezeVec (i := 0) rfl rfl (fun m3 hm3 hzv hnv => ?_)
            replace hm := hm.trans hm3
            replace hg := hg.trans hm3
            replace hz := hz.mono hm3
            replace hzx := hzx.mono hm3
            replace hzr := hzr.mono hm3
            clear hm3
            refine g_freezeVec (i := 2) rfl rfl (fun m3 hm3 hza hna => ?_)
            replace hm := hm.trans hm3
            replace hg := hg.trans hm3
            replace hz := hz.mono hm3
            replace hzx := hzx.mono hm3
            replace hzr := hzr.mono hm3
            replace hzv := hzv.mono hm3
            clear hm3
            refine g_del 0 rfl ?_
            refine g_del 0 rfl ?_
            refine g_del 0 rfl ?_
            have hzt := hzr.snoc hzv hza hoo hna
            refine g_s (i := 5) (listed' := #[true, true, true, true, true, true, false, false]) rfl (by kernel_rfl) (by kernel_rfl) rfl ?_
            refine s_call0 rfl Try.call28 rfl (ruleSort_w ⟨a2, n + 1, c2⟩ (lr ++ [(o.r, o.s)]) _ _ hzt (by have := congrArg List.length hlr; simp at this ⊢; omega)) ?_
            rintro _ m2 _ hm2 ⟨a3, n3, cap3, lo3, rfl, hn3, hlo3, hok3, rfl⟩
            replace hm := hm.trans hm2
            refine ⟨⟨hg.trans hm2, alln⟩, ?_⟩
            replace hg := hg.trans hm2
            replace hz := hz.mono hm2
            replace hzx := hzx.mono hm2
            replace hzr := hzr.mono hm2
            replace hzv := hzv.mono hm2
            replace hza := hza.mono hm2
            clear hm2
            refine g_y (i := 6) (listed' := #[true, true, true, true, true, true, true, false]) rfl (by kernel_rfl) (by kernel_rfl) (by kernel_rfl) (by kernel_rfl) rfl rfl hg alln (fun m' H' hm' hX' => y_assign rfl) ?_
            refine g_y (i := 7) (listed' := #[true, true, true, true, true, true, true, true]) rfl (by kernel_rfl) (by kernel_rfl) (by kernel_rfl) (by kernel_rfl) rfl rfl hg alln (fun m' H' hm' hX' => y_assign rfl) ?_
            refine g_done (by kernel_rfl) ?_
            clear hg hz_g hzx_g
            refine hK20 _ _ _ ?_
            clear hK20 K20
            refine c_ret ?_
            refine e_ret 0 hm (res_tmps rfl) ?_
            rw [addR_0 (by first | exact hown | (rw [hown]; simpa using hW)) (by first | (rw [hC]; rfl) | (rw [hC, ← hor, hO]; rfl)) (by first | (rw [hany]; rfl) | (rw [hany, List.length_map, ← hl]; simpa using hF))]
            refine ⟨a3, n3, n3, cap3, lo3, rfl, hn3, .inl rfl, ?_, hok3, rfl⟩
            rw [hlo3, List.map_append, hlr, ← hor]; rfl
          ·
            refine s_buildSlice (cs := (o.enc)) (e := 50) rfl rfl (fun _ => by kernel_rfl) (fun b5 => ?_)
            refine ⟨⟨hg, alln⟩, ?_⟩
            refine g_s (i := 1) (listed' := #[true, true, true, true, false, false, false, false]) rfl (by kernel_rfl) (by kernel_rfl) rfl ?_
            refine s_call0 rfl Try.call27 rfl (ruleCopyF_w s1 l1 _ _ hz hfa (by omega)) ?_
            rintro _ m2 _ hm2 ⟨a, n, lr, rfl, hzr, hlr, hnn, rfl⟩
            replace hm := hm.trans hm2
            refine ⟨⟨hg.trans hm2, alln⟩, ?_⟩
            replace hg := hg.trans hm2
            replace hz := hz.mono hm2
            replace hzx := hzx.mono hm2
            clear hm2
            have hnl : n ≤ 1000000 := by have h3 := hzr.len; have h4 := congrArg List.length hlr; simp at h3 h4; omega
            refine g_s (i := 4) (listed' := #[true, true, true, true, true, false, false, false]) rfl (by kernel_rfl) (by kernel_rfl) rfl ?_
            refine s_appendf rfl rfl rfl tl33 zo50 tb50 hzr.fz hnn (Src.one' (i := 0) rfl rfl (one_own _)) (by decide) (by omega) (by unfold maxLen; omega) (fun a2 c2 => ?_)
            refine ⟨⟨hg, alln⟩, ?_⟩
            refine g_freezeVec (i := 0) rfl rfl (fun m3 hm3 hzv hnv => ?_)
            replace hm := hm.trans hm3
            replace hg := hg.trans hm3
            replace hz := hz.mono hm3
            replace hzx := hzx.mono hm3
            replace hzr := hzr.mono hm3
            clear hm3
            refine g_freezeVec (i := 2) rfl rfl (fun m3 hm3 hza hna => ?_)
            replace hm := hm.trans hm3
            replace hg := hg.trans hm3
            replace hz := hz.mono hm3
            replace hzx := hzx.mono hm3
            replace hzr := hzr.mono hm3
            replace hzv := hzv.mono hm3
            clear hm3
            refine g_del 0 rfl ?_
            refine g_del 0 rfl ?_
            refine g_del 0 rfl ?_
            have hzt := hzr.snoc hzv hza hoo hna
            refine g_s (i := 5) (listed' := #[true, true, true, true, true, true, false, false]) rfl (by kernel_rfl) (by kernel_rfl) rfl ?_
            refine s_call0 rfl Try.call28 rfl (ruleSort_w ⟨a2, n + 1, c2⟩ (lr ++ [(o.r, o.s)]) _ _ hzt (by have := congrArg List.length hlr; simp at this ⊢; omega)) ?_
            rintro _ m2 _ hm2 ⟨a3, n3, cap3, lo3, rfl, hn3, hlo3, hok3, rfl⟩
            replace hm := hm.trans hm2
            refine ⟨⟨hg.trans hm2, alln⟩, ?_⟩
            replace hg := hg.trans hm2
            replace hz := hz.mono hm2
            replace hzx := hzx.mono hm2
            replace hzr := hzr.mono hm2
            replace hzv := hzv.mono hm2
            replace hza := hza.mono hm2
            clear hm2
            refine g_y (i := 6) (listed' := #[true, true, true, true, true, true, true, false]) rfl (by kernel_rfl) (by kernel_rfl) (by kernel_rfl) (by kernel_rfl) rfl rfl hg alln (fun m' H' hm' hX' => y_assign rfl) ?_
            refine g_y (i := 7) (listed' := #[true, true, true, true, true, true, true, true]) rfl (by kernel_rfl) (by kernel_rfl) (by kernel_rfl) (by kernel_rfl) rfl rfl hg alln (fun m' H' hm' hX' => y_assign rfl) ?_
            refine g_done (by kernel_rfl) ?_
            clear hg hz_g hzx_g
            refine hK20 _ _ _ ?_
            clear hK20 K20
            refine c_ret ?_
            refine e_ret 0 hm (res_tmps rfl) ?_
            rw [addR_0 (by first | exact hown | (rw [hown]; simpa using hW)) (by first | (rw [hC]; rfl) | (rw [hC, ← hor, hO]; rfl)) (by first | (rw [hany]; rfl) | (rw [hany, List.length_map, ← hl]; simpa using hF))]
            refine ⟨a3, n3, n3, cap3, lo3, rfl, hn3, .inl rfl, ?_, hok3, rfl⟩
            rw [hlo3, List.map_append, hlr, ← hor]; rfl
end Go.Aw
namespace Go.Aw
open Go
theorem perm_mid2 (v c b : Item) (A H : Hp) : (v :: c :: (A ++ (b :: H))).Perm (b :: c :: v :: (A ++ H)) := by
  refine (List.Perm.cons _ (List.Perm.cons _ List.perm_middle)).trans ?_
  refine (List.Perm.swap ..).trans ?_
  refine (List.Perm.cons _ (List.Perm.swap ..)).trans ?_
  exact List.Perm.swap ..
theorem perm_front3 (x a b c : Item) (X : Hp) : (a :: b :: c :: (x :: X)).Perm (x :: a :: b :: c :: X) :=
  (List.perm_middle (l₁ := [a, b, c]) (l₂ := X) (a := x))
theorem perm_pick3 {lo : List OwnR} {i : Nat} {o : OwnR} (ho : lo[i]? = some o) (a b c : Item) (ol : List OwnR) (H : Hp) :
    (a :: b :: c :: (itsO ol ++ (itsO (lo.drop i) ++ H))).Perm (o.it :: a :: b :: c :: (itsO ol ++ (itsO (lo.drop (i + 1)) ++ H))) := by
  have hlt := (List.getElem?_eq_some_iff.1 ho).1
  have he : lo.drop i = o :: lo.drop (i + 1) := by rw [List.drop_eq_getElem_cons hlt, (List.getElem?_eq_some_iff.1 ho).2]
  rw [he]
  have h1 : (itsO ol ++ (itsO (o :: lo.drop (i + 1)) ++ H)).Perm (o.it :: (itsO ol ++ (itsO (lo.drop (i + 1)) ++ H))) := List.perm_middle
  exact (((h1.cons _).cons _).cons _).trans (perm_front3 _ _ _ _ _)
theorem perm_put3 (a b c : Item) (ol : List OwnR) (o : OwnR) (X : Hp) : (o.it :: a :: b :: c :: (itsO ol ++ X)).Perm (a :: b :: c :: (itsO (ol ++ [o]) ++ X)) := by
  refine (perm_front3 _ _ _ _ _).symm.trans (.cons _ (.cons _ (.cons _ ?_)))
  rw [itsO_snoc, List.append_assoc]
  exact List.perm_middle.symm
theorem filterMap_take_succ {α β : Type} {f : α → Option β} {l : List α} {i : Nat} {x : α} (h : l[i]? = some x) : (l.take (i + 1)).filterMap f = (l.take i).filterMap f ++ (match f x with | some y => [y] | none => []) := by
  rw [List.take_add_one, h, List.filterMap_append]
  congr 1
  cases hf : f x <;> simp [List.filterMap_cons, hf]
theorem modR1_keep {x : ModD} {r : RuleD} (h : modTouches x r = false) : modR1 x r = some r := by unfold modR1; rw [h, if_neg (by decide)]
theorem modR1_del {x : ModD} {r : RuleD} (h : modTouches x r = true) (k : x.kind = 3 ∨ x.kind = 5) : modR1 x r = none := by unfold modR1; rw [if_pos h, if_pos k]
theorem modR1_set {x : ModD} {r : RuleD} (h : modTouches x r = true) (k : ¬ (x.kind = 3 ∨ x.kind = 5)) : modR1 x r = some { r with acts := x.acts } := by unfold modR1; rw [if_pos h, if_neg k]
theorem applyR_bad {l : List RuleD} {x : ModD} {room : Int} (h : (ruleTable l && modSound x) = false) : applyR l x room = ([], 2) := by unfold applyR; rw [h]; rfl
theorem applyR_add {l : List RuleD} {x : ModD} {room : Int} (h : (ruleTable l && modSound x) = true) (k : x.kind = 1) : applyR l x room = addR l x room := by unfold applyR; rw [h, if_neg (by decide), if_pos k]
theorem applyR_map {l : List RuleD} {x : ModD} {room : Int} (h : (ruleTable l && modSound x) = true) (k : x.kind ≠ 1) : applyR l x room = (l.filterMap (modR1 x), 0) := by unfold applyR; rw [h, if_neg (by decide), if_neg k]
end Go.Aw
namespace Go.Aw
open Go Go.Proofs
set_option maxRecDepth 100000 in
theorem apply_w (s1 : Sl) (l1 : List (RuleD × Sl)) (x : ModD) (sm : Sl) (room : Int) (m : Snap) (H : Hp) (hz : FzR m s1 l1) (hfa : ∀ p ∈ l1, p.1.acts.length ≤ 4398046511103) (hfit : l1.length < 1000000) (hzx : FzA m sm x.acts) (hokx : sm.ok) (hfx : x.acts.length ≤ 4398046511103) : Fn Try.prog 33 [s1.v, .agg (encMod x sm).toArray, .int .i64 room] m H (fun v m' H' => ∃ (a : Option Addr) (n c cap : Nat) (lo : List OwnR), v = .tuple [.slice a n c, i64 (applyR (l1.map (·.1)) x room).2].toArray ∧ n = lo.length ∧ (c = n ∨ c = cap) ∧ rulesO lo = (applyR (l1.map (·.1)) x room).1 ∧ (∀ o ∈ lo, o.ok) ∧ H' = rowO a n cap lo :: (itsO lo ++ H)) := by
  have hl := hz.len
  have hm : m.le m := Snap.le.refl m
  refine fn_end Try.func33 rfl rfl rfl ?_
  refine c_seq (fun K0 hK0 => ?_)
  refine c_region ?_
  refine r_s rfl ?_
  refine s_box_a rfl rfl (fun b0 => ?_)
  refine r_y rfl rfl (y_assign rfl) ?_
  refine r_y rfl rfl (y_assign rfl) ?_
  refine r_nil ?_
  refine hK0 _ _ _ ?_
  clear hK0 K0
  refine c_seq (fun K1 hK1 => ?_)
  refine c_seq (fun K2 hK2 => ?_)
  refine c_region ?_
  refine r_y rfl rfl (y_move rfl) ?_
  refine r_s rfl ?_
  refine s_call0 rfl Try.call80 rfl (ruleTable_ok s1 l1 _ _ hz) ?_
  rintro _ m2 _ hm2 ⟨rfl, rfl⟩
  replace hm := hm.trans hm2
  replace hz := hz.mono hm2
  replace hzx := hzx.mono hm2
  clear hm2
  refine r_y rfl rfl (y_not rfl) ?_
  refine r_y rfl rfl (y_move rfl) ?_
  refine r_split (j := 3) rfl (fun hM => ?_) (fun hM => ?_)
  ·
    refine r_no' rfl rfl hM ?_
    refine r_no' rfl rfl hM ?_
    refine r_no' rfl rfl hM ?_
    refine r_y rfl rfl (y_pickt rfl hM rfl) ?_
    refine r_nil ?_
    refine hK2 _ _ _ ?_
    clear hK2 K2
    refine c_ift rfl rfl ?_
    refine c_seq (fun K3 hK3 => ?_)
    refine c_region ?_
    refine r_nilvec 50 32 ?_
    refine r_y rfl rfl (y_assign rfl) ?_
    refine r_y rfl rfl (y_assign rfl) ?_
    refine r_nil ?_
    refine hK3 _ _ _ ?_
    clear hK3 K3
    refine c_ret ?_
    refine e_retf [0, 1] 1 hm (res_tmps rfl) ?_
    rw [applyR_bad (by first | (simp at hM; rw [hM]; rfl) | (simp at hM hS0; rw [hM, hS0]; rfl))]
    exact ⟨none, 0, 0, 0, [], rfl, rfl, .inl rfl, rfl, fun o ho => (by cases ho), rfl⟩
  ·
    refine r_yg rfl hM rfl (y_load_a (cs := encMod x sm) rfl ts32 (RdA.blk (i := 0) rfl rfl)) ?_
    refine r_sg rfl hM ?_
    refine s_call0 rfl Try.call36 rfl (modSound_ok x sm _ _ hzx) ?_
    rintro _ m2 _ hm2 ⟨rfl, rfl⟩
    replace hm := hm.trans hm2
    replace hz := hz.mono hm2
    replace hzx := hzx.mono hm2
    clear hm2
    refine r_yg rfl hM rfl (y_not rfl) ?_
    refine r_y rfl rfl (y_pickf rfl hM rfl) ?_
    refine r_nil ?_
    refine hK2 _ _ _ ?_
    clear hK2 K2
    refine c_cond rfl (fun hS0 => ?_) (fun hS0 => ?_)
    ·
      refine c_seq (fun K4 hK4 => ?_)
      refine c_region ?_
      refine r_nilvec 50 32 ?_
      refine r_y rfl rfl (y_assign rfl) ?_
      refine r_y rfl rfl (y_assign rfl) ?_
      refine r_nil ?_
      refine hK4 _ _ _ ?_
      clear hK4 K4
      refine c_ret ?_
      refine e_retf [0, 1] 1 hm (res_tmps rfl) ?_
      rw [applyR_bad (by first | (simp at hM; rw [hM]; rfl) | (simp at hM hS0; rw [hM, hS0]; rfl))]
      exact ⟨none, 0, 0, 0, [], rfl, rfl, .inl rfl, rfl, fun o ho => (by cases ho), rfl⟩
    ·
      have hTS : (ruleTable (l1.map (·.1)) && modSound x) = true := by first | (simp_all; done) | (rw [Bool.and_eq_true]; simp at hM hS0 ⊢; exact ⟨hM, hS0⟩)
      have hsrt : Srt (l1.map (·.1)) := (table_iff.1 (Bool.and_eq_true .. ▸ hTS : _ ∧ _).1).2
      refine c_skip ?_
      refine hK1 _ _ _ ?_
      clear hK1 K1
      refine c_seq (fun K5 hK5 => ?_)
      refine c_seq (fun K6 hK6 => ?_)
      refine c_region ?_
      refine r_y rfl rfl (y_fieldAddr rfl At.lit fo32_0 rfl) ?_
      refine r_y rfl rfl (y_load_s rfl ts3 (RdS.blk (i := 0) rfl rfl)) ?_
      refine r_y rfl rfl (y_iop rfl rfl rfl) ?_
      refine r_nil ?_
      refine hK6 _ _ _ ?_
      clear hK6 K6
      refine c_cond rfl (fun hK1 => ?_) (fun hK1 => ?_)
      ·
        refine c_seq (fun K7 hK7 => ?_)
        refine c_region ?_
        refine r_y rfl rfl (y_move rfl) ?_
        refine r_y rfl rfl (y_load_a (cs := encMod x sm) rfl ts32 (RdA.blk (i := 0) rfl rfl)) ?_
        refine r_y rfl rfl (y_move rfl) ?_
        refine r_del 0 rfl ?_
        refine r_s rfl ?_
        refine s_call0 rfl Try.call81 rfl (add_w s1 l1 x sm room _ _ hz hfa hfit hzx hokx hfx hsrt) ?_
        rintro _ m2 _ hm2 ⟨a, n, c, cap, lo, rfl, hnl, hnc, hlo, hok1, rfl⟩
        replace hm := hm.trans hm2
        replace hz := hz.mono hm2
        replace hzx := hzx.mono hm2
        clear hm2
        refine r_y rfl rfl (y_extract rfl rfl) ?_
        refine r_y rfl rfl (y_extract rfl rfl) ?_
        refine r_y rfl rfl (y_assign rfl) ?_
        refine r_y rfl rfl (y_assign rfl) ?_
        refine r_nil ?_
        refine hK7 _ _ _ ?_
        clear hK7 K7
        refine c_ret ?_
        refine e_ret 0 hm (res_tmps rfl) ?_
        rw [applyR_add hTS (by simpa using hK1)]
        exact ⟨a, n, c, cap, lo, rfl, hnl, hnc, hlo, hok1, rfl⟩
      ·
        refine c_skip ?_
        refine hK5 _ _ _ ?_
        clear hK5 K5
        refine c_seq (fun K8 hK8 => ?_)
        refine c_region ?_
        refine r_y rfl rfl (y_assign rfl) ?_
        refine r_nil ?_
        refine hK8 _ _ _ ?_
        clear hK8 K8
        refine c_seq (fun K9 hK9 => ?_)
        refine c_seq (fun K10 hK10 => ?_)
        refine c_region ?_
        refine r_y rfl rfl (y_move rfl) ?_
        refine r_s rfl ?_
        refine s_call0 rfl Try.call27 rfl (ruleCopy_w s1 l1 _ _ hz hfa (by omega)) ?_
        rintro _ m2 _ hm2 ⟨a, n, cap, lo, rfl, hnl, hlo, hoc, rfl⟩
        replace hm := hm.trans hm2
        replace hz := hz.mono hm2
        replace hzx := hzx.mono hm2
        clear hm2
        refine r_nilvec 50 32 ?_
        refine r_perm _ (perm_mid2 _ _ _ _ _) ?_
        refine r_y rfl rfl (y_len tl33 rfl) ?_
        refine r_y rfl rfl (y_move rfl) ?_
        refine r_nil ?_
        refine hK10 _ _ _ ?_
        clear hK10 K10
        refine c_block ?_
        have hnb : n ≤ 1000000 := by have h4 := congrArg List.length hlo; simp [rulesO] at h4; omega
        refine c_loopx (α := Nat × List OwnR × Sl) (fun vv => match vv with | (i, ol, sv) => [(4, .pointer (some ⟨b0, 0, none⟩)), (8, sv.v), (29, .slice a n n), (30, .int .i64 (n : Nat)), (31, .int .i64 (i : Nat))]) (fun vv => match vv with | (i, ol, sv) => .blk b0 (.cells (encMod x sm).toArray 32) :: rowO a n cap lo :: rowO sv.a sv.n sv.cap ol :: (itsO ol ++ (itsO (lo.drop i) ++ H))) (fun k0 vv m1 => match vv with | (i, ol, sv) => (i + k0 = n ∧ sv.n = ol.length ∧ sv.n ≤ i ∧ rulesO ol = ((l1.map (·.1)).take i).filterMap (modR1 x) ∧ (∀ o ∈ ol, o.ok)) ∧ m.le m1 ∧ (FzA m1 sm x.acts)) (n) (0, [], zSl) ⟨rfl, rfl, rfl, rfl, rfl, trivial⟩ rfl ⟨⟨by omega, rfl, by show 0 ≤ 0; omega, rfl, fun o ho => by cases ho⟩, hm, hzx⟩ ?_
        clear hm hzx
        rintro k0 ⟨i, ol, sv⟩ m1 ⟨hi0, hm, hzx⟩
        obtain ⟨hi, hsl, hsi, hro, hoo0⟩ := hi0
        refine c_seq (fun K11 hK11 => ?_)
        refine c_region ?_
        refine r_y rfl rfl (y_iop rfl rfl rfl) ?_
        refine r_nil ?_
        refine hK11 _ _ _ ?_
        clear hK11 K11
        refine c_seq (fun K12 hK12 => ?_)
        refine c_cond rfl (fun hL => ?_) (fun hL => ?_)
        ·
          have hlt : i < n := by simp at hL; omega
          obtain ⟨o, ho⟩ := get_of_lt (l := lo) (k := i) (by omega)
          have hT := filterMap_take_succ (f := modR1 x) (l := l1.map (·.1)) (i := i) (x := o.r) (by rw [← hlo]; simp [rulesO, ho])
          refine c_skip ?_
          refine hK12 _ _ _ ?_
          clear hK12 K12
          refine c_seq (fun K13 hK13 => ?_)
          refine c_block ?_
          refine c_seq (fun K14 hK14 => ?_)
          refine c_region ?_
          refine r_perm _ (perm_pick3 ho _ _ _ ol _) ?_
          refine r_y rfl rfl (y_indexAddr_slice (k := i) rfl rfl tl33 hlt (At.vec (k := i) (i := 2) rfl hlt)) ?_
          refine r_y rfl rfl (y_load_a (cs := o.enc) rfl ts50 (RdA.vec0 (k := i) (i := 2) rfl rfl (map_get ho) rfl)) ?_
          refine r_s rfl ?_
          refine s_alloc rfl tz50 (fun b1 => ?_)
          refine r_s rfl ?_
          refine s_store (us := o.enc) rfl rfl rfl ts50 rfl rfl (one_own _) (i := 0) rfl rfl ?_
          refine r_nil ?_
          refine hK14 _ _ _ ?_
          clear hK14 K14
          refine c_seq (fun K15 hK15 => ?_)
          refine c_seq (fun K16 hK16 => ?_)
          refine c_region ?_
          refine r_y rfl rfl (y_load_a (cs := encMod x sm) rfl ts32 (RdA.blk (i := 2) rfl rfl)) ?_
          refine r_y rfl rfl (y_load_a (cs := o.enc) rfl ts50 (RdA.blk (i := 0) rfl rfl)) ?_
          refine r_s rfl ?_
          refine s_call0 rfl Try.call82 rfl (touches_w x sm o.r o.s _ _ hzx hokx hfx) ?_
          rintro _ m2 _ hm2 ⟨rfl, rfl⟩
          replace hm := hm.trans hm2
          replace hzx := hzx.mono hm2
          clear hm2
          refine r_nil ?_
          refine hK16 _ _ _ ?_
          clear hK16 K16
          refine c_cond rfl (fun hTo => ?_) (fun hTo => ?_)
          ·
            refine c_seq (fun K17 hK17 => ?_)
            refine c_seq (fun K18 hK18 => ?_)
            refine c_region ?_
            refine r_y rfl rfl (y_fieldAddr rfl At.lit fo32_0 rfl) ?_
            refine r_y rfl rfl (y_load_s rfl ts3 (RdS.blk (i := 2) rfl rfl)) ?_
            refine r_y rfl rfl (y_iop rfl rfl rfl) ?_
            refine r_y rfl rfl (y_move rfl) ?_
            refine r_split (j := 3) rfl (fun hK3 => ?_) (fun hK3 => ?_)
            ·
              refine r_no' rfl rfl hK3 ?_
              refine r_no' rfl rfl hK3 ?_
              refine r_no' rfl rfl hK3 ?_
              refine r_y rfl rfl (y_pickt rfl hK3 rfl) ?_
              refine r_nil ?_
              refine hK18 _ _ _ ?_
              clear hK18 K18
              refine c_ift rfl rfl ?_
              refine c_exit ?_
              refine hK13 _ _ _ ?_
              clear hK17 K17 hK15 K15 hK13 K13
              refine c_region ?_
              refine r_del 0 rfl ?_
              refine r_del 0 rfl ?_
              first | refine r_y rfl rfl (y_inc rfl (by omega)) ?_ | refine r_y rfl rfl (y_iop rfl rfl rfl) ?_
              refine r_y rfl rfl (y_move rfl) ?_
              refine r_nil ?_
              exact ⟨k0 - 1, (i + 1, ol, sv), by omega, ⟨rfl, rfl, rfl, rfl, rfl, trivial⟩, (by simp only [rowO, List.map_append]; rfl), ⟨by omega, hsl, by omega, by rw [hT, modR1_del (by simpa using hTo) (by first | (simp at hK3; exact .inl hK3) | (simp at hK4; exact .inr hK4)), hro, List.append_nil], hoo0⟩, hm, hzx⟩
            ·
              refine r_yg rfl hK3 rfl (y_fieldAddr rfl At.lit fo32_0 rfl) ?_
              refine r_yg rfl hK3 rfl (y_load_s rfl ts3 (RdS.blk (i := 2) rfl rfl)) ?_
              refine r_yg rfl hK3 rfl (y_iop rfl rfl rfl) ?_
              refine r_y rfl rfl (y_pickf rfl hK3 rfl) ?_
              refine r_nil ?_
              refine hK18 _ _ _ ?_
              clear hK18 K18
              refine c_cond rfl (fun hK4 => ?_) (fun hK4 => ?_)
              ·
                refine c_exit ?_
                refine hK13 _ _ _ ?_
                clear hK17 K17 hK15 K15 hK13 K13
                refine c_region ?_
                refine r_del 0 rfl ?_
                refine r_del 0 rfl ?_
                first | refine r_y rfl rfl (y_inc rfl (by omega)) ?_ | refine r_y rfl rfl (y_iop rfl rfl rfl) ?_
                refine r_y rfl rfl (y_move rfl) ?_
                refine r_nil ?_
                exact ⟨k0 - 1, (i + 1, ol, sv), by omega, ⟨rfl, rfl, rfl, rfl, rfl, trivial⟩, (by simp only [rowO, List.map_append]; rfl), ⟨by omega, hsl, by omega, by rw [hT, modR1_del (by simpa using hTo) (by first | (simp at hK3; exact .inl hK3) | (simp at hK4; exact .inr hK4)), hro, List.append_nil], hoo0⟩, hm, hzx⟩
              ·
                have hKd : ¬ (x.kind = 3 ∨ x.kind = 5) := by simp at hK3 hK4; omega
                refine c_skip ?_
                refine hK17 _ _ _ ?_
                clear hK17 K17
                refine c_region ?_
                refine r_y rfl rfl (y_fieldAddr rfl At.lit fo32_3 rfl) ?_
                refine r_y rfl rfl (y_load_s rfl ts30 (RdS.blk (i := 2) rfl rfl)) ?_
                refine r_s rfl ?_
                refine s_call0 rfl Try.call84 rfl (cloneA2_w sm x.acts _ _ hzx hokx hfx) ?_
                rintro _ m2 _ hm2 ⟨sc, rfl, hsc, hle, rfl⟩
                replace hm := hm.trans hm2
                replace hzx := hzx.mono hm2
                clear hm2
                refine r_s rfl ?_
                refine s_call0 rfl Try.call83 rfl (clipA_w sc.a sc.n sc.cap _ _ hle) ?_
                rintro _ m2 _ hm2 ⟨rfl, rfl⟩
                replace hm := hm.trans hm2
                replace hzx := hzx.mono hm2
                clear hm2
                refine r_y rfl rfl (y_fieldAddr rfl At.lit fo50_2 rfl) ?_
                refine r_s rfl ?_
                refine s_store rfl rfl rfl ts30 rfl rfl (by simp [Value.oneCell', wv, Sl.v]) (i := 1) rfl rfl ?_
                refine r_nil ?_
                refine hK15 _ _ _ ?_
                clear hK15 K15
                refine c_region ?_
                refine r_y rfl rfl (y_move rfl) ?_
                refine r_y rfl rfl (y_load_a (cs := encRule { o.r with acts := x.acts } ⟨sc.a, sc.n, sc.n⟩) rfl ts50 (RdA.blk (i := 1) rfl rfl)) ?_
                refine r_s rfl ?_
                refine s_buildSlice (cs := (encRule { o.r with acts := x.acts } ⟨sc.a, sc.n, sc.n⟩)) (e := 50) rfl rfl (fun _ => by kernel_rfl) (fun b2 => ?_)
                refine r_s rfl ?_
                refine s_append rfl rfl rfl tl33 zo50 tb50 (i := 6) rfl (Src.one' (i := 0) rfl rfl (one_rule _ _)) (by omega) (by unfold maxLen; omega) (fun a1 c1 => ?_)
                refine r_del 0 rfl ?_
                refine r_y rfl rfl (y_assign rfl) ?_
                refine r_nil ?_
                refine hK13 _ _ _ ?_
                clear hK13 K13
                refine c_region ?_
                refine r_del 1 rfl ?_
                refine r_del 1 rfl ?_
                refine r_perm _ (perm_put3 _ _ _ ol ⟨{ o.r with acts := x.acts }, ⟨sc.a, sc.n, sc.n⟩, sc.cap⟩ _) ?_
                first | refine r_y rfl rfl (y_inc rfl (by omega)) ?_ | refine r_y rfl rfl (y_iop rfl rfl rfl) ?_
                refine r_y rfl rfl (y_move rfl) ?_
                refine r_nil ?_
                exact ⟨k0 - 1, (i + 1, ol ++ [⟨{ o.r with acts := x.acts }, ⟨sc.a, sc.n, sc.n⟩, sc.cap⟩], ⟨a1, sv.n + 1, c1⟩), by omega, ⟨rfl, rfl, rfl, rfl, rfl, trivial⟩, (by simp only [rowO, List.map_append]; rfl), ⟨by omega, by simp [hsl], by show sv.n + 1 ≤ i + 1; omega, by rw [rulesO_snoc, hT, modR1_set (by simpa using hTo) hKd, hro], ok_snoc hoo0 (show OwnR.ok ⟨{ o.r with acts := x.acts }, ⟨sc.a, sc.n, sc.n⟩, sc.cap⟩ from rfl)⟩, hm, hzx⟩
          ·
            refine c_skip ?_
            refine hK15 _ _ _ ?_
            clear hK15 K15
            refine c_region ?_
            refine r_y rfl rfl (y_move rfl) ?_
            refine r_y rfl rfl (y_load_a (cs := o.enc) rfl ts50 (RdA.blk (i := 0) rfl rfl)) ?_
            refine r_s rfl ?_
            refine s_buildSlice (cs := (o.enc)) (e := 50) rfl rfl (fun _ => by kernel_rfl) (fun b2 => ?_)
            refine r_s rfl ?_
            refine s_append rfl rfl rfl tl33 zo50 tb50 (i := 5) rfl (Src.one' (i := 0) rfl rfl (one_rule _ _)) (by omega) (by unfold maxLen; omega) (fun a1 c1 => ?_)
            refine r_del 0 rfl ?_
            refine r_y rfl rfl (y_assign rfl) ?_
            refine r_nil ?_
            refine hK13 _ _ _ ?_
            clear hK13 K13
            refine c_region ?_
            refine r_del 0 rfl ?_
            refine r_perm _ (perm_put3 _ _ _ ol o _) ?_
            first | refine r_y rfl rfl (y_inc rfl (by omega)) ?_ | refine r_y rfl rfl (y_iop rfl rfl rfl) ?_
            refine r_y rfl rfl (y_move rfl) ?_
            refine r_nil ?_
            exact ⟨k0 - 1, (i + 1, ol ++ [o], ⟨a1, sv.n + 1, c1⟩), by omega, ⟨rfl, rfl, rfl, rfl, rfl, trivial⟩, (by simp only [rowO, List.map_append]; rfl), ⟨by omega, by simp [hsl], by show sv.n + 1 ≤ i + 1; omega, by rw [rulesO_snoc, hT, modR1_keep (by simpa using hTo), hro], ok_snoc hoo0 (hoc o (List.mem_of_getElem? ho))⟩, hm, hzx⟩
        ·
          refine c_exit ?_
          refine hK9 _ _ _ ?_
          clear hK12 K12 hK9 K9
          refine c_seq (fun K19 hK19 => ?_)
          refine c_region ?_
          refine r_vecfacts (i := 2) rfl (fun hle _ _ _ _ => ?_)
          refine r_y rfl rfl (y_move rfl) ?_
          refine r_y rfl rfl (y_assign rfl) ?_
          refine r_y rfl rfl (y_assign rfl) ?_
          refine r_nil ?_
          refine hK19 _ _ _ ?_
          clear hK19 K19
          refine c_ret ?_
          refine e_ret 2 hm (res_tmps rfl) ?_
          rw [applyR_map hTS (by simpa using hK1)]
          have hin : i = n := by simp at hL; omega
          have hdr : lo.drop i = [] := List.drop_eq_nil_of_le (by omega)
          refine ⟨sv.a, sv.n, sv.cap, sv.cap, ol, rfl, hsl, .inr rfl, ?_, hoo0, by simp only [hdr]; rfl⟩
          rw [hro, List.take_of_length_le (by rw [← hlo]; simp [rulesO]; omega)]
end Go.Aw
namespace Go.Aw
open Go
theorem strB_eq (l : List UInt8) : strB l = ⟨l.toArray⟩ := by
  unfold strB
  rw [foldl_push_byteCells]
  have : ByteArray.empty.data = #[] := rfl
  rw [this]; simp
theorem strB_size (l : List UInt8) : (strB l).size = l.length := by rw [strB_eq]; simp [ByteArray.size]
def sbCells (l : List UInt8) (cap : Nat) : List Value := l.map bv ++ List.replicate (cap - l.length) (bv 0)
theorem sbCells_set (l : List UInt8) (cap k : Nat) (c : UInt8) (hk : k < l.length) : (sbCells l cap).set k (bv c) = sbCells (l.set k c) cap := by
  unfold sbCells
  rw [List.set_append_left _ _ (by simpa using hk), List.length_set, List.map_set]
/-- What '[]byte(s)' lays: the mark stands behind the last cell. -/
abbrev sbIt (b : Nat) (l : List UInt8) (cap N : Nat) : Item := .blk b (.cells (sbCells l cap).toArray 5 (N, N + 1))
section
variable {P : Program} {n : Nat} {L : Slots} {m : Snap} {H : Hp} {d : Option Tmp} {ty : TypeId} {ps : String} {af : Array Edge} {gd : Option (Nat × Bool)}
theorem y_index_strB {t : TypeId} {x ix : Operand} {kd : IntKind} {k : Nat} {l : List UInt8} {c : UInt8} (hx : opv L x = some (.string (strB l))) (hi : opv L ix = some (.int kd (k : Int))) (ht : P.underlying t = some .string) (hk : l[k]? = some c) :
    Yl P n L m H ⟨d, .index t x ix, ty, ps, af, gd⟩ (bv c) := by
  intro ac hf w _
  have hlt := (List.getElem?_eq_some_iff.1 hk).1
  have hr := run_index_string (P := P) w t (strB l) kd (k : Int) ht
  rw [dif_pos ⟨by omega, by rw [strB_size]; omega⟩] at hr
  have hv : ((strB l)[(k : Int).toNat]'(by rw [strB_size]; simpa using hlt)) = c := by
    have : ∀ (s : ByteArray) (h : (k : Int).toNat < s.size), s = ⟨l.toArray⟩ → s[(k : Int).toNat]'h = c := by
      intro s h e
      subst e
      simp only [ByteArray.getElem_eq_getElem_data, Int.toNat_natCast, List.getElem_toArray]
      exact (List.getElem?_eq_some_iff.1 hk).2
    exact this _ _ (strB_eq l)
  rw [hv] at hr
  simp only [execOp, hf.eval hx, hf.eval hi]
  rw [Sem.run_bind, hr]
  rfl
theorem y_lenstr {t : TypeId} {x : Operand} {l : List UInt8} (ht : P.underlying t = some .string) (hx : opv L x = some (.string (strB l))) :
    Yl P n L m H ⟨d, .call ⟨.builtin .len, [x].toArray, [t].toArray⟩, ty, ps, af, gd⟩ (.int .i64 (l.length : Int)) :=
  fun ac hf w _ => (by
    have := run_len_string (P := P) w t ty (strB l) ht
    rw [strB_size] at this
    simp [execOp, resolve, invoke, builtin, hf.eval hx, this, goInt])
theorem y_wany {op : BinOp} {t t' : TypeId} {x y : Operand} {a b : W} {z : Int} (hx : opv L x = some (wv a)) (hy : opv L y = some (wv b)) (hv : iop op .u64 (a.toNat : Int) (b.toNat : Int) = some (.int .u64 (IntKind.u64.wrap z))) :
    Yl P n L m H ⟨d, .binOp op t x y t', ty, ps, af, gd⟩ (wv (BitVec.ofInt 64 z)) := by
  rw [wrap_u64_i] at hv
  exact y_iop hx hy hv
theorem s_strbytes {K : Slots → Snap → Hp → Prop} {src dst : TypeId} {x : Operand} {l : List UInt8} (hd : dstOk n d = true) (hx : opv L x = some (.string (strB l)))
    (hs : P.underlying src = some .string) (ht : P.underlying dst = some (.slice 5)) (he : P.underlying 5 = some (.int .u8)) (hlen : l.length ≤ maxLen)
    (h : ∀ b cap N, l.length ≤ cap → cap ≤ maxLen → l.length ≤ N → K (lput L d (.slice (some ⟨b, 0, none⟩) l.length cap)) m (sbIt b l cap N :: H)) :
    SP P n L m H ⟨d, .convert src dst x, ty, ps, af, gd⟩ K := by
  refine s_value hd fun ac w hf hst => ?_
  have hr := run_bytes_of_string (P := P) w src dst 5 (strB l) hs ht he
  have hcells : bytesRow (strB l) (grownCap w (strB l).size 0 5) = (sbCells l (grownCap w (strB l).size 0 5)).toArray := by
    unfold bytesRow sbCells
    rw [strB_size, strB_eq]
    apply Array.toList_inj.1
    simp [bv]
  have hge := grownCap_ge w (strB l).size 0 5
  have hle := grownCap_le_maxLen w (strB l).size 0 5 (by rw [strB_size]; exact hlen)
  rw [hcells] at hr
  have hN : l.length ≤ (sbCells l (grownCap w (strB l).size 0 5)).toArray.size := by simp [sbCells]
  have hexec : (execOp ac.eval ⟨d, .convert src dst x, ty, ps, af, gd⟩).run P w = .ok (.value (.slice (some ⟨w.heap.size, 0, none⟩) (strB l).size (grownCap w (strB l).size 0 5))) (w.drew.alloc (.cells (sbCells l (grownCap w (strB l).size 0 5)).toArray 5 ((sbCells l (grownCap w (strB l).size 0 5)).toArray.size, (sbCells l (grownCap w (strB l).size 0 5)).toArray.size + 1))) := by
    simp only [execOp, hf.eval hx]
    rw [Sem.run_bind, hr]
    rfl
  have h2 := h w.heap.size (grownCap w (strB l).size 0 5) _ (by rw [strB_size] at hge ⊢; exact hge) hle hN
  exact ⟨_, m, _, _, hexec, (hst.drawn _).alloc _, (strB_size l).symm ▸ h2⟩
/-- One byte put into what '[]byte(s)' laid. -/
theorem s_storesb {K : Slots → Snap → Hp → Prop} {t : TypeId} {x y : Operand} {b o k cap N i : Nat} {l : List UInt8} {c : UInt8} (hd : dstOk n d = true) (hx : opv L x = some (.pointer (some ⟨b, o, none⟩))) (ho : o = k) (hy : opv L y = some (bv c))
    (hT : tshape P t = some (false, 1)) (hi : hget H i = some (sbIt b l cap N)) (hk : k < l.length) (hN : l.length ≤ N)
    (h : K (lput L d undef) m (hset H i (sbIt b (l.set k c) cap N))) : SP P n L m H ⟨d, .store t x y, ty, ps, af, gd⟩ K := by
  rw [ho] at hx
  refine s_skip hd fun ac w hf hs => ⟨m, _, w.setRow b (sbCells (l.set k c) cap).toArray, ?_, ?_, h⟩
  · have hw : w.heap[b]? = some (.cells (sbCells l cap).toArray 5 (N, N + 1)) := hs.hold _ (hget_mem hi)
    have hlt : k < (sbCells l cap).length := by simp [sbCells]; omega
    have hcell : w.cell? ⟨b, k, none⟩ = some (sbCells l cap)[k] := by simp [World.cell?, hw, hlt]
    have hfro : w.frozen? ⟨b, k, none⟩ = false := by
      simp only [World.frozen?, hw, Bool.and_eq_false_iff, decide_eq_false_iff_not]
      left; omega
    have hst : (store ⟨b, k, none⟩ (bv c)).run P w = .ok () (w.setRow b (sbCells (l.set k c) cap).toArray) := by
      rw [run_store P w _ _ _ rfl, hcell]
      simp only [hfro, Bool.false_eq_true, if_false]
      rw [setCell_eq_setRow w b k _ 5 _ (bv c) hw, ← sbCells_set l cap k c hk]
      congr 2
      apply Array.toList_inj.1
      simp
    have hsc : (storeCells ⟨b, k, none⟩ [bv c] 0).run P w = .ok () (w.setRow b (sbCells (l.set k c) cap).toArray) := by
      have ha : (⟨b, k, none⟩ : Addr).add 0 = ⟨b, k, none⟩ := by simp [Addr.add]
      simp only [storeCells, Sem.run_bind, ha, hst, Result.andThen_ok]
      rfl
    have hsv : (storeVar t ⟨b, k, none⟩ (bv c)).run P w = .ok () (w.setRow b (sbCells (l.set k c) cap).toArray) := by
      unfold tshape at hT
      unfold storeVar sizeOf typeInfo
      cases hu : P.underlying t with
      | none => simp [hu] at hT
      | some D =>
        cases hq : P.info? t with
        | none => cases D <;> simp [hu, hq] at hT
        | some i =>
          have hsz : i.size = 1 := by cases D <;> simp only [hu, hq, Option.some.injEq, Prod.mk.injEq] at hT <;> exact hT.2
          have hc1 : (bv c).cells = #[bv c] := rfl
          simp [hq, hc1, hsz, hsc]
    simp [execOp, hf.eval hx, hf.eval hy, Instr.storeAt, Instr.sureAddr, hsv]
  · have hw : w.heap[b]? = some (.cells (sbCells l cap).toArray 5 (N, N + 1)) := hs.hold _ (hget_mem hi)
    refine hs.write_at hi rfl (setRow_heap w b _ _ _ _ hw) rfl rfl rfl fun k hk _ => setRow_other w b k _ ?_
    simpa [Item.own] using hk
end
theorem fzb_of_sb {m : Snap} {b cap : Nat} {l : List UInt8} (hc : ∀ (j : Nat) (v : Value), (sbCells l cap)[j]? = some v → m.cell b j = some v) (hle : l.length ≤ cap) (hm : cap ≤ maxLen) : FzB m ⟨some ⟨b, 0, none⟩, l.length, cap⟩ l :=
  ⟨by simp [bytes1], fun c hc => by obtain ⟨x, _, rfl⟩ := List.mem_map.1 hc; rfl, hle, hm, fun k c hk => by
    obtain ⟨x, hx, rfl⟩ : ∃ x, l[k]? = some x ∧ [bv x] = c := by simpa [bytes1] using hk
    refine ⟨b, 0, rfl, fun j v hj => ?_⟩
    cases j with
    | succ j => simp at hj
    | zero =>
      simp only [List.getElem?_cons_zero, Option.some.injEq] at hj
      subst hj
      refine hc _ _ ?_
      have hlt := (List.getElem?_eq_some_iff.1 hx).1
      unfold sbCells
      rw [List.getElem?_append_left (by simp; omega)]
      simp [hx]⟩
end Go.Aw
namespace Go.Aw
open Go
theorem bit_and1 (x : W) (k : Nat) : ((x >>> k) &&& 1#64 == 1#64) = x.getLsbD k := by
  rw [Bool.eq_iff_iff, beq_iff_eq, ← BitVec.toNat_inj]
  simp [BitVec.getLsbD, Nat.testBit, Nat.and_one_is_mod, Nat.one_and_eq_mod_two]
  try omega
def zipAll (F : UInt8 → UInt8 → Bool) (x y : List UInt8) : Bool := (List.zip x y).all fun p => F p.1 p.2
theorem zipAll_append {F : UInt8 → UInt8 → Bool} {x x' y y' : List UInt8} (h : x.length = y.length) : zipAll F (x ++ x') (y ++ y') = (zipAll F x y && zipAll F x' y') := by
  unfold zipAll
  rw [List.zip_append h, List.all_append]
theorem row_all {F : UInt8 → UInt8 → Bool} {v c v' c' : W} : ∀ n, zipAll F (List.zipWith tch (bitsL v n) (bitsL c n)) (List.zipWith tch (bitsL v' n) (bitsL c' n)) = true ↔ ∀ k, k < n → F (tch (v.getLsbD k) (c.getLsbD k)) (tch (v'.getLsbD k) (c'.getLsbD k)) = true
  | 0 => by simp [bitsL, zipAll]
  | n + 1 => by
    have ih := row_all (F := F) (v := v) (c := c) (v' := v') (c' := c') n
    unfold zipAll at ih ⊢
    simp only [bitsL, bit_and1, List.zipWith_cons_cons, List.zip_cons_cons, List.all_cons, Bool.and_eq_true]
    rw [ih]
    constructor
    · rintro ⟨h1, h2⟩ k hk
      rcases Nat.lt_or_ge k n with h | h
      · exact h2 k h
      · obtain rfl : k = n := by omega
        exact h1
    · intro h
      exact ⟨h n (by omega), fun k hk => h k (by omega)⟩
theorem textN_len2 (a b : Cube) : ∀ n, (textN a n).length = (textN b n).length
  | 0 => rfl
  | n + 1 => by simp only [textN, List.length_append, rowT_len, textN_len2 a b n]
theorem text_all {F : UInt8 → UInt8 → Bool} {a b : Cube} : ∀ n, zipAll F (textN a n) (textN b n) = true ↔ ∀ i, i < n → ∀ k, k < hsz (i : Int) → F (tch ((a.value.at i).getLsbD k) ((a.care.at i).getLsbD k)) (tch ((b.value.at i).getLsbD k) ((b.care.at i).getLsbD k)) = true
  | 0 => by simp [textN, zipAll]
  | n + 1 => by
    simp only [textN]
    rw [zipAll_append (textN_len2 a b n), Bool.and_eq_true, text_all n]
    unfold rowT
    rw [row_all]
    constructor
    · rintro ⟨h1, h2⟩ i hi
      rcases Nat.lt_or_ge i n with h | h
      · exact h1 i h
      · obtain rfl : i = n := by omega
        exact h2
    · intro h
      exact ⟨fun i hi => h i (by omega), h n (by omega)⟩
def withinF (x y : UInt8) : Bool := y == 120 || x == y
def meetF (x y : UInt8) : Bool := x == 120 || !(y != 120 && x != y)
theorem withinF_t (p q p' q' : Bool) : withinF (tch p q) (tch p' q') = (!q' || (q && p == p')) := by cases p <;> cases q <;> cases p' <;> cases q' <;> decide
theorem meetF_t (p q p' q' : Bool) : meetF (tch p q) (tch p' q') = !(q && q' && p != p') := by cases p <;> cases q <;> cases p' <;> cases q' <;> decide
end Go.Aw
namespace Go.Aw
open Go
structure CB (c : Cube) : Prop where
  sub : ∀ i, i < 12 → ∀ k, (c.value.at i).getLsbD k = true → (c.care.at i).getLsbD k = true
  fit : ∀ i : Nat, i < 12 → ∀ k, hsz (i : Int) ≤ k → (c.care.at i).getLsbD k = false
theorem CB.of {c : Cube} (h : cubeSound c = true) : CB c := by
  unfold cubeSound headSound at h
  simp only [Bool.and_eq_true, List.all_eq_true, List.mem_range, beq_iff_eq] at h
  refine ⟨fun i hi k hv => ?_, fun i hi k hk => ?_⟩
  · have := congrArg (fun x => x.getLsbD k) (h.2 i hi)
    simp [hv] at this
    by_cases hk : k < 64
    · exact this hk
    · rw [BitVec.getLsbD_of_ge _ _ (by omega)] at hv; cases hv
  · have h1 := h.1 i hi
    unfold fits at h1
    rw [beq_iff_eq] at h1
    have := congrArg (fun x => x.getLsbD (k - hsz (i : Int))) h1
    simp only [BitVec.getLsbD_ushiftRight] at this
    rw [Nat.add_sub_cancel' hk] at this
    simpa using this
theorem cubeMeet_eq {a b : Cube} : cubeMeet a b = a ↔ ∀ i, i < 12 → (a.value.at i ||| b.value.at i = a.value.at i) ∧ (a.care.at i ||| b.care.at i = a.care.at i) := by
  have hm : ∀ (h g : Head) (i : Nat), i < 12 → (h.merge g 12).at i = h.at i ||| g.at i := by
    intro h g i hi
    rw [at_lt hi, at_lt hi, at_lt hi]
    unfold Head.merge
    rw [if_pos hi]
  have hx : ∀ (h g : Head), (∀ i, i < 12 → h.at i = g.at i) → h = g := by
    intro h g hh
    funext k
    have := hh k.val k.isLt
    rw [at_lt k.isLt, at_lt k.isLt] at this
    exact this
  unfold cubeMeet cubeMerge
  constructor
  · intro h i hi
    have h1 := congrArg Cube.value h
    have h2 := congrArg Cube.care h
    simp only at h1 h2
    exact ⟨by rw [← hm _ _ i hi, h1], by rw [← hm _ _ i hi, h2]⟩
  · intro h
    cases a
    simp only [Cube.mk.injEq] at h ⊢
    exact ⟨hx _ _ fun i hi => by rw [hm _ _ i hi]; exact (h i hi).1, hx _ _ fun i hi => by rw [hm _ _ i hi]; exact (h i hi).2⟩
theorem clash_bits {a b : Cube} (ha : CB a) (hb : CB b) {i : Nat} (hi : i < 12) : cubeClash a b i = true ↔ ∀ k, k < hsz (i : Int) → meetF (tch ((a.value.at i).getLsbD k) ((a.care.at i).getLsbD k)) (tch ((b.value.at i).getLsbD k) ((b.care.at i).getLsbD k)) = true := by
  simp only [meetF_t]
  unfold cubeClash
  rw [beq_iff_eq]
  constructor
  · intro h k hk
    have := congrArg (fun x => x.getLsbD k) h
    simp at this
    generalize (a.value.at i).getLsbD k = p at this ⊢
    generalize (a.care.at i).getLsbD k = q at this ⊢
    generalize (b.value.at i).getLsbD k = p' at this ⊢
    generalize (b.care.at i).getLsbD k = q' at this ⊢
    revert this
    cases p <;> cases q <;> cases p' <;> cases q' <;> decide
  · intro h
    refine BitVec.eq_of_getLsbD_eq fun k hk => ?_
    rcases Nat.lt_or_ge k (hsz (i : Int)) with hlt | hge
    · have := h k hlt
      simp
      generalize (a.value.at i).getLsbD k = p at this ⊢
      generalize (a.care.at i).getLsbD k = q at this ⊢
      generalize (b.value.at i).getLsbD k = p' at this ⊢
      generalize (b.care.at i).getLsbD k = q' at this ⊢
      revert this
      cases p <;> cases q <;> cases p' <;> cases q' <;> decide
    · have f := ha.fit i hi k hge
      simp [f]
theorem meet_text {a b : Cube} : cubeMeetOk a b = (cubeSound a && cubeSound b && zipAll meetF (textN a 12) (textN b 12)) := by
  unfold cubeMeetOk
  cases ha : cubeSound a with
  | false => rfl
  | true =>
    cases hb : cubeSound b with
    | false => rfl
    | true =>
      simp only [Bool.and_self, Bool.true_and]
      rw [Bool.eq_iff_iff, text_all, List.all_eq_true]
      simp only [List.mem_range]
      constructor
      · intro h i hi
        exact (clash_bits (CB.of ha) (CB.of hb) hi).1 (h i hi)
      · intro h i hi
        exact (clash_bits (CB.of ha) (CB.of hb) hi).2 (h i hi)
theorem within_bits {a b : Cube} (ha : CB a) (hb : CB b) {i : Nat} (hi : i < 12) : (cubeClash a b i = true ∧ (a.value.at i ||| b.value.at i = a.value.at i) ∧ (a.care.at i ||| b.care.at i = a.care.at i)) ↔ ∀ k, k < hsz (i : Int) → withinF (tch ((a.value.at i).getLsbD k) ((a.care.at i).getLsbD k)) (tch ((b.value.at i).getLsbD k) ((b.care.at i).getLsbD k)) = true := by
  rw [clash_bits ha hb hi]
  simp only [meetF_t, withinF_t]
  constructor
  · rintro ⟨h0, h1, h2⟩ k hk
    have e0 := h0 k hk
    have e1 := congrArg (fun x => x.getLsbD k) h1
    have e2 := congrArg (fun x => x.getLsbD k) h2
    simp only [BitVec.getLsbD_or] at e1 e2
    generalize (a.value.at i).getLsbD k = p at *
    generalize (a.care.at i).getLsbD k = q at *
    generalize (b.value.at i).getLsbD k = p' at *
    generalize (b.care.at i).getLsbD k = q' at *
    clear h0 h1 h2
    revert e0 e1 e2
    cases p <;> cases q <;> cases p' <;> cases q' <;> decide
  · intro h
    refine ⟨fun k hk => ?_, BitVec.eq_of_getLsbD_eq fun k hk => ?_, BitVec.eq_of_getLsbD_eq fun k hk => ?_⟩
    · have e0 := h k hk
      clear h
      revert e0
      generalize (a.value.at i).getLsbD k = p
      generalize (a.care.at i).getLsbD k = q
      generalize (b.value.at i).getLsbD k = p'
      generalize (b.care.at i).getLsbD k = q'
      cases p <;> cases q <;> cases p' <;> cases q' <;> decide
    · rw [BitVec.getLsbD_or]
      have sb := hb.sub i hi k
      rcases Nat.lt_or_ge k (hsz (i : Int)) with hlt | hge
      · have e0 := h k hlt
        clear h
        revert e0 sb
        generalize (a.value.at i).getLsbD k = p
        generalize (a.care.at i).getLsbD k = q
        generalize (b.value.at i).getLsbD k = p'
        generalize (b.care.at i).getLsbD k = q'
        cases p <;> cases q <;> cases p' <;> cases q' <;> decide
      · have f := hb.fit i hi k hge
        rw [f] at sb
        revert sb
        generalize (a.value.at i).getLsbD k = p
        generalize (b.value.at i).getLsbD k = p'
        cases p <;> cases p' <;> decide
    · rw [BitVec.getLsbD_or]
      rcases Nat.lt_or_ge k (hsz (i : Int)) with hlt | hge
      · have e0 := h k hlt
        clear h
        revert e0
        generalize (a.value.at i).getLsbD k = p
        generalize (a.care.at i).getLsbD k = q
        generalize (b.value.at i).getLsbD k = p'
        generalize (b.care.at i).getLsbD k = q'
        cases p <;> cases q <;> cases p' <;> cases q' <;> decide
      · rw [hb.fit i hi k hge]; simp
theorem within_text {a b : Cube} : cubeWithin a b = (cubeSound a && zipAll withinF (textN a 12) (textN b 12) && cubeSound b) := by
  unfold cubeWithin cubeMeetOk
  cases ha : cubeSound a with
  | false => rfl
  | true =>
    cases hb : cubeSound b with
    | false => simp
    | true =>
      simp only [Bool.and_self, Bool.true_and, Bool.and_true]
      rw [Bool.eq_iff_iff, text_all, Bool.and_eq_true, List.all_eq_true, decide_eq_true_iff, cubeMeet_eq]
      simp only [List.mem_range]
      constructor
      · rintro ⟨h1, h2⟩ i hi
        exact (within_bits (CB.of ha) (CB.of hb) hi).1 ⟨h1 i hi, h2 i hi⟩
      · intro h
        exact ⟨fun i hi => ((within_bits (CB.of ha) (CB.of hb) hi).2 (h i hi)).1, fun i hi => ((within_bits (CB.of ha) (CB.of hb) hi).2 (h i hi)).2⟩
def tlen : Nat → Nat
  | 0 => 0
  | i + 1 => tlen i + hsz (i : Int)
theorem textN_tlen (c : Cube) : ∀ i, (textN c i).length = tlen i
  | 0 => rfl
  | i + 1 => by simp only [textN, tlen, List.length_append, rowT_len, textN_tlen c i]
theorem tlen_lt {i j : Nat} (hi : i < 12) (hj : j < hsz (i : Int)) : tlen i + j < tlen 12 := by
  have h : ∀ n, i < n → tlen (i + 1) ≤ tlen n := by
    intro n
    induction n with
    | zero => intro h; omega
    | succ n ih =>
      intro h
      rcases Nat.lt_or_ge i n with h1 | h1
      · exact Nat.le_trans (ih h1) (Nat.le_add_right _ _)
      · obtain rfl : i = n := by omega
        exact Nat.le_refl _
  have := h 12 hi
  simp only [tlen] at this ⊢
  omega
theorem tlen_le : tlen 12 ≤ 576 := by rw [← textN_tlen zCube 12]; exact textN_len zCube 12
theorem zipAll_step {F : UInt8 → UInt8 → Bool} {x y : List UInt8} {i : Nat} {p q : UInt8} (hp : x[i]? = some p) (hq : y[i]? = some q) : zipAll F (x.take (i + 1)) (y.take (i + 1)) = (zipAll F (x.take i) (y.take i) && F p q) := by
  have h1 := (List.getElem?_eq_some_iff.1 hp).1
  have h2 := (List.getElem?_eq_some_iff.1 hq).1
  rw [List.take_add_one, List.take_add_one, hp, hq, zipAll_append (by simp; omega)]
  simp [zipAll]
theorem zipAll_false {F : UInt8 → UInt8 → Bool} {x y : List UInt8} {i : Nat} {p q : UInt8} (hp : x[i]? = some p) (hq : y[i]? = some q) (h : F p q = false) : zipAll F x y = false := by
  unfold zipAll
  rw [List.all_eq_false]
  refine ⟨(p, q), List.mem_of_getElem? (i := i) ?_, by simp [h]⟩
  simp [List.getElem?_zip_eq_some, hp, hq]
theorem u8_beq (x y : UInt8) : (x == y) = ((x.toNat : Int) == (y.toNat : Int)) := by
  rw [Bool.eq_iff_iff, beq_iff_eq, beq_iff_eq, Int.ofNat_inj, UInt8.toNat_inj]
theorem meetF_i (x y : UInt8) : meetF x y = (((x.toNat : Int) == 120) || !(((y.toNat : Int) != 120) && ((x.toNat : Int) != (y.toNat : Int)))) := by unfold meetF bne; rw [u8_beq, u8_beq, u8_beq]; rfl
end Go.Aw
namespace Go.Aw
open Go Go.Proofs
set_option maxRecDepth 100000 in
theorem rFrom_w (l : List UInt8) (m : Snap) (H : Hp) (hl : l.length = tlen 12) : Fn Try.prog 99 [.string (strB l)] m H (fun v _ H' => ∃ c : Cube, v = .agg (encCube c).toArray ∧ H' = H) := by
  have hm : m.le m := Snap.le.refl m
  refine fn_end Try.func99 rfl rfl rfl ?_
  refine c_seq (fun K0 hK0 => ?_)
  refine c_region ?_
  refine r_s rfl ?_
  refine s_alloc rfl tz29 (fun b0 => ?_)
  refine r_nil ?_
  refine hK0 _ _ _ ?_
  clear hK0 K0
  refine c_seq (fun K1 hK1 => ?_)
  refine c_region ?_
  refine r_s rfl ?_
  refine s_alloc rfl tz29 (fun b1 => ?_)
  refine r_nil ?_
  refine hK1 _ _ _ ?_
  clear hK1 K1
  refine c_seq (fun K2 hK2 => ?_)
  refine c_region ?_
  refine r_y rfl rfl (y_assign rfl) ?_
  refine r_nil ?_
  refine hK2 _ _ _ ?_
  clear hK2 K2
  refine c_seq (fun K3 hK3 => ?_)
  refine c_seq (fun K4 hK4 => ?_)
  refine c_region ?_
  refine r_y rfl rfl (y_assign rfl) ?_
  refine r_nil ?_
  refine hK4 _ _ _ ?_
  clear hK4 K4
  refine c_block ?_
  refine c_loopx (α := Nat × Cube) (fun vv => match vv with | (i, c) => [(0, .string (strB l)), (2, .pointer (some ⟨b0, 0, none⟩)), (3, .pointer (some ⟨b1, 0, none⟩)), (4, .int .i64 (tlen i : Nat)), (5, .int .i64 (i : Nat))]) (fun vv => match vv with | (i, c) => .blk b1 (.cells (encCube c).toArray 29) :: .blk b0 (.cells (encCube zCube).toArray 29) :: H) (fun k0 vv m1 => match vv with | (i, c) => (i + k0 = 12) ∧ m.le m1) (12) (0, zCube) ⟨rfl, rfl, rfl, rfl, rfl, trivial⟩ rfl ⟨(by omega), hm⟩ ?_
  clear hm
  rintro k0 ⟨i, c⟩ m1 ⟨hi0, hm⟩
  refine c_seq (fun K5 hK5 => ?_)
  refine c_seq (fun K6 hK6 => ?_)
  refine c_region ?_
  refine r_y rfl rfl (y_move rfl) ?_
  refine r_y rfl rfl (y_iop rfl rfl rfl) ?_
  refine r_nil ?_
  refine hK6 _ _ _ ?_
  clear hK6 K6
  refine c_cond rfl (fun hL => ?_) (fun hL => ?_)
  ·
    have hlt : i < 12 := by simp at hL; omega
    refine c_skip ?_
    refine hK5 _ _ _ ?_
    clear hK5 K5
    refine c_seq (fun K7 hK7 => ?_)
    refine c_block ?_
    refine c_seq (fun K8 hK8 => ?_)
    refine c_region ?_
    refine r_y rfl rfl (y_assign rfl) ?_
    refine r_nil ?_
    refine hK8 _ _ _ ?_
    clear hK8 K8
    refine c_block ?_
    have hsz48 := hsz_le (i : Int)
    have htl2 := tlen_le
    have htl3 : tlen i ≤ 576 := by have := textN_len zCube i; rw [textN_tlen] at this; omega
    refine c_loopx (α := Nat × Cube) (fun vv => match vv with | (j, c2) => [(0, .string (strB l)), (2, .pointer (some ⟨b0, 0, none⟩)), (3, .pointer (some ⟨b1, 0, none⟩)), (4, .int .i64 (tlen i + j : Nat)), (5, .int .i64 (i : Nat)), (6, .int .i64 (j : Nat))]) (fun vv => match vv with | (j, c2) => .blk b1 (.cells (encCube c2).toArray 29) :: .blk b0 (.cells (encCube zCube).toArray 29) :: H) (fun k1 vv m1 => match vv with | (j, c2) => (j + k1 = hsz (i : Int)) ∧ m.le m1) (hsz (i : Int)) (0, c) ⟨rfl, rfl, rfl, rfl, rfl, rfl, trivial⟩ rfl ⟨(by omega), hm⟩ ?_
    clear hm
    rintro k1 ⟨j, c2⟩ m1 ⟨hi1, hm⟩
    refine c_seq (fun K9 hK9 => ?_)
    refine c_seq (fun K10 hK10 => ?_)
    refine c_region ?_
    refine r_y rfl rfl (y_move rfl) ?_
    refine r_y rfl rfl (y_move rfl) ?_
    refine r_s rfl ?_
    refine s_call0 rfl Try.call117 rfl (rSize_w _ _ _) ?_
    rintro _ m2 _ hm2 ⟨rfl, rfl⟩
    replace hm := hm.trans hm2
    clear hm2
    refine r_y rfl rfl (y_iop rfl rfl rfl) ?_
    refine r_nil ?_
    refine hK10 _ _ _ ?_
    clear hK10 K10
    refine c_cond rfl (fun hJ => ?_) (fun hJ => ?_)
    ·
      have hjl : j < hsz (i : Int) := by simp at hJ; omega
      obtain ⟨y, hy⟩ := get_of_lt (l := l) (k := tlen i + j) (by rw [hl]; exact tlen_lt hlt hjl)
      refine c_skip ?_
      refine hK9 _ _ _ ?_
      clear hK9 K9
      refine c_seq (fun K11 hK11 => ?_)
      refine c_block ?_
      refine c_seq (fun K12 hK12 => ?_)
      refine c_region ?_
      refine r_y rfl rfl (y_move rfl) ?_
      refine r_y rfl rfl (y_move rfl) ?_
      refine r_y rfl rfl (y_fieldAddr rfl At.lit fo29_0 rfl) ?_
      refine r_y rfl rfl (y_indexAddr_arr rfl rfl ta27 hlt At.lit) ?_
      refine r_y rfl rfl (y_load_s rfl ts25 (RdS.blk (i := 0) rfl (cget_value _ _ hlt))) ?_
      refine r_y rfl rfl (y_wany rfl (opv_wc 2#64) rfl) ?_
      refine r_y rfl rfl (y_fieldAddr rfl At.lit fo29_0 rfl) ?_
      refine r_y rfl rfl (y_indexAddr_arr rfl rfl ta27 hlt At.lit) ?_
      refine r_s rfl ?_
      refine s_store rfl rfl rfl ts25 rfl rfl (by simp [Value.oneCell', wv]) (i := 0) rfl (cput_value _ _ _ hlt) ?_
      refine r_nil ?_
      refine hK12 _ _ _ ?_
      clear hK12 K12
      refine c_seq (fun K13 hK13 => ?_)
      refine c_region ?_
      refine r_y rfl rfl (y_move rfl) ?_
      refine r_y rfl rfl (y_move rfl) ?_
      refine r_y rfl rfl (y_fieldAddr rfl At.lit fo29_1 rfl) ?_
      refine r_y rfl rfl (y_indexAddr_arr rfl rfl ta27 hlt At.lit) ?_
      refine r_y rfl rfl (y_load_s rfl ts25 (RdS.blk (i := 0) rfl (cget_care _ _ hlt))) ?_
      refine r_y rfl rfl (y_wany rfl (opv_wc 2#64) rfl) ?_
      refine r_y rfl rfl (y_fieldAddr rfl At.lit fo29_1 rfl) ?_
      refine r_y rfl rfl (y_indexAddr_arr rfl rfl ta27 hlt At.lit) ?_
      refine r_s rfl ?_
      refine s_store rfl rfl rfl ts25 rfl rfl (by simp [Value.oneCell', wv]) (i := 0) rfl (cput_care _ _ _ hlt) ?_
      refine r_nil ?_
      refine hK13 _ _ _ ?_
      clear hK13 K13
      refine c_seq (fun K14 hK14 => ?_)
      refine c_seq (fun K15 hK15 => ?_)
      refine c_region ?_
      refine r_y rfl rfl (y_move rfl) ?_
      refine r_y rfl rfl (y_move rfl) ?_
      refine r_y rfl rfl (y_index_strB rfl rfl Try.underlying9 hy) ?_
      refine r_y rfl rfl (y_iop rfl rfl rfl) ?_
      refine r_nil ?_
      refine hK15 _ _ _ ?_
      clear hK15 K15
      refine c_cond rfl (fun h2 => ?_) (fun h2 => ?_)
      ·
        refine c_region ?_
        refine r_y rfl rfl (y_move rfl) ?_
        refine r_y rfl rfl (y_fieldAddr rfl At.lit fo29_1 rfl) ?_
        refine r_y rfl rfl (y_indexAddr_arr rfl rfl ta27 hlt At.lit) ?_
        refine r_y rfl rfl (y_load_s rfl ts25 (RdS.blk (i := 0) rfl (cget_care _ _ hlt))) ?_
        refine r_y rfl rfl (y_wany rfl (opv_wc 1#64) rfl) ?_
        refine r_y rfl rfl (y_fieldAddr rfl At.lit fo29_1 rfl) ?_
        refine r_y rfl rfl (y_indexAddr_arr rfl rfl ta27 hlt At.lit) ?_
        refine r_s rfl ?_
        refine s_store rfl rfl rfl ts25 rfl rfl (by simp [Value.oneCell', wv]) (i := 0) rfl (cput_care _ _ _ hlt) ?_
        refine r_nil ?_
        refine hK14 _ _ _ ?_
        clear hK14 K14
        refine c_seq (fun K16 hK16 => ?_)
        refine c_seq (fun K17 hK17 => ?_)
        refine c_region ?_
        refine r_y rfl rfl (y_move rfl) ?_
        refine r_y rfl rfl (y_move rfl) ?_
        refine r_y rfl rfl (y_index_strB rfl rfl Try.underlying9 hy) ?_
        refine r_y rfl rfl (y_iop rfl rfl rfl) ?_
        refine r_nil ?_
        refine hK17 _ _ _ ?_
        clear hK17 K17
        refine c_cond rfl (fun h3 => ?_) (fun h3 => ?_)
        ·
          refine c_region ?_
          refine r_y rfl rfl (y_move rfl) ?_
          refine r_y rfl rfl (y_fieldAddr rfl At.lit fo29_0 rfl) ?_
          refine r_y rfl rfl (y_indexAddr_arr rfl rfl ta27 hlt At.lit) ?_
          refine r_y rfl rfl (y_load_s rfl ts25 (RdS.blk (i := 0) rfl (cget_value _ _ hlt))) ?_
          refine r_y rfl rfl (y_wany rfl (opv_wc 1#64) rfl) ?_
          refine r_y rfl rfl (y_fieldAddr rfl At.lit fo29_0 rfl) ?_
          refine r_y rfl rfl (y_indexAddr_arr rfl rfl ta27 hlt At.lit) ?_
          refine r_s rfl ?_
          refine s_store rfl rfl rfl ts25 rfl rfl (by simp [Value.oneCell', wv]) (i := 0) rfl (cput_value _ _ _ hlt) ?_
          refine r_nil ?_
          refine hK16 _ _ _ ?_
          clear hK16 K16
          refine c_region ?_
          refine r_y rfl rfl (y_move rfl) ?_
          first | refine r_y rfl rfl (y_inc rfl (by omega)) ?_ | refine r_y rfl rfl (y_iop rfl rfl rfl) ?_
          refine r_y rfl rfl (y_assign rfl) ?_
          refine r_nil ?_
          refine hK11 _ _ _ ?_
          clear hK11 K11
          refine c_region ?_
          refine r_y rfl rfl (y_move rfl) ?_
          first | refine r_y rfl rfl (y_inc rfl (by omega)) ?_ | refine r_y rfl rfl (y_iop rfl rfl rfl) ?_
          refine r_y rfl rfl (y_assign rfl) ?_
          refine r_nil ?_
          exact ⟨k1 - 1, (j + 1, _), by omega, ⟨rfl, rfl, rfl, rfl, rfl, rfl, trivial⟩, rfl, (by omega), hm⟩
        ·
          refine c_skip ?_
          refine hK16 _ _ _ ?_
          clear hK16 K16
          refine c_region ?_
          refine r_y rfl rfl (y_move rfl) ?_
          first | refine r_y rfl rfl (y_inc rfl (by omega)) ?_ | refine r_y rfl rfl (y_iop rfl rfl rfl) ?_
          refine r_y rfl rfl (y_assign rfl) ?_
          refine r_nil ?_
          refine hK11 _ _ _ ?_
          clear hK11 K11
          refine c_region ?_
          refine r_y rfl rfl (y_move rfl) ?_
          first | refine r_y rfl rfl (y_inc rfl (by omega)) ?_ | refine r_y rfl rfl (y_iop rfl rfl rfl) ?_
          refine r_y rfl rfl (y_assign rfl) ?_
          refine r_nil ?_
          exact ⟨k1 - 1, (j + 1, _), by omega, ⟨rfl, rfl, rfl, rfl, rfl, rfl, trivial⟩, rfl, (by omega), hm⟩
      ·
        refine c_skip ?_
        refine hK14 _ _ _ ?_
        clear hK14 K14
        refine c_seq (fun K18 hK18 => ?_)
        refine c_seq (fun K19 hK19 => ?_)
        refine c_region ?_
        refine r_y rfl rfl (y_move rfl) ?_
        refine r_y rfl rfl (y_move rfl) ?_
        refine r_y rfl rfl (y_index_strB rfl rfl Try.underlying9 hy) ?_
        refine r_y rfl rfl (y_iop rfl rfl rfl) ?_
        refine r_nil ?_
        refine hK19 _ _ _ ?_
        clear hK19 K19
        refine c_cond rfl (fun h4 => ?_) (fun h4 => ?_)
        ·
          refine c_region ?_
          refine r_y rfl rfl (y_move rfl) ?_
          refine r_y rfl rfl (y_fieldAddr rfl At.lit fo29_0 rfl) ?_
          refine r_y rfl rfl (y_indexAddr_arr rfl rfl ta27 hlt At.lit) ?_
          refine r_y rfl rfl (y_load_s rfl ts25 (RdS.blk (i := 0) rfl (cget_value _ _ hlt))) ?_
          refine r_y rfl rfl (y_wany rfl (opv_wc 1#64) rfl) ?_
          refine r_y rfl rfl (y_fieldAddr rfl At.lit fo29_0 rfl) ?_
          refine r_y rfl rfl (y_indexAddr_arr rfl rfl ta27 hlt At.lit) ?_
          refine r_s rfl ?_
          refine s_store rfl rfl rfl ts25 rfl rfl (by simp [Value.oneCell', wv]) (i := 0) rfl (cput_value _ _ _ hlt) ?_
          refine r_nil ?_
          refine hK18 _ _ _ ?_
          clear hK18 K18
          refine c_region ?_
          refine r_y rfl rfl (y_move rfl) ?_
          first | refine r_y rfl rfl (y_inc rfl (by omega)) ?_ | refine r_y rfl rfl (y_iop rfl rfl rfl) ?_
          refine r_y rfl rfl (y_assign rfl) ?_
          refine r_nil ?_
          refine hK11 _ _ _ ?_
          clear hK11 K11
          refine c_region ?_
          refine r_y rfl rfl (y_move rfl) ?_
          first | refine r_y rfl rfl (y_inc rfl (by omega)) ?_ | refine r_y rfl rfl (y_iop rfl rfl rfl) ?_
          refine r_y rfl rfl (y_assign rfl) ?_
          refine r_nil ?_
          exact ⟨k1 - 1, (j + 1, _), by omega, ⟨rfl, rfl, rfl, rfl, rfl, rfl, trivial⟩, rfl, (by omega), hm⟩
        ·
          refine c_skip ?_
          refine hK18 _ _ _ ?_
          clear hK18 K18
          refine c_region ?_
          refine r_y rfl rfl (y_move rfl) ?_
          first | refine r_y rfl rfl (y_inc rfl (by omega)) ?_ | refine r_y rfl rfl (y_iop rfl rfl rfl) ?_
          refine r_y rfl rfl (y_assign rfl) ?_
          refine r_nil ?_
          refine hK11 _ _ _ ?_
          clear hK11 K11
          refine c_region ?_
          refine r_y rfl rfl (y_move rfl) ?_
          first | refine r_y rfl rfl (y_inc rfl (by omega)) ?_ | refine r_y rfl rfl (y_iop rfl rfl rfl) ?_
          refine r_y rfl rfl (y_assign rfl) ?_
          refine r_nil ?_
          exact ⟨k1 - 1, (j + 1, _), by omega, ⟨rfl, rfl, rfl, rfl, rfl, rfl, trivial⟩, rfl, (by omega), hm⟩
    ·
      obtain rfl : j = hsz (i : Int) := by simp at hJ; omega
      refine c_exit ?_
      refine hK7 _ _ _ ?_
      clear hK9 K9 hK7 K7
      refine c_region ?_
      refine r_y rfl rfl (y_move rfl) ?_
      first | refine r_y rfl rfl (y_inc rfl (by omega)) ?_ | refine r_y rfl rfl (y_iop rfl rfl rfl) ?_
      refine r_y rfl rfl (y_assign rfl) ?_
      refine r_nil ?_
      exact ⟨k0 - 1, (i + 1, c2), by omega, ⟨rfl, rfl, rfl, rfl, rfl, trivial⟩, rfl, (by omega), hm⟩
  ·
    obtain rfl : i = 12 := by simp at hL; omega
    refine c_exit ?_
    refine hK3 _ _ _ ?_
    clear hK5 K5 hK3 K3
    refine c_seq (fun K20 hK20 => ?_)
    refine c_region ?_
    refine r_y rfl rfl (y_load_a rfl ts29 (RdA.blk (i := 0) rfl rfl)) ?_
    refine r_s rfl ?_
    refine s_store rfl rfl rfl ts29 rfl rfl (by simp [Value.oneCell', wv, Sl.v]) (i := 1) rfl rfl ?_
    refine r_nil ?_
    refine hK20 _ _ _ ?_
    clear hK20 K20
    refine c_ret ?_
    refine e_ret 2 hm (res_cell_a rfl ts29 (RdA.blk (i := 1) rfl rfl)) ?_
    exact ⟨c, rfl, rfl⟩
set_option maxRecDepth 100000 in
theorem rMeet_w (a b : Cube) (m : Snap) (H : Hp) : Fn Try.prog 39 [.agg (encCube a).toArray, .agg (encCube b).toArray] m H (fun v _ H' => ∃ c : Cube, v = .tuple [.agg (encCube c).toArray, .bool (cubeMeetOk a b)].toArray ∧ H' = H) := by
  have hm : m.le m := Snap.le.refl m
  refine fn_end Try.func39 rfl rfl rfl ?_
  refine c_seq (fun K0 hK0 => ?_)
  refine c_region ?_
  refine r_s rfl ?_
  refine s_box_a rfl rfl (fun b0 => ?_)
  refine r_s rfl ?_
  refine s_box_a rfl rfl (fun b1 => ?_)
  refine r_s rfl ?_
  refine s_alloc rfl tz29 (fun b2 => ?_)
  refine r_y rfl rfl (y_assign rfl) ?_
  refine r_nil ?_
  refine hK0 _ _ _ ?_
  clear hK0 K0
  refine c_seq (fun K1 hK1 => ?_)
  refine c_region ?_
  refine r_y rfl rfl (y_load_a (cs := encCube a) rfl ts29 (RdA.blk (i := 2) rfl rfl)) ?_
  refine r_s rfl ?_
  refine s_call0 rfl Try.call98 rfl (rText_w a _ _) ?_
  rintro _ m2 _ hm2 ⟨rfl, rfl⟩
  replace hm := hm.trans hm2
  clear hm2
  refine r_y rfl rfl (y_move rfl) ?_
  refine r_y rfl rfl (y_extract rfl rfl) ?_
  refine r_y rfl rfl (y_extract rfl rfl) ?_
  refine r_y rfl rfl (y_assign rfl) ?_
  refine r_y rfl rfl (y_assign rfl) ?_
  refine r_nil ?_
  refine hK1 _ _ _ ?_
  clear hK1 K1
  refine c_seq (fun K2 hK2 => ?_)
  refine c_region ?_
  refine r_y rfl rfl (y_load_a (cs := encCube b) rfl ts29 (RdA.blk (i := 1) rfl rfl)) ?_
  refine r_s rfl ?_
  refine s_call0 rfl Try.call98 rfl (rText_w b _ _) ?_
  rintro _ m2 _ hm2 ⟨rfl, rfl⟩
  replace hm := hm.trans hm2
  clear hm2
  refine r_y rfl rfl (y_move rfl) ?_
  refine r_y rfl rfl (y_extract rfl rfl) ?_
  refine r_y rfl rfl (y_extract rfl rfl) ?_
  refine r_y rfl rfl (y_assign rfl) ?_
  refine r_y rfl rfl (y_assign rfl) ?_
  refine r_nil ?_
  refine hK2 _ _ _ ?_
  clear hK2 K2
  refine c_seq (fun K3 hK3 => ?_)
  refine c_seq (fun K4 hK4 => ?_)
  refine c_region ?_
  refine r_y rfl rfl (y_move rfl) ?_
  refine r_y rfl rfl (y_not rfl) ?_
  refine r_y rfl rfl (y_move rfl) ?_
  refine r_split (j := 2) rfl (fun hA => ?_) (fun hA => ?_)
  ·
    refine r_no' rfl rfl hA ?_
    refine r_no' rfl rfl hA ?_
    refine r_y rfl rfl (y_pickt rfl hA rfl) ?_
    refine r_nil ?_
    refine hK4 _ _ _ ?_
    clear hK4 K4
    refine c_ift rfl rfl ?_
    refine c_seq (fun K5 hK5 => ?_)
    refine c_region ?_
    refine r_y rfl rfl (y_bld rfl tz29 fk29 bp29_ rfl rfl) ?_
    refine r_s rfl ?_
    refine s_store rfl rfl rfl ts29 rfl rfl (by simp [Value.oneCell', wv, Sl.v]) (i := 0) rfl rfl ?_
    refine r_y rfl rfl (y_assign rfl) ?_
    refine r_nil ?_
    refine hK5 _ _ _ ?_
    clear hK5 K5
    refine c_ret ?_
    refine e_ret 3 hm (res2 (r1_cell_a rfl ts29 (RdA.blk (i := 0) rfl rfl)) (r1_tmp rfl)) ?_
    have e : cubeMeetOk a b = false := by rw [meet_text]; first | (simp at hA; rw [hA]; rfl) | (simp at hA hB; rw [hA, hB]; rfl)
    rw [e]
    exact ⟨zCube, rfl, rfl⟩
  ·
    refine r_yg rfl hA rfl (y_move rfl) ?_
    refine r_yg rfl hA rfl (y_not rfl) ?_
    refine r_y rfl rfl (y_pickf rfl hA rfl) ?_
    refine r_nil ?_
    refine hK4 _ _ _ ?_
    clear hK4 K4
    refine c_cond rfl (fun hB => ?_) (fun hB => ?_)
    ·
      refine c_seq (fun K6 hK6 => ?_)
      refine c_region ?_
      refine r_y rfl rfl (y_bld rfl tz29 fk29 bp29_ rfl rfl) ?_
      refine r_s rfl ?_
      refine s_store rfl rfl rfl ts29 rfl rfl (by simp [Value.oneCell', wv, Sl.v]) (i := 0) rfl rfl ?_
      refine r_y rfl rfl (y_assign rfl) ?_
      refine r_nil ?_
      refine hK6 _ _ _ ?_
      clear hK6 K6
      refine c_ret ?_
      refine e_ret 3 hm (res2 (r1_cell_a rfl ts29 (RdA.blk (i := 0) rfl rfl)) (r1_tmp rfl)) ?_
      have e : cubeMeetOk a b = false := by rw [meet_text]; first | (simp at hA; rw [hA]; rfl) | (simp at hA hB; rw [hA, hB]; rfl)
      rw [e]
      exact ⟨zCube, rfl, rfl⟩
    ·
      have hab : (cubeSound a && cubeSound b) = true := by simp at hA hB; rw [hA, hB]; rfl
      refine c_skip ?_
      refine hK3 _ _ _ ?_
      clear hK3 K3
      refine c_seq (fun K7 hK7 => ?_)
      refine c_region ?_
      refine r_y rfl rfl (y_move rfl) ?_
      refine r_s rfl ?_
      refine s_strbytes rfl rfl Try.underlying9 Try.underlying22 Try.underlying5 (by rw [textN_tlen]; have := tlen_le; unfold maxLen; omega) (fun bs cap N hcap hmx hN => ?_)
      refine r_y rfl rfl (y_assign rfl) ?_
      refine r_nil ?_
      refine hK7 _ _ _ ?_
      clear hK7 K7
      refine c_seq (fun K8 hK8 => ?_)
      refine c_seq (fun K9 hK9 => ?_)
      refine c_region ?_
      refine r_y rfl rfl (y_assign rfl) ?_
      refine r_nil ?_
      refine hK9 _ _ _ ?_
      clear hK9 K9
      refine c_block ?_
      have htl := textN_len a 12
      refine c_loopx (α := Nat × List UInt8) (fun vv => match vv with | (i, l2) => [(4, .pointer (some ⟨b2, 0, none⟩)), (6, .string (strB (textN a 12))), (8, .string (strB (textN b 12))), (10, .slice (some ⟨bs, 0, none⟩) (textN a 12).length cap), (11, .int .i64 (i : Nat))]) (fun vv => match vv with | (i, l2) => sbIt bs l2 cap N :: .blk b2 (.cells (encCube zCube).toArray 29) :: .blk b1 (.cells (encCube b).toArray 29) :: .blk b0 (.cells (encCube a).toArray 29) :: H) (fun k0 vv m1 => match vv with | (i, l2) => (i + k0 = (textN a 12).length ∧ l2.length = (textN a 12).length ∧ zipAll meetF ((textN a 12).take i) ((textN b 12).take i) = true) ∧ m.le m1) ((textN a 12).length) (0, (textN a 12)) ⟨rfl, rfl, rfl, rfl, rfl, trivial⟩ rfl ⟨⟨by omega, rfl, rfl⟩, hm⟩ ?_
      clear hm
      rintro k0 ⟨i, l2⟩ m1 ⟨hi0, hm⟩
      obtain ⟨hi, hl2, hz0⟩ := hi0
      refine c_seq (fun K10 hK10 => ?_)
      refine c_seq (fun K11 hK11 => ?_)
      refine c_region ?_
      refine r_y rfl rfl (y_move rfl) ?_
      refine r_y rfl rfl (y_move rfl) ?_
      refine r_y rfl rfl (y_lenstr Try.underlying9 rfl) ?_
      refine r_y rfl rfl (y_iop rfl rfl rfl) ?_
      refine r_nil ?_
      refine hK11 _ _ _ ?_
      clear hK11 K11
      refine c_cond rfl (fun hL => ?_) (fun hL => ?_)
      ·
        have hlt : i < (textN a 12).length := by simp at hL; omega
        obtain ⟨x, hx⟩ := get_of_lt (l := (textN a 12)) (k := i) hlt
        obtain ⟨y, hy⟩ := get_of_lt (l := (textN b 12)) (k := i) (by rw [← textN_len2 a b]; exact hlt)
        have hst := zipAll_step (F := meetF) hx hy
        refine c_skip ?_
        refine hK10 _ _ _ ?_
        clear hK10 K10
        refine c_seq (fun K12 hK12 => ?_)
        refine c_block ?_
        refine c_seq (fun K13 hK13 => ?_)
        refine c_region ?_
        refine r_y rfl rfl (y_move rfl) ?_
        refine r_y rfl rfl (y_move rfl) ?_
        refine r_y rfl rfl (y_index_strB rfl rfl Try.underlying9 hx) ?_
        refine r_y rfl rfl (y_iop rfl rfl rfl) ?_
        refine r_nil ?_
        refine hK13 _ _ _ ?_
        clear hK13 K13
        refine c_cond rfl (fun hX => ?_) (fun hX => ?_)
        ·
          refine c_region ?_
          refine r_y rfl rfl (y_move rfl) ?_
          refine r_y rfl rfl (y_move rfl) ?_
          refine r_y rfl rfl (y_move rfl) ?_
          refine r_y rfl rfl (y_move rfl) ?_
          refine r_y rfl rfl (y_index_strB rfl rfl Try.underlying9 hy) ?_
          refine r_y rfl rfl (y_indexAddr_slice (k := i) rfl rfl tl22 hlt At.lit) ?_
          refine r_s rfl ?_
          refine s_storesb (k := i) rfl rfl ((Nat.zero_add _).trans (Nat.mul_one _)) rfl ts5 (i := 0) rfl (by omega) (by omega) ?_
          refine r_nil ?_
          refine hK12 _ _ _ ?_
          clear hK12 K12
          refine c_region ?_
          refine r_y rfl rfl (y_move rfl) ?_
          first | refine r_y rfl rfl (y_inc rfl (by omega)) ?_ | refine r_y rfl rfl (y_iop rfl rfl rfl) ?_
          refine r_y rfl rfl (y_assign rfl) ?_
          refine r_nil ?_
          exact ⟨k0 - 1, (i + 1, l2.set i y), by omega, ⟨rfl, rfl, rfl, rfl, rfl, trivial⟩, rfl, ⟨by omega, by first | exact hl2 | simpa using hl2, (by first | (rw [hst, hz0, meetF_i, hX]; rfl) | (rw [hst, hz0, meetF_i, hX, hY, hD]; rfl) | (rw [hst, hz0, meetF_i, hX, hY]; rfl))⟩, hm⟩
        ·
          refine c_seq (fun K14 hK14 => ?_)
          refine c_draw ([]) (by kernel_rfl) (fun hg => ?_)
          refine g_y (i := 0) (listed' := #[true, false, false, false, false, false, false, false, false, false, false, false, false]) rfl (by kernel_rfl) (by kernel_rfl) (by kernel_rfl) (by kernel_rfl) rfl rfl hg alln (fun m' H' hm' hX' => y_move rfl) ?_
          refine g_y (i := 1) (listed' := #[true, true, false, false, false, false, false, false, false, false, false, false, false]) rfl (by kernel_rfl) (by kernel_rfl) (by kernel_rfl) (by kernel_rfl) rfl rfl hg alln (fun m' H' hm' hX' => y_move rfl) ?_
          refine g_y (i := 2) (listed' := #[true, true, true, false, false, false, false, false, false, false, false, false, false]) rfl (by kernel_rfl) (by kernel_rfl) (by kernel_rfl) (by kernel_rfl) rfl rfl hg alln (fun m' H' hm' hX' => y_index_strB rfl rfl Try.underlying9 hy) ?_
          refine g_y (i := 3) (listed' := #[true, true, true, true, false, false, false, false, false, false, false, false, false]) rfl (by kernel_rfl) (by kernel_rfl) (by kernel_rfl) (by kernel_rfl) rfl rfl hg alln (fun m' H' hm' hX' => y_iop rfl rfl rfl) ?_
          refine g_y (i := 4) (listed' := #[true, true, true, true, true, false, false, false, false, false, false, false, false]) rfl (by kernel_rfl) (by kernel_rfl) (by kernel_rfl) (by kernel_rfl) rfl rfl hg alln (fun m' H' hm' hX' => y_move rfl) ?_
          refine g_split (j := 4) rfl (fun hY => ?_) (fun hY => ?_)
          ·
            refine g_yg (i := 5) (listed' := #[true, true, true, true, true, true, false, false, false, false, false, false, false]) rfl (by kernel_rfl) (by kernel_rfl) (by kernel_rfl) (by kernel_rfl) rfl rfl hY rfl hg alln (fun m' H' hm' hX' => y_move rfl) ?_
            refine g_yg (i := 6) (listed' := #[true, true, true, true, true, true, true, false, false, false, false, false, false]) rfl (by kernel_rfl) (by kernel_rfl) (by kernel_rfl) (by kernel_rfl) rfl rfl hY rfl hg alln (fun m' H' hm' hX' => y_move rfl) ?_
            refine g_yg (i := 7) (listed' := #[true, true, true, true, true, true, true, true, false, false, false, false, false]) rfl (by kernel_rfl) (by kernel_rfl) (by kernel_rfl) (by kernel_rfl) rfl rfl hY rfl hg alln (fun m' H' hm' hX' => y_index_strB rfl rfl Try.underlying9 hx) ?_
            refine g_yg (i := 8) (listed' := #[true, true, true, true, true, true, true, true, true, false, false, false, false]) rfl (by kernel_rfl) (by kernel_rfl) (by kernel_rfl) (by kernel_rfl) rfl rfl hY rfl hg alln (fun m' H' hm' hX' => y_move rfl) ?_
            refine g_yg (i := 9) (listed' := #[true, true, true, true, true, true, true, true, true, true, false, false, false]) rfl (by kernel_rfl) (by kernel_rfl) (by kernel_rfl) (by kernel_rfl) rfl rfl hY rfl hg alln (fun m' H' hm' hX' => y_move rfl) ?_
            refine g_yg (i := 10) (listed' := #[true, true, true, true, true, true, true, true, true, true, true, false, false]) rfl (by kernel_rfl) (by kernel_rfl) (by kernel_rfl) (by kernel_rfl) rfl rfl hY rfl hg alln (fun m' H' hm' hX' => y_index_strB rfl rfl Try.underlying9 hy) ?_
            refine g_yg (i := 11) (listed' := #[true, true, true, true, true, true, true, true, true, true, true, true, false]) rfl (by kernel_rfl) (by kernel_rfl) (by kernel_rfl) (by kernel_rfl) rfl rfl hY rfl hg alln (fun m' H' hm' hX' => y_iop rfl rfl rfl) ?_
            refine g_y (i := 12) (listed' := #[true, true, true, true, true, true, true, true, true, true, true, true, true]) rfl (by kernel_rfl) (by kernel_rfl) (by kernel_rfl) (by kernel_rfl) rfl rfl hg alln (fun m' H' hm' hX' => y_pickt rfl hY rfl) ?_
            refine g_done (by kernel_rfl) ?_
            clear hg
            refine hK14 _ _ _ ?_
            clear hK14 K14
            refine c_cond rfl (fun hD => ?_) (fun hD => ?_)
            ·
              refine c_seq (fun K15 hK15 => ?_)
              refine c_region ?_
              refine r_y rfl rfl (y_bld rfl tz29 fk29 bp29_ rfl rfl) ?_
              refine r_s rfl ?_
              refine s_store rfl rfl rfl ts29 rfl rfl (by simp [Value.oneCell', wv, Sl.v]) (i := 1) rfl rfl ?_
              refine r_y rfl rfl (y_assign rfl) ?_
              refine r_nil ?_
              refine hK15 _ _ _ ?_
              clear hK15 K15
              refine c_ret ?_
              refine e_ret 4 hm (res2 (r1_cell_a rfl ts29 (RdA.blk (i := 1) rfl rfl)) (r1_tmp rfl)) ?_
              have e : cubeMeetOk a b = false := by rw [meet_text, zipAll_false hx hy (by rw [meetF_i, hX, hY, hD]; rfl), Bool.and_false]
              rw [e]
              exact ⟨zCube, rfl, rfl⟩
            ·
              refine c_skip ?_
              refine hK12 _ _ _ ?_
              clear hK12 K12
              refine c_region ?_
              refine r_y rfl rfl (y_move rfl) ?_
              first | refine r_y rfl rfl (y_inc rfl (by omega)) ?_ | refine r_y rfl rfl (y_iop rfl rfl rfl) ?_
              refine r_y rfl rfl (y_assign rfl) ?_
              refine r_nil ?_
              exact ⟨k0 - 1, (i + 1, l2), by omega, ⟨rfl, rfl, rfl, rfl, rfl, trivial⟩, rfl, ⟨by omega, by first | exact hl2 | simpa using hl2, (by first | (rw [hst, hz0, meetF_i, hX]; rfl) | (rw [hst, hz0, meetF_i, hX, hY, hD]; rfl) | (rw [hst, hz0, meetF_i, hX, hY]; rfl))⟩, hm⟩
          ·
            refine g_no (i := 5) (listed' := #[true, true, true, true, true, true, false, false, false, false, false, false, false]) rfl (by kernel_rfl) (by kernel_rfl) (by kernel_rfl) (by kernel_rfl) rfl rfl hY rfl hg alln ?_
            refine g_no (i := 6) (listed' := #[true, true, true, true, true, true, true, false, false, false, false, false, false]) rfl (by kernel_rfl) (by kernel_rfl) (by kernel_rfl) (by kernel_rfl) rfl rfl hY rfl hg alln ?_
            refine g_no (i := 7) (listed' := #[true, true, true, true, true, true, true, true, false, false, false, false, false]) rfl (by kernel_rfl) (by kernel_rfl) (by kernel_rfl) (by kernel_rfl) rfl rfl hY rfl hg alln ?_
            refine g_no (i := 8) (listed' := #[true, true, true, true, true, true, true, true, true, false, false, false, false]) rfl (by kernel_rfl) (by kernel_rfl) (by kernel_rfl) (by kernel_rfl) rfl rfl hY rfl hg alln ?_
            refine g_no (i := 9) (listed' := #[true, true, true, true, true, true, true, true, true, true, false, false, false]) rfl (by kernel_rfl) (by kernel_rfl) (by kernel_rfl) (by kernel_rfl) rfl rfl hY rfl hg alln ?_
            refine g_no (i := 10) (listed' := #[true, true, true, true, true, true, true, true, true, true, true, false, false]) rfl (by kernel_rfl) (by kernel_rfl) (by kernel_rfl) (by kernel_rfl) rfl rfl hY rfl hg alln ?_
            refine g_no (i := 11) (listed' := #[true, true, true, true, true, true, true, true, true, true, true, true, false]) rfl (by kernel_rfl) (by kernel_rfl) (by kernel_rfl) (by kernel_rfl) rfl rfl hY rfl hg alln ?_
            refine g_y (i := 12) (listed' := #[true, true, true, true, true, true, true, true, true, true, true, true, true]) rfl (by kernel_rfl) (by kernel_rfl) (by kernel_rfl) (by kernel_rfl) rfl rfl hg alln (fun m' H' hm' hX' => y_pickf rfl hY rfl) ?_
            refine g_done (by kernel_rfl) ?_
            clear hg
            refine hK14 _ _ _ ?_
            clear hK14 K14
            refine c_iff rfl rfl ?_
            refine c_skip ?_
            refine hK12 _ _ _ ?_
            clear hK12 K12
            refine c_region ?_
            refine r_y rfl rfl (y_move rfl) ?_
            first | refine r_y rfl rfl (y_inc rfl (by omega)) ?_ | refine r_y rfl rfl (y_iop rfl rfl rfl) ?_
            refine r_y rfl rfl (y_assign rfl) ?_
            refine r_nil ?_
            exact ⟨k0 - 1, (i + 1, l2), by omega, ⟨rfl, rfl, rfl, rfl, rfl, trivial⟩, rfl, ⟨by omega, by first | exact hl2 | simpa using hl2, (by first | (rw [hst, hz0, meetF_i, hX]; rfl) | (rw [hst, hz0, meetF_i, hX, hY, hD]; rfl) | (rw [hst, hz0, meetF_i, hX, hY]; rfl))⟩, hm⟩
      ·
        refine c_exit ?_
        refine hK8 _ _ _ ?_
        clear hK10 K10 hK8 K8
        refine c_seq (fun K16 hK16 => ?_)
        refine c_region ?_
        refine r_y rfl rfl (y_move rfl) ?_
        refine r_freeze (i := 0) rfl (fun m3 hm3 hcb => ?_)
        replace hm := hm.trans hm3
        clear hm3
        have hfz : FzB m3 ⟨some ⟨bs, 0, none⟩, (textN a 12).length, cap⟩ l2 := by have h3 := fzb_of_sb hcb (by omega) hmx; rw [hl2] at h3; exact h3
        refine r_y rfl rfl (y_conv_str rfl hfz Try.underlying22 Try.underlying5 Try.underlying9) ?_
        refine r_s rfl ?_
        refine s_call0 rfl Try.call99 rfl (rFrom_w l2 _ _ (by rw [hl2, textN_tlen])) ?_
        rintro _ m2 _ hm2 ⟨c, rfl, rfl⟩
        replace hm := hm.trans hm2
        clear hm2
        refine r_s rfl ?_
        refine s_store (us := encCube c) rfl rfl rfl ts29 rfl rfl (one_cube _) (i := 0) rfl rfl ?_
        refine r_y rfl rfl (y_assign rfl) ?_
        refine r_nil ?_
        refine hK16 _ _ _ ?_
        clear hK16 K16
        refine c_ret ?_
        refine e_ret 3 hm (res2 (r1_cell_a rfl ts29 (RdA.blk (i := 0) rfl rfl)) (r1_tmp rfl)) ?_
        have e : cubeMeetOk a b = true := by
          have hil : i = (textN a 12).length := by simp at hL; omega
          rw [hil, List.take_of_length_le (Nat.le_refl _), List.take_of_length_le (by rw [textN_len2 b a]; exact Nat.le_refl _)] at hz0
          rw [meet_text, hz0, hab]; rfl
        rw [e]
        exact ⟨c, rfl, rfl⟩
end Go.Aw
