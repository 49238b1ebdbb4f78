/- Part 9 of the words and walks that the proof behind it uses. -/
import Derived.Test.YtnmhkhobjaklhaaUndoChangesP8
set_option linter.unusedVariables false
set_option linter.unusedSimpArgs false
set_option maxHeartbeats 1000000
namespace Go.Aw
open Go Go.Proofs
set_option maxRecDepth 100000 in
theorem apply_w (s1 : Sl) (l1 : List (RuleD × Sl)) (x : ModD) (sm : Sl) (room : Int) (m : Snap) (H : Hp) (hz : FzR m s1 l1) (hfa : ∀ p ∈ l1, p.1.acts.length ≤ 4398046511103) (hfit : l1.length < 1000000) (hzx : FzA m sm x.acts) (hokx : sm.ok) (hfx : x.acts.length ≤ 4398046511103) : Fn Try.prog 33 [s1.v, .agg (encMod x sm).toArray, .int .i64 room] m H (fun v m' H' => ∃ (a : Option Addr) (n c cap : Nat) (lo : List OwnR), v = .tuple [.slice a n c, i64 (applyR (l1.map (·.1)) x room).2].toArray ∧ n = lo.length ∧ (c = n ∨ c = cap) ∧ rulesO lo = (applyR (l1.map (·.1)) x room).1 ∧ (∀ o ∈ lo, o.ok) ∧ H' = rowO a n cap lo :: (itsO lo ++ H)) := by
  have hl := hz.len
  have hm : m.le m := Snap.le.refl m
  refine fn_end Try.func33 rfl rfl rfl ?_
  refine c_seq (fun K0 hK0 => ?_)
  refine c_region ?_
  refine r_s rfl ?_
  refine s_box_a rfl rfl (fun b0 => ?_)
  refine r_y rfl rfl (y_assign rfl) ?_
  refine r_y rfl rfl (y_assign rfl) ?_
  refine r_nil ?_
  refine hK0 _ _ _ ?_
  clear hK0 K0
  refine c_seq (fun K1 hK1 => ?_)
  refine c_seq (fun K2 hK2 => ?_)
  refine c_region ?_
  refine r_y rfl rfl (y_move rfl) ?_
  refine r_s rfl ?_
  refine s_call0 rfl Try.call80 rfl (ruleTable_ok s1 l1 _ _ hz) ?_
  rintro _ m2 _ hm2 ⟨rfl, rfl⟩
  replace hm := hm.trans hm2
  replace hz := hz.mono hm2
  replace hzx := hzx.mono hm2
  clear hm2
  refine r_y rfl rfl (y_not rfl) ?_
  refine r_y rfl rfl (y_move rfl) ?_
  refine r_split (j := 3) rfl (fun hM => ?_) (fun hM => ?_)
  ·
    refine r_no' rfl rfl hM ?_
    refine r_no' rfl rfl hM ?_
    refine r_no' rfl rfl hM ?_
    refine r_y rfl rfl (y_pickt rfl hM rfl) ?_
    refine r_nil ?_
    refine hK2 _ _ _ ?_
    clear hK2 K2
    refine c_ift rfl rfl ?_
    refine c_seq (fun K3 hK3 => ?_)
    refine c_region ?_
    refine r_nilvec 50 32 ?_
    refine r_y rfl rfl (y_assign rfl) ?_
    refine r_y rfl rfl (y_assign rfl) ?_
    refine r_nil ?_
    refine hK3 _ _ _ ?_
    clear hK3 K3
    refine c_ret ?_
    refine e_retf [0, 1] 1 hm (res_tmps rfl) ?_
    rw [applyR_bad (by first | (simp at hM; rw [hM]; rfl) | (simp at hM hS0; rw [hM, hS0]; rfl))]
    exact ⟨none, 0, 0, 0, [], rfl, rfl, .inl rfl, rfl, fun o ho => (by cases ho), rfl⟩
  ·
    refine r_yg rfl hM rfl (y_load_a (cs := encMod x sm) rfl ts32 (RdA.blk (i := 0) rfl rfl)) ?_
    refine r_sg rfl hM ?_
    refine s_call0 rfl Try.call36 rfl (modSound_ok x sm _ _ hzx) ?_
    rintro _ m2 _ hm2 ⟨rfl, rfl⟩
    replace hm := hm.trans hm2
    replace hz := hz.mono hm2
    replace hzx := hzx.mono hm2
    clear hm2
    refine r_yg rfl hM rfl (y_not rfl) ?_
    refine r_y rfl rfl (y_pickf rfl hM rfl) ?_
    refine r_nil ?_
    refine hK2 _ _ _ ?_
    clear hK2 K2
    refine c_cond rfl (fun hS0 => ?_) (fun hS0 => ?_)
    ·
      refine c_seq (fun K4 hK4 => ?_)
      refine c_region ?_
      refine r_nilvec 50 32 ?_
      refine r_y rfl rfl (y_assign rfl) ?_
      refine r_y rfl rfl (y_assign rfl) ?_
      refine r_nil ?_
      refine hK4 _ _ _ ?_
      clear hK4 K4
      refine c_ret ?_
      refine e_retf [0, 1] 1 hm (res_tmps rfl) ?_
      rw [applyR_bad (by first | (simp at hM; rw [hM]; rfl) | (simp at hM hS0; rw [hM, hS0]; rfl))]
      exact ⟨none, 0, 0, 0, [], rfl, rfl, .inl rfl, rfl, fun o ho => (by cases ho), rfl⟩
    ·
      have hTS : (ruleTable (l1.map (·.1)) && modSound x) = true := by first | (simp_all; done) | (rw [Bool.and_eq_true]; simp at hM hS0 ⊢; exact ⟨hM, hS0⟩)
      have hsrt : Srt (l1.map (·.1)) := (table_iff.1 (Bool.and_eq_true .. ▸ hTS : _ ∧ _).1).2
      refine c_skip ?_
      refine hK1 _ _ _ ?_
      clear hK1 K1
      refine c_seq (fun K5 hK5 => ?_)
      refine c_seq (fun K6 hK6 => ?_)
      refine c_region ?_
      refine r_y rfl rfl (y_fieldAddr rfl At.lit fo32_0 rfl) ?_
      refine r_y rfl rfl (y_load_s rfl ts3 (RdS.blk (i := 0) rfl rfl)) ?_
      refine r_y rfl rfl (y_iop rfl rfl rfl) ?_
      refine r_nil ?_
      refine hK6 _ _ _ ?_
      clear hK6 K6
      refine c_cond rfl (fun hK1 => ?_) (fun hK1 => ?_)
      ·
        refine c_seq (fun K7 hK7 => ?_)
        refine c_region ?_
        refine r_y rfl rfl (y_move rfl) ?_
        refine r_y rfl rfl (y_load_a (cs := encMod x sm) rfl ts32 (RdA.blk (i := 0) rfl rfl)) ?_
        refine r_y rfl rfl (y_move rfl) ?_
        refine r_del 0 rfl ?_
        refine r_s rfl ?_
        refine s_call0 rfl Try.call81 rfl (add_w s1 l1 x sm room _ _ hz hfa hfit hzx hokx hfx hsrt) ?_
        rintro _ m2 _ hm2 ⟨a, n, c, cap, lo, rfl, hnl, hnc, hlo, hok1, rfl⟩
        replace hm := hm.trans hm2
        replace hz := hz.mono hm2
        replace hzx := hzx.mono hm2
        clear hm2
        refine r_y rfl rfl (y_extract rfl rfl) ?_
        refine r_y rfl rfl (y_extract rfl rfl) ?_
        refine r_y rfl rfl (y_assign rfl) ?_
        refine r_y rfl rfl (y_assign rfl) ?_
        refine r_nil ?_
        refine hK7 _ _ _ ?_
        clear hK7 K7
        refine c_ret ?_
        refine e_ret 0 hm (res_tmps rfl) ?_
        rw [applyR_add hTS (by simpa using hK1)]
        exact ⟨a, n, c, cap, lo, rfl, hnl, hnc, hlo, hok1, rfl⟩
      ·
        refine c_skip ?_
        refine hK5 _ _ _ ?_
        clear hK5 K5
        refine c_seq (fun K8 hK8 => ?_)
        refine c_region ?_
        refine r_y rfl rfl (y_assign rfl) ?_
        refine r_nil ?_
        refine hK8 _ _ _ ?_
        clear hK8 K8
        refine c_seq (fun K9 hK9 => ?_)
        refine c_seq (fun K10 hK10 => ?_)
        refine c_region ?_
        refine r_y rfl rfl (y_move rfl) ?_
        refine r_s rfl ?_
        refine s_call0 rfl Try.call27 rfl (ruleCopy_w s1 l1 _ _ hz hfa (by omega)) ?_
        rintro _ m2 _ hm2 ⟨a, n, cap, lo, rfl, hnl, hlo, hoc, rfl⟩
        replace hm := hm.trans hm2
        replace hz := hz.mono hm2
        replace hzx := hzx.mono hm2
        clear hm2
        refine r_nilvec 50 32 ?_
        refine r_perm _ (perm_mid2 _ _ _ _ _) ?_
        refine r_y rfl rfl (y_len tl33 rfl) ?_
        refine r_y rfl rfl (y_move rfl) ?_
        refine r_nil ?_
        refine hK10 _ _ _ ?_
        clear hK10 K10
        refine c_block ?_
        have hnb : n ≤ 1000000 := by have h4 := congrArg List.length hlo; simp [rulesO] at h4; omega
        refine c_loopx (α := Nat × List OwnR × Sl) (fun vv => match vv with | (i, ol, sv) => [(4, .pointer (some ⟨b0, 0, none⟩)), (8, sv.v), (29, .slice a n n), (30, .int .i64 (n : Nat)), (31, .int .i64 (i : Nat))]) (fun vv => match vv with | (i, ol, sv) => .blk b0 (.cells (encMod x sm).toArray 32) :: rowO a n cap lo :: rowO sv.a sv.n sv.cap ol :: (itsO ol ++ (itsO (lo.drop i) ++ H))) (fun k0 vv m1 => match vv with | (i, ol, sv) => (i + k0 = n ∧ sv.n = ol.length ∧ sv.n ≤ i ∧ rulesO ol = ((l1.map (·.1)).take i).filterMap (modR1 x) ∧ (∀ o ∈ ol, o.ok)) ∧ m.le m1 ∧ (FzA m1 sm x.acts)) (n) (0, [], zSl) ⟨rfl, rfl, rfl, rfl, rfl, trivial⟩ rfl ⟨⟨by omega, rfl, by show 0 ≤ 0; omega, rfl, fun o ho => by cases ho⟩, hm, hzx⟩ ?_
        clear hm hzx
        rintro k0 ⟨i, ol, sv⟩ m1 ⟨hi0, hm, hzx⟩
        obtain ⟨hi, hsl, hsi, hro, hoo0⟩ := hi0
        refine c_seq (fun K11 hK11 => ?_)
        refine c_region ?_
        refine r_y rfl rfl (y_iop rfl rfl rfl) ?_
        refine r_nil ?_
        refine hK11 _ _ _ ?_
        clear hK11 K11
        refine c_seq (fun K12 hK12 => ?_)
        refine c_cond rfl (fun hL => ?_) (fun hL => ?_)
        ·
          have hlt : i < n := by simp at hL; omega
          obtain ⟨o, ho⟩ := get_of_lt (l := lo) (k := i) (by omega)
          have hT := filterMap_take_succ (f := modR1 x) (l := l1.map (·.1)) (i := i) (x := o.r) (by rw [← hlo]; simp [rulesO, ho])
          refine c_skip ?_
          refine hK12 _ _ _ ?_
          clear hK12 K12
          refine c_seq (fun K13 hK13 => ?_)
          refine c_block ?_
          refine c_seq (fun K14 hK14 => ?_)
          refine c_region ?_
          refine r_perm _ (perm_pick3 ho _ _ _ ol _) ?_
          refine r_y rfl rfl (y_indexAddr_slice (k := i) rfl rfl tl33 hlt (At.vec (k := i) (i := 2) rfl hlt)) ?_
          refine r_y rfl rfl (y_load_a (cs := o.enc) rfl ts50 (RdA.vec0 (k := i) (i := 2) rfl rfl (map_get ho) rfl)) ?_
          refine r_s rfl ?_
          refine s_alloc rfl tz50 (fun b1 => ?_)
          refine r_s rfl ?_
          refine s_store (us := o.enc) rfl rfl rfl ts50 rfl rfl (one_own _) (i := 0) rfl rfl ?_
          refine r_nil ?_
          refine hK14 _ _ _ ?_
          clear hK14 K14
          refine c_seq (fun K15 hK15 => ?_)
          refine c_seq (fun K16 hK16 => ?_)
          refine c_region ?_
          refine r_y rfl rfl (y_load_a (cs := encMod x sm) rfl ts32 (RdA.blk (i := 2) rfl rfl)) ?_
          refine r_y rfl rfl (y_load_a (cs := o.enc) rfl ts50 (RdA.blk (i := 0) rfl rfl)) ?_
          refine r_s rfl ?_
          refine s_call0 rfl Try.call82 rfl (touches_w x sm o.r o.s _ _ hzx hokx hfx) ?_
          rintro _ m2 _ hm2 ⟨rfl, rfl⟩
          replace hm := hm.trans hm2
          replace hzx := hzx.mono hm2
          clear hm2
          refine r_nil ?_
          refine hK16 _ _ _ ?_
          clear hK16 K16
          refine c_cond rfl (fun hTo => ?_) (fun hTo => ?_)
          ·
            refine c_seq (fun K17 hK17 => ?_)
            refine c_seq (fun K18 hK18 => ?_)
            refine c_region ?_
            refine r_y rfl rfl (y_fieldAddr rfl At.lit fo32_0 rfl) ?_
            refine r_y rfl rfl (y_load_s rfl ts3 (RdS.blk (i := 2) rfl rfl)) ?_
            refine r_y rfl rfl (y_iop rfl rfl rfl) ?_
            refine r_y rfl rfl (y_move rfl) ?_
            refine r_split (j := 3) rfl (fun hK3 => ?_) (fun hK3 => ?_)
            ·
              refine r_no' rfl rfl hK3 ?_
              refine r_no' rfl rfl hK3 ?_
              refine r_no' rfl rfl hK3 ?_
              refine r_y rfl rfl (y_pickt rfl hK3 rfl) ?_
              refine r_nil ?_
              refine hK18 _ _ _ ?_
              clear hK18 K18
              refine c_ift rfl rfl ?_
              refine c_exit ?_
              refine hK13 _ _ _ ?_
              clear hK17 K17 hK15 K15 hK13 K13
              refine c_region ?_
              refine r_del 0 rfl ?_
              refine r_del 0 rfl ?_
              first | refine r_y rfl rfl (y_inc rfl (by omega)) ?_ | refine r_y rfl rfl (y_iop rfl rfl rfl) ?_
              refine r_y rfl rfl (y_move rfl) ?_
              refine r_nil ?_
              exact ⟨k0 - 1, (i + 1, ol, sv), by omega, ⟨rfl, rfl, rfl, rfl, rfl, trivial⟩, (by simp only [rowO, List.map_append]; rfl), ⟨by omega, hsl, by omega, by rw [hT, modR1_del (by simpa using hTo) (by first | (simp at hK3; exact .inl hK3) | (simp at hK4; exact .inr hK4)), hro, List.append_nil], hoo0⟩, hm, hzx⟩
            ·
              refine r_yg rfl hK3 rfl (y_fieldAddr rfl At.lit fo32_0 rfl) ?_
              refine r_yg rfl hK3 rfl (y_load_s rfl ts3 (RdS.blk (i := 2) rfl rfl)) ?_
              refine r_yg rfl hK3 rfl (y_iop rfl rfl rfl) ?_
              refine r_y rfl rfl (y_pickf rfl hK3 rfl) ?_
              refine r_nil ?_
              refine hK18 _ _ _ ?_
              clear hK18 K18
              refine c_cond rfl (fun hK4 => ?_) (fun hK4 => ?_)
              ·
                refine c_exit ?_
                refine hK13 _ _ _ ?_
                clear hK17 K17 hK15 K15 hK13 K13
                refine c_region ?_
                refine r_del 0 rfl ?_
                refine r_del 0 rfl ?_
                first | refine r_y rfl rfl (y_inc rfl (by omega)) ?_ | refine r_y rfl rfl (y_iop rfl rfl rfl) ?_
                refine r_y rfl rfl (y_move rfl) ?_
                refine r_nil ?_
                exact ⟨k0 - 1, (i + 1, ol, sv), by omega, ⟨rfl, rfl, rfl, rfl, rfl, trivial⟩, (by simp only [rowO, List.map_append]; rfl), ⟨by omega, hsl, by omega, by rw [hT, modR1_del (by simpa using hTo) (by first | (simp at hK3; exact .inl hK3) | (simp at hK4; exact .inr hK4)), hro, List.append_nil], hoo0⟩, hm, hzx⟩
              ·
                have hKd : ¬ (x.kind = 3 ∨ x.kind = 5) := by simp at hK3 hK4; omega
                refine c_skip ?_
                refine hK17 _ _ _ ?_
                clear hK17 K17
                refine c_region ?_
                refine r_y rfl rfl (y_fieldAddr rfl At.lit fo32_3 rfl) ?_
                refine r_y rfl rfl (y_load_s rfl ts30 (RdS.blk (i := 2) rfl rfl)) ?_
                refine r_s rfl ?_
                refine s_call0 rfl Try.call84 rfl (cloneA2_w sm x.acts _ _ hzx hokx hfx) ?_
                rintro _ m2 _ hm2 ⟨sc, rfl, hsc, hle, rfl⟩
                replace hm := hm.trans hm2
                replace hzx := hzx.mono hm2
                clear hm2
                refine r_s rfl ?_
                refine s_call0 rfl Try.call83 rfl (clipA_w sc.a sc.n sc.cap _ _ hle) ?_
                rintro _ m2 _ hm2 ⟨rfl, rfl⟩
                replace hm := hm.trans hm2
                replace hzx := hzx.mono hm2
                clear hm2
                refine r_y rfl rfl (y_fieldAddr rfl At.lit fo50_2 rfl) ?_
                refine r_s rfl ?_
                refine s_store rfl rfl rfl ts30 rfl rfl (by simp [Value.oneCell', wv, Sl.v]) (i := 1) rfl rfl ?_
                refine r_nil ?_
                refine hK15 _ _ _ ?_
                clear hK15 K15
                refine c_region ?_
                refine r_y rfl rfl (y_move rfl) ?_
                refine r_y rfl rfl (y_load_a (cs := encRule { o.r with acts := x.acts } ⟨sc.a, sc.n, sc.n⟩) rfl ts50 (RdA.blk (i := 1) rfl rfl)) ?_
                refine r_s rfl ?_
                refine s_buildSlice (cs := (encRule { o.r with acts := x.acts } ⟨sc.a, sc.n, sc.n⟩)) (e := 50) rfl rfl (fun _ => by kernel_rfl) (fun b2 => ?_)
                refine r_s rfl ?_
                refine s_append rfl rfl rfl tl33 zo50 tb50 (i := 6) rfl (Src.one' (i := 0) rfl rfl (one_rule _ _)) (by omega) (by unfold maxLen; omega) (fun a1 c1 => ?_)
                refine r_del 0 rfl ?_
                refine r_y rfl rfl (y_assign rfl) ?_
                refine r_nil ?_
                refine hK13 _ _ _ ?_
                clear hK13 K13
                refine c_region ?_
                refine r_del 1 rfl ?_
                refine r_del 1 rfl ?_
                refine r_perm _ (perm_put3 _ _ _ ol ⟨{ o.r with acts := x.acts }, ⟨sc.a, sc.n, sc.n⟩, sc.cap⟩ _) ?_
                first | refine r_y rfl rfl (y_inc rfl (by omega)) ?_ | refine r_y rfl rfl (y_iop rfl rfl rfl) ?_
                refine r_y rfl rfl (y_move rfl) ?_
                refine r_nil ?_
                exact ⟨k0 - 1, (i + 1, ol ++ [⟨{ o.r with acts := x.acts }, ⟨sc.a, sc.n, sc.n⟩, sc.cap⟩], ⟨a1, sv.n + 1, c1⟩), by omega, ⟨rfl, rfl, rfl, rfl, rfl, trivial⟩, (by simp only [rowO, List.map_append]; rfl), ⟨by omega, by simp [hsl], by show sv.n + 1 ≤ i + 1; omega, by rw [rulesO_snoc, hT, modR1_set (by simpa using hTo) hKd, hro], ok_snoc hoo0 (show OwnR.ok ⟨{ o.r with acts := x.acts }, ⟨sc.a, sc.n, sc.n⟩, sc.cap⟩ from rfl)⟩, hm, hzx⟩
          ·
            refine c_skip ?_
            refine hK15 _ _ _ ?_
            clear hK15 K15
            refine c_region ?_
            refine r_y rfl rfl (y_move rfl) ?_
            refine r_y rfl rfl (y_load_a (cs := o.enc) rfl ts50 (RdA.blk (i := 0) rfl rfl)) ?_
            refine r_s rfl ?_
            refine s_buildSlice (cs := (o.enc)) (e := 50) rfl rfl (fun _ => by kernel_rfl) (fun b2 => ?_)
            refine r_s rfl ?_
            refine s_append rfl rfl rfl tl33 zo50 tb50 (i := 5) rfl (Src.one' (i := 0) rfl rfl (one_rule _ _)) (by omega) (by unfold maxLen; omega) (fun a1 c1 => ?_)
            refine r_del 0 rfl ?_
            refine r_y rfl rfl (y_assign rfl) ?_
            refine r_nil ?_
            refine hK13 _ _ _ ?_
            clear hK13 K13
            refine c_region ?_
            refine r_del 0 rfl ?_
            refine r_perm _ (perm_put3 _ _ _ ol o _) ?_
            first | refine r_y rfl rfl (y_inc rfl (by omega)) ?_ | refine r_y rfl rfl (y_iop rfl rfl rfl) ?_
            refine r_y rfl rfl (y_move rfl) ?_
            refine r_nil ?_
            exact ⟨k0 - 1, (i + 1, ol ++ [o], ⟨a1, sv.n + 1, c1⟩), by omega, ⟨rfl, rfl, rfl, rfl, rfl, trivial⟩, (by simp only [rowO, List.map_append]; rfl), ⟨by omega, by simp [hsl], by show sv.n + 1 ≤ i + 1; omega, by rw [rulesO_snoc, hT, modR1_keep (by simpa using hTo), hro], ok_snoc hoo0 (hoc o (List.mem_of_getElem? ho))⟩, hm, hzx⟩
        ·
          refine c_exit ?_
          refine hK9 _ _ _ ?_
          clear hK12 K12 hK9 K9
          refine c_seq (fun K19 hK19 => ?_)
          refine c_region ?_
          refine r_vecfacts (i := 2) rfl (fun hle _ _ _ _ => ?_)
          refine r_y rfl rfl (y_move rfl) ?_
          refine r_y rfl rfl (y_assign rfl) ?_
          refine r_y rfl rfl (y_assign rfl) ?_
          refine r_nil ?_
          refine hK19 _ _ _ ?_
          clear hK19 K19
          refine c_ret ?_
          refine e_ret 2 hm (res_tmps rfl) ?_
          rw [applyR_map hTS (by simpa using hK1)]
          have hin : i = n := by simp at hL; omega
          have hdr : lo.drop i = [] := List.drop_eq_nil_of_le (by omega)
          refine ⟨sv.a, sv.n, sv.cap, sv.cap, ol, rfl, hsl, .inr rfl, ?_, hoo0, by simp only [hdr]; rfl⟩
          rw [hro, List.take_of_length_le (by rw [← hlo]; simp [rulesO]; omega)]
end Go.Aw
namespace Go.Aw
open Go Go.Proofs
set_option maxRecDepth 100000 in
theorem rWithin_w (a b : Cube) (m : Snap) (H : Hp) : Fn Try.prog 135 [.agg (encCube a).toArray, .agg (encCube b).toArray] m H (fun v _ H' => v = .bool (cubeWithin a b) ∧ H' = H) := by
  have hm : m.le m := Snap.le.refl m
  refine fn_end Try.func135 rfl rfl rfl ?_
  refine c_seq (fun K0 hK0 => ?_)
  refine c_region ?_
  refine r_s rfl ?_
  refine s_box_a rfl rfl (fun b0 => ?_)
  refine r_s rfl ?_
  refine s_box_a rfl rfl (fun b1 => ?_)
  refine r_y rfl rfl (y_assign rfl) ?_
  refine r_nil ?_
  refine hK0 _ _ _ ?_
  clear hK0 K0
  refine c_seq (fun K1 hK1 => ?_)
  refine c_region ?_
  refine r_y rfl rfl (y_load_a (cs := encCube a) rfl ts29 (RdA.blk (i := 1) rfl rfl)) ?_
  refine r_s rfl ?_
  refine s_call0 rfl Try.call98 rfl (rText_w a _ _) ?_
  rintro _ m2 _ hm2 ⟨rfl, rfl⟩
  replace hm := hm.trans hm2
  clear hm2
  refine r_y rfl rfl (y_move rfl) ?_
  refine r_y rfl rfl (y_extract rfl rfl) ?_
  refine r_y rfl rfl (y_extract rfl rfl) ?_
  refine r_y rfl rfl (y_assign rfl) ?_
  refine r_y rfl rfl (y_assign rfl) ?_
  refine r_nil ?_
  refine hK1 _ _ _ ?_
  clear hK1 K1
  refine c_seq (fun K2 hK2 => ?_)
  refine c_region ?_
  refine r_y rfl rfl (y_load_a (cs := encCube b) rfl ts29 (RdA.blk (i := 0) rfl rfl)) ?_
  refine r_s rfl ?_
  refine s_call0 rfl Try.call98 rfl (rText_w b _ _) ?_
  rintro _ m2 _ hm2 ⟨rfl, rfl⟩
  replace hm := hm.trans hm2
  clear hm2
  refine r_y rfl rfl (y_move rfl) ?_
  refine r_y rfl rfl (y_extract rfl rfl) ?_
  refine r_y rfl rfl (y_extract rfl rfl) ?_
  refine r_y rfl rfl (y_assign rfl) ?_
  refine r_y rfl rfl (y_assign rfl) ?_
  refine r_nil ?_
  refine hK2 _ _ _ ?_
  clear hK2 K2
  refine c_seq (fun K3 hK3 => ?_)
  refine c_seq (fun K4 hK4 => ?_)
  refine c_region ?_
  refine r_y rfl rfl (y_assign rfl) ?_
  refine r_nil ?_
  refine hK4 _ _ _ ?_
  clear hK4 K4
  refine c_block ?_
  have htl := textN_len a 12
  refine c_loopx (α := Nat) (fun i => [(5, .string (strB (textN a 12))), (6, .bool (cubeSound a && zipAll withinF ((textN a 12).take i) ((textN b 12).take i))), (7, .string (strB (textN b 12))), (8, .bool (cubeSound b)), (9, .int .i64 (i : Nat))]) (fun i => .blk b1 (.cells (encCube b).toArray 29) :: .blk b0 (.cells (encCube a).toArray 29) :: H) (fun k0 i m1 => (i + k0 = (textN a 12).length) ∧ m.le m1) ((textN a 12).length) 0 ⟨rfl, (congrArg (fun z => some (Value.bool z)) (by simp [zipAll])), rfl, rfl, rfl, trivial⟩ rfl ⟨(by omega), hm⟩ ?_
  clear hm
  rintro k0 i m1 ⟨hi0, hm⟩
  refine c_seq (fun K5 hK5 => ?_)
  refine c_seq (fun K6 hK6 => ?_)
  refine c_region ?_
  refine r_y rfl rfl (y_move rfl) ?_
  refine r_y rfl rfl (y_move rfl) ?_
  refine r_y rfl rfl (y_lenstr Try.underlying9 rfl) ?_
  refine r_y rfl rfl (y_iop rfl rfl rfl) ?_
  refine r_nil ?_
  refine hK6 _ _ _ ?_
  clear hK6 K6
  refine c_cond rfl (fun hL => ?_) (fun hL => ?_)
  ·
    have hlt : i < (textN a 12).length := by simp at hL; omega
    obtain ⟨x, hx⟩ := get_of_lt (l := (textN a 12)) (k := i) hlt
    obtain ⟨y, hy⟩ := get_of_lt (l := (textN b 12)) (k := i) (by rw [← textN_len2 a b]; exact hlt)
    have hst := zipAll_step (F := withinF) hx hy
    refine c_skip ?_
    refine hK5 _ _ _ ?_
    clear hK5 K5
    refine c_seq (fun K7 hK7 => ?_)
    refine c_block ?_
    refine c_draw ([]) (by kernel_rfl) (fun hg => ?_)
    refine g_y (i := 0) (listed' := #[true, false, false, false, false, false, false, false, false, false, false, false, false, false, false, false, false]) rfl (by kernel_rfl) (by kernel_rfl) (by kernel_rfl) (by kernel_rfl) rfl rfl hg alln (fun m' H' hm' hX' => y_move rfl) ?_
    refine g_y (i := 1) (listed' := #[true, true, false, false, false, false, false, false, false, false, false, false, false, false, false, false, false]) rfl (by kernel_rfl) (by kernel_rfl) (by kernel_rfl) (by kernel_rfl) rfl rfl hg alln (fun m' H' hm' hX' => y_move rfl) ?_
    refine g_split (j := 1) rfl (fun hA => ?_) (fun hA => ?_)
    ·
      refine g_yg (i := 2) (listed' := #[true, true, true, false, false, false, false, false, false, false, false, false, false, false, false, false, false]) rfl (by kernel_rfl) (by kernel_rfl) (by kernel_rfl) (by kernel_rfl) rfl rfl hA rfl hg alln (fun m' H' hm' hX' => y_move rfl) ?_
      refine g_yg (i := 3) (listed' := #[true, true, true, true, false, false, false, false, false, false, false, false, false, false, false, false, false]) rfl (by kernel_rfl) (by kernel_rfl) (by kernel_rfl) (by kernel_rfl) rfl rfl hA rfl hg alln (fun m' H' hm' hX' => y_move rfl) ?_
      refine g_yg (i := 4) (listed' := #[true, true, true, true, true, false, false, false, false, false, false, false, false, false, false, false, false]) rfl (by kernel_rfl) (by kernel_rfl) (by kernel_rfl) (by kernel_rfl) rfl rfl hA rfl hg alln (fun m' H' hm' hX' => y_index_strB rfl rfl Try.underlying9 hy) ?_
      refine g_yg (i := 5) (listed' := #[true, true, true, true, true, true, false, false, false, false, false, false, false, false, false, false, false]) rfl (by kernel_rfl) (by kernel_rfl) (by kernel_rfl) (by kernel_rfl) rfl rfl hA rfl hg alln (fun m' H' hm' hX' => y_iop rfl rfl rfl) ?_
      refine g_yg (i := 6) (listed' := #[true, true, true, true, true, true, true, false, false, false, false, false, false, false, false, false, false]) rfl (by kernel_rfl) (by kernel_rfl) (by kernel_rfl) (by kernel_rfl) rfl rfl hA rfl hg alln (fun m' H' hm' hX' => y_move rfl) ?_
      refine g_split (j := 6) rfl (fun hX => ?_) (fun hX => ?_)
      ·
        refine g_no (i := 7) (listed' := #[true, true, true, true, true, true, true, true, false, false, false, false, false, false, false, false, false]) rfl (by kernel_rfl) (by kernel_rfl) (by kernel_rfl) (by kernel_rfl) rfl rfl hX rfl hg alln ?_
        refine g_no (i := 8) (listed' := #[true, true, true, true, true, true, true, true, true, false, false, false, false, false, false, false, false]) rfl (by kernel_rfl) (by kernel_rfl) (by kernel_rfl) (by kernel_rfl) rfl rfl hX rfl hg alln ?_
        refine g_no (i := 9) (listed' := #[true, true, true, true, true, true, true, true, true, true, false, false, false, false, false, false, false]) rfl (by kernel_rfl) (by kernel_rfl) (by kernel_rfl) (by kernel_rfl) rfl rfl hX rfl hg alln ?_
        refine g_no (i := 10) (listed' := #[true, true, true, true, true, true, true, true, true, true, true, false, false, false, false, false, false]) rfl (by kernel_rfl) (by kernel_rfl) (by kernel_rfl) (by kernel_rfl) rfl rfl hX rfl hg alln ?_
        refine g_no (i := 11) (listed' := #[true, true, true, true, true, true, true, true, true, true, true, true, false, false, false, false, false]) rfl (by kernel_rfl) (by kernel_rfl) (by kernel_rfl) (by kernel_rfl) rfl rfl hX rfl hg alln ?_
        refine g_no (i := 12) (listed' := #[true, true, true, true, true, true, true, true, true, true, true, true, true, false, false, false, false]) rfl (by kernel_rfl) (by kernel_rfl) (by kernel_rfl) (by kernel_rfl) rfl rfl hX rfl hg alln ?_
        refine g_no (i := 13) (listed' := #[true, true, true, true, true, true, true, true, true, true, true, true, true, true, false, false, false]) rfl (by kernel_rfl) (by kernel_rfl) (by kernel_rfl) (by kernel_rfl) rfl rfl hX rfl hg alln ?_
        refine g_yg (i := 14) (listed' := #[true, true, true, true, true, true, true, true, true, true, true, true, true, true, true, false, false]) rfl (by kernel_rfl) (by kernel_rfl) (by kernel_rfl) (by kernel_rfl) rfl rfl hA rfl hg alln (fun m' H' hm' hX' => y_pickt rfl hX rfl) ?_
        refine g_y (i := 15) (listed' := #[true, true, true, true, true, true, true, true, true, true, true, true, true, true, true, true, false]) rfl (by kernel_rfl) (by kernel_rfl) (by kernel_rfl) (by kernel_rfl) rfl rfl hg alln (fun m' H' hm' hX' => y_pickt rfl hA rfl) ?_
        refine g_y (i := 16) (listed' := #[true, true, true, true, true, true, true, true, true, true, true, true, true, true, true, true, true]) rfl (by kernel_rfl) (by kernel_rfl) (by kernel_rfl) (by kernel_rfl) rfl rfl hg alln (fun m' H' hm' hX' => y_assign rfl) ?_
        refine g_done (by kernel_rfl) ?_
        clear hg
        refine hK7 _ _ _ ?_
        clear hK7 K7
        refine c_region ?_
        refine r_y rfl rfl (y_move rfl) ?_
        first | refine r_y rfl rfl (y_inc rfl (by omega)) ?_ | refine r_y rfl rfl (y_iop rfl rfl rfl) ?_
        refine r_y rfl rfl (y_assign rfl) ?_
        refine r_nil ?_
        exact ⟨k0 - 1, (i + 1), by omega, ⟨rfl, (congrArg (fun z => some (Value.bool z)) (by first | (rw [hst, ← Bool.and_assoc, hA, withinF_i, hX]; rfl) | (rw [hst, ← Bool.and_assoc, hA]; rfl))), rfl, rfl, rfl, trivial⟩, rfl, (by omega), hm⟩
      ·
        refine g_yg (i := 7) (listed' := #[true, true, true, true, true, true, true, true, false, false, false, false, false, false, false, false, false]) rfl (by kernel_rfl) (by kernel_rfl) (by kernel_rfl) (by kernel_rfl) rfl rfl hX rfl hg alln (fun m' H' hm' hX' => y_move rfl) ?_
        refine g_yg (i := 8) (listed' := #[true, true, true, true, true, true, true, true, true, false, false, false, false, false, false, false, false]) rfl (by kernel_rfl) (by kernel_rfl) (by kernel_rfl) (by kernel_rfl) rfl rfl hX rfl hg alln (fun m' H' hm' hX' => y_move rfl) ?_
        refine g_yg (i := 9) (listed' := #[true, true, true, true, true, true, true, true, true, true, false, false, false, false, false, false, false]) rfl (by kernel_rfl) (by kernel_rfl) (by kernel_rfl) (by kernel_rfl) rfl rfl hX rfl hg alln (fun m' H' hm' hX' => y_index_strB rfl rfl Try.underlying9 hx) ?_
        refine g_yg (i := 10) (listed' := #[true, true, true, true, true, true, true, true, true, true, true, false, false, false, false, false, false]) rfl (by kernel_rfl) (by kernel_rfl) (by kernel_rfl) (by kernel_rfl) rfl rfl hX rfl hg alln (fun m' H' hm' hX' => y_move rfl) ?_
        refine g_yg (i := 11) (listed' := #[true, true, true, true, true, true, true, true, true, true, true, true, false, false, false, false, false]) rfl (by kernel_rfl) (by kernel_rfl) (by kernel_rfl) (by kernel_rfl) rfl rfl hX rfl hg alln (fun m' H' hm' hX' => y_move rfl) ?_
        refine g_yg (i := 12) (listed' := #[true, true, true, true, true, true, true, true, true, true, true, true, true, false, false, false, false]) rfl (by kernel_rfl) (by kernel_rfl) (by kernel_rfl) (by kernel_rfl) rfl rfl hX rfl hg alln (fun m' H' hm' hX' => y_index_strB rfl rfl Try.underlying9 hy) ?_
        refine g_yg (i := 13) (listed' := #[true, true, true, true, true, true, true, true, true, true, true, true, true, true, false, false, false]) rfl (by kernel_rfl) (by kernel_rfl) (by kernel_rfl) (by kernel_rfl) rfl rfl hX rfl hg alln (fun m' H' hm' hX' => y_iop rfl rfl rfl) ?_
        refine g_yg (i := 14) (listed' := #[true, true, true, true, true, true, true, true, true, true, true, true, true, true, true, false, false]) rfl (by kernel_rfl) (by kernel_rfl) (by kernel_rfl) (by kernel_rfl) rfl rfl hA rfl hg alln (fun m' H' hm' hX' => y_pickf rfl hX rfl) ?_
        refine g_y (i := 15) (listed' := #[true, true, true, true, true, true, true, true, true, true, true, true, true, true, true, true, false]) rfl (by kernel_rfl) (by kernel_rfl) (by kernel_rfl) (by kernel_rfl) rfl rfl hg alln (fun m' H' hm' hX' => y_pickt rfl hA rfl) ?_
        refine g_y (i := 16) (listed' := #[true, true, true, true, true, true, true, true, true, true, true, true, true, true, true, true, true]) rfl (by kernel_rfl) (by kernel_rfl) (by kernel_rfl) (by kernel_rfl) rfl rfl hg alln (fun m' H' hm' hX' => y_assign rfl) ?_
        refine g_done (by kernel_rfl) ?_
        clear hg
        refine hK7 _ _ _ ?_
        clear hK7 K7
        refine c_region ?_
        refine r_y rfl rfl (y_move rfl) ?_
        first | refine r_y rfl rfl (y_inc rfl (by omega)) ?_ | refine r_y rfl rfl (y_iop rfl rfl rfl) ?_
        refine r_y rfl rfl (y_assign rfl) ?_
        refine r_nil ?_
        exact ⟨k0 - 1, (i + 1), by omega, ⟨rfl, (congrArg (fun z => some (Value.bool z)) (by first | (rw [hst, ← Bool.and_assoc, hA, withinF_i, hX]; rfl) | (rw [hst, ← Bool.and_assoc, hA]; rfl))), rfl, rfl, rfl, trivial⟩, rfl, (by omega), hm⟩
    ·
      refine g_no (i := 2) (listed' := #[true, true, true, false, false, false, false, false, false, false, false, false, false, false, false, false, false]) rfl (by kernel_rfl) (by kernel_rfl) (by kernel_rfl) (by kernel_rfl) rfl rfl hA rfl hg alln ?_
      refine g_no (i := 3) (listed' := #[true, true, true, true, false, false, false, false, false, false, false, false, false, false, false, false, false]) rfl (by kernel_rfl) (by kernel_rfl) (by kernel_rfl) (by kernel_rfl) rfl rfl hA rfl hg alln ?_
      refine g_no (i := 4) (listed' := #[true, true, true, true, true, false, false, false, false, false, false, false, false, false, false, false, false]) rfl (by kernel_rfl) (by kernel_rfl) (by kernel_rfl) (by kernel_rfl) rfl rfl hA rfl hg alln ?_
      refine g_no (i := 5) (listed' := #[true, true, true, true, true, true, false, false, false, false, false, false, false, false, false, false, false]) rfl (by kernel_rfl) (by kernel_rfl) (by kernel_rfl) (by kernel_rfl) rfl rfl hA rfl hg alln ?_
      refine g_no (i := 6) (listed' := #[true, true, true, true, true, true, true, false, false, false, false, false, false, false, false, false, false]) rfl (by kernel_rfl) (by kernel_rfl) (by kernel_rfl) (by kernel_rfl) rfl rfl hA rfl hg alln ?_
      refine g_nou (i := 7) (listed' := #[true, true, true, true, true, true, true, true, false, false, false, false, false, false, false, false, false]) rfl (by kernel_rfl) (by kernel_rfl) (by kernel_rfl) (by kernel_rfl) rfl rfl rfl hg alln ?_
      refine g_nou (i := 8) (listed' := #[true, true, true, true, true, true, true, true, true, false, false, false, false, false, false, false, false]) rfl (by kernel_rfl) (by kernel_rfl) (by kernel_rfl) (by kernel_rfl) rfl rfl rfl hg alln ?_
      refine g_nou (i := 9) (listed' := #[true, true, true, true, true, true, true, true, true, true, false, false, false, false, false, false, false]) rfl (by kernel_rfl) (by kernel_rfl) (by kernel_rfl) (by kernel_rfl) rfl rfl rfl hg alln ?_
      refine g_nou (i := 10) (listed' := #[true, true, true, true, true, true, true, true, true, true, true, false, false, false, false, false, false]) rfl (by kernel_rfl) (by kernel_rfl) (by kernel_rfl) (by kernel_rfl) rfl rfl rfl hg alln ?_
      refine g_nou (i := 11) (listed' := #[true, true, true, true, true, true, true, true, true, true, true, true, false, false, false, false, false]) rfl (by kernel_rfl) (by kernel_rfl) (by kernel_rfl) (by kernel_rfl) rfl rfl rfl hg alln ?_
      refine g_nou (i := 12) (listed' := #[true, true, true, true, true, true, true, true, true, true, true, true, true, false, false, false, false]) rfl (by kernel_rfl) (by kernel_rfl) (by kernel_rfl) (by kernel_rfl) rfl rfl rfl hg alln ?_
      refine g_nou (i := 13) (listed' := #[true, true, true, true, true, true, true, true, true, true, true, true, true, true, false, false, false]) rfl (by kernel_rfl) (by kernel_rfl) (by kernel_rfl) (by kernel_rfl) rfl rfl rfl hg alln ?_
      refine g_no (i := 14) (listed' := #[true, true, true, true, true, true, true, true, true, true, true, true, true, true, true, false, false]) rfl (by kernel_rfl) (by kernel_rfl) (by kernel_rfl) (by kernel_rfl) rfl rfl hA rfl hg alln ?_
      refine g_y (i := 15) (listed' := #[true, true, true, true, true, true, true, true, true, true, true, true, true, true, true, true, false]) rfl (by kernel_rfl) (by kernel_rfl) (by kernel_rfl) (by kernel_rfl) rfl rfl hg alln (fun m' H' hm' hX' => y_pickf rfl hA rfl) ?_
      refine g_y (i := 16) (listed' := #[true, true, true, true, true, true, true, true, true, true, true, true, true, true, true, true, true]) rfl (by kernel_rfl) (by kernel_rfl) (by kernel_rfl) (by kernel_rfl) rfl rfl hg alln (fun m' H' hm' hX' => y_assign rfl) ?_
      refine g_done (by kernel_rfl) ?_
      clear hg
      refine hK7 _ _ _ ?_
      clear hK7 K7
      refine c_region ?_
      refine r_y rfl rfl (y_move rfl) ?_
      first | refine r_y rfl rfl (y_inc rfl (by omega)) ?_ | refine r_y rfl rfl (y_iop rfl rfl rfl) ?_
      refine r_y rfl rfl (y_assign rfl) ?_
      refine r_nil ?_
      exact ⟨k0 - 1, (i + 1), by omega, ⟨rfl, (congrArg (fun z => some (Value.bool z)) (by first | (rw [hst, ← Bool.and_assoc, hA, withinF_i, hX]; rfl) | (rw [hst, ← Bool.and_assoc, hA]; rfl))), rfl, rfl, rfl, trivial⟩, rfl, (by omega), hm⟩
  ·
    refine c_exit ?_
    refine hK3 _ _ _ ?_
    clear hK5 K5 hK3 K3
    refine c_seq (fun K8 hK8 => ?_)
    refine c_region ?_
    refine r_y rfl rfl (y_move rfl) ?_
    refine r_y rfl rfl (y_move rfl) ?_
    refine r_split (j := 1) rfl (fun hE => ?_) (fun hE => ?_)
    ·
      refine r_yg rfl hE rfl (y_move rfl) ?_
      refine r_y rfl rfl (y_pickt rfl hE rfl) ?_
      refine r_y rfl rfl (y_assign rfl) ?_
      refine r_nil ?_
      refine hK8 _ _ _ ?_
      clear hK8 K8
      refine c_ret ?_
      refine e_ret 2 hm (res_tmps rfl) ?_
      have hil : i = (textN a 12).length := by simp at hL; omega
      rw [within_text]
      rw [hil, List.take_of_length_le (Nat.le_refl _), List.take_of_length_le (by rw [textN_len2 b a]; exact Nat.le_refl _)] at hE
      refine ⟨congrArg Value.bool ?_, rfl⟩
      first | (rw [hE]; rfl) | (rw [hE]; cases cubeSound b <;> rfl)
    ·
      refine r_no' rfl rfl hE ?_
      refine r_y rfl rfl (y_pickf rfl hE rfl) ?_
      refine r_y rfl rfl (y_assign rfl) ?_
      refine r_nil ?_
      refine hK8 _ _ _ ?_
      clear hK8 K8
      refine c_ret ?_
      refine e_ret 2 hm (res_tmps rfl) ?_
      have hil : i = (textN a 12).length := by simp at hL; omega
      rw [within_text]
      rw [hil, List.take_of_length_le (Nat.le_refl _), List.take_of_length_le (by rw [textN_len2 b a]; exact Nat.le_refl _)] at hE
      refine ⟨congrArg Value.bool ?_, rfl⟩
      first | (rw [hE]; rfl) | (rw [hE]; cases cubeSound b <;> rfl)
set_option maxRecDepth 100000 in
theorem rFrom_w (l : List UInt8) (m : Snap) (H : Hp) (hl : l.length = tlen 12) : Fn Try.prog 99 [.string (strB l)] m H (fun v _ H' => ∃ c : Cube, v = .agg (encCube c).toArray ∧ H' = H) := by
  have hm : m.le m := Snap.le.refl m
  refine fn_end Try.func99 rfl rfl rfl ?_
  refine c_seq (fun K0 hK0 => ?_)
  refine c_region ?_
  refine r_s rfl ?_
  refine s_alloc rfl tz29 (fun b0 => ?_)
  refine r_nil ?_
  refine hK0 _ _ _ ?_
  clear hK0 K0
  refine c_seq (fun K1 hK1 => ?_)
  refine c_region ?_
  refine r_s rfl ?_
  refine s_alloc rfl tz29 (fun b1 => ?_)
  refine r_nil ?_
  refine hK1 _ _ _ ?_
  clear hK1 K1
  refine c_seq (fun K2 hK2 => ?_)
  refine c_region ?_
  refine r_y rfl rfl (y_assign rfl) ?_
  refine r_nil ?_
  refine hK2 _ _ _ ?_
  clear hK2 K2
  refine c_seq (fun K3 hK3 => ?_)
  refine c_seq (fun K4 hK4 => ?_)
  refine c_region ?_
  refine r_y rfl rfl (y_assign rfl) ?_
  refine r_nil ?_
  refine hK4 _ _ _ ?_
  clear hK4 K4
  refine c_block ?_
  refine c_loopx (α := Nat × Cube) (fun vv => match vv with | (i, c) => [(0, .string (strB l)), (2, .pointer (some ⟨b0, 0, none⟩)), (3, .pointer (some ⟨b1, 0, none⟩)), (4, .int .i64 (tlen i : Nat)), (5, .int .i64 (i : Nat))]) (fun vv => match vv with | (i, c) => .blk b1 (.cells (encCube c).toArray 29) :: .blk b0 (.cells (encCube zCube).toArray 29) :: H) (fun k0 vv m1 => match vv with | (i, c) => (i + k0 = 12) ∧ m.le m1) (12) (0, zCube) ⟨rfl, rfl, rfl, rfl, rfl, trivial⟩ rfl ⟨(by omega), hm⟩ ?_
  clear hm
  rintro k0 ⟨i, c⟩ m1 ⟨hi0, hm⟩
  refine c_seq (fun K5 hK5 => ?_)
  refine c_seq (fun K6 hK6 => ?_)
  refine c_region ?_
  refine r_y rfl rfl (y_move rfl) ?_
  refine r_y rfl rfl (y_iop rfl rfl rfl) ?_
  refine r_nil ?_
  refine hK6 _ _ _ ?_
  clear hK6 K6
  refine c_cond rfl (fun hL => ?_) (fun hL => ?_)
  ·
    have hlt : i < 12 := by simp at hL; omega
    refine c_skip ?_
    refine hK5 _ _ _ ?_
    clear hK5 K5
    refine c_seq (fun K7 hK7 => ?_)
    refine c_block ?_
    refine c_seq (fun K8 hK8 => ?_)
    refine c_region ?_
    refine r_y rfl rfl (y_assign rfl) ?_
    refine r_nil ?_
    refine hK8 _ _ _ ?_
    clear hK8 K8
    refine c_block ?_
    have hsz48 := hsz_le (i : Int)
    have htl2 := tlen_le
    have htl3 : tlen i ≤ 576 := by have := textN_len zCube i; rw [textN_tlen] at this; omega
    refine c_loopx (α := Nat × Cube) (fun vv => match vv with | (j, c2) => [(0, .string (strB l)), (2, .pointer (some ⟨b0, 0, none⟩)), (3, .pointer (some ⟨b1, 0, none⟩)), (4, .int .i64 (tlen i + j : Nat)), (5, .int .i64 (i : Nat)), (6, .int .i64 (j : Nat))]) (fun vv => match vv with | (j, c2) => .blk b1 (.cells (encCube c2).toArray 29) :: .blk b0 (.cells (encCube zCube).toArray 29) :: H) (fun k1 vv m1 => match vv with | (j, c2) => (j + k1 = hsz (i : Int)) ∧ m.le m1) (hsz (i : Int)) (0, c) ⟨rfl, rfl, rfl, rfl, rfl, rfl, trivial⟩ rfl ⟨(by omega), hm⟩ ?_
    clear hm
    rintro k1 ⟨j, c2⟩ m1 ⟨hi1, hm⟩
    refine c_seq (fun K9 hK9 => ?_)
    refine c_seq (fun K10 hK10 => ?_)
    refine c_region ?_
    refine r_y rfl rfl (y_move rfl) ?_
    refine r_y rfl rfl (y_move rfl) ?_
    refine r_s rfl ?_
    refine s_call0 rfl Try.call117 rfl (rSize_w _ _ _) ?_
    rintro _ m2 _ hm2 ⟨rfl, rfl⟩
    replace hm := hm.trans hm2
    clear hm2
    refine r_y rfl rfl (y_iop rfl rfl rfl) ?_
    refine r_nil ?_
    refine hK10 _ _ _ ?_
    clear hK10 K10
    refine c_cond rfl (fun hJ => ?_) (fun hJ => ?_)
    ·
      have hjl : j < hsz (i : Int) := by simp at hJ; omega
      obtain ⟨y, hy⟩ := get_of_lt (l := l) (k := tlen i + j) (by rw [hl]; exact tlen_lt hlt hjl)
      refine c_skip ?_
      refine hK9 _ _ _ ?_
      clear hK9 K9
      refine c_seq (fun K11 hK11 => ?_)
      refine c_block ?_
      refine c_seq (fun K12 hK12 => ?_)
      refine c_region ?_
      refine r_y rfl rfl (y_move rfl) ?_
      refine r_y rfl rfl (y_move rfl) ?_
      refine r_y rfl rfl (y_fieldAddr rfl At.lit fo29_0 rfl) ?_
      refine r_y rfl rfl (y_indexAddr_arr rfl rfl ta27 hlt At.lit) ?_
      refine r_y rfl rfl (y_load_s rfl ts25 (RdS.blk (i := 0) rfl (cget_value _ _ hlt))) ?_
      refine r_y rfl rfl (y_wany rfl (opv_wc 2#64) rfl) ?_
      refine r_y rfl rfl (y_fieldAddr rfl At.lit fo29_0 rfl) ?_
      refine r_y rfl rfl (y_indexAddr_arr rfl rfl ta27 hlt At.lit) ?_
      refine r_s rfl ?_
      refine s_store rfl rfl rfl ts25 rfl rfl (by simp [Value.oneCell', wv]) (i := 0) rfl (cput_value _ _ _ hlt) ?_
      refine r_nil ?_
      refine hK12 _ _ _ ?_
      clear hK12 K12
      refine c_seq (fun K13 hK13 => ?_)
      refine c_region ?_
      refine r_y rfl rfl (y_move rfl) ?_
      refine r_y rfl rfl (y_move rfl) ?_
      refine r_y rfl rfl (y_fieldAddr rfl At.lit fo29_1 rfl) ?_
      refine r_y rfl rfl (y_indexAddr_arr rfl rfl ta27 hlt At.lit) ?_
      refine r_y rfl rfl (y_load_s rfl ts25 (RdS.blk (i := 0) rfl (cget_care _ _ hlt))) ?_
      refine r_y rfl rfl (y_wany rfl (opv_wc 2#64) rfl) ?_
      refine r_y rfl rfl (y_fieldAddr rfl At.lit fo29_1 rfl) ?_
      refine r_y rfl rfl (y_indexAddr_arr rfl rfl ta27 hlt At.lit) ?_
      refine r_s rfl ?_
      refine s_store rfl rfl rfl ts25 rfl rfl (by simp [Value.oneCell', wv]) (i := 0) rfl (cput_care _ _ _ hlt) ?_
      refine r_nil ?_
      refine hK13 _ _ _ ?_
      clear hK13 K13
      refine c_seq (fun K14 hK14 => ?_)
      refine c_seq (fun K15 hK15 => ?_)
      refine c_region ?_
      refine r_y rfl rfl (y_move rfl) ?_
      refine r_y rfl rfl (y_move rfl) ?_
      refine r_y rfl rfl (y_index_strB rfl rfl Try.underlying9 hy) ?_
      refine r_y rfl rfl (y_iop rfl rfl rfl) ?_
      refine r_nil ?_
      refine hK15 _ _ _ ?_
      clear hK15 K15
      refine c_cond rfl (fun h2 => ?_) (fun h2 => ?_)
      ·
        refine c_region ?_
        refine r_y rfl rfl (y_move rfl) ?_
        refine r_y rfl rfl (y_fieldAddr rfl At.lit fo29_1 rfl) ?_
        refine r_y rfl rfl (y_indexAddr_arr rfl rfl ta27 hlt At.lit) ?_
        refine r_y rfl rfl (y_load_s rfl ts25 (RdS.blk (i := 0) rfl (cget_care _ _ hlt))) ?_
        refine r_y rfl rfl (y_wany rfl (opv_wc 1#64) rfl) ?_
        refine r_y rfl rfl (y_fieldAddr rfl At.lit fo29_1 rfl) ?_
        refine r_y rfl rfl (y_indexAddr_arr rfl rfl ta27 hlt At.lit) ?_
        refine r_s rfl ?_
        refine s_store rfl rfl rfl ts25 rfl rfl (by simp [Value.oneCell', wv]) (i := 0) rfl (cput_care _ _ _ hlt) ?_
        refine r_nil ?_
        refine hK14 _ _ _ ?_
        clear hK14 K14
        refine c_seq (fun K16 hK16 => ?_)
        refine c_seq (fun K17 hK17 => ?_)
        refine c_region ?_
        refine r_y rfl rfl (y_move rfl) ?_
        refine r_y rfl rfl (y_move rfl) ?_
        refine r_y rfl rfl (y_index_strB rfl rfl Try.underlying9 hy) ?_
        refine r_y rfl rfl (y_iop rfl rfl rfl) ?_
        refine r_nil ?_
        refine hK17 _ _ _ ?_
        clear hK17 K17
        refine c_cond rfl (fun h3 => ?_) (fun h3 => ?_)
        ·
          refine c_region ?_
          refine r_y rfl rfl (y_move rfl) ?_
          refine r_y rfl rfl (y_fieldAddr rfl At.lit fo29_0 rfl) ?_
          refine r_y rfl rfl (y_indexAddr_arr rfl rfl ta27 hlt At.lit) ?_
          refine r_y rfl rfl (y_load_s rfl ts25 (RdS.blk (i := 0) rfl (cget_value _ _ hlt))) ?_
          refine r_y rfl rfl (y_wany rfl (opv_wc 1#64) rfl) ?_
          refine r_y rfl rfl (y_fieldAddr rfl At.lit fo29_0 rfl) ?_
          refine r_y rfl rfl (y_indexAddr_arr rfl rfl ta27 hlt At.lit) ?_
          refine r_s rfl ?_
          refine s_store rfl rfl rfl ts25 rfl rfl (by simp [Value.oneCell', wv]) (i := 0) rfl (cput_value _ _ _ hlt) ?_
          refine r_nil ?_
          refine hK16 _ _ _ ?_
          clear hK16 K16
          refine c_region ?_
          refine r_y rfl rfl (y_move rfl) ?_
          first | refine r_y rfl rfl (y_inc rfl (by omega)) ?_ | refine r_y rfl rfl (y_iop rfl rfl rfl) ?_
          refine r_y rfl rfl (y_assign rfl) ?_
          refine r_nil ?_
          refine hK11 _ _ _ ?_
          clear hK11 K11
          refine c_region ?_
          refine r_y rfl rfl (y_move rfl) ?_
          first | refine r_y rfl rfl (y_inc rfl (by omega)) ?_ | refine r_y rfl rfl (y_iop rfl rfl rfl) ?_
          refine r_y rfl rfl (y_assign rfl) ?_
          refine r_nil ?_
          exact ⟨k1 - 1, (j + 1, _), by omega, ⟨rfl, rfl, rfl, rfl, rfl, rfl, trivial⟩, rfl, (by omega), hm⟩
        ·
          refine c_skip ?_
          refine hK16 _ _ _ ?_
          clear hK16 K16
          refine c_region ?_
          refine r_y rfl rfl (y_move rfl) ?_
          first | refine r_y rfl rfl (y_inc rfl (by omega)) ?_ | refine r_y rfl rfl (y_iop rfl rfl rfl) ?_
          refine r_y rfl rfl (y_assign rfl) ?_
          refine r_nil ?_
          refine hK11 _ _ _ ?_
          clear hK11 K11
          refine c_region ?_
          refine r_y rfl rfl (y_move rfl) ?_
          first | refine r_y rfl rfl (y_inc rfl (by omega)) ?_ | refine r_y rfl rfl (y_iop rfl rfl rfl) ?_
          refine r_y rfl rfl (y_assign rfl) ?_
          refine r_nil ?_
          exact ⟨k1 - 1, (j + 1, _), by omega, ⟨rfl, rfl, rfl, rfl, rfl, rfl, trivial⟩, rfl, (by omega), hm⟩
      ·
        refine c_skip ?_
        refine hK14 _ _ _ ?_
        clear hK14 K14
        refine c_seq (fun K18 hK18 => ?_)
        refine c_seq (fun K19 hK19 => ?_)
        refine c_region ?_
        refine r_y rfl rfl (y_move rfl) ?_
        refine r_y rfl rfl (y_move rfl) ?_
        refine r_y rfl rfl (y_index_strB rfl rfl Try.underlying9 hy) ?_
        refine r_y rfl rfl (y_iop rfl rfl rfl) ?_
        refine r_nil ?_
        refine hK19 _ _ _ ?_
        clear hK19 K19
        refine c_cond rfl (fun h4 => ?_) (fun h4 => ?_)
        ·
          refine c_region ?_
          refine r_y rfl rfl (y_move rfl) ?_
          refine r_y rfl rfl (y_fieldAddr rfl At.lit fo29_0 rfl) ?_
          refine r_y rfl rfl (y_indexAddr_arr rfl rfl ta27 hlt At.lit) ?_
          refine r_y rfl rfl (y_load_s rfl ts25 (RdS.blk (i := 0) rfl (cget_value _ _ hlt))) ?_
          refine r_y rfl rfl (y_wany rfl (opv_wc 1#64) rfl) ?_
          refine r_y rfl rfl (y_fieldAddr rfl At.lit fo29_0 rfl) ?_
          refine r_y rfl rfl (y_indexAddr_arr rfl rfl ta27 hlt At.lit) ?_
          refine r_s rfl ?_
          refine s_store rfl rfl rfl ts25 rfl rfl (by simp [Value.oneCell', wv]) (i := 0) rfl (cput_value _ _ _ hlt) ?_
          refine r_nil ?_
          refine hK18 _ _ _ ?_
          clear hK18 K18
          refine c_region ?_
          refine r_y rfl rfl (y_move rfl) ?_
          first | refine r_y rfl rfl (y_inc rfl (by omega)) ?_ | refine r_y rfl rfl (y_iop rfl rfl rfl) ?_
          refine r_y rfl rfl (y_assign rfl) ?_
          refine r_nil ?_
          refine hK11 _ _ _ ?_
          clear hK11 K11
          refine c_region ?_
          refine r_y rfl rfl (y_move rfl) ?_
          first | refine r_y rfl rfl (y_inc rfl (by omega)) ?_ | refine r_y rfl rfl (y_iop rfl rfl rfl) ?_
          refine r_y rfl rfl (y_assign rfl) ?_
          refine r_nil ?_
          exact ⟨k1 - 1, (j + 1, _), by omega, ⟨rfl, rfl, rfl, rfl, rfl, rfl, trivial⟩, rfl, (by omega), hm⟩
        ·
          refine c_skip ?_
          refine hK18 _ _ _ ?_
          clear hK18 K18
          refine c_region ?_
          refine r_y rfl rfl (y_move rfl) ?_
          first | refine r_y rfl rfl (y_inc rfl (by omega)) ?_ | refine r_y rfl rfl (y_iop rfl rfl rfl) ?_
          refine r_y rfl rfl (y_assign rfl) ?_
          refine r_nil ?_
          refine hK11 _ _ _ ?_
          clear hK11 K11
          refine c_region ?_
          refine r_y rfl rfl (y_move rfl) ?_
          first | refine r_y rfl rfl (y_inc rfl (by omega)) ?_ | refine r_y rfl rfl (y_iop rfl rfl rfl) ?_
          refine r_y rfl rfl (y_assign rfl) ?_
          refine r_nil ?_
          exact ⟨k1 - 1, (j + 1, _), by omega, ⟨rfl, rfl, rfl, rfl, rfl, rfl, trivial⟩, rfl, (by omega), hm⟩
    ·
      obtain rfl : j = hsz (i : Int) := by simp at hJ; omega
      refine c_exit ?_
      refine hK7 _ _ _ ?_
      clear hK9 K9 hK7 K7
      refine c_region ?_
      refine r_y rfl rfl (y_move rfl) ?_
      first | refine r_y rfl rfl (y_inc rfl (by omega)) ?_ | refine r_y rfl rfl (y_iop rfl rfl rfl) ?_
      refine r_y rfl rfl (y_assign rfl) ?_
      refine r_nil ?_
      exact ⟨k0 - 1, (i + 1, c2), by omega, ⟨rfl, rfl, rfl, rfl, rfl, trivial⟩, rfl, (by omega), hm⟩
  ·
    obtain rfl : i = 12 := by simp at hL; omega
    refine c_exit ?_
    refine hK3 _ _ _ ?_
    clear hK5 K5 hK3 K3
    refine c_seq (fun K20 hK20 => ?_)
    refine c_region ?_
    refine r_y rfl rfl (y_load_a rfl ts29 (RdA.blk (i := 0) rfl rfl)) ?_
    refine r_s rfl ?_
    refine s_store rfl rfl rfl ts29 rfl rfl (by simp [Value.oneCell', wv, Sl.v]) (i := 1) rfl rfl ?_
    refine r_nil ?_
    refine hK20 _ _ _ ?_
    clear hK20 K20
    refine c_ret ?_
    refine e_ret 2 hm (res_cell_a rfl ts29 (RdA.blk (i := 1) rfl rfl)) ?_
    exact ⟨c, rfl, rfl⟩
set_option maxRecDepth 100000 in
theorem rMeet_w (a b : Cube) (m : Snap) (H : Hp) : Fn Try.prog 39 [.agg (encCube a).toArray, .agg (encCube b).toArray] m H (fun v _ H' => ∃ c : Cube, v = .tuple [.agg (encCube c).toArray, .bool (cubeMeetOk a b)].toArray ∧ H' = H) := by
  have hm : m.le m := Snap.le.refl m
  refine fn_end Try.func39 rfl rfl rfl ?_
  refine c_seq (fun K0 hK0 => ?_)
  refine c_region ?_
  refine r_s rfl ?_
  refine s_box_a rfl rfl (fun b0 => ?_)
  refine r_s rfl ?_
  refine s_box_a rfl rfl (fun b1 => ?_)
  refine r_s rfl ?_
  refine s_alloc rfl tz29 (fun b2 => ?_)
  refine r_y rfl rfl (y_assign rfl) ?_
  refine r_nil ?_
  refine hK0 _ _ _ ?_
  clear hK0 K0
  refine c_seq (fun K1 hK1 => ?_)
  refine c_region ?_
  refine r_y rfl rfl (y_load_a (cs := encCube a) rfl ts29 (RdA.blk (i := 2) rfl rfl)) ?_
  refine r_s rfl ?_
  refine s_call0 rfl Try.call98 rfl (rText_w a _ _) ?_
  rintro _ m2 _ hm2 ⟨rfl, rfl⟩
  replace hm := hm.trans hm2
  clear hm2
  refine r_y rfl rfl (y_move rfl) ?_
  refine r_y rfl rfl (y_extract rfl rfl) ?_
  refine r_y rfl rfl (y_extract rfl rfl) ?_
  refine r_y rfl rfl (y_assign rfl) ?_
  refine r_y rfl rfl (y_assign rfl) ?_
  refine r_nil ?_
  refine hK1 _ _ _ ?_
  clear hK1 K1
  refine c_seq (fun K2 hK2 => ?_)
  refine c_region ?_
  refine r_y rfl rfl (y_load_a (cs := encCube b) rfl ts29 (RdA.blk (i := 1) rfl rfl)) ?_
  refine r_s rfl ?_
  refine s_call0 rfl Try.call98 rfl (rText_w b _ _) ?_
  rintro _ m2 _ hm2 ⟨rfl, rfl⟩
  replace hm := hm.trans hm2
  clear hm2
  refine r_y rfl rfl (y_move rfl) ?_
  refine r_y rfl rfl (y_extract rfl rfl) ?_
  refine r_y rfl rfl (y_extract rfl rfl) ?_
  refine r_y rfl rfl (y_assign rfl) ?_
  refine r_y rfl rfl (y_assign rfl) ?_
  refine r_nil ?_
  refine hK2 _ _ _ ?_
  clear hK2 K2
  refine c_seq (fun K3 hK3 => ?_)
  refine c_seq (fun K4 hK4 => ?_)
  refine c_region ?_
  refine r_y rfl rfl (y_move rfl) ?_
  refine r_y rfl rfl (y_not rfl) ?_
  refine r_y rfl rfl (y_move rfl) ?_
  refine r_split (j := 2) rfl (fun hA => ?_) (fun hA => ?_)
  ·
    refine r_no' rfl rfl hA ?_
    refine r_no' rfl rfl hA ?_
    refine r_y rfl rfl (y_pickt rfl hA rfl) ?_
    refine r_nil ?_
    refine hK4 _ _ _ ?_
    clear hK4 K4
    refine c_ift rfl rfl ?_
    refine c_seq (fun K5 hK5 => ?_)
    refine c_region ?_
    refine r_y rfl rfl (y_bld rfl tz29 fk29 bp29_ rfl rfl) ?_
    refine r_s rfl ?_
    refine s_store rfl rfl rfl ts29 rfl rfl (by simp [Value.oneCell', wv, Sl.v]) (i := 0) rfl rfl ?_
    refine r_y rfl rfl (y_assign rfl) ?_
    refine r_nil ?_
    refine hK5 _ _ _ ?_
    clear hK5 K5
    refine c_ret ?_
    refine e_ret 3 hm (res2 (r1_cell_a rfl ts29 (RdA.blk (i := 0) rfl rfl)) (r1_tmp rfl)) ?_
    have e : cubeMeetOk a b = false := by rw [meet_text]; first | (simp at hA; rw [hA]; rfl) | (simp at hA hB; rw [hA, hB]; rfl)
    rw [e]
    exact ⟨zCube, rfl, rfl⟩
  ·
    refine r_yg rfl hA rfl (y_move rfl) ?_
    refine r_yg rfl hA rfl (y_not rfl) ?_
    refine r_y rfl rfl (y_pickf rfl hA rfl) ?_
    refine r_nil ?_
    refine hK4 _ _ _ ?_
    clear hK4 K4
    refine c_cond rfl (fun hB => ?_) (fun hB => ?_)
    ·
      refine c_seq (fun K6 hK6 => ?_)
      refine c_region ?_
      refine r_y rfl rfl (y_bld rfl tz29 fk29 bp29_ rfl rfl) ?_
      refine r_s rfl ?_
      refine s_store rfl rfl rfl ts29 rfl rfl (by simp [Value.oneCell', wv, Sl.v]) (i := 0) rfl rfl ?_
      refine r_y rfl rfl (y_assign rfl) ?_
      refine r_nil ?_
      refine hK6 _ _ _ ?_
      clear hK6 K6
      refine c_ret ?_
      refine e_ret 3 hm (res2 (r1_cell_a rfl ts29 (RdA.blk (i := 0) rfl rfl)) (r1_tmp rfl)) ?_
      have e : cubeMeetOk a b = false := by rw [meet_text]; first | (simp at hA; rw [hA]; rfl) | (simp at hA hB; rw [hA, hB]; rfl)
      rw [e]
      exact ⟨zCube, rfl, rfl⟩
    ·
      have hab : (cubeSound a && cubeSound b) = true := by simp at hA hB; rw [hA, hB]; rfl
      refine c_skip ?_
      refine hK3 _ _ _ ?_
      clear hK3 K3
      refine c_seq (fun K7 hK7 => ?_)
      refine c_region ?_
      refine r_y rfl rfl (y_move rfl) ?_
      refine r_s rfl ?_
      refine s_strbytes rfl rfl Try.underlying9 Try.underlying22 Try.underlying5 (by rw [textN_tlen]; have := tlen_le; unfold maxLen; omega) (fun bs cap N hcap hmx hN => ?_)
      refine r_y rfl rfl (y_assign rfl) ?_
      refine r_nil ?_
      refine hK7 _ _ _ ?_
      clear hK7 K7
      refine c_seq (fun K8 hK8 => ?_)
      refine c_seq (fun K9 hK9 => ?_)
      refine c_region ?_
      refine r_y rfl rfl (y_assign rfl) ?_
      refine r_nil ?_
      refine hK9 _ _ _ ?_
      clear hK9 K9
      refine c_block ?_
      have htl := textN_len a 12
      refine c_loopx (α := Nat × List UInt8) (fun vv => match vv with | (i, l2) => [(4, .pointer (some ⟨b2, 0, none⟩)), (6, .string (strB (textN a 12))), (8, .string (strB (textN b 12))), (10, .slice (some ⟨bs, 0, none⟩) (textN a 12).length cap), (11, .int .i64 (i : Nat))]) (fun vv => match vv with | (i, l2) => sbIt bs l2 cap N :: .blk b2 (.cells (encCube zCube).toArray 29) :: .blk b1 (.cells (encCube b).toArray 29) :: .blk b0 (.cells (encCube a).toArray 29) :: H) (fun k0 vv m1 => match vv with | (i, l2) => (i + k0 = (textN a 12).length ∧ l2.length = (textN a 12).length ∧ zipAll meetF ((textN a 12).take i) ((textN b 12).take i) = true) ∧ m.le m1) ((textN a 12).length) (0, (textN a 12)) ⟨rfl, rfl, rfl, rfl, rfl, trivial⟩ rfl ⟨⟨by omega, rfl, rfl⟩, hm⟩ ?_
      clear hm
      rintro k0 ⟨i, l2⟩ m1 ⟨hi0, hm⟩
      obtain ⟨hi, hl2, hz0⟩ := hi0
      refine c_seq (fun K10 hK10 => ?_)
      refine c_seq (fun K11 hK11 => ?_)
      refine c_region ?_
      refine r_y rfl rfl (y_move rfl) ?_
      refine r_y rfl rfl (y_move rfl) ?_
      refine r_y rfl rfl (y_lenstr Try.underlying9 rfl) ?_
      refine r_y rfl rfl (y_iop rfl rfl rfl) ?_
      refine r_nil ?_
      refine hK11 _ _ _ ?_
      clear hK11 K11
      refine c_cond rfl (fun hL => ?_) (fun hL => ?_)
      ·
        have hlt : i < (textN a 12).length := by simp at hL; omega
        obtain ⟨x, hx⟩ := get_of_lt (l := (textN a 12)) (k := i) hlt
        obtain ⟨y, hy⟩ := get_of_lt (l := (textN b 12)) (k := i) (by rw [← textN_len2 a b]; exact hlt)
        have hst := zipAll_step (F := meetF) hx hy
        refine c_skip ?_
        refine hK10 _ _ _ ?_
        clear hK10 K10
        refine c_seq (fun K12 hK12 => ?_)
        refine c_block ?_
        refine c_seq (fun K13 hK13 => ?_)
        refine c_region ?_
        refine r_y rfl rfl (y_move rfl) ?_
        refine r_y rfl rfl (y_move rfl) ?_
        refine r_y rfl rfl (y_index_strB rfl rfl Try.underlying9 hx) ?_
        refine r_y rfl rfl (y_iop rfl rfl rfl) ?_
        refine r_nil ?_
        refine hK13 _ _ _ ?_
        clear hK13 K13
        refine c_cond rfl (fun hX => ?_) (fun hX => ?_)
        ·
          refine c_region ?_
          refine r_y rfl rfl (y_move rfl) ?_
          refine r_y rfl rfl (y_move rfl) ?_
          refine r_y rfl rfl (y_move rfl) ?_
          refine r_y rfl rfl (y_move rfl) ?_
          refine r_y rfl rfl (y_index_strB rfl rfl Try.underlying9 hy) ?_
          refine r_y rfl rfl (y_indexAddr_slice (k := i) rfl rfl tl22 hlt At.lit) ?_
          refine r_s rfl ?_
          refine s_storesb (k := i) rfl rfl ((Nat.zero_add _).trans (Nat.mul_one _)) rfl ts5 (i := 0) rfl (by omega) (by omega) ?_
          refine r_nil ?_
          refine hK12 _ _ _ ?_
          clear hK12 K12
          refine c_region ?_
          refine r_y rfl rfl (y_move rfl) ?_
          first | refine r_y rfl rfl (y_inc rfl (by omega)) ?_ | refine r_y rfl rfl (y_iop rfl rfl rfl) ?_
          refine r_y rfl rfl (y_assign rfl) ?_
          refine r_nil ?_
          exact ⟨k0 - 1, (i + 1, l2.set i y), by omega, ⟨rfl, rfl, rfl, rfl, rfl, trivial⟩, rfl, ⟨by omega, by first | exact hl2 | simpa using hl2, (by first | (rw [hst, hz0, meetF_i, hX]; rfl) | (rw [hst, hz0, meetF_i, hX, hY, hD]; rfl) | (rw [hst, hz0, meetF_i, hX, hY]; rfl))⟩, hm⟩
        ·
          refine c_seq (fun K14 hK14 => ?_)
          refine c_draw ([]) (by kernel_rfl) (fun hg => ?_)
          refine g_y (i := 0) (listed' := #[true, false, false, false, false, false, false, false, false, false, false, false, false]) rfl (by kernel_rfl) (by kernel_rfl) (by kernel_rfl) (by kernel_rfl) rfl rfl hg alln (fun m' H' hm' hX' => y_move rfl) ?_
          refine g_y (i := 1) (listed' := #[true, true, false, false, false, false, false, false, false, false, false, false, false]) rfl (by kernel_rfl) (by kernel_rfl) (by kernel_rfl) (by kernel_rfl) rfl rfl hg alln (fun m' H' hm' hX' => y_move rfl) ?_
          refine g_y (i := 2) (listed' := #[true, true, true, false, false, false, false, false, false, false, false, false, false]) rfl (by kernel_rfl) (by kernel_rfl) (by kernel_rfl) (by kernel_rfl) rfl rfl hg alln (fun m' H' hm' hX' => y_index_strB rfl rfl Try.underlying9 hy) ?_
          refine g_y (i := 3) (listed' := #[true, true, true, true, false, false, false, false, false, false, false, false, false]) rfl (by kernel_rfl) (by kernel_rfl) (by kernel_rfl) (by kernel_rfl) rfl rfl hg alln (fun m' H' hm' hX' => y_iop rfl rfl rfl) ?_
          refine g_y (i := 4) (listed' := #[true, true, true, true, true, false, false, false, false, false, false, false, false]) rfl (by kernel_rfl) (by kernel_rfl) (by kernel_rfl) (by kernel_rfl) rfl rfl hg alln (fun m' H' hm' hX' => y_move rfl) ?_
          refine g_split (j := 4) rfl (fun hY => ?_) (fun hY => ?_)
          ·
            refine g_yg (i := 5) (listed' := #[true, true, true, true, true, true, false, false, false, false, false, false, false]) rfl (by kernel_rfl) (by kernel_rfl) (by kernel_rfl) (by kernel_rfl) rfl rfl hY rfl hg alln (fun m' H' hm' hX' => y_move rfl) ?_
            refine g_yg (i := 6) (listed' := #[true, true, true, true, true, true, true, false, false, false, false, false, false]) rfl (by kernel_rfl) (by kernel_rfl) (by kernel_rfl) (by kernel_rfl) rfl rfl hY rfl hg alln (fun m' H' hm' hX' => y_move rfl) ?_
            refine g_yg (i := 7) (listed' := #[true, true, true, true, true, true, true, true, false, false, false, false, false]) rfl (by kernel_rfl) (by kernel_rfl) (by kernel_rfl) (by kernel_rfl) rfl rfl hY rfl hg alln (fun m' H' hm' hX' => y_index_strB rfl rfl Try.underlying9 hx) ?_
            refine g_yg (i := 8) (listed' := #[true, true, true, true, true, true, true, true, true, false, false, false, false]) rfl (by kernel_rfl) (by kernel_rfl) (by kernel_rfl) (by kernel_rfl) rfl rfl hY rfl hg alln (fun m' H' hm' hX' => y_move rfl) ?_
            refine g_yg (i := 9) (listed' := #[true, true, true, true, true, true, true, true, true, true, false, false, false]) rfl (by kernel_rfl) (by kernel_rfl) (by kernel_rfl) (by kernel_rfl) rfl rfl hY rfl hg alln (fun m' H' hm' hX' => y_move rfl) ?_
            refine g_yg (i := 10) (listed' := #[true, true, true, true, true, true, true, true, true, true, true, false, false]) rfl (by kernel_rfl) (by kernel_rfl) (by kernel_rfl) (by kernel_rfl) rfl rfl hY rfl hg alln (fun m' H' hm' hX' => y_index_strB rfl rfl Try.underlying9 hy) ?_
            refine g_yg (i := 11) (listed' := #[true, true, true, true, true, true, true, true, true, true, true, true, false]) rfl (by kernel_rfl) (by kernel_rfl) (by kernel_rfl) (by kernel_rfl) rfl rfl hY rfl hg alln (fun m' H' hm' hX' => y_iop rfl rfl rfl) ?_
            refine g_y (i := 12) (listed' := #[true, true, true, true, true, true, true, true, true, true, true, true, true]) rfl (by kernel_rfl) (by kernel_rfl) (by kernel_rfl) (by kernel_rfl) rfl rfl hg alln (fun m' H' hm' hX' => y_pickt rfl hY rfl) ?_
            refine g_done (by kernel_rfl) ?_
            clear hg
            refine hK14 _ _ _ ?_
            clear hK14 K14
            refine c_cond rfl (fun hD => ?_) (fun hD => ?_)
            ·
              refine c_seq (fun K15 hK15 => ?_)
              refine c_region ?_
              refine r_y rfl rfl (y_bld rfl tz29 fk29 bp29_ rfl rfl) ?_
              refine r_s rfl ?_
              refine s_store rfl rfl rfl ts29 rfl rfl (by simp [Value.oneCell', wv, Sl.v]) (i := 1) rfl rfl ?_
              refine r_y rfl rfl (y_assign rfl) ?_
              refine r_nil ?_
              refine hK15 _ _ _ ?_
              clear hK15 K15
              refine c_ret ?_
              refine e_ret 4 hm (res2 (r1_cell_a rfl ts29 (RdA.blk (i := 1) rfl rfl)) (r1_tmp rfl)) ?_
              have e : cubeMeetOk a b = false := by rw [meet_text, zipAll_false hx hy (by rw [meetF_i, hX, hY, hD]; rfl), Bool.and_false]
              rw [e]
              exact ⟨zCube, rfl, rfl⟩
            ·
              refine c_skip ?_
              refine hK12 _ _ _ ?_
              clear hK12 K12
              refine c_region ?_
              refine r_y rfl rfl (y_move rfl) ?_
              first | refine r_y rfl rfl (y_inc rfl (by omega)) ?_ | refine r_y rfl rfl (y_iop rfl rfl rfl) ?_
              refine r_y rfl rfl (y_assign rfl) ?_
              refine r_nil ?_
              exact ⟨k0 - 1, (i + 1, l2), by omega, ⟨rfl, rfl, rfl, rfl, rfl, trivial⟩, rfl, ⟨by omega, by first | exact hl2 | simpa using hl2, (by first | (rw [hst, hz0, meetF_i, hX]; rfl) | (rw [hst, hz0, meetF_i, hX, hY, hD]; rfl) | (rw [hst, hz0, meetF_i, hX, hY]; rfl))⟩, hm⟩
          ·
            refine g_no (i := 5) (listed' := #[true, true, true, true, true, true, false, false, false, false, false, false, false]) rfl (by kernel_rfl) (by kernel_rfl) (by kernel_rfl) (by kernel_rfl) rfl rfl hY rfl hg alln ?_
            refine g_no (i := 6) (listed' := #[true, true, true, true, true, true, true, false, false, false, false, false, false]) rfl (by kernel_rfl) (by kernel_rfl) (by kernel_rfl) (by kernel_rfl) rfl rfl hY rfl hg alln ?_
            refine g_no (i := 7) (listed' := #[true, true, true, true, true, true, true, true, false, false, false, false, false]) rfl (by kernel_rfl) (by kernel_rfl) (by kernel_rfl) (by kernel_rfl) rfl rfl hY rfl hg alln ?_
            refine g_no (i := 8) (listed' := #[true, true, true, true, true, true, true, true, true, false, false, false, false]) rfl (by kernel_rfl) (by kernel_rfl) (by kernel_rfl) (by kernel_rfl) rfl rfl hY rfl hg alln ?_
            refine g_no (i := 9) (listed' := #[true, true, true, true, true, true, true, true, true, true, false, false, false]) rfl (by kernel_rfl) (by kernel_rfl) (by kernel_rfl) (by kernel_rfl) rfl rfl hY rfl hg alln ?_
            refine g_no (i := 10) (listed' := #[true, true, true, true, true, true, true, true, true, true, true, false, false]) rfl (by kernel_rfl) (by kernel_rfl) (by kernel_rfl) (by kernel_rfl) rfl rfl hY rfl hg alln ?_
            refine g_no (i := 11) (listed' := #[true, true, true, true, true, true, true, true, true, true, true, true, false]) rfl (by kernel_rfl) (by kernel_rfl) (by kernel_rfl) (by kernel_rfl) rfl rfl hY rfl hg alln ?_
            refine g_y (i := 12) (listed' := #[true, true, true, true, true, true, true, true, true, true, true, true, true]) rfl (by kernel_rfl) (by kernel_rfl) (by kernel_rfl) (by kernel_rfl) rfl rfl hg alln (fun m' H' hm' hX' => y_pickf rfl hY rfl) ?_
            refine g_done (by kernel_rfl) ?_
            clear hg
            refine hK14 _ _ _ ?_
            clear hK14 K14
            refine c_iff rfl rfl ?_
            refine c_skip ?_
            refine hK12 _ _ _ ?_
            clear hK12 K12
            refine c_region ?_
            refine r_y rfl rfl (y_move rfl) ?_
            first | refine r_y rfl rfl (y_inc rfl (by omega)) ?_ | refine r_y rfl rfl (y_iop rfl rfl rfl) ?_
            refine r_y rfl rfl (y_assign rfl) ?_
            refine r_nil ?_
            exact ⟨k0 - 1, (i + 1, l2), by omega, ⟨rfl, rfl, rfl, rfl, rfl, trivial⟩, rfl, ⟨by omega, by first | exact hl2 | simpa using hl2, (by first | (rw [hst, hz0, meetF_i, hX]; rfl) | (rw [hst, hz0, meetF_i, hX, hY, hD]; rfl) | (rw [hst, hz0, meetF_i, hX, hY]; rfl))⟩, hm⟩
      ·
        refine c_exit ?_
        refine hK8 _ _ _ ?_
        clear hK10 K10 hK8 K8
        refine c_seq (fun K16 hK16 => ?_)
        refine c_region ?_
        refine r_y rfl rfl (y_move rfl) ?_
        refine r_freeze (i := 0) rfl (fun m3 hm3 hcb => ?_)
        replace hm := hm.trans hm3
        clear hm3
        have hfz : FzB m3 ⟨some ⟨bs, 0, none⟩, (textN a 12).length, cap⟩ l2 := by have h3 := fzb_of_sb hcb (by omega) hmx; rw [hl2] at h3; exact h3
        refine r_y rfl rfl (y_conv_str rfl hfz Try.underlying22 Try.underlying5 Try.underlying9) ?_
        refine r_s rfl ?_
        refine s_call0 rfl Try.call99 rfl (rFrom_w l2 _ _ (by rw [hl2, textN_tlen])) ?_
        rintro _ m2 _ hm2 ⟨c, rfl, rfl⟩
        replace hm := hm.trans hm2
        clear hm2
        refine r_s rfl ?_
        refine s_store (us := encCube c) rfl rfl rfl ts29 rfl rfl (one_cube _) (i := 0) rfl rfl ?_
        refine r_y rfl rfl (y_assign rfl) ?_
        refine r_nil ?_
        refine hK16 _ _ _ ?_
        clear hK16 K16
        refine c_ret ?_
        refine e_ret 3 hm (res2 (r1_cell_a rfl ts29 (RdA.blk (i := 0) rfl rfl)) (r1_tmp rfl)) ?_
        have e : cubeMeetOk a b = true := by
          have hil : i = (textN a 12).length := by simp at hL; omega
          rw [hil, List.take_of_length_le (Nat.le_refl _), List.take_of_length_le (by rw [textN_len2 b a]; exact Nat.le_refl _)] at hz0
          rw [meet_text, hz0, hab]; rfl
        rw [e]
        exact ⟨c, rfl, rfl⟩
set_option maxRecDepth 100000 in
theorem rOverlap_w (a b : RuleD) (s1 s2 : Sl) (m : Snap) (H : Hp) : Fn Try.prog 86 [.agg (encRule a s1).toArray, .agg (encRule b s2).toArray] m H (fun v _ H' => v = .bool (ruleOverlap a b) ∧ H' = H) := by
  have hm : m.le m := Snap.le.refl m
  refine fn_end Try.func86 rfl rfl rfl ?_
  refine c_seq (fun K0 hK0 => ?_)
  refine c_region ?_
  refine r_s rfl ?_
  refine s_box_a rfl rfl (fun b0 => ?_)
  refine r_s rfl ?_
  refine s_box_a rfl rfl (fun b1 => ?_)
  refine r_y rfl rfl (y_assign rfl) ?_
  refine r_nil ?_
  refine hK0 _ _ _ ?_
  clear hK0 K0
  refine c_seq (fun K1 hK1 => ?_)
  refine c_region ?_
  refine r_y rfl rfl (y_fieldAddr rfl At.lit fo50_0 rfl) ?_
  refine r_y rfl rfl (y_load_a (cs := encCube a.m) rfl ts29 (RdA.blk (i := 1) rfl rfl)) ?_
  refine r_y rfl rfl (y_fieldAddr rfl At.lit fo50_0 rfl) ?_
  refine r_y rfl rfl (y_load_a (cs := encCube b.m) rfl ts29 (RdA.blk (i := 0) rfl rfl)) ?_
  refine r_s rfl ?_
  refine s_call0 rfl Try.call39 rfl (rMeet_w a.m b.m _ _) ?_
  rintro _ m2 _ hm2 ⟨c, rfl, rfl⟩
  replace hm := hm.trans hm2
  clear hm2
  refine r_y rfl rfl (y_move rfl) ?_
  refine r_y rfl rfl (y_extract rfl rfl) ?_
  refine r_y rfl rfl (y_extract rfl rfl) ?_
  refine r_s rfl ?_
  refine s_alloc rfl tz29 (fun b2 => ?_)
  refine r_s rfl ?_
  refine s_store (us := encCube c) rfl rfl rfl ts29 rfl rfl (one_cube _) (i := 0) rfl rfl ?_
  refine r_y rfl rfl (y_assign rfl) ?_
  refine r_nil ?_
  refine hK1 _ _ _ ?_
  clear hK1 K1
  refine c_seq (fun K2 hK2 => ?_)
  refine c_region ?_
  refine r_y rfl rfl (y_fieldAddr rfl At.lit fo50_1 rfl) ?_
  refine r_y rfl rfl (y_load_s rfl ts3 (RdS.blk (i := 2) rfl rfl)) ?_
  refine r_y rfl rfl (y_fieldAddr rfl At.lit fo50_1 rfl) ?_
  refine r_y rfl rfl (y_load_s rfl ts3 (RdS.blk (i := 1) rfl rfl)) ?_
  refine r_y rfl rfl (y_iop rfl rfl rfl) ?_
  refine r_y rfl rfl (y_move rfl) ?_
  refine r_split (j := 5) rfl (fun h0 => ?_) (fun h0 => ?_)
  ·
    refine r_yg rfl h0 rfl (y_move rfl) ?_
    refine r_y rfl rfl (y_pickt rfl h0 rfl) ?_
    refine r_y rfl rfl (y_assign rfl) ?_
    refine r_nil ?_
    refine hK2 _ _ _ ?_
    clear hK2 K2
    refine c_ret ?_
    refine e_ret 3 hm (res_tmps rfl) ?_
    refine ⟨congrArg Value.bool ?_, rfl⟩
    unfold ruleOverlap
    first | (simp_all; done) | (rw [Bool.and_comm]; simp_all; done)
  ·
    refine r_no' rfl rfl h0 ?_
    refine r_y rfl rfl (y_pickf rfl h0 rfl) ?_
    refine r_y rfl rfl (y_assign rfl) ?_
    refine r_nil ?_
    refine hK2 _ _ _ ?_
    clear hK2 K2
    refine c_ret ?_
    refine e_ret 3 hm (res_tmps rfl) ?_
    refine ⟨congrArg Value.bool ?_, rfl⟩
    unfold ruleOverlap
    first | (simp_all; done) | (rw [Bool.and_comm]; simp_all; done)
end Go.Aw
