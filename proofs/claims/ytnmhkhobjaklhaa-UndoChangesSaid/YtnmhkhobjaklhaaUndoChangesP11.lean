/- Part 11 of the words and walks that the proof behind it uses. -/
import Derived.Test.YtnmhkhobjaklhaaUndoChangesP10
set_option linter.unusedVariables false
set_option linter.unusedSimpArgs false
set_option maxHeartbeats 1000000
namespace Go.Aw
open Go Go.Proofs
theorem zo3 : zeroOk Try.prog 3 = true := by kernel_rfl
theorem tb3 : tbytes Try.prog 3 = some 8 := by kernel_rfl
set_option maxRecDepth 100000 in
theorem rTouched_w (s1 : Sl) (l1 : List (RuleD × Sl)) (x : ModD) (sm : Sl) (m : Snap) (H : Hp) (hz : FzR m s1 l1) (hfit : l1.length ≤ 1000000) (hzx : FzA m sm x.acts) : Fn Try.prog 88 [s1.v, .agg (encMod x sm).toArray] m H (fun v m' H' => ∃ s : Sl, v = s.v ∧ FzN m' s (remT (pAt (touchQ x) (l1.map (·.1))) 0 l1.length) ∧ (s.a = none → s.cap = 0) ∧ H' = H) := by
  have hl := hz.len
  have hmx := hz.fz.max
  have hle0 := hz.fz.le
  unfold maxLen at hmx
  have hm : m.le m := Snap.le.refl m
  refine fn_end Try.func88 rfl rfl rfl ?_
  refine c_seq (fun K0 hK0 => ?_)
  refine c_region ?_
  refine r_s rfl ?_
  refine s_box_a rfl rfl (fun b0 => ?_)
  refine r_y rfl rfl (y_assign rfl) ?_
  refine r_nil ?_
  refine hK0 _ _ _ ?_
  clear hK0 K0
  refine c_seq (fun K1 hK1 => ?_)
  refine c_region ?_
  refine r_nilvec 3 1 ?_
  refine r_y rfl rfl (y_assign rfl) ?_
  refine r_nil ?_
  refine hK1 _ _ _ ?_
  clear hK1 K1
  refine c_seq (fun K2 hK2 => ?_)
  refine c_seq (fun K3 hK3 => ?_)
  refine c_region ?_
  refine r_y rfl rfl (y_assign rfl) ?_
  refine r_nil ?_
  refine hK3 _ _ _ ?_
  clear hK3 K3
  refine c_block ?_
  refine c_loopx (α := Nat × List Nat × Sl) (fun vv => match vv with | (i, lt, sv) => [(0, s1.v), (3, .pointer (some ⟨b0, 0, none⟩)), (5, sv.v), (6, .int .i64 (i : Nat))]) (fun vv => match vv with | (i, lt, sv) => .vec sv.a sv.n sv.cap 3 1 (rowsN lt) :: .blk b0 (.cells (encMod x sm).toArray 32) :: H) (fun k0 vv m1 => match vv with | (i, lt, sv) => (i + k0 = s1.n ∧ sv.n ≤ i ∧ (List.range i).filter (pAt (touchQ x) (l1.map (·.1))) = lt) ∧ m.le m1 ∧ (FzR m1 s1 l1) ∧ (FzA m1 sm x.acts)) (s1.n) (0, [], zSl) ⟨rfl, rfl, rfl, rfl, trivial⟩ rfl ⟨⟨by omega, Nat.le_refl _, rfl⟩, hm, hz, hzx⟩ ?_
  clear hm hz hzx
  rintro k0 ⟨i, lt, sv⟩ m1 ⟨hi0, hm, hz, hzx⟩
  obtain ⟨hi, hsn, hro⟩ := hi0
  refine c_seq (fun K4 hK4 => ?_)
  refine c_seq (fun K5 hK5 => ?_)
  refine c_region ?_
  refine r_y rfl rfl (y_move rfl) ?_
  refine r_y rfl rfl (y_move rfl) ?_
  refine r_y rfl rfl (y_len tl33 rfl) ?_
  refine r_y rfl rfl (y_iop rfl rfl rfl) ?_
  refine r_nil ?_
  refine hK5 _ _ _ ?_
  clear hK5 K5
  refine c_cond rfl (fun h0 => ?_) (fun h0 => ?_)
  ·
    have hlt : i < s1.n := by simp at h0; omega
    obtain ⟨r, hx⟩ := get_of_lt (l := l1) (k := i) (by omega)
    have hx1 : (l1.map (·.1))[i]? = some r.1 := map_get hx
    refine c_skip ?_
    refine hK4 _ _ _ ?_
    clear hK4 K4
    refine c_seq (fun K6 hK6 => ?_)
    refine c_block ?_
    refine c_seq (fun K7 hK7 => ?_)
    refine c_region ?_
    refine r_y rfl rfl (y_move rfl) ?_
    refine r_y rfl rfl (y_move rfl) ?_
    refine r_y rfl rfl (y_indexAddr_slice rfl rfl tl33 hlt (At.fz hz.fz hlt)) ?_
    refine r_y rfl rfl (y_load_a rfl ts50 (RdA.fz0 hz.fz (map_get hx))) ?_
    refine r_s rfl ?_
    refine s_alloc rfl tz50 (fun b1 => ?_)
    refine r_s rfl ?_
    refine s_store (us := encRule r.1 r.2) rfl rfl rfl ts50 rfl rfl (one_rule _ _) (i := 0) rfl rfl ?_
    refine r_nil ?_
    refine hK7 _ _ _ ?_
    clear hK7 K7
    refine c_seq (fun K8 hK8 => ?_)
    refine c_region ?_
    refine r_y rfl rfl (y_fieldAddr rfl At.lit fo50_5 rfl) ?_
    refine r_y rfl rfl (y_load_s rfl ts3 (RdS.blk (i := 0) rfl rfl)) ?_
    refine r_y rfl rfl (y_fieldAddr rfl At.lit fo32_6 rfl) ?_
    refine r_y rfl rfl (y_load_s rfl ts3 (RdS.blk (i := 2) rfl rfl)) ?_
    refine r_y rfl rfl (y_iop rfl rfl rfl) ?_
    refine r_y rfl rfl (y_assign rfl) ?_
    refine r_nil ?_
    refine hK8 _ _ _ ?_
    clear hK8 K8
    refine c_seq (fun K9 hK9 => ?_)
    refine c_seq (fun K10 hK10 => ?_)
    refine c_region ?_
    refine r_y rfl rfl (y_fieldAddr rfl At.lit fo32_0 rfl) ?_
    refine r_y rfl rfl (y_load_s rfl ts3 (RdS.blk (i := 2) rfl rfl)) ?_
    refine r_nil ?_
    refine hK10 _ _ _ ?_
    clear hK10 K10
    refine c_block ?_
    refine c_seq (fun K11 hK11 => ?_)
    refine c_seq (fun K12 hK12 => ?_)
    refine c_region ?_
    refine r_y rfl rfl (y_iop rfl rfl rfl) ?_
    refine r_y rfl rfl (y_assign rfl) ?_
    refine r_nil ?_
    refine hK12 _ _ _ ?_
    clear hK12 K12
    refine c_cond rfl (fun hkA => ?_) (fun hkA => ?_)
    ·
      refine c_skip ?_
      refine hK11 _ _ _ ?_
      clear hK11 K11
      refine c_ift rfl hkA ?_
      refine c_region ?_
      refine r_y rfl rfl (y_move rfl) ?_
      refine r_y rfl rfl (y_move rfl) ?_
      refine r_split (j := 1) rfl (fun hw => ?_) (fun hw => ?_)
      ·
        refine r_yg rfl hw rfl (y_fieldAddr rfl At.lit fo50_0 rfl) ?_
        refine r_yg rfl hw rfl (y_load_a (cs := encCube r.1.m) rfl ts29 (RdA.blk (i := 0) rfl rfl)) ?_
        refine r_yg rfl hw rfl (y_fieldAddr rfl At.lit fo32_1 rfl) ?_
        refine r_yg rfl hw rfl (y_load_a (cs := encCube x.m) rfl ts29 (RdA.blk (i := 2) rfl rfl)) ?_
        refine r_sg rfl hw ?_
        refine s_call0 rfl Try.call135 rfl (rWithin_w r.1.m x.m _ _) ?_
        rintro _ m2 _ hm2 ⟨rfl, rfl⟩
        replace hm := hm.trans hm2
        replace hz := hz.mono hm2
        replace hzx := hzx.mono hm2
        clear hm2
        refine r_y rfl rfl (y_pickt rfl hw rfl) ?_
        refine r_y rfl rfl (y_assign rfl) ?_
        refine r_nil ?_
        refine hK9 _ _ _ ?_
        clear hK9 K9
        refine c_seq (fun K13 hK13 => ?_)
        refine c_region ?_
        refine r_y rfl rfl (y_move rfl) ?_
        refine r_y rfl rfl (y_move rfl) ?_
        refine r_split (j := 1) rfl (fun hz9 => ?_) (fun hz9 => ?_)
        ·
          refine r_yg rfl hz9 rfl (y_load_a (cs := encMod x sm) rfl ts32 (RdA.blk (i := 2) rfl rfl)) ?_
          refine r_sg rfl hz9 ?_
          refine s_call0 rfl Try.call37 rfl (rMod_w x sm _ _ hzx) ?_
          rintro _ m2 _ hm2 ⟨rfl, rfl⟩
          replace hm := hm.trans hm2
          replace hz := hz.mono hm2
          replace hzx := hzx.mono hm2
          clear hm2
          refine r_y rfl rfl (y_pickt rfl hz9 rfl) ?_
          refine r_nil ?_
          refine hK13 _ _ _ ?_
          clear hK13 K13
          refine c_cond rfl (fun hT => ?_) (fun hT => ?_)
          ·
            refine c_region ?_
            refine r_y rfl rfl (y_move rfl) ?_
            refine r_y rfl rfl (y_move rfl) ?_
            refine r_s rfl ?_
            refine s_buildSlice (cs := [.int .i64 (i : Nat)]) (e := 3) rfl rfl (fun _ => by kernel_rfl) (fun b2 => ?_)
            refine r_s rfl ?_
            refine s_append rfl rfl rfl tl77 zo3 tb3 (i := 2) rfl (Src.one' (i := 0) rfl rfl (by simp [Value.oneCell'])) (by omega) (by unfold maxLen; omega) (fun a1 c1 => ?_)
            refine r_del 0 rfl ?_
            refine r_y rfl rfl (y_assign rfl) ?_
            refine r_nil ?_
            refine hK6 _ _ _ ?_
            clear hK6 K6
            refine c_region ?_
            refine r_del 0 rfl ?_
            have hq : touchQ x r.1 = true := by
              unfold touchQ modTouches ruleKey
              clear hro hi hsn hx hx1 hl hfit hlt h0 hz hzx
              simp_all [ceq_cube, show (modRule x).m = x.m from rfl, show (modRule x).prio = x.prio from rfl]
            refine r_y rfl rfl (y_move rfl) ?_
            first | refine r_y rfl rfl (y_inc rfl (by omega)) ?_ | refine r_y rfl rfl (y_iop rfl rfl rfl) ?_
            refine r_y rfl rfl (y_assign rfl) ?_
            refine r_nil ?_
            exact ⟨k0 - 1, (i + 1, lt ++ [i], ⟨a1, sv.n + 1, c1⟩), by omega, ⟨rfl, rfl, rfl, rfl, trivial⟩, (by first | rfl | (simp only [rowsN_snoc]; rfl)), ⟨by omega, by first | omega | (show sv.n + 1 ≤ i + 1; omega), (by rw [List.range_succ, List.filter_append, hro]; simp [pAt_some hx1, hq])⟩, hm, hz, hzx⟩
          ·
            refine c_skip ?_
            refine hK6 _ _ _ ?_
            clear hK6 K6
            refine c_region ?_
            refine r_del 0 rfl ?_
            have hq : touchQ x r.1 = false := by
              unfold touchQ modTouches ruleKey
              clear hro hi hsn hx hx1 hl hfit hlt h0 hz hzx
              simp_all [ceq_cube, show (modRule x).m = x.m from rfl, show (modRule x).prio = x.prio from rfl]
            refine r_y rfl rfl (y_move rfl) ?_
            first | refine r_y rfl rfl (y_inc rfl (by omega)) ?_ | refine r_y rfl rfl (y_iop rfl rfl rfl) ?_
            refine r_y rfl rfl (y_assign rfl) ?_
            refine r_nil ?_
            exact ⟨k0 - 1, (i + 1, lt, sv), by omega, ⟨rfl, rfl, rfl, rfl, trivial⟩, (by first | rfl | (simp only [rowsN_snoc]; rfl)), ⟨by omega, by first | omega | (show sv.n + 1 ≤ i + 1; omega), (by rw [List.range_succ, List.filter_append, hro]; simp [pAt_some hx1, hq])⟩, hm, hz, hzx⟩
        ·
          refine r_no' rfl rfl hz9 ?_
          refine r_no' rfl rfl hz9 ?_
          refine r_y rfl rfl (y_pickf rfl hz9 rfl) ?_
          refine r_nil ?_
          refine hK13 _ _ _ ?_
          clear hK13 K13
          refine c_iff rfl rfl ?_
          refine c_skip ?_
          refine hK6 _ _ _ ?_
          clear hK6 K6
          refine c_region ?_
          refine r_del 0 rfl ?_
          have hq : touchQ x r.1 = false := by
            unfold touchQ modTouches ruleKey
            clear hro hi hsn hx hx1 hl hfit hlt h0 hz hzx
            simp_all [ceq_cube, show (modRule x).m = x.m from rfl, show (modRule x).prio = x.prio from rfl]
          refine r_y rfl rfl (y_move rfl) ?_
          first | refine r_y rfl rfl (y_inc rfl (by omega)) ?_ | refine r_y rfl rfl (y_iop rfl rfl rfl) ?_
          refine r_y rfl rfl (y_assign rfl) ?_
          refine r_nil ?_
          exact ⟨k0 - 1, (i + 1, lt, sv), by omega, ⟨rfl, rfl, rfl, rfl, trivial⟩, (by first | rfl | (simp only [rowsN_snoc]; rfl)), ⟨by omega, by first | omega | (show sv.n + 1 ≤ i + 1; omega), (by rw [List.range_succ, List.filter_append, hro]; simp [pAt_some hx1, hq])⟩, hm, hz, hzx⟩
      ·
        refine r_no' rfl rfl hw ?_
        refine r_no' rfl rfl hw ?_
        refine r_no' rfl rfl hw ?_
        refine r_no' rfl rfl hw ?_
        refine r_no' rfl rfl hw ?_
        refine r_y rfl rfl (y_pickf rfl hw rfl) ?_
        refine r_y rfl rfl (y_assign rfl) ?_
        refine r_nil ?_
        refine hK9 _ _ _ ?_
        clear hK9 K9
        refine c_seq (fun K14 hK14 => ?_)
        refine c_region ?_
        refine r_y rfl rfl (y_move rfl) ?_
        refine r_y rfl rfl (y_move rfl) ?_
        refine r_no' rfl rfl rfl ?_
        refine r_no' rfl rfl rfl ?_
        refine r_y rfl rfl (y_pickf rfl rfl rfl) ?_
        refine r_nil ?_
        refine hK14 _ _ _ ?_
        clear hK14 K14
        refine c_iff rfl rfl ?_
        refine c_skip ?_
        refine hK6 _ _ _ ?_
        clear hK6 K6
        refine c_region ?_
        refine r_del 0 rfl ?_
        have hq : touchQ x r.1 = false := by
          unfold touchQ modTouches ruleKey
          clear hro hi hsn hx hx1 hl hfit hlt h0 hz hzx
          simp_all [ceq_cube, show (modRule x).m = x.m from rfl, show (modRule x).prio = x.prio from rfl]
        refine r_y rfl rfl (y_move rfl) ?_
        first | refine r_y rfl rfl (y_inc rfl (by omega)) ?_ | refine r_y rfl rfl (y_iop rfl rfl rfl) ?_
        refine r_y rfl rfl (y_assign rfl) ?_
        refine r_nil ?_
        exact ⟨k0 - 1, (i + 1, lt, sv), by omega, ⟨rfl, rfl, rfl, rfl, trivial⟩, (by first | rfl | (simp only [rowsN_snoc]; rfl)), ⟨by omega, by first | omega | (show sv.n + 1 ≤ i + 1; omega), (by rw [List.range_succ, List.filter_append, hro]; simp [pAt_some hx1, hq])⟩, hm, hz, hzx⟩
    ·
      refine c_region ?_
      refine r_y rfl rfl (y_iop rfl rfl rfl) ?_
      refine r_y rfl rfl (y_assign rfl) ?_
      refine r_nil ?_
      refine hK11 _ _ _ ?_
      clear hK11 K11
      refine c_cond rfl (fun hkB => ?_) (fun hkB => ?_)
      ·
        refine c_region ?_
        refine r_y rfl rfl (y_move rfl) ?_
        refine r_y rfl rfl (y_move rfl) ?_
        refine r_split (j := 1) rfl (fun hw => ?_) (fun hw => ?_)
        ·
          refine r_yg rfl hw rfl (y_fieldAddr rfl At.lit fo50_0 rfl) ?_
          refine r_yg rfl hw rfl (y_load_a (cs := encCube r.1.m) rfl ts29 (RdA.blk (i := 0) rfl rfl)) ?_
          refine r_yg rfl hw rfl (y_fieldAddr rfl At.lit fo32_1 rfl) ?_
          refine r_yg rfl hw rfl (y_load_a (cs := encCube x.m) rfl ts29 (RdA.blk (i := 2) rfl rfl)) ?_
          refine r_sg rfl hw ?_
          refine s_call0 rfl Try.call135 rfl (rWithin_w r.1.m x.m _ _) ?_
          rintro _ m2 _ hm2 ⟨rfl, rfl⟩
          replace hm := hm.trans hm2
          replace hz := hz.mono hm2
          replace hzx := hzx.mono hm2
          clear hm2
          refine r_y rfl rfl (y_pickt rfl hw rfl) ?_
          refine r_y rfl rfl (y_assign rfl) ?_
          refine r_nil ?_
          refine hK9 _ _ _ ?_
          clear hK9 K9
          refine c_seq (fun K15 hK15 => ?_)
          refine c_region ?_
          refine r_y rfl rfl (y_move rfl) ?_
          refine r_y rfl rfl (y_move rfl) ?_
          refine r_split (j := 1) rfl (fun hz9 => ?_) (fun hz9 => ?_)
          ·
            refine r_yg rfl hz9 rfl (y_load_a (cs := encMod x sm) rfl ts32 (RdA.blk (i := 2) rfl rfl)) ?_
            refine r_sg rfl hz9 ?_
            refine s_call0 rfl Try.call37 rfl (rMod_w x sm _ _ hzx) ?_
            rintro _ m2 _ hm2 ⟨rfl, rfl⟩
            replace hm := hm.trans hm2
            replace hz := hz.mono hm2
            replace hzx := hzx.mono hm2
            clear hm2
            refine r_y rfl rfl (y_pickt rfl hz9 rfl) ?_
            refine r_nil ?_
            refine hK15 _ _ _ ?_
            clear hK15 K15
            refine c_cond rfl (fun hT => ?_) (fun hT => ?_)
            ·
              refine c_region ?_
              refine r_y rfl rfl (y_move rfl) ?_
              refine r_y rfl rfl (y_move rfl) ?_
              refine r_s rfl ?_
              refine s_buildSlice (cs := [.int .i64 (i : Nat)]) (e := 3) rfl rfl (fun _ => by kernel_rfl) (fun b2 => ?_)
              refine r_s rfl ?_
              refine s_append rfl rfl rfl tl77 zo3 tb3 (i := 2) rfl (Src.one' (i := 0) rfl rfl (by simp [Value.oneCell'])) (by omega) (by unfold maxLen; omega) (fun a1 c1 => ?_)
              refine r_del 0 rfl ?_
              refine r_y rfl rfl (y_assign rfl) ?_
              refine r_nil ?_
              refine hK6 _ _ _ ?_
              clear hK6 K6
              refine c_region ?_
              refine r_del 0 rfl ?_
              have hq : touchQ x r.1 = true := by
                unfold touchQ modTouches ruleKey
                clear hro hi hsn hx hx1 hl hfit hlt h0 hz hzx
                simp_all [ceq_cube, show (modRule x).m = x.m from rfl, show (modRule x).prio = x.prio from rfl]
              refine r_y rfl rfl (y_move rfl) ?_
              first | refine r_y rfl rfl (y_inc rfl (by omega)) ?_ | refine r_y rfl rfl (y_iop rfl rfl rfl) ?_
              refine r_y rfl rfl (y_assign rfl) ?_
              refine r_nil ?_
              exact ⟨k0 - 1, (i + 1, lt ++ [i], ⟨a1, sv.n + 1, c1⟩), by omega, ⟨rfl, rfl, rfl, rfl, trivial⟩, (by first | rfl | (simp only [rowsN_snoc]; rfl)), ⟨by omega, by first | omega | (show sv.n + 1 ≤ i + 1; omega), (by rw [List.range_succ, List.filter_append, hro]; simp [pAt_some hx1, hq])⟩, hm, hz, hzx⟩
            ·
              refine c_skip ?_
              refine hK6 _ _ _ ?_
              clear hK6 K6
              refine c_region ?_
              refine r_del 0 rfl ?_
              have hq : touchQ x r.1 = false := by
                unfold touchQ modTouches ruleKey
                clear hro hi hsn hx hx1 hl hfit hlt h0 hz hzx
                simp_all [ceq_cube, show (modRule x).m = x.m from rfl, show (modRule x).prio = x.prio from rfl]
              refine r_y rfl rfl (y_move rfl) ?_
              first | refine r_y rfl rfl (y_inc rfl (by omega)) ?_ | refine r_y rfl rfl (y_iop rfl rfl rfl) ?_
              refine r_y rfl rfl (y_assign rfl) ?_
              refine r_nil ?_
              exact ⟨k0 - 1, (i + 1, lt, sv), by omega, ⟨rfl, rfl, rfl, rfl, trivial⟩, (by first | rfl | (simp only [rowsN_snoc]; rfl)), ⟨by omega, by first | omega | (show sv.n + 1 ≤ i + 1; omega), (by rw [List.range_succ, List.filter_append, hro]; simp [pAt_some hx1, hq])⟩, hm, hz, hzx⟩
          ·
            refine r_no' rfl rfl hz9 ?_
            refine r_no' rfl rfl hz9 ?_
            refine r_y rfl rfl (y_pickf rfl hz9 rfl) ?_
            refine r_nil ?_
            refine hK15 _ _ _ ?_
            clear hK15 K15
            refine c_iff rfl rfl ?_
            refine c_skip ?_
            refine hK6 _ _ _ ?_
            clear hK6 K6
            refine c_region ?_
            refine r_del 0 rfl ?_
            have hq : touchQ x r.1 = false := by
              unfold touchQ modTouches ruleKey
              clear hro hi hsn hx hx1 hl hfit hlt h0 hz hzx
              simp_all [ceq_cube, show (modRule x).m = x.m from rfl, show (modRule x).prio = x.prio from rfl]
            refine r_y rfl rfl (y_move rfl) ?_
            first | refine r_y rfl rfl (y_inc rfl (by omega)) ?_ | refine r_y rfl rfl (y_iop rfl rfl rfl) ?_
            refine r_y rfl rfl (y_assign rfl) ?_
            refine r_nil ?_
            exact ⟨k0 - 1, (i + 1, lt, sv), by omega, ⟨rfl, rfl, rfl, rfl, trivial⟩, (by first | rfl | (simp only [rowsN_snoc]; rfl)), ⟨by omega, by first | omega | (show sv.n + 1 ≤ i + 1; omega), (by rw [List.range_succ, List.filter_append, hro]; simp [pAt_some hx1, hq])⟩, hm, hz, hzx⟩
        ·
          refine r_no' rfl rfl hw ?_
          refine r_no' rfl rfl hw ?_
          refine r_no' rfl rfl hw ?_
          refine r_no' rfl rfl hw ?_
          refine r_no' rfl rfl hw ?_
          refine r_y rfl rfl (y_pickf rfl hw rfl) ?_
          refine r_y rfl rfl (y_assign rfl) ?_
          refine r_nil ?_
          refine hK9 _ _ _ ?_
          clear hK9 K9
          refine c_seq (fun K16 hK16 => ?_)
          refine c_region ?_
          refine r_y rfl rfl (y_move rfl) ?_
          refine r_y rfl rfl (y_move rfl) ?_
          refine r_no' rfl rfl rfl ?_
          refine r_no' rfl rfl rfl ?_
          refine r_y rfl rfl (y_pickf rfl rfl rfl) ?_
          refine r_nil ?_
          refine hK16 _ _ _ ?_
          clear hK16 K16
          refine c_iff rfl rfl ?_
          refine c_skip ?_
          refine hK6 _ _ _ ?_
          clear hK6 K6
          refine c_region ?_
          refine r_del 0 rfl ?_
          have hq : touchQ x r.1 = false := by
            unfold touchQ modTouches ruleKey
            clear hro hi hsn hx hx1 hl hfit hlt h0 hz hzx
            simp_all [ceq_cube, show (modRule x).m = x.m from rfl, show (modRule x).prio = x.prio from rfl]
          refine r_y rfl rfl (y_move rfl) ?_
          first | refine r_y rfl rfl (y_inc rfl (by omega)) ?_ | refine r_y rfl rfl (y_iop rfl rfl rfl) ?_
          refine r_y rfl rfl (y_assign rfl) ?_
          refine r_nil ?_
          exact ⟨k0 - 1, (i + 1, lt, sv), by omega, ⟨rfl, rfl, rfl, rfl, trivial⟩, (by first | rfl | (simp only [rowsN_snoc]; rfl)), ⟨by omega, by first | omega | (show sv.n + 1 ≤ i + 1; omega), (by rw [List.range_succ, List.filter_append, hro]; simp [pAt_some hx1, hq])⟩, hm, hz, hzx⟩
      ·
        refine c_seq (fun K17 hK17 => ?_)
        refine c_seq (fun K18 hK18 => ?_)
        refine c_region ?_
        refine r_y rfl rfl (y_iop rfl rfl rfl) ?_
        refine r_y rfl rfl (y_assign rfl) ?_
        refine r_nil ?_
        refine hK18 _ _ _ ?_
        clear hK18 K18
        refine c_cond rfl (fun hkC => ?_) (fun hkC => ?_)
        ·
          refine c_skip ?_
          refine hK17 _ _ _ ?_
          clear hK17 K17
          refine c_ift rfl hkC ?_
          refine c_region ?_
          refine r_y rfl rfl (y_move rfl) ?_
          refine r_y rfl rfl (y_move rfl) ?_
          refine r_split (j := 1) rfl (fun hy => ?_) (fun hy => ?_)
          ·
            refine r_yg rfl hy rfl (y_fieldAddr rfl At.lit fo50_0 rfl) ?_
            refine r_yg rfl hy rfl (y_load_a (cs := encCube r.1.m) rfl ts29 (RdA.blk (i := 0) rfl rfl)) ?_
            refine r_yg rfl hy rfl (y_fieldAddr rfl At.lit fo32_1 rfl) ?_
            refine r_yg rfl hy rfl (y_load_a (cs := encCube x.m) rfl ts29 (RdA.blk (i := 2) rfl rfl)) ?_
            refine r_yg rfl hy rfl (y_eqagg (dd := 6)  rfl rfl en29 ia29 rfl Try.eqGuardType29 rfl (alike_cube _ _)) ?_
            refine r_y rfl rfl (y_pickt rfl hy rfl) ?_
            refine r_y rfl rfl (y_move rfl) ?_
            refine r_split (j := 8) rfl (fun hy2 => ?_) (fun hy2 => ?_)
            ·
              refine r_yg rfl hy2 rfl (y_fieldAddr rfl At.lit fo50_1 rfl) ?_
              refine r_yg rfl hy2 rfl (y_load_s rfl ts3 (RdS.blk (i := 0) rfl rfl)) ?_
              refine r_yg rfl hy2 rfl (y_fieldAddr rfl At.lit fo32_2 rfl) ?_
              refine r_yg rfl hy2 rfl (y_load_s rfl ts3 (RdS.blk (i := 2) rfl rfl)) ?_
              refine r_yg rfl hy2 rfl (y_iop rfl rfl rfl) ?_
              refine r_y rfl rfl (y_pickt rfl hy2 rfl) ?_
              refine r_y rfl rfl (y_assign rfl) ?_
              refine r_nil ?_
              refine hK9 _ _ _ ?_
              clear hK9 K9
              refine c_seq (fun K19 hK19 => ?_)
              refine c_region ?_
              refine r_y rfl rfl (y_move rfl) ?_
              refine r_y rfl rfl (y_move rfl) ?_
              refine r_split (j := 1) rfl (fun hz9 => ?_) (fun hz9 => ?_)
              ·
                refine r_yg rfl hz9 rfl (y_load_a (cs := encMod x sm) rfl ts32 (RdA.blk (i := 2) rfl rfl)) ?_
                refine r_sg rfl hz9 ?_
                refine s_call0 rfl Try.call37 rfl (rMod_w x sm _ _ hzx) ?_
                rintro _ m2 _ hm2 ⟨rfl, rfl⟩
                replace hm := hm.trans hm2
                replace hz := hz.mono hm2
                replace hzx := hzx.mono hm2
                clear hm2
                refine r_y rfl rfl (y_pickt rfl hz9 rfl) ?_
                refine r_nil ?_
                refine hK19 _ _ _ ?_
                clear hK19 K19
                refine c_cond rfl (fun hT => ?_) (fun hT => ?_)
                ·
                  refine c_region ?_
                  refine r_y rfl rfl (y_move rfl) ?_
                  refine r_y rfl rfl (y_move rfl) ?_
                  refine r_s rfl ?_
                  refine s_buildSlice (cs := [.int .i64 (i : Nat)]) (e := 3) rfl rfl (fun _ => by kernel_rfl) (fun b2 => ?_)
                  refine r_s rfl ?_
                  refine s_append rfl rfl rfl tl77 zo3 tb3 (i := 2) rfl (Src.one' (i := 0) rfl rfl (by simp [Value.oneCell'])) (by omega) (by unfold maxLen; omega) (fun a1 c1 => ?_)
                  refine r_del 0 rfl ?_
                  refine r_y rfl rfl (y_assign rfl) ?_
                  refine r_nil ?_
                  refine hK6 _ _ _ ?_
                  clear hK6 K6
                  refine c_region ?_
                  refine r_del 0 rfl ?_
                  have hq : touchQ x r.1 = true := by
                    unfold touchQ modTouches ruleKey
                    clear hro hi hsn hx hx1 hl hfit hlt h0 hz hzx
                    simp_all [ceq_cube, show (modRule x).m = x.m from rfl, show (modRule x).prio = x.prio from rfl]
                  refine r_y rfl rfl (y_move rfl) ?_
                  first | refine r_y rfl rfl (y_inc rfl (by omega)) ?_ | refine r_y rfl rfl (y_iop rfl rfl rfl) ?_
                  refine r_y rfl rfl (y_assign rfl) ?_
                  refine r_nil ?_
                  exact ⟨k0 - 1, (i + 1, lt ++ [i], ⟨a1, sv.n + 1, c1⟩), by omega, ⟨rfl, rfl, rfl, rfl, trivial⟩, (by first | rfl | (simp only [rowsN_snoc]; rfl)), ⟨by omega, by first | omega | (show sv.n + 1 ≤ i + 1; omega), (by rw [List.range_succ, List.filter_append, hro]; simp [pAt_some hx1, hq])⟩, hm, hz, hzx⟩
                ·
                  refine c_skip ?_
                  refine hK6 _ _ _ ?_
                  clear hK6 K6
                  refine c_region ?_
                  refine r_del 0 rfl ?_
                  have hq : touchQ x r.1 = false := by
                    unfold touchQ modTouches ruleKey
                    clear hro hi hsn hx hx1 hl hfit hlt h0 hz hzx
                    simp_all [ceq_cube, show (modRule x).m = x.m from rfl, show (modRule x).prio = x.prio from rfl]
                  refine r_y rfl rfl (y_move rfl) ?_
                  first | refine r_y rfl rfl (y_inc rfl (by omega)) ?_ | refine r_y rfl rfl (y_iop rfl rfl rfl) ?_
                  refine r_y rfl rfl (y_assign rfl) ?_
                  refine r_nil ?_
                  exact ⟨k0 - 1, (i + 1, lt, sv), by omega, ⟨rfl, rfl, rfl, rfl, trivial⟩, (by first | rfl | (simp only [rowsN_snoc]; rfl)), ⟨by omega, by first | omega | (show sv.n + 1 ≤ i + 1; omega), (by rw [List.range_succ, List.filter_append, hro]; simp [pAt_some hx1, hq])⟩, hm, hz, hzx⟩
              ·
                refine r_no' rfl rfl hz9 ?_
                refine r_no' rfl rfl hz9 ?_
                refine r_y rfl rfl (y_pickf rfl hz9 rfl) ?_
                refine r_nil ?_
                refine hK19 _ _ _ ?_
                clear hK19 K19
                refine c_iff rfl rfl ?_
                refine c_skip ?_
                refine hK6 _ _ _ ?_
                clear hK6 K6
                refine c_region ?_
                refine r_del 0 rfl ?_
                have hq : touchQ x r.1 = false := by
                  unfold touchQ modTouches ruleKey
                  clear hro hi hsn hx hx1 hl hfit hlt h0 hz hzx
                  simp_all [ceq_cube, show (modRule x).m = x.m from rfl, show (modRule x).prio = x.prio from rfl]
                refine r_y rfl rfl (y_move rfl) ?_
                first | refine r_y rfl rfl (y_inc rfl (by omega)) ?_ | refine r_y rfl rfl (y_iop rfl rfl rfl) ?_
                refine r_y rfl rfl (y_assign rfl) ?_
                refine r_nil ?_
                exact ⟨k0 - 1, (i + 1, lt, sv), by omega, ⟨rfl, rfl, rfl, rfl, trivial⟩, (by first | rfl | (simp only [rowsN_snoc]; rfl)), ⟨by omega, by first | omega | (show sv.n + 1 ≤ i + 1; omega), (by rw [List.range_succ, List.filter_append, hro]; simp [pAt_some hx1, hq])⟩, hm, hz, hzx⟩
            ·
              refine r_no' rfl rfl hy2 ?_
              refine r_no' rfl rfl hy2 ?_
              refine r_no' rfl rfl hy2 ?_
              refine r_no' rfl rfl hy2 ?_
              refine r_no' rfl rfl hy2 ?_
              refine r_y rfl rfl (y_pickf rfl hy2 rfl) ?_
              refine r_y rfl rfl (y_assign rfl) ?_
              refine r_nil ?_
              refine hK9 _ _ _ ?_
              clear hK9 K9
              refine c_seq (fun K20 hK20 => ?_)
              refine c_region ?_
              refine r_y rfl rfl (y_move rfl) ?_
              refine r_y rfl rfl (y_move rfl) ?_
              refine r_no' rfl rfl rfl ?_
              refine r_no' rfl rfl rfl ?_
              refine r_y rfl rfl (y_pickf rfl rfl rfl) ?_
              refine r_nil ?_
              refine hK20 _ _ _ ?_
              clear hK20 K20
              refine c_iff rfl rfl ?_
              refine c_skip ?_
              refine hK6 _ _ _ ?_
              clear hK6 K6
              refine c_region ?_
              refine r_del 0 rfl ?_
              have hq : touchQ x r.1 = false := by
                unfold touchQ modTouches ruleKey
                clear hro hi hsn hx hx1 hl hfit hlt h0 hz hzx
                simp_all [ceq_cube, show (modRule x).m = x.m from rfl, show (modRule x).prio = x.prio from rfl]
              refine r_y rfl rfl (y_move rfl) ?_
              first | refine r_y rfl rfl (y_inc rfl (by omega)) ?_ | refine r_y rfl rfl (y_iop rfl rfl rfl) ?_
              refine r_y rfl rfl (y_assign rfl) ?_
              refine r_nil ?_
              exact ⟨k0 - 1, (i + 1, lt, sv), by omega, ⟨rfl, rfl, rfl, rfl, trivial⟩, (by first | rfl | (simp only [rowsN_snoc]; rfl)), ⟨by omega, by first | omega | (show sv.n + 1 ≤ i + 1; omega), (by rw [List.range_succ, List.filter_append, hro]; simp [pAt_some hx1, hq])⟩, hm, hz, hzx⟩
          ·
            refine r_no' rfl rfl hy ?_
            refine r_no' rfl rfl hy ?_
            refine r_no' rfl rfl hy ?_
            refine r_no' rfl rfl hy ?_
            refine r_no' rfl rfl hy ?_
            refine r_y rfl rfl (y_pickf rfl hy rfl) ?_
            refine r_y rfl rfl (y_move rfl) ?_
            refine r_no' rfl rfl rfl ?_
            refine r_no' rfl rfl rfl ?_
            refine r_no' rfl rfl rfl ?_
            refine r_no' rfl rfl rfl ?_
            refine r_no' rfl rfl rfl ?_
            refine r_y rfl rfl (y_pickf rfl rfl rfl) ?_
            refine r_y rfl rfl (y_assign rfl) ?_
            refine r_nil ?_
            refine hK9 _ _ _ ?_
            clear hK9 K9
            refine c_seq (fun K21 hK21 => ?_)
            refine c_region ?_
            refine r_y rfl rfl (y_move rfl) ?_
            refine r_y rfl rfl (y_move rfl) ?_
            refine r_no' rfl rfl rfl ?_
            refine r_no' rfl rfl rfl ?_
            refine r_y rfl rfl (y_pickf rfl rfl rfl) ?_
            refine r_nil ?_
            refine hK21 _ _ _ ?_
            clear hK21 K21
            refine c_iff rfl rfl ?_
            refine c_skip ?_
            refine hK6 _ _ _ ?_
            clear hK6 K6
            refine c_region ?_
            refine r_del 0 rfl ?_
            have hq : touchQ x r.1 = false := by
              unfold touchQ modTouches ruleKey
              clear hro hi hsn hx hx1 hl hfit hlt h0 hz hzx
              simp_all [ceq_cube, show (modRule x).m = x.m from rfl, show (modRule x).prio = x.prio from rfl]
            refine r_y rfl rfl (y_move rfl) ?_
            first | refine r_y rfl rfl (y_inc rfl (by omega)) ?_ | refine r_y rfl rfl (y_iop rfl rfl rfl) ?_
            refine r_y rfl rfl (y_assign rfl) ?_
            refine r_nil ?_
            exact ⟨k0 - 1, (i + 1, lt, sv), by omega, ⟨rfl, rfl, rfl, rfl, trivial⟩, (by first | rfl | (simp only [rowsN_snoc]; rfl)), ⟨by omega, by first | omega | (show sv.n + 1 ≤ i + 1; omega), (by rw [List.range_succ, List.filter_append, hro]; simp [pAt_some hx1, hq])⟩, hm, hz, hzx⟩
        ·
          refine c_region ?_
          refine r_y rfl rfl (y_iop rfl rfl rfl) ?_
          refine r_y rfl rfl (y_assign rfl) ?_
          refine r_nil ?_
          refine hK17 _ _ _ ?_
          clear hK17 K17
          refine c_cond rfl (fun hkD => ?_) (fun hkD => ?_)
          ·
            refine c_region ?_
            refine r_y rfl rfl (y_move rfl) ?_
            refine r_y rfl rfl (y_move rfl) ?_
            refine r_split (j := 1) rfl (fun hy => ?_) (fun hy => ?_)
            ·
              refine r_yg rfl hy rfl (y_fieldAddr rfl At.lit fo50_0 rfl) ?_
              refine r_yg rfl hy rfl (y_load_a (cs := encCube r.1.m) rfl ts29 (RdA.blk (i := 0) rfl rfl)) ?_
              refine r_yg rfl hy rfl (y_fieldAddr rfl At.lit fo32_1 rfl) ?_
              refine r_yg rfl hy rfl (y_load_a (cs := encCube x.m) rfl ts29 (RdA.blk (i := 2) rfl rfl)) ?_
              refine r_yg rfl hy rfl (y_eqagg (dd := 6)  rfl rfl en29 ia29 rfl Try.eqGuardType29 rfl (alike_cube _ _)) ?_
              refine r_y rfl rfl (y_pickt rfl hy rfl) ?_
              refine r_y rfl rfl (y_move rfl) ?_
              refine r_split (j := 8) rfl (fun hy2 => ?_) (fun hy2 => ?_)
              ·
                refine r_yg rfl hy2 rfl (y_fieldAddr rfl At.lit fo50_1 rfl) ?_
                refine r_yg rfl hy2 rfl (y_load_s rfl ts3 (RdS.blk (i := 0) rfl rfl)) ?_
                refine r_yg rfl hy2 rfl (y_fieldAddr rfl At.lit fo32_2 rfl) ?_
                refine r_yg rfl hy2 rfl (y_load_s rfl ts3 (RdS.blk (i := 2) rfl rfl)) ?_
                refine r_yg rfl hy2 rfl (y_iop rfl rfl rfl) ?_
                refine r_y rfl rfl (y_pickt rfl hy2 rfl) ?_
                refine r_y rfl rfl (y_assign rfl) ?_
                refine r_nil ?_
                refine hK9 _ _ _ ?_
                clear hK9 K9
                refine c_seq (fun K22 hK22 => ?_)
                refine c_region ?_
                refine r_y rfl rfl (y_move rfl) ?_
                refine r_y rfl rfl (y_move rfl) ?_
                refine r_split (j := 1) rfl (fun hz9 => ?_) (fun hz9 => ?_)
                ·
                  refine r_yg rfl hz9 rfl (y_load_a (cs := encMod x sm) rfl ts32 (RdA.blk (i := 2) rfl rfl)) ?_
                  refine r_sg rfl hz9 ?_
                  refine s_call0 rfl Try.call37 rfl (rMod_w x sm _ _ hzx) ?_
                  rintro _ m2 _ hm2 ⟨rfl, rfl⟩
                  replace hm := hm.trans hm2
                  replace hz := hz.mono hm2
                  replace hzx := hzx.mono hm2
                  clear hm2
                  refine r_y rfl rfl (y_pickt rfl hz9 rfl) ?_
                  refine r_nil ?_
                  refine hK22 _ _ _ ?_
                  clear hK22 K22
                  refine c_cond rfl (fun hT => ?_) (fun hT => ?_)
                  ·
                    refine c_region ?_
                    refine r_y rfl rfl (y_move rfl) ?_
                    refine r_y rfl rfl (y_move rfl) ?_
                    refine r_s rfl ?_
                    refine s_buildSlice (cs := [.int .i64 (i : Nat)]) (e := 3) rfl rfl (fun _ => by kernel_rfl) (fun b2 => ?_)
                    refine r_s rfl ?_
                    refine s_append rfl rfl rfl tl77 zo3 tb3 (i := 2) rfl (Src.one' (i := 0) rfl rfl (by simp [Value.oneCell'])) (by omega) (by unfold maxLen; omega) (fun a1 c1 => ?_)
                    refine r_del 0 rfl ?_
                    refine r_y rfl rfl (y_assign rfl) ?_
                    refine r_nil ?_
                    refine hK6 _ _ _ ?_
                    clear hK6 K6
                    refine c_region ?_
                    refine r_del 0 rfl ?_
                    have hq : touchQ x r.1 = true := by
                      unfold touchQ modTouches ruleKey
                      clear hro hi hsn hx hx1 hl hfit hlt h0 hz hzx
                      simp_all [ceq_cube, show (modRule x).m = x.m from rfl, show (modRule x).prio = x.prio from rfl]
                    refine r_y rfl rfl (y_move rfl) ?_
                    first | refine r_y rfl rfl (y_inc rfl (by omega)) ?_ | refine r_y rfl rfl (y_iop rfl rfl rfl) ?_
                    refine r_y rfl rfl (y_assign rfl) ?_
                    refine r_nil ?_
                    exact ⟨k0 - 1, (i + 1, lt ++ [i], ⟨a1, sv.n + 1, c1⟩), by omega, ⟨rfl, rfl, rfl, rfl, trivial⟩, (by first | rfl | (simp only [rowsN_snoc]; rfl)), ⟨by omega, by first | omega | (show sv.n + 1 ≤ i + 1; omega), (by rw [List.range_succ, List.filter_append, hro]; simp [pAt_some hx1, hq])⟩, hm, hz, hzx⟩
                  ·
                    refine c_skip ?_
                    refine hK6 _ _ _ ?_
                    clear hK6 K6
                    refine c_region ?_
                    refine r_del 0 rfl ?_
                    have hq : touchQ x r.1 = false := by
                      unfold touchQ modTouches ruleKey
                      clear hro hi hsn hx hx1 hl hfit hlt h0 hz hzx
                      simp_all [ceq_cube, show (modRule x).m = x.m from rfl, show (modRule x).prio = x.prio from rfl]
                    refine r_y rfl rfl (y_move rfl) ?_
                    first | refine r_y rfl rfl (y_inc rfl (by omega)) ?_ | refine r_y rfl rfl (y_iop rfl rfl rfl) ?_
                    refine r_y rfl rfl (y_assign rfl) ?_
                    refine r_nil ?_
                    exact ⟨k0 - 1, (i + 1, lt, sv), by omega, ⟨rfl, rfl, rfl, rfl, trivial⟩, (by first | rfl | (simp only [rowsN_snoc]; rfl)), ⟨by omega, by first | omega | (show sv.n + 1 ≤ i + 1; omega), (by rw [List.range_succ, List.filter_append, hro]; simp [pAt_some hx1, hq])⟩, hm, hz, hzx⟩
                ·
                  refine r_no' rfl rfl hz9 ?_
                  refine r_no' rfl rfl hz9 ?_
                  refine r_y rfl rfl (y_pickf rfl hz9 rfl) ?_
                  refine r_nil ?_
                  refine hK22 _ _ _ ?_
                  clear hK22 K22
                  refine c_iff rfl rfl ?_
                  refine c_skip ?_
                  refine hK6 _ _ _ ?_
                  clear hK6 K6
                  refine c_region ?_
                  refine r_del 0 rfl ?_
                  have hq : touchQ x r.1 = false := by
                    unfold touchQ modTouches ruleKey
                    clear hro hi hsn hx hx1 hl hfit hlt h0 hz hzx
                    simp_all [ceq_cube, show (modRule x).m = x.m from rfl, show (modRule x).prio = x.prio from rfl]
                  refine r_y rfl rfl (y_move rfl) ?_
                  first | refine r_y rfl rfl (y_inc rfl (by omega)) ?_ | refine r_y rfl rfl (y_iop rfl rfl rfl) ?_
                  refine r_y rfl rfl (y_assign rfl) ?_
                  refine r_nil ?_
                  exact ⟨k0 - 1, (i + 1, lt, sv), by omega, ⟨rfl, rfl, rfl, rfl, trivial⟩, (by first | rfl | (simp only [rowsN_snoc]; rfl)), ⟨by omega, by first | omega | (show sv.n + 1 ≤ i + 1; omega), (by rw [List.range_succ, List.filter_append, hro]; simp [pAt_some hx1, hq])⟩, hm, hz, hzx⟩
              ·
                refine r_no' rfl rfl hy2 ?_
                refine r_no' rfl rfl hy2 ?_
                refine r_no' rfl rfl hy2 ?_
                refine r_no' rfl rfl hy2 ?_
                refine r_no' rfl rfl hy2 ?_
                refine r_y rfl rfl (y_pickf rfl hy2 rfl) ?_
                refine r_y rfl rfl (y_assign rfl) ?_
                refine r_nil ?_
                refine hK9 _ _ _ ?_
                clear hK9 K9
                refine c_seq (fun K23 hK23 => ?_)
                refine c_region ?_
                refine r_y rfl rfl (y_move rfl) ?_
                refine r_y rfl rfl (y_move rfl) ?_
                refine r_no' rfl rfl rfl ?_
                refine r_no' rfl rfl rfl ?_
                refine r_y rfl rfl (y_pickf rfl rfl rfl) ?_
                refine r_nil ?_
                refine hK23 _ _ _ ?_
                clear hK23 K23
                refine c_iff rfl rfl ?_
                refine c_skip ?_
                refine hK6 _ _ _ ?_
                clear hK6 K6
                refine c_region ?_
                refine r_del 0 rfl ?_
                have hq : touchQ x r.1 = false := by
                  unfold touchQ modTouches ruleKey
                  clear hro hi hsn hx hx1 hl hfit hlt h0 hz hzx
                  simp_all [ceq_cube, show (modRule x).m = x.m from rfl, show (modRule x).prio = x.prio from rfl]
                refine r_y rfl rfl (y_move rfl) ?_
                first | refine r_y rfl rfl (y_inc rfl (by omega)) ?_ | refine r_y rfl rfl (y_iop rfl rfl rfl) ?_
                refine r_y rfl rfl (y_assign rfl) ?_
                refine r_nil ?_
                exact ⟨k0 - 1, (i + 1, lt, sv), by omega, ⟨rfl, rfl, rfl, rfl, trivial⟩, (by first | rfl | (simp only [rowsN_snoc]; rfl)), ⟨by omega, by first | omega | (show sv.n + 1 ≤ i + 1; omega), (by rw [List.range_succ, List.filter_append, hro]; simp [pAt_some hx1, hq])⟩, hm, hz, hzx⟩
            ·
              refine r_no' rfl rfl hy ?_
              refine r_no' rfl rfl hy ?_
              refine r_no' rfl rfl hy ?_
              refine r_no' rfl rfl hy ?_
              refine r_no' rfl rfl hy ?_
              refine r_y rfl rfl (y_pickf rfl hy rfl) ?_
              refine r_y rfl rfl (y_move rfl) ?_
              refine r_no' rfl rfl rfl ?_
              refine r_no' rfl rfl rfl ?_
              refine r_no' rfl rfl rfl ?_
              refine r_no' rfl rfl rfl ?_
              refine r_no' rfl rfl rfl ?_
              refine r_y rfl rfl (y_pickf rfl rfl rfl) ?_
              refine r_y rfl rfl (y_assign rfl) ?_
              refine r_nil ?_
              refine hK9 _ _ _ ?_
              clear hK9 K9
              refine c_seq (fun K24 hK24 => ?_)
              refine c_region ?_
              refine r_y rfl rfl (y_move rfl) ?_
              refine r_y rfl rfl (y_move rfl) ?_
              refine r_no' rfl rfl rfl ?_
              refine r_no' rfl rfl rfl ?_
              refine r_y rfl rfl (y_pickf rfl rfl rfl) ?_
              refine r_nil ?_
              refine hK24 _ _ _ ?_
              clear hK24 K24
              refine c_iff rfl rfl ?_
              refine c_skip ?_
              refine hK6 _ _ _ ?_
              clear hK6 K6
              refine c_region ?_
              refine r_del 0 rfl ?_
              have hq : touchQ x r.1 = false := by
                unfold touchQ modTouches ruleKey
                clear hro hi hsn hx hx1 hl hfit hlt h0 hz hzx
                simp_all [ceq_cube, show (modRule x).m = x.m from rfl, show (modRule x).prio = x.prio from rfl]
              refine r_y rfl rfl (y_move rfl) ?_
              first | refine r_y rfl rfl (y_inc rfl (by omega)) ?_ | refine r_y rfl rfl (y_iop rfl rfl rfl) ?_
              refine r_y rfl rfl (y_assign rfl) ?_
              refine r_nil ?_
              exact ⟨k0 - 1, (i + 1, lt, sv), by omega, ⟨rfl, rfl, rfl, rfl, trivial⟩, (by first | rfl | (simp only [rowsN_snoc]; rfl)), ⟨by omega, by first | omega | (show sv.n + 1 ≤ i + 1; omega), (by rw [List.range_succ, List.filter_append, hro]; simp [pAt_some hx1, hq])⟩, hm, hz, hzx⟩
          ·
            refine c_region ?_
            refine r_y rfl rfl (y_assign rfl) ?_
            refine r_nil ?_
            refine hK9 _ _ _ ?_
            clear hK9 K9
            refine c_seq (fun K25 hK25 => ?_)
            refine c_region ?_
            refine r_y rfl rfl (y_move rfl) ?_
            refine r_y rfl rfl (y_move rfl) ?_
            refine r_no' rfl rfl rfl ?_
            refine r_no' rfl rfl rfl ?_
            refine r_y rfl rfl (y_pickf rfl rfl rfl) ?_
            refine r_nil ?_
            refine hK25 _ _ _ ?_
            clear hK25 K25
            refine c_iff rfl rfl ?_
            refine c_skip ?_
            refine hK6 _ _ _ ?_
            clear hK6 K6
            refine c_region ?_
            refine r_del 0 rfl ?_
            have hq : touchQ x r.1 = false := by
              unfold touchQ modTouches ruleKey
              clear hro hi hsn hx hx1 hl hfit hlt h0 hz hzx
              simp_all [ceq_cube, show (modRule x).m = x.m from rfl, show (modRule x).prio = x.prio from rfl]
            refine r_y rfl rfl (y_move rfl) ?_
            first | refine r_y rfl rfl (y_inc rfl (by omega)) ?_ | refine r_y rfl rfl (y_iop rfl rfl rfl) ?_
            refine r_y rfl rfl (y_assign rfl) ?_
            refine r_nil ?_
            exact ⟨k0 - 1, (i + 1, lt, sv), by omega, ⟨rfl, rfl, rfl, rfl, trivial⟩, (by first | rfl | (simp only [rowsN_snoc]; rfl)), ⟨by omega, by first | omega | (show sv.n + 1 ≤ i + 1; omega), (by rw [List.range_succ, List.filter_append, hro]; simp [pAt_some hx1, hq])⟩, hm, hz, hzx⟩
  ·
    refine c_exit ?_
    refine hK2 _ _ _ ?_
    clear hK4 K4 hK2 K2
    refine c_seq (fun K26 hK26 => ?_)
    refine c_region ?_
    refine r_freezeVec (i := 0) rfl rfl (fun m3 hm3 hzv hnv => ?_)
    replace hm := hm.trans hm3
    replace hz := hz.mono hm3
    replace hzx := hzx.mono hm3
    clear hm3
    refine r_y rfl rfl (y_move rfl) ?_
    refine r_y rfl rfl (y_assign rfl) ?_
    refine r_nil ?_
    refine hK26 _ _ _ ?_
    clear hK26 K26
    refine c_ret ?_
    refine e_ret 1 hm (res_tmps rfl) ?_
    have hin : i = l1.length := by simp at h0; omega
    rw [← range_remT, ← hin, hro]
    exact ⟨sv, rfl, hzv, hnv, rfl⟩
end Go.Aw
