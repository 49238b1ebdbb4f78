/- Part 13 of the words and walks that the proof behind it uses. -/
import Derived.Test.YtnmhkhobjaklhaaUndoChangesP12
set_option linter.unusedVariables false
set_option linter.unusedSimpArgs false
set_option maxHeartbeats 1000000
namespace Go.Aw
open Go Go.Proofs
theorem bp32_0 : bplaces Try.prog 32 [0] = some [(0, 1)] := by kernel_rfl
theorem tl66 : tslice Try.prog 66 = some (32, 31) := by kernel_rfl
theorem zo69 : zeroOk Try.prog 69 = true := by kernel_rfl
theorem tb69 : tbytes Try.prog 69 = some 48 := by kernel_rfl
theorem tl67 : tslice Try.prog 67 = some (69, 2) := by kernel_rfl
set_option maxRecDepth 100000 in
theorem answers8_w (m : Snap) (H : Hp) : Fn Try.prog 41 [] m H (fun v _ H' => v = .bool true ∧ H' = H) := by
  have hm : m.le m := Snap.le.refl m
  refine fn_end Try.func41 rfl rfl rfl ?_
  refine c_seq (fun K0 hK0 => ?_)
  refine c_region ?_
  refine r_y rfl rfl (y_assign rfl) ?_
  refine r_nil ?_
  refine hK0 _ _ _ ?_
  clear hK0 K0
  refine c_seq (fun K1 hK1 => ?_)
  refine c_region ?_
  refine r_y rfl rfl (y_bld rfl tz32 fk32 bp32_0 rfl rfl) ?_
  refine r_s rfl ?_
  refine s_call0 rfl Try.call42 rfl (inverse_w zSl [] ansM8 zSl 5 _ _ (fzR_nil _) (fun p hp => by cases hp) (by decide) (fzA_nil _) (fun _ => rfl) (by decide)) ?_
  rintro _ m2 _ hm2 ⟨s9, l9, sg, lg, sc, lc, rfl, hz9, hzg, hzc, hl9, hok0, hne0, hn9, hng, hnc, rfl⟩
  replace hm := hm.trans hm2
  clear hm2
  refine r_y rfl rfl (y_move rfl) ?_
  refine r_y rfl rfl (y_extract rfl rfl) ?_
  refine r_y rfl rfl (y_extract rfl rfl) ?_
  refine r_y rfl rfl (y_extract rfl rfl) ?_
  refine r_s rfl ?_
  refine s_alloc rfl tz69 (fun b0 => ?_)
  refine r_y rfl rfl (y_assign rfl) ?_
  refine r_s rfl ?_
  refine s_store (us := encPatch sg sc) rfl rfl rfl ts69 rfl rfl (one_patch _ _) (i := 0) rfl rfl ?_
  refine r_y rfl rfl (y_assign rfl) ?_
  refine r_nil ?_
  refine hK1 _ _ _ ?_
  clear hK1 K1
  refine c_seq (fun K2 hK2 => ?_)
  refine c_region ?_
  have e0 : applyR (([] : List (RuleD × Sl)).map (·.1)) ansM8 5 = ([modRule ansM8], 0) := ans8_1
  have hc1 : (applyR (([] : List (RuleD × Sl)).map (·.1)) ansM8 5).2 = 0 := by rw [e0]
  have e1 : l9.map (·.1) = [modRule ansM8] := by rw [hl9, e0]
  have e2 : lg.map (·.1) = alone [] [modRule ansM8] := by have := (hok0 hc1).1; rw [e0] at this; exact this
  have e3 : lc.map (·.1) = [modRule ansM8] := by have := (hok0 hc1).2; rw [e0] at this; exact this
  have hn1 : s9.n = 1 := by have h3 := hz9.len; have h4 := congrArg List.length e1; simp at h4; omega
  have hn2 : sc.n = 1 := by have h3 := hzc.len; have h4 := congrArg List.length e3; simp at h4; omega
  have hll : l9.length = 1 := by have h4 := congrArg List.length e1; simpa using h4
  have hlg : lg.length = 0 := by have h4 := congrArg List.length e2; simpa [alone] using h4
  have hlc : lc.length = 1 := by have h4 := congrArg List.length e3; simpa using h4
  refine r_y rfl rfl (y_move rfl) ?_
  refine r_y rfl rfl (y_load_a (cs := encPatch sg sc) rfl ts69 (RdA.blk (i := 0) rfl rfl)) ?_
  refine r_s rfl ?_
  refine s_call0 rfl Try.call43 rfl (back_w s9 l9 sc lc sg lg _ _ hz9 hzc hzg hng (by rw [← List.forall_mem_map (f := fun (p : RuleD × Sl) => p.1) (P := fun (r : RuleD) => r.acts.length ≤ 4398046511103), e1]; decide) (by rw [← List.forall_mem_map (f := fun (p : RuleD × Sl) => p.1) (P := fun (r : RuleD) => r.acts.length ≤ 4398046511103), e3]; decide) (by omega) (by omega) (by omega) (by rw [e1, e3, e2, ← ans8_3, ← ans8_3]; exact congrArg Prod.snd ans8_2)) ?_
  rintro _ m2 _ hm2 ⟨s7, l7, rfl, hz7, hl7, hn7, rfl⟩
  replace hm := hm.trans hm2
  replace hz9 := hz9.mono hm2
  replace hzg := hzg.mono hm2
  replace hzc := hzc.mono hm2
  clear hm2
  refine r_y rfl rfl (y_move rfl) ?_
  refine r_y rfl rfl (y_extract rfl rfl) ?_
  refine r_y rfl rfl (y_extract rfl rfl) ?_
  refine r_y rfl rfl (y_assign rfl) ?_
  refine r_y rfl rfl (y_assign rfl) ?_
  refine r_nil ?_
  refine hK2 _ _ _ ?_
  clear hK2 K2
  refine c_seq (fun K3 hK3 => ?_)
  refine c_region ?_
  have hn3 : s7.n = 0 := by have h3 := hz7.len; have h4 := congrArg List.length hl7; rw [e1, e3, e2] at h4; have h5 : (swapR [modRule ansM8] [modRule ansM8] (alone [] [modRule ansM8])).1 = [] := congrArg Prod.fst ans8_2; rw [h5] at h4; simp at h4; rw [h3, h4]; rfl
  refine r_y rfl rfl (y_move rfl) ?_
  refine r_y rfl rfl (y_iop rfl rfl rfl) ?_
  refine r_y rfl rfl (y_move rfl) ?_
  refine r_yg rfl (by rw [hc1]; rfl) rfl (y_move rfl) ?_
  refine r_yg rfl (by rw [hc1]; rfl) rfl (y_iop rfl rfl rfl) ?_
  refine r_y rfl rfl (y_pickt rfl (by rw [hc1]; rfl) rfl) ?_
  refine r_y rfl rfl (y_move rfl) ?_
  refine r_yg rfl rfl rfl (y_move rfl) ?_
  refine r_yg rfl rfl rfl (y_len tl33 rfl) ?_
  refine r_yg rfl rfl rfl (y_iop rfl rfl rfl) ?_
  refine r_y rfl rfl (y_pickt rfl rfl rfl) ?_
  refine r_y rfl rfl (y_move rfl) ?_
  refine r_yg rfl (by rw [hn1]; rfl) rfl (y_fieldAddr rfl At.lit fo69_1 rfl) ?_
  refine r_yg rfl (by rw [hn1]; rfl) rfl (y_load_s rfl ts33 (RdS.blk (i := 0) rfl rfl)) ?_
  refine r_yg rfl (by rw [hn1]; rfl) rfl (y_len tl33 rfl) ?_
  refine r_yg rfl (by rw [hn1]; rfl) rfl (y_iop rfl rfl rfl) ?_
  refine r_y rfl rfl (y_pickt rfl (by rw [hn1]; rfl) rfl) ?_
  refine r_y rfl rfl (y_move rfl) ?_
  refine r_yg rfl (by rw [hn2]; rfl) rfl (y_move rfl) ?_
  refine r_yg rfl (by rw [hn2]; rfl) rfl (y_len tl33 rfl) ?_
  refine r_yg rfl (by rw [hn2]; rfl) rfl (y_iop rfl rfl rfl) ?_
  refine r_y rfl rfl (y_pickt rfl (by rw [hn2]; rfl) rfl) ?_
  refine r_y rfl rfl (y_assign rfl) ?_
  refine r_nil ?_
  refine hK3 _ _ _ ?_
  clear hK3 K3
  refine c_ret ?_
  refine e_ret 1 hm (res_tmps rfl) ?_
  exact ⟨congrArg Value.bool (by rw [hn3]; rfl), rfl⟩
set_option maxRecDepth 100000 in
theorem undoChanges_w (s1 : Sl) (l1 : List (RuleD × Sl)) (s2 : Sl) (ms : List (ModD × Sl)) (room : Int) (m : Snap) (H : Hp) (hz : FzR m s1 l1) (hok1 : s1.ok) (hfa : ∀ p ∈ l1, p.1.acts.length ≤ 4398046511103) (hzm : FzM m s2 ms) (hfm : ∀ p ∈ ms, p.1.acts.length ≤ 4398046511103) : Fn Try.prog 12 [s1.v, s2.v, .int .i64 room] m H (fun v _ H' => v = .bool true ∧ H' = H) := by
  have hl := hz.len
  have hlm := hzm.len
  have hm : m.le m := Snap.le.refl m
  refine fn_end Try.func12 rfl rfl rfl ?_
  refine c_seq (fun K0 hK0 => ?_)
  refine c_region ?_
  refine r_y rfl rfl (y_assign rfl) ?_
  refine r_nil ?_
  refine hK0 _ _ _ ?_
  clear hK0 K0
  refine c_seq (fun K1 hK1 => ?_)
  refine c_seq (fun K2 hK2 => ?_)
  refine c_region ?_
  refine r_y rfl rfl (y_move rfl) ?_
  refine r_y rfl rfl (y_len tl33 rfl) ?_
  refine r_y rfl rfl (y_iop rfl rfl rfl) ?_
  refine r_y rfl rfl (y_move rfl) ?_
  refine r_split (j := 3) rfl (fun hS => ?_) (fun hS => ?_)
  ·
    refine r_no' rfl rfl hS ?_
    refine r_no' rfl rfl hS ?_
    refine r_no' rfl rfl hS ?_
    refine r_y rfl rfl (y_pickt rfl hS rfl) ?_
    refine r_nil ?_
    refine hK2 _ _ _ ?_
    clear hK2 K2
    refine c_ift rfl rfl ?_
    refine c_seq (fun K3 hK3 => ?_)
    refine c_region ?_
    refine r_s rfl ?_
    refine s_call0 rfl Try.call41 rfl (answers8_w _ _) ?_
    rintro _ m2 _ hm2 ⟨rfl, rfl⟩
    replace hm := hm.trans hm2
    replace hz := hz.mono hm2
    replace hzm := hzm.mono hm2
    clear hm2
    refine r_y rfl rfl (y_assign rfl) ?_
    refine r_nil ?_
    refine hK3 _ _ _ ?_
    clear hK3 K3
    refine c_ret ?_
    refine e_ret 0 hm (res_tmps rfl) ?_
    first | exact ⟨rfl, rfl⟩ | exact ⟨congrArg Value.bool (decide_eq_true hfin), rfl⟩
  ·
    refine r_yg rfl hS rfl (y_move rfl) ?_
    refine r_yg rfl hS rfl (y_len tl66 rfl) ?_
    refine r_yg rfl hS rfl (y_iop rfl rfl rfl) ?_
    refine r_y rfl rfl (y_pickf rfl hS rfl) ?_
    refine r_nil ?_
    refine hK2 _ _ _ ?_
    clear hK2 K2
    refine c_cond rfl (fun hS2 => ?_) (fun hS2 => ?_)
    ·
      refine c_seq (fun K4 hK4 => ?_)
      refine c_region ?_
      refine r_s rfl ?_
      refine s_call0 rfl Try.call41 rfl (answers8_w _ _) ?_
      rintro _ m2 _ hm2 ⟨rfl, rfl⟩
      replace hm := hm.trans hm2
      replace hz := hz.mono hm2
      replace hzm := hzm.mono hm2
      clear hm2
      refine r_y rfl rfl (y_assign rfl) ?_
      refine r_nil ?_
      refine hK4 _ _ _ ?_
      clear hK4 K4
      refine c_ret ?_
      refine e_ret 0 hm (res_tmps rfl) ?_
      first | exact ⟨rfl, rfl⟩ | exact ⟨congrArg Value.bool (decide_eq_true hfin), rfl⟩
    ·
      refine c_skip ?_
      refine hK1 _ _ _ ?_
      clear hK1 K1
      refine c_seq (fun K5 hK5 => ?_)
      refine c_region ?_
      refine r_nilvec 69 2 ?_
      have hl40 : s1.n ≤ 40 ∧ s2.n ≤ 12 := by simp at hS hS2; omega
      refine r_y rfl rfl (y_assign rfl) ?_
      refine r_nil ?_
      refine hK5 _ _ _ ?_
      clear hK5 K5
      refine c_seq (fun K6 hK6 => ?_)
      refine c_region ?_
      refine r_y rfl rfl (y_move rfl) ?_
      refine r_y rfl rfl (y_assign rfl) ?_
      refine r_nil ?_
      refine hK6 _ _ _ ?_
      clear hK6 K6
      refine c_seq (fun K7 hK7 => ?_)
      refine c_seq (fun K8 hK8 => ?_)
      refine c_region ?_
      refine r_y rfl rfl (y_assign rfl) ?_
      refine r_nil ?_
      refine hK8 _ _ _ ?_
      clear hK8 K8
      refine c_block ?_
      have hall : AllP m [] := fun c hc => (by cases hc)
      replace hall := hall.mono hm
      have hzt := hz
      refine c_loopx (α := Nat × List (RuleD × Sl) × Sl × List ChD × Sl) (fun vv => match vv with | (i, lt, st, chs, sv) => [(0, s1.v), (1, s2.v), (2, .int .i64 room), (7, sv.v), (8, st.v), (9, .int .i64 (i : Nat))]) (fun vv => match vv with | (i, lt, st, chs, sv) => .vec sv.a sv.n sv.cap 69 2 (chs.map ChD.enc) :: H) (fun k0 vv m1 => match vv with | (i, lt, st, chs, sv) => (i + k0 = s2.n ∧ sv.n = chs.length ∧ sv.n ≤ i ∧ lt.length ≤ 40 + i ∧ (∀ p ∈ lt, p.1.acts.length ≤ 4398046511103) ∧ st.ok ∧ Chain (l1.map (·.1)) (chs.map ChD.lists) (lt.map (·.1))) ∧ m.le m1 ∧ (FzR m1 s1 l1) ∧ (FzM m1 s2 ms) ∧ (FzR m1 st lt) ∧ (AllP m1 chs)) (s2.n) (0, l1, s1, [], zSl) ⟨rfl, rfl, rfl, rfl, rfl, rfl, trivial⟩ rfl ⟨⟨by omega, rfl, Nat.le_refl _, by omega, hfa, hok1, .nil⟩, hm, hz, hzm, hzt, hall⟩ ?_
      clear hm hz hzm hzt hall
      rintro k0 ⟨i, lt, st, chs, sv⟩ m1 ⟨hi0, hm, hz, hzm, hzt, hall⟩
      obtain ⟨hi, hsv, hsi, hll, hfat, hokt, hch⟩ := hi0
      refine c_seq (fun K9 hK9 => ?_)
      refine c_seq (fun K10 hK10 => ?_)
      refine c_region ?_
      refine r_y rfl rfl (y_move rfl) ?_
      refine r_y rfl rfl (y_move rfl) ?_
      refine r_y rfl rfl (y_len tl66 rfl) ?_
      refine r_y rfl rfl (y_iop rfl rfl rfl) ?_
      refine r_nil ?_
      refine hK10 _ _ _ ?_
      clear hK10 K10
      refine c_cond rfl (fun h0 => ?_) (fun h0 => ?_)
      ·
        have hlt : i < s2.n := by simp at h0; omega
        obtain ⟨x, hx⟩ := get_of_lt (l := ms) (k := i) (by omega)
        refine c_skip ?_
        refine hK9 _ _ _ ?_
        clear hK9 K9
        refine c_seq (fun K11 hK11 => ?_)
        refine c_block ?_
        refine c_seq (fun K12 hK12 => ?_)
        refine c_seq (fun K13 hK13 => ?_)
        refine c_region ?_
        refine r_y rfl rfl (y_move rfl) ?_
        refine r_y rfl rfl (y_move rfl) ?_
        refine r_y rfl rfl (y_indexAddr_slice rfl rfl tl66 hlt (At.fz hzm.fz hlt)) ?_
        refine r_y rfl rfl (y_fieldAddr rfl ((At.fz hzm.fz hlt).eadd) fo32_3 (eadd_eadd _ _ _)) ?_
        refine r_y rfl rfl (y_load_s rfl ts30 (RdS.fz hzm.fz (map_get hx) rfl)) ?_
        refine r_y rfl rfl (y_len tl30 rfl) ?_
        refine r_y rfl rfl (y_iop rfl rfl rfl) ?_
        refine r_nil ?_
        refine hK13 _ _ _ ?_
        clear hK13 K13
        refine c_cond rfl (fun hA20 => ?_) (fun hA20 => ?_)
        ·
          refine c_seq (fun K14 hK14 => ?_)
          refine c_region ?_
          refine r_s rfl ?_
          refine s_call0 rfl Try.call41 rfl (answers8_w _ _) ?_
          rintro _ m2 _ hm2 ⟨rfl, rfl⟩
          replace hm := hm.trans hm2
          replace hz := hz.mono hm2
          replace hzm := hzm.mono hm2
          replace hzt := hzt.mono hm2
          replace hall := hall.mono hm2
          clear hm2
          refine r_y rfl rfl (y_assign rfl) ?_
          refine r_nil ?_
          refine hK14 _ _ _ ?_
          clear hK14 K14
          refine c_ret ?_
          refine e_ret 1 hm (res_tmps rfl) ?_
          first | exact ⟨rfl, rfl⟩ | exact ⟨congrArg Value.bool (decide_eq_true hfin), rfl⟩
        ·
          refine c_skip ?_
          refine hK12 _ _ _ ?_
          clear hK12 K12
          refine c_seq (fun K15 hK15 => ?_)
          refine c_region ?_
          obtain ⟨hzx, hokx⟩ := hzm.acts x (List.mem_of_getElem? hx)
          have hfx := hfm x (List.mem_of_getElem? hx)
          refine r_y rfl rfl (y_move rfl) ?_
          refine r_y rfl rfl (y_move rfl) ?_
          refine r_y rfl rfl (y_move rfl) ?_
          refine r_y rfl rfl (y_indexAddr_slice rfl rfl tl66 hlt (At.fz hzm.fz hlt)) ?_
          refine r_y rfl rfl (y_load_a rfl ts32 (RdA.fz0 hzm.fz (map_get hx))) ?_
          refine r_y rfl rfl (y_move rfl) ?_
          refine r_s rfl ?_
          refine s_call0 rfl Try.call42 rfl (inverse_w st lt x.1 x.2 room _ _ hzt hfat (by omega) hzx hokx hfx) ?_
          rintro _ m2 _ hm2 ⟨s9, l9, sg, lg, sc, lc, rfl, hz9, hzg, hzc, hl9, hok0, hne0, hn9, hng, hnc, rfl⟩
          replace hm := hm.trans hm2
          replace hz := hz.mono hm2
          replace hzm := hzm.mono hm2
          replace hzt := hzt.mono hm2
          replace hall := hall.mono hm2
          replace hzx := hzx.mono hm2
          clear hm2
          refine r_y rfl rfl (y_move rfl) ?_
          refine r_y rfl rfl (y_extract rfl rfl) ?_
          refine r_y rfl rfl (y_extract rfl rfl) ?_
          refine r_y rfl rfl (y_extract rfl rfl) ?_
          refine r_s rfl ?_
          refine s_alloc rfl tz69 (fun b0 => ?_)
          refine r_y rfl rfl (y_assign rfl) ?_
          refine r_s rfl ?_
          refine s_store (us := encPatch sg sc) rfl rfl rfl ts69 rfl rfl (one_patch _ _) (i := 0) rfl rfl ?_
          refine r_y rfl rfl (y_assign rfl) ?_
          refine r_nil ?_
          refine hK15 _ _ _ ?_
          clear hK15 K15
          refine c_seq (fun K16 hK16 => ?_)
          refine c_region ?_
          refine r_y rfl rfl (y_move rfl) ?_
          refine r_y rfl rfl (y_move rfl) ?_
          refine r_y rfl rfl (y_move rfl) ?_
          refine r_y rfl rfl (y_indexAddr_slice rfl rfl tl66 hlt (At.fz hzm.fz hlt)) ?_
          refine r_y rfl rfl (y_load_a rfl ts32 (RdA.fz0 hzm.fz (map_get hx))) ?_
          refine r_y rfl rfl (y_move rfl) ?_
          refine r_s rfl ?_
          refine s_call0 rfl Try.call34 rfl (rApply_w st lt x.1 x.2 room _ _ hzt hokt (by omega) hzx hokx) ?_
          rintro _ m2 _ hm2 ⟨s8, l8, rfl, hz8, hl8, hn8, rfl⟩
          replace hm := hm.trans hm2
          replace hz := hz.mono hm2
          replace hzm := hzm.mono hm2
          replace hzt := hzt.mono hm2
          replace hall := hall.mono hm2
          replace hzx := hzx.mono hm2
          replace hz9 := hz9.mono hm2
          replace hzg := hzg.mono hm2
          replace hzc := hzc.mono hm2
          clear hm2
          refine r_y rfl rfl (y_move rfl) ?_
          refine r_y rfl rfl (y_extract rfl rfl) ?_
          refine r_y rfl rfl (y_extract rfl rfl) ?_
          refine r_y rfl rfl (y_assign rfl) ?_
          refine r_y rfl rfl (y_assign rfl) ?_
          refine r_nil ?_
          refine hK16 _ _ _ ?_
          clear hK16 K16
          refine c_seq (fun K17 hK17 => ?_)
          refine c_seq (fun K18 hK18 => ?_)
          refine c_region ?_
          refine r_y rfl rfl (y_move rfl) ?_
          refine r_y rfl rfl (y_move rfl) ?_
          refine r_y rfl rfl (y_iop rfl rfl rfl) ?_
          refine r_y rfl rfl (y_move rfl) ?_
          refine r_yg rfl (by simp) rfl (y_move rfl) ?_
          refine r_yg rfl (by simp) rfl (y_move rfl) ?_
          refine r_sg rfl (by simp) ?_
          refine s_call0 rfl Try.call35 rfl (rSame_w s9 s8 l9 l8 _ _ hz9 hz8) ?_
          rintro _ m2 _ hm2 ⟨rfl, rfl⟩
          replace hm := hm.trans hm2
          replace hz := hz.mono hm2
          replace hzm := hzm.mono hm2
          replace hzt := hzt.mono hm2
          replace hall := hall.mono hm2
          replace hzx := hzx.mono hm2
          replace hz9 := hz9.mono hm2
          replace hzg := hzg.mono hm2
          replace hzc := hzc.mono hm2
          replace hz8 := hz8.mono hm2
          clear hm2
          have hsm : decide (l9.map (·.1) = l8.map (·.1)) = true := by rw [hl9, hl8]; simp
          refine r_yg rfl (by simp) rfl (y_not rfl) ?_
          refine r_y rfl rfl (y_pickf rfl (by simp) rfl) ?_
          refine r_y rfl rfl (y_move rfl) ?_
          refine r_yg rfl (by rw [hsm]; rfl) rfl (y_move rfl) ?_
          refine r_yg rfl (by rw [hsm]; rfl) rfl (y_iop rfl rfl rfl) ?_
          refine r_yg rfl (by rw [hsm]; rfl) rfl (y_move rfl) ?_
          refine r_split (j := 12) rfl (fun hCz => ?_) (fun hCz => ?_)
          ·
            refine r_yg rfl hCz rfl (y_fieldAddr rfl At.lit fo69_0 rfl) ?_
            obtain ⟨z1, z2⟩ := hne0 (by simpa using hCz)
            have hg0 : sg.n = 0 := by have := hzg.len; rw [z1] at this; exact this
            have hc00 : sc.n = 0 := by have := hzc.len; rw [z2] at this; exact this
            refine r_yg rfl hCz rfl (y_load_s rfl ts33 (RdS.blk (i := 0) rfl rfl)) ?_
            refine r_yg rfl hCz rfl (y_len tl33 rfl) ?_
            refine r_yg rfl hCz rfl (y_fieldAddr rfl At.lit fo69_1 rfl) ?_
            refine r_yg rfl hCz rfl (y_load_s rfl ts33 (RdS.blk (i := 0) rfl rfl)) ?_
            refine r_yg rfl hCz rfl (y_len tl33 rfl) ?_
            refine r_yg rfl hCz rfl (y_iop rfl rfl rfl) ?_
            refine r_yg rfl hCz rfl (y_iop rfl rfl rfl) ?_
            refine r_yg rfl (by rw [hsm]; rfl) rfl (y_pickt rfl hCz rfl) ?_
            refine r_y rfl rfl (y_pickf rfl (by rw [hsm]; rfl) rfl) ?_
            refine r_nil ?_
            refine hK18 _ _ _ ?_
            clear hK18 K18
            refine c_iff rfl (by rw [hg0, hc00]; rfl) ?_
            refine c_skip ?_
            refine hK17 _ _ _ ?_
            clear hK17 K17
            refine c_seq (fun K19 hK19 => ?_)
            refine c_region ?_
            refine r_y rfl rfl (y_move rfl) ?_
            refine r_y rfl rfl (y_iop rfl rfl rfl) ?_
            refine r_nil ?_
            refine hK19 _ _ _ ?_
            clear hK19 K19
            refine c_iff rfl (by simpa using hCz) ?_
            refine c_skip ?_
            refine hK11 _ _ _ ?_
            clear hK11 K11
            refine c_region ?_
            refine r_del 0 rfl ?_
            refine r_y rfl rfl (y_move rfl) ?_
            first | refine r_y rfl rfl (y_inc rfl (by omega)) ?_ | refine r_y rfl rfl (y_iop rfl rfl rfl) ?_
            refine r_y rfl rfl (y_assign rfl) ?_
            refine r_nil ?_
            exact ⟨k0 - 1, (i + 1, lt, st, chs, sv), by omega, ⟨rfl, rfl, rfl, rfl, rfl, rfl, trivial⟩, (by first | rfl | (simp only [List.map_append]; rfl)), ⟨by omega, hsv, by omega, by omega, hfat, hokt, hch⟩, hm, hz, hzm, hzt, hall⟩
          ·
            refine r_no' rfl rfl hCz ?_
            refine r_no' rfl rfl hCz ?_
            refine r_no' rfl rfl hCz ?_
            refine r_no' rfl rfl hCz ?_
            refine r_no' rfl rfl hCz ?_
            refine r_no' rfl rfl hCz ?_
            refine r_no' rfl rfl hCz ?_
            refine r_no' rfl rfl hCz ?_
            refine r_yg rfl (by rw [hsm]; rfl) rfl (y_pickf rfl hCz rfl) ?_
            refine r_y rfl rfl (y_pickf rfl (by rw [hsm]; rfl) rfl) ?_
            refine r_nil ?_
            refine hK18 _ _ _ ?_
            clear hK18 K18
            refine c_iff rfl rfl ?_
            refine c_skip ?_
            refine hK17 _ _ _ ?_
            clear hK17 K17
            refine c_seq (fun K20 hK20 => ?_)
            refine c_region ?_
            refine r_y rfl rfl (y_move rfl) ?_
            refine r_y rfl rfl (y_iop rfl rfl rfl) ?_
            refine r_nil ?_
            refine hK20 _ _ _ ?_
            clear hK20 K20
            refine c_ift rfl (by simpa using hCz) ?_
            refine c_seq (fun K21 hK21 => ?_)
            refine c_region ?_
            refine r_y rfl rfl (y_move rfl) ?_
            refine r_y rfl rfl (y_assign rfl) ?_
            refine r_nil ?_
            refine hK21 _ _ _ ?_
            clear hK21 K21
            refine c_region ?_
            refine r_y rfl rfl (y_move rfl) ?_
            refine r_y rfl rfl (y_load_a (cs := encPatch sg sc) rfl ts69 (RdA.blk (i := 0) rfl rfl)) ?_
            refine r_s rfl ?_
            refine s_buildSlice (cs := (encPatch sg sc)) (e := 69) rfl rfl (fun _ => by kernel_rfl) (fun b1 => ?_)
            refine r_s rfl ?_
            refine s_append rfl rfl rfl tl67 zo69 tb69 (i := 2) rfl (Src.one' (i := 0) rfl rfl (one_patch _ _)) (by omega) (by unfold maxLen; omega) (fun a1 c1 => ?_)
            refine r_del 0 rfl ?_
            refine r_y rfl rfl (y_assign rfl) ?_
            refine r_nil ?_
            refine hK11 _ _ _ ?_
            clear hK11 K11
            refine c_region ?_
            refine r_del 0 rfl ?_
            have hc0 : (applyR (lt.map (·.1)) x.1 room).2 = 0 := by simpa using hCz
            obtain ⟨q1, q2⟩ := hok0 hc0
            have hlen := applyR_len (lt.map (·.1)) x.1 room
            rw [← hl9] at hlen
            simp only [List.length_map] at hlen
            replace hall := hall.snoc (c := ⟨sg, lg, sc, lc⟩) hzg hzc hng hnc
            have hch2 := chain_on (c := ⟨sg, lg, sc, lc⟩) hch hc0 q1 q2 (by simp; omega) (acts_to hfat) hfx
            rw [← hl9] at hch2
            have hfat2 : ∀ p ∈ l9, p.1.acts.length ≤ 4398046511103 := acts_of hl9 (applyR_acts (acts_to hfat) hfx)
            replace hzt := hz9
            refine r_y rfl rfl (y_move rfl) ?_
            first | refine r_y rfl rfl (y_inc rfl (by omega)) ?_ | refine r_y rfl rfl (y_iop rfl rfl rfl) ?_
            refine r_y rfl rfl (y_assign rfl) ?_
            refine r_nil ?_
            exact ⟨k0 - 1, (i + 1, l9, s9, chs ++ [⟨sg, lg, sc, lc⟩], ⟨a1, sv.n + 1, c1⟩), by omega, ⟨rfl, rfl, rfl, rfl, rfl, rfl, trivial⟩, (by first | rfl | (simp only [List.map_append]; rfl)), ⟨by omega, by simp [hsv], by show sv.n + 1 ≤ i + 1; omega, by omega, hfat2, hn9, hch2⟩, hm, hz, hzm, hzt, hall⟩
      ·
        refine c_exit ?_
        refine hK7 _ _ _ ?_
        clear hK9 K9 hK7 K7
        refine c_seq (fun K22 hK22 => ?_)
        refine c_seq (fun K23 hK23 => ?_)
        refine c_region ?_
        refine r_y rfl rfl (y_move rfl) ?_
        refine r_y rfl rfl (y_len tl67 rfl) ?_
        refine r_y rfl rfl (y_dec' rfl (by omega)) ?_
        refine r_y rfl rfl (y_assign rfl) ?_
        refine r_nil ?_
        refine hK23 _ _ _ ?_
        clear hK23 K23
        refine c_block ?_
        refine c_loopx (α := Nat × List (RuleD × Sl) × Sl) (fun vv => match vv with | (j, lt, st) => [(0, s1.v), (7, sv.v), (8, st.v), (15, .int .i64 ((j : Int) - 1))]) (fun vv => match vv with | (j, lt, st) => .vec sv.a sv.n sv.cap 69 2 (chs.map ChD.enc) :: H) (fun k1 vv m1 => match vv with | (j, lt, st) => (j = k1 ∧ j ≤ sv.n ∧ Chain (l1.map (·.1)) ((chs.take j).map ChD.lists) (lt.map (·.1))) ∧ m.le m1 ∧ (FzR m1 s1 l1) ∧ (FzR m1 st lt) ∧ (AllP m1 chs)) (sv.n) (sv.n, lt, st) ⟨rfl, rfl, rfl, rfl, trivial⟩ rfl ⟨⟨rfl, Nat.le_refl _, by rw [List.take_of_length_le (by omega)]; exact hch⟩, hm, hz, hzt, hall⟩ ?_
        clear hm hz hzt hall
        rintro k1 ⟨j, lt, st⟩ m1 ⟨hi1, hm, hz, hzt, hall⟩
        obtain ⟨hj, hjn, hch⟩ := hi1
        refine c_seq (fun K24 hK24 => ?_)
        refine c_seq (fun K25 hK25 => ?_)
        refine c_region ?_
        refine r_y rfl rfl (y_move rfl) ?_
        refine r_y rfl rfl (y_iop rfl rfl rfl) ?_
        refine r_nil ?_
        refine hK25 _ _ _ ?_
        clear hK25 K25
        refine c_cond rfl (fun hJ => ?_) (fun hJ => ?_)
        ·
          refine c_skip ?_
          refine hK24 _ _ _ ?_
          clear hK24 K24
          refine c_seq (fun K26 hK26 => ?_)
          refine c_block ?_
          refine c_seq (fun K27 hK27 => ?_)
          refine c_region ?_
          obtain ⟨j, rfl⟩ : ∃ i, j = i + 1 := ⟨j - 1, by simp at hJ; omega⟩
          obtain ⟨c, hc⟩ := get_of_lt (l := chs) (k := j) (by omega)
          obtain ⟨w1, w2, w3, w4, w5⟩ := chain_back hch hc
          obtain ⟨y1, y2, y3, y4⟩ := hall c (List.mem_of_getElem? hc)
          have hjl : j < sv.n := by omega
          refine r_y rfl rfl (y_move rfl) ?_
          refine r_y rfl rfl (y_move rfl) ?_
          refine r_y rfl rfl (y_move rfl) ?_
          refine r_y rfl rfl (y_indexAddr_sl (k := j) rfl rfl (by omega) tl67 hjl (At.vec (k := j) (i := 0) rfl hjl)) ?_
          refine r_y rfl rfl (y_load_a (cs := encPatch c.sg c.sc) rfl ts69 (RdA.vec0 (k := j) (i := 0) rfl rfl (map_get hc) rfl)) ?_
          refine r_s rfl ?_
          refine s_call0 rfl Try.call43 rfl (back_w st lt c.sc c.lc c.sg c.lg _ _ hzt y2 y1 y3 (good_acts w3).2 (good_acts w4).2 (by have := (good_acts w3).1; omega) (by have := (good_acts w4).1; omega) (by have := (good_acts w5).1; omega) w1) ?_
          rintro _ m2 _ hm2 ⟨s7, l7, rfl, hz7, hl7, hn7, rfl⟩
          replace hm := hm.trans hm2
          replace hz := hz.mono hm2
          replace hzt := hzt.mono hm2
          replace hall := hall.mono hm2
          clear hm2
          refine r_y rfl rfl (y_move rfl) ?_
          refine r_y rfl rfl (y_extract rfl rfl) ?_
          refine r_y rfl rfl (y_extract rfl rfl) ?_
          refine r_y rfl rfl (y_assign rfl) ?_
          refine r_y rfl rfl (y_assign rfl) ?_
          refine r_nil ?_
          refine hK27 _ _ _ ?_
          clear hK27 K27
          refine c_seq (fun K28 hK28 => ?_)
          refine c_seq (fun K29 hK29 => ?_)
          refine c_region ?_
          refine r_y rfl rfl (y_move rfl) ?_
          refine r_y rfl rfl (y_iop rfl rfl rfl) ?_
          refine r_nil ?_
          refine hK29 _ _ _ ?_
          clear hK29 K29
          refine c_iff rfl rfl ?_
          refine c_skip ?_
          refine hK28 _ _ _ ?_
          clear hK28 K28
          refine c_region ?_
          refine r_y rfl rfl (y_move rfl) ?_
          refine r_y rfl rfl (y_assign rfl) ?_
          refine r_nil ?_
          refine hK26 _ _ _ ?_
          clear hK26 K26
          refine c_region ?_
          refine r_y rfl rfl (y_move rfl) ?_
          refine r_y rfl rfl (y_decj rfl (by omega)) ?_
          refine r_y rfl rfl (y_assign rfl) ?_
          refine r_nil ?_
          replace hzt := hz7
          rw [← hl7] at w2
          exact ⟨k1 - 1, (j, l7, s7), by omega, ⟨rfl, rfl, rfl, rfl, trivial⟩, rfl, ⟨by omega, by omega, w2⟩, hm, hz, hzt, hall⟩
        ·
          refine c_exit ?_
          refine hK22 _ _ _ ?_
          clear hK24 K24 hK22 K22
          refine c_seq (fun K30 hK30 => ?_)
          refine c_region ?_
          obtain rfl : j = 0 := by simp at hJ; omega
          have hfin := Chain.none hch
          refine r_s rfl ?_
          refine s_call0 rfl Try.call41 rfl (answers8_w _ _) ?_
          rintro _ m2 _ hm2 ⟨rfl, rfl⟩
          replace hm := hm.trans hm2
          replace hz := hz.mono hm2
          replace hzt := hzt.mono hm2
          replace hall := hall.mono hm2
          clear hm2
          refine r_y rfl rfl (y_move rfl) ?_
          refine r_yg rfl rfl rfl (y_move rfl) ?_
          refine r_yg rfl rfl rfl (y_move rfl) ?_
          refine r_sg rfl rfl ?_
          refine s_call0 rfl Try.call35 rfl (rSame_w st s1 lt l1 _ _ hzt hz) ?_
          rintro _ m2 _ hm2 ⟨rfl, rfl⟩
          replace hm := hm.trans hm2
          replace hz := hz.mono hm2
          replace hzt := hzt.mono hm2
          replace hall := hall.mono hm2
          clear hm2
          refine r_y rfl rfl (y_pickt rfl rfl rfl) ?_
          refine r_y rfl rfl (y_assign rfl) ?_
          refine r_nil ?_
          refine hK30 _ _ _ ?_
          clear hK30 K30
          refine c_ret ?_
          refine e_ret 1 hm (res_tmps rfl) ?_
          first | exact ⟨rfl, rfl⟩ | exact ⟨congrArg Value.bool (decide_eq_true hfin), rfl⟩
end Go.Aw
