/- Part 3 of the words and walks that the proof behind it uses. -/
import Derived.Test.YtnmhkhobjaklhaaModsApartP2
set_option linter.unusedVariables false
set_option linter.unusedSimpArgs false
set_option maxHeartbeats 1000000
namespace Go.Aw
open Go Go.Proofs
theorem tl30 : tslice Try.prog 30 = some (53, 4) := by kernel_rfl
theorem ts53 : tshape Try.prog 53 = some (true, 4) := by kernel_rfl
theorem en53 : eqN Try.prog 6 53 = some 4 := by kernel_rfl
theorem ia53 : isAggT Try.prog 53 = true := by kernel_rfl
theorem fo32_0 : fieldOff Try.prog 32 0 = some 0 := by kernel_rfl
theorem ts3 : tshape Try.prog 3 = some (false, 1) := by kernel_rfl
theorem fo32_1 : fieldOff Try.prog 32 1 = some 1 := by kernel_rfl
theorem en29 : eqN Try.prog 6 29 = some 24 := by kernel_rfl
theorem ia29 : isAggT Try.prog 29 = true := by kernel_rfl
theorem fo32_2 : fieldOff Try.prog 32 2 = some 25 := by kernel_rfl
theorem fo32_3 : fieldOff Try.prog 32 3 = some 26 := by kernel_rfl
theorem ts30 : tshape Try.prog 30 = some (false, 1) := by kernel_rfl
theorem fo32_4 : fieldOff Try.prog 32 4 = some 27 := by kernel_rfl
theorem fo32_5 : fieldOff Try.prog 32 5 = some 28 := by kernel_rfl
theorem fo32_6 : fieldOff Try.prog 32 6 = some 29 := by kernel_rfl
theorem fo32_7 : fieldOff Try.prog 32 7 = some 30 := by kernel_rfl
theorem ts4 : tshape Try.prog 4 = some (false, 1) := by kernel_rfl
theorem tz27 : tzero Try.prog 27 = some [.int .u64 0, .int .u64 0, .int .u64 0, .int .u64 0, .int .u64 0, .int .u64 0, .int .u64 0, .int .u64 0, .int .u64 0, .int .u64 0, .int .u64 0, .int .u64 0] := by kernel_rfl
theorem fk27 : fieldsKnown Try.prog 27 = true := by kernel_rfl
theorem bp27_ : bplaces Try.prog 27 [] = some [] := by kernel_rfl
theorem fo53_0 : fieldOff Try.prog 53 0 = some 0 := by kernel_rfl
theorem fo53_1 : fieldOff Try.prog 53 1 = some 1 := by kernel_rfl
theorem fo53_2 : fieldOff Try.prog 53 2 = some 2 := by kernel_rfl
theorem fo53_3 : fieldOff Try.prog 53 3 = some 3 := by kernel_rfl
theorem tz53 : tzero Try.prog 53 = some [.int .i64 0, .int .i64 0, .int .i64 0, .int .u64 0] := by kernel_rfl
theorem fk53 : fieldsKnown Try.prog 53 = true := by kernel_rfl
theorem bp53_0 : bplaces Try.prog 53 [0] = some [(0, 1)] := by kernel_rfl
set_option maxRecDepth 100000 in
theorem idxActs_ok (s : Sl) (l : List ActD) (f : Nat) (cp : List Value) (p : ActD → Bool) (m : Snap) (H : Hp) (hz : FzA m s l) (hr : runs Try.prog f) (hf : ∀ m' x, m.le m' → x ∈ l → Fn Try.prog f (.agg (encAct x).toArray :: cp) m' H (fun v _ H' => v = .bool (p x) ∧ H' = H)) : Fn Try.prog 155 [s.v, .func (.func f) [].toArray cp.toArray] m H (fun v _ H' => v = .int .i64 (idxF p l) ∧ H' = H) := by
  have hm : m.le m := Snap.le.refl m
  refine fn_end Try.func155 rfl rfl rfl ?_
  refine c_seq (fun K0 hK0 => ?_)
  refine c_region ?_
  refine r_y rfl rfl (y_assign rfl) ?_
  refine r_nil ?_
  refine hK0 _ _ _ ?_
  clear hK0 K0
  refine c_seq (fun K1 hK1 => ?_)
  refine c_seq (fun K2 hK2 => ?_)
  refine c_region ?_
  refine r_y rfl rfl (y_move rfl) ?_
  refine r_y rfl rfl (y_len tl30 rfl) ?_
  refine r_y rfl rfl (y_move rfl) ?_
  refine r_nil ?_
  refine hK2 _ _ _ ?_
  clear hK2 K2
  refine c_block ?_
  have hl := hz.lenA
  have hmx := hz.max
  have hle := hz.le
  unfold maxLen at hmx
  refine c_loopx (α := Nat) (fun i => [(0, s.v), (1, .func (.func f) [].toArray cp.toArray), (7, .int .i64 (s.n : Nat)), (8, .int .i64 (i : Nat))]) (fun i => H) (fun k0 i m1 => (i + k0 = s.n ∧ (l.take i).any p = false) ∧ m.le m1 ∧ (Fz m1 s.a s.n s.cap 4 (l.map encAct))) (s.n) 0 ⟨rfl, rfl, rfl, rfl, trivial⟩ rfl ⟨⟨by omega, rfl⟩, hm, hz⟩ ?_
  clear hm hz
  rintro k0 i m1 ⟨hi0, hm, hz⟩
  obtain ⟨hi, hinv⟩ := hi0
  refine c_seq (fun K3 hK3 => ?_)
  refine c_region ?_
  refine r_y rfl rfl (y_iop rfl rfl rfl) ?_
  refine r_nil ?_
  refine hK3 _ _ _ ?_
  clear hK3 K3
  refine c_seq (fun K4 hK4 => ?_)
  refine c_cond rfl (fun h0 => ?_) (fun h0 => ?_)
  ·
    have hlt : i < s.n := by simp at h0; omega
    obtain ⟨x, hx⟩ := get_of_lt (l := l) (k := i) (by omega)
    refine c_skip ?_
    refine hK4 _ _ _ ?_
    clear hK4 K4
    refine c_seq (fun K5 hK5 => ?_)
    refine c_block ?_
    refine c_seq (fun K6 hK6 => ?_)
    refine c_region ?_
    refine r_y rfl rfl (y_move rfl) ?_
    refine r_y rfl rfl (y_assign rfl) ?_
    refine r_nil ?_
    refine hK6 _ _ _ ?_
    clear hK6 K6
    refine c_seq (fun K7 hK7 => ?_)
    refine c_region ?_
    refine r_y rfl rfl (y_move rfl) ?_
    refine r_y rfl rfl (y_move rfl) ?_
    refine r_y rfl rfl (y_move rfl) ?_
    refine r_y rfl rfl (y_indexAddr_slice rfl rfl tl30 hlt (At.fz hz hlt)) ?_
    refine r_y rfl rfl (y_load_a rfl ts53 (RdA.fz0 hz (map_get hx))) ?_
    refine r_s rfl ?_
    refine s_call rfl hr rfl rfl (hf _ x hm (List.mem_of_getElem? hx)) ?_
    rintro _ m2 _ hm2 ⟨rfl, rfl⟩
    replace hm := hm.trans hm2
    replace hz := hz.mono hm2
    clear hm2
    refine r_nil ?_
    refine hK7 _ _ _ ?_
    clear hK7 K7
    refine c_cond rfl (fun h1 => ?_) (fun h1 => ?_)
    ·
      refine c_seq (fun K8 hK8 => ?_)
      refine c_region ?_
      refine r_y rfl rfl (y_move rfl) ?_
      refine r_y rfl rfl (y_assign rfl) ?_
      refine r_nil ?_
      refine hK8 _ _ _ ?_
      clear hK8 K8
      refine c_ret ?_
      refine e_ret 0 hm (res_tmps rfl) ?_
      exact ⟨congrArg _ (idxF_at hinv hx h1).symm, rfl⟩
    ·
      refine c_skip ?_
      refine hK5 _ _ _ ?_
      clear hK5 K5
      refine c_region ?_
      first | refine r_y rfl rfl (y_inc rfl (by omega)) ?_ | refine r_y rfl rfl (y_iop rfl rfl rfl) ?_
      refine r_y rfl rfl (y_move rfl) ?_
      refine r_nil ?_
      exact ⟨k0 - 1, (i + 1), by omega, ⟨rfl, rfl, rfl, rfl, trivial⟩, rfl, ⟨by omega, by rw [any_take_succ hx, hinv]; simpa using h1⟩, hm, hz⟩
  ·
    refine c_exit ?_
    refine hK1 _ _ _ ?_
    clear hK4 K4 hK1 K1
    refine c_seq (fun K9 hK9 => ?_)
    refine c_region ?_
    refine r_y rfl rfl (y_assign rfl) ?_
    refine r_nil ?_
    refine hK9 _ _ _ ?_
    clear hK9 K9
    refine c_ret ?_
    refine e_ret 0 hm (res_tmps rfl) ?_
    refine ⟨congrArg _ (idxF_no ?_).symm, rfl⟩
    have hie : i = s.n := by simp at h0; omega
    rw [List.take_of_length_le (by omega)] at hinv
    exact hinv
set_option maxRecDepth 100000 in
theorem hasActs_ok (s : Sl) (l : List ActD) (f : Nat) (cp : List Value) (p : ActD → Bool) (m : Snap) (H : Hp) (hz : FzA m s l) (hr : runs Try.prog f) (hf : ∀ m' x, m.le m' → x ∈ l → Fn Try.prog f (.agg (encAct x).toArray :: cp) m' H (fun v _ H' => v = .bool (p x) ∧ H' = H)) : Fn Try.prog 136 [s.v, .func (.func f) [].toArray cp.toArray] m H (fun v _ H' => v = .bool (l.any p) ∧ H' = H) := by
  have hm : m.le m := Snap.le.refl m
  refine fn_end Try.func136 rfl rfl rfl ?_
  refine c_seq (fun K0 hK0 => ?_)
  refine c_region ?_
  refine r_y rfl rfl (y_assign rfl) ?_
  refine r_nil ?_
  refine hK0 _ _ _ ?_
  clear hK0 K0
  refine c_seq (fun K1 hK1 => ?_)
  refine c_region ?_
  refine r_y rfl rfl (y_move rfl) ?_
  refine r_y rfl rfl (y_move rfl) ?_
  refine r_s rfl ?_
  refine s_call0 rfl Try.call155 rfl (idxActs_ok s l f cp p _ _ hz hr hf) ?_
  rintro _ m2 _ hm2 ⟨rfl, rfl⟩
  replace hm := hm.trans hm2
  clear hm2
  refine r_y rfl rfl (y_iop rfl rfl rfl) ?_
  refine r_y rfl rfl (y_assign rfl) ?_
  refine r_nil ?_
  refine hK1 _ _ _ ?_
  clear hK1 K1
  refine c_ret ?_
  refine e_ret 0 hm (res_tmps rfl) ?_
  exact ⟨congrArg _ (idxF_nonneg p l), rfl⟩
set_option maxRecDepth 100000 in
theorem headSet_ok (h : Head) (n : Int) (x : W) (m : Snap) (H : Hp) : Fn Try.prog 156 [.agg (encHead h).toArray, .int .i64 n, wv x] m H (fun v _ H' => v = .tuple [.agg (encHead (setF h n x).1).toArray, .int .i64 (setF h n x).2].toArray ∧ H' = H) := by
  have hm : m.le m := Snap.le.refl m
  refine fn_end Try.func156 rfl rfl rfl ?_
  refine c_seq (fun K0 hK0 => ?_)
  refine c_region ?_
  refine r_s rfl ?_
  refine s_box_a rfl rfl (fun b0 => ?_)
  refine r_s rfl ?_
  refine s_alloc rfl tz27 (fun b1 => ?_)
  refine r_y rfl rfl (y_assign rfl) ?_
  refine r_nil ?_
  refine hK0 _ _ _ ?_
  clear hK0 K0
  refine c_seq (fun K1 hK1 => ?_)
  refine c_block ?_
  refine c_seq (fun K2 hK2 => ?_)
  refine c_region ?_
  refine r_y rfl rfl (y_move rfl) ?_
  refine r_s rfl ?_
  refine s_call0 rfl Try.call167 rfl (there_ok _ _ _) ?_
  rintro _ m2 _ hm2 ⟨rfl, rfl⟩
  replace hm := hm.trans hm2
  clear hm2
  refine r_y rfl rfl (y_not rfl) ?_
  refine r_y rfl rfl (y_assign rfl) ?_
  refine r_nil ?_
  refine hK2 _ _ _ ?_
  clear hK2 K2
  refine c_cond rfl (fun h0 => ?_) (fun h0 => ?_)
  ·
    refine c_seq (fun K3 hK3 => ?_)
    refine c_region ?_
    refine r_y rfl rfl (y_bld rfl tz27 fk27 bp27_ rfl rfl) ?_
    refine r_s rfl ?_
    refine s_store rfl rfl rfl ts27 rfl rfl (by simp [Value.oneCell', wv, Sl.v]) (i := 0) rfl rfl ?_
    refine r_y rfl rfl (y_assign rfl) ?_
    refine r_nil ?_
    refine hK3 _ _ _ ?_
    clear hK3 K3
    refine c_ret ?_
    refine e_ret 2 hm (res2 (r1_cell_a rfl ts27 (RdA.blk (i := 0) rfl rfl)) (r1_tmp rfl)) ?_
    simp only [setF, h0, if_true]
    exact ⟨rfl, rfl⟩
  ·
    obtain ⟨k, hk, rfl⟩ := there_spec h0
    refine c_seq (fun K4 hK4 => ?_)
    refine c_region ?_
    refine r_y rfl rfl (y_move rfl) ?_
    refine r_y rfl rfl (y_move rfl) ?_
    refine r_s rfl ?_
    refine s_call0 rfl Try.call154 rfl (fits_ok _ _ _ _) ?_
    rintro _ m2 _ hm2 ⟨rfl, rfl⟩
    replace hm := hm.trans hm2
    clear hm2
    refine r_y rfl rfl (y_not rfl) ?_
    refine r_y rfl rfl (y_assign rfl) ?_
    refine r_nil ?_
    refine hK4 _ _ _ ?_
    clear hK4 K4
    refine c_cond rfl (fun h1 => ?_) (fun h1 => ?_)
    ·
      refine c_seq (fun K5 hK5 => ?_)
      refine c_region ?_
      refine r_y rfl rfl (y_bld rfl tz27 fk27 bp27_ rfl rfl) ?_
      refine r_s rfl ?_
      refine s_store rfl rfl rfl ts27 rfl rfl (by simp [Value.oneCell', wv, Sl.v]) (i := 0) rfl rfl ?_
      refine r_y rfl rfl (y_assign rfl) ?_
      refine r_nil ?_
      refine hK5 _ _ _ ?_
      clear hK5 K5
      refine c_ret ?_
      refine e_ret 2 hm (res2 (r1_cell_a rfl ts27 (RdA.blk (i := 0) rfl rfl)) (r1_tmp rfl)) ?_
      have h0' : (!there (k : Int)) = false := h0
      simp only [setF, h0', h1, if_true, Bool.false_eq_true, if_false]
      exact ⟨rfl, rfl⟩
    ·
      refine c_skip ?_
      refine hK1 _ _ _ ?_
      clear hK1 K1
      refine c_seq (fun K6 hK6 => ?_)
      refine c_region ?_
      refine r_y rfl rfl (y_move rfl) ?_
      refine r_y rfl rfl (y_move rfl) ?_
      refine r_y rfl rfl (y_indexAddr_arr rfl rfl ta27 hk At.lit) ?_
      refine r_s rfl ?_
      refine s_store rfl rfl rfl ts25 rfl rfl (by simp [Value.oneCell', wv]) (i := 1) rfl (cput_head _ _ _ hk) ?_
      refine r_nil ?_
      refine hK6 _ _ _ ?_
      clear hK6 K6
      refine c_seq (fun K7 hK7 => ?_)
      refine c_region ?_
      refine r_y rfl rfl (y_load_a (cs := encHead (h.set k x)) rfl ts27 (RdA.blk (i := 1) rfl rfl)) ?_
      refine r_s rfl ?_
      refine s_store (us := encHead (h.set k x)) rfl rfl rfl ts27 rfl rfl (one_head _) (i := 0) rfl rfl ?_
      refine r_y rfl rfl (y_assign rfl) ?_
      refine r_nil ?_
      refine hK7 _ _ _ ?_
      clear hK7 K7
      refine c_ret ?_
      refine e_ret 2 hm (res2 (r1_cell_a rfl ts27 (RdA.blk (i := 0) rfl rfl)) (r1_tmp rfl)) ?_
      have h0' : (!there (k : Int)) = false := h0
      simp only [setF, h0', h1, Bool.false_eq_true, if_false, Int.toNat_natCast]
      exact ⟨rfl, rfl⟩
set_option maxRecDepth 100000 in
theorem actsound_ok (a : ActD) (m : Snap) (H : Hp) : Fn Try.prog 138 [.agg (encAct a).toArray] m H (fun v _ H' => v = .bool (actSound a) ∧ H' = H) := by
  have hm : m.le m := Snap.le.refl m
  refine fn_end Try.func138 rfl rfl rfl ?_
  refine c_seq (fun K0 hK0 => ?_)
  refine c_region ?_
  refine r_s rfl ?_
  refine s_box_a rfl rfl (fun b0 => ?_)
  refine r_y rfl rfl (y_assign rfl) ?_
  refine r_nil ?_
  refine hK0 _ _ _ ?_
  clear hK0 K0
  refine c_seq (fun K1 hK1 => ?_)
  refine c_seq (fun K2 hK2 => ?_)
  refine c_region ?_
  refine r_y rfl rfl (y_fieldAddr rfl At.lit fo53_0 rfl) ?_
  refine r_y rfl rfl (y_load_s rfl ts3 (RdS.blk (i := 0) rfl rfl)) ?_
  refine r_nil ?_
  refine hK2 _ _ _ ?_
  clear hK2 K2
  refine c_block ?_
  refine c_seq (fun K3 hK3 => ?_)
  refine c_region ?_
  refine r_y rfl rfl (y_iop rfl rfl rfl) ?_
  refine r_y rfl rfl (y_assign rfl) ?_
  refine r_nil ?_
  refine hK3 _ _ _ ?_
  clear hK3 K3
  refine c_cond rfl (fun h0 => ?_) (fun h0 => ?_)
  ·
    refine c_seq (fun K4 hK4 => ?_)
    refine c_region ?_
    refine r_y rfl rfl (y_fieldAddr rfl At.lit fo53_1 rfl) ?_
    refine r_y rfl rfl (y_load_s rfl ts3 (RdS.blk (i := 0) rfl rfl)) ?_
    refine r_y rfl rfl (y_iop rfl rfl rfl) ?_
    refine r_y rfl rfl (y_move rfl) ?_
    refine r_split (j := 3) rfl (fun h1 => ?_) (fun h1 => ?_)
    ·
      refine r_yg rfl h1 rfl (y_fieldAddr rfl At.lit fo53_1 rfl) ?_
      refine r_yg rfl h1 rfl (y_load_s rfl ts3 (RdS.blk (i := 0) rfl rfl)) ?_
      refine r_yg rfl h1 rfl (y_iop rfl rfl rfl) ?_
      refine r_y rfl rfl (y_pickt rfl h1 rfl) ?_
      refine r_y rfl rfl (y_move rfl) ?_
      refine r_split (j := 8) rfl (fun h2 => ?_) (fun h2 => ?_)
      ·
        refine r_yg rfl h2 rfl (y_fieldAddr rfl At.lit fo53_2 rfl) ?_
        refine r_yg rfl h2 rfl (y_load_s rfl ts3 (RdS.blk (i := 0) rfl rfl)) ?_
        refine r_yg rfl h2 rfl (y_iop rfl rfl rfl) ?_
        refine r_y rfl rfl (y_pickt rfl h2 rfl) ?_
        refine r_y rfl rfl (y_move rfl) ?_
        refine r_split (j := 13) rfl (fun h3 => ?_) (fun h3 => ?_)
        ·
          refine r_yg rfl h3 rfl (y_fieldAddr rfl At.lit fo53_3 rfl) ?_
          refine r_yg rfl h3 rfl (y_load_s rfl ts25 (RdS.blk (i := 0) rfl rfl)) ?_
          refine r_yg rfl h3 rfl (y_wop rfl (opv_wc 0#64) rfl) ?_
          refine r_y rfl rfl (y_pickt rfl h3 rfl) ?_
          refine r_y rfl rfl (y_assign rfl) ?_
          refine r_nil ?_
          refine hK4 _ _ _ ?_
          clear hK4 K4
          refine c_ret ?_
          refine e_ret 1 hm (res_tmps rfl) ?_
          refine ⟨congrArg Value.bool ?_, rfl⟩
          first | (simp_all [actSound, ceq_act]; done) | (simp_all [actSound, ceq_act]; omega) | (simp_all [actSound, ceq_act]; intros; omega) | (rw [Bool.eq_iff_iff]; simp_all [actSound, ceq_act]; done)
        ·
          refine r_no' rfl rfl h3 ?_
          refine r_no' rfl rfl h3 ?_
          refine r_no' rfl rfl h3 ?_
          refine r_y rfl rfl (y_pickf rfl h3 rfl) ?_
          refine r_y rfl rfl (y_assign rfl) ?_
          refine r_nil ?_
          refine hK4 _ _ _ ?_
          clear hK4 K4
          refine c_ret ?_
          refine e_ret 1 hm (res_tmps rfl) ?_
          refine ⟨congrArg Value.bool ?_, rfl⟩
          first | (simp_all [actSound, ceq_act]; done) | (simp_all [actSound, ceq_act]; omega) | (simp_all [actSound, ceq_act]; intros; omega) | (rw [Bool.eq_iff_iff]; simp_all [actSound, ceq_act]; done)
      ·
        refine r_no' rfl rfl h2 ?_
        refine r_no' rfl rfl h2 ?_
        refine r_no' rfl rfl h2 ?_
        refine r_y rfl rfl (y_pickf rfl h2 rfl) ?_
        refine r_y rfl rfl (y_move rfl) ?_
        refine r_no' rfl rfl rfl ?_
        refine r_no' rfl rfl rfl ?_
        refine r_no' rfl rfl rfl ?_
        refine r_y rfl rfl (y_pickf rfl rfl rfl) ?_
        refine r_y rfl rfl (y_assign rfl) ?_
        refine r_nil ?_
        refine hK4 _ _ _ ?_
        clear hK4 K4
        refine c_ret ?_
        refine e_ret 1 hm (res_tmps rfl) ?_
        refine ⟨congrArg Value.bool ?_, rfl⟩
        first | (simp_all [actSound, ceq_act]; done) | (simp_all [actSound, ceq_act]; omega) | (simp_all [actSound, ceq_act]; intros; omega) | (rw [Bool.eq_iff_iff]; simp_all [actSound, ceq_act]; done)
    ·
      refine r_no' rfl rfl h1 ?_
      refine r_no' rfl rfl h1 ?_
      refine r_no' rfl rfl h1 ?_
      refine r_y rfl rfl (y_pickf rfl h1 rfl) ?_
      refine r_y rfl rfl (y_move rfl) ?_
      refine r_no' rfl rfl rfl ?_
      refine r_no' rfl rfl rfl ?_
      refine r_no' rfl rfl rfl ?_
      refine r_y rfl rfl (y_pickf rfl rfl rfl) ?_
      refine r_y rfl rfl (y_move rfl) ?_
      refine r_no' rfl rfl rfl ?_
      refine r_no' rfl rfl rfl ?_
      refine r_no' rfl rfl rfl ?_
      refine r_y rfl rfl (y_pickf rfl rfl rfl) ?_
      refine r_y rfl rfl (y_assign rfl) ?_
      refine r_nil ?_
      refine hK4 _ _ _ ?_
      clear hK4 K4
      refine c_ret ?_
      refine e_ret 1 hm (res_tmps rfl) ?_
      refine ⟨congrArg Value.bool ?_, rfl⟩
      first | (simp_all [actSound, ceq_act]; done) | (simp_all [actSound, ceq_act]; omega) | (simp_all [actSound, ceq_act]; intros; omega) | (rw [Bool.eq_iff_iff]; simp_all [actSound, ceq_act]; done)
  ·
    refine c_seq (fun K5 hK5 => ?_)
    refine c_region ?_
    refine r_y rfl rfl (y_iop rfl rfl rfl) ?_
    refine r_y rfl rfl (y_assign rfl) ?_
    refine r_nil ?_
    refine hK5 _ _ _ ?_
    clear hK5 K5
    refine c_cond rfl (fun h4 => ?_) (fun h4 => ?_)
    ·
      refine c_seq (fun K6 hK6 => ?_)
      refine c_region ?_
      refine r_y rfl rfl (y_bld rfl tz27 fk27 bp27_ rfl rfl) ?_
      refine r_y rfl rfl (y_fieldAddr rfl At.lit fo53_2 rfl) ?_
      refine r_y rfl rfl (y_load_s rfl ts3 (RdS.blk (i := 0) rfl rfl)) ?_
      refine r_y rfl rfl (y_fieldAddr rfl At.lit fo53_3 rfl) ?_
      refine r_y rfl rfl (y_load_s rfl ts25 (RdS.blk (i := 0) rfl rfl)) ?_
      refine r_s rfl ?_
      refine s_call0 rfl Try.call156 rfl (headSet_ok zHead a.field a.val _ _) ?_
      rintro _ m2 _ hm2 ⟨rfl, rfl⟩
      replace hm := hm.trans hm2
      clear hm2
      refine r_y rfl rfl (y_move rfl) ?_
      refine r_y rfl rfl (y_extract rfl rfl) ?_
      refine r_y rfl rfl (y_extract rfl rfl) ?_
      refine r_s rfl ?_
      refine s_alloc rfl tz27 (fun b1 => ?_)
      refine r_s rfl ?_
      refine s_store (us := encHead (setF zHead a.field a.val).1) rfl rfl rfl ts27 rfl rfl (one_head _) (i := 0) rfl rfl ?_
      refine r_y rfl rfl (y_assign rfl) ?_
      refine r_nil ?_
      refine hK6 _ _ _ ?_
      clear hK6 K6
      refine c_seq (fun K7 hK7 => ?_)
      refine c_region ?_
      refine r_y rfl rfl (y_move rfl) ?_
      refine r_y rfl rfl (y_iop rfl rfl rfl) ?_
      refine r_y rfl rfl (y_move rfl) ?_
      refine r_split (j := 2) rfl (fun h5 => ?_) (fun h5 => ?_)
      ·
        refine r_yg rfl h5 rfl (y_fieldAddr rfl At.lit fo53_1 rfl) ?_
        refine r_yg rfl h5 rfl (y_load_s rfl ts3 (RdS.blk (i := 1) rfl rfl)) ?_
        refine r_yg rfl h5 rfl (y_iop rfl rfl rfl) ?_
        refine r_y rfl rfl (y_pickt rfl h5 rfl) ?_
        refine r_y rfl rfl (y_assign rfl) ?_
        refine r_nil ?_
        refine hK7 _ _ _ ?_
        clear hK7 K7
        refine c_ret ?_
        refine e_ret 2 hm (res_tmps rfl) ?_
        refine ⟨congrArg Value.bool ?_, rfl⟩
        first | (simp_all [actSound, ceq_act]; done) | (simp_all [actSound, ceq_act]; omega) | (simp_all [actSound, ceq_act]; intros; omega) | (rw [Bool.eq_iff_iff]; simp_all [actSound, ceq_act]; done)
      ·
        refine r_no' rfl rfl h5 ?_
        refine r_no' rfl rfl h5 ?_
        refine r_no' rfl rfl h5 ?_
        refine r_y rfl rfl (y_pickf rfl h5 rfl) ?_
        refine r_y rfl rfl (y_assign rfl) ?_
        refine r_nil ?_
        refine hK7 _ _ _ ?_
        clear hK7 K7
        refine c_ret ?_
        refine e_ret 2 hm (res_tmps rfl) ?_
        refine ⟨congrArg Value.bool ?_, rfl⟩
        first | (simp_all [actSound, ceq_act]; done) | (simp_all [actSound, ceq_act]; omega) | (simp_all [actSound, ceq_act]; intros; omega) | (rw [Bool.eq_iff_iff]; simp_all [actSound, ceq_act]; done)
    ·
      refine c_skip ?_
      refine hK1 _ _ _ ?_
      clear hK1 K1
      refine c_seq (fun K8 hK8 => ?_)
      refine c_region ?_
      refine r_y rfl rfl (y_load_a (cs := encAct a) rfl ts53 (RdA.blk (i := 0) rfl rfl)) ?_
      refine r_y rfl rfl (y_bld rfl tz53 fk53 bp53_0 rfl rfl) ?_
      refine r_y rfl rfl (y_eqagg (dd := 6) (ys := encAct ⟨3, 0, 0, 0⟩) rfl rfl en53 ia53 rfl Try.eqGuardType53 rfl (alike_act _ ⟨3, 0, 0, 0⟩)) ?_
      refine r_y rfl rfl (y_assign rfl) ?_
      refine r_nil ?_
      refine hK8 _ _ _ ?_
      clear hK8 K8
      refine c_ret ?_
      refine e_ret 1 hm (res_tmps rfl) ?_
      refine ⟨congrArg Value.bool ?_, rfl⟩
      first | (simp_all [actSound, ceq_act]; done) | (simp_all [actSound, ceq_act]; omega) | (simp_all [actSound, ceq_act]; intros; omega) | (rw [Bool.eq_iff_iff]; simp_all [actSound, ceq_act]; done)
set_option maxRecDepth 100000 in
theorem actSound1_ok (a : ActD) (m : Snap) (H : Hp) : Fn Try.prog 137 [.agg (encAct a).toArray] m H (fun v _ H' => v = .bool (!actSound a) ∧ H' = H) := by
  have hm : m.le m := Snap.le.refl m
  refine fn_end Try.func137 rfl rfl rfl ?_
  refine c_seq (fun K0 hK0 => ?_)
  refine c_region ?_
  refine r_s rfl ?_
  refine s_box_a rfl rfl (fun b0 => ?_)
  refine r_y rfl rfl (y_assign rfl) ?_
  refine r_nil ?_
  refine hK0 _ _ _ ?_
  clear hK0 K0
  refine c_seq (fun K1 hK1 => ?_)
  refine c_region ?_
  refine r_y rfl rfl (y_load_a (cs := encAct a) rfl ts53 (RdA.blk (i := 0) rfl rfl)) ?_
  refine r_s rfl ?_
  refine s_call0 rfl Try.call138 rfl (actsound_ok a _ _) ?_
  rintro _ m2 _ hm2 ⟨rfl, rfl⟩
  replace hm := hm.trans hm2
  clear hm2
  refine r_y rfl rfl (y_not rfl) ?_
  refine r_y rfl rfl (y_assign rfl) ?_
  refine r_nil ?_
  refine hK1 _ _ _ ?_
  clear hK1 K1
  refine c_ret ?_
  refine e_ret 1 hm (res_tmps rfl) ?_
  exact ⟨rfl, rfl⟩
set_option maxRecDepth 100000 in
theorem actsSound_ok (s : Sl) (l : List ActD) (m : Snap) (H : Hp) (hz : FzA m s l) : Fn Try.prog 91 [s.v] m H (fun v _ H' => v = .bool (actsSound l) ∧ H' = H) := by
  have hl := hz.lenA
  have hm : m.le m := Snap.le.refl m
  refine fn_end Try.func91 rfl rfl rfl ?_
  refine c_seq (fun K0 hK0 => ?_)
  refine c_region ?_
  refine r_y rfl rfl (y_assign rfl) ?_
  refine r_nil ?_
  refine hK0 _ _ _ ?_
  clear hK0 K0
  refine c_seq (fun K1 hK1 => ?_)
  refine c_region ?_
  refine r_y rfl rfl (y_move rfl) ?_
  refine r_y rfl rfl (y_len tl30 rfl) ?_
  refine r_y rfl rfl (y_iop rfl rfl rfl) ?_
  refine r_y rfl rfl (y_move rfl) ?_
  refine r_split (j := 3) rfl (fun h0 => ?_) (fun h0 => ?_)
  ·
    refine r_yg rfl h0 rfl (y_move rfl) ?_
    refine r_sg rfl h0 ?_
    refine s_call0 rfl Try.call136 rfl (hasActs_ok s l 137 [] (fun a => !actSound a) _ _ hz Try.call137 (fun m' x _ _ => actSound1_ok x m' _)) ?_
    rintro _ m2 _ hm2 ⟨rfl, rfl⟩
    replace hm := hm.trans hm2
    replace hz := hz.mono hm2
    clear hm2
    refine r_yg rfl h0 rfl (y_not rfl) ?_
    refine r_y rfl rfl (y_pickt rfl h0 rfl) ?_
    refine r_y rfl rfl (y_assign rfl) ?_
    refine r_nil ?_
    refine hK1 _ _ _ ?_
    clear hK1 K1
    refine c_ret ?_
    refine e_ret 0 hm (res_tmps rfl) ?_
    refine ⟨congrArg Value.bool ?_, rfl⟩
    first | (simp_all [actsSound]; done) | (simp_all [actsSound]; omega) | (simp_all [actsSound]; intros; omega) | (rw [Bool.eq_iff_iff]; simp_all [actsSound]; done)
  ·
    refine r_no' rfl rfl h0 ?_
    refine r_no' rfl rfl h0 ?_
    refine r_no' rfl rfl h0 ?_
    refine r_y rfl rfl (y_pickf rfl h0 rfl) ?_
    refine r_y rfl rfl (y_assign rfl) ?_
    refine r_nil ?_
    refine hK1 _ _ _ ?_
    clear hK1 K1
    refine c_ret ?_
    refine e_ret 0 hm (res_tmps rfl) ?_
    refine ⟨congrArg Value.bool ?_, rfl⟩
    first | (simp_all [actsSound]; done) | (simp_all [actsSound]; omega) | (simp_all [actsSound]; intros; omega) | (rw [Bool.eq_iff_iff]; simp_all [actsSound]; done)
set_option maxRecDepth 100000 in
theorem spanM_ok (n k : Int) (m : Snap) (H : Hp) : Fn Try.prog 92 [.int .i64 n, .int .i64 k] m H (fun v _ H' => v = .bool (span n k) ∧ H' = H) := by
  have hm : m.le m := Snap.le.refl m
  refine fn_end Try.func92 rfl rfl rfl ?_
  refine c_seq (fun K0 hK0 => ?_)
  refine c_region ?_
  refine r_y rfl rfl (y_assign rfl) ?_
  refine r_nil ?_
  refine hK0 _ _ _ ?_
  clear hK0 K0
  refine c_seq (fun K1 hK1 => ?_)
  refine c_region ?_
  refine r_y rfl rfl (y_move rfl) ?_
  refine r_y rfl rfl (y_iop rfl rfl rfl) ?_
  refine r_y rfl rfl (y_move rfl) ?_
  refine r_split (j := 2) rfl (fun h0 => ?_) (fun h0 => ?_)
  ·
    refine r_yg rfl h0 rfl (y_move rfl) ?_
    refine r_yg rfl h0 rfl (y_move rfl) ?_
    refine r_yg rfl h0 rfl (y_iop rfl rfl rfl) ?_
    refine r_y rfl rfl (y_pickt rfl h0 rfl) ?_
    refine r_y rfl rfl (y_assign rfl) ?_
    refine r_nil ?_
    refine hK1 _ _ _ ?_
    clear hK1 K1
    refine c_ret ?_
    refine e_ret 0 hm (res_tmps rfl) ?_
    refine ⟨congrArg Value.bool ?_, rfl⟩
    first | (simp_all [span]; done) | (simp_all [span]; omega) | (simp_all [span]; intros; omega) | (rw [Bool.eq_iff_iff]; simp_all [span]; done)
  ·
    refine r_no' rfl rfl h0 ?_
    refine r_no' rfl rfl h0 ?_
    refine r_no' rfl rfl h0 ?_
    refine r_y rfl rfl (y_pickf rfl h0 rfl) ?_
    refine r_y rfl rfl (y_assign rfl) ?_
    refine r_nil ?_
    refine hK1 _ _ _ ?_
    clear hK1 K1
    refine c_ret ?_
    refine e_ret 0 hm (res_tmps rfl) ?_
    refine ⟨congrArg Value.bool ?_, rfl⟩
    first | (simp_all [span]; done) | (simp_all [span]; omega) | (simp_all [span]; intros; omega) | (rw [Bool.eq_iff_iff]; simp_all [span]; done)
set_option maxRecDepth 100000 in
theorem spanR_ok (n k : Int) (m : Snap) (H : Hp) : Fn Try.prog 120 [.int .i64 n, .int .i64 k] m H (fun v _ H' => v = .bool (span n k) ∧ H' = H) := by
  have hm : m.le m := Snap.le.refl m
  refine fn_end Try.func120 rfl rfl rfl ?_
  refine c_seq (fun K0 hK0 => ?_)
  refine c_region ?_
  refine r_y rfl rfl (y_assign rfl) ?_
  refine r_nil ?_
  refine hK0 _ _ _ ?_
  clear hK0 K0
  refine c_seq (fun K1 hK1 => ?_)
  refine c_region ?_
  refine r_y rfl rfl (y_move rfl) ?_
  refine r_y rfl rfl (y_iop rfl rfl rfl) ?_
  refine r_y rfl rfl (y_move rfl) ?_
  refine r_split (j := 2) rfl (fun h0 => ?_) (fun h0 => ?_)
  ·
    refine r_yg rfl h0 rfl (y_move rfl) ?_
    refine r_yg rfl h0 rfl (y_move rfl) ?_
    refine r_yg rfl h0 rfl (y_iop rfl rfl rfl) ?_
    refine r_y rfl rfl (y_pickt rfl h0 rfl) ?_
    refine r_y rfl rfl (y_assign rfl) ?_
    refine r_nil ?_
    refine hK1 _ _ _ ?_
    clear hK1 K1
    refine c_ret ?_
    refine e_ret 0 hm (res_tmps rfl) ?_
    refine ⟨congrArg Value.bool ?_, rfl⟩
    first | (simp_all [span]; done) | (simp_all [span]; omega) | (simp_all [span]; intros; omega) | (rw [Bool.eq_iff_iff]; simp_all [span]; done)
  ·
    refine r_no' rfl rfl h0 ?_
    refine r_no' rfl rfl h0 ?_
    refine r_no' rfl rfl h0 ?_
    refine r_y rfl rfl (y_pickf rfl h0 rfl) ?_
    refine r_y rfl rfl (y_assign rfl) ?_
    refine r_nil ?_
    refine hK1 _ _ _ ?_
    clear hK1 K1
    refine c_ret ?_
    refine e_ret 0 hm (res_tmps rfl) ?_
    refine ⟨congrArg Value.bool ?_, rfl⟩
    first | (simp_all [span]; done) | (simp_all [span]; omega) | (simp_all [span]; intros; omega) | (rw [Bool.eq_iff_iff]; simp_all [span]; done)
set_option maxRecDepth 100000 in
theorem plain_ok (a : ModD) (s : Sl) (m : Snap) (H : Hp) : Fn Try.prog 93 [.agg (encMod a s).toArray] m H (fun v _ H' => v = .bool (modPlain a) ∧ H' = H) := by
  have hm : m.le m := Snap.le.refl m
  refine fn_end Try.func93 rfl rfl rfl ?_
  refine c_seq (fun K0 hK0 => ?_)
  refine c_region ?_
  refine r_s rfl ?_
  refine s_box_a rfl rfl (fun b0 => ?_)
  refine r_y rfl rfl (y_assign rfl) ?_
  refine r_nil ?_
  refine hK0 _ _ _ ?_
  clear hK0 K0
  refine c_seq (fun K1 hK1 => ?_)
  refine c_region ?_
  refine r_y rfl rfl (y_fieldAddr rfl At.lit fo32_4 rfl) ?_
  refine r_y rfl rfl (y_load_s rfl ts3 (RdS.blk (i := 0) rfl rfl)) ?_
  refine r_y rfl rfl (y_iop rfl rfl rfl) ?_
  refine r_y rfl rfl (y_move rfl) ?_
  refine r_split (j := 3) rfl (fun h0 => ?_) (fun h0 => ?_)
  ·
    refine r_yg rfl h0 rfl (y_fieldAddr rfl At.lit fo32_5 rfl) ?_
    refine r_yg rfl h0 rfl (y_load_s rfl ts3 (RdS.blk (i := 0) rfl rfl)) ?_
    refine r_yg rfl h0 rfl (y_iop rfl rfl rfl) ?_
    refine r_y rfl rfl (y_pickt rfl h0 rfl) ?_
    refine r_y rfl rfl (y_move rfl) ?_
    refine r_split (j := 8) rfl (fun h1 => ?_) (fun h1 => ?_)
    ·
      refine r_yg rfl h1 rfl (y_fieldAddr rfl At.lit fo32_7 rfl) ?_
      refine r_yg rfl h1 rfl (y_load_s rfl ts4 (RdS.blk (i := 0) rfl rfl)) ?_
      refine r_yg rfl h1 rfl (y_not rfl) ?_
      refine r_y rfl rfl (y_pickt rfl h1 rfl) ?_
      refine r_y rfl rfl (y_assign rfl) ?_
      refine r_nil ?_
      refine hK1 _ _ _ ?_
      clear hK1 K1
      refine c_ret ?_
      refine e_ret 1 hm (res_tmps rfl) ?_
      refine ⟨congrArg Value.bool ?_, rfl⟩
      first | (simp_all [modPlain]; done) | (simp_all [modPlain]; omega) | (simp_all [modPlain]; intros; omega) | (rw [Bool.eq_iff_iff]; simp_all [modPlain]; done)
    ·
      refine r_no' rfl rfl h1 ?_
      refine r_no' rfl rfl h1 ?_
      refine r_no' rfl rfl h1 ?_
      refine r_y rfl rfl (y_pickf rfl h1 rfl) ?_
      refine r_y rfl rfl (y_assign rfl) ?_
      refine r_nil ?_
      refine hK1 _ _ _ ?_
      clear hK1 K1
      refine c_ret ?_
      refine e_ret 1 hm (res_tmps rfl) ?_
      refine ⟨congrArg Value.bool ?_, rfl⟩
      first | (simp_all [modPlain]; done) | (simp_all [modPlain]; omega) | (simp_all [modPlain]; intros; omega) | (rw [Bool.eq_iff_iff]; simp_all [modPlain]; done)
  ·
    refine r_no' rfl rfl h0 ?_
    refine r_no' rfl rfl h0 ?_
    refine r_no' rfl rfl h0 ?_
    refine r_y rfl rfl (y_pickf rfl h0 rfl) ?_
    refine r_y rfl rfl (y_move rfl) ?_
    refine r_no' rfl rfl rfl ?_
    refine r_no' rfl rfl rfl ?_
    refine r_no' rfl rfl rfl ?_
    refine r_y rfl rfl (y_pickf rfl rfl rfl) ?_
    refine r_y rfl rfl (y_assign rfl) ?_
    refine r_nil ?_
    refine hK1 _ _ _ ?_
    clear hK1 K1
    refine c_ret ?_
    refine e_ret 1 hm (res_tmps rfl) ?_
    refine ⟨congrArg Value.bool ?_, rfl⟩
    first | (simp_all [modPlain]; done) | (simp_all [modPlain]; omega) | (simp_all [modPlain]; intros; omega) | (rw [Bool.eq_iff_iff]; simp_all [modPlain]; done)
end Go.Aw
namespace Go.Aw
open Go Go.Proofs
theorem ts32 : tshape Try.prog 32 = some (true, 31) := by kernel_rfl
theorem fo50_0 : fieldOff Try.prog 50 0 = some 0 := by kernel_rfl
theorem fo50_2 : fieldOff Try.prog 50 2 = some 25 := by kernel_rfl
theorem fo50_1 : fieldOff Try.prog 50 1 = some 24 := by kernel_rfl
theorem fo50_3 : fieldOff Try.prog 50 3 = some 26 := by kernel_rfl
theorem fo50_4 : fieldOff Try.prog 50 4 = some 27 := by kernel_rfl
theorem fo50_5 : fieldOff Try.prog 50 5 = some 28 := by kernel_rfl
theorem fo50_6 : fieldOff Try.prog 50 6 = some 29 := by kernel_rfl
theorem fo50_7 : fieldOff Try.prog 50 7 = some 30 := by kernel_rfl
theorem fo50_8 : fieldOff Try.prog 50 8 = some 31 := by kernel_rfl
theorem tl181 : tslice Try.prog 181 = some (25, 1) := by kernel_rfl
theorem tl77 : tslice Try.prog 77 = some (3, 1) := by kernel_rfl
theorem ts50 : tshape Try.prog 50 = some (true, 32) := by kernel_rfl
theorem tl33 : tslice Try.prog 33 = some (50, 32) := by kernel_rfl
theorem tz50 : tzero Try.prog 50 = some [.int .u64 0, .int .u64 0, .int .u64 0, .int .u64 0, .int .u64 0, .int .u64 0, .int .u64 0, .int .u64 0, .int .u64 0, .int .u64 0, .int .u64 0, .int .u64 0, .int .u64 0, .int .u64 0, .int .u64 0, .int .u64 0, .int .u64 0, .int .u64 0, .int .u64 0, .int .u64 0, .int .u64 0, .int .u64 0, .int .u64 0, .int .u64 0, .int .i64 0, .slice none 0 0, .int .i64 0, .int .i64 0, .int .i64 0, .int .i64 0, .int .i64 0, .int .i64 0] := by kernel_rfl
theorem tz32 : tzero Try.prog 32 = some [.int .i64 0, .int .u64 0, .int .u64 0, .int .u64 0, .int .u64 0, .int .u64 0, .int .u64 0, .int .u64 0, .int .u64 0, .int .u64 0, .int .u64 0, .int .u64 0, .int .u64 0, .int .u64 0, .int .u64 0, .int .u64 0, .int .u64 0, .int .u64 0, .int .u64 0, .int .u64 0, .int .u64 0, .int .u64 0, .int .u64 0, .int .u64 0, .int .u64 0, .int .i64 0, .slice none 0 0, .int .i64 0, .int .i64 0, .int .i64 0, .bool false] := by kernel_rfl
theorem fk32 : fieldsKnown Try.prog 32 = true := by kernel_rfl
set_option maxRecDepth 100000 in
theorem modSound_ok (a : ModD) (s : Sl) (m : Snap) (H : Hp) (hz : FzA m s a.acts) : Fn Try.prog 36 [.agg (encMod a s).toArray] m H (fun v _ H' => v = .bool (modSound a) ∧ H' = H) := by
  have hm : m.le m := Snap.le.refl m
  refine fn_end Try.func36 rfl rfl rfl ?_
  refine c_seq (fun K0 hK0 => ?_)
  refine c_region ?_
  refine r_s rfl ?_
  refine s_box_a rfl rfl (fun b0 => ?_)
  refine r_y rfl rfl (y_assign rfl) ?_
  refine r_nil ?_
  refine hK0 _ _ _ ?_
  clear hK0 K0
  refine c_seq (fun K1 hK1 => ?_)
  refine c_seq (fun K2 hK2 => ?_)
  refine c_region ?_
  refine r_y rfl rfl (y_fieldAddr rfl At.lit fo32_1 rfl) ?_
  refine r_y rfl rfl (y_load_a (cs := encCube a.m) rfl ts29 (RdA.blk (i := 0) rfl rfl)) ?_
  refine r_s rfl ?_
  refine s_call0 rfl Try.call90 rfl (cubeSound_ok a.m _ _) ?_
  rintro _ m2 _ hm2 ⟨rfl, rfl⟩
  replace hm := hm.trans hm2
  replace hz := hz.mono hm2
  clear hm2
  refine r_y rfl rfl (y_not rfl) ?_
  refine r_y rfl rfl (y_move rfl) ?_
  refine r_split (j := 4) rfl (fun h0 => ?_) (fun h0 => ?_)
  ·
    refine r_no' rfl rfl h0 ?_
    refine r_no' rfl rfl h0 ?_
    refine r_no' rfl rfl h0 ?_
    refine r_no' rfl rfl h0 ?_
    refine r_y rfl rfl (y_pickt rfl h0 rfl) ?_
    refine r_y rfl rfl (y_move rfl) ?_
    refine r_no' rfl rfl rfl ?_
    refine r_no' rfl rfl rfl ?_
    refine r_no' rfl rfl rfl ?_
    refine r_no' rfl rfl rfl ?_
    refine r_y rfl rfl (y_pickt rfl rfl rfl) ?_
    refine r_y rfl rfl (y_move rfl) ?_
    refine r_no' rfl rfl rfl ?_
    refine r_no' rfl rfl rfl ?_
    refine r_no' rfl rfl rfl ?_
    refine r_no' rfl rfl rfl ?_
    refine r_y rfl rfl (y_pickt rfl rfl rfl) ?_
    refine r_nil ?_
    refine hK2 _ _ _ ?_
    clear hK2 K2
    refine c_ift rfl rfl ?_
    refine c_seq (fun K3 hK3 => ?_)
    refine c_region ?_
    refine r_y rfl rfl (y_assign rfl) ?_
    refine r_nil ?_
    refine hK3 _ _ _ ?_
    clear hK3 K3
    refine c_ret ?_
    refine e_ret 1 hm (res_tmps rfl) ?_
    have hl := hz.lenA
    refine ⟨congrArg Value.bool ?_, rfl⟩
    first | (simp_all [modSound]; done) | (simp_all [modSound]; omega) | (simp_all [modSound]; intros; omega) | (rw [Bool.eq_iff_iff]; simp_all [modSound]; done)
  ·
    refine r_yg rfl h0 rfl (y_fieldAddr rfl At.lit fo32_3 rfl) ?_
    refine r_yg rfl h0 rfl (y_load_s rfl ts30 (RdS.blk (i := 0) rfl rfl)) ?_
    refine r_sg rfl h0 ?_
    refine s_call0 rfl Try.call91 rfl (actsSound_ok s a.acts _ _ hz) ?_
    rintro _ m2 _ hm2 ⟨rfl, rfl⟩
    replace hm := hm.trans hm2
    replace hz := hz.mono hm2
    clear hm2
    refine r_yg rfl h0 rfl (y_not rfl) ?_
    refine r_y rfl rfl (y_pickf rfl h0 rfl) ?_
    refine r_y rfl rfl (y_move rfl) ?_
    refine r_split (j := 10) rfl (fun h1 => ?_) (fun h1 => ?_)
    ·
      refine r_no' rfl rfl h1 ?_
      refine r_no' rfl rfl h1 ?_
      refine r_no' rfl rfl h1 ?_
      refine r_no' rfl rfl h1 ?_
      refine r_y rfl rfl (y_pickt rfl h1 rfl) ?_
      refine r_y rfl rfl (y_move rfl) ?_
      refine r_no' rfl rfl rfl ?_
      refine r_no' rfl rfl rfl ?_
      refine r_no' rfl rfl rfl ?_
      refine r_no' rfl rfl rfl ?_
      refine r_y rfl rfl (y_pickt rfl rfl rfl) ?_
      refine r_nil ?_
      refine hK2 _ _ _ ?_
      clear hK2 K2
      refine c_ift rfl rfl ?_
      refine c_seq (fun K4 hK4 => ?_)
      refine c_region ?_
      refine r_y rfl rfl (y_assign rfl) ?_
      refine r_nil ?_
      refine hK4 _ _ _ ?_
      clear hK4 K4
      refine c_ret ?_
      refine e_ret 1 hm (res_tmps rfl) ?_
      have hl := hz.lenA
      refine ⟨congrArg Value.bool ?_, rfl⟩
      first | (simp_all [modSound]; done) | (simp_all [modSound]; omega) | (simp_all [modSound]; intros; omega) | (rw [Bool.eq_iff_iff]; simp_all [modSound]; done)
    ·
      refine r_yg rfl h1 rfl (y_fieldAddr rfl At.lit fo32_2 rfl) ?_
      refine r_yg rfl h1 rfl (y_load_s rfl ts3 (RdS.blk (i := 0) rfl rfl)) ?_
      refine r_sg rfl h1 ?_
      refine s_call0 rfl Try.call92 rfl (spanM_ok _ _ _ _) ?_
      rintro _ m2 _ hm2 ⟨rfl, rfl⟩
      replace hm := hm.trans hm2
      replace hz := hz.mono hm2
      clear hm2
      refine r_yg rfl h1 rfl (y_not rfl) ?_
      refine r_y rfl rfl (y_pickf rfl h1 rfl) ?_
      refine r_y rfl rfl (y_move rfl) ?_
      refine r_split (j := 16) rfl (fun h2 => ?_) (fun h2 => ?_)
      ·
        refine r_no' rfl rfl h2 ?_
        refine r_no' rfl rfl h2 ?_
        refine r_no' rfl rfl h2 ?_
        refine r_no' rfl rfl h2 ?_
        refine r_y rfl rfl (y_pickt rfl h2 rfl) ?_
        refine r_nil ?_
        refine hK2 _ _ _ ?_
        clear hK2 K2
        refine c_ift rfl rfl ?_
        refine c_seq (fun K5 hK5 => ?_)
        refine c_region ?_
        refine r_y rfl rfl (y_assign rfl) ?_
        refine r_nil ?_
        refine hK5 _ _ _ ?_
        clear hK5 K5
        refine c_ret ?_
        refine e_ret 1 hm (res_tmps rfl) ?_
        have hl := hz.lenA
        refine ⟨congrArg Value.bool ?_, rfl⟩
        first | (simp_all [modSound]; done) | (simp_all [modSound]; omega) | (simp_all [modSound]; intros; omega) | (rw [Bool.eq_iff_iff]; simp_all [modSound]; done)
      ·
        refine r_yg rfl h2 rfl (y_fieldAddr rfl At.lit fo32_6 rfl) ?_
        refine r_yg rfl h2 rfl (y_load_s rfl ts3 (RdS.blk (i := 0) rfl rfl)) ?_
        refine r_sg rfl h2 ?_
        refine s_call0 rfl Try.call92 rfl (spanM_ok _ _ _ _) ?_
        rintro _ m2 _ hm2 ⟨rfl, rfl⟩
        replace hm := hm.trans hm2
        replace hz := hz.mono hm2
        clear hm2
        refine r_yg rfl h2 rfl (y_not rfl) ?_
        refine r_y rfl rfl (y_pickf rfl h2 rfl) ?_
        refine r_nil ?_
        refine hK2 _ _ _ ?_
        clear hK2 K2
        refine c_cond rfl (fun h3 => ?_) (fun h3 => ?_)
        ·
          refine c_seq (fun K6 hK6 => ?_)
          refine c_region ?_
          refine r_y rfl rfl (y_assign rfl) ?_
          refine r_nil ?_
          refine hK6 _ _ _ ?_
          clear hK6 K6
          refine c_ret ?_
          refine e_ret 1 hm (res_tmps rfl) ?_
          have hl := hz.lenA
          refine ⟨congrArg Value.bool ?_, rfl⟩
          first | (simp_all [modSound]; done) | (simp_all [modSound]; omega) | (simp_all [modSound]; intros; omega) | (rw [Bool.eq_iff_iff]; simp_all [modSound]; done)
        ·
          refine c_skip ?_
          refine hK1 _ _ _ ?_
          clear hK1 K1
          refine c_seq (fun K7 hK7 => ?_)
          refine c_seq (fun K8 hK8 => ?_)
          refine c_region ?_
          refine r_y rfl rfl (y_fieldAddr rfl At.lit fo32_0 rfl) ?_
          refine r_y rfl rfl (y_load_s rfl ts3 (RdS.blk (i := 0) rfl rfl)) ?_
          refine r_nil ?_
          refine hK8 _ _ _ ?_
          clear hK8 K8
          refine c_block ?_
          refine c_seq (fun K9 hK9 => ?_)
          refine c_region ?_
          refine r_y rfl rfl (y_iop rfl rfl rfl) ?_
          refine r_y rfl rfl (y_assign rfl) ?_
          refine r_nil ?_
          refine hK9 _ _ _ ?_
          clear hK9 K9
          refine c_cond rfl (fun h4 => ?_) (fun h4 => ?_)
          ·
            refine c_seq (fun K10 hK10 => ?_)
            refine c_region ?_
            refine r_y rfl rfl (y_fieldAddr rfl At.lit fo32_4 rfl) ?_
            refine r_y rfl rfl (y_load_s rfl ts3 (RdS.blk (i := 0) rfl rfl)) ?_
            refine r_s rfl ?_
            refine s_call0 rfl Try.call92 rfl (spanM_ok _ _ _ _) ?_
            rintro _ m2 _ hm2 ⟨rfl, rfl⟩
            replace hm := hm.trans hm2
            replace hz := hz.mono hm2
            clear hm2
            refine r_y rfl rfl (y_move rfl) ?_
            refine r_split (j := 3) rfl (fun h5 => ?_) (fun h5 => ?_)
            ·
              refine r_yg rfl h5 rfl (y_fieldAddr rfl At.lit fo32_5 rfl) ?_
              refine r_yg rfl h5 rfl (y_load_s rfl ts3 (RdS.blk (i := 0) rfl rfl)) ?_
              refine r_sg rfl h5 ?_
              refine s_call0 rfl Try.call92 rfl (spanM_ok _ _ _ _) ?_
              rintro _ m2 _ hm2 ⟨rfl, rfl⟩
              replace hm := hm.trans hm2
              replace hz := hz.mono hm2
              clear hm2
              refine r_y rfl rfl (y_pickt rfl h5 rfl) ?_
              refine r_y rfl rfl (y_assign rfl) ?_
              refine r_nil ?_
              refine hK10 _ _ _ ?_
              clear hK10 K10
              refine c_ret ?_
              refine e_ret 1 hm (res_tmps rfl) ?_
              have hl := hz.lenA
              refine ⟨congrArg Value.bool ?_, rfl⟩
              first | (simp_all [modSound]; done) | (simp_all [modSound]; omega) | (simp_all [modSound]; intros; omega) | (rw [Bool.eq_iff_iff]; simp_all [modSound]; done)
            ·
              refine r_no' rfl rfl h5 ?_
              refine r_no' rfl rfl h5 ?_
              refine r_no' rfl rfl h5 ?_
              refine r_y rfl rfl (y_pickf rfl h5 rfl) ?_
              refine r_y rfl rfl (y_assign rfl) ?_
              refine r_nil ?_
              refine hK10 _ _ _ ?_
              clear hK10 K10
              refine c_ret ?_
              refine e_ret 1 hm (res_tmps rfl) ?_
              have hl := hz.lenA
              refine ⟨congrArg Value.bool ?_, rfl⟩
              first | (simp_all [modSound]; done) | (simp_all [modSound]; omega) | (simp_all [modSound]; intros; omega) | (rw [Bool.eq_iff_iff]; simp_all [modSound]; done)
          ·
            refine c_seq (fun K11 hK11 => ?_)
            refine c_region ?_
            refine r_y rfl rfl (y_iop rfl rfl rfl) ?_
            refine r_y rfl rfl (y_assign rfl) ?_
            refine r_nil ?_
            refine hK11 _ _ _ ?_
            clear hK11 K11
            refine c_cond rfl (fun h6 => ?_) (fun h6 => ?_)
            ·
              refine c_seq (fun K12 hK12 => ?_)
              refine c_region ?_
              refine r_y rfl rfl (y_load_a (cs := encMod a s) rfl ts32 (RdA.blk (i := 0) rfl rfl)) ?_
              refine r_s rfl ?_
              refine s_call0 rfl Try.call93 rfl (plain_ok a s _ _) ?_
              rintro _ m2 _ hm2 ⟨rfl, rfl⟩
              replace hm := hm.trans hm2
              replace hz := hz.mono hm2
              clear hm2
              refine r_y rfl rfl (y_move rfl) ?_
              refine r_split (j := 2) rfl (fun h7 => ?_) (fun h7 => ?_)
              ·
                refine r_yg rfl h7 rfl (y_fieldAddr rfl At.lit fo32_2 rfl) ?_
                refine r_yg rfl h7 rfl (y_load_s rfl ts3 (RdS.blk (i := 0) rfl rfl)) ?_
                refine r_yg rfl h7 rfl (y_iop rfl rfl rfl) ?_
                refine r_y rfl rfl (y_pickt rfl h7 rfl) ?_
                refine r_y rfl rfl (y_assign rfl) ?_
                refine r_nil ?_
                refine hK12 _ _ _ ?_
                clear hK12 K12
                refine c_ret ?_
                refine e_ret 1 hm (res_tmps rfl) ?_
                have hl := hz.lenA
                refine ⟨congrArg Value.bool ?_, rfl⟩
                first | (simp_all [modSound]; done) | (simp_all [modSound]; omega) | (simp_all [modSound]; intros; omega) | (rw [Bool.eq_iff_iff]; simp_all [modSound]; done)
              ·
                refine r_no' rfl rfl h7 ?_
                refine r_no' rfl rfl h7 ?_
                refine r_no' rfl rfl h7 ?_
                refine r_y rfl rfl (y_pickf rfl h7 rfl) ?_
                refine r_y rfl rfl (y_assign rfl) ?_
                refine r_nil ?_
                refine hK12 _ _ _ ?_
                clear hK12 K12
                refine c_ret ?_
                refine e_ret 1 hm (res_tmps rfl) ?_
                have hl := hz.lenA
                refine ⟨congrArg Value.bool ?_, rfl⟩
                first | (simp_all [modSound]; done) | (simp_all [modSound]; omega) | (simp_all [modSound]; intros; omega) | (rw [Bool.eq_iff_iff]; simp_all [modSound]; done)
            ·
              refine c_seq (fun K13 hK13 => ?_)
              refine c_region ?_
              refine r_y rfl rfl (y_iop rfl rfl rfl) ?_
              refine r_y rfl rfl (y_assign rfl) ?_
              refine r_nil ?_
              refine hK13 _ _ _ ?_
              clear hK13 K13
              refine c_cond rfl (fun h8 => ?_) (fun h8 => ?_)
              ·
                refine c_seq (fun K14 hK14 => ?_)
                refine c_region ?_
                refine r_y rfl rfl (y_load_a (cs := encMod a s) rfl ts32 (RdA.blk (i := 0) rfl rfl)) ?_
                refine r_s rfl ?_
                refine s_call0 rfl Try.call93 rfl (plain_ok a s _ _) ?_
                rintro _ m2 _ hm2 ⟨rfl, rfl⟩
                replace hm := hm.trans hm2
                replace hz := hz.mono hm2
                clear hm2
                refine r_y rfl rfl (y_move rfl) ?_
                refine r_split (j := 2) rfl (fun h9 => ?_) (fun h9 => ?_)
                ·
                  refine r_yg rfl h9 rfl (y_fieldAddr rfl At.lit fo32_2 rfl) ?_
                  refine r_yg rfl h9 rfl (y_load_s rfl ts3 (RdS.blk (i := 0) rfl rfl)) ?_
                  refine r_yg rfl h9 rfl (y_iop rfl rfl rfl) ?_
                  refine r_y rfl rfl (y_pickt rfl h9 rfl) ?_
                  refine r_y rfl rfl (y_move rfl) ?_
                  refine r_split (j := 7) rfl (fun h10 => ?_) (fun h10 => ?_)
                  ·
                    refine r_yg rfl h10 rfl (y_fieldAddr rfl At.lit fo32_3 rfl) ?_
                    refine r_yg rfl h10 rfl (y_load_s rfl ts30 (RdS.blk (i := 0) rfl rfl)) ?_
                    refine r_yg rfl h10 rfl (y_len tl30 rfl) ?_
                    refine r_yg rfl h10 rfl (y_iop rfl rfl rfl) ?_
                    refine r_y rfl rfl (y_pickt rfl h10 rfl) ?_
                    refine r_y rfl rfl (y_assign rfl) ?_
                    refine r_nil ?_
                    refine hK14 _ _ _ ?_
                    clear hK14 K14
                    refine c_ret ?_
                    refine e_ret 1 hm (res_tmps rfl) ?_
                    have hl := hz.lenA
                    refine ⟨congrArg Value.bool ?_, rfl⟩
                    first | (simp_all [modSound]; done) | (simp_all [modSound]; omega) | (simp_all [modSound]; intros; omega) | (rw [Bool.eq_iff_iff]; simp_all [modSound]; done)
                  ·
                    refine r_no' rfl rfl h10 ?_
                    refine r_no' rfl rfl h10 ?_
                    refine r_no' rfl rfl h10 ?_
                    refine r_no' rfl rfl h10 ?_
                    refine r_y rfl rfl (y_pickf rfl h10 rfl) ?_
                    refine r_y rfl rfl (y_assign rfl) ?_
                    refine r_nil ?_
                    refine hK14 _ _ _ ?_
                    clear hK14 K14
                    refine c_ret ?_
                    refine e_ret 1 hm (res_tmps rfl) ?_
                    have hl := hz.lenA
                    refine ⟨congrArg Value.bool ?_, rfl⟩
                    first | (simp_all [modSound]; done) | (simp_all [modSound]; omega) | (simp_all [modSound]; intros; omega) | (rw [Bool.eq_iff_iff]; simp_all [modSound]; done)
                ·
                  refine r_no' rfl rfl h9 ?_
                  refine r_no' rfl rfl h9 ?_
                  refine r_no' rfl rfl h9 ?_
                  refine r_y rfl rfl (y_pickf rfl h9 rfl) ?_
                  refine r_y rfl rfl (y_move rfl) ?_
                  refine r_no' rfl rfl rfl ?_
                  refine r_no' rfl rfl rfl ?_
                  refine r_no' rfl rfl rfl ?_
                  refine r_no' rfl rfl rfl ?_
                  refine r_y rfl rfl (y_pickf rfl rfl rfl) ?_
                  refine r_y rfl rfl (y_assign rfl) ?_
                  refine r_nil ?_
                  refine hK14 _ _ _ ?_
                  clear hK14 K14
                  refine c_ret ?_
                  refine e_ret 1 hm (res_tmps rfl) ?_
                  have hl := hz.lenA
                  refine ⟨congrArg Value.bool ?_, rfl⟩
                  first | (simp_all [modSound]; done) | (simp_all [modSound]; omega) | (simp_all [modSound]; intros; omega) | (rw [Bool.eq_iff_iff]; simp_all [modSound]; done)
              ·
                refine c_seq (fun K15 hK15 => ?_)
                refine c_region ?_
                refine r_y rfl rfl (y_iop rfl rfl rfl) ?_
                refine r_y rfl rfl (y_assign rfl) ?_
                refine r_nil ?_
                refine hK15 _ _ _ ?_
                clear hK15 K15
                refine c_cond rfl (fun h11 => ?_) (fun h11 => ?_)
                ·
                  refine c_seq (fun K16 hK16 => ?_)
                  refine c_region ?_
                  refine r_y rfl rfl (y_load_a (cs := encMod a s) rfl ts32 (RdA.blk (i := 0) rfl rfl)) ?_
                  refine r_s rfl ?_
                  refine s_call0 rfl Try.call93 rfl (plain_ok a s _ _) ?_
                  rintro _ m2 _ hm2 ⟨rfl, rfl⟩
                  replace hm := hm.trans hm2
                  replace hz := hz.mono hm2
                  clear hm2
                  refine r_y rfl rfl (y_assign rfl) ?_
                  refine r_nil ?_
                  refine hK16 _ _ _ ?_
                  clear hK16 K16
                  refine c_ret ?_
                  refine e_ret 1 hm (res_tmps rfl) ?_
                  have hl := hz.lenA
                  refine ⟨congrArg Value.bool ?_, rfl⟩
                  first | (simp_all [modSound]; done) | (simp_all [modSound]; omega) | (simp_all [modSound]; intros; omega) | (rw [Bool.eq_iff_iff]; simp_all [modSound]; done)
                ·
                  refine c_seq (fun K17 hK17 => ?_)
                  refine c_region ?_
                  refine r_y rfl rfl (y_iop rfl rfl rfl) ?_
                  refine r_y rfl rfl (y_assign rfl) ?_
                  refine r_nil ?_
                  refine hK17 _ _ _ ?_
                  clear hK17 K17
                  refine c_cond rfl (fun h12 => ?_) (fun h12 => ?_)
                  ·
                    refine c_seq (fun K18 hK18 => ?_)
                    refine c_region ?_
                    refine r_y rfl rfl (y_load_a (cs := encMod a s) rfl ts32 (RdA.blk (i := 0) rfl rfl)) ?_
                    refine r_s rfl ?_
                    refine s_call0 rfl Try.call93 rfl (plain_ok a s _ _) ?_
                    rintro _ m2 _ hm2 ⟨rfl, rfl⟩
                    replace hm := hm.trans hm2
                    replace hz := hz.mono hm2
                    clear hm2
                    refine r_y rfl rfl (y_move rfl) ?_
                    refine r_split (j := 2) rfl (fun h13 => ?_) (fun h13 => ?_)
                    ·
                      refine r_yg rfl h13 rfl (y_fieldAddr rfl At.lit fo32_3 rfl) ?_
                      refine r_yg rfl h13 rfl (y_load_s rfl ts30 (RdS.blk (i := 0) rfl rfl)) ?_
                      refine r_yg rfl h13 rfl (y_len tl30 rfl) ?_
                      refine r_yg rfl h13 rfl (y_iop rfl rfl rfl) ?_
                      refine r_y rfl rfl (y_pickt rfl h13 rfl) ?_
                      refine r_y rfl rfl (y_assign rfl) ?_
                      refine r_nil ?_
                      refine hK18 _ _ _ ?_
                      clear hK18 K18
                      refine c_ret ?_
                      refine e_ret 1 hm (res_tmps rfl) ?_
                      have hl := hz.lenA
                      refine ⟨congrArg Value.bool ?_, rfl⟩
                      first | (simp_all [modSound]; done) | (simp_all [modSound]; omega) | (simp_all [modSound]; intros; omega) | (rw [Bool.eq_iff_iff]; simp_all [modSound]; done)
                    ·
                      refine r_no' rfl rfl h13 ?_
                      refine r_no' rfl rfl h13 ?_
                      refine r_no' rfl rfl h13 ?_
                      refine r_no' rfl rfl h13 ?_
                      refine r_y rfl rfl (y_pickf rfl h13 rfl) ?_
                      refine r_y rfl rfl (y_assign rfl) ?_
                      refine r_nil ?_
                      refine hK18 _ _ _ ?_
                      clear hK18 K18
                      refine c_ret ?_
                      refine e_ret 1 hm (res_tmps rfl) ?_
                      have hl := hz.lenA
                      refine ⟨congrArg Value.bool ?_, rfl⟩
                      first | (simp_all [modSound]; done) | (simp_all [modSound]; omega) | (simp_all [modSound]; intros; omega) | (rw [Bool.eq_iff_iff]; simp_all [modSound]; done)
                  ·
                    refine c_skip ?_
                    refine hK7 _ _ _ ?_
                    clear hK7 K7
                    refine c_seq (fun K19 hK19 => ?_)
                    refine c_region ?_
                    refine r_y rfl rfl (y_assign rfl) ?_
                    refine r_nil ?_
                    refine hK19 _ _ _ ?_
                    clear hK19 K19
                    refine c_ret ?_
                    refine e_ret 1 hm (res_tmps rfl) ?_
                    have hl := hz.lenA
                    refine ⟨congrArg Value.bool ?_, rfl⟩
                    first | (simp_all [modSound]; done) | (simp_all [modSound]; omega) | (simp_all [modSound]; intros; omega) | (rw [Bool.eq_iff_iff]; simp_all [modSound]; done)
set_option maxRecDepth 100000 in
theorem ruleSound_ok (a : RuleD) (s : Sl) (m : Snap) (H : Hp) (hz : FzA m s a.acts) : Fn Try.prog 70 [.agg (encRule a s).toArray] m H (fun v _ H' => v = .bool (ruleSound a) ∧ H' = H) := by
  have hm : m.le m := Snap.le.refl m
  refine fn_end Try.func70 rfl rfl rfl ?_
  refine c_seq (fun K0 hK0 => ?_)
  refine c_region ?_
  refine r_s rfl ?_
  refine s_box_a rfl rfl (fun b0 => ?_)
  refine r_y rfl rfl (y_assign rfl) ?_
  refine r_nil ?_
  refine hK0 _ _ _ ?_
  clear hK0 K0
  refine c_seq (fun K1 hK1 => ?_)
  refine c_region ?_
  refine r_y rfl rfl (y_fieldAddr rfl At.lit fo50_0 rfl) ?_
  refine r_y rfl rfl (y_load_a (cs := encCube a.m) rfl ts29 (RdA.blk (i := 0) rfl rfl)) ?_
  refine r_s rfl ?_
  refine s_call0 rfl Try.call90 rfl (cubeSound_ok a.m _ _) ?_
  rintro _ m2 _ hm2 ⟨rfl, rfl⟩
  replace hm := hm.trans hm2
  replace hz := hz.mono hm2
  clear hm2
  refine r_y rfl rfl (y_move rfl) ?_
  refine r_split (j := 3) rfl (fun h0 => ?_) (fun h0 => ?_)
  ·
    refine r_yg rfl h0 rfl (y_fieldAddr rfl At.lit fo50_2 rfl) ?_
    refine r_yg rfl h0 rfl (y_load_s rfl ts30 (RdS.blk (i := 0) rfl rfl)) ?_
    refine r_sg rfl h0 ?_
    refine s_call0 rfl Try.call91 rfl (actsSound_ok s a.acts _ _ hz) ?_
    rintro _ m2 _ hm2 ⟨rfl, rfl⟩
    replace hm := hm.trans hm2
    replace hz := hz.mono hm2
    clear hm2
    refine r_y rfl rfl (y_pickt rfl h0 rfl) ?_
    refine r_y rfl rfl (y_move rfl) ?_
    refine r_split (j := 8) rfl (fun h1 => ?_) (fun h1 => ?_)
    ·
      refine r_yg rfl h1 rfl (y_fieldAddr rfl At.lit fo50_1 rfl) ?_
      refine r_yg rfl h1 rfl (y_load_s rfl ts3 (RdS.blk (i := 0) rfl rfl)) ?_
      refine r_sg rfl h1 ?_
      refine s_call0 rfl Try.call120 rfl (spanR_ok _ _ _ _) ?_
      rintro _ m2 _ hm2 ⟨rfl, rfl⟩
      replace hm := hm.trans hm2
      replace hz := hz.mono hm2
      clear hm2
      refine r_y rfl rfl (y_pickt rfl h1 rfl) ?_
      refine r_y rfl rfl (y_move rfl) ?_
      refine r_split (j := 13) rfl (fun h2 => ?_) (fun h2 => ?_)
      ·
        refine r_yg rfl h2 rfl (y_fieldAddr rfl At.lit fo50_3 rfl) ?_
        refine r_yg rfl h2 rfl (y_load_s rfl ts3 (RdS.blk (i := 0) rfl rfl)) ?_
        refine r_sg rfl h2 ?_
        refine s_call0 rfl Try.call120 rfl (spanR_ok _ _ _ _) ?_
        rintro _ m2 _ hm2 ⟨rfl, rfl⟩
        replace hm := hm.trans hm2
        replace hz := hz.mono hm2
        clear hm2
        refine r_y rfl rfl (y_pickt rfl h2 rfl) ?_
        refine r_y rfl rfl (y_move rfl) ?_
        refine r_split (j := 18) rfl (fun h3 => ?_) (fun h3 => ?_)
        ·
          refine r_yg rfl h3 rfl (y_fieldAddr rfl At.lit fo50_4 rfl) ?_
          refine r_yg rfl h3 rfl (y_load_s rfl ts3 (RdS.blk (i := 0) rfl rfl)) ?_
          refine r_sg rfl h3 ?_
          refine s_call0 rfl Try.call120 rfl (spanR_ok _ _ _ _) ?_
          rintro _ m2 _ hm2 ⟨rfl, rfl⟩
          replace hm := hm.trans hm2
          replace hz := hz.mono hm2
          clear hm2
          refine r_y rfl rfl (y_pickt rfl h3 rfl) ?_
          refine r_y rfl rfl (y_move rfl) ?_
          refine r_split (j := 23) rfl (fun h4 => ?_) (fun h4 => ?_)
          ·
            refine r_yg rfl h4 rfl (y_fieldAddr rfl At.lit fo50_5 rfl) ?_
            refine r_yg rfl h4 rfl (y_load_s rfl ts3 (RdS.blk (i := 0) rfl rfl)) ?_
            refine r_sg rfl h4 ?_
            refine s_call0 rfl Try.call120 rfl (spanR_ok _ _ _ _) ?_
            rintro _ m2 _ hm2 ⟨rfl, rfl⟩
            replace hm := hm.trans hm2
            replace hz := hz.mono hm2
            clear hm2
            refine r_y rfl rfl (y_pickt rfl h4 rfl) ?_
            refine r_y rfl rfl (y_move rfl) ?_
            refine r_split (j := 28) rfl (fun h5 => ?_) (fun h5 => ?_)
            ·
              refine r_yg rfl h5 rfl (y_fieldAddr rfl At.lit fo50_6 rfl) ?_
              refine r_yg rfl h5 rfl (y_load_s rfl ts3 (RdS.blk (i := 0) rfl rfl)) ?_
              refine r_yg rfl h5 rfl (y_fieldAddr rfl At.lit fo50_7 rfl) ?_
              refine r_yg rfl h5 rfl (y_load_s rfl ts3 (RdS.blk (i := 0) rfl rfl)) ?_
              refine r_yg rfl h5 rfl (y_fieldAddr rfl At.lit fo50_8 rfl) ?_
              refine r_yg rfl h5 rfl (y_load_s rfl ts3 (RdS.blk (i := 0) rfl rfl)) ?_
              refine r_yg rfl h5 rfl (y_min3 rfl rfl rfl) ?_
              refine r_yg rfl h5 rfl (y_iop rfl rfl rfl) ?_
              refine r_y rfl rfl (y_pickt rfl h5 rfl) ?_
              refine r_y rfl rfl (y_assign rfl) ?_
              refine r_nil ?_
              refine hK1 _ _ _ ?_
              clear hK1 K1
              refine c_ret ?_
              refine e_ret 1 hm (res_tmps rfl) ?_
              refine ⟨congrArg Value.bool ?_, rfl⟩
              first | (simp_all [ruleSound]; done) | (simp_all [ruleSound]; omega) | (simp_all [ruleSound]; intros; omega) | (rw [Bool.eq_iff_iff]; simp_all [ruleSound]; done)
            ·
              refine r_no' rfl rfl h5 ?_
              refine r_no' rfl rfl h5 ?_
              refine r_no' rfl rfl h5 ?_
              refine r_no' rfl rfl h5 ?_
              refine r_no' rfl rfl h5 ?_
              refine r_no' rfl rfl h5 ?_
              refine r_no' rfl rfl h5 ?_
              refine r_no' rfl rfl h5 ?_
              refine r_y rfl rfl (y_pickf rfl h5 rfl) ?_
              refine r_y rfl rfl (y_assign rfl) ?_
              refine r_nil ?_
              refine hK1 _ _ _ ?_
              clear hK1 K1
              refine c_ret ?_
              refine e_ret 1 hm (res_tmps rfl) ?_
              refine ⟨congrArg Value.bool ?_, rfl⟩
              first | (simp_all [ruleSound]; done) | (simp_all [ruleSound]; omega) | (simp_all [ruleSound]; intros; omega) | (rw [Bool.eq_iff_iff]; simp_all [ruleSound]; done)
          ·
            refine r_no' rfl rfl h4 ?_
            refine r_no' rfl rfl h4 ?_
            refine r_no' rfl rfl h4 ?_
            refine r_y rfl rfl (y_pickf rfl h4 rfl) ?_
            refine r_y rfl rfl (y_move rfl) ?_
            refine r_no' rfl rfl rfl ?_
            refine r_no' rfl rfl rfl ?_
            refine r_no' rfl rfl rfl ?_
            refine r_no' rfl rfl rfl ?_
            refine r_no' rfl rfl rfl ?_
            refine r_no' rfl rfl rfl ?_
            refine r_no' rfl rfl rfl ?_
            refine r_no' rfl rfl rfl ?_
            refine r_y rfl rfl (y_pickf rfl rfl rfl) ?_
            refine r_y rfl rfl (y_assign rfl) ?_
            refine r_nil ?_
            refine hK1 _ _ _ ?_
            clear hK1 K1
            refine c_ret ?_
            refine e_ret 1 hm (res_tmps rfl) ?_
            refine ⟨congrArg Value.bool ?_, rfl⟩
            first | (simp_all [ruleSound]; done) | (simp_all [ruleSound]; omega) | (simp_all [ruleSound]; intros; omega) | (rw [Bool.eq_iff_iff]; simp_all [ruleSound]; done)
        ·
          refine r_no' rfl rfl h3 ?_
          refine r_no' rfl rfl h3 ?_
          refine r_no' rfl rfl h3 ?_
          refine r_y rfl rfl (y_pickf rfl h3 rfl) ?_
          refine r_y rfl rfl (y_move rfl) ?_
          refine r_no' rfl rfl rfl ?_
          refine r_no' rfl rfl rfl ?_
          refine r_no' rfl rfl rfl ?_
          refine r_y rfl rfl (y_pickf rfl rfl rfl) ?_
          refine r_y rfl rfl (y_move rfl) ?_
          refine r_no' rfl rfl rfl ?_
          refine r_no' rfl rfl rfl ?_
          refine r_no' rfl rfl rfl ?_
          refine r_no' rfl rfl rfl ?_
          refine r_no' rfl rfl rfl ?_
          refine r_no' rfl rfl rfl ?_
          refine r_no' rfl rfl rfl ?_
          refine r_no' rfl rfl rfl ?_
          refine r_y rfl rfl (y_pickf rfl rfl rfl) ?_
          refine r_y rfl rfl (y_assign rfl) ?_
          refine r_nil ?_
          refine hK1 _ _ _ ?_
          clear hK1 K1
          refine c_ret ?_
          refine e_ret 1 hm (res_tmps rfl) ?_
          refine ⟨congrArg Value.bool ?_, rfl⟩
          first | (simp_all [ruleSound]; done) | (simp_all [ruleSound]; omega) | (simp_all [ruleSound]; intros; omega) | (rw [Bool.eq_iff_iff]; simp_all [ruleSound]; done)
      ·
        refine r_no' rfl rfl h2 ?_
        refine r_no' rfl rfl h2 ?_
        refine r_no' rfl rfl h2 ?_
        refine r_y rfl rfl (y_pickf rfl h2 rfl) ?_
        refine r_y rfl rfl (y_move rfl) ?_
        refine r_no' rfl rfl rfl ?_
        refine r_no' rfl rfl rfl ?_
        refine r_no' rfl rfl rfl ?_
        refine r_y rfl rfl (y_pickf rfl rfl rfl) ?_
        refine r_y rfl rfl (y_move rfl) ?_
        refine r_no' rfl rfl rfl ?_
        refine r_no' rfl rfl rfl ?_
        refine r_no' rfl rfl rfl ?_
        refine r_y rfl rfl (y_pickf rfl rfl rfl) ?_
        refine r_y rfl rfl (y_move rfl) ?_
        refine r_no' rfl rfl rfl ?_
        refine r_no' rfl rfl rfl ?_
        refine r_no' rfl rfl rfl ?_
        refine r_no' rfl rfl rfl ?_
        refine r_no' rfl rfl rfl ?_
        refine r_no' rfl rfl rfl ?_
        refine r_no' rfl rfl rfl ?_
        refine r_no' rfl rfl rfl ?_
        refine r_y rfl rfl (y_pickf rfl rfl rfl) ?_
        refine r_y rfl rfl (y_assign rfl) ?_
        refine r_nil ?_
        refine hK1 _ _ _ ?_
        clear hK1 K1
        refine c_ret ?_
        refine e_ret 1 hm (res_tmps rfl) ?_
        refine ⟨congrArg Value.bool ?_, rfl⟩
        first | (simp_all [ruleSound]; done) | (simp_all [ruleSound]; omega) | (simp_all [ruleSound]; intros; omega) | (rw [Bool.eq_iff_iff]; simp_all [ruleSound]; done)
    ·
      refine r_no' rfl rfl h1 ?_
      refine r_no' rfl rfl h1 ?_
      refine r_no' rfl rfl h1 ?_
      refine r_y rfl rfl (y_pickf rfl h1 rfl) ?_
      refine r_y rfl rfl (y_move rfl) ?_
      refine r_no' rfl rfl rfl ?_
      refine r_no' rfl rfl rfl ?_
      refine r_no' rfl rfl rfl ?_
      refine r_y rfl rfl (y_pickf rfl rfl rfl) ?_
      refine r_y rfl rfl (y_move rfl) ?_
      refine r_no' rfl rfl rfl ?_
      refine r_no' rfl rfl rfl ?_
      refine r_no' rfl rfl rfl ?_
      refine r_y rfl rfl (y_pickf rfl rfl rfl) ?_
      refine r_y rfl rfl (y_move rfl) ?_
      refine r_no' rfl rfl rfl ?_
      refine r_no' rfl rfl rfl ?_
      refine r_no' rfl rfl rfl ?_
      refine r_y rfl rfl (y_pickf rfl rfl rfl) ?_
      refine r_y rfl rfl (y_move rfl) ?_
      refine r_no' rfl rfl rfl ?_
      refine r_no' rfl rfl rfl ?_
      refine r_no' rfl rfl rfl ?_
      refine r_no' rfl rfl rfl ?_
      refine r_no' rfl rfl rfl ?_
      refine r_no' rfl rfl rfl ?_
      refine r_no' rfl rfl rfl ?_
      refine r_no' rfl rfl rfl ?_
      refine r_y rfl rfl (y_pickf rfl rfl rfl) ?_
      refine r_y rfl rfl (y_assign rfl) ?_
      refine r_nil ?_
      refine hK1 _ _ _ ?_
      clear hK1 K1
      refine c_ret ?_
      refine e_ret 1 hm (res_tmps rfl) ?_
      refine ⟨congrArg Value.bool ?_, rfl⟩
      first | (simp_all [ruleSound]; done) | (simp_all [ruleSound]; omega) | (simp_all [ruleSound]; intros; omega) | (rw [Bool.eq_iff_iff]; simp_all [ruleSound]; done)
  ·
    refine r_no' rfl rfl h0 ?_
    refine r_no' rfl rfl h0 ?_
    refine r_no' rfl rfl h0 ?_
    refine r_y rfl rfl (y_pickf rfl h0 rfl) ?_
    refine r_y rfl rfl (y_move rfl) ?_
    refine r_no' rfl rfl rfl ?_
    refine r_no' rfl rfl rfl ?_
    refine r_no' rfl rfl rfl ?_
    refine r_y rfl rfl (y_pickf rfl rfl rfl) ?_
    refine r_y rfl rfl (y_move rfl) ?_
    refine r_no' rfl rfl rfl ?_
    refine r_no' rfl rfl rfl ?_
    refine r_no' rfl rfl rfl ?_
    refine r_y rfl rfl (y_pickf rfl rfl rfl) ?_
    refine r_y rfl rfl (y_move rfl) ?_
    refine r_no' rfl rfl rfl ?_
    refine r_no' rfl rfl rfl ?_
    refine r_no' rfl rfl rfl ?_
    refine r_y rfl rfl (y_pickf rfl rfl rfl) ?_
    refine r_y rfl rfl (y_move rfl) ?_
    refine r_no' rfl rfl rfl ?_
    refine r_no' rfl rfl rfl ?_
    refine r_no' rfl rfl rfl ?_
    refine r_y rfl rfl (y_pickf rfl rfl rfl) ?_
    refine r_y rfl rfl (y_move rfl) ?_
    refine r_no' rfl rfl rfl ?_
    refine r_no' rfl rfl rfl ?_
    refine r_no' rfl rfl rfl ?_
    refine r_no' rfl rfl rfl ?_
    refine r_no' rfl rfl rfl ?_
    refine r_no' rfl rfl rfl ?_
    refine r_no' rfl rfl rfl ?_
    refine r_no' rfl rfl rfl ?_
    refine r_y rfl rfl (y_pickf rfl rfl rfl) ?_
    refine r_y rfl rfl (y_assign rfl) ?_
    refine r_nil ?_
    refine hK1 _ _ _ ?_
    clear hK1 K1
    refine c_ret ?_
    refine e_ret 1 hm (res_tmps rfl) ?_
    refine ⟨congrArg Value.bool ?_, rfl⟩
    first | (simp_all [ruleSound]; done) | (simp_all [ruleSound]; omega) | (simp_all [ruleSound]; intros; omega) | (rw [Bool.eq_iff_iff]; simp_all [ruleSound]; done)
set_option maxRecDepth 100000 in
theorem isNaN_ok (x : W) (m : Snap) (H : Hp) : Fn Try.prog 179 [wv x] m H (fun v _ H' => v = .bool false ∧ H' = H) := by
  have hm : m.le m := Snap.le.refl m
  refine fn_end Try.func179 rfl rfl rfl ?_
  refine c_seq (fun K0 hK0 => ?_)
  refine c_region ?_
  refine r_y rfl rfl (y_assign rfl) ?_
  refine r_nil ?_
  refine hK0 _ _ _ ?_
  clear hK0 K0
  refine c_seq (fun K1 hK1 => ?_)
  refine c_region ?_
  refine r_y rfl rfl (y_move rfl) ?_
  refine r_y rfl rfl (y_move rfl) ?_
  refine r_y rfl rfl (y_wop rfl rfl rfl) ?_
  refine r_y rfl rfl (y_assign rfl) ?_
  refine r_nil ?_
  refine hK1 _ _ _ ?_
  clear hK1 K1
  refine c_ret ?_
  refine e_ret 0 hm (res_tmps rfl) ?_
  exact ⟨congrArg Value.bool (by simp), rfl⟩
set_option maxRecDepth 100000 in
theorem cmpW_ok (x y : W) (m : Snap) (H : Hp) : Fn Try.prog 164 [wv x, wv y] m H (fun v _ H' => v = .int .i64 (cmpW x y) ∧ H' = H) := by
  have hm : m.le m := Snap.le.refl m
  refine fn_end Try.func164 rfl rfl rfl ?_
  refine c_seq (fun K0 hK0 => ?_)
  refine c_region ?_
  refine r_y rfl rfl (y_assign rfl) ?_
  refine r_nil ?_
  refine hK0 _ _ _ ?_
  clear hK0 K0
  refine c_seq (fun K1 hK1 => ?_)
  refine c_region ?_
  refine r_y rfl rfl (y_move rfl) ?_
  refine r_s rfl ?_
  refine s_call0 rfl Try.call179 rfl (isNaN_ok _ _ _) ?_
  rintro _ m2 _ hm2 ⟨rfl, rfl⟩
  replace hm := hm.trans hm2
  clear hm2
  refine r_y rfl rfl (y_assign rfl) ?_
  refine r_nil ?_
  refine hK1 _ _ _ ?_
  clear hK1 K1
  refine c_seq (fun K2 hK2 => ?_)
  refine c_region ?_
  refine r_y rfl rfl (y_move rfl) ?_
  refine r_s rfl ?_
  refine s_call0 rfl Try.call179 rfl (isNaN_ok _ _ _) ?_
  rintro _ m2 _ hm2 ⟨rfl, rfl⟩
  replace hm := hm.trans hm2
  clear hm2
  refine r_y rfl rfl (y_assign rfl) ?_
  refine r_nil ?_
  refine hK2 _ _ _ ?_
  clear hK2 K2
  refine c_seq (fun K3 hK3 => ?_)
  refine c_seq (fun K4 hK4 => ?_)
  refine c_region ?_
  refine r_y rfl rfl (y_move rfl) ?_
  refine r_nil ?_
  refine hK4 _ _ _ ?_
  clear hK4 K4
  refine c_cond rfl (fun h0 => ?_) (fun h0 => ?_)
  ·
    cases h0
  ·
    refine c_skip ?_
    refine hK3 _ _ _ ?_
    clear hK3 K3
    refine c_seq (fun K5 hK5 => ?_)
    refine c_seq (fun K6 hK6 => ?_)
    refine c_region ?_
    refine r_y rfl rfl (y_move rfl) ?_
    refine r_nil ?_
    refine hK6 _ _ _ ?_
    clear hK6 K6
    refine c_cond rfl (fun h1 => ?_) (fun h1 => ?_)
    ·
      cases h1
    ·
      refine c_skip ?_
      refine hK5 _ _ _ ?_
      clear hK5 K5
      refine c_seq (fun K7 hK7 => ?_)
      refine c_seq (fun K8 hK8 => ?_)
      refine c_region ?_
      refine r_y rfl rfl (y_move rfl) ?_
      refine r_y rfl rfl (y_move rfl) ?_
      refine r_y rfl rfl (y_wop rfl rfl rfl) ?_
      refine r_nil ?_
      refine hK8 _ _ _ ?_
      clear hK8 K8
      refine c_cond rfl (fun h2 => ?_) (fun h2 => ?_)
      ·
        refine c_seq (fun K9 hK9 => ?_)
        refine c_region ?_
        refine r_y rfl rfl (y_assign rfl) ?_
        refine r_nil ?_
        refine hK9 _ _ _ ?_
        clear hK9 K9
        refine c_ret ?_
        refine e_ret 0 hm (res_tmps rfl) ?_
        refine ⟨congrArg (Value.int .i64) ?_, rfl⟩
        unfold cmpW
        simp only [decide_eq_true_eq, decide_eq_false_iff_not] at *
        first | (rw [if_pos ‹_›]; done) | (rw [if_neg ‹_›, if_pos ‹_›]; done) | (rw [if_neg ‹_›, if_neg ‹_›]; done)
      ·
        refine c_skip ?_
        refine hK7 _ _ _ ?_
        clear hK7 K7
        refine c_seq (fun K10 hK10 => ?_)
        refine c_seq (fun K11 hK11 => ?_)
        refine c_region ?_
        refine r_y rfl rfl (y_move rfl) ?_
        refine r_y rfl rfl (y_move rfl) ?_
        refine r_y rfl rfl (y_wop rfl rfl rfl) ?_
        refine r_nil ?_
        refine hK11 _ _ _ ?_
        clear hK11 K11
        refine c_cond rfl (fun h3 => ?_) (fun h3 => ?_)
        ·
          refine c_seq (fun K12 hK12 => ?_)
          refine c_region ?_
          refine r_y rfl rfl (y_assign rfl) ?_
          refine r_nil ?_
          refine hK12 _ _ _ ?_
          clear hK12 K12
          refine c_ret ?_
          refine e_ret 0 hm (res_tmps rfl) ?_
          refine ⟨congrArg (Value.int .i64) ?_, rfl⟩
          unfold cmpW
          simp only [decide_eq_true_eq, decide_eq_false_iff_not] at *
          first | (rw [if_pos ‹_›]; done) | (rw [if_neg ‹_›, if_pos ‹_›]; done) | (rw [if_neg ‹_›, if_neg ‹_›]; done)
        ·
          refine c_skip ?_
          refine hK10 _ _ _ ?_
          clear hK10 K10
          refine c_seq (fun K13 hK13 => ?_)
          refine c_region ?_
          refine r_y rfl rfl (y_assign rfl) ?_
          refine r_nil ?_
          refine hK13 _ _ _ ?_
          clear hK13 K13
          refine c_ret ?_
          refine e_ret 0 hm (res_tmps rfl) ?_
          refine ⟨congrArg (Value.int .i64) ?_, rfl⟩
          unfold cmpW
          simp only [decide_eq_true_eq, decide_eq_false_iff_not] at *
          first | (rw [if_pos ‹_›]; done) | (rw [if_neg ‹_›, if_pos ‹_›]; done) | (rw [if_neg ‹_›, if_neg ‹_›]; done)
set_option maxRecDepth 100000 in
theorem cmpL_ok (s1 s2 : Sl) (l1 l2 : List W) (m : Snap) (H : Hp) (hz1 : Fz m s1.a s1.n s1.cap 1 (words1 l1)) (hz2 : Fz m s2.a s2.n s2.cap 1 (words1 l2)) : Fn Try.prog 163 [s1.v, s2.v, .func (.func 164) #[] #[]] m H (fun v _ H' => v = .int .i64 (cmpL l1 l2) ∧ H' = H) := by
  have hl1 : s1.n = l1.length := by have := hz1.len; simpa [words1] using this.symm
  have hl2 : s2.n = l2.length := by have := hz2.len; simpa [words1] using this.symm
  have hmx := hz1.max
  have hle := hz1.le
  unfold maxLen at hmx
  have hm : m.le m := Snap.le.refl m
  refine fn_end Try.func163 rfl rfl rfl ?_
  refine c_seq (fun K0 hK0 => ?_)
  refine c_region ?_
  refine r_y rfl rfl (y_assign rfl) ?_
  refine r_nil ?_
  refine hK0 _ _ _ ?_
  clear hK0 K0
  refine c_seq (fun K1 hK1 => ?_)
  refine c_seq (fun K2 hK2 => ?_)
  refine c_region ?_
  refine r_y rfl rfl (y_move rfl) ?_
  refine r_y rfl rfl (y_len tl181 rfl) ?_
  refine r_y rfl rfl (y_move rfl) ?_
  refine r_nil ?_
  refine hK2 _ _ _ ?_
  clear hK2 K2
  refine c_block ?_
  refine c_loopx (α := Nat) (fun i => [(0, s1.v), (1, s2.v), (2, .func (.func 164) #[] #[]), (11, s1.v), (12, .int .i64 (s1.n : Nat)), (13, .int .i64 (i : Nat))]) (fun i => H) (fun k0 i m1 => (i + k0 = s1.n ∧ cmpL (l1.drop i) (l2.drop i) = cmpL l1 l2) ∧ m.le m1 ∧ (Fz m1 s1.a s1.n s1.cap 1 (words1 l1)) ∧ (Fz m1 s2.a s2.n s2.cap 1 (words1 l2))) (s1.n) 0 ⟨rfl, rfl, rfl, rfl, rfl, rfl, trivial⟩ rfl ⟨⟨by omega, rfl⟩, hm, hz1, hz2⟩ ?_
  clear hm hz1 hz2
  rintro k0 i m1 ⟨hi0, hm, hz1, hz2⟩
  obtain ⟨hi, hinv⟩ := hi0
  refine c_seq (fun K3 hK3 => ?_)
  refine c_region ?_
  refine r_y rfl rfl (y_iop rfl rfl rfl) ?_
  refine r_nil ?_
  refine hK3 _ _ _ ?_
  clear hK3 K3
  refine c_seq (fun K4 hK4 => ?_)
  refine c_cond rfl (fun h0 => ?_) (fun h0 => ?_)
  ·
    have hlt : i < s1.n := by simp at h0; omega
    obtain ⟨x1, hx1⟩ := get_of_lt (l := l1) (k := i) (by omega)
    refine c_skip ?_
    refine hK4 _ _ _ ?_
    clear hK4 K4
    refine c_seq (fun K5 hK5 => ?_)
    refine c_block ?_
    refine c_seq (fun K6 hK6 => ?_)
    refine c_region ?_
    refine r_y rfl rfl (y_move rfl) ?_
    refine r_y rfl rfl (y_indexAddr_slice rfl rfl tl181 hlt (At.fz hz1 hlt)) ?_
    refine r_y rfl rfl (y_load_s rfl ts25 (RdS.fz (j := 0) hz1 (map_get hx1) rfl)) ?_
    refine r_y rfl rfl (y_assign rfl) ?_
    refine r_y rfl rfl (y_assign rfl) ?_
    refine r_nil ?_
    refine hK6 _ _ _ ?_
    clear hK6 K6
    refine c_seq (fun K7 hK7 => ?_)
    refine c_seq (fun K8 hK8 => ?_)
    refine c_region ?_
    refine r_y rfl rfl (y_move rfl) ?_
    refine r_y rfl rfl (y_move rfl) ?_
    refine r_y rfl rfl (y_len tl181 rfl) ?_
    refine r_y rfl rfl (y_iop rfl rfl rfl) ?_
    refine r_nil ?_
    refine hK8 _ _ _ ?_
    clear hK8 K8
    refine c_cond rfl (fun h1 => ?_) (fun h1 => ?_)
    ·
      refine c_seq (fun K9 hK9 => ?_)
      refine c_region ?_
      refine r_y rfl rfl (y_assign rfl) ?_
      refine r_nil ?_
      refine hK9 _ _ _ ?_
      clear hK9 K9
      refine c_ret ?_
      refine e_ret 0 hm (res_tmps rfl) ?_
      refine ⟨congrArg (Value.int .i64) ?_, rfl⟩
      rw [drop_cons hx1, show l2.drop i = [] from List.drop_eq_nil_of_le (by simp at h1; omega)] at hinv
      exact hinv
    ·
      have hlt2 : i < s2.n := by simp at h1; omega
      obtain ⟨x2, hx2⟩ := get_of_lt (l := l2) (k := i) (by omega)
      refine c_skip ?_
      refine hK7 _ _ _ ?_
      clear hK7 K7
      refine c_seq (fun K10 hK10 => ?_)
      refine c_region ?_
      refine r_y rfl rfl (y_move rfl) ?_
      refine r_y rfl rfl (y_move rfl) ?_
      refine r_y rfl rfl (y_indexAddr_slice rfl rfl tl181 hlt2 (At.fz hz2 hlt2)) ?_
      refine r_y rfl rfl (y_load_s rfl ts25 (RdS.fz (j := 0) hz2 (map_get hx2) rfl)) ?_
      refine r_y rfl rfl (y_assign rfl) ?_
      refine r_nil ?_
      refine hK10 _ _ _ ?_
      clear hK10 K10
      refine c_seq (fun K11 hK11 => ?_)
      refine c_region ?_
      refine r_y rfl rfl (y_move rfl) ?_
      refine r_y rfl rfl (y_move rfl) ?_
      refine r_y rfl rfl (y_move rfl) ?_
      refine r_s rfl ?_
      refine s_call rfl Try.call164 rfl rfl (cmpW_ok x1 x2 _ _) ?_
      rintro _ m2 _ hm2 ⟨rfl, rfl⟩
      replace hm := hm.trans hm2
      replace hz1 := hz1.mono hm2
      replace hz2 := hz2.mono hm2
      clear hm2
      refine r_y rfl rfl (y_assign rfl) ?_
      refine r_nil ?_
      refine hK11 _ _ _ ?_
      clear hK11 K11
      refine c_seq (fun K12 hK12 => ?_)
      refine c_region ?_
      refine r_y rfl rfl (y_move rfl) ?_
      refine r_y rfl rfl (y_iop rfl rfl rfl) ?_
      refine r_nil ?_
      refine hK12 _ _ _ ?_
      clear hK12 K12
      refine c_cond rfl (fun h2 => ?_) (fun h2 => ?_)
      ·
        refine c_seq (fun K13 hK13 => ?_)
        refine c_region ?_
        refine r_y rfl rfl (y_move rfl) ?_
        refine r_y rfl rfl (y_assign rfl) ?_
        refine r_nil ?_
        refine hK13 _ _ _ ?_
        clear hK13 K13
        refine c_ret ?_
        refine e_ret 0 hm (res_tmps rfl) ?_
        refine ⟨congrArg (Value.int .i64) ?_, rfl⟩
        rw [drop_cons hx1, drop_cons hx2] at hinv
        simp only [cmpL] at hinv
        rw [if_pos (by simpa using h2)] at hinv
        exact hinv
      ·
        refine c_skip ?_
        refine hK5 _ _ _ ?_
        clear hK5 K5
        refine c_region ?_
        first | refine r_y rfl rfl (y_inc rfl (by omega)) ?_ | refine r_y rfl rfl (y_iop rfl rfl rfl) ?_
        refine r_y rfl rfl (y_move rfl) ?_
        refine r_nil ?_
        exact ⟨k0 - 1, (i + 1), by omega, ⟨rfl, rfl, rfl, rfl, rfl, rfl, trivial⟩, rfl, ⟨by omega, by rw [drop_cons hx1, drop_cons hx2] at hinv; simp only [cmpL] at hinv; rw [if_neg (by simpa using h2)] at hinv; exact hinv⟩, hm, hz1, hz2⟩
  ·
    refine c_exit ?_
    refine hK1 _ _ _ ?_
    clear hK4 K4 hK1 K1
    refine c_seq (fun K14 hK14 => ?_)
    refine c_seq (fun K15 hK15 => ?_)
    refine c_region ?_
    refine r_y rfl rfl (y_move rfl) ?_
    refine r_y rfl rfl (y_len tl181 rfl) ?_
    refine r_y rfl rfl (y_move rfl) ?_
    refine r_y rfl rfl (y_len tl181 rfl) ?_
    refine r_y rfl rfl (y_iop rfl rfl rfl) ?_
    refine r_nil ?_
    refine hK15 _ _ _ ?_
    clear hK15 K15
    refine c_cond rfl (fun h3 => ?_) (fun h3 => ?_)
    ·
      refine c_seq (fun K16 hK16 => ?_)
      refine c_region ?_
      refine r_y rfl rfl (y_assign rfl) ?_
      refine r_nil ?_
      refine hK16 _ _ _ ?_
      clear hK16 K16
      refine c_ret ?_
      refine e_ret 0 hm (res_tmps rfl) ?_
      refine ⟨congrArg (Value.int .i64) ?_, rfl⟩
      have hie : i = s1.n := by simp at h0; omega
      have : l1.drop i = [] := List.drop_eq_nil_of_le (by omega)
      obtain ⟨x2, hx2⟩ := get_of_lt (l := l2) (k := i) (by simp at h3; omega)
      rw [this, drop_cons hx2] at hinv
      exact hinv
    ·
      refine c_skip ?_
      refine hK14 _ _ _ ?_
      clear hK14 K14
      refine c_seq (fun K17 hK17 => ?_)
      refine c_region ?_
      refine r_y rfl rfl (y_assign rfl) ?_
      refine r_nil ?_
      refine hK17 _ _ _ ?_
      clear hK17 K17
      refine c_ret ?_
      refine e_ret 0 hm (res_tmps rfl) ?_
      refine ⟨congrArg (Value.int .i64) ?_, rfl⟩
      have hie : i = s1.n := by simp at h0; omega
      rw [List.drop_eq_nil_of_le (by omega), List.drop_eq_nil_of_le (by simp at h3; omega)] at hinv
      exact hinv
set_option maxRecDepth 100000 in
theorem headCmp_ok (x y : Head) (m : Snap) (H : Hp) : Fn Try.prog 151 [.agg (encHead x).toArray, .agg (encHead y).toArray] m H (fun v _ H' => v = .int .i64 (headCmp x y) ∧ H' = H) := by
  have hm : m.le m := Snap.le.refl m
  refine fn_end Try.func151 rfl rfl rfl ?_
  refine c_seq (fun K0 hK0 => ?_)
  refine c_region ?_
  refine r_s rfl ?_
  refine s_box_a rfl rfl (fun b0 => ?_)
  refine r_s rfl ?_
  refine s_box_a rfl rfl (fun b1 => ?_)
  refine r_freeze (i := 1) rfl (fun m3 hm3 hc0 => ?_)
  replace hm := hm.trans hm3
  try replace hc0 := fun j v h => hm3.cell (hc0 j v h)
  try replace hc1 := fun j v h => hm3.cell (hc1 j v h)
  clear hm3
  refine r_freeze (i := 0) rfl (fun m3 hm3 hc1 => ?_)
  replace hm := hm.trans hm3
  try replace hc0 := fun j v h => hm3.cell (hc0 j v h)
  try replace hc1 := fun j v h => hm3.cell (hc1 j v h)
  clear hm3
  have hz1 := Fz.of_cells (n := 12) (s := 1) (ch := words1 (headL x)) hc0 rfl (by simp [words1]) (by rw [flatten_words1]; rfl) (by decide)
  have hz2 := Fz.of_cells (n := 12) (s := 1) (ch := words1 (headL y)) hc1 rfl (by simp [words1]) (by rw [flatten_words1]; rfl) (by decide)
  refine r_y rfl rfl (y_assign rfl) ?_
  refine r_nil ?_
  refine hK0 _ _ _ ?_
  clear hK0 K0
  refine c_seq (fun K1 hK1 => ?_)
  refine c_draw ([]) (by kernel_rfl) (fun hg => ?_)
  refine g_y (i := 0) (listed' := #[true, false, false, false]) rfl (by kernel_rfl) (by kernel_rfl) (by kernel_rfl) (by kernel_rfl) rfl rfl hg alln (fun m' H' hm' hX' => y_slice_arr rfl ta27) ?_
  refine g_y (i := 1) (listed' := #[true, true, false, false]) rfl (by kernel_rfl) (by kernel_rfl) (by kernel_rfl) (by kernel_rfl) rfl rfl hg alln (fun m' H' hm' hX' => y_slice_arr rfl ta27) ?_
  refine g_s (i := 2) (listed' := #[true, true, true, false]) rfl (by kernel_rfl) (by kernel_rfl) rfl ?_
  refine s_call0 rfl Try.call163 rfl (cmpL_ok ⟨some ⟨b0, 0, none⟩, 12, 12⟩ ⟨some ⟨b1, 0, none⟩, 12, 12⟩ (headL x) (headL y) _ _ hz1 hz2) ?_
  rintro _ m2 _ hm2 ⟨rfl, rfl⟩
  replace hm := hm.trans hm2
  refine ⟨⟨hg.trans hm2, alln⟩, ?_⟩
  replace hg := hg.trans hm2
  clear hm2
  refine g_y (i := 3) (listed' := #[true, true, true, true]) rfl (by kernel_rfl) (by kernel_rfl) (by kernel_rfl) (by kernel_rfl) rfl rfl hg alln (fun m' H' hm' hX' => y_assign rfl) ?_
  refine g_done (by kernel_rfl) ?_
  clear hg
  refine hK1 _ _ _ ?_
  clear hK1 K1
  refine c_ret ?_
  refine e_ret 0 hm (res_tmps rfl) ?_
  exact ⟨rfl, rfl⟩
set_option maxRecDepth 100000 in
theorem orL_ok (s : Sl) (l : List Int) (m : Snap) (H : Hp) (hz : Fz m s.a s.n s.cap 1 (ints1 l)) : Fn Try.prog 150 [s.v] m H (fun v _ H' => v = .int .i64 (orL l) ∧ H' = H) := by
  have hl : s.n = l.length := by have := hz.len; simpa [ints1] using this.symm
  have hmx := hz.max
  have hle := hz.le
  unfold maxLen at hmx
  have hm : m.le m := Snap.le.refl m
  refine fn_end Try.func150 rfl rfl rfl ?_
  refine c_seq (fun K0 hK0 => ?_)
  refine c_region ?_
  refine r_y rfl rfl (y_assign rfl) ?_
  refine r_nil ?_
  refine hK0 _ _ _ ?_
  clear hK0 K0
  refine c_seq (fun K1 hK1 => ?_)
  refine c_region ?_
  refine r_y rfl rfl (y_assign rfl) ?_
  refine r_nil ?_
  refine hK1 _ _ _ ?_
  clear hK1 K1
  refine c_seq (fun K2 hK2 => ?_)
  refine c_seq (fun K3 hK3 => ?_)
  refine c_region ?_
  refine r_y rfl rfl (y_move rfl) ?_
  refine r_y rfl rfl (y_len tl77 rfl) ?_
  refine r_y rfl rfl (y_move rfl) ?_
  refine r_nil ?_
  refine hK3 _ _ _ ?_
  clear hK3 K3
  refine c_block ?_
  refine c_loopx (α := Nat) (fun i => [(3, .int .i64 0), (6, s.v), (7, .int .i64 (s.n : Nat)), (8, .int .i64 (i : Nat))]) (fun i => H) (fun k0 i m1 => (i + k0 = s.n ∧ orL (l.drop i) = orL l) ∧ m.le m1 ∧ (Fz m1 s.a s.n s.cap 1 (ints1 l))) (s.n) 0 ⟨rfl, rfl, rfl, rfl, trivial⟩ rfl ⟨⟨by omega, rfl⟩, hm, hz⟩ ?_
  clear hm hz
  rintro k0 i m1 ⟨hi0, hm, hz⟩
  obtain ⟨hi, hinv⟩ := hi0
  refine c_seq (fun K4 hK4 => ?_)
  refine c_region ?_
  refine r_y rfl rfl (y_iop rfl rfl rfl) ?_
  refine r_nil ?_
  refine hK4 _ _ _ ?_
  clear hK4 K4
  refine c_seq (fun K5 hK5 => ?_)
  refine c_cond rfl (fun h0 => ?_) (fun h0 => ?_)
  ·
    have hlt : i < s.n := by simp at h0; omega
    obtain ⟨x, hx⟩ := get_of_lt (l := l) (k := i) (by omega)
    refine c_skip ?_
    refine hK5 _ _ _ ?_
    clear hK5 K5
    refine c_seq (fun K6 hK6 => ?_)
    refine c_block ?_
    refine c_seq (fun K7 hK7 => ?_)
    refine c_region ?_
    refine r_y rfl rfl (y_indexAddr_slice rfl rfl tl77 hlt (At.fz hz hlt)) ?_
    refine r_y rfl rfl (y_load_s rfl ts3 (RdS.fz (j := 0) hz (map_get hx) rfl)) ?_
    refine r_y rfl rfl (y_assign rfl) ?_
    refine r_nil ?_
    refine hK7 _ _ _ ?_
    clear hK7 K7
    refine c_seq (fun K8 hK8 => ?_)
    refine c_region ?_
    refine r_y rfl rfl (y_move rfl) ?_
    refine r_y rfl rfl (y_move rfl) ?_
    refine r_y rfl rfl (y_iop rfl rfl rfl) ?_
    refine r_nil ?_
    refine hK8 _ _ _ ?_
    clear hK8 K8
    refine c_cond rfl (fun h1 => ?_) (fun h1 => ?_)
    ·
      refine c_seq (fun K9 hK9 => ?_)
      refine c_region ?_
      refine r_y rfl rfl (y_move rfl) ?_
      refine r_y rfl rfl (y_assign rfl) ?_
      refine r_nil ?_
      refine hK9 _ _ _ ?_
      clear hK9 K9
      refine c_ret ?_
      refine e_ret 0 hm (res_tmps rfl) ?_
      refine ⟨congrArg (Value.int .i64) ?_, rfl⟩
      rw [drop_cons hx] at hinv; simp only [orL, List.find?_cons, h1] at hinv ⊢; exact hinv
    ·
      refine c_skip ?_
      refine hK6 _ _ _ ?_
      clear hK6 K6
      refine c_region ?_
      first | refine r_y rfl rfl (y_inc rfl (by omega)) ?_ | refine r_y rfl rfl (y_iop rfl rfl rfl) ?_
      refine r_y rfl rfl (y_move rfl) ?_
      refine r_nil ?_
      exact ⟨k0 - 1, (i + 1), by omega, ⟨rfl, rfl, rfl, rfl, trivial⟩, rfl, ⟨by omega, by rw [drop_cons hx] at hinv; simp only [orL, List.find?_cons, h1] at hinv ⊢; exact hinv⟩, hm, hz⟩
  ·
    refine c_exit ?_
    refine hK2 _ _ _ ?_
    clear hK5 K5 hK2 K2
    refine c_seq (fun K10 hK10 => ?_)
    refine c_region ?_
    refine r_y rfl rfl (y_move rfl) ?_
    refine r_y rfl rfl (y_assign rfl) ?_
    refine r_nil ?_
    refine hK10 _ _ _ ?_
    clear hK10 K10
    refine c_ret ?_
    refine e_ret 0 hm (res_tmps rfl) ?_
    refine ⟨congrArg (Value.int .i64) ?_, rfl⟩
    rw [List.drop_eq_nil_of_le (by simp at h0; omega)] at hinv
    exact hinv
set_option maxRecDepth 100000 in
theorem cubeCmp_ok (x y : Cube) (m : Snap) (H : Hp) : Fn Try.prog 121 [.agg (encCube x).toArray, .agg (encCube y).toArray] m H (fun v _ H' => v = .int .i64 (cubeCmp x y) ∧ H' = H) := by
  have hm : m.le m := Snap.le.refl m
  refine fn_end Try.func121 rfl rfl rfl ?_
  refine c_seq (fun K0 hK0 => ?_)
  refine c_region ?_
  refine r_s rfl ?_
  refine s_box_a rfl rfl (fun b0 => ?_)
  refine r_s rfl ?_
  refine s_box_a rfl rfl (fun b1 => ?_)
  refine r_y rfl rfl (y_assign rfl) ?_
  refine r_nil ?_
  refine hK0 _ _ _ ?_
  clear hK0 K0
  refine c_seq (fun K1 hK1 => ?_)
  refine c_draw ([.blk b0 (.cells (encCube x).toArray 29), .blk b1 (.cells (encCube y).toArray 29)]) (by kernel_rfl) (fun hg => ?_)
  refine g_y (i := 0) (listed' := #[true, false, false, false, false, false, false, false, false, false, false, false, false]) rfl (by kernel_rfl) (by kernel_rfl) (by kernel_rfl) (by kernel_rfl) rfl rfl hg (allc (List.Mem.tail _ (List.Mem.head _)) (allc (List.Mem.head _) alln)) (fun m' H' hm' hX' => y_fieldAddr rfl At.lit fo29_1 rfl) ?_
  refine g_y (i := 1) (listed' := #[true, true, false, false, false, false, false, false, false, false, false, false, false]) rfl (by kernel_rfl) (by kernel_rfl) (by kernel_rfl) (by kernel_rfl) rfl rfl hg (allc (List.Mem.tail _ (List.Mem.head _)) (allc (List.Mem.head _) alln)) (fun m' H' hm' hX' => y_load_a (cs := encHead x.care) rfl ts27 (RdA.mem (hX' _ (List.Mem.head _)) rfl)) ?_
  refine g_y (i := 2) (listed' := #[true, true, true, false, false, false, false, false, false, false, false, false, false]) rfl (by kernel_rfl) (by kernel_rfl) (by kernel_rfl) (by kernel_rfl) rfl rfl hg (allc (List.Mem.tail _ (List.Mem.head _)) (allc (List.Mem.head _) alln)) (fun m' H' hm' hX' => y_fieldAddr rfl At.lit fo29_1 rfl) ?_
  refine g_y (i := 3) (listed' := #[true, true, true, true, false, false, false, false, false, false, false, false, false]) rfl (by kernel_rfl) (by kernel_rfl) (by kernel_rfl) (by kernel_rfl) rfl rfl hg (allc (List.Mem.tail _ (List.Mem.head _)) (allc (List.Mem.head _) alln)) (fun m' H' hm' hX' => y_load_a (cs := encHead y.care) rfl ts27 (RdA.mem (hX' _ (List.Mem.tail _ (List.Mem.head _))) rfl)) ?_
  refine g_y (i := 5) (listed' := #[true, true, true, true, false, true, false, false, false, false, false, false, false]) rfl (by kernel_rfl) (by kernel_rfl) (by kernel_rfl) (by kernel_rfl) rfl rfl hg (allc (List.Mem.tail _ (List.Mem.head _)) (allc (List.Mem.head _) alln)) (fun m' H' hm' hX' => y_fieldAddr rfl At.lit fo29_0 rfl) ?_
  refine g_y (i := 6) (listed' := #[true, true, true, true, false, true, true, false, false, false, false, false, false]) rfl (by kernel_rfl) (by kernel_rfl) (by kernel_rfl) (by kernel_rfl) rfl rfl hg (allc (List.Mem.tail _ (List.Mem.head _)) (allc (List.Mem.head _) alln)) (fun m' H' hm' hX' => y_load_a (cs := encHead x.value) rfl ts27 (RdA.mem (hX' _ (List.Mem.head _)) rfl)) ?_
  refine g_y (i := 7) (listed' := #[true, true, true, true, false, true, true, true, false, false, false, false, false]) rfl (by kernel_rfl) (by kernel_rfl) (by kernel_rfl) (by kernel_rfl) rfl rfl hg (allc (List.Mem.tail _ (List.Mem.head _)) (allc (List.Mem.head _) alln)) (fun m' H' hm' hX' => y_fieldAddr rfl At.lit fo29_0 rfl) ?_
  refine g_y (i := 8) (listed' := #[true, true, true, true, false, true, true, true, true, false, false, false, false]) rfl (by kernel_rfl) (by kernel_rfl) (by kernel_rfl) (by kernel_rfl) rfl rfl hg (allc (List.Mem.tail _ (List.Mem.head _)) (allc (List.Mem.head _) alln)) (fun m' H' hm' hX' => y_load_a (cs := encHead y.value) rfl ts27 (RdA.mem (hX' _ (List.Mem.tail _ (List.Mem.head _))) rfl)) ?_
  refine g_s (i := 4) (listed' := #[true, true, true, true, true, true, true, true, true, false, false, false, false]) rfl (by kernel_rfl) (by kernel_rfl) rfl ?_
  refine s_call0 rfl Try.call151 rfl (headCmp_ok x.care y.care _ _) ?_
  rintro _ m2 _ hm2 ⟨rfl, rfl⟩
  replace hm := hm.trans hm2
  refine ⟨⟨hg.trans hm2, (allc (List.Mem.tail _ (List.Mem.head _)) (allc (List.Mem.head _) alln))⟩, ?_⟩
  replace hg := hg.trans hm2
  clear hm2
  refine g_s (i := 9) (listed' := #[true, true, true, true, true, true, true, true, true, true, false, false, false]) rfl (by kernel_rfl) (by kernel_rfl) rfl ?_
  refine s_call0 rfl Try.call151 rfl (headCmp_ok x.value y.value _ _) ?_
  rintro _ m2 _ hm2 ⟨rfl, rfl⟩
  replace hm := hm.trans hm2
  refine ⟨⟨hg.trans hm2, (allc (List.Mem.tail _ (List.Mem.head _)) (allc (List.Mem.head _) alln))⟩, ?_⟩
  replace hg := hg.trans hm2
  clear hm2
  refine g_s (i := 10) (listed' := #[true, true, true, true, true, true, true, true, true, true, true, false, false]) rfl (by kernel_rfl) (by kernel_rfl) rfl ?_
  refine s_buildSlice (cs := [i64 (headCmp x.care y.care), i64 (headCmp x.value y.value)]) (e := 3) rfl rfl (fun _ => by kernel_rfl) (fun b2 => ?_)
  refine ⟨⟨hg, (allc (List.Mem.tail _ (List.Mem.tail _ (List.Mem.head _))) (allc (List.Mem.tail _ (List.Mem.head _)) alln))⟩, ?_⟩
  refine g_freeze (i := 0) rfl (fun m3 hm3 hc0 => ?_)
  replace hm := hm.trans hm3
  replace hg := hg.trans hm3
  clear hm3
  have hz := Fz.of_cells (n := 2) (s := 1) (ch := ints1 [headCmp x.care y.care, headCmp x.value y.value]) hc0 rfl (by simp [ints1]) rfl (by decide)
  refine g_s (i := 11) (listed' := #[true, true, true, true, true, true, true, true, true, true, true, true, false]) rfl (by kernel_rfl) (by kernel_rfl) rfl ?_
  refine s_call0 rfl Try.call150 rfl (orL_ok ⟨some ⟨b2, 0, none⟩, 2, 2⟩ [headCmp x.care y.care, headCmp x.value y.value] _ _ hz) ?_
  rintro _ m2 _ hm2 ⟨rfl, rfl⟩
  replace hm := hm.trans hm2
  refine ⟨⟨hg.trans hm2, (allc (List.Mem.tail _ (List.Mem.head _)) (allc (List.Mem.head _) alln))⟩, ?_⟩
  replace hg := hg.trans hm2
  clear hm2
  refine g_y (i := 12) (listed' := #[true, true, true, true, true, true, true, true, true, true, true, true, true]) rfl (by kernel_rfl) (by kernel_rfl) (by kernel_rfl) (by kernel_rfl) rfl rfl hg (allc (List.Mem.tail _ (List.Mem.head _)) (allc (List.Mem.head _) alln)) (fun m' H' hm' hX' => y_assign rfl) ?_
  refine g_done (by kernel_rfl) ?_
  clear hg
  refine hK1 _ _ _ ?_
  clear hK1 K1
  refine c_ret ?_
  refine e_ret 2 hm (res_tmps rfl) ?_
  exact ⟨rfl, rfl⟩
set_option maxRecDepth 100000 in
theorem ruleCmp_ok (x y : RuleD) (s1 s2 : Sl) (m : Snap) (H : Hp) : Fn Try.prog 74 [.agg (encRule x s1).toArray, .agg (encRule y s2).toArray] m H (fun v _ H' => v = .int .i64 (ruleCmp x y) ∧ H' = H) := by
  have hm : m.le m := Snap.le.refl m
  refine fn_end Try.func74 rfl rfl rfl ?_
  refine c_seq (fun K0 hK0 => ?_)
  refine c_region ?_
  refine r_s rfl ?_
  refine s_box_a rfl rfl (fun b0 => ?_)
  refine r_s rfl ?_
  refine s_box_a rfl rfl (fun b1 => ?_)
  refine r_y rfl rfl (y_assign rfl) ?_
  refine r_nil ?_
  refine hK0 _ _ _ ?_
  clear hK0 K0
  refine c_seq (fun K1 hK1 => ?_)
  refine c_seq (fun K2 hK2 => ?_)
  refine c_region ?_
  refine r_y rfl rfl (y_fieldAddr rfl At.lit fo50_1 rfl) ?_
  refine r_y rfl rfl (y_load_s rfl ts3 (RdS.blk (i := 1) rfl rfl)) ?_
  refine r_y rfl rfl (y_fieldAddr rfl At.lit fo50_1 rfl) ?_
  refine r_y rfl rfl (y_load_s rfl ts3 (RdS.blk (i := 0) rfl rfl)) ?_
  refine r_y rfl rfl (y_iop rfl rfl rfl) ?_
  refine r_nil ?_
  refine hK2 _ _ _ ?_
  clear hK2 K2
  refine c_cond rfl (fun h0 => ?_) (fun h0 => ?_)
  ·
    refine c_seq (fun K3 hK3 => ?_)
    refine c_seq (fun K4 hK4 => ?_)
    refine c_region ?_
    refine r_y rfl rfl (y_fieldAddr rfl At.lit fo50_1 rfl) ?_
    refine r_y rfl rfl (y_load_s rfl ts3 (RdS.blk (i := 1) rfl rfl)) ?_
    refine r_y rfl rfl (y_fieldAddr rfl At.lit fo50_1 rfl) ?_
    refine r_y rfl rfl (y_load_s rfl ts3 (RdS.blk (i := 0) rfl rfl)) ?_
    refine r_y rfl rfl (y_iop rfl rfl rfl) ?_
    refine r_nil ?_
    refine hK4 _ _ _ ?_
    clear hK4 K4
    refine c_cond rfl (fun h1 => ?_) (fun h1 => ?_)
    ·
      refine c_seq (fun K5 hK5 => ?_)
      refine c_region ?_
      refine r_y rfl rfl (y_assign rfl) ?_
      refine r_nil ?_
      refine hK5 _ _ _ ?_
      clear hK5 K5
      refine c_ret ?_
      refine e_ret 2 hm (res_tmps rfl) ?_
      refine ⟨congrArg (Value.int .i64) ?_, rfl⟩
      simp_all [ruleCmp]
      try omega
    ·
      refine c_skip ?_
      refine hK3 _ _ _ ?_
      clear hK3 K3
      refine c_seq (fun K6 hK6 => ?_)
      refine c_region ?_
      refine r_y rfl rfl (y_assign rfl) ?_
      refine r_nil ?_
      refine hK6 _ _ _ ?_
      clear hK6 K6
      refine c_ret ?_
      refine e_ret 2 hm (res_tmps rfl) ?_
      refine ⟨congrArg (Value.int .i64) ?_, rfl⟩
      simp_all [ruleCmp]
      try omega
  ·
    refine c_skip ?_
    refine hK1 _ _ _ ?_
    clear hK1 K1
    refine c_seq (fun K7 hK7 => ?_)
    refine c_region ?_
    refine r_y rfl rfl (y_fieldAddr rfl At.lit fo50_0 rfl) ?_
    refine r_y rfl rfl (y_load_a (cs := encCube x.m) rfl ts29 (RdA.blk (i := 1) rfl rfl)) ?_
    refine r_y rfl rfl (y_fieldAddr rfl At.lit fo50_0 rfl) ?_
    refine r_y rfl rfl (y_load_a (cs := encCube y.m) rfl ts29 (RdA.blk (i := 0) rfl rfl)) ?_
    refine r_s rfl ?_
    refine s_call0 rfl Try.call121 rfl (cubeCmp_ok x.m y.m _ _) ?_
    rintro _ m2 _ hm2 ⟨rfl, rfl⟩
    replace hm := hm.trans hm2
    clear hm2
    refine r_y rfl rfl (y_assign rfl) ?_
    refine r_nil ?_
    refine hK7 _ _ _ ?_
    clear hK7 K7
    refine c_ret ?_
    refine e_ret 2 hm (res_tmps rfl) ?_
    refine ⟨congrArg (Value.int .i64) ?_, rfl⟩
    simp_all [ruleCmp]
    try omega
set_option maxRecDepth 100000 in
theorem ruleBefore_ok (x y : RuleD) (s1 s2 : Sl) (m : Snap) (H : Hp) : Fn Try.prog 128 [.agg (encRule x s1).toArray, .agg (encRule y s2).toArray] m H (fun v _ H' => v = .bool (ruleBefore x y) ∧ H' = H) := by
  have hm : m.le m := Snap.le.refl m
  refine fn_end Try.func128 rfl rfl rfl ?_
  refine c_seq (fun K0 hK0 => ?_)
  refine c_region ?_
  refine r_s rfl ?_
  refine s_box_a rfl rfl (fun b0 => ?_)
  refine r_s rfl ?_
  refine s_box_a rfl rfl (fun b1 => ?_)
  refine r_y rfl rfl (y_assign rfl) ?_
  refine r_nil ?_
  refine hK0 _ _ _ ?_
  clear hK0 K0
  refine c_seq (fun K1 hK1 => ?_)
  refine c_region ?_
  refine r_y rfl rfl (y_load_a (cs := encRule x s1) rfl ts50 (RdA.blk (i := 1) rfl rfl)) ?_
  refine r_y rfl rfl (y_load_a (cs := encRule y s2) rfl ts50 (RdA.blk (i := 0) rfl rfl)) ?_
  refine r_s rfl ?_
  refine s_call0 rfl Try.call74 rfl (ruleCmp_ok x y s1 s2 _ _) ?_
  rintro _ m2 _ hm2 ⟨rfl, rfl⟩
  replace hm := hm.trans hm2
  clear hm2
  refine r_y rfl rfl (y_iop rfl rfl rfl) ?_
  refine r_y rfl rfl (y_assign rfl) ?_
  refine r_nil ?_
  refine hK1 _ _ _ ?_
  clear hK1 K1
  refine c_ret ?_
  refine e_ret 2 hm (res_tmps rfl) ?_
  exact ⟨rfl, rfl⟩
set_option maxRecDepth 100000 in
theorem ruleTable_ok (s : Sl) (l : List (RuleD × Sl)) (m : Snap) (H : Hp) (hz : FzR m s l) : Fn Try.prog 80 [s.v] m H (fun v _ H' => v = .bool (ruleTable (l.map (·.1))) ∧ H' = H) := by
  have hl := hz.len
  have hmx := hz.fz.max
  have hle := hz.fz.le
  unfold maxLen at hmx
  have hm : m.le m := Snap.le.refl m
  refine fn_end Try.func80 rfl rfl rfl ?_
  refine c_seq (fun K0 hK0 => ?_)
  refine c_region ?_
  refine r_y rfl rfl (y_assign rfl) ?_
  refine r_nil ?_
  refine hK0 _ _ _ ?_
  clear hK0 K0
  refine c_seq (fun K1 hK1 => ?_)
  refine c_seq (fun K2 hK2 => ?_)
  refine c_region ?_
  refine r_y rfl rfl (y_move rfl) ?_
  refine r_y rfl rfl (y_len tl33 rfl) ?_
  refine r_y rfl rfl (y_move rfl) ?_
  refine r_nil ?_
  refine hK2 _ _ _ ?_
  clear hK2 K2
  refine c_block ?_
  refine c_loopx (α := Nat) (fun i => [(0, s.v), (5, s.v), (6, .int .i64 (s.n : Nat)), (7, .int .i64 (i : Nat))]) (fun i => H) (fun k0 i m1 => (i + k0 = s.n ∧ (List.range i).all (okAt (l.map (·.1))) = true) ∧ m.le m1 ∧ (FzR m1 s l)) (s.n) 0 ⟨rfl, rfl, rfl, rfl, trivial⟩ rfl ⟨⟨by omega, rfl⟩, hm, hz⟩ ?_
  clear hm hz
  rintro k0 i m1 ⟨hi0, hm, hz⟩
  obtain ⟨hi, hinv⟩ := hi0
  refine c_seq (fun K3 hK3 => ?_)
  refine c_region ?_
  refine r_y rfl rfl (y_iop rfl rfl rfl) ?_
  refine r_nil ?_
  refine hK3 _ _ _ ?_
  clear hK3 K3
  refine c_seq (fun K4 hK4 => ?_)
  refine c_cond rfl (fun h0 => ?_) (fun h0 => ?_)
  ·
    have hlt : i < s.n := by simp at h0; omega
    obtain ⟨x, hx⟩ := get_of_lt (l := l) (k := i) (by omega)
    refine c_skip ?_
    refine hK4 _ _ _ ?_
    clear hK4 K4
    refine c_seq (fun K5 hK5 => ?_)
    refine c_block ?_
    refine c_seq (fun K6 hK6 => ?_)
    refine c_region ?_
    refine r_y rfl rfl (y_move rfl) ?_
    refine r_y rfl rfl (y_indexAddr_slice rfl rfl tl33 hlt (At.fz hz.fz hlt)) ?_
    refine r_y rfl rfl (y_load_a rfl ts50 (RdA.fz0 hz.fz (map_get hx))) ?_
    refine r_s rfl ?_
    refine s_alloc rfl tz50 (fun b0 => ?_)
    refine r_y rfl rfl (y_assign rfl) ?_
    refine r_s rfl ?_
    refine s_store (us := encRule x.1 x.2) rfl rfl rfl ts50 rfl rfl (one_rule _ _) (i := 0) rfl rfl ?_
    refine r_nil ?_
    refine hK6 _ _ _ ?_
    clear hK6 K6
    refine c_seq (fun K7 hK7 => ?_)
    refine c_draw ([.blk b0 (.cells (encRule x.1 x.2).toArray 50)]) (by kernel_rfl) (fun hg => ?_)
    have hz_g := hz
    refine g_y (i := 0) (listed' := #[true, false, false, false, false, false, false, false, false, false, false, false, false, false, false, false, false]) rfl (by kernel_rfl) (by kernel_rfl) (by kernel_rfl) (by kernel_rfl) rfl rfl hg (allc (List.Mem.head _) alln) (fun m' H' hm' hX' => y_load_a (cs := encRule x.1 x.2) rfl ts50 (RdA.mem (hX' _ (List.Mem.head _)) rfl)) ?_
    refine g_s (i := 1) (listed' := #[true, true, false, false, false, false, false, false, false, false, false, false, false, false, false, false, false]) rfl (by kernel_rfl) (by kernel_rfl) rfl ?_
    refine s_call0 rfl Try.call70 rfl (ruleSound_ok x.1 x.2 _ _ (hz.acts x (List.mem_of_getElem? hx)).1) ?_
    rintro _ m2 _ hm2 ⟨rfl, rfl⟩
    replace hm := hm.trans hm2
    refine ⟨⟨hg.trans hm2, (allc (List.Mem.head _) alln)⟩, ?_⟩
    replace hg := hg.trans hm2
    replace hz := hz.mono hm2
    clear hm2
    refine g_y (i := 2) (listed' := #[true, true, true, false, false, false, false, false, false, false, false, false, false, false, false, false, false]) rfl (by kernel_rfl) (by kernel_rfl) (by kernel_rfl) (by kernel_rfl) rfl rfl hg (allc (List.Mem.head _) alln) (fun m' H' hm' hX' => y_not rfl) ?_
    refine g_y (i := 3) (listed' := #[true, true, true, true, false, false, false, false, false, false, false, false, false, false, false, false, false]) rfl (by kernel_rfl) (by kernel_rfl) (by kernel_rfl) (by kernel_rfl) rfl rfl hg (allc (List.Mem.head _) alln) (fun m' H' hm' hX' => y_move rfl) ?_
    refine g_split (j := 3) rfl (fun h1 => ?_) (fun h1 => ?_)
    ·
      refine g_no (i := 4) (listed' := #[true, true, true, true, true, false, false, false, false, false, false, false, false, false, false, false, false]) rfl (by kernel_rfl) (by kernel_rfl) (by kernel_rfl) (by kernel_rfl) rfl rfl h1 rfl hg (allc (List.Mem.head _) alln) ?_
      refine g_no (i := 5) (listed' := #[true, true, true, true, true, true, false, false, false, false, false, false, false, false, false, false, false]) rfl (by kernel_rfl) (by kernel_rfl) (by kernel_rfl) (by kernel_rfl) rfl rfl h1 rfl hg (allc (List.Mem.head _) alln) ?_
      refine g_no (i := 6) (listed' := #[true, true, true, true, true, true, true, false, false, false, false, false, false, false, false, false, false]) rfl (by kernel_rfl) (by kernel_rfl) (by kernel_rfl) (by kernel_rfl) rfl rfl h1 rfl hg (allc (List.Mem.head _) alln) ?_
      refine g_nou (i := 7) (listed' := #[true, true, true, true, true, true, true, true, false, false, false, false, false, false, false, false, false]) rfl (by kernel_rfl) (by kernel_rfl) (by kernel_rfl) (by kernel_rfl) rfl rfl rfl hg (allc (List.Mem.head _) alln) ?_
      refine g_nou (i := 8) (listed' := #[true, true, true, true, true, true, true, true, true, false, false, false, false, false, false, false, false]) rfl (by kernel_rfl) (by kernel_rfl) (by kernel_rfl) (by kernel_rfl) rfl rfl rfl hg (allc (List.Mem.head _) alln) ?_
      refine g_nou (i := 9) (listed' := #[true, true, true, true, true, true, true, true, true, true, false, false, false, false, false, false, false]) rfl (by kernel_rfl) (by kernel_rfl) (by kernel_rfl) (by kernel_rfl) rfl rfl rfl hg (allc (List.Mem.head _) alln) ?_
      refine g_nou (i := 10) (listed' := #[true, true, true, true, true, true, true, true, true, true, true, false, false, false, false, false, false]) rfl (by kernel_rfl) (by kernel_rfl) (by kernel_rfl) (by kernel_rfl) rfl rfl rfl hg (allc (List.Mem.head _) alln) ?_
      refine g_nou (i := 11) (listed' := #[true, true, true, true, true, true, true, true, true, true, true, true, false, false, false, false, false]) rfl (by kernel_rfl) (by kernel_rfl) (by kernel_rfl) (by kernel_rfl) rfl rfl rfl hg (allc (List.Mem.head _) alln) ?_
      refine g_nou (i := 12) (listed' := #[true, true, true, true, true, true, true, true, true, true, true, true, true, false, false, false, false]) rfl (by kernel_rfl) (by kernel_rfl) (by kernel_rfl) (by kernel_rfl) rfl rfl rfl hg (allc (List.Mem.head _) alln) ?_
      refine g_nou (i := 13) (listed' := #[true, true, true, true, true, true, true, true, true, true, true, true, true, true, false, false, false]) rfl (by kernel_rfl) (by kernel_rfl) (by kernel_rfl) (by kernel_rfl) rfl rfl rfl hg (allc (List.Mem.head _) alln) ?_
      refine g_nou (i := 14) (listed' := #[true, true, true, true, true, true, true, true, true, true, true, true, true, true, true, false, false]) rfl (by kernel_rfl) (by kernel_rfl) (by kernel_rfl) (by kernel_rfl) rfl rfl rfl hg (allc (List.Mem.head _) alln) ?_
      refine g_no (i := 15) (listed' := #[true, true, true, true, true, true, true, true, true, true, true, true, true, true, true, true, false]) rfl (by kernel_rfl) (by kernel_rfl) (by kernel_rfl) (by kernel_rfl) rfl rfl h1 rfl hg (allc (List.Mem.head _) alln) ?_
      refine g_y (i := 16) (listed' := #[true, true, true, true, true, true, true, true, true, true, true, true, true, true, true, true, true]) rfl (by kernel_rfl) (by kernel_rfl) (by kernel_rfl) (by kernel_rfl) rfl rfl hg (allc (List.Mem.head _) alln) (fun m' H' hm' hX' => y_pickt rfl h1 rfl) ?_
      refine g_done (by kernel_rfl) ?_
      clear hg hz_g
      refine hK7 _ _ _ ?_
      clear hK7 K7
      refine c_ift rfl rfl ?_
      refine c_seq (fun K8 hK8 => ?_)
      refine c_region ?_
      refine r_y rfl rfl (y_assign rfl) ?_
      refine r_nil ?_
      refine hK8 _ _ _ ?_
      clear hK8 K8
      refine c_ret ?_
      refine e_ret 1 hm (res_tmps rfl) ?_
      refine ⟨congrArg Value.bool ?_, rfl⟩
      refine (all_range_false (i := i) ?_ (by simp; omega)).symm
      simp_all [okAt]
      try omega
    ·
      refine g_yg (i := 4) (listed' := #[true, true, true, true, true, false, false, false, false, false, false, false, false, false, false, false, false]) rfl (by kernel_rfl) (by kernel_rfl) (by kernel_rfl) (by kernel_rfl) rfl rfl h1 rfl hg (allc (List.Mem.head _) alln) (fun m' H' hm' hX' => y_move rfl) ?_
      refine g_yg (i := 5) (listed' := #[true, true, true, true, true, true, false, false, false, false, false, false, false, false, false, false, false]) rfl (by kernel_rfl) (by kernel_rfl) (by kernel_rfl) (by kernel_rfl) rfl rfl h1 rfl hg (allc (List.Mem.head _) alln) (fun m' H' hm' hX' => y_iop rfl rfl rfl) ?_
      refine g_yg (i := 6) (listed' := #[true, true, true, true, true, true, true, false, false, false, false, false, false, false, false, false, false]) rfl (by kernel_rfl) (by kernel_rfl) (by kernel_rfl) (by kernel_rfl) rfl rfl h1 rfl hg (allc (List.Mem.head _) alln) (fun m' H' hm' hX' => y_move rfl) ?_
      refine g_split (j := 6) rfl (fun h2 => ?_) (fun h2 => ?_)
      ·
        have hi1 : 0 < i := by have := of_decide_eq_true ‹decide ((i : Int) > 0) = true›; omega
        have hlt3 : i - 1 < s.n := by omega
        obtain ⟨y, hy⟩ := get_of_lt (l := l) (k := i - 1) (by omega)
        refine g_yg (i := 7) (listed' := #[true, true, true, true, true, true, true, true, false, false, false, false, false, false, false, false, false]) rfl (by kernel_rfl) (by kernel_rfl) (by kernel_rfl) (by kernel_rfl) rfl rfl h2 rfl hg (allc (List.Mem.head _) alln) (fun m' H' hm' hX' => y_move rfl) ?_
        refine g_yg (i := 8) (listed' := #[true, true, true, true, true, true, true, true, true, false, false, false, false, false, false, false, false]) rfl (by kernel_rfl) (by kernel_rfl) (by kernel_rfl) (by kernel_rfl) rfl rfl h2 rfl hg (allc (List.Mem.head _) alln) (fun m' H' hm' hX' => y_move rfl) ?_
        refine g_yg (i := 9) (listed' := #[true, true, true, true, true, true, true, true, true, true, false, false, false, false, false, false, false]) rfl (by kernel_rfl) (by kernel_rfl) (by kernel_rfl) (by kernel_rfl) rfl rfl h2 rfl hg (allc (List.Mem.head _) alln) (fun m' H' hm' hX' => y_dec rfl hi1 (by omega)) ?_
        refine g_yg (i := 10) (listed' := #[true, true, true, true, true, true, true, true, true, true, true, false, false, false, false, false, false]) rfl (by kernel_rfl) (by kernel_rfl) (by kernel_rfl) (by kernel_rfl) rfl rfl h2 rfl hg (allc (List.Mem.head _) alln) (fun m' H' hm' hX' => y_indexAddr_slice rfl rfl tl33 hlt3 (At.fz (hz_g.fz.mono hm') hlt3)) ?_
        refine g_yg (i := 11) (listed' := #[true, true, true, true, true, true, true, true, true, true, true, true, false, false, false, false, false]) rfl (by kernel_rfl) (by kernel_rfl) (by kernel_rfl) (by kernel_rfl) rfl rfl h2 rfl hg (allc (List.Mem.head _) alln) (fun m' H' hm' hX' => y_load_a rfl ts50 (RdA.fz0 (hz_g.fz.mono hm') (map_get hy))) ?_
        refine g_yg (i := 12) (listed' := #[true, true, true, true, true, true, true, true, true, true, true, true, true, false, false, false, false]) rfl (by kernel_rfl) (by kernel_rfl) (by kernel_rfl) (by kernel_rfl) rfl rfl h2 rfl hg (allc (List.Mem.head _) alln) (fun m' H' hm' hX' => y_load_a (cs := encRule x.1 x.2) rfl ts50 (RdA.mem (hX' _ (List.Mem.head _)) rfl)) ?_
        refine g_sg (i := 13) (listed' := #[true, true, true, true, true, true, true, true, true, true, true, true, true, true, false, false, false]) rfl (by kernel_rfl) (by kernel_rfl) rfl rfl h2 ?_
        refine s_call0 rfl Try.call128 rfl (ruleBefore_ok y.1 x.1 y.2 x.2 _ _) ?_
        rintro _ m2 _ hm2 ⟨rfl, rfl⟩
        replace hm := hm.trans hm2
        refine ⟨⟨hg.trans hm2, (allc (List.Mem.head _) alln)⟩, ?_⟩
        replace hg := hg.trans hm2
        replace hz := hz.mono hm2
        clear hm2
        refine g_yg (i := 14) (listed' := #[true, true, true, true, true, true, true, true, true, true, true, true, true, true, true, false, false]) rfl (by kernel_rfl) (by kernel_rfl) (by kernel_rfl) (by kernel_rfl) rfl rfl h2 rfl hg (allc (List.Mem.head _) alln) (fun m' H' hm' hX' => y_not rfl) ?_
        refine g_yg (i := 15) (listed' := #[true, true, true, true, true, true, true, true, true, true, true, true, true, true, true, true, false]) rfl (by kernel_rfl) (by kernel_rfl) (by kernel_rfl) (by kernel_rfl) rfl rfl h1 rfl hg (allc (List.Mem.head _) alln) (fun m' H' hm' hX' => y_pickt rfl h2 rfl) ?_
        refine g_y (i := 16) (listed' := #[true, true, true, true, true, true, true, true, true, true, true, true, true, true, true, true, true]) rfl (by kernel_rfl) (by kernel_rfl) (by kernel_rfl) (by kernel_rfl) rfl rfl hg (allc (List.Mem.head _) alln) (fun m' H' hm' hX' => y_pickf rfl h1 rfl) ?_
        refine g_done (by kernel_rfl) ?_
        clear hg hz_g
        refine hK7 _ _ _ ?_
        clear hK7 K7
        refine c_cond rfl (fun h3 => ?_) (fun h3 => ?_)
        ·
          refine c_seq (fun K9 hK9 => ?_)
          refine c_region ?_
          refine r_y rfl rfl (y_assign rfl) ?_
          refine r_nil ?_
          refine hK9 _ _ _ ?_
          clear hK9 K9
          refine c_ret ?_
          refine e_ret 1 hm (res_tmps rfl) ?_
          refine ⟨congrArg Value.bool ?_, rfl⟩
          refine (all_range_false (i := i) ?_ (by simp; omega)).symm
          simp_all [okAt]
          try omega
        ·
          refine c_skip ?_
          refine hK5 _ _ _ ?_
          clear hK5 K5
          refine c_region ?_
          refine r_del 0 rfl ?_
          first | refine r_y rfl rfl (y_inc rfl (by omega)) ?_ | refine r_y rfl rfl (y_iop rfl rfl rfl) ?_
          refine r_y rfl rfl (y_move rfl) ?_
          refine r_nil ?_
          exact ⟨k0 - 1, (i + 1), by omega, ⟨rfl, rfl, rfl, rfl, trivial⟩, rfl, ⟨by omega, by rw [all_range_succ, hinv]; simp_all [okAt]⟩, hm, hz⟩
      ·
        refine g_no (i := 7) (listed' := #[true, true, true, true, true, true, true, true, false, false, false, false, false, false, false, false, false]) rfl (by kernel_rfl) (by kernel_rfl) (by kernel_rfl) (by kernel_rfl) rfl rfl h2 rfl hg (allc (List.Mem.head _) alln) ?_
        refine g_no (i := 8) (listed' := #[true, true, true, true, true, true, true, true, true, false, false, false, false, false, false, false, false]) rfl (by kernel_rfl) (by kernel_rfl) (by kernel_rfl) (by kernel_rfl) rfl rfl h2 rfl hg (allc (List.Mem.head _) alln) ?_
        refine g_no (i := 9) (listed' := #[true, true, true, true, true, true, true, true, true, true, false, false, false, false, false, false, false]) rfl (by kernel_rfl) (by kernel_rfl) (by kernel_rfl) (by kernel_rfl) rfl rfl h2 rfl hg (allc (List.Mem.head _) alln) ?_
        refine g_no (i := 10) (listed' := #[true, true, true, true, true, true, true, true, true, true, true, false, false, false, false, false, false]) rfl (by kernel_rfl) (by kernel_rfl) (by kernel_rfl) (by kernel_rfl) rfl rfl h2 rfl hg (allc (List.Mem.head _) alln) ?_
        refine g_no (i := 11) (listed' := #[true, true, true, true, true, true, true, true, true, true, true, true, false, false, false, false, false]) rfl (by kernel_rfl) (by kernel_rfl) (by kernel_rfl) (by kernel_rfl) rfl rfl h2 rfl hg (allc (List.Mem.head _) alln) ?_
        refine g_no (i := 12) (listed' := #[true, true, true, true, true, true, true, true, true, true, true, true, true, false, false, false, false]) rfl (by kernel_rfl) (by kernel_rfl) (by kernel_rfl) (by kernel_rfl) rfl rfl h2 rfl hg (allc (List.Mem.head _) alln) ?_
        refine g_no (i := 13) (listed' := #[true, true, true, true, true, true, true, true, true, true, true, true, true, true, false, false, false]) rfl (by kernel_rfl) (by kernel_rfl) (by kernel_rfl) (by kernel_rfl) rfl rfl h2 rfl hg (allc (List.Mem.head _) alln) ?_
        refine g_no (i := 14) (listed' := #[true, true, true, true, true, true, true, true, true, true, true, true, true, true, true, false, false]) rfl (by kernel_rfl) (by kernel_rfl) (by kernel_rfl) (by kernel_rfl) rfl rfl h2 rfl hg (allc (List.Mem.head _) alln) ?_
        refine g_yg (i := 15) (listed' := #[true, true, true, true, true, true, true, true, true, true, true, true, true, true, true, true, false]) rfl (by kernel_rfl) (by kernel_rfl) (by kernel_rfl) (by kernel_rfl) rfl rfl h1 rfl hg (allc (List.Mem.head _) alln) (fun m' H' hm' hX' => y_pickf rfl h2 rfl) ?_
        refine g_y (i := 16) (listed' := #[true, true, true, true, true, true, true, true, true, true, true, true, true, true, true, true, true]) rfl (by kernel_rfl) (by kernel_rfl) (by kernel_rfl) (by kernel_rfl) rfl rfl hg (allc (List.Mem.head _) alln) (fun m' H' hm' hX' => y_pickf rfl h1 rfl) ?_
        refine g_done (by kernel_rfl) ?_
        clear hg hz_g
        refine hK7 _ _ _ ?_
        clear hK7 K7
        refine c_iff rfl rfl ?_
        refine c_skip ?_
        refine hK5 _ _ _ ?_
        clear hK5 K5
        refine c_region ?_
        refine r_del 0 rfl ?_
        first | refine r_y rfl rfl (y_inc rfl (by omega)) ?_ | refine r_y rfl rfl (y_iop rfl rfl rfl) ?_
        refine r_y rfl rfl (y_move rfl) ?_
        refine r_nil ?_
        exact ⟨k0 - 1, (i + 1), by omega, ⟨rfl, rfl, rfl, rfl, trivial⟩, rfl, ⟨by omega, by rw [all_range_succ, hinv]; simp_all [okAt]⟩, hm, hz⟩
  ·
    refine c_exit ?_
    refine hK1 _ _ _ ?_
    clear hK4 K4 hK1 K1
    refine c_seq (fun K10 hK10 => ?_)
    refine c_region ?_
    refine r_y rfl rfl (y_assign rfl) ?_
    refine r_nil ?_
    refine hK10 _ _ _ ?_
    clear hK10 K10
    refine c_ret ?_
    refine e_ret 0 hm (res_tmps rfl) ?_
    refine ⟨congrArg Value.bool ?_, rfl⟩
    have hie : i = s.n := by simp at h0; omega
    rw [ruleTable]; simp; rw [← hl, ← hie]; simpa using hinv
end Go.Aw
namespace Go.Aw
open Go Go.Proofs
theorem tl22 : tslice Try.prog 22 = some (5, 1) := by kernel_rfl
theorem ts5 : tshape Try.prog 5 = some (false, 1) := by kernel_rfl
theorem un5 : Try.prog.underlying 5 = some (.int .u8) := by kernel_rfl
theorem un3 : Try.prog.underlying 3 = some (.int .i64) := by kernel_rfl
theorem tz29 : tzero Try.prog 29 = some [.int .u64 0, .int .u64 0, .int .u64 0, .int .u64 0, .int .u64 0, .int .u64 0, .int .u64 0, .int .u64 0, .int .u64 0, .int .u64 0, .int .u64 0, .int .u64 0, .int .u64 0, .int .u64 0, .int .u64 0, .int .u64 0, .int .u64 0, .int .u64 0, .int .u64 0, .int .u64 0, .int .u64 0, .int .u64 0, .int .u64 0, .int .u64 0] := by kernel_rfl
theorem fk29 : fieldsKnown Try.prog 29 = true := by kernel_rfl
theorem zo53 : zeroOk Try.prog 53 = true := by kernel_rfl
theorem tb53 : tbytes Try.prog 53 = some 32 := by kernel_rfl
theorem fk50 : fieldsKnown Try.prog 50 = true := by kernel_rfl
theorem zo50 : zeroOk Try.prog 50 = true := by kernel_rfl
theorem tb50 : tbytes Try.prog 50 = some 272 := by kernel_rfl
end Go.Aw
namespace Go.Aw
open Go Go.Proofs
theorem zo5 : zeroOk Try.prog 5 = true := by kernel_rfl
theorem tb5 : tbytes Try.prog 5 = some 1 := by kernel_rfl
end Go.Aw
namespace Go.Aw
open Go Go.Proofs
theorem us22 : Try.prog.underlying 22 = some (.slice 5) := by kernel_rfl
theorem ut9 : Try.prog.underlying 9 = some .string := by kernel_rfl
end Go.Aw
