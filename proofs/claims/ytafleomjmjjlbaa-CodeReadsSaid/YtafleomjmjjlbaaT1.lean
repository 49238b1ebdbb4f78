import Derived.Test.YtafleomjmjjlbaaData1
import Derived.Test.YtafleomjmjjlbaaProg
import Derived.KernelRfl
namespace Go.Aw
open Go Go.Proofs
def fieldCells : List Value := [.string ⟨#[105, 110]⟩, .int .i64 16, .string ⟨#[101, 115, 114, 99]⟩, .int .i64 48, .string ⟨#[101, 100, 115, 116]⟩, .int .i64 48, .string ⟨#[101, 116, 121, 112, 101]⟩, .int .i64 16, .string ⟨#[118, 108, 97, 110]⟩, .int .i64 12, .string ⟨#[112, 99, 112]⟩, .int .i64 4, .string ⟨#[115, 114, 99]⟩, .int .i64 32, .string ⟨#[100, 115, 116]⟩, .int .i64 32, .string ⟨#[112, 114, 111, 116, 111]⟩, .int .i64 8, .string ⟨#[116, 111, 115]⟩, .int .i64 8, .string ⟨#[115, 112, 111, 114, 116]⟩, .int .i64 12, .string ⟨#[100, 112, 111, 114, 116]⟩, .int .i64 12]
def nameCell (k : Nat) : Value := ([.string ⟨#[105, 110]⟩, .string ⟨#[101, 115, 114, 99]⟩, .string ⟨#[101, 100, 115, 116]⟩, .string ⟨#[101, 116, 121, 112, 101]⟩, .string ⟨#[118, 108, 97, 110]⟩, .string ⟨#[112, 99, 112]⟩, .string ⟨#[115, 114, 99]⟩, .string ⟨#[100, 115, 116]⟩, .string ⟨#[112, 114, 111, 116, 111]⟩, .string ⟨#[116, 111, 115]⟩, .string ⟨#[115, 112, 111, 114, 116]⟩, .string ⟨#[100, 112, 111, 114, 116]⟩] : List Value).getD k undef
theorem csub_fields (k : Nat) (hk : k < 12) : csub fieldCells (k * 2) 2 = some [nameCell k, .int .i64 ((size12.getD k 0 : Nat) : Int)] := by
  match k, hk with
  | 0, _ | 1, _ | 2, _ | 3, _ | 4, _ | 5, _ | 6, _ | 7, _ | 8, _ | 9, _ | 10, _ | 11, _ => rfl
theorem tz196 : tzero Try.prog 196 = some [.string ByteArray.empty, .int .i64 0, .string ByteArray.empty, .int .i64 0, .string ByteArray.empty, .int .i64 0, .string ByteArray.empty, .int .i64 0, .string ByteArray.empty, .int .i64 0, .string ByteArray.empty, .int .i64 0, .string ByteArray.empty, .int .i64 0, .string ByteArray.empty, .int .i64 0, .string ByteArray.empty, .int .i64 0, .string ByteArray.empty, .int .i64 0, .string ByteArray.empty, .int .i64 0, .string ByteArray.empty, .int .i64 0] := by kernel_rfl
theorem tz195 : tzero Try.prog 195 = some [.string ByteArray.empty, .int .i64 0] := by kernel_rfl
theorem fk195 : fieldsKnown Try.prog 195 = true := by kernel_rfl
theorem bp195_0_1 : bplaces Try.prog 195 [0, 1] = some [(0, 1), (1, 1)] := by kernel_rfl
theorem fk196 : fieldsKnown Try.prog 196 = true := by kernel_rfl
theorem bp196_0_1_2_3_4_5_6_7_8_9_10_11 : bplaces Try.prog 196 [0, 1, 2, 3, 4, 5, 6, 7, 8, 9, 10, 11] = some [(0, 2), (2, 2), (4, 2), (6, 2), (8, 2), (10, 2), (12, 2), (14, 2), (16, 2), (18, 2), (20, 2), (22, 2)] := by kernel_rfl
theorem ts196 : tshape Try.prog 196 = some (true, 24) := by kernel_rfl
theorem ta196 : tarray Try.prog 196 = some (12, true, 2) := by kernel_rfl
theorem fs195_1 : fieldSh Try.prog 195 1 = some (1, false, 1) := by kernel_rfl
theorem ts27 : tshape Try.prog 27 = some (true, 12) := by kernel_rfl
theorem ta27 : tarray Try.prog 27 = some (12, false, 1) := by kernel_rfl
theorem fo29_1 : fieldOff Try.prog 29 1 = some 12 := by kernel_rfl
theorem fo29_0 : fieldOff Try.prog 29 0 = some 0 := by kernel_rfl
theorem ts25 : tshape Try.prog 25 = some (false, 1) := by kernel_rfl
theorem ts29 : tshape Try.prog 29 = some (true, 24) := by kernel_rfl
set_option maxRecDepth 100000 in
theorem there_ok (n : Int) (m : Snap) (H : Hp) : Fn Try.prog 167 [.int .i64 n] m H (fun v _ H' => v = .bool (there n) ∧ H' = H) := by
  have hm : m.le m := Snap.le.refl m
  refine fn_end Try.func167 rfl rfl rfl ?_
  refine c_seq (fun K0 hK0 => ?_)
  refine c_region ?_
  refine r_y rfl rfl (y_assign rfl) ?_
  refine r_nil ?_
  refine hK0 _ _ _ ?_
  clear hK0 K0
  refine c_seq (fun K1 hK1 => ?_)
  refine c_region ?_
  refine r_y rfl rfl (y_move rfl) ?_
  refine r_y rfl rfl (y_iop rfl rfl rfl) ?_
  refine r_y rfl rfl (y_move rfl) ?_
  refine r_split (j := 2) rfl (fun h0 => ?_) (fun h0 => ?_)
  ·
    refine r_yg rfl h0 rfl (y_move rfl) ?_
    refine r_yg rfl h0 rfl (y_iop rfl rfl rfl) ?_
    refine r_y rfl rfl (y_pickt rfl h0 rfl) ?_
    refine r_y rfl rfl (y_assign rfl) ?_
    refine r_nil ?_
    refine hK1 _ _ _ ?_
    clear hK1 K1
    refine c_ret ?_
    refine e_ret 0 hm (res_tmps rfl) ?_
    refine ⟨?_, rfl⟩
    simp_all [there]
    try omega
  ·
    refine r_no' rfl rfl h0 ?_
    refine r_no' rfl rfl h0 ?_
    refine r_y rfl rfl (y_pickf rfl h0 rfl) ?_
    refine r_y rfl rfl (y_assign rfl) ?_
    refine r_nil ?_
    refine hK1 _ _ _ ?_
    clear hK1 K1
    refine c_ret ?_
    refine e_ret 0 hm (res_tmps rfl) ?_
    refine ⟨?_, rfl⟩
    simp_all [there]
    try omega
set_option maxRecDepth 100000 in
theorem fields_ok (m : Snap) (H : Hp) : Fn Try.prog 180 [] m H (fun v _ H' => v = .agg fieldCells.toArray ∧ H' = H) := by
  have hm : m.le m := Snap.le.refl m
  refine fn_end Try.func180 rfl rfl rfl ?_
  refine c_seq (fun K0 hK0 => ?_)
  refine c_region ?_
  refine r_s rfl ?_
  refine s_alloc rfl tz196 (fun b0 => ?_)
  refine r_nil ?_
  refine hK0 _ _ _ ?_
  clear hK0 K0
  refine c_seq (fun K1 hK1 => ?_)
  refine c_region ?_
  refine r_y rfl rfl (y_bld rfl tz195 fk195 bp195_0_1 rfl rfl) ?_
  refine r_y rfl rfl (y_bld rfl tz195 fk195 bp195_0_1 rfl rfl) ?_
  refine r_y rfl rfl (y_bld rfl tz195 fk195 bp195_0_1 rfl rfl) ?_
  refine r_y rfl rfl (y_bld rfl tz195 fk195 bp195_0_1 rfl rfl) ?_
  refine r_y rfl rfl (y_bld rfl tz195 fk195 bp195_0_1 rfl rfl) ?_
  refine r_y rfl rfl (y_bld rfl tz195 fk195 bp195_0_1 rfl rfl) ?_
  refine r_y rfl rfl (y_bld rfl tz195 fk195 bp195_0_1 rfl rfl) ?_
  refine r_y rfl rfl (y_bld rfl tz195 fk195 bp195_0_1 rfl rfl) ?_
  refine r_y rfl rfl (y_bld rfl tz195 fk195 bp195_0_1 rfl rfl) ?_
  refine r_y rfl rfl (y_bld rfl tz195 fk195 bp195_0_1 rfl rfl) ?_
  refine r_y rfl rfl (y_bld rfl tz195 fk195 bp195_0_1 rfl rfl) ?_
  refine r_y rfl rfl (y_bld rfl tz195 fk195 bp195_0_1 rfl rfl) ?_
  refine r_y rfl rfl (y_bld rfl tz196 fk196 bp196_0_1_2_3_4_5_6_7_8_9_10_11 rfl rfl) ?_
  refine r_s rfl ?_
  refine s_store rfl rfl rfl ts196 rfl rfl (by simp [Value.oneCell', wv, Sl.v]) (i := 0) rfl rfl ?_
  refine r_nil ?_
  refine hK1 _ _ _ ?_
  clear hK1 K1
  refine c_ret ?_
  refine e_ret 1 hm (res_cell_a rfl ts196 (RdA.blk (i := 0) rfl rfl)) ?_
  exact ⟨rfl, rfl⟩
set_option maxRecDepth 100000 in
theorem Size_ok (n : Int) (m : Snap) (H : Hp) : Fn Try.prog 166 [.int .i64 n] m H (fun v _ H' => v = .int .i64 (hsz n : Nat) ∧ H' = H) := by
  have hm : m.le m := Snap.le.refl m
  refine fn_end Try.func166 rfl rfl rfl ?_
  refine c_seq (fun K0 hK0 => ?_)
  refine c_region ?_
  refine r_y rfl rfl (y_assign rfl) ?_
  refine r_nil ?_
  refine hK0 _ _ _ ?_
  clear hK0 K0
  refine c_seq (fun K1 hK1 => ?_)
  refine c_seq (fun K2 hK2 => ?_)
  refine c_region ?_
  refine r_y rfl rfl (y_move rfl) ?_
  refine r_s rfl ?_
  refine s_call0 rfl Try.call167 rfl (there_ok _ _ _) ?_
  rintro _ m2 _ hm2 ⟨rfl, rfl⟩
  replace hm := hm.trans hm2
  clear hm2
  refine r_y rfl rfl (y_not rfl) ?_
  refine r_nil ?_
  refine hK2 _ _ _ ?_
  clear hK2 K2
  refine c_cond rfl (fun h0 => ?_) (fun h0 => ?_)
  ·
    refine c_seq (fun K3 hK3 => ?_)
    refine c_region ?_
    refine r_y rfl rfl (y_assign rfl) ?_
    refine r_nil ?_
    refine hK3 _ _ _ ?_
    clear hK3 K3
    refine c_ret ?_
    refine e_ret 0 hm (res_tmps rfl) ?_
    refine ⟨?_, rfl⟩
    first | (simp_all [hsz]; done) | (rw [hsz_nat (by omega)])
  ·
    obtain ⟨k, hk, rfl⟩ := there_spec h0
    refine c_skip ?_
    refine hK1 _ _ _ ?_
    clear hK1 K1
    refine c_seq (fun K4 hK4 => ?_)
    refine c_region ?_
    refine r_s rfl ?_
    refine s_call0 rfl Try.call180 rfl (fields_ok _ _) ?_
    rintro _ m2 _ hm2 ⟨rfl, rfl⟩
    replace hm := hm.trans hm2
    clear hm2
    refine r_y rfl rfl (y_move rfl) ?_
    refine r_y rfl rfl (y_index_arr_a rfl rfl ta196 (by omega) (csub_fields k (by omega))) ?_
    refine r_y rfl rfl (y_fld_s rfl fs195_1 rfl) ?_
    refine r_y rfl rfl (y_assign rfl) ?_
    refine r_nil ?_
    refine hK4 _ _ _ ?_
    clear hK4 K4
    refine c_ret ?_
    refine e_ret 0 hm (res_tmps rfl) ?_
    refine ⟨?_, rfl⟩
    first | (simp_all [hsz]; done) | (rw [hsz_nat (by omega)])
set_option maxRecDepth 100000 in
theorem fits_ok (n : Int) (x : W) (m : Snap) (H : Hp) : Fn Try.prog 154 [.int .i64 n, wv x] m H (fun v _ H' => v = .bool (fits n x) ∧ H' = H) := by
  have hm : m.le m := Snap.le.refl m
  refine fn_end Try.func154 rfl rfl rfl ?_
  refine c_seq (fun K0 hK0 => ?_)
  refine c_region ?_
  refine r_y rfl rfl (y_assign rfl) ?_
  refine r_nil ?_
  refine hK0 _ _ _ ?_
  clear hK0 K0
  refine c_seq (fun K1 hK1 => ?_)
  refine c_region ?_
  refine r_y rfl rfl (y_move rfl) ?_
  refine r_y rfl rfl (y_move rfl) ?_
  refine r_s rfl ?_
  refine s_call0 rfl Try.call166 rfl (Size_ok _ _ _) ?_
  rintro _ m2 _ hm2 ⟨rfl, rfl⟩
  replace hm := hm.trans hm2
  clear hm2
  refine r_y rfl rfl (y_wshr rfl rfl) ?_
  refine r_y rfl rfl (y_wop rfl (opv_wc 0#64) rfl) ?_
  refine r_y rfl rfl (y_assign rfl) ?_
  refine r_nil ?_
  refine hK1 _ _ _ ?_
  clear hK1 K1
  refine c_ret ?_
  refine e_ret 0 hm (res_tmps rfl) ?_
  exact ⟨rfl, rfl⟩
set_option maxRecDepth 100000 in
theorem headSound_ok (h : Head) (m : Snap) (H : Hp) : Fn Try.prog 127 [.agg (encHead h).toArray] m H (fun v _ H' => v = .bool (headSound h) ∧ H' = H) := by
  have hm : m.le m := Snap.le.refl m
  refine fn_end Try.func127 rfl rfl rfl ?_
  refine c_seq (fun K0 hK0 => ?_)
  refine c_region ?_
  refine r_s rfl ?_
  refine s_box_a rfl rfl (fun b0 => ?_)
  refine r_y rfl rfl (y_assign rfl) ?_
  refine r_nil ?_
  refine hK0 _ _ _ ?_
  clear hK0 K0
  refine c_seq (fun K1 hK1 => ?_)
  refine c_seq (fun K2 hK2 => ?_)
  refine c_region ?_
  refine r_y rfl rfl (y_load_a (cs := encHead h) rfl ts27 (RdA.blk (i := 0) rfl rfl)) ?_
  refine r_y rfl rfl (y_move rfl) ?_
  refine r_nil ?_
  refine hK2 _ _ _ ?_
  clear hK2 K2
  refine c_block ?_
  refine c_loopx (α := Nat) (fun i => [(5, .agg (encHead h).toArray), (6, .int .i64 (i : Nat))]) (fun i => .blk b0 (.cells (encHead h).toArray 27) :: H) (fun k0 i m1 => (i + k0 = 12 ∧ (List.range i).all (fun i => fits (i : Int) (h.at i)) = true) ∧ m.le m1) (12) 0 ⟨rfl, rfl, trivial⟩ rfl ⟨⟨by omega, rfl⟩, hm⟩ ?_
  clear hm
  rintro k0 i m1 ⟨hi0, hm⟩
  obtain ⟨hi, hinv⟩ := hi0
  refine c_seq (fun K3 hK3 => ?_)
  refine c_region ?_
  refine r_y rfl rfl (y_iop rfl rfl rfl) ?_
  refine r_nil ?_
  refine hK3 _ _ _ ?_
  clear hK3 K3
  refine c_seq (fun K4 hK4 => ?_)
  refine c_cond rfl (fun h0 => ?_) (fun h0 => ?_)
  ·
    have hlt : i < 12 := by simp at h0; omega
    refine c_skip ?_
    refine hK4 _ _ _ ?_
    clear hK4 K4
    refine c_seq (fun K5 hK5 => ?_)
    refine c_block ?_
    refine c_seq (fun K6 hK6 => ?_)
    refine c_region ?_
    refine r_y rfl rfl (y_move rfl) ?_
    refine r_y rfl rfl (y_index_arr rfl rfl ta27 hlt (cget_head _ _ hlt)) ?_
    refine r_y rfl rfl (y_assign rfl) ?_
    refine r_y rfl rfl (y_assign rfl) ?_
    refine r_nil ?_
    refine hK6 _ _ _ ?_
    clear hK6 K6
    refine c_seq (fun K7 hK7 => ?_)
    refine c_region ?_
    refine r_y rfl rfl (y_move rfl) ?_
    refine r_y rfl rfl (y_move rfl) ?_
    refine r_s rfl ?_
    refine s_call0 rfl Try.call154 rfl (fits_ok _ _ _ _) ?_
    rintro _ m2 _ hm2 ⟨rfl, rfl⟩
    replace hm := hm.trans hm2
    clear hm2
    refine r_y rfl rfl (y_not rfl) ?_
    refine r_nil ?_
    refine hK7 _ _ _ ?_
    clear hK7 K7
    refine c_cond rfl (fun h1 => ?_) (fun h1 => ?_)
    ·
      refine c_seq (fun K8 hK8 => ?_)
      refine c_region ?_
      refine r_y rfl rfl (y_assign rfl) ?_
      refine r_nil ?_
      refine hK8 _ _ _ ?_
      clear hK8 K8
      refine c_ret ?_
      refine e_ret 1 hm (res_tmps rfl) ?_
      exact ⟨congrArg Value.bool (all_range_false (by simpa using h1) hlt).symm, rfl⟩
    ·
      refine c_skip ?_
      refine hK5 _ _ _ ?_
      clear hK5 K5
      refine c_region ?_
      first | refine r_y rfl rfl (y_inc rfl (by omega)) ?_ | refine r_y rfl rfl (y_iop rfl rfl rfl) ?_
      refine r_y rfl rfl (y_move rfl) ?_
      refine r_nil ?_
      exact ⟨k0 - 1, (i + 1), by omega, ⟨rfl, rfl, trivial⟩, rfl, ⟨by omega, by rw [all_range_succ, hinv]; simpa using h1⟩, hm⟩
  ·
    refine c_exit ?_
    refine hK1 _ _ _ ?_
    clear hK4 K4 hK1 K1
    refine c_seq (fun K9 hK9 => ?_)
    refine c_region ?_
    refine r_y rfl rfl (y_assign rfl) ?_
    refine r_nil ?_
    refine hK9 _ _ _ ?_
    clear hK9 K9
    refine c_ret ?_
    refine e_ret 1 hm (res_tmps rfl) ?_
    obtain rfl : i = 12 := by simp at h0; omega
    exact ⟨congrArg Value.bool (by rw [headSound, hinv]), rfl⟩
set_option maxRecDepth 100000 in
theorem cubeSound_ok (c : Cube) (m : Snap) (H : Hp) : Fn Try.prog 90 [.agg (encCube c).toArray] m H (fun v _ H' => v = .bool (cubeSound c) ∧ H' = H) := by
  have hm : m.le m := Snap.le.refl m
  refine fn_end Try.func90 rfl rfl rfl ?_
  refine c_seq (fun K0 hK0 => ?_)
  refine c_region ?_
  refine r_s rfl ?_
  refine s_box_a rfl rfl (fun b0 => ?_)
  refine r_y rfl rfl (y_assign rfl) ?_
  refine r_nil ?_
  refine hK0 _ _ _ ?_
  clear hK0 K0
  refine c_seq (fun K1 hK1 => ?_)
  refine c_seq (fun K2 hK2 => ?_)
  refine c_region ?_
  refine r_y rfl rfl (y_fieldAddr rfl At.lit fo29_1 rfl) ?_
  refine r_y rfl rfl (y_load_a (cs := encHead c.care) rfl ts27 (RdA.blk (i := 0) rfl rfl)) ?_
  refine r_s rfl ?_
  refine s_call0 rfl Try.call127 rfl (headSound_ok c.care _ _) ?_
  rintro _ m2 _ hm2 ⟨rfl, rfl⟩
  replace hm := hm.trans hm2
  clear hm2
  refine r_y rfl rfl (y_not rfl) ?_
  refine r_nil ?_
  refine hK2 _ _ _ ?_
  clear hK2 K2
  refine c_cond rfl (fun h0 => ?_) (fun h0 => ?_)
  ·
    refine c_seq (fun K3 hK3 => ?_)
    refine c_region ?_
    refine r_y rfl rfl (y_assign rfl) ?_
    refine r_nil ?_
    refine hK3 _ _ _ ?_
    clear hK3 K3
    refine c_ret ?_
    refine e_ret 1 hm (res_tmps rfl) ?_
    exact ⟨congrArg Value.bool (by simp_all [cubeSound]), rfl⟩
  ·
    refine c_skip ?_
    refine hK1 _ _ _ ?_
    clear hK1 K1
    refine c_seq (fun K4 hK4 => ?_)
    refine c_seq (fun K5 hK5 => ?_)
    refine c_region ?_
    refine r_y rfl rfl (y_fieldAddr rfl At.lit fo29_0 rfl) ?_
    refine r_y rfl rfl (y_load_a (cs := encHead c.value) rfl ts27 (RdA.blk (i := 0) rfl rfl)) ?_
    refine r_y rfl rfl (y_move rfl) ?_
    refine r_nil ?_
    refine hK5 _ _ _ ?_
    clear hK5 K5
    refine c_block ?_
    refine c_loopx (α := Nat) (fun i => [(1, .pointer (some ⟨b0, 0, none⟩)), (10, .agg (encHead c.value).toArray), (11, .int .i64 (i : Nat))]) (fun i => .blk b0 (.cells (encCube c).toArray 29) :: H) (fun k0 i m1 => (i + k0 = 12 ∧ (List.range i).all (fun i => (c.value.at i &&& ~~~(c.care.at i)) == 0) = true) ∧ m.le m1) (12) 0 ⟨rfl, rfl, rfl, trivial⟩ rfl ⟨⟨by omega, rfl⟩, hm⟩ ?_
    clear hm
    rintro k0 i m1 ⟨hi0, hm⟩
    obtain ⟨hi, hinv⟩ := hi0
    refine c_seq (fun K6 hK6 => ?_)
    refine c_region ?_
    refine r_y rfl rfl (y_iop rfl rfl rfl) ?_
    refine r_nil ?_
    refine hK6 _ _ _ ?_
    clear hK6 K6
    refine c_seq (fun K7 hK7 => ?_)
    refine c_cond rfl (fun h1 => ?_) (fun h1 => ?_)
    ·
      have hlt : i < 12 := by simp at h1; omega
      refine c_skip ?_
      refine hK7 _ _ _ ?_
      clear hK7 K7
      refine c_seq (fun K8 hK8 => ?_)
      refine c_block ?_
      refine c_seq (fun K9 hK9 => ?_)
      refine c_region ?_
      refine r_y rfl rfl (y_move rfl) ?_
      refine r_y rfl rfl (y_index_arr rfl rfl ta27 hlt (cget_head _ _ hlt)) ?_
      refine r_y rfl rfl (y_assign rfl) ?_
      refine r_y rfl rfl (y_assign rfl) ?_
      refine r_nil ?_
      refine hK9 _ _ _ ?_
      clear hK9 K9
      refine c_seq (fun K10 hK10 => ?_)
      refine c_region ?_
      refine r_y rfl rfl (y_move rfl) ?_
      refine r_y rfl rfl (y_move rfl) ?_
      refine r_y rfl rfl (y_fieldAddr rfl At.lit fo29_1 rfl) ?_
      refine r_y rfl rfl (y_indexAddr_arr rfl rfl ta27 hlt At.lit) ?_
      refine r_y rfl rfl (y_load_s rfl ts25 (RdS.blk (i := 0) rfl (cget_care _ _ hlt))) ?_
      refine r_y rfl rfl (y_wop rfl rfl rfl) ?_
      refine r_y rfl rfl (y_wop rfl (opv_wc 0#64) rfl) ?_
      refine r_nil ?_
      refine hK10 _ _ _ ?_
      clear hK10 K10
      refine c_cond rfl (fun h2 => ?_) (fun h2 => ?_)
      ·
        refine c_seq (fun K11 hK11 => ?_)
        refine c_region ?_
        refine r_y rfl rfl (y_assign rfl) ?_
        refine r_nil ?_
        refine hK11 _ _ _ ?_
        clear hK11 K11
        refine c_ret ?_
        refine e_ret 1 hm (res_tmps rfl) ?_
        exact ⟨congrArg Value.bool (by rw [cubeSound, all_range_false (by simpa using h2) hlt]; simp), rfl⟩
      ·
        refine c_skip ?_
        refine hK8 _ _ _ ?_
        clear hK8 K8
        refine c_region ?_
        first | refine r_y rfl rfl (y_inc rfl (by omega)) ?_ | refine r_y rfl rfl (y_iop rfl rfl rfl) ?_
        refine r_y rfl rfl (y_move rfl) ?_
        refine r_nil ?_
        exact ⟨k0 - 1, (i + 1), by omega, ⟨rfl, rfl, rfl, trivial⟩, rfl, ⟨by omega, by rw [all_range_succ, hinv]; simpa using h2⟩, hm⟩
    ·
      refine c_exit ?_
      refine hK4 _ _ _ ?_
      clear hK7 K7 hK4 K4
      refine c_seq (fun K12 hK12 => ?_)
      refine c_region ?_
      refine r_y rfl rfl (y_assign rfl) ?_
      refine r_nil ?_
      refine hK12 _ _ _ ?_
      clear hK12 K12
      refine c_ret ?_
      refine e_ret 1 hm (res_tmps rfl) ?_
      obtain rfl : i = 12 := by simp at h1; omega
      exact ⟨congrArg Value.bool (by simp at h0; rw [cubeSound, hinv, h0]; rfl), rfl⟩
set_option maxRecDepth 100000 in
theorem cubeHas_ok (c : Cube) (h : Head) (m : Snap) (H : Hp) : Fn Try.prog 109 [.agg (encCube c).toArray, .agg (encHead h).toArray] m H (fun v _ H' => v = .bool (cubeHas c h) ∧ H' = H) := by
  have hm : m.le m := Snap.le.refl m
  refine fn_end Try.func109 rfl rfl rfl ?_
  refine c_seq (fun K0 hK0 => ?_)
  refine c_region ?_
  refine r_s rfl ?_
  refine s_box_a rfl rfl (fun b0 => ?_)
  refine r_s rfl ?_
  refine s_box_a rfl rfl (fun b1 => ?_)
  refine r_y rfl rfl (y_assign rfl) ?_
  refine r_nil ?_
  refine hK0 _ _ _ ?_
  clear hK0 K0
  refine c_seq (fun K1 hK1 => ?_)
  refine c_seq (fun K2 hK2 => ?_)
  refine c_region ?_
  refine r_y rfl rfl (y_load_a (cs := encHead h) rfl ts27 (RdA.blk (i := 0) rfl rfl)) ?_
  refine r_y rfl rfl (y_move rfl) ?_
  refine r_nil ?_
  refine hK2 _ _ _ ?_
  clear hK2 K2
  refine c_block ?_
  refine c_loopx (α := Nat) (fun i => [(2, .pointer (some ⟨b0, 0, none⟩)), (3, .pointer (some ⟨b1, 0, none⟩)), (7, .agg (encHead h).toArray), (8, .int .i64 (i : Nat))]) (fun i => .blk b1 (.cells (encHead h).toArray 27) :: .blk b0 (.cells (encCube c).toArray 29) :: H) (fun k0 i m1 => (i + k0 = 12 ∧ (List.range i).all (fun i => (h.at i &&& c.care.at i) == c.value.at i) = true) ∧ m.le m1) (12) 0 ⟨rfl, rfl, rfl, rfl, trivial⟩ rfl ⟨⟨by omega, rfl⟩, hm⟩ ?_
  clear hm
  rintro k0 i m1 ⟨hi0, hm⟩
  obtain ⟨hi, hinv⟩ := hi0
  refine c_seq (fun K3 hK3 => ?_)
  refine c_region ?_
  refine r_y rfl rfl (y_iop rfl rfl rfl) ?_
  refine r_nil ?_
  refine hK3 _ _ _ ?_
  clear hK3 K3
  refine c_seq (fun K4 hK4 => ?_)
  refine c_cond rfl (fun h0 => ?_) (fun h0 => ?_)
  ·
    have hlt : i < 12 := by simp at h0; omega
    refine c_skip ?_
    refine hK4 _ _ _ ?_
    clear hK4 K4
    refine c_seq (fun K5 hK5 => ?_)
    refine c_block ?_
    refine c_seq (fun K6 hK6 => ?_)
    refine c_region ?_
    refine r_y rfl rfl (y_move rfl) ?_
    refine r_y rfl rfl (y_index_arr rfl rfl ta27 hlt (cget_head _ _ hlt)) ?_
    refine r_y rfl rfl (y_assign rfl) ?_
    refine r_y rfl rfl (y_assign rfl) ?_
    refine r_nil ?_
    refine hK6 _ _ _ ?_
    clear hK6 K6
    refine c_seq (fun K7 hK7 => ?_)
    refine c_draw ([.blk b0 (.cells (encCube c).toArray 29)]) (by kernel_rfl) (fun hg => ?_)
    refine g_y (i := 0) (listed' := #[true, false, false, false, false, false, false, false, false, false, false]) rfl (by kernel_rfl) (by kernel_rfl) (by kernel_rfl) (by kernel_rfl) rfl rfl hg (allc (List.Mem.tail _ (List.Mem.head _)) alln) (fun m' H' hm' hX' => y_move rfl) ?_
    refine g_y (i := 1) (listed' := #[true, true, false, false, false, false, false, false, false, false, false]) rfl (by kernel_rfl) (by kernel_rfl) (by kernel_rfl) (by kernel_rfl) rfl rfl hg (allc (List.Mem.tail _ (List.Mem.head _)) alln) (fun m' H' hm' hX' => y_move rfl) ?_
    refine g_y (i := 2) (listed' := #[true, true, true, false, false, false, false, false, false, false, false]) rfl (by kernel_rfl) (by kernel_rfl) (by kernel_rfl) (by kernel_rfl) rfl rfl hg (allc (List.Mem.tail _ (List.Mem.head _)) alln) (fun m' H' hm' hX' => y_fieldAddr rfl At.lit fo29_1 rfl) ?_
    refine g_y (i := 3) (listed' := #[true, true, true, true, false, false, false, false, false, false, false]) rfl (by kernel_rfl) (by kernel_rfl) (by kernel_rfl) (by kernel_rfl) rfl rfl hg (allc (List.Mem.tail _ (List.Mem.head _)) alln) (fun m' H' hm' hX' => y_indexAddr_arr rfl rfl ta27 hlt At.lit) ?_
    refine g_y (i := 4) (listed' := #[true, true, true, true, true, false, false, false, false, false, false]) rfl (by kernel_rfl) (by kernel_rfl) (by kernel_rfl) (by kernel_rfl) rfl rfl hg (allc (List.Mem.tail _ (List.Mem.head _)) alln) (fun m' H' hm' hX' => y_load_s rfl ts25 (RdS.mem (hX' _ (List.Mem.head _)) (cget_care _ _ hlt))) ?_
    refine g_y (i := 5) (listed' := #[true, true, true, true, true, true, false, false, false, false, false]) rfl (by kernel_rfl) (by kernel_rfl) (by kernel_rfl) (by kernel_rfl) rfl rfl hg (allc (List.Mem.tail _ (List.Mem.head _)) alln) (fun m' H' hm' hX' => y_wop rfl rfl rfl) ?_
    refine g_y (i := 6) (listed' := #[true, true, true, true, true, true, true, false, false, false, false]) rfl (by kernel_rfl) (by kernel_rfl) (by kernel_rfl) (by kernel_rfl) rfl rfl hg (allc (List.Mem.tail _ (List.Mem.head _)) alln) (fun m' H' hm' hX' => y_move rfl) ?_
    refine g_y (i := 7) (listed' := #[true, true, true, true, true, true, true, true, false, false, false]) rfl (by kernel_rfl) (by kernel_rfl) (by kernel_rfl) (by kernel_rfl) rfl rfl hg (allc (List.Mem.tail _ (List.Mem.head _)) alln) (fun m' H' hm' hX' => y_fieldAddr rfl At.lit fo29_0 rfl) ?_
    refine g_y (i := 8) (listed' := #[true, true, true, true, true, true, true, true, true, false, false]) rfl (by kernel_rfl) (by kernel_rfl) (by kernel_rfl) (by kernel_rfl) rfl rfl hg (allc (List.Mem.tail _ (List.Mem.head _)) alln) (fun m' H' hm' hX' => y_indexAddr_arr rfl rfl ta27 hlt At.lit) ?_
    refine g_y (i := 9) (listed' := #[true, true, true, true, true, true, true, true, true, true, false]) rfl (by kernel_rfl) (by kernel_rfl) (by kernel_rfl) (by kernel_rfl) rfl rfl hg (allc (List.Mem.tail _ (List.Mem.head _)) alln) (fun m' H' hm' hX' => y_load_s rfl ts25 (RdS.mem (hX' _ (List.Mem.head _)) (cget_value _ _ hlt))) ?_
    refine g_y (i := 10) (listed' := #[true, true, true, true, true, true, true, true, true, true, true]) rfl (by kernel_rfl) (by kernel_rfl) (by kernel_rfl) (by kernel_rfl) rfl rfl hg (allc (List.Mem.tail _ (List.Mem.head _)) alln) (fun m' H' hm' hX' => y_wop rfl rfl rfl) ?_
    refine g_done (by kernel_rfl) ?_
    clear hg
    refine hK7 _ _ _ ?_
    clear hK7 K7
    refine c_cond rfl (fun h1 => ?_) (fun h1 => ?_)
    ·
      refine c_seq (fun K8 hK8 => ?_)
      refine c_region ?_
      refine r_y rfl rfl (y_assign rfl) ?_
      refine r_nil ?_
      refine hK8 _ _ _ ?_
      clear hK8 K8
      refine c_ret ?_
      refine e_ret 2 hm (res_tmps rfl) ?_
      exact ⟨congrArg Value.bool (by rw [cubeHas, all_range_false (by simpa using h1) hlt]; simp), rfl⟩
    ·
      refine c_skip ?_
      refine hK5 _ _ _ ?_
      clear hK5 K5
      refine c_region ?_
      first | refine r_y rfl rfl (y_inc rfl (by omega)) ?_ | refine r_y rfl rfl (y_iop rfl rfl rfl) ?_
      refine r_y rfl rfl (y_move rfl) ?_
      refine r_nil ?_
      exact ⟨k0 - 1, (i + 1), by omega, ⟨rfl, rfl, rfl, rfl, trivial⟩, rfl, ⟨by omega, by rw [all_range_succ, hinv]; simpa using h1⟩, hm⟩
  ·
    refine c_exit ?_
    refine hK1 _ _ _ ?_
    clear hK4 K4 hK1 K1
    refine c_seq (fun K9 hK9 => ?_)
    refine c_region ?_
    refine r_y rfl rfl (y_load_a (cs := encCube c) rfl ts29 (RdA.blk (i := 1) rfl rfl)) ?_
    refine r_s rfl ?_
    refine s_call0 rfl Try.call90 rfl (cubeSound_ok c _ _) ?_
    rintro _ m2 _ hm2 ⟨rfl, rfl⟩
    replace hm := hm.trans hm2
    clear hm2
    refine r_y rfl rfl (y_move rfl) ?_
    refine r_split (j := 2) rfl (fun h2 => ?_) (fun h2 => ?_)
    ·
      refine r_yg rfl h2 rfl (y_load_a (cs := encHead h) rfl ts27 (RdA.blk (i := 0) rfl rfl)) ?_
      refine r_sg rfl h2 ?_
      refine s_call0 rfl Try.call127 rfl (headSound_ok h _ _) ?_
      rintro _ m2 _ hm2 ⟨rfl, rfl⟩
      replace hm := hm.trans hm2
      clear hm2
      refine r_y rfl rfl (y_pickt rfl h2 rfl) ?_
      refine r_y rfl rfl (y_assign rfl) ?_
      refine r_nil ?_
      refine hK9 _ _ _ ?_
      clear hK9 K9
      refine c_ret ?_
      refine e_ret 2 hm (res_tmps rfl) ?_
      obtain rfl : i = 12 := by simp at h0; omega
      exact ⟨congrArg Value.bool (by rw [cubeHas, hinv]; simp_all), rfl⟩
    ·
      refine r_no' rfl rfl h2 ?_
      refine r_no' rfl rfl h2 ?_
      refine r_y rfl rfl (y_pickf rfl h2 rfl) ?_
      refine r_y rfl rfl (y_assign rfl) ?_
      refine r_nil ?_
      refine hK9 _ _ _ ?_
      clear hK9 K9
      refine c_ret ?_
      refine e_ret 2 hm (res_tmps rfl) ?_
      obtain rfl : i = 12 := by simp at h0; omega
      exact ⟨congrArg Value.bool (by rw [cubeHas, hinv]; simp_all), rfl⟩
end Go.Aw
