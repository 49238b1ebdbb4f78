/- Part 7 of the words and walks that the proof behind it uses. -/
import Derived.Test.YtnmhkhobjaklhaaModsApartP6
set_option linter.unusedVariables false
set_option linter.unusedSimpArgs false
set_option maxHeartbeats 1000000
namespace Go.Aw
open Go
theorem FzR.cut {m : Snap} {s : Sl} {lr : List (RuleD × Sl)} (h : FzR m s lr) {lo hi : Nat} (h1 : lo ≤ hi) (h2 : hi ≤ s.n) : FzR m (s.cut lo hi 32) ((lr.drop lo).take (hi - lo)) :=
  ⟨by
    have := h.fz.slice h1 h2
    have e : ((lr.drop lo).take (hi - lo)).map (fun p => encRule p.1 p.2) = ((lr.map fun p => encRule p.1 p.2).drop lo).take (hi - lo) := by rw [List.map_take, List.map_drop]
    rw [e]; exact this, fun p hp => h.acts p (List.mem_of_mem_drop (List.mem_of_mem_take hp))⟩
theorem FzR.from {m : Snap} {s : Sl} {lr : List (RuleD × Sl)} (h : FzR m s lr) {lo : Nat} (h1 : lo ≤ s.n) : FzR m (s.cut lo s.n 32) (lr.drop lo) := by
  have := h.cut h1 (Nat.le_refl _)
  rwa [List.take_of_length_le (by rw [List.length_drop, ← h.len]; exact Nat.le_refl _)] at this
theorem FzR.src {m : Snap} {H : Hp} {s : Sl} {lr : List (RuleD × Sl)} (h : FzR m s lr) (hn : s.a = none → s.cap = 0) : Src m H s.v s.n 32 (lr.map fun p => encRule p.1 p.2) :=
  Src.fz h.fz (fun c hc u hu => by obtain ⟨x, _, rfl⟩ := List.mem_map.1 hc; exact one_rule _ _ u hu) hn
/-- A slice's first rows, its room left as it is. -/
theorem FzR.first {m : Snap} {a : Option Addr} {n c : Nat} {lr : List (RuleD × Sl)} (h : FzR m ⟨a, n, c⟩ lr) {p : Nat} (hp : p ≤ n) : FzR m ⟨a, p, c⟩ (lr.take p) := by
  have h2 := h.fz.slice (lo := 0) (hi := p) (Nat.zero_le _) hp
  refine ⟨?_, fun q hq => h.acts q (List.mem_of_mem_take hq)⟩
  rw [List.map_take]
  have e : sadd a 0 32 c = a := sadd_zero ..
  rw [e, List.drop_zero] at h2
  exact h2
theorem AllA.of {m : Snap} {s : Sl} {lr : List (RuleD × Sl)} (h : FzR m s lr) : AllA m lr := h.acts
theorem AllA.sub {m : Snap} {l l' : List (RuleD × Sl)} (h : AllA m l) (hs : ∀ x ∈ l', x ∈ l) : AllA m l' := fun p hp => h p (hs p hp)
section
variable {P : Program} {n : Nat} {L : Slots} {m : Snap} {H : Hp} {Q : Post} {ops : Array Oper} {fuel : Nat} {listed : Array Bool}
end
end Go.Aw
namespace Go.Aw
open Go
def rowsN (l : List Nat) : List (List Value) := l.map fun (k : Nat) => [Value.int .i64 (k : Int)]
abbrev FzN (m : Snap) (s : Sl) (l : List Nat) : Prop := Fz m s.a s.n s.cap 1 (rowsN l)
theorem Fz.lenN {m : Snap} {s : Sl} {l : List Nat} (h : FzN m s l) : s.n = l.length := by have := h.len; simpa [rowsN] using this.symm
theorem FzN.from {m : Snap} {s : Sl} {l : List Nat} (h : FzN m s l) {lo : Nat} (h1 : lo ≤ s.n) : FzN m (s.cut lo s.n 1) (l.drop lo) := by
  have h2 := Fz.slice h h1 (Nat.le_refl _)
  have hl := Fz.lenN h
  have e : rowsN (l.drop lo) = ((rowsN l).drop lo).take (s.n - lo) := by
    unfold rowsN
    rw [List.map_drop, List.take_of_length_le (by simp; omega)]
  show Fz m _ _ _ 1 (rowsN _)
  rw [e]; exact h2
end Go.Aw
namespace Go.Aw
open Go
theorem modSound_acts2 {x : ModD} (h : modSound x = true) : actsSound x.acts = true := by
  unfold modSound at h
  split at h
  · cases h
  · rename_i h0
    simp only [Bool.or_eq_true, Bool.not_eq_true', not_or, Bool.not_eq_false] at h0
    simp_all
theorem modR1_key {x : ModD} {r r' : RuleD} (h : modR1 x r = some r') : r'.m = r.m ∧ r'.prio = r.prio ∧ r'.owner = r.owner := by
  unfold modR1 at h
  split at h
  · split at h
    · cases h
    · cases h; exact ⟨rfl, rfl, rfl⟩
  · cases h; exact ⟨rfl, rfl, rfl⟩
theorem modR1_sound {x : ModD} {r r' : RuleD} (hx : modSound x = true) (hr : ruleSound r = true) (h : modR1 x r = some r') : ruleSound r' = true := by
  unfold modR1 at h
  split at h
  · split at h
    · cases h
    · cases h
      unfold ruleSound at hr ⊢
      simp only [Bool.and_eq_true] at hr ⊢
      simp_all [modSound_acts2 hx]
  · cases h; exact hr
theorem ruleCmp_congr {a a' b b' : RuleD} (h1 : a'.m = a.m) (h2 : a'.prio = a.prio) (h3 : b'.m = b.m) (h4 : b'.prio = b.prio) : ruleCmp a' b' = ruleCmp a b := by
  unfold ruleCmp; rw [h1, h2, h3, h4]
theorem srt_map {x : ModD} {l : List RuleD} (h : Srt l) : Srt (l.filterMap (modR1 x)) := by
  refine List.Pairwise.filterMap _ ?_ h
  intro a a' hc b hb b' hb'
  have h1 := modR1_key hb
  have h2 := modR1_key hb'
  rw [ruleCmp_congr h1.1 h1.2.1 h2.1 h2.2.1]; exact hc
theorem applyR_table {l : List RuleD} {x : ModD} {room : Int} (h : (applyR l x room).2 = 0) : ruleTable (applyR l x room).1 = true := by
  unfold applyR at h ⊢
  split at h
  · cases h
  · rename_i h0
    rw [if_neg h0]
    simp only [Bool.not_eq_true', Bool.not_eq_false] at h0
    have h0 := (Bool.and_eq_true _ _).mp (by simpa using h0)
    split at h
    · rename_i k
      rw [if_pos k]
      unfold addR at h ⊢
      repeat' split
      all_goals first | exact sortR_table _ | (exfalso; simp_all; done) | rfl
    · rename_i k
      rw [if_neg k]
      have ht := table_iff.1 h0.1
      refine table_iff.2 ⟨fun r hr => ?_, srt_map ht.2⟩
      obtain ⟨q, hq, hqr⟩ := List.mem_filterMap.1 hr
      exact modR1_sound h0.2 (ht.1 q hq) hqr
def ansM1 : ModD := ⟨1, zCube, 7, [], 0, 0, 1, false⟩
def ansM2 : ModD := ⟨3, zCube, 0, [], 0, 0, 1, false⟩
set_option maxRecDepth 100000 in
theorem ans7_1 : applyR [] ansM1 1 = ([modRule ansM1], 0) := by decide +kernel
set_option maxRecDepth 100000 in
theorem ans7_w : cubeWithin zCube zCube = true := by rw [within_text]; decide +kernel
set_option maxRecDepth 100000 in
theorem ans7_4 : (ruleTable [modRule ansM1] && modSound ansM2) = true := by decide +kernel
theorem ans7_2 : applyR [modRule ansM1] ansM2 0 = ([], 0) := by
  rw [applyR_map ans7_4 (by decide)]
  have h : modTouches ansM2 (modRule ansM1) = true := by
    unfold modTouches
    rw [if_pos (.inr rfl)]
    show ((1 : Int) == 1 && cubeWithin zCube zCube) = true
    rw [ans7_w]; rfl
  rw [List.filterMap_cons, modR1_del h (.inl rfl)]; rfl
set_option maxRecDepth 100000 in
theorem ans7_3 : modSound ansM1 = true := by decide +kernel
/-- A table of the call's own is given up, the slice's room being its length or all that stands behind it. -/
theorem St.freezeC {m : Snap} {w : World} {H : Hp} {a : Option Addr} {n cap c : Nat} {l : List OwnR} (hok : ∀ o ∈ l, o.ok) (hc : c = n ∨ c = cap) (h : St m (rowO a n cap l :: (itsO l ++ H)) w) :
    ∃ m', m.le m' ∧ St m' H w ∧ FzR m' ⟨a, n, c⟩ (l.map fun o => (o.r, o.s)) ∧ (a = none → c = 0) := by
  obtain ⟨m1, g1, g2, g3, g4⟩ := St.freezeVec (i := 0) h rfl (by decide)
  obtain ⟨m2, k1, k2, k3⟩ := St.freezeIts l hok (show St m1 (itsO l ++ H) w from g2)
  have e : ((l.map fun o => (o.r, o.s)).map fun p => encRule p.1 p.2) = l.map OwnR.enc := by simp [OwnR.enc]
  refine ⟨m2, g1.trans k1, k2, ⟨?_, fun p hp => ?_⟩, fun hn => ?_⟩
  · show Fz m2 a n c 32 _
    rw [e]
    rcases hc with rfl | rfl
    · exact (g3.mono k1).clip
    · exact g3.mono k1
  · obtain ⟨o, ho, rfl⟩ := List.mem_map.1 hp
    exact k3 o ho
  · have := g4 hn
    have hle := g3.le
    rcases hc with rfl | rfl <;> omega
end Go.Aw
namespace Go.Aw
open Go Go.Proofs
theorem bp32_0_2_6 : bplaces Try.prog 32 [0, 2, 6] = some [(0, 1), (25, 1), (29, 1)] := by kernel_rfl
theorem bp32_0_6 : bplaces Try.prog 32 [0, 6] = some [(0, 1), (29, 1)] := by kernel_rfl
theorem applyF_w (s1 : Sl) (l1 : List (RuleD × Sl)) (x : ModD) (sm : Sl) (room : Int) (m : Snap) (H : Hp) (hz : FzR m s1 l1) (hfa : ∀ p ∈ l1, p.1.acts.length ≤ 4398046511103) (hfit : l1.length < 1000000) (hzx : FzA m sm x.acts) (hokx : sm.ok) (hfx : x.acts.length ≤ 4398046511103) : Fn Try.prog 33 [s1.v, .agg (encMod x sm).toArray, .int .i64 room] m H (fun v m' H' => ∃ (s : Sl) (lr : List (RuleD × Sl)), v = .tuple [s.v, i64 (applyR (l1.map (·.1)) x room).2].toArray ∧ FzR m' s lr ∧ lr.map (·.1) = (applyR (l1.map (·.1)) x room).1 ∧ (s.a = none → s.cap = 0) ∧ H' = H) :=
  (apply_w s1 l1 x sm room m H hz hfa hfit hzx hokx hfx).post fun v m' H' w hm hs ⟨a, n, c, cap, lo, h1, h2, h3, h4, h5, h6⟩ => by
    subst h6
    obtain ⟨m2, g1, g2, g3, g4⟩ := hs.freezeC h5 h3
    exact ⟨m2, H, g1, g2, ⟨a, n, c⟩, _, h1, g3, by rw [map_fst, h4], g4, rfl⟩
set_option maxRecDepth 100000 in
theorem answers7_w (m : Snap) (H : Hp) : Fn Try.prog 32 [] m H (fun v _ H' => v = .bool true ∧ H' = H) := by
  have hm : m.le m := Snap.le.refl m
  refine fn_end Try.func32 rfl rfl rfl ?_
  refine c_seq (fun K0 hK0 => ?_)
  refine c_region ?_
  refine r_y rfl rfl (y_assign rfl) ?_
  refine r_nil ?_
  refine hK0 _ _ _ ?_
  clear hK0 K0
  refine c_seq (fun K1 hK1 => ?_)
  refine c_region ?_
  refine r_y rfl rfl (y_bld rfl tz32 fk32 bp32_0_2_6 rfl rfl) ?_
  refine r_s rfl ?_
  refine s_alloc rfl tz32 (fun b0 => ?_)
  refine r_s rfl ?_
  refine s_store (us := encMod ansM1 zSl) rfl rfl rfl ts32 rfl rfl (one_mod _ _) (i := 0) rfl rfl ?_
  refine r_nil ?_
  refine hK1 _ _ _ ?_
  clear hK1 K1
  refine c_seq (fun K2 hK2 => ?_)
  refine c_region ?_
  refine r_y rfl rfl (y_load_a (cs := encMod ansM1 zSl) rfl ts32 (RdA.blk (i := 0) rfl rfl)) ?_
  refine r_s rfl ?_
  refine s_call0 rfl Try.call33 rfl (applyF_w zSl [] ansM1 zSl 1 _ _ (fzR_nil _) (fun p hp => by cases hp) (by decide) (fzA_nil _) (fun _ => rfl) (by decide)) ?_
  rintro _ m2 _ hm2 ⟨sa, la, rfl, hza, hla, hna, rfl⟩
  replace hm := hm.trans hm2
  clear hm2
  refine r_y rfl rfl (y_move rfl) ?_
  refine r_y rfl rfl (y_extract rfl rfl) ?_
  refine r_y rfl rfl (y_extract rfl rfl) ?_
  refine r_y rfl rfl (y_assign rfl) ?_
  refine r_y rfl rfl (y_assign rfl) ?_
  refine r_nil ?_
  refine hK2 _ _ _ ?_
  clear hK2 K2
  refine c_seq (fun K3 hK3 => ?_)
  refine c_region ?_
  have e1 : la.map (·.1) = [modRule ansM1] := by rw [hla]; show (applyR [] ansM1 1).1 = _; rw [ans7_1]
  have hc1 : (applyR (([] : List (RuleD × Sl)).map (·.1)) ansM1 1).2 = 0 := by show (applyR [] ansM1 1).2 = 0; rw [ans7_1]
  have hla1 : la.length = 1 := by have := congrArg List.length e1; simpa using this
  have hn1a : sa.n = 1 := by have := hza.len; omega
  obtain ⟨y, hy⟩ := get_of_lt (l := la) (k := 0) (by omega)
  have hy1 : y.1 = modRule ansM1 := by have h3 := map_get (f := fun (p : RuleD × Sl) => p.1) hy; rw [e1] at h3; simpa using h3.symm
  have hfb : ∀ p ∈ la, p.1.acts.length ≤ 4398046511103 := by intro p hp; have h9 : p.1 ∈ la.map (·.1) := List.mem_map.2 ⟨p, hp, rfl⟩; rw [e1] at h9; rw [List.mem_singleton.1 h9]; decide
  have hlt : 0 < sa.n := by omega
  refine r_y rfl rfl (y_move rfl) ?_
  refine r_y rfl rfl (y_bld rfl tz32 fk32 bp32_0_6 rfl rfl) ?_
  refine r_s rfl ?_
  refine s_call0 rfl Try.call33 rfl (applyF_w sa la ansM2 zSl 0 _ _ hza hfb (by omega) (fzA_nil _) (fun _ => rfl) (by decide)) ?_
  rintro _ m2 _ hm2 ⟨sb, lb, rfl, hzb, hlb, hnb, rfl⟩
  replace hm := hm.trans hm2
  replace hza := hza.mono hm2
  clear hm2
  refine r_y rfl rfl (y_move rfl) ?_
  refine r_y rfl rfl (y_extract rfl rfl) ?_
  refine r_y rfl rfl (y_extract rfl rfl) ?_
  refine r_y rfl rfl (y_assign rfl) ?_
  refine r_y rfl rfl (y_assign rfl) ?_
  refine r_nil ?_
  refine hK3 _ _ _ ?_
  clear hK3 K3
  refine c_seq (fun K4 hK4 => ?_)
  refine c_region ?_
  have e2 : lb.map (·.1) = [] := by rw [hlb, e1, ans7_2]
  have hc2 : (applyR (la.map (·.1)) ansM2 0).2 = 0 := by rw [e1, ans7_2]
  have hn1b : sb.n = 0 := by have h3 := hzb.len; have h4 := congrArg List.length e2; simp at h4; rw [h3, h4]; rfl
  refine r_y rfl rfl (y_move rfl) ?_
  refine r_y rfl rfl (y_iop rfl rfl rfl) ?_
  refine r_y rfl rfl (y_move rfl) ?_
  refine r_yg rfl (by rw [hc1]; rfl) rfl (y_move rfl) ?_
  refine r_yg rfl (by rw [hc1]; rfl) rfl (y_iop rfl rfl rfl) ?_
  refine r_y rfl rfl (y_pickt rfl (by rw [hc1]; rfl) rfl) ?_
  refine r_y rfl rfl (y_move rfl) ?_
  refine r_yg rfl (by rw [hc2]; rfl) rfl (y_move rfl) ?_
  refine r_yg rfl (by rw [hc2]; rfl) rfl (y_len tl33 rfl) ?_
  refine r_yg rfl (by rw [hc2]; rfl) rfl (y_iop rfl rfl rfl) ?_
  refine r_y rfl rfl (y_pickt rfl (by rw [hc2]; rfl) rfl) ?_
  refine r_y rfl rfl (y_move rfl) ?_
  refine r_yg rfl (by rw [hn1a]; rfl) rfl (y_move rfl) ?_
  refine r_yg rfl (by rw [hn1a]; rfl) rfl (y_indexAddr_slice (k := 0) rfl rfl tl33 hlt (At.fz hza.fz hlt)) ?_
  refine r_yg rfl (by rw [hn1a]; rfl) rfl (y_fieldAddr rfl ((At.fz hza.fz hlt).eadd) fo50_1 (eadd_eadd _ _ _)) ?_
  refine r_yg rfl (by rw [hn1a]; rfl) rfl (y_load_s (v := i64 7) rfl ts3 (RdS.fz (k := 0) hza.fz (map_get hy) (by rw [hy1]; rfl)) ) ?_
  refine r_yg rfl (by rw [hn1a]; rfl) rfl (y_iop rfl rfl rfl) ?_
  refine r_y rfl rfl (y_pickt rfl (by rw [hn1a]; rfl) rfl) ?_
  refine r_y rfl rfl (y_move rfl) ?_
  refine r_yg rfl rfl rfl (y_move rfl) ?_
  refine r_yg rfl rfl rfl (y_len tl33 rfl) ?_
  refine r_yg rfl rfl rfl (y_iop rfl rfl rfl) ?_
  refine r_y rfl rfl (y_pickt rfl rfl rfl) ?_
  refine r_y rfl rfl (y_move rfl) ?_
  refine r_yg rfl (by rw [hn1b]; rfl) rfl (y_load_a (cs := encMod ansM1 zSl) rfl ts32 (RdA.blk (i := 0) rfl rfl)) ?_
  refine r_sg rfl (by rw [hn1b]; rfl) ?_
  refine s_call0 rfl Try.call36 rfl (modSound_ok ansM1 zSl _ _ (fzA_nil _)) ?_
  rintro _ m2 _ hm2 ⟨rfl, rfl⟩
  replace hm := hm.trans hm2
  replace hza := hza.mono hm2
  replace hzb := hzb.mono hm2
  clear hm2
  refine r_y rfl rfl (y_pickt rfl (by rw [hn1b]; rfl) rfl) ?_
  refine r_y rfl rfl (y_assign rfl) ?_
  refine r_nil ?_
  refine hK4 _ _ _ ?_
  clear hK4 K4
  refine c_ret ?_
  refine e_ret 1 hm (res_tmps rfl) ?_
  refine ⟨congrArg Value.bool ?_, rfl⟩
  exact ans7_3
end Go.Aw
namespace Go.Aw
open Go
theorem applyR_len (l : List RuleD) (x : ModD) (room : Int) : (applyR l x room).1.length ≤ l.length + 1 := by
  unfold applyR
  split
  · simp
  · split
    · unfold addR
      repeat' split
      all_goals first | (simp; done) | (have := sortR_len (l ++ [modRule x]); simp at this; exact this)
    · exact Nat.le_trans (List.length_filterMap_le ..) (Nat.le_succ _)
end Go.Aw
namespace Go.Aw
open Go
theorem within_meet {r a b : Cube} (h : cubeWithin r a = true) (h2 : cubeMeetOk r b = true) : cubeMeetOk a b = true := by
  rw [within_text] at h
  rw [meet_text] at h2 ⊢
  simp only [Bool.and_eq_true] at h h2 ⊢
  refine ⟨⟨h.2, h2.1.2⟩, ?_⟩
  rw [text_all] at h2 ⊢
  have h1 := (text_all (F := withinF) 12).1 h.1.2
  intro i hi k hk
  have e1 := h1 i hi k hk
  have e2 := h2.2 i hi k hk
  rw [withinF_t] at e1
  rw [meetF_t] at e2 ⊢
  generalize (r.value.at i).getLsbD k = p at *
  generalize (r.care.at i).getLsbD k = q at *
  generalize (a.value.at i).getLsbD k = p' at *
  generalize (a.care.at i).getLsbD k = q' at *
  generalize (b.value.at i).getLsbD k = p'' at *
  generalize (b.care.at i).getLsbD k = q'' at *
  clear h1 h2 h
  revert e1 e2
  cases p <;> cases q <;> cases p' <;> cases q' <;> cases p'' <;> cases q'' <;> decide
theorem within_refl_meet {r a : Cube} (h : cubeWithin r a = true) : cubeMeetOk r a = true := by
  unfold cubeWithin at h
  exact (Bool.and_eq_true _ _ ▸ h : _ ∧ _).1
theorem meet_comm (a b : Cube) : cubeMeetOk a b = cubeMeetOk b a := by
  rw [meet_text, meet_text, Bool.and_comm (cubeSound a)]
  congr 1
  rw [Bool.eq_iff_iff, text_all, text_all]
  constructor <;>
  · intro h i hi k hk
    have e := h i hi k hk
    rw [meetF_t] at e ⊢
    revert e
    generalize BitVec.getLsbD _ k = p
    generalize BitVec.getLsbD _ k = q
    generalize BitVec.getLsbD _ k = p'
    generalize BitVec.getLsbD _ k = q'
    cases p <;> cases q <;> cases p' <;> cases q' <;> decide
theorem meet_self {a : Cube} (h : cubeSound a = true) : cubeMeetOk a a = true := by
  rw [meet_text, h]
  simp only [Bool.and_self, Bool.true_and]
  rw [text_all]
  intro i hi k hk
  rw [meetF_t]; simp
/-- What a change looks for: rules that it touches, or that have its key. -/
def hits (x : ModD) (r : RuleD) : Bool := cubeMeetOk r.m x.m
theorem touches_hits {x : ModD} {r : RuleD} (hr : cubeSound r.m = true) (h : modTouches x r = true) : cubeMeetOk r.m x.m = true := by
  unfold modTouches at h
  split at h
  · exact within_refl_meet (Bool.and_eq_true _ _ ▸ h : _ ∧ _).2
  · split at h
    · have h2 := (Bool.and_eq_true _ _ ▸ h : _ ∧ _).2
      unfold ruleKey modRule at h2
      simp at h2
      rw [← h2.1]; exact meet_self hr
    · cases h
/-- A rule that a change touches is met by no rule that is disjoint from the change. -/
theorem touches_meet {x : ModD} {r : RuleD} {c : Cube} (h : modTouches x r = true) (h2 : cubeMeetOk r.m c = true) : cubeMeetOk x.m c = true := by
  unfold modTouches at h
  split at h
  · exact within_meet (Bool.and_eq_true _ _ ▸ h : _ ∧ _).2 h2
  · split at h
    · have h3 := (Bool.and_eq_true _ _ ▸ h : _ ∧ _).2
      unfold ruleKey modRule at h3
      simp at h3
      rw [← h3.1]; exact h2
    · cases h
end Go.Aw
namespace Go.Aw
open Go
theorem srt_ext : ∀ {l l' : List RuleD}, Srt l → Srt l' → (∀ x, x ∈ l ↔ x ∈ l') → l = l'
  | [], [], _, _, _ => rfl
  | [], y :: l', _, _, h => by have := (h y).2 List.mem_cons_self; cases this
  | x :: l, [], _, _, h => by have := (h x).1 List.mem_cons_self; cases this
  | x :: l, y :: l', h1, h2, h => by
    have p1 := List.pairwise_cons.1 h1
    have p2 := List.pairwise_cons.1 h2
    have irr : ∀ {a b : RuleD}, ruleCmp a b < 0 → ruleCmp b a < 0 → False := fun {a b} ha hb => by rw [ruleCmp_anti a b] at hb; omega
    have hxy : x = y := by
      rcases List.mem_cons.1 ((h x).1 List.mem_cons_self) with e | e
      · exact e
      · rcases List.mem_cons.1 ((h y).2 List.mem_cons_self) with e' | e'
        · exact e'.symm
        · exact (irr (p1.1 y e') (p2.1 x e)).elim
    subst hxy
    have irx : ∀ {a : RuleD}, ¬ ruleCmp a a < 0 := fun {a} ha => irr ha ha
    rw [srt_ext p1.2 p2.2 fun z => ?_]
    constructor
    · intro hz
      rcases List.mem_cons.1 ((h z).1 (List.mem_cons_of_mem _ hz)) with e | e
      · subst e; exact (irx (p1.1 z hz)).elim
      · exact e
    · intro hz
      rcases List.mem_cons.1 ((h z).2 (List.mem_cons_of_mem _ hz)) with e | e
      · subst e; exact (irx (p2.1 z hz)).elim
      · exact e
theorem mem_insR {r y : RuleD} : ∀ {l : List RuleD}, Srt l → (y ∈ insR l r ↔ y = r ∨ (y ∈ l ∧ ruleCmp y r ≠ 0))
  | [], _ => by simp [insR]
  | x :: l, h => by
    have p := List.pairwise_cons.1 h
    have ih := mem_insR (r := r) (y := y) p.2
    unfold insR
    split
    · rename_i hx
      rw [List.mem_cons, ih, List.mem_cons]
      constructor
      · rintro (e | e | ⟨e, e2⟩)
        · subst e; exact .inr ⟨.inl rfl, by omega⟩
        · exact .inl e
        · exact .inr ⟨.inr e, e2⟩
      · rintro (e | ⟨e | e, e2⟩)
        · exact .inr (.inl e)
        · exact .inl e
        · exact .inr (.inr ⟨e, e2⟩)
    · split
      · rename_i hx
        have hk := ruleCmp_zero.1 hx
        rw [List.mem_cons, List.mem_cons]
        constructor
        · rintro (e | e)
          · exact .inl e
          · refine .inr ⟨.inr e, ?_⟩
            have := p.1 y e
            rw [ruleKey_cmp_l hk, ruleCmp_anti y r] at this
            omega
        · rintro (e | ⟨e | e, e2⟩)
          · exact .inl e
          · subst e; exact (e2 hx).elim
          · exact .inr e
      · rename_i hx hx0
        rw [List.mem_cons, List.mem_cons]
        constructor
        · rintro (e | e | e)
          · exact .inl e
          · subst e; exact .inr ⟨.inl rfl, hx0⟩
          · refine .inr ⟨.inr e, ?_⟩
            have h1 := p.1 y e
            have h2 : ruleCmp r x < 0 := by rw [ruleCmp_anti x r]; omega
            have h3 := ruleCmp_trans h2 h1
            rw [ruleCmp_anti y r] at h3
            omega
        · rintro (e | ⟨e | e, e2⟩)
          · exact .inl e
          · exact .inr (.inl e)
          · exact .inr (.inr e)
theorem sortR_id {l : List RuleD} (h : ruleTable l = true) : sortR l = l := by
  have ht := table_iff.1 h
  refine srt_ext (sortR_srt l) ht.2 fun x => ?_
  have key : ∀ (l acc : List RuleD), Srt acc → Srt l → (∀ a ∈ acc, ∀ b ∈ l, ruleCmp a b ≠ 0) → (x ∈ l.foldl insR acc ↔ x ∈ acc ∨ x ∈ l) := by
    intro l
    induction l with
    | nil => intro acc _ _ _; simp
    | cons y l ih =>
      intro acc ha hl hd
      have p := List.pairwise_cons.1 hl
      rw [List.foldl_cons, ih (insR acc y) (insR_srt ha) p.2 (fun a haa b hb => ?_), mem_insR ha, List.mem_cons]
      · constructor
        · rintro ((e | ⟨e, _⟩) | e)
          · exact .inr (.inl e)
          · exact .inl e
          · exact .inr (.inr e)
        · rintro (e | e | e)
          · exact .inl (.inr ⟨e, hd x e y List.mem_cons_self⟩)
          · exact .inl (.inl e)
          · exact .inr e
      · rcases (mem_insR ha).1 haa with e | ⟨e, _⟩
        · subst e; have := p.1 b hb; omega
        · exact hd a e b (List.mem_cons_of_mem _ hb)
  have hf : l.filter ruleSound = l := List.filter_eq_self.2 ht.1
  unfold sortR
  rw [hf, key l [] List.Pairwise.nil ht.2 (fun a h => by cases h)]
  simp
def eff (x : ModD) (l : List RuleD) : List RuleD := if x.kind = 1 then insR l (modRule x) else l.filterMap (modR1 x)
/-- Nothing stands against an add. -/
def freeF (x : ModD) (y : RuleD) : Prop := (ruleKey y (modRule x) && (y.owner != x.owner)) = false ∧ (x.check && (!ruleKey y (modRule x) && ruleOverlap y (modRule x))) = false
theorem applyR_eff {l : List RuleD} {x : ModD} {room : Int} (h : (applyR l x room).2 = 0) : ruleTable l = true ∧ modSound x = true ∧ (applyR l x room).1 = eff x l ∧ (x.kind = 1 → ∀ y ∈ l, freeF x y) := by
  unfold applyR at h ⊢
  split at h
  · cases h
  · rename_i h0
    rw [if_neg h0]
    have h1 : (ruleTable l && modSound x) = true := by simpa using h0
    have h2 := (Bool.and_eq_true _ _).mp h1
    refine ⟨h2.1, h2.2, ?_⟩
    unfold eff
    split at h
    · rename_i k
      rw [if_pos k, if_pos k]
      unfold addR at h ⊢
      split at h
      · cases h
      · rename_i c1
        rw [if_neg c1]
        split at h
        · cases h
        · rename_i c2
          rw [if_neg c2]
          split at h
          · cases h
          · rename_i c3
            rw [if_neg c3]
            refine ⟨?_, fun _ y hy => ⟨?_, ?_⟩⟩
            · show sortR (l ++ [modRule x]) = _
              rw [sortR_snoc, if_pos (modRule_sound h2.2 k), sortR_id h2.1]
            · have c1' : l.any (fun y => ruleKey y (modRule x) && (y.owner != x.owner)) = false := by simpa using c1
              have := List.any_eq_false.1 c1' y hy
              simpa using this
            · have c2' : (x.check && l.any (fun y => !ruleKey y (modRule x) && ruleOverlap y (modRule x))) = false := by simpa using c2
              rcases Bool.and_eq_false_iff.1 c2' with e | e
              · rw [e]; rfl
              · have := List.any_eq_false.1 e y hy
                rw [Bool.not_eq_true] at this
                rw [this, Bool.and_false]
    · rename_i k
      rw [if_neg k, if_neg k]
      exact ⟨rfl, fun hk => absurd hk k⟩
theorem eff_applyR {l : List RuleD} {x : ModD} (ht : ruleTable l = true) (hs : modSound x = true) (hf : x.kind = 1 → ∀ y ∈ l, freeF x y) (hl : l.length < 1000) : applyR l x 1000 = (eff x l, 0) := by
  have h1 : (ruleTable l && modSound x) = true := by rw [ht, hs]; rfl
  unfold eff
  split
  · rename_i k
    have hf := hf k
    rw [applyR_add h1 k, addR_0 (List.any_eq_false.2 fun y hy => by rw [(hf y hy).1]; decide) ?_ ?_, sortR_snoc, if_pos (modRule_sound hs k), sortR_id ht]
    · cases hc : x.check with
      | false => rfl
      | true =>
        rw [Bool.true_and, List.any_eq_false]
        intro y hy
        have := (hf y hy).2
        rw [hc, Bool.true_and] at this
        rw [this]; decide
    · have : decide ((l.length : Int) ≥ 1000) = false := decide_eq_false (by omega)
      rw [this, Bool.and_false]
  · rename_i k
    exact applyR_map h1 k
theorem touches_congr {x : ModD} {r r' : RuleD} (h : r'.m = r.m ∧ r'.prio = r.prio ∧ r'.owner = r.owner) : modTouches x r' = modTouches x r := by
  unfold modTouches ruleKey
  rw [h.1, h.2.1, h.2.2]
section
variable {a b : ModD} {l : List RuleD}
theorem mod_cube {x : ModD} (h : modSound x = true) : cubeSound x.m = true := by
  unfold modSound at h
  split at h
  · cases h
  · rename_i h0
    simp only [Bool.or_eq_true, Bool.not_eq_true', not_or, Bool.not_eq_false] at h0
    simp_all
theorem rule_cube {r : RuleD} (h : ruleSound r = true) : cubeSound r.m = true := by
  unfold ruleSound at h
  simp only [Bool.and_eq_true] at h
  simp_all
theorem other_keep (ha : modSound a = true) (hd : cubeMeetOk a.m b.m = false) : modR1 b (modRule a) = some (modRule a) := by
  refine modR1_keep ?_
  cases h : modTouches b (modRule a) with
  | false => rfl
  | true =>
    have := touches_hits (r := modRule a) (mod_cube ha) h
    rw [show (modRule a).m = a.m from rfl, hd] at this
    cases this
theorem not_both {r : RuleD} (hr : ruleSound r = true) (hd : cubeMeetOk a.m b.m = false) (h : modTouches a r = true) : modTouches b r = false := by
  cases h2 : modTouches b r with
  | false => rfl
  | true =>
    have := touches_meet h (touches_hits (rule_cube hr) h2)
    rw [hd] at this; cases this
theorem mod_comm {r : RuleD} (hr : ruleSound r = true) (hd : cubeMeetOk a.m b.m = false) : (modR1 a r).bind (modR1 b) = (modR1 b r).bind (modR1 a) := by
  cases h : modTouches a r with
  | false =>
    rw [modR1_keep h]
    cases h2 : modR1 b r with
    | none => simp [h2]
    | some w =>
      have hw := modR1_keep (x := a) (r := w) (by rw [touches_congr (modR1_key h2)]; exact h)
      simp [h2, hw]
  | true =>
    have hb := not_both hr hd h
    rw [modR1_keep hb]
    cases h2 : modR1 a r with
    | none => simp [h2]
    | some w =>
      have hw := modR1_keep (x := b) (r := w) (by rw [touches_congr (modR1_key h2)]; exact hb)
      simp [h2, hw]
theorem key_apart (ha : modSound a = true) (hd : cubeMeetOk a.m b.m = false) : ruleKey (modRule a) (modRule b) = false := by
  cases h : ruleKey (modRule a) (modRule b) with
  | false => rfl
  | true =>
    unfold ruleKey modRule at h
    simp at h
    rw [← h.1, meet_self (mod_cube ha)] at hd
    cases hd
theorem eff_free (hs : modSound a = true) (hd : cubeMeetOk a.m b.m = false) (hl : Srt l) (hf : ∀ y ∈ l, freeF b y) : ∀ y ∈ eff a l, freeF b y := by
  intro y hy
  unfold eff at hy
  split at hy
  · rcases (mem_insR hl).1 hy with rfl | ⟨h, _⟩
    · have hk := key_apart hs hd
      refine ⟨by rw [hk]; rfl, ?_⟩
      have : ruleOverlap (modRule a) (modRule b) = false := by
        unfold ruleOverlap
        show (cubeMeetOk a.m b.m && _) = false
        rw [hd]; rfl
      rw [this, Bool.and_false, Bool.and_false]
    · exact hf y h
  · obtain ⟨z, hz, hzy⟩ := List.mem_filterMap.1 hy
    have hk := modR1_key hzy
    have := hf z hz
    unfold freeF ruleKey ruleOverlap at this ⊢
    rw [hk.1, hk.2.1, hk.2.2]
    exact this
theorem eff_srt (hl : Srt l) (x : ModD) : Srt (eff x l) := by
  unfold eff
  split
  · exact insR_srt hl
  · exact srt_map hl
theorem eff_len (x : ModD) : (eff x l).length ≤ l.length + 1 := by
  unfold eff
  split
  · have : ∀ (l : List RuleD) (r : RuleD), (insR l r).length ≤ l.length + 1 := by
      intro l r
      induction l with
      | nil => simp [insR]
      | cons x l ih =>
        unfold insR
        split
        · simp; exact ih
        · split <;> simp
    exact this _ _
  · exact Nat.le_trans (List.length_filterMap_le ..) (Nat.le_succ _)
theorem eff_comm1 (ha : modSound a = true) (hd : cubeMeetOk a.m b.m = false) (hl : Srt l) (k : a.kind = 1) (kb : b.kind ≠ 1) : ∀ y, y ∈ eff b (eff a l) ↔ y ∈ eff a (eff b l) := by
  intro y
  have e1 : eff b (eff a l) = (insR l (modRule a)).filterMap (modR1 b) := by unfold eff; rw [if_pos k, if_neg kb]
  have e2 : eff a (eff b l) = insR (l.filterMap (modR1 b)) (modRule a) := by unfold eff; rw [if_pos k, if_neg kb]
  rw [e1, e2, mem_insR (srt_map hl), List.mem_filterMap, List.mem_filterMap]
  have hk := other_keep ha hd
  have hc : ∀ z, modR1 b z = some y → ruleCmp y (modRule a) = ruleCmp z (modRule a) := fun z hz => ruleCmp_congr (modR1_key hz).1 (modR1_key hz).2.1 rfl rfl
  constructor
  · rintro ⟨z, hz, hzy⟩
    rcases (mem_insR hl).1 hz with rfl | ⟨h1, h2⟩
    · rw [hk] at hzy; cases hzy; exact .inl rfl
    · exact .inr ⟨⟨z, h1, hzy⟩, by rw [hc z hzy]; exact h2⟩
  · rintro (rfl | ⟨⟨z, hz, hzy⟩, h2⟩)
    · exact ⟨modRule a, (mem_insR hl).2 (.inl rfl), hk⟩
    · exact ⟨z, (mem_insR hl).2 (.inr ⟨hz, by rw [← hc z hzy]; exact h2⟩), hzy⟩
theorem eff_comm (ht : ruleTable l = true) (ha : modSound a = true) (hb : modSound b = true) (hd : cubeMeetOk a.m b.m = false) : eff b (eff a l) = eff a (eff b l) := by
  have hs := table_iff.1 ht
  have hd2 : cubeMeetOk b.m a.m = false := by rw [meet_comm]; exact hd
  refine srt_ext (eff_srt (eff_srt hs.2 a) b) (eff_srt (eff_srt hs.2 b) a) ?_
  by_cases k : a.kind = 1
  · by_cases kb : b.kind = 1
    · intro y
      have e1 : eff b (eff a l) = insR (insR l (modRule a)) (modRule b) := by unfold eff; rw [if_pos k, if_pos kb]
      have e2 : eff a (eff b l) = insR (insR l (modRule b)) (modRule a) := by unfold eff; rw [if_pos k, if_pos kb]
      have c1 : ruleCmp (modRule a) (modRule b) ≠ 0 := fun h => by have := ruleCmp_zero.1 h; rw [key_apart ha hd] at this; cases this
      have c2 : ruleCmp (modRule b) (modRule a) ≠ 0 := fun h => by have := ruleCmp_zero.1 h; rw [key_apart hb hd2] at this; cases this
      rw [e1, e2, mem_insR (insR_srt hs.2), mem_insR hs.2, mem_insR (insR_srt hs.2), mem_insR hs.2]
      constructor
      · rintro (rfl | ⟨rfl | ⟨h1, h2⟩, h3⟩)
        · exact .inr ⟨.inl rfl, c2⟩
        · exact .inl rfl
        · exact .inr ⟨.inr ⟨h1, h3⟩, h2⟩
      · rintro (rfl | ⟨rfl | ⟨h1, h2⟩, h3⟩)
        · exact .inr ⟨.inl rfl, c1⟩
        · exact .inl rfl
        · exact .inr ⟨.inr ⟨h1, h3⟩, h2⟩
    · exact eff_comm1 ha hd hs.2 k kb
  · by_cases kb : b.kind = 1
    · exact fun y => (eff_comm1 hb hd2 hs.2 kb k y).symm
    · intro y
      have e1 : eff b (eff a l) = (l.filterMap (modR1 a)).filterMap (modR1 b) := by unfold eff; rw [if_neg k, if_neg kb]
      have e2 : eff a (eff b l) = (l.filterMap (modR1 b)).filterMap (modR1 a) := by unfold eff; rw [if_neg k, if_neg kb]
      rw [e1, e2, List.filterMap_filterMap, List.filterMap_filterMap, List.mem_filterMap, List.mem_filterMap]
      constructor
      · rintro ⟨z, hz, h⟩
        exact ⟨z, hz, by rw [← mod_comm (hs.1 z hz) hd]; exact h⟩
      · rintro ⟨z, hz, h⟩
        exact ⟨z, hz, by rw [mod_comm (hs.1 z hz) hd]; exact h⟩
end
theorem apart {l : List RuleD} {a b : ModD} (hl : l.length ≤ 40) (hd : cubeMeetOk a.m b.m = false) (ha : (applyR l a 1000).2 = 0) (hb : (applyR l b 1000).2 = 0) :
    (applyR (applyR l a 1000).1 b 1000).2 = 0 ∧ (applyR (applyR l b 1000).1 a 1000).2 = 0 ∧ (applyR (applyR l a 1000).1 b 1000).1 = (applyR (applyR l b 1000).1 a 1000).1 := by
  have hd2 : cubeMeetOk b.m a.m = false := by rw [meet_comm]; exact hd
  obtain ⟨ht, sa, ea, fa⟩ := applyR_eff ha
  obtain ⟨_, sb, eb, fb⟩ := applyR_eff hb
  have ta := applyR_table ha
  have tb := applyR_table hb
  have hs := table_iff.1 ht
  have la := eff_len (l := l) a
  have lb := eff_len (l := l) b
  rw [ea] at ta ⊢
  rw [eb] at tb ⊢
  rw [eff_applyR ta sb (fun k => eff_free sa hd hs.2 (fb k)) (by omega), eff_applyR tb sa (fun k => eff_free sb hd2 hs.2 (fa k)) (by omega)]
  exact ⟨rfl, rfl, eff_comm ht sa sb hd⟩
end Go.Aw
namespace Go.Aw
open Go
theorem sortR_mem {l : List RuleD} {r : RuleD} (h : r ∈ sortR l) : r ∈ l := by
  have key : ∀ (l acc : List RuleD), r ∈ l.foldl insR acc → r ∈ acc ∨ r ∈ l := by
    intro l
    induction l with
    | nil => intro acc h; exact .inl h
    | cons x l ih =>
      intro acc h
      rcases ih _ h with h | h
      · rcases insR_mem h with h | h
        · exact .inr (by simp [h])
        · exact .inl h
      · exact .inr (List.mem_cons_of_mem _ h)
  rcases key _ [] h with h | h
  · cases h
  · exact (List.mem_filter.1 h).1
theorem applyR_acts {l : List RuleD} {x : ModD} {room : Int} {K : Nat} (hl : ∀ q ∈ l, q.acts.length ≤ K) (hx : x.acts.length ≤ K) : ∀ r ∈ (applyR l x room).1, r.acts.length ≤ K := by
  intro r hr
  unfold applyR at hr
  split at hr
  · cases hr
  · split at hr
    · unfold addR at hr
      split at hr
      · cases hr
      · split at hr
        · cases hr
        · split at hr
          · cases hr
          · have := sortR_mem hr
            rcases List.mem_append.1 this with h | h
            · exact hl r h
            · rw [List.mem_singleton.1 h]; exact hx
    · obtain ⟨q, hq, hqr⟩ := List.mem_filterMap.1 hr
      unfold modR1 at hqr
      split at hqr
      · split at hqr
        · cases hqr
        · cases hqr; exact hx
      · cases hqr; exact hl _ hq
theorem acts_of {l : List (RuleD × Sl)} {l' : List RuleD} {K : Nat} (h : l.map (·.1) = l') (hl : ∀ q ∈ l', q.acts.length ≤ K) : ∀ p ∈ l, p.1.acts.length ≤ K := fun p hp => hl _ (h ▸ List.mem_map.2 ⟨p, hp, rfl⟩)
theorem acts_to {l : List (RuleD × Sl)} {K : Nat} (h : ∀ p ∈ l, p.1.acts.length ≤ K) : ∀ q ∈ l.map (·.1), q.acts.length ≤ K := fun q hq => by
  obtain ⟨p, hp, rfl⟩ := List.mem_map.1 hq
  exact h p hp
end Go.Aw
namespace Go.Aw
open Go Go.Proofs
set_option maxRecDepth 100000 in
theorem modsApart_w (s1 : Sl) (l1 : List (RuleD × Sl)) (x : ModD) (sx : Sl) (y : ModD) (sy : Sl) (m : Snap) (H : Hp) (hz : FzR m s1 l1) (hfa : ∀ p ∈ l1, p.1.acts.length ≤ 4398046511103) (hzx : FzA m sx x.acts) (hokx : sx.ok) (hfx : x.acts.length ≤ 4398046511103) (hzy : FzA m sy y.acts) (hoky : sy.ok) (hfy : y.acts.length ≤ 4398046511103) : Fn Try.prog 10 [s1.v, .agg (encMod x sx).toArray, .agg (encMod y sy).toArray] m H (fun v _ H' => v = .bool true ∧ H' = H) := by
  have hl := hz.len
  have hm : m.le m := Snap.le.refl m
  refine fn_end Try.func10 rfl rfl rfl ?_
  refine c_seq (fun K0 hK0 => ?_)
  refine c_region ?_
  refine r_s rfl ?_
  refine s_box_a rfl rfl (fun b0 => ?_)
  refine r_s rfl ?_
  refine s_box_a rfl rfl (fun b1 => ?_)
  refine r_y rfl rfl (y_assign rfl) ?_
  refine r_nil ?_
  refine hK0 _ _ _ ?_
  clear hK0 K0
  refine c_seq (fun K1 hK1 => ?_)
  refine c_region ?_
  refine r_y rfl rfl (y_fieldAddr rfl At.lit fo32_1 rfl) ?_
  refine r_y rfl rfl (y_load_a (cs := encCube x.m) rfl ts29 (RdA.blk (i := 1) rfl rfl)) ?_
  refine r_y rfl rfl (y_fieldAddr rfl At.lit fo32_1 rfl) ?_
  refine r_y rfl rfl (y_load_a (cs := encCube y.m) rfl ts29 (RdA.blk (i := 0) rfl rfl)) ?_
  refine r_s rfl ?_
  refine s_call0 rfl Try.call39 rfl (rMeet_w x.m y.m _ _) ?_
  rintro _ m2 _ hm2 ⟨c, rfl, rfl⟩
  replace hm := hm.trans hm2
  replace hz := hz.mono hm2
  replace hzx := hzx.mono hm2
  replace hzy := hzy.mono hm2
  clear hm2
  refine r_y rfl rfl (y_move rfl) ?_
  refine r_y rfl rfl (y_extract rfl rfl) ?_
  refine r_y rfl rfl (y_extract rfl rfl) ?_
  refine r_s rfl ?_
  refine s_alloc rfl tz29 (fun b2 => ?_)
  refine r_s rfl ?_
  refine s_store (us := encCube c) rfl rfl rfl ts29 rfl rfl (one_cube _) (i := 0) rfl rfl ?_
  refine r_y rfl rfl (y_assign rfl) ?_
  refine r_nil ?_
  refine hK1 _ _ _ ?_
  clear hK1 K1
  refine c_seq (fun K2 hK2 => ?_)
  refine c_seq (fun K3 hK3 => ?_)
  refine c_region ?_
  refine r_y rfl rfl (y_move rfl) ?_
  refine r_y rfl rfl (y_len tl33 rfl) ?_
  refine r_y rfl rfl (y_iop rfl rfl rfl) ?_
  refine r_y rfl rfl (y_move rfl) ?_
  refine r_split (j := 3) rfl (fun hS => ?_) (fun hS => ?_)
  ·
    refine r_no' rfl rfl hS ?_
    refine r_y rfl rfl (y_pickt rfl hS rfl) ?_
    refine r_y rfl rfl (y_move rfl) ?_
    refine r_no' rfl rfl rfl ?_
    refine r_no' rfl rfl rfl ?_
    refine r_no' rfl rfl rfl ?_
    refine r_no' rfl rfl rfl ?_
    refine r_y rfl rfl (y_pickt rfl rfl rfl) ?_
    refine r_y rfl rfl (y_move rfl) ?_
    refine r_no' rfl rfl rfl ?_
    refine r_no' rfl rfl rfl ?_
    refine r_no' rfl rfl rfl ?_
    refine r_no' rfl rfl rfl ?_
    refine r_y rfl rfl (y_pickt rfl rfl rfl) ?_
    refine r_nil ?_
    refine hK3 _ _ _ ?_
    clear hK3 K3
    refine c_ift rfl rfl ?_
    refine c_seq (fun K4 hK4 => ?_)
    refine c_region ?_
    refine r_s rfl ?_
    refine s_call0 rfl Try.call32 rfl (answers7_w _ _) ?_
    rintro _ m2 _ hm2 ⟨rfl, rfl⟩
    replace hm := hm.trans hm2
    replace hz := hz.mono hm2
    replace hzx := hzx.mono hm2
    replace hzy := hzy.mono hm2
    clear hm2
    refine r_y rfl rfl (y_assign rfl) ?_
    refine r_nil ?_
    refine hK4 _ _ _ ?_
    clear hK4 K4
    refine c_ret ?_
    refine e_ret 3 hm (res_tmps rfl) ?_
    first | exact ⟨rfl, rfl⟩ | exact ⟨congrArg Value.bool (by rw [hlc, hld, hla, hlb, g3]; simp), rfl⟩
  ·
    refine r_yg rfl hS rfl (y_move rfl) ?_
    refine r_y rfl rfl (y_pickf rfl hS rfl) ?_
    refine r_y rfl rfl (y_move rfl) ?_
    refine r_split (j := 6) rfl (fun hO => ?_) (fun hO => ?_)
    ·
      refine r_no' rfl rfl hO ?_
      refine r_no' rfl rfl hO ?_
      refine r_no' rfl rfl hO ?_
      refine r_no' rfl rfl hO ?_
      refine r_y rfl rfl (y_pickt rfl hO rfl) ?_
      refine r_y rfl rfl (y_move rfl) ?_
      refine r_no' rfl rfl rfl ?_
      refine r_no' rfl rfl rfl ?_
      refine r_no' rfl rfl rfl ?_
      refine r_no' rfl rfl rfl ?_
      refine r_y rfl rfl (y_pickt rfl rfl rfl) ?_
      refine r_nil ?_
      refine hK3 _ _ _ ?_
      clear hK3 K3
      refine c_ift rfl rfl ?_
      refine c_seq (fun K5 hK5 => ?_)
      refine c_region ?_
      refine r_s rfl ?_
      refine s_call0 rfl Try.call32 rfl (answers7_w _ _) ?_
      rintro _ m2 _ hm2 ⟨rfl, rfl⟩
      replace hm := hm.trans hm2
      replace hz := hz.mono hm2
      replace hzx := hzx.mono hm2
      replace hzy := hzy.mono hm2
      clear hm2
      refine r_y rfl rfl (y_assign rfl) ?_
      refine r_nil ?_
      refine hK5 _ _ _ ?_
      clear hK5 K5
      refine c_ret ?_
      refine e_ret 3 hm (res_tmps rfl) ?_
      first | exact ⟨rfl, rfl⟩ | exact ⟨congrArg Value.bool (by rw [hlc, hld, hla, hlb, g3]; simp), rfl⟩
    ·
      refine r_yg rfl hO rfl (y_fieldAddr rfl At.lit fo32_3 rfl) ?_
      refine r_yg rfl hO rfl (y_load_s rfl ts30 (RdS.blk (i := 2) rfl rfl)) ?_
      refine r_yg rfl hO rfl (y_len tl30 rfl) ?_
      refine r_yg rfl hO rfl (y_iop rfl rfl rfl) ?_
      refine r_y rfl rfl (y_pickf rfl hO rfl) ?_
      refine r_y rfl rfl (y_move rfl) ?_
      refine r_split (j := 12) rfl (fun hA1 => ?_) (fun hA1 => ?_)
      ·
        refine r_no' rfl rfl hA1 ?_
        refine r_no' rfl rfl hA1 ?_
        refine r_no' rfl rfl hA1 ?_
        refine r_no' rfl rfl hA1 ?_
        refine r_y rfl rfl (y_pickt rfl hA1 rfl) ?_
        refine r_nil ?_
        refine hK3 _ _ _ ?_
        clear hK3 K3
        refine c_ift rfl rfl ?_
        refine c_seq (fun K6 hK6 => ?_)
        refine c_region ?_
        refine r_s rfl ?_
        refine s_call0 rfl Try.call32 rfl (answers7_w _ _) ?_
        rintro _ m2 _ hm2 ⟨rfl, rfl⟩
        replace hm := hm.trans hm2
        replace hz := hz.mono hm2
        replace hzx := hzx.mono hm2
        replace hzy := hzy.mono hm2
        clear hm2
        refine r_y rfl rfl (y_assign rfl) ?_
        refine r_nil ?_
        refine hK6 _ _ _ ?_
        clear hK6 K6
        refine c_ret ?_
        refine e_ret 3 hm (res_tmps rfl) ?_
        first | exact ⟨rfl, rfl⟩ | exact ⟨congrArg Value.bool (by rw [hlc, hld, hla, hlb, g3]; simp), rfl⟩
      ·
        refine r_yg rfl hA1 rfl (y_fieldAddr rfl At.lit fo32_3 rfl) ?_
        refine r_yg rfl hA1 rfl (y_load_s rfl ts30 (RdS.blk (i := 1) rfl rfl)) ?_
        refine r_yg rfl hA1 rfl (y_len tl30 rfl) ?_
        refine r_yg rfl hA1 rfl (y_iop rfl rfl rfl) ?_
        refine r_y rfl rfl (y_pickf rfl hA1 rfl) ?_
        refine r_nil ?_
        refine hK3 _ _ _ ?_
        clear hK3 K3
        refine c_cond rfl (fun hA2 => ?_) (fun hA2 => ?_)
        ·
          refine c_seq (fun K7 hK7 => ?_)
          refine c_region ?_
          refine r_s rfl ?_
          refine s_call0 rfl Try.call32 rfl (answers7_w _ _) ?_
          rintro _ m2 _ hm2 ⟨rfl, rfl⟩
          replace hm := hm.trans hm2
          replace hz := hz.mono hm2
          replace hzx := hzx.mono hm2
          replace hzy := hzy.mono hm2
          clear hm2
          refine r_y rfl rfl (y_assign rfl) ?_
          refine r_nil ?_
          refine hK7 _ _ _ ?_
          clear hK7 K7
          refine c_ret ?_
          refine e_ret 3 hm (res_tmps rfl) ?_
          first | exact ⟨rfl, rfl⟩ | exact ⟨congrArg Value.bool (by rw [hlc, hld, hla, hlb, g3]; simp), rfl⟩
        ·
          refine c_skip ?_
          refine hK2 _ _ _ ?_
          clear hK2 K2
          refine c_seq (fun K8 hK8 => ?_)
          refine c_region ?_
          refine r_y rfl rfl (y_move rfl) ?_
          refine r_y rfl rfl (y_load_a (cs := encMod x sx) rfl ts32 (RdA.blk (i := 2) rfl rfl)) ?_
          refine r_s rfl ?_
          refine s_call0 rfl Try.call33 rfl (applyF_w s1 l1 x sx 1000 _ _ hz hfa (by simp at hS; omega) hzx hokx hfx) ?_
          rintro _ m2 _ hm2 ⟨sa, la, rfl, hza, hla, hna, rfl⟩
          replace hm := hm.trans hm2
          replace hz := hz.mono hm2
          replace hzx := hzx.mono hm2
          replace hzy := hzy.mono hm2
          clear hm2
          refine r_y rfl rfl (y_move rfl) ?_
          refine r_y rfl rfl (y_extract rfl rfl) ?_
          refine r_y rfl rfl (y_extract rfl rfl) ?_
          refine r_y rfl rfl (y_assign rfl) ?_
          refine r_y rfl rfl (y_assign rfl) ?_
          refine r_nil ?_
          refine hK8 _ _ _ ?_
          clear hK8 K8
          refine c_seq (fun K9 hK9 => ?_)
          refine c_region ?_
          refine r_y rfl rfl (y_move rfl) ?_
          refine r_y rfl rfl (y_load_a (cs := encMod y sy) rfl ts32 (RdA.blk (i := 1) rfl rfl)) ?_
          refine r_s rfl ?_
          refine s_call0 rfl Try.call33 rfl (applyF_w s1 l1 y sy 1000 _ _ hz hfa (by simp at hS; omega) hzy hoky hfy) ?_
          rintro _ m2 _ hm2 ⟨sb, lb, rfl, hzb, hlb, hnb, rfl⟩
          replace hm := hm.trans hm2
          replace hz := hz.mono hm2
          replace hzx := hzx.mono hm2
          replace hzy := hzy.mono hm2
          replace hza := hza.mono hm2
          clear hm2
          refine r_y rfl rfl (y_move rfl) ?_
          refine r_y rfl rfl (y_extract rfl rfl) ?_
          refine r_y rfl rfl (y_extract rfl rfl) ?_
          refine r_y rfl rfl (y_assign rfl) ?_
          refine r_y rfl rfl (y_assign rfl) ?_
          refine r_nil ?_
          refine hK9 _ _ _ ?_
          clear hK9 K9
          refine c_seq (fun K10 hK10 => ?_)
          refine c_seq (fun K11 hK11 => ?_)
          refine c_region ?_
          refine r_y rfl rfl (y_move rfl) ?_
          refine r_y rfl rfl (y_iop rfl rfl rfl) ?_
          refine r_y rfl rfl (y_move rfl) ?_
          refine r_split (j := 2) rfl (fun hC => ?_) (fun hC => ?_)
          ·
            refine r_no' rfl rfl hC ?_
            refine r_no' rfl rfl hC ?_
            refine r_y rfl rfl (y_pickt rfl hC rfl) ?_
            refine r_nil ?_
            refine hK11 _ _ _ ?_
            clear hK11 K11
            refine c_ift rfl rfl ?_
            refine c_seq (fun K12 hK12 => ?_)
            refine c_region ?_
            refine r_s rfl ?_
            refine s_call0 rfl Try.call32 rfl (answers7_w _ _) ?_
            rintro _ m2 _ hm2 ⟨rfl, rfl⟩
            replace hm := hm.trans hm2
            replace hz := hz.mono hm2
            replace hzx := hzx.mono hm2
            replace hzy := hzy.mono hm2
            replace hza := hza.mono hm2
            replace hzb := hzb.mono hm2
            clear hm2
            refine r_y rfl rfl (y_assign rfl) ?_
            refine r_nil ?_
            refine hK12 _ _ _ ?_
            clear hK12 K12
            refine c_ret ?_
            refine e_ret 3 hm (res_tmps rfl) ?_
            first | exact ⟨rfl, rfl⟩ | exact ⟨congrArg Value.bool (by rw [hlc, hld, hla, hlb, g3]; simp), rfl⟩
          ·
            refine r_yg rfl hC rfl (y_move rfl) ?_
            refine r_yg rfl hC rfl (y_iop rfl rfl rfl) ?_
            refine r_y rfl rfl (y_pickf rfl hC rfl) ?_
            refine r_nil ?_
            refine hK11 _ _ _ ?_
            clear hK11 K11
            refine c_cond rfl (fun hD => ?_) (fun hD => ?_)
            ·
              refine c_seq (fun K13 hK13 => ?_)
              refine c_region ?_
              refine r_s rfl ?_
              refine s_call0 rfl Try.call32 rfl (answers7_w _ _) ?_
              rintro _ m2 _ hm2 ⟨rfl, rfl⟩
              replace hm := hm.trans hm2
              replace hz := hz.mono hm2
              replace hzx := hzx.mono hm2
              replace hzy := hzy.mono hm2
              replace hza := hza.mono hm2
              replace hzb := hzb.mono hm2
              clear hm2
              refine r_y rfl rfl (y_assign rfl) ?_
              refine r_nil ?_
              refine hK13 _ _ _ ?_
              clear hK13 K13
              refine c_ret ?_
              refine e_ret 3 hm (res_tmps rfl) ?_
              first | exact ⟨rfl, rfl⟩ | exact ⟨congrArg Value.bool (by rw [hlc, hld, hla, hlb, g3]; simp), rfl⟩
            ·
              have hc1 : (applyR (l1.map (·.1)) x 1000).2 = 0 := by simpa using hC
              have hc2 : (applyR (l1.map (·.1)) y 1000).2 = 0 := by simpa using hD
              have hd : cubeMeetOk x.m y.m = false := hO
              obtain ⟨g1, g2, g3⟩ := apart (l := l1.map (·.1)) (by simp at hS ⊢; omega) hd hc1 hc2
              refine c_skip ?_
              refine hK10 _ _ _ ?_
              clear hK10 K10
              refine c_seq (fun K14 hK14 => ?_)
              refine c_region ?_
              have hfb := acts_of hla (applyR_acts (acts_to hfa) hfx)
              have hfc := acts_of hlb (applyR_acts (acts_to hfa) hfy)
              have hlla := applyR_len (l1.map (·.1)) x 1000
              rw [← hla] at hlla
              have hllb := applyR_len (l1.map (·.1)) y 1000
              rw [← hlb] at hllb
              simp only [List.length_map] at hlla hllb
              have hl40 : s1.n ≤ 40 := by simp at hS; omega
              refine r_y rfl rfl (y_move rfl) ?_
              refine r_y rfl rfl (y_load_a (cs := encMod y sy) rfl ts32 (RdA.blk (i := 1) rfl rfl)) ?_
              refine r_s rfl ?_
              refine s_call0 rfl Try.call33 rfl (applyF_w sa la y sy 1000 _ _ hza hfb (by omega) hzy hoky hfy) ?_
              rintro _ m2 _ hm2 ⟨sc, lc, rfl, hzc, hlc, hnc, rfl⟩
              replace hm := hm.trans hm2
              replace hz := hz.mono hm2
              replace hzx := hzx.mono hm2
              replace hzy := hzy.mono hm2
              replace hza := hza.mono hm2
              replace hzb := hzb.mono hm2
              clear hm2
              refine r_y rfl rfl (y_move rfl) ?_
              refine r_y rfl rfl (y_extract rfl rfl) ?_
              refine r_y rfl rfl (y_extract rfl rfl) ?_
              refine r_y rfl rfl (y_assign rfl) ?_
              refine r_y rfl rfl (y_assign rfl) ?_
              refine r_nil ?_
              refine hK14 _ _ _ ?_
              clear hK14 K14
              refine c_seq (fun K15 hK15 => ?_)
              refine c_region ?_
              refine r_y rfl rfl (y_move rfl) ?_
              refine r_y rfl rfl (y_load_a (cs := encMod x sx) rfl ts32 (RdA.blk (i := 2) rfl rfl)) ?_
              refine r_s rfl ?_
              refine s_call0 rfl Try.call33 rfl (applyF_w sb lb x sx 1000 _ _ hzb hfc (by omega) hzx hokx hfx) ?_
              rintro _ m2 _ hm2 ⟨sd, ld, rfl, hzd, hld, hnd, rfl⟩
              replace hm := hm.trans hm2
              replace hz := hz.mono hm2
              replace hzx := hzx.mono hm2
              replace hzy := hzy.mono hm2
              replace hza := hza.mono hm2
              replace hzb := hzb.mono hm2
              replace hzc := hzc.mono hm2
              clear hm2
              refine r_y rfl rfl (y_move rfl) ?_
              refine r_y rfl rfl (y_extract rfl rfl) ?_
              refine r_y rfl rfl (y_extract rfl rfl) ?_
              refine r_y rfl rfl (y_assign rfl) ?_
              refine r_y rfl rfl (y_assign rfl) ?_
              refine r_nil ?_
              refine hK15 _ _ _ ?_
              clear hK15 K15
              refine c_seq (fun K16 hK16 => ?_)
              refine c_region ?_
              refine r_s rfl ?_
              refine s_call0 rfl Try.call32 rfl (answers7_w _ _) ?_
              rintro _ m2 _ hm2 ⟨rfl, rfl⟩
              replace hm := hm.trans hm2
              replace hz := hz.mono hm2
              replace hzx := hzx.mono hm2
              replace hzy := hzy.mono hm2
              replace hza := hza.mono hm2
              replace hzb := hzb.mono hm2
              replace hzc := hzc.mono hm2
              replace hzd := hzd.mono hm2
              clear hm2
              refine r_y rfl rfl (y_move rfl) ?_
              refine r_yg rfl rfl rfl (y_move rfl) ?_
              refine r_yg rfl rfl rfl (y_iop rfl rfl rfl) ?_
              refine r_y rfl rfl (y_pickt rfl rfl rfl) ?_
              refine r_y rfl rfl (y_move rfl) ?_
              refine r_yg rfl (by rw [hla, g1]; rfl) rfl (y_move rfl) ?_
              refine r_yg rfl (by rw [hla, g1]; rfl) rfl (y_iop rfl rfl rfl) ?_
              refine r_y rfl rfl (y_pickt rfl (by rw [hla, g1]; rfl) rfl) ?_
              refine r_y rfl rfl (y_move rfl) ?_
              refine r_yg rfl (by rw [hlb, g2]; rfl) rfl (y_move rfl) ?_
              refine r_yg rfl (by rw [hlb, g2]; rfl) rfl (y_move rfl) ?_
              refine r_sg rfl (by rw [hlb, g2]; rfl) ?_
              refine s_call0 rfl Try.call35 rfl (rSame_w sc sd lc ld _ _ hzc hzd) ?_
              rintro _ m2 _ hm2 ⟨rfl, rfl⟩
              replace hm := hm.trans hm2
              replace hz := hz.mono hm2
              replace hzx := hzx.mono hm2
              replace hzy := hzy.mono hm2
              replace hza := hza.mono hm2
              replace hzb := hzb.mono hm2
              replace hzc := hzc.mono hm2
              replace hzd := hzd.mono hm2
              clear hm2
              refine r_y rfl rfl (y_pickt rfl (by rw [hlb, g2]; rfl) rfl) ?_
              refine r_y rfl rfl (y_assign rfl) ?_
              refine r_nil ?_
              refine hK16 _ _ _ ?_
              clear hK16 K16
              refine c_ret ?_
              refine e_ret 3 hm (res_tmps rfl) ?_
              first | exact ⟨rfl, rfl⟩ | exact ⟨congrArg Value.bool (by rw [hlc, hld, hla, hlb, g3]; simp), rfl⟩
end Go.Aw
