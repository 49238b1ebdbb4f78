/- Rules: calls, regions, functions. -/
import Derived.Test.YtafleomjmjjlbaaAw2
namespace Go.Aw
open Go

def opvs (L : Slots) : List Operand → Option (List Value)
  | [] => some []
  | x :: r => match opv L x with
    | none => none
    | some v => match opvs L r with
      | none => none
      | some vs => some (v :: vs)

theorem Fr.evals {n : Nat} {a : Act} {L : Slots} (hf : Fr n a L) : ∀ {as : List Operand} {vs : List Value}, opvs L as = some vs → as.map a.eval = vs
  | [], vs, h => by simp only [opvs, Option.some.injEq] at h; rw [← h]; rfl
  | x :: r, vs, h => by
    simp only [opvs] at h
    cases hx : opv L x with
    | none => simp [hx] at h
    | some v =>
      cases hr : opvs L r with
      | none => simp [hx, hr] at h
      | some us =>
        simp only [hx, hr, Option.some.injEq] at h
        rw [← h, List.map_cons, hf.eval hx, Fr.evals hf hr]

/-- A contract: from every world of this kind the call hands back a value. -/
def Fn (P : Program) (f : FuncId) (args : List Value) (m : Snap) (H : Hp) (R : Value → Snap → Hp → Prop) : Prop :=
  ∀ w, St m H w → Calls P f args.toArray w fun e w' => ∃ v m' H', e = .returned v ∧ m.le m' ∧ St m' H' w' ∧ R v m' H'

theorem Fn.mono {P : Program} {f : FuncId} {args : List Value} {m : Snap} {H : Hp} {R R' : Value → Snap → Hp → Prop} (h : Fn P f args m H R)
    (hr : ∀ v m' H', m.le m' → R v m' H' → R' v m' H') : Fn P f args m H R' :=
  fun w hs => (h w hs).mono fun _ _ ⟨v, m', H', h1, h2, h3, h4⟩ => ⟨v, m', H', h1, h2, h3, hr _ _ _ h2 h4⟩

section
variable {P : Program} {n : Nat} {Q : Post} {L : Slots} {m : Snap} {H : Hp} {ops : Array Oper} {rest : List Oper} {d : Option Tmp} {ty : TypeId} {ps : String} {af : Array Edge} {gd : Option (Nat × Bool)}

def runs (P : Program) (f : FuncId) : Prop := ∀ (args : Array Value) (w : World), (callFunc f args).run P w = .ok (.enter f args) w

theorem s_call {K : Slots → Snap → Hp → Prop} {f : FuncId} {fx : Operand} {first cap : List Value} {as : List Operand} {ats : Array TypeId} {vs : List Value} {R : Value → Snap → Hp → Prop} (hd : dstOk n d = true) (hc : runs P f)
    (hx : opv L fx = some (.func (.func f) first.toArray cap.toArray)) (has : opvs L as = some vs) (hF : Fn P f (first ++ vs ++ cap) m H R)
    (h : ∀ v m' H', m.le m' → R v m' H' → K (lput L d v) m' H') :
    SP P n L m H ⟨d, .call ⟨.value fx, as.toArray, ats⟩, ty, ps, af, gd⟩ K := by
  intro a w hf hs K' Q' hK
  have hrun : (execOp a.eval ⟨d, .call ⟨.value fx, as.toArray, ats⟩, ty, ps, af, gd⟩).run P w = .ok (.enter f (first ++ vs ++ cap).toArray) w := by
    have e : (first.toArray ++ (as.toArray.map a.eval) ++ cap.toArray : Array Value) = (first ++ vs ++ cap).toArray := by
      rw [List.map_toArray, hf.evals has]; simp
    simp only [execOp, resolve, hf.eval hx, Deferred.ofValue, Sem.run_bind, Sem.run_pure, Result.andThen_ok, invoke]
    rw [e, hc]
  unfold Oper.wp
  rw [hrun, Oper.upon_enter]
  refine (hF w hs).mono ?_
  rintro e w' ⟨v, m', H', rfl, hm, hs', hR⟩
  exact hK _ _ _ _ _ (hf.lput hd v) hs' (h v m' H' hm hR)

theorem s_call0 {K : Slots → Snap → Hp → Prop} {f : FuncId} {as : List Operand} {ats : Array TypeId} {vs : List Value} {R : Value → Snap → Hp → Prop} (hd : dstOk n d = true) (hc : runs P f)
    (has : opvs L as = some vs) (hF : Fn P f vs m H R)
    (h : ∀ v m' H', m.le m' → R v m' H' → K (lput L d v) m' H') :
    SP P n L m H ⟨d, .call ⟨.value (.func f), as.toArray, ats⟩, ty, ps, af, gd⟩ K :=
  s_call (first := []) (cap := []) hd hc rfl has (by simpa using hF) h

theorem c_region {id : Nat} {l : List Oper} (h : Run P n l.toArray Q l L m H) : RunC P n (.region id l.toArray false) Q L m H :=
  fun a w hf hs => wp_region_lit (h a w hf hs)

def resv (rs : List ResultVar) (L : Slots) : Option Value := match rs with
  | [.tmp t] => look L t
  | [] => some (.tuple #[])
  | [.tmp t, .tmp u] => match look L t, look L u with
    | some a, some b => some (.tuple #[a, b])
    | _, _ => none
  | [.tmp t, .tmp u, .tmp x] => match look L t, look L u, look L x with
    | some a, some b, some c => some (.tuple #[a, b, c])
    | _, _, _ => none
  | _ => none

theorem run_resv {fn : Func} {rs : List ResultVar} (hr : fn.results = rs.toArray) {a : Act} (hf : Fr n a L) {v : Value} (h : resv rs L = some v) (w : World) : (results fn a.tmps).run P w = .ok v w := by
  have hget : ∀ t u, look L t = some u → a.tmps.getD t undef = u := fun t u ht => by
    have := hf.get t u ht
    simp [Array.getD_eq_getD_getElem?, this]
  unfold resv at h
  split at h
  · rename_i t; rw [results_tmp hr, hget t _ h]
  · cases h; rw [results_none hr]
  · rename_i t u
    split at h
    · rename_i x y hx hy; cases h; rw [results_tmp2 hr, hget t _ hx, hget u _ hy]
    · cases h
  · rename_i t u s
    split at h
    · rename_i x y z hx hy hz; cases h
      have e1 := hget t _ hx
      have e2 := hget u _ hy
      have e3 := hget s _ hz
      simp only [Array.getD_eq_getD_getElem?] at e1 e2 e3
      simp [results, hr, e1, e2, e3]
    · cases h
  · cases h

def retQ (rs : List ResultVar) (m : Snap) (R : Value → Snap → Hp → Prop) : Post := fun e L' m' H' =>
  match e with
  | .normal | .ret => m.le m' ∧ ∃ v, resv rs L' = some v ∧ R v m' H'
  | _ => False

def slots0 : Nat → List Value → Slots
  | _, [] => []
  | k, v :: r => (k, v) :: slots0 (k + 1) r

theorem look_slots0 : ∀ (args : List Value) (k i : Nat) (v : Value), look (slots0 k args) i = some v → k ≤ i ∧ args[i - k]? = some v
  | [], _, _, _, h => by simp [slots0, look] at h
  | u :: r, k, i, v, h => by
    simp only [slots0, look] at h
    cases hb : Nat.beq k i with
    | true =>
      rw [hb] at h; cases h
      have := Nat.eq_of_beq_eq_true hb
      subst this
      simp
    | false =>
      rw [hb] at h
      obtain ⟨h1, h2⟩ := look_slots0 r (k + 1) i v h
      refine ⟨by omega, ?_⟩
      rw [show i - k = (i - (k + 1)) + 1 by omega]
      simpa using h2

theorem fn_of {f : FuncId} {fn : Func} {c : Code} {args : List Value} {rs : List ResultVar} {R : Value → Snap → Hp → Prop} (hf : P.funcs[f]? = some fn) (hb : fn.body = some c) (hr : fn.results = rs.toArray)
    (hn : Nat.ble args.length fn.ntmps = true) (h : RunC P fn.ntmps c (retQ rs m R) (slots0 0 args) m H) : Fn P f args m H R := by
  intro w hs
  refine calls_of_wp hf hb ?_
  have hle : args.length ≤ fn.ntmps := Nat.le_of_ble_eq_true hn
  have hfr : Fr fn.ntmps { tmps := args.toArray ++ Array.replicate (fn.ntmps - args.toArray.size) undef, defers := [] } (slots0 0 args) := by
    refine ⟨by simp; omega, rfl, fun i v hv => ?_⟩
    obtain ⟨_, h2⟩ := look_slots0 args 0 i v hv
    simp only [Nat.sub_zero] at h2
    have hi : i < args.length := (List.getElem?_eq_some_iff.1 h2).1
    rw [Array.getElem?_append, if_pos (by simpa using hi)]
    simpa using h2
  refine wp_mono (h _ w hfr hs) ?_
  rintro e a' w' ⟨L', m', H', hf', hs', hq⟩
  cases e <;> simp only [retQ] at hq
  all_goals
    obtain ⟨hm, v, hv, hR⟩ := hq
    exact ⟨hf'.defers, v, run_resv hr hf' hv w', v, m', H', rfl, hm, hs', hR⟩
end
end Go.Aw
