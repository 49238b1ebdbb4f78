/- Where a law begins, and what it leaves behind; messages in slices. -/
import Derived.Test.YtafleomjmjjlbaaPure1
import Derived.Below
import Derived.OpenShut
namespace Go.Aw
open Go Go.RowKit

def snapOf (w : World) : Snap := ⟨fun k => w.heap[k]?, w.os, w.tape, w.output⟩
theorem St.start (w : World) : St (snapOf w) [] w := ⟨rfl, rfl, rfl, fun _ _ h => h, fun _ h => (by cases h), List.nodup_nil, fun _ h => (by cases h)⟩
theorem below_of {m' : Snap} {H' : Hp} {w w' : World} (hm : (snapOf w).le m') (hs : St m' H' w') : Below w.heap.size w w' := by
  have hb : ∀ k, k < w.heap.size → w'.heap[k]? = w.heap[k]? := fun k hk => by
    have h1 : w.heap[k]? = some w.heap[k] := Array.getElem?_eq_getElem hk
    rw [h1]
    exact hs.frz k _ (hm.heap k _ h1)
  refine ⟨hs.os.trans hm.os, hs.tape.trans hm.tape, hs.output.trans hm.output, ?_, hb⟩
  rcases Nat.eq_zero_or_pos w.heap.size with h | h
  · omega
  · have h1 := hb (w.heap.size - 1) (by omega)
    rw [Array.getElem?_eq_getElem (by omega : w.heap.size - 1 < w.heap.size)] at h1
    have := (Array.getElem?_eq_some_iff.1 h1).1
    omega
theorem cell_snap {w : World} {a : Addr} {v : Value} (h : w.cell? a = some v) : a = ⟨a.block, a.off, none⟩ ∧ (snapOf w).cell a.block a.off = some v := by
  obtain ⟨b, o, sp⟩ := a
  unfold World.cell? at h
  split at h
  · rename_i c _ _ hh
    cases sp with
    | some x => simp at h
    | none =>
      refine ⟨rfl, ?_⟩
      simp only [Option.isSome_none] at h
      simp only [Snap.cell, snapOf]
      simp at hh
      rw [hh]
      simpa using h
  · cases h
theorem wf_u8 {n : Int} (h : (Lit.int .u8 n).wf = true) : bv (UInt8.ofNat n.toNat) = .int .u8 n := by
  simp only [Lit.wf, Bool.and_eq_true, decide_eq_true_eq] at h
  have h1 : (0 : Int) ≤ n := h.1
  have h2 : n ≤ 255 := h.2
  unfold bv
  rw [UInt8.toNat_ofNat', Nat.mod_eq_of_lt (by omega)]
  congr 1
  omega
theorem fz_bytes {w : World} {a : Addr} {len cap : Nat} {zs : List Int} (hl : len ≤ cap) (hm : cap ≤ maxLen) (hz : zs.length = cap) (hcell : ∀ i, i < zs.length → w.cell? (a.add i) = some (.int .u8 (zs.getD i 0))) (hwf : ∀ n ∈ zs, (Lit.int .u8 n).wf = true) :
    FzB (snapOf w) ⟨some a, len, cap⟩ ((zs.take len).map fun n => UInt8.ofNat n.toNat) := by
  have hlen : (bytes1 ((zs.take len).map fun n => UInt8.ofNat n.toNat)).length = len := by simp [bytes1]; omega
  refine ⟨hlen, fun c hc => ?_, hl, hm, fun k c hk => ?_⟩
  · simp only [bytes1, List.mem_map] at hc
    obtain ⟨x, _, rfl⟩ := hc
    rfl
  · have hk' : k < len := by have := (List.getElem?_eq_some_iff.1 hk).1; omega
    have hg : zs[k]? = some (zs.getD k 0) := by rw [List.getD_eq_getElem?_getD, List.getElem?_eq_getElem (by omega)]; rfl
    have hc0 : c = [bv (UInt8.ofNat (zs.getD k 0).toNat)] := by
      simp only [bytes1, List.getElem?_map, List.getElem?_take, if_pos hk', hg, Option.map_some, Option.some.injEq] at hk
      exact hk.symm
    obtain ⟨_, h2⟩ := cell_snap (hcell k (by omega))
    have hsp : a = ⟨a.block, a.off, none⟩ := by
      have := (cell_snap (hcell 0 (by omega))).1
      simpa [Addr.add] using this
    refine ⟨a.block, a.off, by rw [← hsp], fun j v hj => ?_⟩
    subst hc0
    match j with
    | 0 =>
      have hj' : bv (UInt8.ofNat (zs.getD k 0).toNat) = v := by simpa only [List.getElem?_cons_zero, Option.some.injEq] using hj
      rw [← hj', wf_u8 (hwf _ (List.mem_of_getElem? hg))]
      rw [hsp, addr_add] at h2
      simpa using h2
    | j + 1 => simp at hj

section
variable {P : Program} {n : Nat} {Q : Post} {L : Slots} {m : Snap} {H : Hp} {ops : Array Oper} {l : List Oper}
theorem r_toVec {i b k s : Nat} {cs : List Value} {e : TypeId} (news : List (List Value)) (hi : hget H i = some (.blk b (.cells cs.toArray e (0, 0)))) (hl : news.length = k) (he : ∀ c ∈ news, c.length = s) (hf : news.flatten = cs) (hk : k ≤ maxLen)
    (h : Run P n ops Q l L m (hset H i (.vec (some ⟨b, 0, none⟩) k k e s news))) : Run P n ops Q l L m H := fun a w hfr hs => h a w hfr (hs.toVec hi hl he hf hk)
end
theorem one_bytes (l : List UInt8) : ∀ c ∈ bytes1 l, ∀ u ∈ c, u.oneCell' = true := by
  intro c hc u hu
  simp only [bytes1, List.mem_map] at hc
  obtain ⟨x, _, rfl⟩ := hc
  simp at hu; subst hu; rfl
theorem fzMs_one {m : Snap} {b : Nat} {x : MsgD} {sm sr : Sl} {lr : List (RuleD × Sl)} (hc : ∀ (j : Nat) (v : Value), (encMsg x sm sr)[j]? = some v → m.cell b j = some v) (hx : MsgOk m x sm sr lr) : FzMs m ⟨some ⟨b, 0, none⟩, 1, 1⟩ [⟨x, sm, sr, lr⟩] :=
  ⟨Fz.of_cells hc rfl (fun c hc => by simp at hc; subst hc; simp [encMsg, encMod, encCube, encHead]) (by simp) (by show 1 ≤ maxLen; decide), fun p hp => by simp at hp; subst hp; exact hx⟩
end Go.Aw
