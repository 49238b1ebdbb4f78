/- Rules: bytes as a string; strings told apart. -/
import Derived.Test.YtafleomjmjjlbaaData4
import Derived.Laws.BytesString
namespace Go.Aw
open Go

def strB (l : List UInt8) : ByteArray := (l.map fun c => (c.toNat : Int)).foldl (fun r n => r.push (UInt8.ofNat n.toNat)) ByteArray.empty

section
variable {P : Program} {n : Nat} {L : Slots} {m : Snap} {H : Hp} {d : Option Tmp} {ty : TypeId} {ps : String} {af : Array Edge} {gd : Option (Nat × Bool)}

theorem y_conv_str {src dst e : TypeId} {x : Operand} {s : Sl} {l : List UInt8} (hx : opv L x = some s.v) (hz : FzB m s l)
    (hs : P.underlying src = some (.slice e)) (he : P.underlying e = some (.int .u8)) (hd : P.underlying dst = some .string) :
    Yl P n L m H ⟨d, .convert src dst x, ty, ps, af, gd⟩ (.string (strB l)) := fun ac hf w hst => by
  have hl := Fz.lenB hz
  have key : (convert src dst (.slice s.a s.n s.cap)).run P w = .ok (.string (strB l)) w := by
    rw [run_convert_bytes_string w src dst e s.a s.n s.cap hs he hd]
    cases ha : s.a with
    | none =>
      cases l with
      | nil => simp [Conv.bytesToString, strB]
      | cons c r =>
        obtain ⟨g, o, h, _⟩ := hz.get 0 [bv c] rfl
        rw [ha] at h; cases h
    | some a =>
      refine run_bytesToString w a s.n s.cap (l.map fun c => (c.toNat : Int)) ?_
      have := run_loadCells_list (P := P) w a (l.map bv) (fun j v hj => by
        simp only [List.getElem?_map, Option.map_eq_some_iff] at hj
        obtain ⟨c, hc, rfl⟩ := hj
        obtain ⟨g, o, h, hv⟩ := hz.get j [bv c] (bytes1_get hc)
        rw [ha] at h; cases h
        rw [addr_add]
        have := hst.cell (hv 0 (bv c) rfl)
        simpa using this)
      rw [List.length_map, ← hl] at this
      rw [this, List.map_map]
      rfl
  simp only [execOp, hf.eval hx, Sl.v, key, Sem.run_bind, Result.andThen_ok]
  rfl

theorem y_eqstr {t t' : TypeId} {x y : Operand} {a b : ByteArray} (hx : opv L x = some (.string a)) (hy : opv L y = some (.string b)) :
    Yl P n L m H ⟨d, .binOp .eql t x y t', ty, ps, af, gd⟩ (.bool (a.toList == b.toList)) := fun ac hf w _ => by
  have hg : (eqGuard .eql t x y (.string a) (.string b)).run P w = .ok () w := rfl
  have hb : (binOp .eql t (.string a) (.string b)).run P w = .ok (.bool (a.toList == b.toList)) w := rfl
  simp only [execOp, hf.eval hx, hf.eval hy, Sem.run_bind, hg, Result.andThen_ok, hb]
  rfl
end
end Go.Aw
