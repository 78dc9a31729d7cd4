/- A text of the proof of a statement about the given program: its part J14. No person has read it. -/
import Derived.Test.YtecnolmpdgfnfaaDoorJ13
namespace Go.Gp
open Go Go.RowKit
variable {P : Program} {w : World} {t : TypeId} {cs : List Value}

theorem Fm.byte (ht : P.underlying t = some (.int .u8)) (h : Fm P w t cs) : ∃ c : UInt8, cs = [u8c c] := by
  obtain ⟨n, rfl, hw⟩ := h.int ht
  obtain ⟨c, e⟩ := u8_of_wf hw
  exact ⟨c, by rw [e]⟩

theorem Fm.pair {e : TypeId} (ht : P.underlying t = some (.array 2 e)) (he : P.underlying e = some (.int .u8)) (hc : P.cellsOf e = 1) (hct : P.cellsOf t = 2) (h : Fm P w t cs) : ∃ p : UInt8 × UInt8, cs = [u8c p.1, u8c p.2] := by
  obtain ⟨hl, hf⟩ := h.array ht
  rw [hct] at hl
  match cs, hl with
  | [x, y], _ =>
    obtain ⟨a, ha⟩ := (hf 0 (by omega)).byte he
    obtain ⟨b, hb⟩ := (hf 1 (by omega)).byte he
    simp [hc] at ha hb
    exact ⟨(a, b), by rw [ha, hb]⟩

/-- A slice of whole numbers, of bytes, of truth values from outside. -/
theorem Fm.bytes {v : Value} {e : TypeId} (ht : P.underlying t = some (.slice e)) (he : P.underlying e = some (.int .u8)) (hc : P.cellsOf e = 1) (h : Fm P w t [v]) :
    ∃ bs : List UInt8, bs.length ≤ maxLen ∧ Rd w [] v bs.length (bcells bs) := by
  obtain ⟨xs, _, h2, h3⟩ := Fm.rows (f := fun c => [u8c c]) (Q := fun _ => True) ht hc (by decide) h fun cs _ hf => by
    obtain ⟨c, rfl⟩ := hf.byte he
    exact ⟨c, trivial, rfl⟩
  refine ⟨xs, h2, ?_⟩
  have e : bcells xs = xs.flatMap fun c => [u8c c] := List.map_eq_flatMap
  rw [e]; exact h3 []

theorem Fm.bools {v : Value} {e : TypeId} (ht : P.underlying t = some (.slice e)) (he : P.underlying e = some .bool) (hc : P.cellsOf e = 1) (h : Fm P w t [v]) :
    ∃ bs : List Bool, bs.length ≤ maxLen ∧ Rd w [] v bs.length (bs.map Value.bool) := by
  obtain ⟨xs, _, h2, h3⟩ := Fm.rows (f := fun c => [Value.bool c]) (Q := fun _ => True) ht hc (by decide) h fun cs _ hf => by
    obtain ⟨c, rfl⟩ := hf.bool he
    exact ⟨c, trivial, rfl⟩
  refine ⟨xs, h2, ?_⟩
  have e : xs.map Value.bool = xs.flatMap fun c => [Value.bool c] := List.map_eq_flatMap
  rw [e]; exact h3 []

theorem Fm.pairs {v : Value} {e b : TypeId} (ht : P.underlying t = some (.slice e)) (he : P.underlying e = some (.array 2 b)) (hb : P.underlying b = some (.int .u8)) (hc : P.cellsOf b = 1) (hce : P.cellsOf e = 2) (h : Fm P w t [v]) :
    ∃ ps : List (UInt8 × UInt8), ps.length ≤ maxLen ∧ Rd w [] v ps.length (ps.flatMap fun p => [u8c p.1, u8c p.2]) := by
  obtain ⟨xs, _, h2, h3⟩ := Fm.rows (f := fun p : UInt8 × UInt8 => [u8c p.1, u8c p.2]) (Q := fun _ => True) ht hce (by decide) h fun cs _ hf => by
    obtain ⟨c, rfl⟩ := hf.pair he hb hc hce
    exact ⟨c, trivial, rfl⟩
  exact ⟨xs, h2, h3 []⟩
end Go.Gp
