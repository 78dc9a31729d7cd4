/- A text of the proof of a statement about the given program: its part BLaw5. No person has read it. -/
import Derived.Test.YtecnolmpdgfnfaaDoorBChain2
import Derived.Test.YtecnolmpdgfnfaaDoorJ26
-- seat b
namespace Go.Proofs.B
open Go Go.Gp Go.RowKit

theorem awakeChain {W : World} (hK : Tab W 0 64 fun j => w32 (Kc j)) : IsAwake W 25 := fun _ => Awake5_ok hK hexKc
theorem Fm.head {w : World} {cs : List Value} (h : Fm Tryd.prog w 55 cs) : ∃ p n, p.length = 32 ∧ (Lit.int .i64 n).wf = true ∧ cs = hdC p n := by
  have hf := h.fields (l := [(26, 32), (3, 1)]) (by kernel_rfl)
  obtain ⟨a1, cs', rfl, _, ha, hf1⟩ := hf.many
  obtain ⟨c, cs2, rfl, hc, hf2⟩ := hf1.one
  obtain ⟨p, hp, rfl⟩ := Fm.hash Tryd.underlying26 Tryd.underlying5 (by kernel_rfl) (by kernel_rfl) ha
  obtain ⟨n, hn, hw⟩ := hc.int Tryd.underlying3
  simp at hn; subst hn
  have : cs2 = [] := hf2
  subst this
  exact ⟨p, n, hp, hw, rfl⟩
theorem Fm.boolPair {P : Program} {w : World} {t e : TypeId} {cs : List Value} (ht : P.underlying t = some (.array 2 e)) (he : P.underlying e = some .bool) (hc : P.cellsOf e = 1) (hct : P.cellsOf t = 2) (h : Fm P w t cs) : ∃ x y, cs = [.bool x, .bool y] := by
  obtain ⟨hl, hf⟩ := h.array ht
  rw [hct] at hl
  match cs, hl with
  | [a, b], _ =>
    obtain ⟨x, hx⟩ := (hf 0 (by omega)).bool he
    obtain ⟨y, hy⟩ := (hf 1 (by omega)).bool he
    simp [hc] at hx hy
    exact ⟨x, y, by rw [hx, hy]⟩
theorem ChainHeads_law {W : World} {a : Option Addr} {n c : Nat} (hK : Tab W 0 64 fun j => w32 (Kc j)) (h : Fm Tryd.prog W 22 [.slice a n c]) :
    Calls Tryd.prog 8 #[.slice a n c] W fun e w' => e = .returned (.bool true) ∧ Below W.heap.size W w' := by
  obtain ⟨ps, hl, _, hp⟩ := Fm.parts Tryd.underlying22 Tryd.underlying29 Tryd.underlying5 (by kernel_rfl) (by kernel_rfl) h
  exact FnO.law (args := [.slice a n c]) (ChainHeads_ok (K := Kc) (awakeChain hK) hK hexKc hl hp) (Own.nil W)
theorem ChainChecks_law {W : World} {cs ds : Array Value} {a : Option Addr} {n c : Nat} (hK : Tab W 0 64 fun j => w32 (Kc j)) (hh : Fm Tryd.prog W 55 cs.toList) (h : Fm Tryd.prog W 22 [.slice a n c]) (h2 : Fm Tryd.prog W 60 ds.toList) :
    Calls Tryd.prog 9 #[.agg cs, .slice a n c, .agg ds] W fun e w' => e = .returned (.bool true) ∧ Below W.heap.size W w' := by
  obtain ⟨ps, hl, _, hp⟩ := Fm.parts Tryd.underlying22 Tryd.underlying29 Tryd.underlying5 (by kernel_rfl) (by kernel_rfl) h
  obtain ⟨p, m, hpl, hw, e⟩ := Fm.head hh
  obtain ⟨x, y, e2⟩ := Fm.boolPair Tryd.underlying60 Tryd.underlying4 (by kernel_rfl) (by kernel_rfl) h2
  obtain rfl : cs = (hdC p m).toArray := by rw [← e]
  obtain rfl : ds = [.bool x, .bool y].toArray := by rw [← e2]
  have hA := awakeChain hK
  have h9 := ChainChecks_ok (x := x) (y := y) (K := Kc) hA hK hexKc hpl hw hl hp
  have h10 := FnO.law h9 (Own.nil W)
  simp only [List.toArray] at h10
  exact h10
end Go.Proofs.B
