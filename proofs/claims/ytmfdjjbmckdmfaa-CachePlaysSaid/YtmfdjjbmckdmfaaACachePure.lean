/- A text of the proof of a statement about the given program: its part ACachePure. No person has read it. -/
import Derived.Test.YtmfdjjbmckdmfaaACache8
namespace Go.Proofs.A
open Go Go.Gp Go.RowKit

/-! What the calls do to the entries, without memory. -/
def KeysOnce (L : List E) : Prop := (L.map E.key).Nodup

theorem KeysOnce.sub {L M : List E} (h : M.Sublist L) (hl : KeysOnce L) : KeysOnce M := hl.sublist (h.map E.key)

theorem find_none_of {L : List E} {key : Str} (h : ∀ e ∈ L, e.key ≠ key) : L.find? (kE key) = none :=
  List.find?_eq_none.2 fun e he => by simp [kE, h e he]

theorem eraseP_gone : ∀ {L : List E} {key : Str}, KeysOnce L → ∀ e ∈ L.eraseP (kE key), e.key ≠ key
  | [], _, _, e, he => by simp at he
  | x :: L, key, hl, e, he => by
    have hl' : x.key ∉ L.map E.key ∧ (L.map E.key).Nodup := List.nodup_cons.1 hl
    by_cases hx : x.key = key
    · rw [List.eraseP_cons_of_pos (by simp [kE, hx])] at he
      intro hk
      exact hl'.1 (hx ▸ hk ▸ List.mem_map_of_mem he)
    · rw [List.eraseP_cons_of_neg (by simp [kE, hx])] at he
      rcases List.mem_cons.1 he with rfl | he
      · exact hx
      · exact eraseP_gone hl'.2 e he

theorem cut2_sub (L : List E) (cap : Nat) (pick : Int) : (cut2 L cap pick).Sublist L := by
  unfold cut2; split
  · exact List.eraseIdx_sublist _ _
  · exact List.Sublist.refl _

theorem putE_once {cap : Nat} {L : List E} {e : E} {pick : Int} (h : KeysOnce L) : KeysOnce (putE cap L e pick) := by
  unfold putE; split
  · exact h.sub List.eraseP_sublist
  · have h1 := h.sub (List.eraseP_sublist (p := kE e.key))
    have h2 := h1.sub (cut2_sub _ cap pick)
    have h3 : ∀ x ∈ cut2 (L.eraseP (kE e.key)) cap pick, x.key ≠ e.key := fun x hx => eraseP_gone h x ((cut2_sub _ _ _).subset hx)
    unfold KeysOnce
    rw [List.map_append, List.nodup_append]
    refine ⟨h2, by simp, ?_⟩
    intro k hk k' hk' hkk
    obtain ⟨x, hx, rfl⟩ := List.mem_map.1 hk
    simp at hk'
    exact h3 x hx (hkk.trans hk')

theorem doE_once {cap : Nat} {L : List E} {o : OpC} (h : KeysOnce L) : KeysOnce (doE cap L o) := by
  unfold doE
  split
  · exact putE_once h
  · split
    · exact h.sub List.filter_sublist
    · split
      · simp [KeysOnce]
      · exact h

theorem put_find {cap : Nat} {L : List E} {e : E} {pick : Int} (h : KeysOnce L) (hc : cap ≠ 0) : (putE cap L e pick).find? (kE e.key) = some e := by
  unfold putE
  rw [if_neg hc, List.find?_append]
  have : (cut2 (L.eraseP (kE e.key)) cap pick).find? (kE e.key) = none := find_none_of fun x hx => eraseP_gone h x ((cut2_sub _ _ _).subset hx)
  rw [this]
  simp [kE]
theorem put_find0 {L : List E} {e : E} {pick : Int} (h : KeysOnce L) : (putE 0 L e pick).find? (kE e.key) = none := by
  unfold putE
  rw [if_pos rfl]
  exact find_none_of fun x hx => eraseP_gone h x hx

/-- Never more than may be. -/
theorem cut2_len {L : List E} {cap : Nat} {pick : Int} (h : L.length ≤ cap) (hc : cap ≠ 0) : (cut2 L cap pick).length < cap := by
  unfold cut2
  split
  · have := place_lt (pick := pick) (n := L.length) (by omega)
    rw [List.length_eraseIdx_of_lt this]; omega
  · omega
theorem doE_len {cap : Nat} {L : List E} {o : OpC} (h : L.length ≤ cap) : (doE cap L o).length ≤ cap := by
  unfold doE
  split
  · unfold putE
    split
    · exact Nat.le_trans List.eraseP_sublist.length_le h
    · have := cut2_len (L := L.eraseP (kE (opE o).key)) (pick := o.pick) (Nat.le_trans List.eraseP_sublist.length_le h) (by assumption)
      simp only [List.length_append, List.length_cons, List.length_nil]; omega
  · split
    · exact Nat.le_trans (List.length_filter_le _ _) h
    · split
      · exact Nat.zero_le _
      · exact h
end Go.Proofs.A
