/- A text of the proof of a statement about the given program: its part J20. No person has read it. -/
import Derived.Test.YtecnolmpdgfnfaaDoorJ19
namespace Go.Gp
open Go Go.RowKit
/-! Parts of a slice that is read. -/
theorem RdO.to {w0 : World} {l : List HProp} {b p n c k : Nat} (sz : Nat) {cs : List Value} (h : RdO w0 l (.slice (some ⟨b, p, none⟩) n c) n cs) (hk : k ≤ n) : RdO w0 l (.slice (some ⟨b, p, none⟩) k c) k (cs.take (k * sz)) := by
  intro w hw
  rcases h w hw with ⟨a, c', h1, h2, h3⟩ | ⟨b', o', c', h1, h2, h3⟩
  · have : k = 0 := by omega
    subst this
    refine .inl ⟨some ⟨b, p, .none⟩, c, rfl, rfl, ?_⟩
    rw [Nat.zero_mul, List.take_zero]
  · cases h1
    exact .inr ⟨b, p, c, rfl, by omega, h3.take _⟩
theorem RdO.from {w0 : World} {l : List HProp} {b p n c k : Nat} (sz : Nat) {cs : List Value} (h : RdO w0 l (.slice (some ⟨b, p, none⟩) n c) n cs) (hk : k ≤ n) (hl : cs.length = n * sz) : RdO w0 l (.slice (some ⟨b, if c = k then p else p + k * sz, none⟩) (n - k) (c - k)) (n - k) (cs.drop (k * sz)) := by
  intro w hw
  rcases h w hw with ⟨a, c', h1, h2, h3⟩ | ⟨b', o', c', h1, h2, h3⟩
  · have : k = 0 := by omega
    subst this
    refine .inl ⟨some ⟨b, if c = 0 then p else p + 0 * sz, .none⟩, c - 0, by rw [h2], by omega, ?_⟩
    rw [h3]; simp
  · cases h1
    by_cases hc : c = k
    · have : n = k := by omega
      subst this
      refine .inl ⟨some ⟨b, if c = n then p else p + n * sz, .none⟩, c - n, by rw [Nat.sub_self], Nat.sub_self _, ?_⟩
      rw [List.drop_eq_nil_of_le (by omega)]
    · rw [if_neg hc]
      exact .inr ⟨b, p + k * sz, c - k, rfl, by omega, h3.drop _⟩
end Go.Gp
namespace Go.Gp
open Go Go.RowKit
/-! A region that draws its order, where something that is owned is written. -/
section
variable {C : Cx} {ops : List Oper} {k : List Item} {env : Env}
theorem J.regionDC (rd : List Nat) {l cl : List HProp} {id : Nat} (hm : C.P.follows .mixedOrders = true) (h : DL C ops rd cl ops.length (List.replicate ops.length false) k env l) : J C (.code (.region id ops.toArray true) :: k) env l := by
  refine ⟨fun hf a w he ho b cs hb hk => ?_⟩
  have hd : Own C.w0 { w with drawn := w.drawn + 1 } l := ho.same ((Below.refl _ _).drew)
  have h1 := wpC_any _ _ _ _ (h.go hf a _ he hd)
  obtain ⟨e, a', w', ⟨rfl, hq⟩, harr⟩ := wp_region_any (P := C.P) (id := id) (ops := ops.toArray) hm (by simpa using h1) b k cs
  obtain ⟨e, w2, fr, hR, hc, hfr, hl⟩ := hq b cs hb hk
  exact ⟨e, w2, fr, hR, .of_steps harr hc, hfr, hl⟩
theorem J.regionX0 (rd : List Nat) {a0 : HProp} {F : List HProp} {id : Nat} (hm : C.P.follows .mixedOrders = true) (h : DL C ops rd (F) ops.length (List.replicate ops.length false) k env (a0 :: F)) : J C (.code (.region id ops.toArray true) :: k) env (a0 :: F) := J.regionDC rd hm h
theorem J.regionX1 (rd : List Nat) {a0 a1 : HProp} {F : List HProp} {id : Nat} (hm : C.P.follows .mixedOrders = true) (h : DL C ops rd (a0 :: F) ops.length (List.replicate ops.length false) k env (a0 :: a1 :: F)) : J C (.code (.region id ops.toArray true) :: k) env (a0 :: a1 :: F) := J.regionDC rd hm h
theorem J.regionX2 (rd : List Nat) {a0 a1 a2 : HProp} {F : List HProp} {id : Nat} (hm : C.P.follows .mixedOrders = true) (h : DL C ops rd (a0 :: a1 :: F) ops.length (List.replicate ops.length false) k env (a0 :: a1 :: a2 :: F)) : J C (.code (.region id ops.toArray true) :: k) env (a0 :: a1 :: a2 :: F) := J.regionDC rd hm h
theorem J.regionX3 (rd : List Nat) {a0 a1 a2 a3 : HProp} {F : List HProp} {id : Nat} (hm : C.P.follows .mixedOrders = true) (h : DL C ops rd (a0 :: a1 :: a2 :: F) ops.length (List.replicate ops.length false) k env (a0 :: a1 :: a2 :: a3 :: F)) : J C (.code (.region id ops.toArray true) :: k) env (a0 :: a1 :: a2 :: a3 :: F) := J.regionDC rd hm h
theorem J.regionX4 (rd : List Nat) {a0 a1 a2 a3 a4 : HProp} {F : List HProp} {id : Nat} (hm : C.P.follows .mixedOrders = true) (h : DL C ops rd (a0 :: a1 :: a2 :: a3 :: F) ops.length (List.replicate ops.length false) k env (a0 :: a1 :: a2 :: a3 :: a4 :: F)) : J C (.code (.region id ops.toArray true) :: k) env (a0 :: a1 :: a2 :: a3 :: a4 :: F) := J.regionDC rd hm h
theorem J.regionX5 (rd : List Nat) {a0 a1 a2 a3 a4 a5 : HProp} {F : List HProp} {id : Nat} (hm : C.P.follows .mixedOrders = true) (h : DL C ops rd (a0 :: a1 :: a2 :: a3 :: a4 :: F) ops.length (List.replicate ops.length false) k env (a0 :: a1 :: a2 :: a3 :: a4 :: a5 :: F)) : J C (.code (.region id ops.toArray true) :: k) env (a0 :: a1 :: a2 :: a3 :: a4 :: a5 :: F) := J.regionDC rd hm h
theorem J.regionX6 (rd : List Nat) {a0 a1 a2 a3 a4 a5 a6 : HProp} {F : List HProp} {id : Nat} (hm : C.P.follows .mixedOrders = true) (h : DL C ops rd (a0 :: a1 :: a2 :: a3 :: a4 :: a5 :: F) ops.length (List.replicate ops.length false) k env (a0 :: a1 :: a2 :: a3 :: a4 :: a5 :: a6 :: F)) : J C (.code (.region id ops.toArray true) :: k) env (a0 :: a1 :: a2 :: a3 :: a4 :: a5 :: a6 :: F) := J.regionDC rd hm h
theorem J.regionX7 (rd : List Nat) {a0 a1 a2 a3 a4 a5 a6 a7 : HProp} {F : List HProp} {id : Nat} (hm : C.P.follows .mixedOrders = true) (h : DL C ops rd (a0 :: a1 :: a2 :: a3 :: a4 :: a5 :: a6 :: F) ops.length (List.replicate ops.length false) k env (a0 :: a1 :: a2 :: a3 :: a4 :: a5 :: a6 :: a7 :: F)) : J C (.code (.region id ops.toArray true) :: k) env (a0 :: a1 :: a2 :: a3 :: a4 :: a5 :: a6 :: a7 :: F) := J.regionDC rd hm h
theorem J.regionX8 (rd : List Nat) {a0 a1 a2 a3 a4 a5 a6 a7 a8 : HProp} {F : List HProp} {id : Nat} (hm : C.P.follows .mixedOrders = true) (h : DL C ops rd (a0 :: a1 :: a2 :: a3 :: a4 :: a5 :: a6 :: a7 :: F) ops.length (List.replicate ops.length false) k env (a0 :: a1 :: a2 :: a3 :: a4 :: a5 :: a6 :: a7 :: a8 :: F)) : J C (.code (.region id ops.toArray true) :: k) env (a0 :: a1 :: a2 :: a3 :: a4 :: a5 :: a6 :: a7 :: a8 :: F) := J.regionDC rd hm h
end
end Go.Gp
