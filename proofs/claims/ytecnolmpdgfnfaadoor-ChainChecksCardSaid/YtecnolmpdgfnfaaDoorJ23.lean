/- A text of the proof of a statement about the given program: its part J23. No person has read it. -/
import Derived.Test.YtecnolmpdgfnfaaDoorJ22
/-! Stores behind the told part of a row. -/
namespace Go.Gp
open Go

theorem spl_post {n k o : Nat} {f : Nat → Value} {post post' vs : List Value} (ho : o = n + k) (h : Spl post k vs post') : Spl (fc n f ++ post) o vs (fc n f ++ post') := by
  subst ho
  have e := fc_length n f
  generalize fc n f = xs at e ⊢
  induction xs generalizing n with
  | nil => subst e; simpa using h
  | cons x xs ih =>
    cases n with
    | zero => simp at e
    | succ n =>
      rw [show n + 1 + k = n + k + 1 by omega]
      exact .there (ih (by simpa using e))
/-- An owned slice from its k-th on. -/
theorem Own.fromK {w0 w : World} {l : List HProp} {e sz n k c b p : Nat} {xs : List Value} (hk : k ≤ n) (h : Own w0 w (own e sz (.slice (some ⟨b, p, .none⟩) n c) n xs :: l)) :
    Own w0 w (own e sz (.slice (some ⟨b, if c = k then p else p + k * sz, .none⟩) (n - k) (c - k)) (n - k) (xs.drop (k * sz)) :: l) := by
  rcases h.own_out with ⟨h1, _, _⟩ | ⟨g, pre, post, cap, hv, q1, q2, q3, q4, ho⟩
  · cases h1
  · cases hv
    have hks : k * sz ≤ n * sz := Nat.mul_le_mul_right _ hk
    have e1 := Nat.sub_mul n k sz
    have e2 := Nat.sub_mul c k sz
    have e3 := Nat.sub_mul c n sz
    have e4 : n * sz ≤ c * sz := Nat.mul_le_mul_right _ q1
    by_cases hc : c = k
    · have hn : n = k := by omega
      subst hn
      rw [if_pos hc, List.drop_of_length_le (by omega), Nat.sub_self, show c - n = 0 by omega]
      have e5 : pre ++ xs ++ post = pre ++ [] ++ (xs ++ post) := by simp
      rw [e5] at ho
      exact Own.own_in (Nat.le_refl _) (by simp [maxLen]) (by simp) (by simp) ho
    · rw [if_neg hc]
      have e5 : pre ++ xs ++ post = (pre ++ xs.take (k * sz)) ++ xs.drop (k * sz) ++ post := by
        rw [List.append_assoc pre (xs.take _) (xs.drop _), List.take_append_drop]
      rw [e5] at ho
      have e6 : pre.length + k * sz = (pre ++ xs.take (k * sz)).length := by rw [List.length_append, List.length_take]; omega
      rw [e6]
      exact Own.own_in (by omega) (by omega) (by rw [List.length_drop]; omega) (by rw [show c - k - (n - k) = c - n by omega]; exact q4) ho
end Go.Gp
