/- A text of the proof of a statement about the given program: its part J18. No person has read it. -/
import Derived.Test.YtecnolmpdgfnfaaDoorJ17
namespace Go.Gp
open Go Go.RowKit
/-! Rows of whole numbers; slices that get shorter. -/
abbrev icells (l : List Int) : List Value := l.map (Value.int .i64)
theorem icells_one (l : List Int) : ∀ u ∈ icells l, u.oneCell' = true := by
  intro u hu
  obtain ⟨s, _, rfl⟩ := List.mem_map.1 hu
  rfl
theorem icells_get {xs : List Int} {i : Nat} {s : Int} (h : xs[i]? = some s) : (icells xs)[i]? = some (.int .i64 s) := by simp [icells, h]
theorem icells_length (xs : List Int) : (icells xs).length = xs.length := by simp [icells]
theorem icells_append (a b : List Int) : icells (a ++ b) = icells a ++ icells b := by simp [icells]
theorem Own.shrink {w0 w : World} {l : List HProp} {e sz n k c : Nat} {a : Option Addr} {xs : List Value} (hk : k ≤ n) (h : Own w0 w (own e sz (.slice a n c) n xs :: l)) : Own w0 w (own e sz (.slice a k c) k (xs.take (k * sz)) :: l) := by
  rcases h.own_out with ⟨h1, rfl, rfl⟩ | ⟨g, pre, post, cap, hv, q1, q2, q3, q4, ho⟩
  · have : k = 0 := by omega
    subst this
    simp only [List.take_nil]
    cases h1
    exact Own.own_nil h.tail
  · cases hv
    have e1 : pre ++ xs ++ post = pre ++ xs.take (k * sz) ++ (xs.drop (k * sz) ++ post) := by
      rw [List.append_assoc, List.append_assoc, ← List.append_assoc (xs.take _), List.take_append_drop]
    rw [e1] at ho
    have hks : k * sz ≤ n * sz := Nat.mul_le_mul_right _ hk
    refine Own.own_in (by omega) q2 (by rw [List.length_take]; omega) ?_ ho
    rw [List.length_append, List.length_drop, q3]
    have e2 := Nat.sub_mul c k sz
    have e3 := Nat.sub_mul c n sz
    have : n * sz ≤ c * sz := Nat.mul_le_mul_right _ q1
    omega
end Go.Gp
namespace Go.Gp
open Go Go.RowKit
section
variable {P : Program} {w0 : World} {env : Env} {F : List HProp} {dst : Option Tmp} {ty : TypeId} {pos : String} {after : Array Edge} {g : Option (Nat × Bool)}
theorem OpM.clearOwn {x : Operand} {tys : Array TypeId} {t e sz by_ b o p n c m c' k : Nat} {z xs : List Value} [hs : Sl P t e sz by_] [hz : Zr P e z] (htys : tys = #[t]) (hx : ev env x = some (.slice (some ⟨b, o, none⟩) m c')) (hzl : 0 < z.length) (hzs : z.length = sz) (h1 : ∀ u ∈ z, u.oneCell' = true)
    (ho : o = p + k * sz) (hk : k + m = n) :
    OpM P w0 ⟨dst, .call ⟨.builtin .clear, #[x], tys⟩, ty, pos, after, g⟩ env (own e sz (.slice (some ⟨b, p, none⟩) n c) n xs :: F) (fun r l'' => r = .tuple #[] ∧ l'' = own e sz (.slice (some ⟨b, p, none⟩) n c) n (xs.take (k * sz) ++ rep m z) :: F) := by
  refine ⟨fun ρ hr w hw => ?_⟩
  rcases hw.own_out with ⟨h, _, _⟩ | ⟨g', pre, post, cap, h, q1, q2, q3, q4, hw'⟩
  · cases h
  · injection h with h1' h2 h3
    injection h1' with h1'
    injection h1' with h1' h1''
    subst h1' h1'' h3
    have hkl : k * sz + m * sz = n * sz := by rw [← Nat.add_mul, hk]
    have hs2 : Spl xs (k * sz) (rep m z) (xs.take (k * sz) ++ rep m z) := by
      have hh := Spl.mk (cs := xs) (vs := rep m z) (o := k * sz) (by rw [rep_length, hzs]; omega)
      rw [List.drop_eq_nil_of_le (by rw [rep_length, hzs]; omega), List.append_nil] at hh
      exact hh
    have hs' : Spl (pre ++ xs ++ post) o (rep m z) (pre ++ (xs.take (k * sz) ++ rep m z) ++ post) := spl_mid ho hs2
    obtain ⟨nx, u, w', l', r1, r2, ⟨r3, r4⟩, r5⟩ := (OpM.clear (P := P) (w0 := w0) (dst := dst) (ty := ty) (pos := pos) (after := after) (g := g) htys hx hzl h1 hs' .head).run ρ hr w hw'
    subst r4
    exact ⟨nx, u, w', _, r1, r2, ⟨r3, rfl⟩, Own.own_in q1 q2 (by rw [List.length_append, rep_length, hzs, List.length_take]; omega) q4 r5⟩
end
/-- The shrunk slice of those that are kept. -/
theorem filter_take_succ' {α : Type} {q : α → Bool} {l : List α} {j : Nat} {f : α} (h : l[j]? = some f) : (l.take (j + 1)).filter q = (l.take j).filter q ++ (if q f then [f] else []) := by
  rw [List.take_add_one, h, List.filter_append]
  simp only [Option.toList_some, List.filter_cons, List.filter_nil]
end Go.Gp
namespace Go.Gp
open Go Go.RowKit
section
variable {P : Program} {env : Env} {dst : Option Tmp} {ty : TypeId} {pos : String} {after : Array Edge} {g : Option (Nat × Bool)}
theorem OpP.sliceToI {x hi : Operand} {k : IntKind} {t e sz by_ b o len cap : Nat} {v : Int} [hs : Sl P t e sz by_] (hx : ev env x = some (.slice (some ⟨b, o, none⟩) len cap)) (ehi : ev env hi = some (.int k v)) (h0 : 0 ≤ v) (h2 : v ≤ cap) :
    OpP P ⟨dst, .slice t x none (some hi) none, ty, pos, after, g⟩ env (.slice (some ⟨b, o, none⟩) v.toNat cap) := OpP.sliceTo v.toNat hx ehi (by omega) (by omega)
theorem OpP.sliceFromI {x lo : Operand} {k : IntKind} {t e sz by_ b o len cap : Nat} {v : Int} [hs : Sl P t e sz by_] (hx : ev env x = some (.slice (some ⟨b, o, none⟩) len cap)) (elo : ev env lo = some (.int k v)) (h0 : 0 ≤ v) (h1 : v ≤ len) (h2 : len ≤ cap) :
    OpP P ⟨dst, .slice t x (some lo) none none, ty, pos, after, g⟩ env (.slice (some ⟨b, if cap = v.toNat then o else o + v.toNat * sz, none⟩) (len - v.toNat) (cap - v.toNat)) := OpP.sliceFrom v.toNat hx elo (by omega) (by omega) h2
theorem OpP.sliceFTI {x lo hi : Operand} {k k' : IntKind} {t e sz by_ b o len cap : Nat} {v v' : Int} [hs : Sl P t e sz by_] (hx : ev env x = some (.slice (some ⟨b, o, none⟩) len cap)) (elo : ev env lo = some (.int k v)) (ehi : ev env hi = some (.int k' v')) (h0 : 0 ≤ v) (h1 : v ≤ v') (h2 : v' ≤ cap) :
    OpP P ⟨dst, .slice t x (some lo) (some hi) none, ty, pos, after, g⟩ env (.slice (some ⟨b, if cap = v.toNat then o else o + v.toNat * sz, none⟩) (v'.toNat - v.toNat) (cap - v.toNat)) := OpP.sliceFT v.toNat v'.toNat hx elo ehi (by omega) (by omega) (by omega) (by omega)
end
end Go.Gp
namespace Go.Gp
open Go Go.RowKit
theorem okWide_arr0 {P : Program} {w : World} {r : Reach} {base : Nat} {t : TypeId} {v : Value} {n : Nat} {e : TypeId} (ht : P.underlying t = some (.array n e)) (h : Value.okWide P w r base t v) : ∃ cs, v = .agg cs ∧ cs.size = P.cellsOf t := by
  simp only [Value.okWide, ht] at h
  obtain ⟨cs, h1, h2, _⟩ := h
  exact ⟨cs, h1, h2⟩
end Go.Gp
namespace Go.Gp
open Go Go.RowKit
section
variable {P : Program} {env : Env} {dst : Option Tmp} {ty : TypeId} {pos : String} {after : Array Edge} {g : Option (Nat × Bool)}
theorem OpP.addK {x y : Operand} {t u : TypeId} {k : IntKind} {a b : Int} (hx : ev env x = some (.int k a)) (hy : ev env y = some (.int k b)) (h1 : k.min ≤ a + b) (h2 : a + b ≤ k.max) : OpP P ⟨dst, .binOp .add t x y u, ty, pos, after, g⟩ env (.int k (a + b)) := (OpP.add hx hy).as (by rw [wrap_id h1 h2])
theorem OpP.subK {x y : Operand} {t u : TypeId} {k : IntKind} {a b : Int} (hx : ev env x = some (.int k a)) (hy : ev env y = some (.int k b)) (h1 : k.min ≤ a - b) (h2 : a - b ≤ k.max) : OpP P ⟨dst, .binOp .sub t x y u, ty, pos, after, g⟩ env (.int k (a - b)) := (OpP.sub hx hy).as (by rw [wrap_id h1 h2])
theorem OpP.mulK {x y : Operand} {t u : TypeId} {k : IntKind} {a b : Int} (hx : ev env x = some (.int k a)) (hy : ev env y = some (.int k b)) (h1 : k.min ≤ a * b) (h2 : a * b ≤ k.max) : OpP P ⟨dst, .binOp .mul t x y u, ty, pos, after, g⟩ env (.int k (a * b)) := (OpP.mul hx hy).as (by rw [wrap_id h1 h2])
end
end Go.Gp
namespace Go.Gp
open Go Go.RowKit
theorem Fm.ints {P : Program} {w : World} {t : TypeId} {v : Value} {e : TypeId} (ht : P.underlying t = some (.slice e)) (he : P.underlying e = some (.int .i64)) (hc : P.cellsOf e = 1) (h : Fm P w t [v]) :
    ∃ xs : List Int, xs.length ≤ maxLen ∧ Rd w [] v xs.length (icells xs) := by
  obtain ⟨xs, h1, h2, h3⟩ := Fm.rows (f := fun n : Int => [Value.int .i64 n]) (Q := fun _ => True) ht hc (by decide) h fun cs _ hf => by
    obtain ⟨s, rfl, _⟩ := hf.int he; exact ⟨s, trivial, rfl⟩
  have := h3 []
  rw [← List.map_eq_flatMap] at this
  exact ⟨xs, h2, this⟩
end Go.Gp
