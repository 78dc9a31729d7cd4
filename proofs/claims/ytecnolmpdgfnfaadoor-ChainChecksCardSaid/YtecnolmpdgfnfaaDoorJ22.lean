/- A text of the proof of a statement about the given program: its part J22. No person has read it. -/
import Derived.Test.YtecnolmpdgfnfaaDoorJ21
/-! Rows that a function tells: cell j holds f j. -/
namespace Go.Gp
open Go

def fc (n : Nat) (f : Nat → Value) : List Value := (List.range n).map f
def upd {α : Type} (f : Nat → α) (j : Nat) (v : α) : Nat → α := fun k => if k = j then v else f k
theorem fc_length (n : Nat) (f : Nat → Value) : (fc n f).length = n := by simp [fc]
theorem fc_get {n j : Nat} {f : Nat → Value} (h : j < n) : (fc n f)[j]? = some (f j) := by simp [fc, h]
theorem fc_congr {n : Nat} {f g : Nat → Value} (h : ∀ j, j < n → f j = g j) : fc n f = fc n g := by
  apply List.map_congr_left
  intro j hj
  exact h j (List.mem_range.1 hj)
theorem fc_set {n j : Nat} {f : Nat → Value} {v : Value} : (fc n f).set j v = fc n (upd f j v) := by
  apply List.ext_getElem?
  intro k
  by_cases hk : k < n
  · rw [fc_get hk, List.getElem?_set]
    by_cases hj : j = k
    · subst hj; simp [upd, fc_length, hk]
    · simp [hj, fc_get hk, upd, Ne.symm hj]
  · rw [List.getElem?_eq_none (by rw [List.length_set, fc_length]; omega), List.getElem?_eq_none (by rw [fc_length]; omega)]
theorem upd_w32 {V : Nat → BitVec 32} {j : Nat} {x : BitVec 32} : upd (fun k => w32 (V k)) j (w32 x) = fun k => w32 (upd V j x k) := by
  funext k; unfold upd; split <;> rfl
theorem spl_fc {n o j : Nat} {f : Nat → Value} {v : Value} (ho : o = j) (hj : j < n) : Spl (fc n f) o [v] (fc n (upd f j v)) := by
  rw [← fc_set]; exact spl_at ho (by rw [fc_length]; exact hj)
theorem spl_fcW {n o j : Nat} {V : Nat → BitVec 32} {x : BitVec 32} (ho : o = j) (hj : j < n) : Spl (fc n fun k => w32 (V k)) o [w32 x] (fc n fun k => w32 (upd V j x k)) := by
  rw [← upd_w32]; exact spl_fc ho hj
theorem spl_app {xs ys vs post : List Value} {o : Nat} (h : Spl xs o vs ys) : Spl (xs ++ post) o vs (ys ++ post) := by
  induction h with
  | nil => exact .nil
  | here h ih => exact .here ih
  | there h ih => exact .there ih
theorem cell_fc {w0 : World} {l : List HProp} {g t n o j : Nat} {f : Nat → Value} (hm : Has (row g t (fc n f)) l) (ho : o = j) (hj : j < n) : Cell w0 l ⟨g, o, none⟩ (f j) := by
  subst ho; exact Cell.row hm (fc_get hj)
theorem cell_fcP {w0 : World} {l : List HProp} {g t n o j : Nat} {f : Nat → Value} {post : List Value} (hm : Has (row g t (fc n f ++ post)) l) (ho : o = j) (hj : j < n) : Cell w0 l ⟨g, o, none⟩ (f j) := by
  subst ho; exact Cell.row hm (by rw [List.getElem?_append_left (by rw [fc_length]; exact hj)]; exact fc_get hj)
theorem cells_fcP {w0 : World} {l : List HProp} {g t n : Nat} {f : Nat → Value} {post : List Value} (hm : Has (row g t (fc n f ++ post)) l) : Cells w0 l g 0 (fc n f) := by
  have h := (Cells.full (w0 := w0) hm).take n
  rwa [List.take_left' (fc_length n f)] at h
theorem fc_one {n : Nat} {f : Nat → Value} (h : ∀ j, (f j).oneCell' = true) : ∀ u ∈ fc n f, u.oneCell' = true := by
  intro u hu
  obtain ⟨j, _, rfl⟩ := List.mem_map.1 hu
  exact h j
/-- What the world at the call holds from the beginning of a block on. -/
def Tab (w0 : World) (b n : Nat) (f : Nat → Value) : Prop := ∀ j, j < n → w0.cell? ⟨b, j, none⟩ = some (f j)
theorem Tab.cell {w0 : World} {l : List HProp} {b n j : Nat} {f : Nat → Value} (h : Tab w0 b n f) (hj : j < n) : Cell w0 l ⟨b, j, none⟩ (f j) := Cell.base (h j hj)
theorem fc_rep {n : Nat} {v : Value} {f : Nat → Value} (h : ∀ j, j < n → f j = v) : List.replicate n v = fc n f := by
  apply List.ext_getElem?
  intro k
  by_cases hk : k < n
  · rw [fc_get hk, h k hk, List.getElem?_replicate, if_pos hk]
  · rw [List.getElem?_eq_none (by rw [List.length_replicate]; omega), List.getElem?_eq_none (by rw [fc_length]; omega)]
section
variable {P : Program} {env : Env} {dst : Option Tmp} {ty : TypeId} {pos : String} {after : Array Edge} {g : Option (Nat × Bool)}
theorem OpP.indexAddrF {x i : Operand} {t e n b : Nat} {k : IntKind} {j : Int} [hs : Ar P t n e 1] (hx : ev env x = some (.pointer (some ⟨b, 0, none⟩))) (hi : ev env i = some (.int k j)) (h0 : 0 ≤ j) (h1 : j < n) :
    OpP P ⟨dst, .indexAddr t x i, ty, pos, after, g⟩ env (.pointer (some ⟨b, j.toNat, none⟩)) :=
  (OpP.indexAddrA hx hi h0 h1).as (by rw [Nat.zero_add, Nat.mul_one])
theorem OpP.indexAddrN {x i : Operand} {t e n b j : Nat} {k : IntKind} [hs : Ar P t n e 1] (hx : ev env x = some (.pointer (some ⟨b, 0, none⟩))) (hi : ev env i = some (.int k (j : Int))) (h1 : j < n) :
    OpP P ⟨dst, .indexAddr t x i, ty, pos, after, g⟩ env (.pointer (some ⟨b, j, none⟩)) :=
  OpP.indexAddrF hx hi (Int.natCast_nonneg _) (by omega)
theorem OpP.indexFc {x i : Operand} {t e n j : Nat} {k : IntKind} {f : Nat → Value} [hs : Ar P t n e 1] [One P e] (hx : ev env x = some (.agg (fc n f).toArray)) (hi : ev env i = some (.int k (j : Int))) (h1 : j < n) :
    OpP P ⟨dst, .index t x i, ty, pos, after, g⟩ env (f j) :=
  OpP.indexArr1 hx hi (Int.natCast_nonneg _) (by omega) (by rw [Int.toNat_natCast]; exact fc_get h1)
theorem OpP.wShlI {x y : Operand} {t u : TypeId} {k : IntKind} {a : BitVec 32} {n : Int} (hx : ev env x = some (w32 a)) (hy : ev env y = some (.int k n)) (h0 : 0 ≤ n) (h1 : n ≤ 32) : OpP P ⟨dst, .binOp .shl t x y u, ty, pos, after, g⟩ env (w32 (a <<< n.toNat)) := OpP.wShl n.toNat hx hy (by omega) (by omega)
theorem OpP.wShrI {x y : Operand} {t u : TypeId} {k : IntKind} {a : BitVec 32} {n : Int} (hx : ev env x = some (w32 a)) (hy : ev env y = some (.int k n)) (h0 : 0 ≤ n) (h1 : n ≤ 32) : OpP P ⟨dst, .binOp .shr t x y u, ty, pos, after, g⟩ env (w32 (a >>> n.toNat)) := OpP.wShr n.toNat hx hy (by omega) (by omega)
theorem and31 : ∀ a : Fin 32, (BitVec.ofInt 64 (18446744073709551616 - (a.val : Int)) &&& BitVec.ofInt 64 31).toNat = (32 - a.val) % 32 := by decide +kernel
theorem OpP.rotAnd {x y : Operand} {t u : TypeId} {a : Nat} (hx : ev env x = some (.int .u64 (IntKind.u64.wrap (-(a : Int))))) (hy : ev env y = some (.int .u64 31)) (h0 : 0 < a) (h1 : a < 32) : OpP P ⟨dst, .binOp .and t x y u, ty, pos, after, g⟩ env (.int .u64 (32 - (a : Int))) :=
  OpP.bits hx hy rfl fun w => by
    have e : IntKind.u64.wrap (-(a : Int)) = 18446744073709551616 - (a : Int) := by
      simp only [IntKind.wrap, IntKind.signed, IntKind.bits, Bool.false_and, Bool.false_eq_true, if_false]
      omega
    have h := and31 ⟨a, h1⟩
    have h : (BitVec.ofInt IntKind.u64.bits (18446744073709551616 - (a : Int)) &&& BitVec.ofInt IntKind.u64.bits 31).toNat = (32 - a) % 32 := h
    rw [e]
    simp only [Op.intBits, h]
    have e3 : IntKind.u64.wrap (((32 - a) % 32 : Nat) : Int) = 32 - (a : Int) := by
      simp only [IntKind.wrap, IntKind.signed, IntKind.bits, Bool.false_and, Bool.false_eq_true, if_false]
      omega
    rw [e3]; rfl
end
end Go.Gp
