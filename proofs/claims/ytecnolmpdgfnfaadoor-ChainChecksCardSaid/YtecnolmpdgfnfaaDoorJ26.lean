/- A text of the proof of a statement about the given program: its part J26. No person has read it. -/
import Derived.Test.YtecnolmpdgfnfaaDoorJ25
/-! Heads: a fingerprint, and a number; proofs: a head, and a slice. -/
namespace Go.Gp
open Go Go.RowKit

def hdC (h : List UInt8) (n : Int) : List Value := bcells h ++ [.int .i64 n]
theorem hdC_len {h : List UInt8} {n : Int} (hl : h.length = 32) : (hdC h n).length = 33 := by simp [hdC, bcells_length, hl]
theorem hdC_one {h : List UInt8} {n : Int} : ∀ u ∈ hdC h n, u.oneCell' = true := by
  intro u hu
  rcases List.mem_append.1 hu with hu | hu
  · exact bcells_one _ u hu
  · simp at hu; subst hu; rfl
section
variable {w0 : World} {l : List HProp} {g t : Nat} {h : List UInt8} {n : Int} {post : List Value}
theorem Cells.hd0 (hm : Has (row g t (hdC h n)) l) (hl : h.length = 32) : Cells w0 l g 0 (bcells h) := by
  refine Cells.sub 32 hm ?_
  rw [List.drop_zero, hdC, List.take_left' (by rw [bcells_length, hl])]
theorem Cell.hd1 (hm : Has (Gp.row g t (hdC h n)) l) (hl : h.length = 32) : Cell w0 l ⟨g, 32, none⟩ (.int .i64 n) := by
  refine Cell.row hm ?_
  rw [hdC, List.getElem?_append_right (by rw [bcells_length]; omega), bcells_length, hl]; rfl
theorem Cells.pf0 (hm : Has (row g t (hdC h n ++ post)) l) (hl : h.length = 32) : Cells w0 l g 0 (hdC h n) := by
  refine Cells.sub 33 hm ?_
  rw [List.drop_zero, List.take_left' (hdC_len hl)]
theorem Cells.pfH (hm : Has (row g t (hdC h n ++ post)) l) (hl : h.length = 32) : Cells w0 l g 0 (bcells h) := by
  refine Cells.sub 32 hm ?_
  rw [List.drop_zero, hdC, List.append_assoc, List.take_left' (by rw [bcells_length, hl])]
theorem Cell.pf1 (hm : Has (Gp.row g t (hdC h n ++ post)) l) (hl : h.length = 32) : Cell w0 l ⟨g, 32, none⟩ (.int .i64 n) := by
  refine Cell.row hm ?_
  rw [List.getElem?_append_left (by rw [hdC_len hl]; omega), hdC, List.getElem?_append_right (by rw [bcells_length]; omega), bcells_length, hl]; rfl
theorem Cell.pf2 {v : Value} (hm : Has (Gp.row g t (hdC h n ++ [v])) l) (hl : h.length = 32) : Cell w0 l ⟨g, 33, none⟩ v := by
  refine Cell.row hm ?_
  rw [List.getElem?_append_right (by rw [hdC_len hl]; omega), hdC_len hl]; rfl
end
section
variable {P : Program} {env : Env} {dst : Option Tmp} {ty : TypeId} {pos : String} {after : Array Edge} {g : Option (Nat × Bool)}
theorem OpP.buildHead {t : TypeId} {parts : List (Nat × Operand)} {h : List UInt8} {n : Int} {z : List Value} [hp : Plc P t [(0, 32), (32, 1)]] [hz : Zr P t z] (hzl : z.length = 33) (he : evp env parts = some [(0, .agg (bcells h).toArray), (1, .int .i64 n)]) (hl : h.length = 32) :
    OpP P ⟨dst, .build t parts.toArray, ty, pos, after, g⟩ env (.agg (hdC h n).toArray) := by
  refine OpP.build he ?_
  have h1 := Spl.mk (cs := z) (vs := bcells h) (o := 0) (by rw [bcells_length, hl]; omega)
  rw [List.take_zero, List.nil_append, Nat.zero_add, bcells_length, hl] at h1
  refine .cons rfl rfl (by rw [bcells_length, hl]) h1 (.cons (vs := [.int .i64 n]) rfl rfl rfl (?_ : Spl _ _ _ (hdC h n)) .nil)
  exact spl_tail (by rw [bcells_length, hl]) (by rw [List.length_drop, hzl]; rfl)
theorem OpP.buildProof {t : TypeId} {parts : List (Nat × Operand)} {h : List UInt8} {n : Int} {v : Value} {z : List Value} [hp : Plc P t [(0, 33), (33, 1)]] [hz : Zr P t z] (hzl : z.length = 34) (he : evp env parts = some [(0, .agg (hdC h n).toArray), (1, v)]) (hl : h.length = 32) (hv : v.cells = [v].toArray) :
    OpP P ⟨dst, .build t parts.toArray, ty, pos, after, g⟩ env (.agg (hdC h n ++ [v]).toArray) := by
  refine OpP.build he ?_
  have hh := hdC_len (n := n) hl
  have h1 := Spl.mk (cs := z) (vs := hdC h n) (o := 0) (by omega)
  rw [List.take_zero, List.nil_append, Nat.zero_add, hh] at h1
  refine .cons rfl rfl hh h1 (.cons (vs := [v]) rfl hv rfl (?_ : Spl _ _ _ (hdC h n ++ [v])) .nil)
  exact spl_tail hh.symm (by rw [List.length_drop, hzl]; rfl)
/-- The type of heads, as one that is compared. -/
class HeadT (P : Program) (t : TypeId) : Prop where
  h : ∀ (h : List UInt8) (n : Int), h.length = 32 → (Lit.int .i64 n).wf = true → P.keyLits 4 t (hdC h n) = some (blits h ++ [.int .i64 n])
theorem hd_lits {a b : List UInt8} {n m : Int} (h1 : a.length = 32) (h2 : b.length = 32) : blits a ++ [Lit.int .i64 n] = blits b ++ [Lit.int .i64 m] ↔ a = b ∧ n = m := by
  constructor
  · intro h
    have := List.append_inj h (by simp [blits, h1, h2])
    exact ⟨blits_inj.1 this.1, by simpa using this.2⟩
  · rintro ⟨rfl, rfl⟩; rfl
theorem OpP.eqHead {x y : Operand} {t u : TypeId} {m : Nat} [hk : KeyT P t m] [hh : HeadT P t] {a b : List UInt8} {i j : Int} (hx : ev env x = some (.agg (hdC a i).toArray)) (hy : ev env y = some (.agg (hdC b j).toArray)) (h1 : a.length = 32) (h2 : b.length = 32) (h3 : (Lit.int .i64 i).wf = true) (h4 : (Lit.int .i64 j).wf = true) :
    OpP P ⟨dst, .binOp .eql t x y u, ty, pos, after, g⟩ env (.bool (decide (a = b ∧ i = j))) :=
  OpP.eqLits hx hy (hh.h a i h1 h3) (hh.h b j h2 h4) (hd_lits h1 h2)
theorem OpP.neHead {x y : Operand} {t u : TypeId} {m : Nat} [hk : KeyT P t m] [hh : HeadT P t] {a b : List UInt8} {i j : Int} (hx : ev env x = some (.agg (hdC a i).toArray)) (hy : ev env y = some (.agg (hdC b j).toArray)) (h1 : a.length = 32) (h2 : b.length = 32) (h3 : (Lit.int .i64 i).wf = true) (h4 : (Lit.int .i64 j).wf = true) :
    OpP P ⟨dst, .binOp .neq t x y u, ty, pos, after, g⟩ env (.bool (decide ¬ (a = b ∧ i = j))) :=
  OpP.neLits hx hy (hh.h a i h1 h3) (hh.h b j h2 h4) (hd_lits h1 h2)
end
end Go.Gp
namespace Go.Gp
open Go Go.RowKit
theorem spl_hd0 {h h' : List UInt8} {n : Int} (h1 : h.length = 32) (h2 : h'.length = 32) : Spl (hdC h n) 0 (bcells h') (hdC h' n) := by
  have := Spl.mk (cs := hdC h n) (vs := bcells h') (o := 0) (by rw [hdC_len h1, bcells_length]; omega)
  rw [List.take_zero, List.nil_append, Nat.zero_add, bcells_length, h2, show (hdC h n).drop 32 = [.int .i64 n] from by rw [hdC, List.drop_left' (by rw [bcells_length, h1])]] at this
  exact this
theorem spl_hd1 {h : List UInt8} {n m : Int} (h1 : h.length = 32) : Spl (hdC h n) 32 [.int .i64 m] (hdC h m) := spl_tail (by rw [bcells_length, h1]) rfl
end Go.Gp
