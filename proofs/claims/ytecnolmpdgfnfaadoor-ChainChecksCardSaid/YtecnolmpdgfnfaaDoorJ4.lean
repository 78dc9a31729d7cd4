/- A text of the proof of a statement about the given program: rows of cells: loads and stores. No person has read it. -/
import Derived.Test.YtecnolmpdgfnfaaDoorJ3
namespace Go.Gp
open Go Go.RowKit

/-! Memory. -/

/-- Block g is a row of these cells. -/
def row (g : Nat) (t : TypeId) (cs : List Value) : HProp := blk g (.cells cs.toArray t (0, 0))

def Cell (w0 : World) (l : List HProp) (ad : Addr) (v : Value) : Prop := ∀ w, Own w0 w l → w.cell? ad = some v
def Cells (w0 : World) (l : List HProp) (b o : Nat) (vs : List Value) : Prop := ∀ w, Own w0 w l → ∀ j v, vs[j]? = some v → w.cell? ⟨b, o + j, none⟩ = some v

section
variable {w0 : World} {l l' : List HProp} {g b o t : Nat} {cs vs : List Value} {v : Value}

theorem Cell.row (hm : Has (Gp.row g t cs) l) (hv : cs[o]? = some v) : Cell w0 l ⟨g, o, none⟩ v := by
  intro w ho
  obtain ⟨h, _⟩ := ho.blk_heap hm.mem
  rw [cell_of_row w g o _ t _ h]
  simpa using hv

theorem Cell.base {ad : Addr} (h : w0.cell? ad = some v) : Cell w0 l ad v := by
  intro w ho
  rw [ho.below.cell (World.block_lt_of_cell? w0 ad h)]
  exact h

theorem Cells.full (hm : Has (Gp.row g t cs) l) : Cells w0 l g 0 cs := by
  intro w ho j v hv
  rw [Nat.zero_add]
  exact Cell.row (w0 := w0) hm hv w ho

theorem Cells.sub (n : Nat) (hm : Has (Gp.row g t cs) l) (h : (cs.drop o).take n = vs) : Cells w0 l g o vs := by
  intro w ho j v hv
  refine Cell.row (w0 := w0) hm ?_ w ho
  rw [← h, List.getElem?_take] at hv
  split at hv
  · simpa using hv
  · cases hv

theorem Cells.base (h : ∀ j v, vs[j]? = some v → w0.cell? ⟨b, o + j, none⟩ = some v) : Cells w0 l b o vs := fun w ho j v hv => Cell.base (h j v hv) w ho
theorem Cells.nil : Cells w0 l b o [] := fun _ _ _ _ h => by simp at h
theorem Cells.at (h : Cells w0 l b o vs) (j : Nat) (hv : vs[j]? = some v) : Cell w0 l ⟨b, o + j, none⟩ v := fun w ho => h w ho j v hv
theorem Cells.drop (h : Cells w0 l b o vs) (k : Nat) : Cells w0 l b (o + k) (vs.drop k) := fun w ho j v hv => by
  rw [Nat.add_assoc]; exact h w ho (k + j) v (by simpa using hv)
theorem Cells.take (h : Cells w0 l b o vs) (k : Nat) : Cells w0 l b o (vs.take k) := fun w ho j v hv => by
  rw [List.getElem?_take] at hv
  split at hv
  · exact h w ho j v hv
  · cases hv
theorem Cells.conv (hl : ∀ w, Own w0 w l' → Own w0 w l) (h : Cells w0 l b o vs) : Cells w0 l' b o vs := fun w ho => h w (hl w ho)
theorem Cell.conv {ad : Addr} (hl : ∀ w, Own w0 w l' → Own w0 w l) (h : Cell w0 l ad v) : Cell w0 l' ad v := fun w ho => h w (hl w ho)
end

/-- vs put in from place o on. -/
inductive Spl : List Value → Nat → List Value → List Value → Prop where
  | nil {cs : List Value} : Spl cs 0 [] cs
  | here {c v : Value} {cs vs cs' : List Value} (h : Spl cs 0 vs cs') : Spl (c :: cs) 0 (v :: vs) (v :: cs')
  | there {c : Value} {cs vs cs' : List Value} {n : Nat} (h : Spl cs n vs cs') : Spl (c :: cs) (n + 1) vs (c :: cs')

theorem Spl.eq {cs vs cs' : List Value} {o : Nat} (h : Spl cs o vs cs') : o + vs.length ≤ cs.length ∧ cs' = cs.take o ++ vs ++ cs.drop (o + vs.length) := by
  induction h with
  | nil => simp
  | here _ ih => obtain ⟨h1, h2⟩ := ih; simp at h1 h2 ⊢; exact ⟨h1, h2⟩
  | there _ ih => obtain ⟨h1, h2⟩ := ih; simp at h1 ⊢; refine ⟨by omega, ?_⟩; rw [h2]; simp [Nat.add_right_comm]

theorem Spl.mk {cs vs : List Value} {o : Nat} (h : o + vs.length ≤ cs.length) : Spl cs o vs (cs.take o ++ vs ++ cs.drop (o + vs.length)) := by
  induction o generalizing cs with
  | zero =>
    induction vs generalizing cs with
    | nil => simp; exact .nil
    | cons v vs ih =>
      cases cs with
      | nil => simp at h
      | cons c cs => have := ih (cs := cs) (by simp at h; omega); simp at this; simpa using Spl.here this
  | succ o ih =>
    cases cs with
    | nil => simp at h
    | cons c cs =>
      have := ih (cs := cs) (by simp at h; omega)
      have e : o + 1 + vs.length = (o + vs.length) + 1 := by omega
      rw [e]
      simpa using Spl.there this

theorem Spl.length {cs vs cs' : List Value} {o : Nat} (h : Spl cs o vs cs') : cs'.length = cs.length := by
  obtain ⟨h1, h2⟩ := h.eq
  rw [h2]; simp; omega

section
variable {P : Program} {w0 : World} {env : Env} {l l' : List HProp} {dst : Option Tmp} {ty : TypeId} {pos : String} {after : Array Edge} {g : Option (Nat × Bool)}

theorem OpR.load1 {x : Operand} {t : TypeId} {ad : Addr} {v : Value} [One P t] (hx : ev env x = some (.pointer (some ad))) (hc : Cell w0 l ad v) : OpR P w0 ⟨dst, .load t x, ty, pos, after, g⟩ env l v := by
  refine ⟨?_⟩
  intro ρ hr w ho
  have := hr x (by simp [Op.operands]) _ hx
  simp [execOp, this, Instr.loadAt, Instr.sureAddr, loadVar, run_isAgg_one, run_load, hc w ho]

theorem OpR.loadN {x : Operand} {t n b o : Nat} {vs : List Value} [Agg P t n] (hx : ev env x = some (.pointer (some ⟨b, o, none⟩))) (hc : Cells w0 l b o vs) (hn : vs.length = n) : OpR P w0 ⟨dst, .load t x, ty, pos, after, g⟩ env l (.agg vs.toArray) := by
  refine ⟨?_⟩
  intro ρ hr w ho
  have := hr x (by simp [Op.operands]) _ hx
  have hl := run_loadCells_list (P := P) w ⟨b, o, none⟩ vs (fun j v hv => by rw [addr_add]; exact hc w ho j v hv)
  rw [hn] at hl
  simp [execOp, this, Instr.loadAt, Instr.sureAddr, loadVar, run_isAgg_agg, run_sizeOf_agg, hl]

theorem Own.setRow {w : World} {b t : Nat} {cs cs' : List Value} (hu : Upd (row b t cs) (row b t cs') l l') (ho : Own w0 w l) : Own w0 (w.setRow b cs'.toArray) l' := by
  obtain ⟨m, h1, h2⟩ := hu.perm
  have ho1 := ho.perm h1
  obtain ⟨hg, hb⟩ := ho1.sat.blk_heap
  refine Own.perm h2 (Own.write ho1 (below_setRow (Below.refl _ _) hb _) (fun k hk => setRow_other w b k _ hk) (setRow_heap w b _ _ t _ hg))

theorem OpM.store {x y : Operand} {t n b o bt : Nat} {v : Value} {vs cs cs' : List Value} (hx : ev env x = some (.pointer (some ⟨b, o, none⟩))) (hy : ev env y = some v) (hv : v.cells = vs.toArray) (hn : ∀ w, (sizeOf t).run P w = .ok n w) (hvn : vs.length = n)
    (h1 : ∀ u ∈ vs, u.oneCell' = true) (hs : Spl cs o vs cs') (hu : Upd (row b bt cs) (row b bt cs') l l') : OpM P w0 ⟨dst, .store t x y, ty, pos, after, g⟩ env l (fun u l'' => u = undef ∧ l'' = l') := by
  refine ⟨?_⟩
  intro ρ hr w ho
  have hx' := hr x (by simp [Op.operands]) _ hx
  have hy' := hr y (by simp [Op.operands]) _ hy
  obtain ⟨hheap, _⟩ := ho.blk_heap hu.mem
  obtain ⟨hle, hcs⟩ := hs.eq
  have hst := run_storeCells_at P b o bt vs 0 cs.toArray w hheap (by simpa using hle) h1
  simp only [Nat.add_zero] at hst
  rw [← hcs] at hst
  refine ⟨.skip, undef, w.setRow b cs'.toArray, l', ?_, .inr ⟨rfl, rfl⟩, ⟨rfl, rfl⟩, Own.setRow hu ho⟩
  simp [execOp, hx', hy', Instr.storeAt, Instr.sureAddr, storeVar, hv, hn, hvn, hst]

theorem OpM.store1 {x y : Operand} {t b o bt : Nat} {v : Value} {cs cs' : List Value} [One P t] (hx : ev env x = some (.pointer (some ⟨b, o, none⟩))) (hy : ev env y = some v) (h1 : v.oneCell' = true)
    (hs : Spl cs o [v] cs') (hu : Upd (row b bt cs) (row b bt cs') l l') : OpM P w0 ⟨dst, .store t x y, ty, pos, after, g⟩ env l (fun u l'' => u = undef ∧ l'' = l') :=
  OpM.store hx hy (vs := [v]) (by cases v <;> first | rfl | (simp [Value.oneCell'] at h1)) (fun w => run_sizeOf_one w) rfl (by simpa using h1) hs hu

theorem OpM.storeN {x y : Operand} {t n b o bt : Nat} {vs cs cs' : List Value} [Agg P t n] (hx : ev env x = some (.pointer (some ⟨b, o, none⟩))) (hy : ev env y = some (.agg vs.toArray)) (hvn : vs.length = n)
    (h1 : ∀ u ∈ vs, u.oneCell' = true) (hs : Spl cs o vs cs') (hu : Upd (row b bt cs) (row b bt cs') l l') : OpM P w0 ⟨dst, .store t x y, ty, pos, after, g⟩ env l (fun u l'' => u = undef ∧ l'' = l') :=
  OpM.store hx hy rfl (fun w => run_sizeOf_agg w) hvn h1 hs hu

theorem OpM.new {o : Oper} {t : TypeId} {cs : List Value} {val : Nat → Value} (h : ∀ ρ, Rds ρ env o.op.operands → ∀ w, Own w0 w l → ∃ w', (execOp ρ o).run P w = .ok (.value (val w.heap.size)) w' ∧ Below w.heap.size w w' ∧ w'.heap[w.heap.size]? = some (.cells cs.toArray t (0, 0))) :
    OpM P w0 o env l (fun u l'' => ∃ b, u = val b ∧ l'' = row b t cs :: l) := by
  refine ⟨?_⟩
  intro ρ hr w ho
  obtain ⟨w', h1, h2, h3⟩ := h ρ hr w ho
  exact ⟨_, _, w', _, h1, .inl rfl, ⟨w.heap.size, rfl, rfl⟩, Own.new ho h2 h3⟩

theorem below_new (w : World) (o : Obj) : Below w.heap.size w (w.alloc o) := (Below.refl _ _).alloc (Nat.le_refl _) o

theorem OpM.alloc {t : TypeId} {z : List Value} [hz : Zr P t z] : OpM P w0 ⟨dst, .alloc t, ty, pos, after, g⟩ env l (fun u l'' => ∃ b, u = .pointer (some ⟨b, 0, none⟩) ∧ l'' = row b t z :: l) := by
  refine OpM.new fun ρ hr w ho => ?_
  obtain ⟨v, hv, hc⟩ := run_zeroValue hz
  refine ⟨w.alloc (.cells v.cells t), ?_, below_new w _, by rw [heap_alloc_new, hc]⟩
  simp [execOp, Instr.alloc, hv, newVar, newRow]

theorem OpM.box {t : TypeId} {x : Operand} {v : Value} {cs : List Value} (hx : ev env x = some v) (hc : v.cells = cs.toArray) : OpM P w0 ⟨dst, .box t x, ty, pos, after, g⟩ env l (fun u l'' => ∃ b, u = .pointer (some ⟨b, 0, none⟩) ∧ l'' = row b t cs :: l) := by
  refine OpM.new fun ρ hr w ho => ?_
  have hx' := hr x (by simp [Op.operands]) _ hx
  refine ⟨w.alloc (.cells v.cells t), ?_, below_new w _, by rw [heap_alloc_new, hc]⟩
  simp [execOp, hx', Instr.box, newVar, newRow]
end

end Go.Gp
