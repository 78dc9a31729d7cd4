/- A text of the proof of a statement about the given program: values that are built. No person has read it. -/
import Derived.Test.YtecnolmpdgfnfaaDoorJ4
import Derived.Laws.BytesArg
namespace Go.Gp
open Go Go.RowKit

/-! Values that are put together. -/

inductive Fills (place : Nat → Option (Nat × Nat)) : List Value → List (Nat × Value) → List Value → Prop where
  | nil {z : List Value} : Fills place z [] z
  | cons {z z' cs vs : List Value} {i off size : Nat} {v : Value} {rest : List (Nat × Value)} (hp : place i = some (off, size)) (hc : v.cells = vs.toArray) (hn : vs.length = size) (hs : Spl z off vs z') (h : Fills place z' rest cs) : Fills place z ((i, v) :: rest) cs

theorem foldl_set_spl (vs : List Value) : ∀ (z : Array Value) (off k : Nat), off + k + vs.length ≤ z.size →
    ((vs.zipIdx k).foldl (fun cs (x : Value × Nat) => cs.setIfInBounds (off + x.2) x.1) z).toList = z.toList.take (off + k) ++ vs ++ z.toList.drop (off + k + vs.length) := by
  induction vs with
  | nil => intro z off k _; simp
  | cons v vs ih =>
    intro z off k h
    simp only [List.zipIdx_cons, List.foldl_cons]
    rw [show off + k = off + k from rfl]
    have h' : off + (k + 1) + vs.length ≤ (z.setIfInBounds (off + k) v).size := by simp at h ⊢; omega
    rw [ih _ off (k + 1) h']
    simp only [Array.toList_setIfInBounds, List.length_cons] at h ⊢
    have hlt : off + k < z.toList.length := by simp at h ⊢; omega
    apply List.ext_getElem?
    intro j
    by_cases h1 : j < off + k
    · rw [List.append_assoc, List.append_assoc, List.getElem?_append_left (by simp; omega), List.getElem?_append_left (by simp; omega)]
      rw [List.getElem?_take, List.getElem?_take, if_pos (by omega), if_pos h1, List.getElem?_set_ne (by omega)]
    · by_cases h2 : j = off + k
      · subst h2
        rw [List.append_assoc, List.getElem?_append_left (by simp; omega)]
        rw [List.getElem?_take, if_pos (by omega)]
        rw [List.append_assoc, List.getElem?_append_right (by simp; omega)]
        simp at hlt
        simp [hlt, Nat.min_eq_left (Nat.le_of_lt hlt)]
      · by_cases h3 : j < off + k + 1 + vs.length
        · rw [List.append_assoc, List.getElem?_append_right (by simp; omega), List.getElem?_append_left (by simp; simp at hlt; omega)]
          rw [List.append_assoc, List.getElem?_append_right (by simp; omega), List.getElem?_append_left (by simp; simp at hlt; omega)]
          simp only [List.length_take, List.length_set]
          have e1 : j - min (off + (k + 1)) z.toList.length = j - (off + k) - 1 := by simp at hlt ⊢; omega
          have e2 : j - min (off + k) z.toList.length = (j - (off + k) - 1) + 1 := by simp at hlt ⊢; omega
          rw [e1, e2]; simp
        · rw [List.append_assoc, List.getElem?_append_right (by simp; omega), List.getElem?_append_right (by simp; simp at hlt; omega)]
          rw [List.append_assoc, List.getElem?_append_right (by simp; omega), List.getElem?_append_right (by simp; simp at hlt; omega)]
          simp only [List.length_take, List.length_set, List.getElem?_drop, List.length_cons]
          simp at hlt h
          rw [List.getElem?_set_ne (by omega)]
          congr 1
          simp; omega

theorem Fills.run {place : Nat → Option (Nat × Nat)} {z cs : List Value} {parts : List (Nat × Value)} (h : Fills place z parts cs) : Instr.fill place z.toArray parts = some cs.toArray := by
  induction h with
  | nil => rfl
  | cons hp hc hn hs _ ih =>
    rename_i z z' cs vs i off size v rest _
    obtain ⟨h1, h2⟩ := hs.eq
    unfold Instr.fill
    simp only [hp, hc]
    rw [if_neg (by simp; omega)]
    rw [← ih]
    congr 1
    apply Array.ext'
    have := foldl_set_spl vs z.toArray off 0 (by simp; omega)
    simp only [Nat.add_zero] at this
    rw [h2, ← this]
    simp only [← Array.foldl_toList, Array.toList_zipIdx]

def evp (env : Env) : List (Nat × Operand) → Option (List (Nat × Value))
  | [] => some []
  | (i, x) :: xs => match ev env x with
    | some v => (match evp env xs with
      | some vs => some ((i, v) :: vs)
      | none => none)
    | none => none

theorem evp_map {ρ : Operand → Value} {env : Env} : ∀ {xs : List (Nat × Operand)} {vs : List (Nat × Value)}, (∀ x ∈ xs, ∀ u, ev env x.2 = some u → ρ x.2 = u) → evp env xs = some vs → xs.map (fun (x : Nat × Operand) => (x.1, ρ x.2)) = vs
  | [], vs, _, h => by simp [evp] at h; subst h; rfl
  | (i, x) :: xs, vs, hr, h => by
    unfold evp at h
    split at h
    · rename_i v hv
      split at h
      · rename_i vs' hvs
        simp at h; subst h
        simp only [List.map_cons]
        rw [hr (i, x) (.head _) v hv, evp_map (fun y hy => hr y (.tail _ hy)) hvs]
      · cases h
    · cases h

def plcL (P : Program) (t : TypeId) : Option (List (Nat × Nat)) :=
  match P.underlying t with
  | some (.struct fs) => fs.toList.mapM fun fd => (P.info? fd.type).map fun i => (fd.offset, i.size)
  | _ => none

class Plc (P : Program) (t : TypeId) (pl : outParam (List (Nat × Nat))) : Prop where
  h : plcL P t = some pl

theorem mapM_places {P : Program} (w : World) : ∀ (fs : List Field) (pl : List (Nat × Nat)), (fs.mapM fun fd => (P.info? fd.type).map fun i => (fd.offset, i.size)) = some pl →
    (fs.mapM (m := Sem) fun f => do Pure.pure (f.offset, ← sizeOf f.type)).run P w = .ok pl w
  | [], pl, h => by simp at h; subst h; simp
  | f :: fs, pl, h => by
    simp only [List.mapM_cons, Option.pure_def, Option.bind_eq_bind] at h
    cases hi : P.info? f.type with
    | none => simp [hi] at h
    | some i =>
      simp only [hi, Option.map_some, Option.bind_some] at h
      cases hr : (fs.mapM fun fd => (P.info? fd.type).map fun i => (fd.offset, i.size)) with
      | none => simp [hr] at h
      | some pr =>
        simp [hr] at h
        subst h
        have ih := mapM_places (P := P) w fs pr hr
        simp only [List.mapM_cons, Sem.run_bind, run_sizeOf_info w hi, Result.andThen_ok, Sem.run_pure, ih]

theorem Plc.out {P : Program} {t : TypeId} {pl : List (Nat × Nat)} (h : Plc P t pl) : ∃ fs : Array Field, P.underlying t = some (.struct fs) ∧ ∀ w, (fs.mapM (m := Sem) fun f => do Pure.pure (f.offset, ← sizeOf f.type)).run P w = .ok pl.toArray w := by
  have h := h.h
  unfold plcL at h
  cases e : P.underlying t with
  | none => simp [e] at h
  | some d =>
    cases d <;> simp [e] at h
    case struct fs =>
      refine ⟨fs, rfl, fun w => ?_⟩
      have := mapM_places (P := P) w fs.toList pl h
      rw [show fs = fs.toList.toArray from rfl, List.mapM_toArray, Sem.run_map]
      rw [show (fs.toList.toArray.toList) = fs.toList from rfl] at *
      rw [this]
      rfl

section
variable {P : Program} {w0 : World} {env : Env} {l l' : List HProp} {dst : Option Tmp} {ty : TypeId} {pos : String} {after : Array Edge} {g : Option (Nat × Bool)}

theorem OpP.build {t : TypeId} {parts : List (Nat × Operand)} {ivs : List (Nat × Value)} {pl : List (Nat × Nat)} {z cs : List Value} [hp : Plc P t pl] [hz : Zr P t z] (he : evp env parts = some ivs) (hf : Fills (fun i => pl[i]?) z ivs cs) :
    OpP P ⟨dst, .build t parts.toArray, ty, pos, after, g⟩ env (.agg cs.toArray) := by
  refine ⟨?_⟩
  intro ρ hr w
  have hm := evp_map (ρ := ρ) (fun x hx => hr x.2 (by simp [Op.operands]; exact ⟨x.1, hx⟩)) he
  obtain ⟨fs, h1, h2⟩ := hp.out
  obtain ⟨v, hv, hc⟩ := run_zeroValue hz
  have hfill := hf.run
  have hm' : parts.toArray.map (fun (x : Nat × Operand) => (x.1, ρ x.2)) = ivs.toArray := by simp [hm]
  have hfill' : Instr.fill (fun x => pl.toArray[x]?) z.toArray ivs = some cs.toArray := by simpa using hfill
  simp only [execOp, Instr.build, hm', Sem.run_bind, hv, run_underlying h1, Result.andThen_ok, h2, hc, hfill', Sem.run_pure]

theorem OpP.buildA {t n e sz : Nat} {parts : List (Nat × Operand)} {ivs : List (Nat × Value)} {z cs : List Value} [ha : Ar P t n e sz] [hz : Zr P t z] (he : evp env parts = some ivs) (hf : Fills (fun i => some (i * sz, sz)) z ivs cs) :
    OpP P ⟨dst, .build t parts.toArray, ty, pos, after, g⟩ env (.agg cs.toArray) := by
  refine ⟨?_⟩
  intro ρ hr w
  have hm := evp_map (ρ := ρ) (fun x hx => hr x.2 (by simp [Op.operands]; exact ⟨x.1, hx⟩)) he
  obtain ⟨v, hv, hc⟩ := run_zeroValue hz
  obtain ⟨i, h2, h3, _⟩ := ha.inf
  have hfill := hf.run
  have hm' : parts.toArray.map (fun (x : Nat × Operand) => (x.1, ρ x.2)) = ivs.toArray := by simp [hm]
  simp only [execOp, Instr.build, hm', Sem.run_bind, hv, run_underlying ha.und, Result.andThen_ok, run_sizeOf_info w h2, h3, hc, hfill, Sem.run_pure]

def rep (n : Nat) (z : List Value) : List Value := (List.replicate n z).flatten

theorem rep_length (n : Nat) (z : List Value) : (rep n z).length = n * z.length := by simp [rep]
theorem rep_one (n : Nat) (v : Value) : rep n [v] = List.replicate n v := by
  induction n with
  | zero => rfl
  | succ n ih => simp only [rep, List.replicate_succ, List.flatten_cons] at ih ⊢; rw [ih]; rfl

theorem rep_get (z : List Value) (hz : 0 < z.length) : ∀ (n j : Nat), j < n * z.length → (rep n z)[j]? = z[j % z.length]?
  | 0, j, h => by simp at h
  | n + 1, j, h => by
    have hs : rep (n + 1) z = z ++ rep n z := by simp [rep, List.replicate_succ]
    rw [hs]
    by_cases hj : j < z.length
    · rw [List.getElem?_append_left hj, Nat.mod_eq_of_lt hj]
    · rw [List.getElem?_append_right (by omega), rep_get z hz n (j - z.length) (by rw [Nat.add_mul] at h; omega)]
      congr 1
      rw [← Nat.mod_eq_sub_mod (by omega)]

theorem madeCells_rep (z : List Value) (n : Nat) (hz : 0 < z.length) : (madeCells z.toArray (n * z.length)).toList = rep n z := by
  apply List.ext_getElem?
  intro j
  by_cases hj : j < n * z.length
  · rw [rep_get z hz n j hj]
    have hm : j % z.length < z.length := Nat.mod_lt _ hz
    simp [madeCells, hj, hm]
  · rw [List.getElem?_eq_none (by simp [madeCells]; omega), List.getElem?_eq_none (by rw [rep_length]; omega)]

theorem zeroCells_rep (z : List Value) (n : Nat) (hz : 0 < z.length) : (Builtin.zeroCells z.toArray n).toList = rep n z := by
  have := madeCells_rep z n hz
  simpa [Builtin.zeroCells, madeCells] using this

theorem OpM.buildSlice {t e sz by_ len : Nat} {parts : List (Nat × Operand)} {ivs : List (Nat × Value)} {z cs : List Value} [hs : Sl P t e sz by_] [hz : Zr P e z] (hzl : z.length = sz) (he : evp env parts = some ivs) (hlen : Nat.ble (len * sz) 16777216 = true)
    (hf : Fills (fun i => some (i * sz, sz)) (rep len z) ivs cs) :
    OpM P w0 ⟨dst, .buildSlice t len parts.toArray, ty, pos, after, g⟩ env l (fun u l'' => ∃ b, u = .slice (some ⟨b, 0, none⟩) len len ∧ l'' = row b e cs :: l) := by
  refine OpM.new (val := fun b => .slice (some ⟨b, 0, none⟩) len len) fun ρ hr w ho => ?_
  have hm := evp_map (ρ := ρ) (fun x hx => hr x.2 (by simp [Op.operands]; exact ⟨x.1, hx⟩)) he
  obtain ⟨v, hv, hc⟩ := run_zeroValue hz
  obtain ⟨i, h2, h3, _, h5⟩ := hs.inf
  have hm' : parts.toArray.map (fun (x : Nat × Operand) => (x.1, ρ x.2)) = ivs.toArray := by simp [hm]
  have hlen' : ¬ (16777216 < len * sz) := by have := Nat.le_of_ble_eq_true hlen; omega
  have hfill := hf.run
  have hmade : (madeCells z.toArray (len * sz)) = (rep len z).toArray := by
    apply Array.ext'
    have := madeCells_rep z len (by omega)
    rw [hzl] at this
    exact this
  refine ⟨w.alloc (.cells cs.toArray e), ?_, below_new w _, heap_alloc_new w _⟩
  by_cases h0 : len * sz = 0
  · have hl0 : len = 0 := by rcases Nat.mul_eq_zero.1 h0 with h | h <;> omega
    subst hl0
    have hfill0 : Instr.fill (fun i => some (i * sz, sz)) ((Array.range (0 * sz)).map ((#[] : Array Value)[· % (#[] : Array Value).size]!)) ivs = some cs.toArray := by simpa [rep, Array.range_zero'] using hfill
    simp only [execOp, Instr.buildSlice, hm', Sem.run_bind, run_underlying hs.und, Result.andThen_ok, run_sizeOf_info w h2, h3, Sem.run_ite, if_neg hlen', if_pos h0, Sem.run_pure, hfill0, newRow, run_newObj, World.alloc_eq]
  · have hfill' : Instr.fill (fun i => some (i * sz, sz)) ((Array.range (len * sz)).map (z.toArray[· % z.toArray.size]!)) ivs = some cs.toArray := by
      have := hmade; unfold madeCells at this; rw [this]; exact hfill
    simp only [execOp, Instr.buildSlice, hm', Sem.run_bind, run_underlying hs.und, Result.andThen_ok, run_sizeOf_info w h2, h3, Sem.run_ite, if_neg hlen', if_neg h0, hv, hc, Sem.run_pure, hfill', newRow, run_newObj, World.alloc_eq]

theorem OpM.make {t e sz by_ : Nat} {x y : Operand} {k k' : IntKind} {i : Int} {z : List Value} [hs : Sl P t e sz by_] [hz : Zr P e z] (hzl : z.length = sz) (hx : ev env x = some (.int k i)) (hy : ev env y = some (.int k' i)) (h0 : 0 ≤ i) (hb : (by_ : Int) * i ≤ 281474976710656) (h63 : i ≤ 9223372036854775807) :
    OpM P w0 ⟨dst, .makeSlice t x y, ty, pos, after, g⟩ env l (fun u l'' => ∃ b, u = .slice (some ⟨b, 0, none⟩) i.toNat i.toNat ∧ l'' = row b e (rep i.toNat z) :: l) := by
  refine OpM.new (val := fun b => .slice (some ⟨b, 0, none⟩) i.toNat i.toNat) fun ρ hr w ho => ?_
  have hx' := hr x (by simp [Op.operands]) _ hx
  have hy' := hr y (by simp [Op.operands]) _ hy
  obtain ⟨inf, v, hi, hzv, hc⟩ := hz.out
  obtain ⟨inf', h2, h3, h4, h5⟩ := hs.inf
  rw [hi] at h2; cases h2
  subst h4
  have hr' := run_make (P := P) w t e inf v hs.und hi hzv k k' i i h0 (Int.le_refl _) hb h63
  refine ⟨_, by simp only [execOp, hx', hy', Sem.run_bind, hr', Result.andThen_ok, Sem.run_pure]; rfl, below_new w _, ?_⟩
  rw [heap_alloc_new, hc, h3, ← hzl]
  congr 2
  apply Array.ext'
  exact madeCells_rep z _ (by omega)
end

end Go.Gp
