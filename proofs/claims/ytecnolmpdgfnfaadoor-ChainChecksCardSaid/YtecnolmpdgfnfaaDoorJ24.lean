/- A text of the proof of a statement about the given program: its part J24. No person has read it. -/
import Derived.Test.YtecnolmpdgfnfaaDoorJ23
/-! Words as 32 truths, rows of such words; bytes' operations. -/
namespace Go.Gp
open Go

abbrev bitV (x : BitVec 32) : Nat → Value := fun j => .bool (x.getLsbD j)
/-- Words, one behind the other, each as 32 truths. -/
def fB (n : Nat) (U : Nat → BitVec 32) : List Value := (List.range n).flatMap fun j => fc 32 (bitV (U j))
theorem fB_length (n : Nat) (U : Nat → BitVec 32) : (fB n U).length = n * 32 := by
  rw [fB, chunk_length (n := 32) (fun a _ => fc_length _ _), List.length_range]
theorem fB_one {n : Nat} {U : Nat → BitVec 32} : ∀ u ∈ fB n U, u.oneCell' = true := by
  intro u hu
  obtain ⟨j, _, hj⟩ := List.mem_flatMap.1 hu
  exact fc_one (fun _ => rfl) u hj
theorem fB_congr {n : Nat} {U V : Nat → BitVec 32} (h : ∀ j, j < n → U j = V j) : fB n U = fB n V := by
  unfold fB
  rw [List.flatMap_def, List.flatMap_def]
  congr 1
  apply List.map_congr_left
  intro j hj
  rw [h j (List.mem_range.1 hj)]
theorem fB_succ (n : Nat) (U : Nat → BitVec 32) : fB (n + 1) U = fB n U ++ fc 32 (bitV (U n)) := by
  rw [fB, List.range_succ, List.flatMap_append, List.flatMap_singleton]; rfl
theorem Cells.fB {w0 : World} {l : List HProp} {g t n a : Nat} {U : Nat → BitVec 32} (hm : Has (row g t (Gp.fB n U)) l) (ha : a < n) : Cells w0 l g (0 + a * 32) (fc 32 (bitV (U a))) := by
  rw [Nat.zero_add]
  exact Cells.chunk (f := fun j => fc 32 (bitV (U j))) hm (fun _ _ => fc_length _ _) (by simp [ha])
theorem Cells.fBo {w0 : World} {l : List HProp} {b p n a : Nat} {U : Nat → BitVec 32} (hc : Cells w0 l b p (Gp.fB n U)) (ha : a < n) : Cells w0 l b (p + a * 32) (fc 32 (bitV (U a))) :=
  Cells.chunkAt (f := fun j => fc 32 (bitV (U j))) hc (fun _ _ => fc_length _ _) (by simp [ha])
theorem Cells.fB1 {w0 : World} {l : List HProp} {g t n a j : Nat} {U : Nat → BitVec 32} (hm : Has (row g t (Gp.fB n U)) l) (ha : a < n) (hj : j < 32) : Cell w0 l ⟨g, 0 + a * 32 + j * 1, none⟩ (bitV (U a) j) := by
  rw [Nat.mul_one]
  exact (Cells.fB hm ha).at j (fc_get hj)
theorem spl_fB {n a : Nat} {U : Nat → BitVec 32} {x : BitVec 32} (ha : a < n) : Spl (fB n U) (0 + a * 32) (fc 32 (bitV x)) (fB n (upd U a x)) := by
  rw [Nat.zero_add]
  have h := chunk_spl (f := fun x => fc 32 (bitV x)) (l := (List.range n).map U) (i := a) (a := x) (n := 32) (fun _ _ => fc_length _ _) (fc_length _ _) (by simpa using ha)
  have e : ∀ V : Nat → BitVec 32, ((List.range n).map V).flatMap (fun x => fc 32 (bitV x)) = fB n V := fun V => by rw [List.flatMap_map]; rfl
  have e2 : ((List.range n).map U).set a x = (List.range n).map (upd U a x) := by
    apply List.ext_getElem?
    intro k
    rw [List.getElem?_set]
    by_cases hk : a = k
    · subst hk; simp [upd, ha]
    · rw [if_neg hk]
      by_cases hn : k < n
      · simp [hn, upd, Ne.symm hk]
      · simp [hn]
  rw [e2, e, e] at h
  exact h
theorem fB_rep (n : Nat) : List.replicate (n * 32) (Value.bool false) = fB n fun _ => 0 := by
  have e : fc 32 (bitV 0) = List.replicate 32 (Value.bool false) := (fc_rep fun j _ => by simp [bitV]).symm
  induction n with
  | zero => rfl
  | succ n ih => rw [fB_succ, ← ih, e, Nat.add_mul, Nat.one_mul, List.replicate_append_replicate]
theorem fB8 {a0 a1 a2 a3 a4 a5 a6 a7 : BitVec 32} : fB 8 (fun j => [a0, a1, a2, a3, a4, a5, a6, a7].getD j 0) = fc 32 (bitV a0) ++ (fc 32 (bitV a1) ++ (fc 32 (bitV a2) ++ (fc 32 (bitV a3) ++ (fc 32 (bitV a4) ++ (fc 32 (bitV a5) ++ (fc 32 (bitV a6) ++ fc 32 (bitV a7))))))) := by
  show (List.range 8).flatMap _ = _
  rw [show List.range 8 = [0, 1, 2, 3, 4, 5, 6, 7] from rfl]
  simp only [List.flatMap_cons, List.flatMap_nil, List.append_nil]
  rfl
/-- The parts, one behind the other, put over what was there. -/
def chunkParts : Nat → List (List Value) → List (Nat × Value)
  | _, [] => []
  | k, l :: ls => (k, .agg l.toArray) :: chunkParts (k + 1) ls
theorem Fills.chunks {sz : Nat} : ∀ {ls : List (List Value)} {k : Nat} {pre post : List Value}, pre.length = k * sz → post.length = ls.length * sz → (∀ l ∈ ls, l.length = sz) → Fills (fun i => some (i * sz, sz)) (pre ++ post) (chunkParts k ls) (pre ++ ls.flatten)
  | [], k, pre, post, _, h2, _ => by
    simp at h2; subst h2; exact .nil
  | l :: ls, k, pre, post, h1, h2, h3 => by
    have hl := h3 l (by simp)
    have e2 : post.length = sz + ls.length * sz := by rw [h2, List.length_cons, Nat.add_mul]; omega
    have hs := Spl.mk (cs := pre ++ post) (vs := l) (o := k * sz) (by rw [List.length_append]; omega)
    rw [← h1, List.take_left, List.drop_append, List.drop_of_length_le (by omega), List.nil_append, show pre.length + l.length - pre.length = sz by omega] at hs
    refine .cons rfl rfl hl (h1 ▸ hs) ?_
    have := Fills.chunks (sz := sz) (ls := ls) (k := k + 1) (pre := pre ++ l) (post := post.drop sz) (by rw [List.length_append, Nat.add_mul]; omega) (by rw [List.length_drop]; omega) (fun x hx => h3 x (by simp [hx]))
    rw [List.flatten_cons]
    rw [List.append_assoc pre l ls.flatten] at this
    exact this
section
variable {P : Program} {w0 : World} {env : Env} {l l' : List HProp} {dst : Option Tmp} {ty : TypeId} {pos : String} {after : Array Edge} {g : Option (Nat × Bool)}
set_option maxRecDepth 4000 in
theorem OpP.buildB8 {t e : Nat} {parts : List (Nat × Operand)} {a0 a1 a2 a3 a4 a5 a6 a7 : BitVec 32} {z : List Value} [ha : Ar P t 8 e 32] [hz : Zr P t z] (hzl : z.length = 256) (he : evp env parts = some [(0, .agg (fc 32 (bitV a0)).toArray), (1, .agg (fc 32 (bitV a1)).toArray), (2, .agg (fc 32 (bitV a2)).toArray), (3, .agg (fc 32 (bitV a3)).toArray), (4, .agg (fc 32 (bitV a4)).toArray), (5, .agg (fc 32 (bitV a5)).toArray), (6, .agg (fc 32 (bitV a6)).toArray), (7, .agg (fc 32 (bitV a7)).toArray)]) :
    OpP P ⟨dst, .build t parts.toArray, ty, pos, after, g⟩ env (.agg (fB 8 fun j => [a0, a1, a2, a3, a4, a5, a6, a7].getD j 0).toArray) := by
  refine OpP.buildA he ?_
  have h := Fills.chunks (sz := 32) (ls := [fc 32 (bitV a0), fc 32 (bitV a1), fc 32 (bitV a2), fc 32 (bitV a3), fc 32 (bitV a4), fc 32 (bitV a5), fc 32 (bitV a6), fc 32 (bitV a7)]) (k := 0) (pre := []) (post := z) rfl hzl (by
    intro l hl
    simp only [List.mem_cons, List.not_mem_nil, or_false] at hl
    rcases hl with rfl | rfl | rfl | rfl | rfl | rfl | rfl | rfl <;> exact fc_length _ _)
  rw [fB8]
  simp only [List.flatten_cons, List.flatten_nil, List.append_nil, List.nil_append] at h
  exact h
theorem OpM.buildSlice1 {t e sz by_ : Nat} {x : Operand} {vs : List Value} {z : List Value} [hs : Sl P t e sz by_] [hz : Zr P e z] (hzl : z.length = sz) (hx : ev env x = some (.agg vs.toArray)) (hv : vs.length = sz) (hlen : Nat.ble (1 * sz) 16777216 = true) :
    OpM P w0 ⟨dst, .buildSlice t 1 [(0, x)].toArray, ty, pos, after, g⟩ env l (fun u l'' => ∃ b, u = .slice (some ⟨b, 0, none⟩) 1 1 ∧ l'' = row b e vs :: l) := by
  refine OpM.buildSlice (ivs := [(0, .agg vs.toArray)]) hzl (by simp [evp, hx]) hlen ?_
  have h := Fills.chunks (sz := sz) (ls := [vs]) (k := 0) (pre := []) (post := rep 1 z) (by simp) (by rw [rep_length, hzl]; rfl) (by simp [hv])
  simpa [chunkParts] using h
theorem OpP.shrI {x y : Operand} {t u : TypeId} {k k' : IntKind} {a n : Int} (hx : ev env x = some (.int k a)) (hy : ev env y = some (.int k' n)) (h0 : 0 ≤ n) (h1 : n ≤ k.bits) : OpP P ⟨dst, .binOp .shr t x y u, ty, pos, after, g⟩ env (.int k (a / 2 ^ n.toNat)) :=
  OpP.shift hx hy rfl fun w => by
    have e : Min.min n.toNat k.bits = n.toNat := Nat.min_eq_left (by omega)
    have e2 : Int.fdiv a (2 ^ n.toNat) = a / 2 ^ n.toNat := Int.fdiv_eq_ediv_of_nonneg _ (Int.le_of_lt (Int.pow_pos (by decide)))
    simp only [Op.shift, if_neg (show ¬ n < 0 from Int.not_lt.2 h0), e, e2]; rfl
theorem OpP.orU8 {x y : Operand} {t u : TypeId} {a : UInt8} {b : Int} (hx : ev env x = some (u8c a)) (hy : ev env y = some (.int .u8 b)) (h0 : 0 ≤ b) (h1 : b < 256) : OpP P ⟨dst, .binOp .or t x y u, ty, pos, after, g⟩ env (u8c (a ||| UInt8.ofNat b.toNat)) :=
  OpP.bits hx hy rfl fun w => by
    have e1 : BitVec.ofInt IntKind.u8.bits (a.toNat : Int) = a.toBitVec := by
      show BitVec.ofInt 8 (a.toNat : Int) = _
      rw [BitVec.ofInt_natCast]
      exact BitVec.ofNat_toNat ..
    have e2 : BitVec.ofInt IntKind.u8.bits b = (UInt8.ofNat b.toNat).toBitVec := by
      show BitVec.ofInt 8 b = _
      obtain ⟨n, rfl⟩ := Int.eq_ofNat_of_zero_le h0
      rw [BitVec.ofInt_natCast]
      rfl
    simp only [Op.intBits, e1, e2]
    generalize hc : a ||| UInt8.ofNat b.toNat = c
    have e6 := c.toNat_lt
    have e5 : IntKind.u8.wrap (c.toNat : Int) = (c.toNat : Int) := wrap_id (k := .u8) (by simp [IntKind.min, IntKind.signed]) (by simp [IntKind.max, IntKind.signed, IntKind.bits]; omega)
    have key : ∀ d : BitVec IntKind.u8.bits, d.toNat = c.toNat → (Pure.pure (Value.int .u8 (IntKind.u8.wrap (d.toNat : Int))) : Sem Value).run P w = .ok (u8c c) w := fun d hd => by rw [hd, e5]; rfl
    exact key _ (by rw [← hc]; rfl)
end
end Go.Gp
namespace Go.Gp
open Go
section
variable {P : Program} {env : Env} {dst : Option Tmp} {ty : TypeId} {pos : String} {after : Array Edge} {g : Option (Nat × Bool)}
theorem OpP.shrN {x y : Operand} {t u : TypeId} {k k' : IntKind} {a : Nat} {n : Int} (hx : ev env x = some (.int k (a : Int))) (hy : ev env y = some (.int k' n)) (h0 : 0 ≤ n) (h1 : n ≤ k.bits) : OpP P ⟨dst, .binOp .shr t x y u, ty, pos, after, g⟩ env (.int k ((a / 2 ^ n.toNat : Nat) : Int)) :=
  (OpP.shrI hx hy h0 h1).as (by
    have h : (2 : Int) ^ n.toNat = ((2 ^ n.toNat : Nat) : Int) := by rw [Int.natCast_pow]; rfl
    rw [h, Int.natCast_ediv])
end
end Go.Gp
namespace Go.Gp
open Go Go.RowKit
section
variable {C : Cx} {ops : List Oper} {rd : List Nat} {cl : List HProp} {fuel : Nat} {listed : List Bool} {k : List Item} {env : Env} {l : List HProp} {R : Value → List HProp → Prop}
variable {op : Op} {ty : TypeId} {pos : String} {after : Array Edge} {g : Option (Nat × Bool)}
theorem DL1.stepK0 {i : Nat} (ho : ops[i]? = some ⟨none, op, ty, pos, after, g⟩) (hg : Gd ops env g = some true)
    (hop : OpW C.P C.w0 ⟨none, op, ty, pos, after, g⟩ env l R) (hk : ∀ v l', R v l' → ∀ w, Own C.w0 w l' → Own C.w0 w cl) (h : ∀ v l', R v l' → DL C ops rd cl fuel (listed.set i true) k env l') : DL1 C ops rd cl fuel listed i k env l := by
  refine ⟨fun hf a w he how => ?_⟩
  have hi : ops.toArray[i]? = some ⟨none, op, ty, pos, after, g⟩ := by simpa using ho
  unfold wpOp
  simp only [hi]
  rw [Gd.wanted (o := ⟨none, op, ty, pos, after, g⟩) he hg, if_pos rfl]
  exact .inl (hop.run a (he.rds _) w how _ _ fun v w' l' hR ho' => ⟨.inr fun _ => hk v l' hR w' ho', (h v l' hR).go hf _ w' (he.put (d := none) rfl v) ho'⟩)
end
end Go.Gp
namespace Go.Gp
open Go Go.RowKit
section
variable {P : Program} {w0 : World} {env : Env} {l l' : List HProp} {dst : Option Tmp} {ty : TypeId} {pos : String} {after : Array Edge} {g : Option (Nat × Bool)}
/-- copy into a row: all of what is copied. -/
theorem OpM.copyAll {x y : Operand} {tys : Array TypeId} {t u e sz by_ b o len cap : Nat} {xv : Value} {m : Nat} {cs cs' news : List Value} [hs : Sl P t e sz by_] (htys : tys = #[t, u]) (hx : ev env x = some (.slice (some ⟨b, o, none⟩) len cap)) (hy : ev env y = some xv)
    (hsrc : Src P w0 l sz xv m news) (hm : m ≤ len) (hlit : ∃ a c, xv = .slice a m c) (h1 : ∀ c ∈ news, c.oneCell' = true)
    (hspl : Spl cs o news cs') (hu : Upd (row b e cs) (row b e cs') l l') :
    OpM P w0 ⟨dst, .call ⟨.builtin .copy, #[x, y], tys⟩, ty, pos, after, g⟩ env l (fun r l'' => r = .int .i64 (m : Nat) ∧ l'' = l') := by
  obtain ⟨a, c, rfl⟩ := hlit
  have h := OpM.copy (P := P) (w0 := w0) (dst := dst) (ty := ty) (pos := pos) (after := after) (g := g) htys hx hy (m := m) (cs := cs) (cs' := cs') (news := news) (fun w => by simp [Builtin.lenOf]) (fun w hw => by
    rw [show Nat.min m len = m from Nat.min_eq_left hm]; exact hsrc.first w hw) h1 hspl hu
  rwa [show Nat.min m len = m from Nat.min_eq_left hm] at h
end
theorem bcells_set (L : List UInt8) (j : Nat) (b : UInt8) : (bcells L).set j (u8c b) = bcells (L.set j b) := by simp [bcells]
theorem bcells_rep (n : Nat) (b : UInt8) : bcells (List.replicate n b) = List.replicate n (u8c b) := by simp [bcells]
end Go.Gp
