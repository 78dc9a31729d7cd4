/- A text of the proof of a statement about the given program: its part J15. No person has read it. -/
import Derived.Test.YtecnolmpdgfnfaaDoorJ14
namespace Go.Gp
open Go Go.RowKit
section
variable {P : Program} {w0 : World} {env : Env} {l l' : List HProp} {dst : Option Tmp} {ty : TypeId} {pos : String} {after : Array Edge} {g : Option (Nat × Bool)}

/-- An append that fits into its own row. -/
theorem OpM.appendFit {x y : Operand} {tys : Array TypeId} {t u e sz by_ b o n m cap : Nat} {xv : Value} {cs cs' news : List Value} [hs : Sl P t e sz by_]
    (htys : tys = #[t, u]) (hu : (∃ e2, P.underlying u = some (.slice e2)) ∨ P.underlying u = some .string)
    (hx : ev env x = some (.slice (some ⟨b, o, none⟩) n cap)) (hy : ev env y = some xv) (hsrc : Src P w0 l sz xv m news) (h1 : ∀ c ∈ news, c.oneCell' = true) (hroom : n + m ≤ cap)
    (hspl : Spl cs (o + n * sz) news cs') (hup : Upd (row b e cs) (row b e cs') l l') :
    OpM P w0 ⟨dst, .call ⟨.builtin .append, #[x, y], tys⟩, ty, pos, after, g⟩ env l (fun r l'' => r = .slice (some ⟨b, o, none⟩) (n + m) cap ∧ l'' = l') := by
  subst htys
  refine ⟨fun ρ hr w ho => ?_⟩
  have hx' := hr x (by simp [Op.operands, Call.operands]) _ hx
  have hy' := hr y (by simp [Op.operands, Call.operands]) _ hy
  obtain ⟨i, hi1, hi2, _, _⟩ := hs.inf
  obtain ⟨hheap, _⟩ := ho.blk_heap hup.mem
  obtain ⟨hle, hcs⟩ := hspl.eq
  have hst := run_storeCells_at P b (o + n * sz) e news 0 cs.toArray w hheap (by simpa using hle) h1
  simp only [Nat.add_zero] at hst
  rw [← hcs] at hst
  have hrun := run_append_fit (P := P) (ty := ty) w hs.und hu hi1 (hsrc.lenOf w ho) (by rw [hi2]; exact hsrc.first w ho) hroom (a := ⟨b, o, none⟩) (by rw [hi2, addr_add]; exact hst)
  refine ⟨_, _, w.setRow b cs'.toArray, l', ?_, .inl rfl, ⟨rfl, rfl⟩, Own.setRow hup ho⟩
  simp [execOp, resolve, hx', hy', invoke, builtin, hrun]

theorem OpP.slice3 {x : Operand} {lo hi mx : Operand} {k1 k2 k3 : IntKind} {t e sz by_ b o len cap l h m : Nat} [hs : Sl P t e sz by_] (hx : ev env x = some (.slice (some ⟨b, o, none⟩) len cap))
    (elo : ev env lo = some (.int k1 (l : Int))) (ehi : ev env hi = some (.int k2 (h : Int))) (emx : ev env mx = some (.int k3 (m : Int))) (h1 : l ≤ h) (h2 : h ≤ m) (h3 : m ≤ cap) :
    OpP P ⟨dst, .slice t x (some lo) (some hi) (some mx), ty, pos, after, g⟩ env (.slice (some ⟨b, if m = l then o else o + l * sz, none⟩) (h - l) (m - l)) := by
  refine ⟨?_⟩
  intro ρ hr w
  have hx' := hr x (by simp [Op.operands]) _ hx
  have e1 := hr lo (by simp [Op.operands]) _ elo
  have e2 := hr hi (by simp [Op.operands]) _ ehi
  have e3 := hr mx (by simp [Op.operands]) _ emx
  obtain ⟨i, hi1, hi2, _, _⟩ := hs.inf
  have hb : (Instr.sliceBounds true len cap (some (.int k1 (l : Int))) (some (.int k2 (h : Int))) (some (.int k3 (m : Int)))).run P w = .ok (l, h, m) w := by
    simp [Instr.sliceBounds, Instr.sliceBound, asIntOf, h1, h2, h3]
  simp only [execOp, hx', e1, e2, e3, Option.map_some, Instr.sliceAt, Sem.run_bind, run_underlying hs.und, Result.andThen_ok, Instr.slice, hb, run_sizeOf_info w hi1, hi2, Sem.run_pure]
  congr 3
  split
  · rfl
  · simp [addr_add]

theorem OpM.clear {x : Operand} {tys : Array TypeId} {t e sz by_ b o n c : Nat} {z cs cs' : List Value} [hs : Sl P t e sz by_] [hz : Zr P e z] (htys : tys = #[t]) (hx : ev env x = some (.slice (some ⟨b, o, none⟩) n c)) (hzl : 0 < z.length) (h1 : ∀ u ∈ z, u.oneCell' = true)
    (hspl : Spl cs o (rep n z) cs') (hup : Upd (row b e cs) (row b e cs') l l') :
    OpM P w0 ⟨dst, .call ⟨.builtin .clear, #[x], tys⟩, ty, pos, after, g⟩ env l (fun r l'' => r = .tuple #[] ∧ l'' = l') := by
  subst htys
  refine ⟨fun ρ hr w ho => ?_⟩
  have hx' := hr x (by simp [Op.operands, Call.operands]) _ hx
  obtain ⟨i, hi1, hi2, _, _⟩ := hs.inf
  obtain ⟨v, hv, hc⟩ := run_zeroValue hz
  obtain ⟨hheap, _⟩ := ho.blk_heap hup.mem
  obtain ⟨hle, hcs⟩ := hspl.eq
  cases n with
  | zero =>
    have e : cs' = cs := by rw [hcs]; simp [rep]
    subst e
    obtain ⟨m, p1, p2⟩ := hup.perm
    refine ⟨_, _, w, l', ?_, .inl rfl, ⟨rfl, rfl⟩, (ho.perm p1).perm p2⟩
    simp [execOp, resolve, hx', invoke, builtin, Builtin.clear_, run_underlying hs.und]
  | succ n =>
    have hone : ∀ u ∈ rep (n + 1) z, u.oneCell' = true := by
      intro u hu
      simp only [rep, List.mem_flatten, List.mem_replicate] at hu
      obtain ⟨y, ⟨_, rfl⟩, hu⟩ := hu
      exact h1 u hu
    have hst := run_storeCells_at P b o e (rep (n + 1) z) 0 cs.toArray w hheap (by simpa using hle) hone
    simp only [Nat.add_zero] at hst
    rw [← hcs] at hst
    refine ⟨_, _, w.setRow b cs'.toArray, l', ?_, .inl rfl, ⟨rfl, rfl⟩, Own.setRow hup ho⟩
    have hzr : (Builtin.zeroCells v.cells (n + 1)).toList = rep (n + 1) z := by rw [hc, zeroCells_rep z (n + 1) hzl]
    simp [execOp, resolve, hx', invoke, builtin, Builtin.clear_, run_underlying hs.und, hv, hzr, hst]
theorem OpP.negI {x : Operand} {t : TypeId} {a : Int} (hx : ev env x = some (.int .i64 a)) (h1 : -9223372036854775808 ≤ -a) (h2 : -a ≤ 9223372036854775807) : OpP P ⟨dst, .unOp .neg t x, ty, pos, after, g⟩ env (.int .i64 (-a)) :=
  (OpP.neg hx).as (by rw [wrap_id (k := .i64)] <;> simp [IntKind.min, IntKind.max, IntKind.signed, IntKind.bits] <;> omega)
theorem OpP.sliceTo {x hi : Operand} {k : IntKind} {t e sz by_ b o len cap : Nat} {v : Int} (h : Nat) [hs : Sl P t e sz by_] (hx : ev env x = some (.slice (some ⟨b, o, none⟩) len cap)) (ehi : ev env hi = some (.int k v)) (hv : v = h) (h2 : h ≤ cap) :
    OpP P ⟨dst, .slice t x none (some hi) none, ty, pos, after, g⟩ env (.slice (some ⟨b, o, none⟩) h cap) := by
  subst hv
  exact (OpP.slice (vlo := none) (vhi := some (.int k h)) (l := 0) (h := h) hx rfl (by simp [ehi]) (.inl ⟨rfl, rfl⟩) (.inr ⟨_, rfl⟩) (Nat.zero_le _) h2).as (by simp)
theorem OpP.sliceFrom {x lo : Operand} {k : IntKind} {t e sz by_ b o len cap : Nat} {v : Int} (l : Nat) [hs : Sl P t e sz by_] (hx : ev env x = some (.slice (some ⟨b, o, none⟩) len cap)) (elo : ev env lo = some (.int k v)) (hv : v = l) (h1 : l ≤ len) (h2 : len ≤ cap) :
    OpP P ⟨dst, .slice t x (some lo) none none, ty, pos, after, g⟩ env (.slice (some ⟨b, if cap = l then o else o + l * sz, none⟩) (len - l) (cap - l)) := by
  subst hv
  exact OpP.slice (vlo := some (.int k l)) (vhi := none) (l := l) (h := len) hx (by simp [elo]) rfl (.inr ⟨_, rfl⟩) (.inl ⟨rfl, rfl⟩) h1 h2
theorem OpP.sliceFT {x lo hi : Operand} {k k' : IntKind} {t e sz by_ b o len cap : Nat} {v v' : Int} (l h : Nat) [hs : Sl P t e sz by_] (hx : ev env x = some (.slice (some ⟨b, o, none⟩) len cap)) (elo : ev env lo = some (.int k v)) (ehi : ev env hi = some (.int k' v')) (hv : v = l) (hv' : v' = h) (h1 : l ≤ h) (h2 : h ≤ cap) :
    OpP P ⟨dst, .slice t x (some lo) (some hi) none, ty, pos, after, g⟩ env (.slice (some ⟨b, if cap = l then o else o + l * sz, none⟩) (h - l) (cap - l)) := by
  subst hv hv'
  exact OpP.slice (vlo := some (.int k l)) (vhi := some (.int k' h)) (l := l) (h := h) hx (by simp [elo]) (by simp [ehi]) (.inr ⟨_, rfl⟩) (.inr ⟨_, rfl⟩) h1 h2
end

theorem Sat.sublist {w : World} {l1 l2 : List HProp} (h : l2.Sublist l1) : ∀ {S : Nat → Prop}, Sat w l1 S → Sat w l2 S := by
  induction h with
  | slnil => exact fun h => h
  | cons a _ ih => exact fun h => ih h.tail
  | cons_cons a _ ih => exact fun h => h.cons_mono fun _ => ih

theorem Own.sublist {w0 w : World} {l1 l2 : List HProp} (hs : l2.Sublist l1) (h : Own w0 w l1) : Own w0 w l2 := ⟨h.below, h.sat.sublist hs⟩
theorem Own.litOf {w0 w : World} {l : List HProp} {e sz n : Nat} {v : Value} {xs : List Value} (hm : Has (own e sz v n xs) l) (h : Own w0 w l) : ∃ x : Option Addr × Nat, v = .slice x.1 n x.2 ∧ Own w0 w l := by
  obtain ⟨s, t, e⟩ := List.append_of_mem hm.mem
  have h2 := h
  rw [e] at h2
  obtain ⟨a, c, h3⟩ := (h2.perm List.perm_middle).own_lit
  exact ⟨(a, c), h3, h⟩

section
variable {C : Cx} {ops rest : List Oper} {rd : List Nat} {cl : List HProp} {fuel : Nat} {listed : List Bool} {k : List Item} {env : Env} {l : List HProp} {e sz n : Nat} {v : Value} {xs : List Value}
theorem J.lit (hm : Has (own e sz v n xs) l) (h : ∀ a c, v = .slice a n c → J C k env l) : J C k env l := J.open (fun _ ho => ho.litOf hm) fun x hx => h x.1 x.2 hx
theorem JL.lit (hm : Has (own e sz v n xs) l) (h : ∀ a c, v = .slice a n c → JL C ops rest k env l) : JL C ops rest k env l := JL.open (fun _ ho => ho.litOf hm) fun x hx => h x.1 x.2 hx
theorem DL.lit (hm : Has (own e sz v n xs) l) (h : ∀ a c, v = .slice a n c → DL C ops rd cl fuel listed k env l) : DL C ops rd cl fuel listed k env l := DL.open (fun _ ho => ho.litOf hm) fun x hx => h x.1 x.2 hx
end

theorem Own.head {w0 w : World} {A : HProp} {l : List HProp} (h : Own w0 w (A :: l)) : Own w0 w [A] := h.sublist ((List.nil_sublist l).cons_cons A)
theorem flatMap_sub {α β : Type _} {f : α → List β} {l2 l1 : List α} (hs : l2.Sublist l1) : (l2.flatMap f).Sublist (l1.flatMap f) := by
  induction hs with
  | slnil => exact List.Sublist.refl _
  | cons a _ ih => exact ih.trans (List.sublist_append_right _ _)
  | cons_cons a _ ih => exact (List.Sublist.refl _).append ih

/-- One rest for several ways: what it says is found where the first way ends. -/
theorem share {Q P : Prop} (f : P → Q) (h : P) : Q := f h

/-- What is left may be less. -/
theorem FnO.weak {P : Program} {w0 : World} {f : FuncId} {args : List Value} {l : List HProp} {R : Value → List HProp → Prop} (h : FnO P w0 f args l (fun v l' => ∃ l'', R v l'' ∧ ∀ w, Own w0 w l' → Own w0 w l'')) : FnO P w0 f args l R :=
  ⟨fun w hw => (h.calls w hw).mono fun _ _ ⟨v, _, he, ⟨l'', hR, hl⟩, ho⟩ => ⟨v, l'', he, hR, hl _ ho⟩⟩

theorem spl_tail {A T Z : List Value} {o : Nat} (ho : o = A.length) (h : Z.length = T.length) : Spl (A ++ T) o Z (A ++ Z) := by
  subst ho
  have := Spl.mk (cs := A ++ T) (vs := Z) (o := A.length) (by simp; omega)
  have e : List.take A.length (A ++ T) ++ Z ++ List.drop (A.length + Z.length) (A ++ T) = A ++ Z := by
    rw [List.take_left, List.drop_eq_nil_of_le (by simp; omega), List.append_nil]
  rw [e] at this
  exact this

/-- The elements behind one, put in its place: what is left behind is one element long. -/
theorem spl_erase {α : Type} {f : α → List Value} {n i : Nat} {xs : List α} (h : ∀ a ∈ xs, (f a).length = n) (hi : i < xs.length) :
    ∃ T, T.length = n ∧ Spl (xs.flatMap f) (i * n) ((xs.drop (i + 1)).flatMap f) ((xs.eraseIdx i).flatMap f ++ T) := by
  have hl := chunk_length h
  have hd : ((xs.drop (i + 1)).flatMap f).length = (xs.length - (i + 1)) * n := by
    rw [chunk_length (fun a ha => h a (List.mem_of_mem_drop ha)), List.length_drop]
  have hm : i * n + (xs.length - (i + 1)) * n + n = xs.length * n := by
    rw [← Nat.add_mul, ← Nat.succ_mul]
    congr 1
    omega
  have := Spl.mk (cs := xs.flatMap f) (vs := (xs.drop (i + 1)).flatMap f) (o := i * n) (by rw [hl, hd]; omega)
  rw [chunk_take h] at this
  refine ⟨List.drop (i * n + ((xs.drop (i + 1)).flatMap f).length) (xs.flatMap f), ?_, ?_⟩
  · rw [List.length_drop, hl, hd]
    omega
  · rw [List.eraseIdx_eq_take_drop_succ, List.flatMap_append]
    exact this
end Go.Gp
