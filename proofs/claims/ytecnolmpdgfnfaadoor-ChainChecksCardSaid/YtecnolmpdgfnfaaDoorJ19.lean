/- A text of the proof of a statement about the given program: its part J19. No person has read it. -/
import Derived.Test.YtecnolmpdgfnfaaDoorJ18
namespace Go.Gp
open Go Go.RowKit
theorem run_slice_nil {P : Program} {t e : TypeId} {sz by_ : Nat} (hs : Sl P t e sz by_) (w : World) {lo hi : Option Value} (hlo : lo = none ∨ ∃ k, lo = some (.int k 0)) (hhi : hi = none ∨ ∃ k, hi = some (.int k 0)) :
    (Instr.sliceAt t (.slice none 0 0) lo hi none).run P w = .ok (.slice none 0 0) w := by
  obtain ⟨i, hi1, hi2, _, _⟩ := hs.inf
  have hb : (Instr.sliceBounds true 0 0 lo hi none).run P w = .ok (0, 0, 0) w := run_sliceBounds (P := P) (isS := true) w (l := 0) (h := 0) (len := 0) (cap := 0)
    (by rcases hlo with h | ⟨k, h⟩; exact .inl ⟨h, rfl⟩; exact .inr ⟨k, h⟩) (by rcases hhi with h | ⟨k, h⟩; exact .inl ⟨h, rfl⟩; exact .inr ⟨k, h⟩) (Nat.le_refl _) (Nat.le_refl _)
  simp [Instr.sliceAt, run_underlying hs.und, Instr.slice, hb, run_sizeOf_info w hi1]
section
variable {P : Program} {env : Env} {dst : Option Tmp} {ty : TypeId} {pos : String} {after : Array Edge} {g : Option (Nat × Bool)}
theorem OpP.sliceNilTo {x hi : Operand} {k : IntKind} {t e sz by_ : Nat} {v : Int} [hs : Sl P t e sz by_] (hx : ev env x = some (.slice none 0 0)) (ehi : ev env hi = some (.int k v)) (h0 : v = 0) :
    OpP P ⟨dst, .slice t x none (some hi) none, ty, pos, after, g⟩ env (.slice none 0 0) := by
  subst h0
  refine ⟨fun ρ hr w => ?_⟩
  have hx' := hr x (by simp [Op.operands]) _ hx
  have e2 := hr hi (by simp [Op.operands]) _ ehi
  simp only [execOp, hx', Option.map_none, Option.map_some, e2, Sem.run_bind]
  rw [run_slice_nil hs w (.inl rfl) (.inr ⟨_, rfl⟩)]
  rfl
theorem OpP.sliceNilFrom {x lo : Operand} {k : IntKind} {t e sz by_ : Nat} {v : Int} [hs : Sl P t e sz by_] (hx : ev env x = some (.slice none 0 0)) (elo : ev env lo = some (.int k v)) (h0 : v = 0) :
    OpP P ⟨dst, .slice t x (some lo) none none, ty, pos, after, g⟩ env (.slice none 0 0) := by
  subst h0
  refine ⟨fun ρ hr w => ?_⟩
  have hx' := hr x (by simp [Op.operands]) _ hx
  have e2 := hr lo (by simp [Op.operands]) _ elo
  simp only [execOp, hx', Option.map_none, Option.map_some, e2, Sem.run_bind]
  rw [run_slice_nil hs w (.inr ⟨_, rfl⟩) (.inl rfl)]
  rfl
end
/-- Parts of an owned slice, read. -/
theorem RdO.ownTo {w0 : World} {l : List HProp} {e sz b p n c k c' : Nat} {xs : List Value} (hm : Has (Gp.own e sz (.slice (some ⟨b, p, none⟩) n c) n xs) l) (hc : k ≤ c') : RdO w0 l (.slice (some ⟨b, p, none⟩) k c') k (xs.take (k * sz)) :=
  fun _ _ => .inr ⟨b, p, c', rfl, hc, (Cells.own hm).take _⟩
theorem RdO.ownFrom {w0 : World} {l : List HProp} {e sz b p n c k : Nat} {xs : List Value} (hm : Has (Gp.own e sz (.slice (some ⟨b, p, none⟩) n c) n xs) l) (hk : k ≤ n) (hn : n ≤ c) (hx : xs.length = n * sz) :
    RdO w0 l (.slice (some ⟨b, if c = k then p else p + k * sz, none⟩) (n - k) (c - k)) (n - k) (xs.drop (k * sz)) := by
  intro w hw
  by_cases h : c = k
  · have : n = k := by omega
    subst this
    refine .inl ⟨some ⟨b, if c = n then p else p + n * sz, none⟩, c - n, by rw [Nat.sub_self], Nat.sub_self _, ?_⟩
    rw [List.drop_eq_nil_of_le (by omega)]
  · rw [if_neg h]
    exact .inr ⟨b, p + k * sz, c - k, rfl, by omega, (Cells.own hm).drop _⟩
theorem Own.ownZero {w0 w : World} {l : List HProp} {e sz c : Nat} {a : Option Addr} {xs : List Value} (hm : Has (Gp.own e sz (.slice a 0 c) 0 xs) l) (h : Own w0 w l) : (a = .none ∧ c = 0) ∨ ∃ g p, a = some ⟨g, p, .none⟩ := by
  obtain ⟨m, hp⟩ := Own.mem_front hm.mem
  rcases (h.perm hp).own_out with ⟨h1, _, _⟩ | ⟨g, pre, post, cap, h1, _⟩
  · cases h1; exact .inl ⟨rfl, rfl⟩
  · injection h1 with h1; exact .inr ⟨g, pre.length, h1⟩
/-- Whether a slice is nil. -/
theorem J.ownCases {C : Cx} {k : List Item} {env : Env} {l : List HProp} {e sz n c : Nat} {a : Option Addr} {xs : List Value} (hm : Has (Gp.own e sz (.slice a n c) n xs) l)
    (h1 : a = none → n = 0 → c = 0 → J C k env l) (h2 : ∀ g p, a = some ⟨g, p, .none⟩ → n ≤ c → J C k env l) : J C k env l := by
  refine ⟨fun hf act w he ho => ?_⟩
  obtain ⟨m, hp⟩ := Own.mem_front hm.mem
  rcases (ho.perm hp).own_out with ⟨q1, q2, _⟩ | ⟨g, pre, post, cap, q1, q2, _⟩
  · injection q1 with r1 r2 r3; exact (h1 r1 q2 r3).go hf act w he ho
  · injection q1 with r1 r2 r3; subst r3; exact (h2 g pre.length r1 q2).go hf act w he ho
end Go.Gp
