/- A text of the proof of a statement about the given program: its part J25. No person has read it. -/
import Derived.Test.YtecnolmpdgfnfaaDoorJ24
import Derived.DeepKeys
/-! Arrays and structures that are compared. -/
namespace Go.Gp
open Go Go.RowKit

/-- The type, as one that is compared cell by cell. -/
class KeyT (P : Program) (t : TypeId) (m : outParam Nat) : Prop where
  h : P.keyTypeAt m t = true
  hm : m ≤ 10000
  hg : P.eqGuardType P.depth t = false
  wide : (match P.underlying t with | some (.array _ _) | some (.struct _) => true | _ => false) = true

theorem formed_of_lits {P : Program} {t : TypeId} {D : Nat} {cs : List Value} {la : List Lit} (hw : (match P.underlying t with | some (.array _ _) | some (.struct _) => true | _ => false) = true) (h : P.keyLits D t cs = some la) : (Value.agg cs.toArray).formed P t = true := by
  cases D with
  | zero => simp [Program.keyLits] at h
  | succ D =>
    unfold Program.keyLits at h
    unfold Value.formed
    cases hu : P.underlying t with
    | none => simp [hu] at h
    | some d =>
      cases d <;> simp [hu] at hw h ⊢
      case array n e =>
        exact h.1
      case struct fs => exact h.1.1

section
variable {P : Program} {env : Env} {dst : Option Tmp} {ty : TypeId} {pos : String} {after : Array Edge} {g : Option (Nat × Bool)}
theorem OpP.eqGenA {op : BinOp} {x y : Operand} {t u : TypeId} {m : Nat} [hk : KeyT P t m] {xs ys : Array Value} {v : Value} (hx : ev env x = some (.agg xs)) (hy : ev env y = some (.agg ys))
    (hrun : ∀ w, (binOp op t (.agg xs) (.agg ys)).run P w = .ok v w) : OpP P ⟨dst, .binOp op t x y u, ty, pos, after, g⟩ env v := by
  refine ⟨?_⟩
  intro ρ hr w
  have hx' := hr x (by simp [Op.operands]) _ hx
  have hy' := hr y (by simp [Op.operands]) _ hy
  simp only [execOp, hx', hy', Sem.run_bind, run_eqGuard_agg w op t x y xs ys hk.hg, Result.andThen_ok, hrun, Sem.run_pure]
theorem run_eq_lits {t : TypeId} {m D D' : Nat} (hk : KeyT P t m) {cs ds : List Value} {la lb : List Lit} {p : Prop} [Decidable p] (ha : P.keyLits D t cs = some la) (hb : P.keyLits D' t ds = some lb) (hp : la = lb ↔ p) (w : World) :
    (Op.equalIn 10000 t (.agg cs.toArray) (.agg ds.toArray)).run P w = .ok (decide p) w := by
  have := hk.hm
  obtain ⟨r, hr, hiff⟩ := run_equalIn_deep (10000 - m) m t hk.h w D D' (.agg cs.toArray) (.agg ds.toArray) la lb (formed_of_lits hk.wide ha) (formed_of_lits hk.wide hb) (by simpa [Value.cells] using ha) (by simpa [Value.cells] using hb)
  rw [show 10000 - m + m = 10000 by omega] at hr
  rw [hr]
  congr 1
  cases r with
  | true => exact (decide_eq_true (hp.1 (hiff.1 rfl))).symm
  | false => exact (decide_eq_false fun e => by cases hiff.2 (hp.2 e)).symm
theorem OpP.eqLits {x y : Operand} {t u : TypeId} {m D D' : Nat} [hk : KeyT P t m] {cs ds : List Value} {la lb : List Lit} {p : Prop} [Decidable p] (hx : ev env x = some (.agg cs.toArray)) (hy : ev env y = some (.agg ds.toArray)) (ha : P.keyLits D t cs = some la) (hb : P.keyLits D' t ds = some lb) (hp : la = lb ↔ p) :
    OpP P ⟨dst, .binOp .eql t x y u, ty, pos, after, g⟩ env (.bool (decide p)) :=
  OpP.eqGenA hx hy fun w => by rw [run_eql_struct, run_eq_lits hk ha hb hp]; rfl
theorem OpP.neLits {x y : Operand} {t u : TypeId} {m D D' : Nat} [hk : KeyT P t m] {cs ds : List Value} {la lb : List Lit} {p : Prop} [Decidable p] (hx : ev env x = some (.agg cs.toArray)) (hy : ev env y = some (.agg ds.toArray)) (ha : P.keyLits D t cs = some la) (hb : P.keyLits D' t ds = some lb) (hp : la = lb ↔ p) :
    OpP P ⟨dst, .binOp .neq t x y u, ty, pos, after, g⟩ env (.bool (decide ¬ p)) :=
  OpP.eqGenA hx hy fun w => by
    rw [run_neq_struct, run_eq_lits hk ha hb hp]
    show Result.ok (Value.bool (!decide p)) w = _
    rw [decide_not]
end

/-! Bytes in an array. -/
def blits (a : List UInt8) : List Lit := a.map fun b => .int .u8 (b.toNat : Int)
theorem blits_inj {a b : List UInt8} : blits a = blits b ↔ a = b := by
  constructor
  · intro h
    induction a generalizing b with
    | nil => cases b with
      | nil => rfl
      | cons y b => simp [blits] at h
    | cons x a ih =>
      cases b with
      | nil => simp [blits] at h
      | cons y b =>
        simp only [blits, List.map_cons, List.cons.injEq, Lit.int.injEq, true_and] at h
        have h1 : x = y := UInt8.toNat_inj.1 (by omega)
        rw [h1, ih h.2]
  · rintro rfl; rfl
theorem u8_wf (b : UInt8) : (Lit.int .u8 (b.toNat : Int)).wf = true := by
  have := b.toNat_lt
  simp [Lit.wf, IntKind.min, IntKind.max, IntKind.signed, IntKind.bits]
  omega
theorem mapM_lits {α β : Type} {f : α → Option β} {h : α → β} : ∀ {l : List α}, (∀ a ∈ l, f a = some (h a)) → l.mapM f = some (l.map h)
  | [], _ => rfl
  | a :: l, hf => by
    rw [List.mapM_cons, hf a (by simp), mapM_lits (l := l) (h := h) fun b hb => hf b (by simp [hb])]; rfl
theorem blits_keys {P : Program} {t e : TypeId} {n : Nat} (ht : P.underlying t = some (.array n e)) (he : P.underlying e = some (.int .u8)) (hct : P.cellsOf t = n) (hce : P.cellsOf e = 1) (D : Nat) {a : List UInt8} (ha : a.length = n) : P.keyLits (D + 2) t (bcells a) = some (blits a) := by
  unfold Program.keyLits
  rw [ht]
  simp only
  rw [if_pos (by rw [bcells_length, hct, ha])]
  have hm : ((List.range n).mapM fun i => P.keyLits (D + 1) e (((bcells a).drop (i * P.cellsOf e)).take (P.cellsOf e))) = some ((List.range n).map fun i => [Lit.int .u8 ((a.getD i 0).toNat : Int)]) := by
    refine mapM_lits fun i hi => ?_
    have hi := List.mem_range.1 hi
    rw [hce, Nat.mul_one]
    have e1 : ((bcells a).drop i).take 1 = [u8c (a.getD i 0)] := by
      rw [List.drop_eq_getElem_cons (by rw [bcells_length]; omega)]
      simp [bcells, List.getD, List.getElem?_eq_getElem (show i < a.length by omega)]
    rw [e1]
    unfold Program.keyLits
    rw [he]
    simp only [u8c]
    simp [u8_wf]
  rw [hm, Option.map_some]
  congr 1
  subst ha
  apply List.ext_getElem?
  intro k
  have : (List.map (fun i => [Lit.int IntKind.u8 ((a.getD i 0).toNat : Int)]) (List.range a.length)).flatten = (List.range a.length).map fun i => Lit.int IntKind.u8 ((a.getD i 0).toNat : Int) := by
    generalize List.range a.length = l
    induction l with
    | nil => rfl
    | cons x l ih => rw [List.map_cons, List.flatten_cons, ih]; rfl
  rw [this]
  by_cases hk : k < a.length
  · simp [blits, hk, List.getD]
  · simp [blits, hk]
end Go.Gp
namespace Go.Gp
open Go Go.RowKit
class BytesA (P : Program) (t : TypeId) (n : outParam Nat) : Prop where
  h : ∃ e, P.underlying t = some (.array n e) ∧ P.underlying e = some (.int .u8) ∧ P.cellsOf t = n ∧ P.cellsOf e = 1
theorem BytesA.keys {P : Program} {t n : Nat} (h : BytesA P t n) (D : Nat) {a : List UInt8} (ha : a.length = n) : P.keyLits (D + 2) t (bcells a) = some (blits a) := by
  obtain ⟨e, h1, h2, h3, h4⟩ := h.h
  exact blits_keys h1 h2 h3 h4 D ha
section
variable {P : Program} {env : Env} {dst : Option Tmp} {ty : TypeId} {pos : String} {after : Array Edge} {g : Option (Nat × Bool)}
theorem OpP.eqBytes {x y : Operand} {t u : TypeId} {m n : Nat} [hk : KeyT P t m] [hb : BytesA P t n] {a b : List UInt8} (hx : ev env x = some (.agg (bcells a).toArray)) (hy : ev env y = some (.agg (bcells b).toArray)) (h1 : a.length = n) (h2 : b.length = n) :
    OpP P ⟨dst, .binOp .eql t x y u, ty, pos, after, g⟩ env (.bool (decide (a = b))) :=
  OpP.eqLits hx hy (hb.keys 0 h1) (hb.keys 0 h2) blits_inj
theorem OpP.neBytes {x y : Operand} {t u : TypeId} {m n : Nat} [hk : KeyT P t m] [hb : BytesA P t n] {a b : List UInt8} (hx : ev env x = some (.agg (bcells a).toArray)) (hy : ev env y = some (.agg (bcells b).toArray)) (h1 : a.length = n) (h2 : b.length = n) :
    OpP P ⟨dst, .binOp .neq t x y u, ty, pos, after, g⟩ env (.bool (decide (a ≠ b))) :=
  OpP.neLits hx hy (hb.keys 0 h1) (hb.keys 0 h2) blits_inj
end
/-- A slice of slices of bytes, that may be read. -/
structure Parts (w0 : World) (F : List HProp) (v : Value) (ps : List (Value × List UInt8)) : Prop where
  rd : RdO w0 F v ps.length (ps.map (·.1))
  each : ∀ p ∈ ps, (∃ a c, p.1 = .slice a p.2.length c) ∧ RdO w0 F p.1 p.2.length (bcells p.2)
abbrev cat (ps : List (Value × List UInt8)) : List UInt8 := ps.flatMap (·.2)
theorem Parts.conv {w0 : World} {F F' : List HProp} {v : Value} {ps : List (Value × List UInt8)} (hl : ∀ w, Own w0 w F' → Own w0 w F) (h : Parts w0 F v ps) : Parts w0 F' v ps := ⟨h.rd.conv hl, fun p hp => ⟨(h.each p hp).1, (h.each p hp).2.conv hl⟩⟩
theorem Parts.at {w0 : World} {F : List HProp} {v : Value} {ps : List (Value × List UInt8)} {i : Nat} (h : Parts w0 F v ps) (hi : i < ps.length) : ∃ a c l, ps[i]? = some (.slice a l.length c, l) ∧ (ps.map (·.1))[i]? = some (.slice a l.length c) ∧ RdO w0 F (.slice a l.length c) l.length (bcells l) := by
  obtain ⟨⟨a, c, he⟩, hr⟩ := h.each _ (List.getElem_mem hi)
  have e : ps[i] = (.slice a ps[i].2.length c, ps[i].2) := by rw [← he]
  exact ⟨a, c, ps[i].2, by rw [List.getElem?_eq_getElem hi, ← e], by rw [List.getElem?_map, List.getElem?_eq_getElem hi, Option.map_some, he], he ▸ hr⟩
theorem cat_take {ps : List (Value × List UInt8)} {i : Nat} {v : Value} {l : List UInt8} (h : ps[i]? = some (v, l)) : cat (ps.take (i + 1)) = cat (ps.take i) ++ l := by
  rw [List.take_add_one, h, cat, List.flatMap_append]
  simp
theorem cat_take_le (ps : List (Value × List UInt8)) (i : Nat) : (cat (ps.take i)).length ≤ (cat ps).length := by
  have h : cat ps = cat (ps.take i) ++ cat (ps.drop i) := by rw [cat, cat, cat, ← List.flatMap_append, List.take_append_drop]
  rw [h, List.length_append]
  exact Nat.le_add_right _ _
end Go.Gp
namespace Go.Gp
open Go Go.RowKit
theorem FnO.rdF {P : Program} {w0 : World} {f : FuncId} {args : List Value} {l F : List HProp} {R : Value → List HProp → Prop} {v : Value} {n : Nat} {cs : List Value} (hl : ∀ w, Own w0 w l → Own w0 w F) (hr : RdO w0 F v n cs) (h : Rd w0 F v n cs → FnO P w0 f args l R) : FnO P w0 f args l R :=
  ⟨fun w hw => (h (hr w (hl w hw))).calls w hw⟩
end Go.Gp
namespace Go.Gp
open Go Go.RowKit
section
variable {w0 : World} {F : List HProp} {b t c : Nat} {v1 v2 v3 : Value} {l1 l2 l3 : List UInt8}
theorem RdO.nil0 {a : Option Addr} : RdO w0 F (.slice a 0 c) 0 [] := fun _ _ => .inl ⟨a, c, rfl, rfl, rfl⟩
theorem RdO.nilB {a : Option Addr} : RdO w0 F (.slice a 0 c) ([] : List UInt8).length (bcells []) := RdO.nil0
variable {a1 a2 a3 : Option Addr} {c1 c2 c3 : Nat}
theorem Parts.row1 (hm : Has (row b t [.slice a1 l1.length c1]) F) (h1 : RdO w0 F (.slice a1 l1.length c1) l1.length (bcells l1)) (hc : 1 ≤ c) : Parts w0 F (.slice (some ⟨b, 0, none⟩) 1 c) [(.slice a1 l1.length c1, l1)] :=
  ⟨RdO.ofRow hm hc, by intro p hp; simp at hp; subst hp; exact ⟨⟨_, _, rfl⟩, h1⟩⟩
theorem Parts.row2 (hm : Has (row b t [.slice a1 l1.length c1, .slice a2 l2.length c2]) F) (h1 : RdO w0 F (.slice a1 l1.length c1) l1.length (bcells l1)) (h2 : RdO w0 F (.slice a2 l2.length c2) l2.length (bcells l2)) (hc : 2 ≤ c) : Parts w0 F (.slice (some ⟨b, 0, none⟩) 2 c) [(.slice a1 l1.length c1, l1), (.slice a2 l2.length c2, l2)] :=
  ⟨RdO.ofRow hm hc, by intro p hp; simp at hp; rcases hp with rfl | rfl; exact ⟨⟨_, _, rfl⟩, h1⟩; exact ⟨⟨_, _, rfl⟩, h2⟩⟩
theorem Parts.row3 (hm : Has (row b t [.slice a1 l1.length c1, .slice a2 l2.length c2, .slice a3 l3.length c3]) F) (h1 : RdO w0 F (.slice a1 l1.length c1) l1.length (bcells l1)) (h2 : RdO w0 F (.slice a2 l2.length c2) l2.length (bcells l2)) (h3 : RdO w0 F (.slice a3 l3.length c3) l3.length (bcells l3)) (hc : 3 ≤ c) :
    Parts w0 F (.slice (some ⟨b, 0, none⟩) 3 c) [(.slice a1 l1.length c1, l1), (.slice a2 l2.length c2, l2), (.slice a3 l3.length c3, l3)] :=
  ⟨RdO.ofRow hm hc, by intro p hp; simp at hp; rcases hp with rfl | rfl | rfl; exact ⟨⟨_, _, rfl⟩, h1⟩; exact ⟨⟨_, _, rfl⟩, h2⟩; exact ⟨⟨_, _, rfl⟩, h3⟩⟩
theorem Parts.len {v : Value} {ps : List (Value × List UInt8)} {w : World} (h : Parts w0 F v ps) (hw : Own w0 w F) : ∃ a c, v = .slice a ps.length c := (h.rd w hw).lit
end
end Go.Gp
namespace Go.Gp
open Go Go.RowKit
section
variable {P : Program} {w0 : World} {env : Env} {l l' : List HProp} {dst : Option Tmp} {ty : TypeId} {pos : String} {after : Array Edge} {g : Option (Nat × Bool)}
theorem freeze_block {w : World} {b o : Nat} {cs : Array Value} {e : TypeId} (h : w.heap[b]? = some (.cells cs e (0, 0))) : (w.freeze ⟨b, o, none⟩ 1).heap[b]? = some (.cells cs e (o, o + 1)) := by
  unfold World.freeze
  rw [if_neg (by decide)]
  show (w.heap.modify b _)[b]? = _
  rw [Array.getElem?_modify, if_pos rfl, h]
  rfl
theorem freeze_other {w : World} {b o k : Nat} (h : k ≠ b) : (w.freeze ⟨b, o, none⟩ 1).heap[k]? = w.heap[k]? := by
  unfold World.freeze
  rw [if_neg (by decide)]
  show (w.heap.modify b _)[k]? = _
  rw [Array.getElem?_modify, if_neg (Ne.symm h)]
theorem below_freeze {B : Nat} {w : World} {b o : Nat} (h : B ≤ b) : Below B w (w.freeze ⟨b, o, none⟩ 1) := by
  refine ⟨?_, ?_, ?_, ?_, fun k hk => freeze_other (by omega)⟩
  all_goals (unfold World.freeze; rw [if_neg (by decide)]; try rfl)
  show w.heap.size ≤ (w.heap.modify b _).size
  simp
/-- A row of bytes, told as bytes of a text: read from here on. -/
theorem OpM.bytesMark {x : Operand} {t e sz by_ b n c : Nat} {cs : List Value} [hs : Sl P t e sz by_] [he : IntT P e .u8] (hx : ev env x = some (.slice (some ⟨b, 0, none⟩) n c)) (hu : Upd (row b e cs) (Gp.rdo b e cs) l l') :
    OpM P w0 ⟨dst, .convert t t x, ty, pos, after, g⟩ env l (fun u l'' => u = .slice (some ⟨b, 0, none⟩) n c ∧ l'' = l') := by
  refine ⟨fun ρ hr w ho => ?_⟩
  have hx' := hr x (by simp [Op.operands]) _ hx
  obtain ⟨m, h1, h2⟩ := hu.perm
  have ho1 := ho.perm h1
  obtain ⟨hg, hb⟩ := ho1.sat.blk_heap
  have hsh : w.shape? b = some (e, cs.length) := by
    unfold World.shape?
    rw [hg]; simp
  refine ⟨_, .slice (some ⟨b, 0, none⟩) n c, w.freeze ⟨b, cs.length, none⟩ 1, l', ?_, .inl rfl, ⟨rfl, rfl⟩, Own.perm h2 (Own.imp (A := blk b (.cells cs.toArray e (cs.length, cs.length + 1))) ?_ (Own.write ho1 (below_freeze hb) (fun k hk => freeze_other hk) (freeze_block hg)))⟩
  · simp [execOp, hx', convert, run_underlying hs.und, run_underlying he.h, markStringish, hsh]
  · intro h hb
    exact ⟨[], _, by rw [List.append_nil]; exact hb⟩
end
theorem RdO.ofRdo {w0 : World} {l : List HProp} {b e n c : Nat} {cs : List Value} (hm : Has (rdo b e cs) l) (hc : n ≤ c) : RdO w0 l (.slice (some ⟨b, 0, none⟩) n c) n cs := (Rd.o (.inr ⟨b, 0, c, rfl, hc, Cells.rdo hm⟩))
end Go.Gp
namespace Go.Gp
open Go Go.RowKit
/-- A slice of slices of bytes from outside. -/
theorem Fm.parts {P : Program} {w : World} {t : TypeId} {v : Value} {e u : TypeId} (ht : P.underlying t = some (.slice e)) (he : P.underlying e = some (.slice u)) (hu : P.underlying u = some (.int .u8)) (hce : P.cellsOf e = 1) (hcu : P.cellsOf u = 1) (h : Fm P w t [v]) :
    ∃ ps : List (Value × List UInt8), ps.length ≤ maxLen ∧ (∀ p ∈ ps, p.2.length ≤ maxLen) ∧ Parts w [] v ps := by
  obtain ⟨xs, h1, h2, h3⟩ := Fm.rows (f := fun p : Value × List UInt8 => [p.1]) (Q := fun p => p.2.length ≤ maxLen ∧ Rd w [] p.1 p.2.length (bcells p.2)) ht hce (by decide) h fun cs hl hf => by
    match cs, hl with
    | [c], _ =>
      obtain ⟨bs, hb, hr⟩ := Fm.bytes he hu hcu hf
      exact ⟨(c, bs), ⟨hb, hr⟩, rfl⟩
  have hr := h3 []
  rw [← List.map_eq_flatMap] at hr
  exact ⟨xs, h2, fun p hp => (h1 p hp).1.1, hr.o, fun p hp => ⟨(h1 p hp).1.2.lit, (h1 p hp).1.2.o⟩⟩
end Go.Gp
namespace Go.Gp
open Go Go.RowKit
section
variable {P : Program} {env : Env} {dst : Option Tmp} {ty : TypeId} {pos : String} {after : Array Edge} {g : Option (Nat × Bool)}
/-- A slice without elements, sliced. -/
theorem OpP.slice00 {x : Operand} {lo hi : Option Operand} {vlo vhi : Option Value} {t e sz by_ cap : Nat} {a : Addr} [hs : Sl P t e sz by_] (hx : ev env x = some (.slice (some a) 0 cap))
    (elo : lo.map (ev env) = vlo.map some) (ehi : hi.map (ev env) = vhi.map some) (hlo : vlo = none ∨ ∃ k, vlo = some (.int k 0)) (hhi : vhi = none ∨ ∃ k, vhi = some (.int k 0)) :
    OpP P ⟨dst, .slice t x lo hi none, ty, pos, after, g⟩ env (.slice (some a) 0 cap) := by
  refine ⟨?_⟩
  intro ρ hr w
  have hx' := hr x (by simp [Op.operands]) _ hx
  have e1 : lo.map ρ = vlo := by
    cases lo with
    | none => cases vlo <;> simp at elo ⊢
    | some a => cases vlo with
      | none => simp at elo
      | some u => simp at elo; simp [hr a (by simp [Op.operands]) u elo]
  have e2 : hi.map ρ = vhi := by
    cases hi with
    | none => cases vhi <;> simp at ehi ⊢
    | some a => cases vhi with
      | none => simp at ehi
      | some u => simp at ehi; simp [hr a (by simp [Op.operands]) u ehi]
  obtain ⟨i, hi1, hi2, _, _⟩ := hs.inf
  have hb := run_sliceBounds (P := P) (isS := true) w (len := 0) (cap := cap) (l := 0) (h := 0) (by rcases hlo with h | ⟨k, h⟩; exact .inl ⟨h, rfl⟩; exact .inr ⟨k, h⟩) (by rcases hhi with h | ⟨k, h⟩; exact .inl ⟨h, rfl⟩; exact .inr ⟨k, h⟩) (Nat.le_refl _) (Nat.zero_le _)
  simp only [execOp, hx', e1, e2, Option.map_none, Instr.sliceAt, Sem.run_bind, run_underlying hs.und, Result.andThen_ok, Instr.slice, hb, run_sizeOf_info w hi1, hi2, Sem.run_pure]
  congr 3
  split
  · rfl
  · obtain ⟨b, o, sp⟩ := a
    simp [Addr.add]
theorem OpP.slice0To {x hi : Operand} {k : IntKind} {t e sz by_ cap : Nat} {a : Addr} {v : Int} [hs : Sl P t e sz by_] (hx : ev env x = some (.slice (some a) 0 cap)) (ehi : ev env hi = some (.int k v)) (hv : v = 0) :
    OpP P ⟨dst, .slice t x none (some hi) none, ty, pos, after, g⟩ env (.slice (some a) 0 cap) := by
  subst hv
  exact OpP.slice00 (vlo := none) (vhi := some (.int k 0)) hx rfl (by simp [ehi]) (.inl rfl) (.inr ⟨_, rfl⟩)
theorem OpP.slice0From {x lo : Operand} {k : IntKind} {t e sz by_ cap : Nat} {a : Addr} {v : Int} [hs : Sl P t e sz by_] (hx : ev env x = some (.slice (some a) 0 cap)) (elo : ev env lo = some (.int k v)) (hv : v = 0) :
    OpP P ⟨dst, .slice t x (some lo) none none, ty, pos, after, g⟩ env (.slice (some a) 0 cap) := by
  subst hv
  exact OpP.slice00 (vlo := some (.int k 0)) (vhi := none) hx (by simp [elo]) rfl (.inr ⟨_, rfl⟩) (.inl rfl)
end
theorem Fm.shape {P : Program} {w : World} {t e : TypeId} {v : Value} (ht : P.underlying t = some (.slice e)) (h : Fm P w t [v]) : v = .slice none 0 0 ∨ ∃ a n c, v = .slice (some a) n c := by
  rcases h.slice ht with h0 | ⟨a, n, c, h0, _⟩
  · simp at h0; exact .inl h0
  · simp at h0; exact .inr ⟨a, n, c, h0⟩
/-- The shape of a slice from outside. -/
def ShapeOf (v : Value) (n : Nat) : Prop := v = .slice none 0 0 ∨ ∃ a c, v = .slice (some a) n c
end Go.Gp
namespace Go.Gp
open Go Go.RowKit
/-! Slices from outside, sliced: of whatever shape. -/
def SlTo (P : Program) (t : TypeId) (v : Value) (k : Nat) (v1 : Value) : Prop := ∀ (dst : Option Tmp) (ty : TypeId) (pos : String) (after : Array Edge) (g : Option (Nat × Bool)) (env : Env) (x hi : Operand) (kk : IntKind), ev env x = some v → ev env hi = some (.int kk (k : Int)) → OpP P ⟨dst, .slice t x none (some hi) none, ty, pos, after, g⟩ env v1
def SlFrom (P : Program) (t : TypeId) (v : Value) (k : Nat) (v1 : Value) : Prop := ∀ (dst : Option Tmp) (ty : TypeId) (pos : String) (after : Array Edge) (g : Option (Nat × Bool)) (env : Env) (x lo : Operand) (kk : IntKind), ev env x = some v → ev env lo = some (.int kk (k : Int)) → OpP P ⟨dst, .slice t x (some lo) none none, ty, pos, after, g⟩ env v1
section
variable {P : Program} {env : Env} {dst : Option Tmp} {ty : TypeId} {pos : String} {after : Array Edge} {g : Option (Nat × Bool)}
theorem SlTo.op {t : TypeId} {v v1 : Value} {k : Nat} {kk : IntKind} {x hi : Operand} (h : SlTo P t v k v1) (hx : ev env x = some v) (hh : ev env hi = some (.int kk (k : Int))) : OpP P ⟨dst, .slice t x none (some hi) none, ty, pos, after, g⟩ env v1 := h _ _ _ _ _ _ _ _ _ hx hh
theorem SlFrom.op {t : TypeId} {v v1 : Value} {k : Nat} {kk : IntKind} {x lo : Operand} (h : SlFrom P t v k v1) (hx : ev env x = some v) (hh : ev env lo = some (.int kk (k : Int))) : OpP P ⟨dst, .slice t x (some lo) none none, ty, pos, after, g⟩ env v1 := h _ _ _ _ _ _ _ _ _ hx hh
end
theorem ShapeOf.to {P : Program} {w0 : World} {t e sz by_ n k : Nat} {v : Value} {cs : List Value} [Sl P t e sz by_] (hs : ShapeOf v n) (hr : RdO w0 [] v n cs) (hk : k ≤ n) : ∃ a c, SlTo P t v k (.slice a k c) ∧ RdO w0 [] (.slice a k c) k (cs.take (k * sz)) := by
  have hr0 := hr w0 (Own.nil w0)
  rcases hs with rfl | ⟨a, c, rfl⟩
  · rcases hr0 with ⟨a, c, _, h2, h3⟩ | ⟨b, o, c, h1, _⟩
    · subst h2 h3
      have : k = 0 := by omega
      subst this
      exact ⟨none, 0, fun _ _ _ _ _ _ _ _ _ hx hh => OpP.sliceNilTo hx hh rfl, by rw [List.take_nil]; exact RdO.nil0⟩
    · cases h1
  · by_cases hn : n = 0
    · subst hn
      have : k = 0 := by omega
      subst this
      refine ⟨some a, c, fun _ _ _ _ _ _ _ _ _ hx hh => OpP.slice0To hx hh rfl, ?_⟩
      rw [Nat.zero_mul, List.take_zero]; exact RdO.nil0
    · obtain ⟨b, o, c', h1, h2, _⟩ := hr0.pos (by omega)
      cases h1
      exact ⟨_, _, fun _ _ _ _ _ _ _ _ _ hx hh => OpP.sliceTo k hx hh rfl (by omega), hr.to sz hk⟩
theorem ShapeOf.from {P : Program} {w0 : World} {t e sz by_ n k : Nat} {v : Value} {cs : List Value} [Sl P t e sz by_] (hs : ShapeOf v n) (hr : RdO w0 [] v n cs) (hl : cs.length = n * sz) (hk : k ≤ n) : ∃ a c, SlFrom P t v k (.slice a (n - k) c) ∧ RdO w0 [] (.slice a (n - k) c) (n - k) (cs.drop (k * sz)) := by
  have hr0 := hr w0 (Own.nil w0)
  rcases hs with rfl | ⟨a, c, rfl⟩
  · rcases hr0 with ⟨a, c, _, h2, h3⟩ | ⟨b, o, c, h1, _⟩
    · subst h2 h3
      have : k = 0 := by omega
      subst this
      exact ⟨none, 0, fun _ _ _ _ _ _ _ _ _ hx hh => OpP.sliceNilFrom hx hh rfl, by rw [List.drop_nil]; exact RdO.nil0⟩
    · cases h1
  · by_cases hn : n = 0
    · subst hn
      have : k = 0 := by omega
      subst this
      refine ⟨some a, c, fun _ _ _ _ _ _ _ _ _ hx hh => OpP.slice0From hx hh rfl, ?_⟩
      rw [show cs = [] from List.eq_nil_of_length_eq_zero (by omega), List.drop_nil]; exact RdO.nil0
    · obtain ⟨b, o, c', h1, h2, _⟩ := hr0.pos (by omega)
      cases h1
      exact ⟨_, _, fun _ _ _ _ _ _ _ _ _ hx hh => OpP.sliceFrom k hx hh rfl hk h2, hr.from sz hk hl⟩
theorem Fm.shapeOf {P : Program} {w : World} {t e : TypeId} {a : Option Addr} {n c : Nat} (ht : P.underlying t = some (.slice e)) (h : Fm P w t [.slice a n c]) : ShapeOf (.slice a n c) n := by
  rcases h.shape ht with h0 | ⟨a', n', c', h0⟩
  · exact .inl h0
  · cases h0; exact .inr ⟨_, _, rfl⟩
end Go.Gp
