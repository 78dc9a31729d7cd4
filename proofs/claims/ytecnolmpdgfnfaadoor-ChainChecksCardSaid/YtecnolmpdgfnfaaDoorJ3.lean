/- A text of the proof of a statement about the given program: pure operations. No person has read it. -/
import Derived.Test.YtecnolmpdgfnfaaDoorJ2
namespace Go.Gp
open Go Go.RowKit

/-! What the program's table of types says, computed. -/

def oneB (P : Program) (t : TypeId) : Bool :=
  match P.underlying t, P.info? t with
  | some (.struct _), _ => false
  | some (.array _ _), _ => false
  | some _, some i => i.size == 1
  | _, _ => false

def aggN (P : Program) (t : TypeId) : Option Nat :=
  match P.underlying t, P.info? t with
  | some (.struct _), some i => some i.size
  | some (.array _ _), some i => some i.size
  | _, _ => none

def slI (P : Program) (t : TypeId) : Option (TypeId × Nat × Nat) :=
  match P.underlying t with
  | some (.slice e) => (match P.info? e with
    | some i => if i.size = 0 then none else some (e, i.size, i.bytes)
    | none => none)
  | _ => none

def arI (P : Program) (t : TypeId) : Option (Nat × TypeId × Nat) :=
  match P.underlying t with
  | some (.array n e) => (match P.info? e with
    | some i => if i.size = 0 then none else some (n, e, i.size)
    | none => none)
  | _ => none

def fldO (P : Program) (s : TypeId) (f : Nat) : Option (Nat × TypeId) :=
  match P.underlying s with
  | some (.struct fs) => (match fs[f]? with
    | some fd => (match P.info? fd.type with
      | some i => if i.size = 0 then none else some (fd.offset, fd.type)
      | none => none)
    | none => none)
  | _ => none

def zeroL (P : Program) (t : TypeId) : Option (List Value) :=
  match P.info? t with
  | some i => i.zero.map (·.cells.toList)
  | none => none

def zeroV (P : Program) (t : TypeId) : Option Value :=
  match P.info? t with
  | some i => i.zero
  | none => none

/-- Sizes of a struct's fields, one behind the other. -/
def stS (P : Program) (t : TypeId) : Option (List Nat) :=
  match P.underlying t with
  | some (.struct fs) => fs.toList.mapM fun fd => (P.info? fd.type).map (·.size)
  | _ => none

class One (P : Program) (t : TypeId) : Prop where
  h : oneB P t = true
class Agg (P : Program) (t : TypeId) (n : outParam Nat) : Prop where
  h : aggN P t = some n
class Sl (P : Program) (t : TypeId) (e : outParam TypeId) (sz by_ : outParam Nat) : Prop where
  h : slI P t = some (e, sz, by_)
class Ar (P : Program) (t : TypeId) (n : outParam Nat) (e : outParam TypeId) (sz : outParam Nat) : Prop where
  h : arI P t = some (n, e, sz)
class Fld (P : Program) (s : TypeId) (f : Nat) (off : outParam Nat) (ft : outParam TypeId) : Prop where
  h : fldO P s f = some (off, ft)
class Zr (P : Program) (t : TypeId) (z : outParam (List Value)) : Prop where
  h : zeroL P t = some z
class StrT (P : Program) (t : TypeId) : Prop where
  h : P.underlying t = some .string
class BoolT (P : Program) (t : TypeId) : Prop where
  h : P.underlying t = some .bool
class IntT (P : Program) (t : TypeId) (k : outParam IntKind) : Prop where
  h : P.underlying t = some (.int k)
class PtrT (P : Program) (t : TypeId) (e : outParam TypeId) : Prop where
  h : P.underlying t = some (.pointer e)

section
variable {P : Program} {t : TypeId} {n : Nat} (w : World)

theorem run_isAgg_one [h : One P t] : (isAgg t).run P w = .ok false w := by
  have h := h.h
  unfold oneB at h
  cases e : P.underlying t with
  | none => simp [e] at h
  | some d => cases d <;> simp [e] at h <;> simp [isAgg, run_underlying e]

theorem run_sizeOf_one [h : One P t] : (sizeOf t).run P w = .ok 1 w := by
  have h := h.h
  unfold oneB at h
  cases e : P.underlying t with
  | none => simp [e] at h
  | some d =>
    cases ei : P.info? t with
    | none => cases d <;> simp [e, ei] at h
    | some i => cases d <;> simp [e, ei] at h <;> simp [sizeOf, typeInfo, ei, h]

theorem run_isAgg_agg [h : Agg P t n] : (isAgg t).run P w = .ok true w := by
  have h := h.h
  unfold aggN at h
  cases e : P.underlying t with
  | none => simp [e] at h
  | some d => cases d <;> simp [e] at h <;> simp [isAgg, run_underlying e]

theorem run_sizeOf_agg [h : Agg P t n] : (sizeOf t).run P w = .ok n w := by
  have h := h.h
  unfold aggN at h
  cases e : P.underlying t with
  | none => simp [e] at h
  | some d =>
    cases ei : P.info? t with
    | none => cases d <;> simp [e, ei] at h
    | some i => cases d <;> simp [e, ei] at h <;> simp [sizeOf, typeInfo, ei, h]

theorem Sl.und {e : TypeId} {sz b : Nat} (h : Sl P t e sz b) : P.underlying t = some (.slice e) := by
  have h := h.h
  unfold slI at h
  cases e' : P.underlying t with
  | none => simp [e'] at h
  | some d =>
    cases d <;> simp [e'] at h
    case slice e2 =>
      cases ei : P.info? e2 with
      | none => simp [ei] at h
      | some i => simp [ei] at h; obtain ⟨_, rfl, _⟩ := h; rfl

theorem Sl.inf {e : TypeId} {sz b : Nat} (h : Sl P t e sz b) : ∃ i, P.info? e = some i ∧ i.size = sz ∧ i.bytes = b ∧ 0 < sz := by
  have h := h.h
  unfold slI at h
  cases e' : P.underlying t with
  | none => simp [e'] at h
  | some d =>
    cases d <;> simp [e'] at h
    case slice e2 =>
      cases ei : P.info? e2 with
      | none => simp [ei] at h
      | some i => simp [ei] at h; obtain ⟨h0, rfl, rfl, rfl⟩ := h; exact ⟨i, ei, rfl, rfl, Nat.pos_of_ne_zero h0⟩

theorem Ar.und {e : TypeId} {n sz : Nat} (h : Ar P t n e sz) : P.underlying t = some (.array n e) := by
  have h := h.h
  unfold arI at h
  cases e' : P.underlying t with
  | none => simp [e'] at h
  | some d =>
    cases d <;> simp [e'] at h
    case array n2 e2 =>
      cases ei : P.info? e2 with
      | none => simp [ei] at h
      | some i => simp [ei] at h; obtain ⟨_, rfl, rfl, _⟩ := h; rfl

theorem Ar.inf {e : TypeId} {n sz : Nat} (h : Ar P t n e sz) : ∃ i, P.info? e = some i ∧ i.size = sz ∧ 0 < sz := by
  have h := h.h
  unfold arI at h
  cases e' : P.underlying t with
  | none => simp [e'] at h
  | some d =>
    cases d <;> simp [e'] at h
    case array n2 e2 =>
      cases ei : P.info? e2 with
      | none => simp [ei] at h
      | some i => simp [ei] at h; obtain ⟨h0, rfl, rfl, rfl⟩ := h; exact ⟨i, ei, rfl, Nat.pos_of_ne_zero h0⟩

theorem Fld.out {f off : Nat} {ft : TypeId} (h : Fld P t f off ft) : ∃ fs fd i, P.underlying t = some (.struct fs) ∧ fs[f]? = some fd ∧ fd.offset = off ∧ fd.type = ft ∧ P.info? ft = some i ∧ i.size ≠ 0 := by
  have h := h.h
  unfold fldO at h
  cases e' : P.underlying t with
  | none => simp [e'] at h
  | some d =>
    cases d <;> simp [e'] at h
    case struct fs =>
      cases ef : fs[f]? with
      | none => simp [ef] at h
      | some fd =>
        simp [ef] at h
        cases ei : P.info? fd.type with
        | none => simp [ei] at h
        | some i => simp [ei] at h; obtain ⟨h0, rfl, rfl⟩ := h; exact ⟨fs, fd, i, rfl, ef, rfl, rfl, ei, h0⟩

theorem Zr.out {z : List Value} (h : Zr P t z) : ∃ i v, P.info? t = some i ∧ i.zero = some v ∧ v.cells = z.toArray := by
  have h := h.h
  unfold zeroL at h
  cases ei : P.info? t with
  | none => simp [ei] at h
  | some i =>
    cases ez : i.zero with
    | none => simp [ei, ez] at h
    | some v => simp [ei, ez] at h; exact ⟨i, v, rfl, ez, by rw [← h]⟩

theorem run_zeroValue {z : List Value} (h : Zr P t z) : ∃ v, (∀ w, (zeroValue t).run P w = .ok v w) ∧ v.cells = z.toArray := by
  obtain ⟨i, v, hi, hz, hc⟩ := h.out
  exact ⟨v, fun w => by simp [zeroValue, typeInfo, hi, hz], hc⟩

theorem run_sizeOf_info {i : TypeInfo} (hi : P.info? t = some i) : (sizeOf t).run P w = .ok i.size w := by simp [sizeOf, typeInfo, hi]
end

/-! Operations that look at no memory. -/
section
variable {P : Program} {env : Env} {dst : Option Tmp} {ty : TypeId} {pos : String} {after : Array Edge} {g : Option (Nat × Bool)}

theorem OpP.move {x : Operand} {v : Value} (hx : ev env x = some v) : OpP P ⟨dst, .move x, ty, pos, after, g⟩ env v := by
  refine ⟨?_⟩
  intro ρ hr w
  have := hr x (by simp [Op.operands]) v hx
  simp [execOp, this]

theorem OpP.assign {x : Operand} {v : Value} (hx : ev env x = some v) : OpP P ⟨dst, .assign x, ty, pos, after, g⟩ env v := by
  refine ⟨?_⟩
  intro ρ hr w
  have := hr x (by simp [Op.operands]) v hx
  simp [execOp, this]

theorem OpP.pickT {c x y : Operand} {v : Value} (hc : ev env c = some (.bool true)) (hx : ev env x = some v) : OpP P ⟨dst, .pick c x y, ty, pos, after, g⟩ env v := by
  refine ⟨?_⟩
  intro ρ hr w
  have h1 := hr c (by simp [Op.operands]) _ hc
  have h2 := hr x (by simp [Op.operands]) _ hx
  simp [execOp, h1, h2, asBool]

theorem OpP.pickF {c x y : Operand} {v : Value} (hc : ev env c = some (.bool false)) (hy : ev env y = some v) : OpP P ⟨dst, .pick c x y, ty, pos, after, g⟩ env v := by
  refine ⟨?_⟩
  intro ρ hr w
  have h1 := hr c (by simp [Op.operands]) _ hc
  have h2 := hr y (by simp [Op.operands]) _ hy
  simp [execOp, h1, h2, asBool]

theorem OpP.nilCheck {x : Operand} {a : Addr} (hx : ev env x = some (.pointer (some a))) : OpP P ⟨dst, .nilCheck x, ty, pos, after, g⟩ env (.pointer (some a)) := by
  refine ⟨?_⟩
  intro ρ hr w
  have := hr x (by simp [Op.operands]) _ hx
  simp [execOp, this]

theorem OpP.nilCheckFn {x : Operand} {f : FuncId} {a b : Array Value} (hx : ev env x = some (.func (.func f) a b)) : OpP P ⟨dst, .nilCheck x, ty, pos, after, g⟩ env (.func (.func f) a b) := by
  refine ⟨?_⟩
  intro ρ hr w
  have := hr x (by simp [Op.operands]) _ hx
  simp [execOp, this]

theorem OpP.fieldAddr {x : Operand} {s f off ft : Nat} {b o : Nat} [hf : Fld P s f off ft] (hx : ev env x = some (.pointer (some ⟨b, o, none⟩))) : OpP P ⟨dst, .fieldAddr s x f, ty, pos, after, g⟩ env (.pointer (some ⟨b, o + off, none⟩)) := by
  refine ⟨?_⟩
  intro ρ hr w
  have := hr x (by simp [Op.operands]) _ hx
  obtain ⟨fs, fd, i, h1, h2, h3, h4, h5, h6⟩ := hf.out
  have hadd : (⟨b, o, none⟩ : Addr).add off = ⟨b, o + off, none⟩ := by unfold Addr.add; split <;> simp_all
  simp [execOp, this, Instr.fieldAt, run_underlying h1, h2, Instr.sureAddr, fieldPlace, h4, run_sizeOf_info w h5, h6, h3, hadd]

theorem OpP.field1 {x : Operand} {s f off ft : Nat} {cs : Array Value} {v : Value} [hf : Fld P s f off ft] [One P ft] (hx : ev env x = some (.agg cs)) (hv : cs.toList[off]? = some v) : OpP P ⟨dst, .field s x f, ty, pos, after, g⟩ env v := by
  refine ⟨?_⟩
  intro ρ hr w
  have := hr x (by simp [Op.operands]) _ hx
  obtain ⟨fs, fd, i, h1, h2, h3, h4, h5, h6⟩ := hf.out
  have hv' : cs[off]? = some v := by simpa using hv
  simp [execOp, this, Instr.field, run_underlying h1, h2, asAgg, part, h4, run_isAgg_one, h3, hv']

theorem OpP.fieldN {x : Operand} {s f off ft n : Nat} {cs : Array Value} {vs : List Value} [hf : Fld P s f off ft] [Agg P ft n] (hx : ev env x = some (.agg cs)) (hv : (cs.toList.drop off).take n = vs) : OpP P ⟨dst, .field s x f, ty, pos, after, g⟩ env (.agg vs.toArray) := by
  refine ⟨?_⟩
  intro ρ hr w
  have := hr x (by simp [Op.operands]) _ hx
  obtain ⟨fs, fd, i, h1, h2, h3, h4, h5, h6⟩ := hf.out
  have e : cs.extract off (off + n) = vs.toArray := by
    apply Array.ext'
    simp [List.extract_eq_take_drop, ← hv]
  simp [execOp, this, Instr.field, run_underlying h1, h2, asAgg, part, h4, run_isAgg_agg, run_sizeOf_agg, h3, e]

theorem OpP.extract {x : Operand} {vs : Array Value} {i : Nat} {v : Value} (hx : ev env x = some (.tuple vs)) (hv : vs.toList[i]? = some v) : OpP P ⟨dst, .extract x i, ty, pos, after, g⟩ env v := by
  refine ⟨?_⟩
  intro ρ hr w
  have := hr x (by simp [Op.operands]) _ hx
  have hv' : vs[i]? = some v := by simpa using hv
  simp [execOp, this, Instr.extract, hv']

theorem addr_add (b o n : Nat) : (⟨b, o, none⟩ : Addr).add n = ⟨b, o + n, none⟩ := by unfold Addr.add; split <;> simp_all

theorem OpP.indexAddr {x i : Operand} {t e sz by_ b o len cap : Nat} {k : IntKind} {j : Int} [hs : Sl P t e sz by_] (hx : ev env x = some (.slice (some ⟨b, o, none⟩) len cap)) (hi : ev env i = some (.int k j)) (h0 : 0 ≤ j) (h1 : j < len) :
    OpP P ⟨dst, .indexAddr t x i, ty, pos, after, g⟩ env (.pointer (some ⟨b, o + j.toNat * sz, none⟩)) := by
  refine ⟨?_⟩
  intro ρ hr w
  have hx' := hr x (by simp [Op.operands]) _ hx
  have hi' := hr i (by simp [Op.operands]) _ hi
  obtain ⟨inf, h2, h3, h4, h5⟩ := hs.inf
  simp [execOp, hx', hi', Instr.indexAt, asIntOf, run_underlying hs.und, h0, h1, run_sizeOf_info w h2, h3, addr_add]

theorem OpP.indexAddrA {x i : Operand} {t e sz n b o : Nat} {k : IntKind} {j : Int} [hs : Ar P t n e sz] (hx : ev env x = some (.pointer (some ⟨b, o, none⟩))) (hi : ev env i = some (.int k j)) (h0 : 0 ≤ j) (h1 : j < n) :
    OpP P ⟨dst, .indexAddr t x i, ty, pos, after, g⟩ env (.pointer (some ⟨b, o + j.toNat * sz, none⟩)) := by
  refine ⟨?_⟩
  intro ρ hr w
  have hx' := hr x (by simp [Op.operands]) _ hx
  have hi' := hr i (by simp [Op.operands]) _ hi
  obtain ⟨inf, h2, h3, h5⟩ := hs.inf
  simp [execOp, hx', hi', Instr.indexAt, asIntOf, run_underlying hs.und, Instr.sureAddr, h0, h1, run_sizeOf_info w h2, h3, addr_add]

theorem OpP.indexStr {x i : Operand} {t : Nat} {k : IntKind} {j : Int} {s : ByteArray} {c : UInt8} [hs : StrT P t] (hx : ev env x = some (.string s)) (hi : ev env i = some (.int k j)) (h0 : 0 ≤ j) (h1 : s[j.toNat]? = some c) :
    OpP P ⟨dst, .index t x i, ty, pos, after, g⟩ env (.int .u8 c.toNat) := by
  refine ⟨?_⟩
  intro ρ hr w
  have hx' := hr x (by simp [Op.operands]) _ hx
  have hi' := hr i (by simp [Op.operands]) _ hi
  simp [execOp, hx', hi', Instr.index, asIntOf, run_underlying hs.h, h0, h1]

theorem OpP.indexArr1 {x i : Operand} {t e sz n : Nat} {k : IntKind} {j : Int} {cs : Array Value} {v : Value} [hs : Ar P t n e sz] [One P e] (hx : ev env x = some (.agg cs)) (hi : ev env i = some (.int k j)) (h0 : 0 ≤ j) (h1 : j < n) (hv : cs.toList[j.toNat]? = some v) :
    OpP P ⟨dst, .index t x i, ty, pos, after, g⟩ env v := by
  refine ⟨?_⟩
  intro ρ hr w
  have hx' := hr x (by simp [Op.operands]) _ hx
  have hi' := hr i (by simp [Op.operands]) _ hi
  have hsz := run_sizeOf_one (P := P) (t := e) w
  have hv' : cs[j.toNat]? = some v := by simpa using hv
  simp [execOp, hx', hi', Instr.index, asIntOf, run_underlying hs.und, h0, h1, hsz, part, run_isAgg_one, hv']

theorem OpP.len {x : Operand} {tys : Array TypeId} {t e sz by_ : Nat} {ts : List TypeId} {a : Option Addr} {n cap : Nat} [hs : Sl P t e sz by_] (_ht : tys = (t :: ts).toArray) (hx : ev env x = some (.slice a n cap)) :
    OpP P ⟨dst, .call ⟨.builtin .len, #[x], tys⟩, ty, pos, after, g⟩ env (.int .i64 n) := by
  refine ⟨?_⟩
  intro ρ hr w
  have hx' := hr x (by simp [Op.operands, Call.operands]) _ hx
  subst _ht
  simp [execOp, resolve, hx', invoke, builtin, Builtin.len_, run_underlying hs.und, goInt]

theorem OpP.lenStr {x : Operand} {tys : Array TypeId} {t : Nat} {ts : List TypeId} {s : ByteArray} [hs : StrT P t] (_ht : tys = (t :: ts).toArray) (hx : ev env x = some (.string s)) :
    OpP P ⟨dst, .call ⟨.builtin .len, #[x], tys⟩, ty, pos, after, g⟩ env (.int .i64 s.size) := by
  refine ⟨?_⟩
  intro ρ hr w
  have hx' := hr x (by simp [Op.operands, Call.operands]) _ hx
  subst _ht
  simp [execOp, resolve, hx', invoke, builtin, Builtin.len_, run_underlying hs.h, goInt]

theorem OpP.lenArr {x : Operand} {tys : Array TypeId} {t n e sz : Nat} {ts : List TypeId} {v : Value} [hs : Ar P t n e sz] (_ht : tys = (t :: ts).toArray) (hx : ev env x = some v) :
    OpP P ⟨dst, .call ⟨.builtin .len, #[x], tys⟩, ty, pos, after, g⟩ env (.int .i64 n) := by
  refine ⟨?_⟩
  intro ρ hr w
  have hx' := hr x (by simp [Op.operands, Call.operands]) _ hx
  subst _ht
  cases v <;> simp [execOp, resolve, hx', invoke, builtin, Builtin.len_, run_underlying hs.und, goInt]

theorem OpP.max {x y : Operand} {tys : Array TypeId} {k : IntKind} {a b : Int} (hx : ev env x = some (.int k a)) (hy : ev env y = some (.int k b)) :
    OpP P ⟨dst, .call ⟨.builtin .max, #[x, y], tys⟩, ty, pos, after, g⟩ env (.int k (max a b)) := by
  refine ⟨?_⟩
  intro ρ hr w
  have hx' := hr x (by simp [Op.operands, Call.operands]) _ hx
  have hy' := hr y (by simp [Op.operands, Call.operands]) _ hy
  have e : (if b > a then b else a) = Max.max a b := by simp only [Int.max_def]; split <;> split <;> omega
  simp [execOp, resolve, hx', hy', invoke, builtin, run_max_int2, ← e]

theorem OpP.min {x y : Operand} {tys : Array TypeId} {k : IntKind} {a b : Int} (hx : ev env x = some (.int k a)) (hy : ev env y = some (.int k b)) :
    OpP P ⟨dst, .call ⟨.builtin .min, #[x, y], tys⟩, ty, pos, after, g⟩ env (.int k (min a b)) := by
  refine ⟨?_⟩
  intro ρ hr w
  have hx' := hr x (by simp [Op.operands, Call.operands]) _ hx
  have hy' := hr y (by simp [Op.operands, Call.operands]) _ hy
  have e : (if b < a then b else a) = Min.min a b := by simp only [Int.min_def]; split <;> split <;> omega
  simp [execOp, resolve, hx', hy', invoke, builtin, run_min_int2, ← e]

theorem OpP.notB {x : Operand} {t : TypeId} {b : Bool} (hx : ev env x = some (.bool b)) : OpP P ⟨dst, .unOp .not t x, ty, pos, after, g⟩ env (.bool (!b)) := by
  refine ⟨?_⟩
  intro ρ hr w
  have hx' := hr x (by simp [Op.operands]) _ hx
  simp [execOp, hx', Op.unary]

theorem OpP.neg {x : Operand} {t : TypeId} {k : IntKind} {a : Int} (hx : ev env x = some (.int k a)) : OpP P ⟨dst, .unOp .neg t x, ty, pos, after, g⟩ env (.int k (k.wrap (0 - a))) := by
  refine ⟨?_⟩
  intro ρ hr w
  have hx' := hr x (by simp [Op.operands]) _ hx
  simp [execOp, hx', Op.unary, Op.intArith]

/-- Any operator on two integers. -/
theorem OpP.bin {op : BinOp} {x y : Operand} {t u : TypeId} {k k' : IntKind} {a b : Int} {v : Value} (hx : ev env x = some (.int k a)) (hy : ev env y = some (.int k' b))
    (hv : ∀ w, (binOp op t (.int k a) (.int k' b)).run P w = .ok v w) : OpP P ⟨dst, .binOp op t x y u, ty, pos, after, g⟩ env v := by
  refine ⟨?_⟩
  intro ρ hr w
  have hx' := hr x (by simp [Op.operands]) _ hx
  have hy' := hr y (by simp [Op.operands]) _ hy
  have hg : (eqGuard op t x y (.int k a) (.int k' b)).run P w = .ok () w := by
    unfold eqGuard
    split <;> simp
  simp [execOp, hx', hy', hg, hv]

theorem OpP.cmp {op : BinOp} {x y : Operand} {t u : TypeId} {k : IntKind} {a b : Int} {c : Bool} (hx : ev env x = some (.int k a)) (hy : ev env y = some (.int k b))
    (hv : ∀ w, (Op.intCmp op a b).run P w = .ok (.bool c) w) (hop : (match op with | .eql | .neq | .lss | .leq | .gtr | .geq => true | _ => false) = true) : OpP P ⟨dst, .binOp op t x y u, ty, pos, after, g⟩ env (.bool c) := by
  refine OpP.bin hx hy fun w => ?_
  cases op <;> first | (simp at hop; done) | (simp [binOp, hv])

theorem OpP.lss {x y : Operand} {t u : TypeId} {k : IntKind} {a b : Int} (hx : ev env x = some (.int k a)) (hy : ev env y = some (.int k b)) : OpP P ⟨dst, .binOp .lss t x y u, ty, pos, after, g⟩ env (.bool (decide (a < b))) := OpP.cmp hx hy (fun _ => rfl) rfl
theorem OpP.leq {x y : Operand} {t u : TypeId} {k : IntKind} {a b : Int} (hx : ev env x = some (.int k a)) (hy : ev env y = some (.int k b)) : OpP P ⟨dst, .binOp .leq t x y u, ty, pos, after, g⟩ env (.bool (decide (a ≤ b))) := OpP.cmp hx hy (fun _ => rfl) rfl
theorem OpP.gtr {x y : Operand} {t u : TypeId} {k : IntKind} {a b : Int} (hx : ev env x = some (.int k a)) (hy : ev env y = some (.int k b)) : OpP P ⟨dst, .binOp .gtr t x y u, ty, pos, after, g⟩ env (.bool (decide (b < a))) := OpP.cmp hx hy (fun _ => rfl) rfl
theorem OpP.geq {x y : Operand} {t u : TypeId} {k : IntKind} {a b : Int} (hx : ev env x = some (.int k a)) (hy : ev env y = some (.int k b)) : OpP P ⟨dst, .binOp .geq t x y u, ty, pos, after, g⟩ env (.bool (decide (b ≤ a))) := OpP.cmp hx hy (fun _ => rfl) rfl
theorem OpP.eql {x y : Operand} {t u : TypeId} {k : IntKind} {a b : Int} (hx : ev env x = some (.int k a)) (hy : ev env y = some (.int k b)) : OpP P ⟨dst, .binOp .eql t x y u, ty, pos, after, g⟩ env (.bool (decide (a = b))) := OpP.cmp hx hy (fun _ => by simp [Op.intCmp]; by_cases h : a = b <;> simp [h]) rfl
theorem OpP.neq {x y : Operand} {t u : TypeId} {k : IntKind} {a b : Int} (hx : ev env x = some (.int k a)) (hy : ev env y = some (.int k b)) : OpP P ⟨dst, .binOp .neq t x y u, ty, pos, after, g⟩ env (.bool (decide (a ≠ b))) := OpP.cmp hx hy (fun _ => by simp [Op.intCmp, bne]; by_cases h : a = b <;> simp [h]) rfl

theorem OpP.add {x y : Operand} {t u : TypeId} {k : IntKind} {a b : Int} (hx : ev env x = some (.int k a)) (hy : ev env y = some (.int k b)) : OpP P ⟨dst, .binOp .add t x y u, ty, pos, after, g⟩ env (.int k (k.wrap (a + b))) := OpP.bin hx hy fun w => by simp [binOp, Op.intArith]
theorem OpP.sub {x y : Operand} {t u : TypeId} {k : IntKind} {a b : Int} (hx : ev env x = some (.int k a)) (hy : ev env y = some (.int k b)) : OpP P ⟨dst, .binOp .sub t x y u, ty, pos, after, g⟩ env (.int k (k.wrap (a - b))) := OpP.bin hx hy fun w => by simp [binOp, Op.intArith]
theorem OpP.mul {x y : Operand} {t u : TypeId} {k : IntKind} {a b : Int} (hx : ev env x = some (.int k a)) (hy : ev env y = some (.int k b)) : OpP P ⟨dst, .binOp .mul t x y u, ty, pos, after, g⟩ env (.int k (k.wrap (a * b))) := OpP.bin hx hy fun w => by simp [binOp, Op.intArith]
theorem OpP.quo {x y : Operand} {t u : TypeId} {k : IntKind} {a b : Int} (hx : ev env x = some (.int k a)) (hy : ev env y = some (.int k b)) (h : b ≠ 0) : OpP P ⟨dst, .binOp .quo t x y u, ty, pos, after, g⟩ env (.int k (k.wrap (a.tdiv b))) := OpP.bin hx hy fun w => by simp [binOp, Op.intDiv, h]
theorem OpP.rem {x y : Operand} {t u : TypeId} {k : IntKind} {a b : Int} (hx : ev env x = some (.int k a)) (hy : ev env y = some (.int k b)) (h : b ≠ 0) : OpP P ⟨dst, .binOp .rem t x y u, ty, pos, after, g⟩ env (.int k (a.tmod b)) := OpP.bin hx hy fun w => by simp [binOp, Op.intDiv, h]
theorem OpP.bits {op : BinOp} {x y : Operand} {t u : TypeId} {k : IntKind} {a b : Int} {v : Value} (hx : ev env x = some (.int k a)) (hy : ev env y = some (.int k b)) (hop : (match op with | .and | .or | .xor | .andNot => true | _ => false) = true)
    (hv : ∀ w, (Op.intBits op k a b).run P w = .ok v w) : OpP P ⟨dst, .binOp op t x y u, ty, pos, after, g⟩ env v := by
  refine OpP.bin hx hy fun w => ?_
  cases op <;> first | (simp at hop; done) | (simp [binOp, hv])
theorem OpP.shift {op : BinOp} {x y : Operand} {t u : TypeId} {k k' : IntKind} {a b : Int} {v : Value} (hx : ev env x = some (.int k a)) (hy : ev env y = some (.int k' b)) (hop : (match op with | .shl | .shr => true | _ => false) = true)
    (hv : ∀ w, (Op.shift op k a k' b).run P w = .ok v w) : OpP P ⟨dst, .binOp op t x y u, ty, pos, after, g⟩ env v := by
  refine OpP.bin hx hy fun w => ?_
  cases op <;> first | (simp at hop; done) | (simp [binOp, hv])

/-- Another spelling of the value. -/
theorem OpP.as {o : Oper} {v v' : Value} (h : OpP P o env v) (e : v = v') : OpP P o env v' := e ▸ h

theorem OpP.str {op : BinOp} {x y : Operand} {t u : TypeId} {a b : ByteArray} {v : Value} (hx : ev env x = some (.string a)) (hy : ev env y = some (.string b))
    (hv : ∀ w, (Op.stringOp op a b).run P w = .ok v w) (hop : (match op with | .shl | .shr => false | _ => true) = true) : OpP P ⟨dst, .binOp op t x y u, ty, pos, after, g⟩ env v := by
  refine ⟨?_⟩
  intro ρ hr w
  have hx' := hr x (by simp [Op.operands]) _ hx
  have hy' := hr y (by simp [Op.operands]) _ hy
  have hg : (eqGuard op t x y (.string a) (.string b)).run P w = .ok () w := by
    unfold eqGuard
    split <;> simp
  have hb : (binOp op t (.string a) (.string b)).run P w = .ok v w := by
    cases op <;> first | (simp at hop; done) | (simp [binOp, hv])
  simp [execOp, hx', hy', hg, hb]

theorem OpP.conv {x : Operand} {s d : TypeId} {k k' : IntKind} {a : Int} {ks : IntKind} [hs : IntT P s ks] [hd : IntT P d k'] (hx : ev env x = some (.int k a)) : OpP P ⟨dst, .convert s d x, ty, pos, after, g⟩ env (.int k' (k'.wrap a)) := by
  refine ⟨?_⟩
  intro ρ hr w
  have hx' := hr x (by simp [Op.operands]) _ hx
  simp [execOp, hx', convert, run_underlying hs.h, run_underlying hd.h, Conv.intToInt]

theorem OpP.convStr {x : Operand} {s d : TypeId} {a : ByteArray} [hs : StrT P s] [hd : StrT P d] (hx : ev env x = some (.string a)) : OpP P ⟨dst, .convert s d x, ty, pos, after, g⟩ env (.string a) := by
  refine ⟨?_⟩
  intro ρ hr w
  have hx' := hr x (by simp [Op.operands]) _ hx
  simp [execOp, hx', convert, run_underlying hs.h, run_underlying hd.h]

theorem OpP.makeFunc {fn : Fn} {first captured : List Operand} {fs cs : List Value} (h1 : evs env first = some fs) (h2 : evs env captured = some cs) : OpP P ⟨dst, .makeFunc fn first.toArray captured.toArray, ty, pos, after, g⟩ env (.func fn fs.toArray cs.toArray) := by
  refine ⟨?_⟩
  intro ρ hr w
  have e1 := Rds.evs (ρ := ρ) (fun x hx => hr x (by simp [Op.operands, hx])) h1
  have e2 := Rds.evs (ρ := ρ) (fun x hx => hr x (by simp [Op.operands, hx])) h2
  simp [execOp, Instr.makeFunc, e1, e2]

theorem OpP.arrPtr {x : Operand} {t n e sz len cap : Nat} {a : Option Addr} [hs : Ar P t n e sz] (hx : ev env x = some (.slice a len cap)) (h : n ≤ len) : OpP P ⟨dst, .sliceToArrayPointer t x, ty, pos, after, g⟩ env (.pointer a) := by
  refine ⟨?_⟩
  intro ρ hr w
  have hx' := hr x (by simp [Op.operands]) _ hx
  have : ¬ len < n := by omega
  simp [execOp, hx', Instr.arrayAt, run_underlying hs.und, this]
end

end Go.Gp
