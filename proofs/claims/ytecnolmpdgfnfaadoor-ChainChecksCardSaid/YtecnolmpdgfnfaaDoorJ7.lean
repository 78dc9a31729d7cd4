/- A text of the proof of a statement about the given program: whole numbers, strings, returns. No person has read it. -/
import Derived.Test.YtecnolmpdgfnfaaDoorJ6
namespace Go.Gp
open Go Go.RowKit

theorem wrap_id {k : IntKind} {n : Int} (h1 : k.min ≤ n) (h2 : n ≤ k.max) : k.wrap n = n := by
  cases k <;> simp [IntKind.wrap, IntKind.min, IntKind.max, IntKind.signed, IntKind.bits] at h1 h2 ⊢ <;> first | omega | (split <;> omega)

section
variable {P : Program} {env : Env} {dst : Option Tmp} {ty : TypeId} {pos : String} {after : Array Edge} {g : Option (Nat × Bool)}
theorem OpP.addI {x y : Operand} {t u : TypeId} {a b : Int} (hx : ev env x = some (.int .i64 a)) (hy : ev env y = some (.int .i64 b)) (h1 : -9223372036854775808 ≤ a + b) (h2 : a + b ≤ 9223372036854775807) : OpP P ⟨dst, .binOp .add t x y u, ty, pos, after, g⟩ env (.int .i64 (a + b)) :=
  (OpP.add hx hy).as (by rw [wrap_id (k := .i64)] <;> simp [IntKind.min, IntKind.max, IntKind.signed, IntKind.bits] <;> omega)
theorem OpP.subI {x y : Operand} {t u : TypeId} {a b : Int} (hx : ev env x = some (.int .i64 a)) (hy : ev env y = some (.int .i64 b)) (h1 : -9223372036854775808 ≤ a - b) (h2 : a - b ≤ 9223372036854775807) : OpP P ⟨dst, .binOp .sub t x y u, ty, pos, after, g⟩ env (.int .i64 (a - b)) :=
  (OpP.sub hx hy).as (by rw [wrap_id (k := .i64)] <;> simp [IntKind.min, IntKind.max, IntKind.signed, IntKind.bits] <;> omega)
theorem OpP.mulI {x y : Operand} {t u : TypeId} {a b : Int} (hx : ev env x = some (.int .i64 a)) (hy : ev env y = some (.int .i64 b)) (h1 : -9223372036854775808 ≤ a * b) (h2 : a * b ≤ 9223372036854775807) : OpP P ⟨dst, .binOp .mul t x y u, ty, pos, after, g⟩ env (.int .i64 (a * b)) :=
  (OpP.mul hx hy).as (by rw [wrap_id (k := .i64)] <;> simp [IntKind.min, IntKind.max, IntKind.signed, IntKind.bits] <;> omega)
theorem OpP.remI {x y : Operand} {t u : TypeId} {k : IntKind} {a b : Int} (hx : ev env x = some (.int k a)) (hy : ev env y = some (.int k b)) (h0 : 0 ≤ a) (h : 0 < b) : OpP P ⟨dst, .binOp .rem t x y u, ty, pos, after, g⟩ env (.int k (a % b)) :=
  (OpP.rem hx hy (by omega)).as (by rw [Int.tmod_eq_emod_of_nonneg h0])
theorem OpP.quoI {x y : Operand} {t u : TypeId} {k : IntKind} {a b : Int} (hx : ev env x = some (.int k a)) (hy : ev env y = some (.int k b)) (h0 : 0 ≤ a) (h : 0 < b) (h1 : a ≤ k.max) : OpP P ⟨dst, .binOp .quo t x y u, ty, pos, after, g⟩ env (.int k (a / b)) :=
  (OpP.quo hx hy (by omega)).as (by
    rw [Int.tdiv_eq_ediv_of_nonneg h0]
    have hd : 0 ≤ a / b := Int.ediv_nonneg h0 (by omega)
    have hd2 : a / b ≤ a := Int.ediv_le_self b h0
    have hmin : k.min ≤ 0 := by cases k <;> decide
    rw [wrap_id (k := k)] <;> omega)
/-- Widening, or a number that fits. -/
theorem OpP.convI {x : Operand} {s d : TypeId} {k k' ks : IntKind} {a : Int} [IntT P s ks] [IntT P d k'] (hx : ev env x = some (.int k a)) (h1 : k'.min ≤ a) (h2 : a ≤ k'.max) : OpP P ⟨dst, .convert s d x, ty, pos, after, g⟩ env (.int k' a) :=
  (OpP.conv (ks := ks) hx).as (by rw [wrap_id h1 h2])
theorem OpP.convI64 {x : Operand} {s d : TypeId} {k ks : IntKind} {a : Int} [IntT P s ks] [IntT P d .i64] (hx : ev env x = some (.int k a)) (h1 : -9223372036854775808 ≤ a) (h2 : a ≤ 9223372036854775807) : OpP P ⟨dst, .convert s d x, ty, pos, after, g⟩ env (.int .i64 a) :=
  (OpP.convI (ks := ks) hx (by simpa [IntKind.min, IntKind.signed, IntKind.bits] using h1) (by simpa [IntKind.max, IntKind.signed, IntKind.bits] using h2))

/-! Slicing. -/
theorem run_sliceBounds (w : World) {isS : Bool} {len cap l h : Nat} {lo hi : Option Value} (hlo : lo = none ∧ l = 0 ∨ ∃ k, lo = some (.int k (l : Int))) (hhi : hi = none ∧ h = len ∨ ∃ k, hi = some (.int k (h : Int))) (h1 : l ≤ h) (h2 : h ≤ cap) :
    (Instr.sliceBounds isS len cap lo hi none).run P w = .ok (l, h, cap) w := by
  rcases hlo with ⟨rfl, rfl⟩ | ⟨k, rfl⟩ <;> rcases hhi with ⟨rfl, rfl⟩ | ⟨k', rfl⟩ <;> simp [Instr.sliceBounds, Instr.sliceBound, asIntOf, h1, h2]

def sliceV (b o sz l h _len cap : Nat) : Value := .slice (some ⟨b, if cap = l then o else o + l * sz, none⟩) (h - l) (cap - l)

theorem OpP.slice {x : Operand} {lo hi : Option Operand} {vlo vhi : Option Value} {t e sz by_ b o len cap l h : Nat} [hs : Sl P t e sz by_] (hx : ev env x = some (.slice (some ⟨b, o, none⟩) len cap))
    (elo : lo.map (ev env) = vlo.map some) (ehi : hi.map (ev env) = vhi.map some)
    (hlo : vlo = none ∧ l = 0 ∨ ∃ k, vlo = some (.int k (l : Int))) (hhi : vhi = none ∧ h = len ∨ ∃ k, vhi = some (.int k (h : Int))) (h1 : l ≤ h) (h2 : h ≤ cap) :
    OpP P ⟨dst, .slice t x lo hi none, ty, pos, after, g⟩ env (.slice (some ⟨b, if cap = l then o else o + l * sz, none⟩) (h - l) (cap - l)) := by
  refine ⟨?_⟩
  intro ρ hr w
  have hx' := hr x (by simp [Op.operands]) _ hx
  have e1 : lo.map ρ = vlo := by
    cases lo with
    | none => cases vlo <;> simp at elo ⊢
    | some a => cases vlo with
      | none => simp at elo
      | some u => simp at elo; simp [hr a (by simp [Op.operands]) u elo]
  have e2 : hi.map ρ = vhi := by
    cases hi with
    | none => cases vhi <;> simp at ehi ⊢
    | some a => cases vhi with
      | none => simp at ehi
      | some u => simp at ehi; simp [hr a (by simp [Op.operands]) u ehi]
  obtain ⟨i, hi1, hi2, _, _⟩ := hs.inf
  have hb := run_sliceBounds (P := P) (isS := true) w hlo hhi h1 h2
  simp only [execOp, hx', e1, e2, Option.map_none, Instr.sliceAt, Sem.run_bind, run_underlying hs.und, Result.andThen_ok, Instr.slice, hb, run_sizeOf_info w hi1, hi2, Sem.run_pure]
  congr 3
  split
  · rfl
  · simp [addr_add]

theorem OpP.sliceStr {x : Operand} {lo hi : Option Operand} {vlo vhi : Option Value} {t l h : Nat} {s : ByteArray} [hs : StrT P t] (hx : ev env x = some (.string s))
    (elo : lo.map (ev env) = vlo.map some) (ehi : hi.map (ev env) = vhi.map some)
    (hlo : vlo = none ∧ l = 0 ∨ ∃ k, vlo = some (.int k (l : Int))) (hhi : vhi = none ∧ h = s.size ∨ ∃ k, vhi = some (.int k (h : Int))) (h1 : l ≤ h) (h2 : h ≤ s.size) :
    OpP P ⟨dst, .slice t x lo hi none, ty, pos, after, g⟩ env (.string (s.extract l h)) := by
  refine ⟨?_⟩
  intro ρ hr w
  have hx' := hr x (by simp [Op.operands]) _ hx
  have e1 : lo.map ρ = vlo := by
    cases lo with
    | none => cases vlo <;> simp at elo ⊢
    | some a => cases vlo with
      | none => simp at elo
      | some u => simp at elo; simp [hr a (by simp [Op.operands]) u elo]
  have e2 : hi.map ρ = vhi := by
    cases hi with
    | none => cases vhi <;> simp at ehi ⊢
    | some a => cases vhi with
      | none => simp at ehi
      | some u => simp at ehi; simp [hr a (by simp [Op.operands]) u ehi]
  have hb := run_sliceBounds (P := P) (isS := false) w hlo hhi h1 h2
  simp only [execOp, hx', e1, e2, Option.map_none, Instr.sliceAt, Sem.run_bind, run_underlying hs.h, Result.andThen_ok, Instr.slice, Option.isSome_none, Bool.false_eq_true, if_false, Sem.run_pure]
  rw [show (Sem.run P (Instr.sliceBounds false s.size s.size vlo vhi none) w) = _ from hb]
  rfl

theorem OpP.sliceA {x : Operand} {lo hi : Option Operand} {vlo vhi : Option Value} {t n e sz b o l h : Nat} [hs : Ar P t n e sz] (hx : ev env x = some (.pointer (some ⟨b, o, none⟩)))
    (elo : lo.map (ev env) = vlo.map some) (ehi : hi.map (ev env) = vhi.map some)
    (hlo : vlo = none ∧ l = 0 ∨ ∃ k, vlo = some (.int k (l : Int))) (hhi : vhi = none ∧ h = n ∨ ∃ k, vhi = some (.int k (h : Int))) (h1 : l ≤ h) (h2 : h ≤ n) :
    OpP P ⟨dst, .slice t x lo hi none, ty, pos, after, g⟩ env (.slice (some ⟨b, if n = l then o else o + l * sz, none⟩) (h - l) (n - l)) := by
  refine ⟨?_⟩
  intro ρ hr w
  have hx' := hr x (by simp [Op.operands]) _ hx
  have e1 : lo.map ρ = vlo := by
    cases lo with
    | none => cases vlo <;> simp at elo ⊢
    | some a => cases vlo with
      | none => simp at elo
      | some u => simp at elo; simp [hr a (by simp [Op.operands]) u elo]
  have e2 : hi.map ρ = vhi := by
    cases hi with
    | none => cases vhi <;> simp at ehi ⊢
    | some a => cases vhi with
      | none => simp at ehi
      | some u => simp at ehi; simp [hr a (by simp [Op.operands]) u ehi]
  obtain ⟨i, hi1, hi2, _⟩ := hs.inf
  have hb := run_sliceBounds (P := P) (isS := false) w hlo hhi h1 h2
  simp only [execOp, hx', e1, e2, Option.map_none, Instr.sliceAt, Sem.run_bind, run_underlying hs.und, Result.andThen_ok, Instr.sureAddr, hb, run_sizeOf_info w hi1, hi2, Sem.run_pure]
  congr 3
  split
  · rfl
  · simp [addr_add]

/-! Pointers against nil; strings. -/
def plainOp : Value → Value → Bool
  | .nilIface, .nilIface => false
  | .agg _, .agg _ => false
  | _, _ => true

theorem eqGuard_ok {op : BinOp} {t : TypeId} {x y : Operand} {a b : Value} {w : World} (h : plainOp a b = true) : (eqGuard op t x y a b).run P w = .ok () w := by
  cases a <;> first
    | (unfold eqGuard; split <;> rfl)
    | (cases b <;> first
        | (simp [plainOp] at h; done)
        | (unfold eqGuard; split <;> rfl))

theorem OpP.eqGen {op : BinOp} {x y : Operand} {t u : TypeId} {a b v : Value} (hx : ev env x = some a) (hy : ev env y = some b) (h : plainOp a b = true)
    (hrun : ∀ w, (binOp op t a b).run P w = .ok v w) : OpP P ⟨dst, .binOp op t x y u, ty, pos, after, g⟩ env v := by
  refine ⟨?_⟩
  intro ρ hr w
  have hx' := hr x (by simp [Op.operands]) _ hx
  have hy' := hr y (by simp [Op.operands]) _ hy
  simp only [execOp, hx', hy', Sem.run_bind, eqGuard_ok (P := P) (op := op) (t := t) (x := x) (y := y) (w := w) h, Result.andThen_ok, hrun, Sem.run_pure]

theorem OpP.eqPtrNil {x y : Operand} {t u e : TypeId} {p : Option Addr} [ht : PtrT P t e] (hx : ev env x = some (.pointer p)) (hy : ev env y = some (.pointer none)) : OpP P ⟨dst, .binOp .eql t x y u, ty, pos, after, g⟩ env (.bool p.isNone) :=
  OpP.eqGen hx hy rfl fun w => by rw [run_eql_pointer_nil w t p (by simp [Program.pointee, ht.h])]

theorem OpP.nePtrNil {x y : Operand} {t u e : TypeId} {p : Option Addr} [ht : PtrT P t e] (hx : ev env x = some (.pointer p)) (hy : ev env y = some (.pointer none)) : OpP P ⟨dst, .binOp .neq t x y u, ty, pos, after, g⟩ env (.bool (!p.isNone)) :=
  OpP.eqGen hx hy rfl fun w => by rw [run_neq_pointer_nil w t p (by simp [Program.pointee, ht.h])]

theorem bytes_toList_eq (a b : ByteArray) : (a.toList == b.toList) = decide (a = b) := by
  by_cases h : a = b
  · subst h; simp
  · have hne : a.toList ≠ b.toList := by
      intro e
      apply h
      have e1 : a.toList = a.data.toList := by
        exact ByteArray.toList_eq a
      have e2 : b.toList = b.data.toList := by
        exact ByteArray.toList_eq b
      rw [e1, e2] at e
      cases a; cases b; simp at e ⊢; exact e
    simp [h, hne]

theorem OpP.eqStr {x y : Operand} {t u : TypeId} {a b : ByteArray} (hx : ev env x = some (.string a)) (hy : ev env y = some (.string b)) : OpP P ⟨dst, .binOp .eql t x y u, ty, pos, after, g⟩ env (.bool (decide (a = b))) :=
  OpP.str hx hy (fun w => by simp [Op.stringOp, bytes_toList_eq]) rfl
theorem OpP.neStr {x y : Operand} {t u : TypeId} {a b : ByteArray} (hx : ev env x = some (.string a)) (hy : ev env y = some (.string b)) : OpP P ⟨dst, .binOp .neq t x y u, ty, pos, after, g⟩ env (.bool (decide (a ≠ b))) :=
  OpP.str hx hy (fun w => by simp [Op.stringOp, bytes_toList_eq]) rfl
theorem OpP.eqBool {x y : Operand} {t u : TypeId} {a b : Bool} [ht : BoolT P t] (hx : ev env x = some (.bool a)) (hy : ev env y = some (.bool b)) : OpP P ⟨dst, .binOp .eql t x y u, ty, pos, after, g⟩ env (.bool (decide (a = b))) :=
  OpP.eqGen hx hy rfl fun w => by rw [run_eql_bool w t a b ht.h]; cases a <;> cases b <;> rfl
theorem OpP.neBool {x y : Operand} {t u : TypeId} {a b : Bool} [ht : BoolT P t] (hx : ev env x = some (.bool a)) (hy : ev env y = some (.bool b)) : OpP P ⟨dst, .binOp .neq t x y u, ty, pos, after, g⟩ env (.bool (decide (a ≠ b))) :=
  OpP.eqGen hx hy rfl fun w => by rw [run_neq_bool w t a b ht.h]; cases a <;> cases b <;> rfl
end

theorem run_loadVar_agg {P : Program} {w0 : World} {l : List HProp} {t n b o : Nat} {vs : List Value} [Agg P t n] (hc : Cells w0 l b o vs) (hn : vs.length = n) : ∀ w, Own w0 w l → (loadVar t ⟨b, o, none⟩).run P w = .ok (.agg vs.toArray) w := by
  intro w ho
  have hl := run_loadCells_list (P := P) w ⟨b, o, none⟩ vs (fun j v hv => by rw [addr_add]; exact hc w ho j v hv)
  rw [hn] at hl
  simp [loadVar, run_isAgg_agg, run_sizeOf_agg, hl]
theorem run_loadVar_one {P : Program} {w0 : World} {l : List HProp} {t : Nat} {ad : Addr} {v : Value} [One P t] (hc : Cell w0 l ad v) : ∀ w, Own w0 w l → (loadVar t ad).run P w = .ok v w := by
  intro w ho
  simp [loadVar, run_isAgg_one, run_load, hc w ho]

section
variable {C : Cx} {k : List Item} {env : Env} {l : List HProp}
theorem J.ret0 (hx : C.fn.results = #[]) (h : C.R (.tuple #[]) l) : J C (.code .ret :: k) env l := J.ret (ResOk.of (xs := []) hx .nil) h
theorem J.ret1 {t : Tmp} {v : Value} (hx : C.fn.results = #[.tmp t]) (h1 : Env.get env t = some v) (h : C.R v l) : J C (.code .ret :: k) env l := J.ret (ResOk.of (xs := [_]) hx (.tmp h1 .nil)) h
theorem J.ret2 {t u : Tmp} {v v2 : Value} (hx : C.fn.results = #[.tmp t, .tmp u]) (h1 : Env.get env t = some v) (h2 : Env.get env u = some v2) (h : C.R (.tuple #[v, v2]) l) : J C (.code .ret :: k) env l := J.ret (ResOk.of (xs := [_, _]) hx (.tmp h1 (.tmp h2 .nil))) h
theorem J.ret3 {t u s : Tmp} {v v2 v3 : Value} (hx : C.fn.results = #[.tmp t, .tmp u, .tmp s]) (h1 : Env.get env t = some v) (h2 : Env.get env u = some v2) (h3 : Env.get env s = some v3) (h : C.R (.tuple #[v, v2, v3]) l) : J C (.code .ret :: k) env l := J.ret (ResOk.of (xs := [_, _, _]) hx (.tmp h1 (.tmp h2 (.tmp h3 .nil)))) h
theorem J.retC {t ty n b o : Nat} {vs : List Value} (hx : C.fn.results = #[.cell t ty]) (h1 : Env.get env t = some (.pointer (some ⟨b, o, none⟩))) [Agg C.P ty n] (hc : Cells C.w0 l b o vs) (hn : vs.length = n) (h : C.R (.agg vs.toArray) l) : J C (.code .ret :: k) env l :=
  J.ret (ResOk.of (xs := [_]) hx (.cell h1 (run_loadVar_agg hc hn) .nil)) h
theorem J.retC2 {t u ty n b o : Nat} {vs : List Value} {v2 : Value} (hx : C.fn.results = #[.cell t ty, .tmp u]) (h1 : Env.get env t = some (.pointer (some ⟨b, o, none⟩))) [Agg C.P ty n] (hc : Cells C.w0 l b o vs) (hn : vs.length = n) (h2 : Env.get env u = some v2) (h : C.R (.tuple #[.agg vs.toArray, v2]) l) : J C (.code .ret :: k) env l :=
  J.ret (ResOk.of (xs := [_, _]) hx (.cell h1 (run_loadVar_agg hc hn) (.tmp h2 .nil))) h
theorem J.retC3 {t u s ty n b o : Nat} {vs : List Value} {v2 v3 : Value} (hx : C.fn.results = #[.cell t ty, .tmp u, .tmp s]) (h1 : Env.get env t = some (.pointer (some ⟨b, o, none⟩))) [Agg C.P ty n] (hc : Cells C.w0 l b o vs) (hn : vs.length = n) (h2 : Env.get env u = some v2) (h3 : Env.get env s = some v3) (h : C.R (.tuple #[.agg vs.toArray, v2, v3]) l) : J C (.code .ret :: k) env l :=
  J.ret (ResOk.of (xs := [_, _, _]) hx (.cell h1 (run_loadVar_agg hc hn) (.tmp h2 (.tmp h3 .nil)))) h
theorem J.fin0 (hx : C.fn.results = #[]) (h : C.R (.tuple #[]) l) : J C [] env l := J.fin (ResOk.of (xs := []) hx .nil) h
end

/-! Tests. -/
section
variable {C : Cx} {ops rest : List Oper} {o : Oper} {k : List Item} {env : Env} {l : List HProp} {d : Tmp} {op : Op} {ty : TypeId} {pos : String} {after : Array Edge} {g : Option (Nat × Bool)}

theorem JL.dec {p : Prop} [Decidable p] (hg : Gd ops env g = some true) (hd : Nat.blt d C.n = true) (hop : OpP C.P ⟨some d, op, ty, pos, after, g⟩ env (.bool (decide p))) (h1 : p → JL C ops rest k ((d, .bool true) :: env) l) (h2 : ¬ p → JL C ops rest k ((d, .bool false) :: env) l) : JL C ops (⟨some d, op, ty, pos, after, g⟩ :: rest) k env l := by
  by_cases hp : p
  · refine JL.pure hg hd (v := .bool true) (by simpa [hp] using hop) (h1 hp)
  · refine JL.pure hg hd (v := .bool false) (by simpa [hp] using hop) (h2 hp)
theorem JL.decT {p : Prop} [Decidable p] (hg : Gd ops env g = some true) (hd : Nat.blt d C.n = true) (hop : OpP C.P ⟨some d, op, ty, pos, after, g⟩ env (.bool (decide p))) (hp : p) (h : JL C ops rest k ((d, .bool true) :: env) l) : JL C ops (⟨some d, op, ty, pos, after, g⟩ :: rest) k env l :=
  JL.dec hg hd hop (fun _ => h) (fun hn => absurd hp hn)
theorem JL.decF {p : Prop} [Decidable p] (hg : Gd ops env g = some true) (hd : Nat.blt d C.n = true) (hop : OpP C.P ⟨some d, op, ty, pos, after, g⟩ env (.bool (decide p))) (hp : ¬ p) (h : JL C ops rest k ((d, .bool false) :: env) l) : JL C ops (⟨some d, op, ty, pos, after, g⟩ :: rest) k env l :=
  JL.dec hg hd hop (fun hn => absurd hn hp) (fun _ => h)
theorem JL.bool {c : Bool} (hg : Gd ops env g = some true) (hd : Nat.blt d C.n = true) (hop : OpP C.P ⟨some d, op, ty, pos, after, g⟩ env (.bool c)) (h1 : c = true → JL C ops rest k ((d, .bool true) :: env) l) (h2 : c = false → JL C ops rest k ((d, .bool false) :: env) l) : JL C ops (⟨some d, op, ty, pos, after, g⟩ :: rest) k env l := by
  cases c
  · exact JL.pure hg hd hop (h2 rfl)
  · exact JL.pure hg hd hop (h1 rfl)
end

end Go.Gp
