/- A text of the proof of a statement about the given program: its part DA1. No person has read it. -/
import Derived.Test.YtgaemhkglmeooaaDInstM
import Derived.Test.YtgaemhkglmeooaaDJ2
import Derived.Lib.Bytealg
-- seat d
namespace Go.Proofs.D
open Go Go.Gp Go.RowKit

abbrev Pl := Int × Int × List UInt8
/-- A value's cells. -/
abbrev vcl (k i : Int) (s : List UInt8) (l : Value) : List Value := [.int .i64 k, .int .i64 i, .string (strB s), l]
def ordI (a b : Int) : Int := if a < b then -1 else if b < a then 1 else 0
def ordB : List UInt8 → List UInt8 → Int
  | [], [] => 0
  | [], _ :: _ => -1
  | _ :: _, [] => 1
  | a :: xs, b :: ys => if a < b then -1 else if b < a then 1 else ordB xs ys
theorem ordB_eq : ∀ a b : List UInt8, ordB a b = Lib.compareBytes a b
  | [], [] => rfl
  | [], _ :: _ => rfl
  | _ :: _, [] => rfl
  | a :: xs, b :: ys => by unfold ordB Lib.compareBytes; rw [ordB_eq xs ys]
theorem nan_ok {w0 : World} {F : List HProp} {a : Int} :
    FnO Try.prog w0 50 [.int .i64 a] F (fun r l' => r = .bool false ∧ l' = F) := by
  refine FnO.intro (n := 6) Try.func50 rfl rfl rfl ?_
  refine J.seq ?_
  refine J.region ?_
  refine JL.pure rfl rfl (OpP.assign rfl) ?_
  refine JL.nil ?_
  refine J.seq ?_
  refine J.region ?_
  refine JL.pure rfl rfl (OpP.move rfl) ?_
  refine JL.pure rfl rfl (OpP.move rfl) ?_
  refine JL.decF rfl rfl (OpP.neq rfl rfl) (by omega) ?_
  refine JL.pure rfl rfl (OpP.assign rfl) ?_
  refine JL.nil ?_
  refine J.ret1 rfl rfl ?_
  exact ⟨rfl, rfl⟩
theorem nan64_ok {w0 : World} {F : List HProp} {a : Int} :
    FnO Try.prog w0 51 [.int .i64 a] F (fun r l' => r = .bool false ∧ l' = F) := by
  refine FnO.intro (n := 6) Try.func51 rfl rfl rfl ?_
  refine J.seq ?_
  refine J.region ?_
  refine JL.pure rfl rfl (OpP.assign rfl) ?_
  refine JL.nil ?_
  refine J.seq ?_
  refine J.region ?_
  refine JL.pure rfl rfl (OpP.move rfl) ?_
  refine JL.pure rfl rfl (OpP.move rfl) ?_
  refine JL.decF rfl rfl (OpP.neq rfl rfl) (by omega) ?_
  refine JL.pure rfl rfl (OpP.assign rfl) ?_
  refine JL.nil ?_
  refine J.ret1 rfl rfl ?_
  exact ⟨rfl, rfl⟩
theorem compare_ok {w0 : World} {F : List HProp} {a b : Int} :
    FnO Try.prog w0 46 [.int .i64 a, .int .i64 b] F (fun r l' => r = .int .i64 (ordI a b) ∧ l' = F) := by
  refine FnO.intro (n := 20) Try.func46 rfl rfl rfl ?_
  refine J.seq ?_
  refine J.region ?_
  refine JL.pure rfl rfl (OpP.assign rfl) ?_
  refine JL.nil ?_
  refine J.seq ?_
  refine J.region ?_
  refine JL.pure rfl rfl (OpP.move rfl) ?_
  refine JL.step rfl rfl (OpW.call (first := []) (captured := []) inferInstance rfl rfl nan_ok) ?_; rintro r8 _ ⟨rfl, rfl⟩
  refine JL.pure rfl rfl (OpP.assign rfl) ?_
  refine JL.nil ?_
  refine J.seq ?_
  refine J.region ?_
  refine JL.pure rfl rfl (OpP.move rfl) ?_
  refine JL.step rfl rfl (OpW.call (first := []) (captured := []) inferInstance rfl rfl nan_ok) ?_; rintro r10 _ ⟨rfl, rfl⟩
  refine JL.pure rfl rfl (OpP.assign rfl) ?_
  refine JL.nil ?_
  refine J.seq ?_
  refine J.seq ?_
  refine J.region ?_
  refine JL.pure rfl rfl (OpP.move rfl) ?_
  refine JL.nil ?_
  refine J.condF rfl ?_
  refine J.skip ?_
  refine J.seq ?_
  refine J.seq ?_
  refine J.region ?_
  refine JL.pure rfl rfl (OpP.move rfl) ?_
  refine JL.nil ?_
  refine J.condF rfl ?_
  refine J.skip ?_
  refine J.seq ?_
  refine J.seq ?_
  refine J.region ?_
  refine JL.pure rfl rfl (OpP.move rfl) ?_
  refine JL.pure rfl rfl (OpP.move rfl) ?_
  refine JL.dec rfl rfl (OpP.lss rfl rfl) (fun h16 => ?_) (fun h16 => ?_)
  focus
    refine JL.nil ?_
    refine J.condT rfl ?_
    refine J.seq ?_
    refine J.region ?_
    refine JL.pure rfl rfl (OpP.assign rfl) ?_
    refine JL.nil ?_
    refine J.ret1 rfl rfl ?_
  rotate_left 1
  focus
    refine JL.nil ?_
    refine J.condF rfl ?_
    refine J.skip ?_
    refine J.seq ?_
    refine J.seq ?_
    refine J.region ?_
    refine JL.pure rfl rfl (OpP.move rfl) ?_
    refine JL.pure rfl rfl (OpP.move rfl) ?_
    refine JL.dec rfl rfl (OpP.gtr rfl rfl) (fun h19 => ?_) (fun h19 => ?_)
    focus
      refine JL.nil ?_
      refine J.condT rfl ?_
      refine J.seq ?_
      refine J.region ?_
      refine JL.pure rfl rfl (OpP.assign rfl) ?_
      refine JL.nil ?_
      refine J.ret1 rfl rfl ?_
    rotate_left 1
    focus
      refine JL.nil ?_
      refine J.condF rfl ?_
      refine J.skip ?_
      refine J.seq ?_
      refine J.region ?_
      refine JL.pure rfl rfl (OpP.assign rfl) ?_
      refine JL.nil ?_
      refine J.ret1 rfl rfl ?_
    rotate_left 1
  rotate_left 2
  all_goals refine ⟨congrArg (Value.int .i64) ?_, rfl⟩
  all_goals (unfold ordI; repeat' split) <;> omega
theorem compare64_ok {w0 : World} {F : List HProp} {a b : Int} :
    FnO Try.prog w0 47 [.int .i64 a, .int .i64 b] F (fun r l' => r = .int .i64 (ordI a b) ∧ l' = F) := by
  refine FnO.intro (n := 20) Try.func47 rfl rfl rfl ?_
  refine J.seq ?_
  refine J.region ?_
  refine JL.pure rfl rfl (OpP.assign rfl) ?_
  refine JL.nil ?_
  refine J.seq ?_
  refine J.region ?_
  refine JL.pure rfl rfl (OpP.move rfl) ?_
  refine JL.step rfl rfl (OpW.call (first := []) (captured := []) inferInstance rfl rfl nan64_ok) ?_; rintro r8 _ ⟨rfl, rfl⟩
  refine JL.pure rfl rfl (OpP.assign rfl) ?_
  refine JL.nil ?_
  refine J.seq ?_
  refine J.region ?_
  refine JL.pure rfl rfl (OpP.move rfl) ?_
  refine JL.step rfl rfl (OpW.call (first := []) (captured := []) inferInstance rfl rfl nan64_ok) ?_; rintro r10 _ ⟨rfl, rfl⟩
  refine JL.pure rfl rfl (OpP.assign rfl) ?_
  refine JL.nil ?_
  refine J.seq ?_
  refine J.seq ?_
  refine J.region ?_
  refine JL.pure rfl rfl (OpP.move rfl) ?_
  refine JL.nil ?_
  refine J.condF rfl ?_
  refine J.skip ?_
  refine J.seq ?_
  refine J.seq ?_
  refine J.region ?_
  refine JL.pure rfl rfl (OpP.move rfl) ?_
  refine JL.nil ?_
  refine J.condF rfl ?_
  refine J.skip ?_
  refine J.seq ?_
  refine J.seq ?_
  refine J.region ?_
  refine JL.pure rfl rfl (OpP.move rfl) ?_
  refine JL.pure rfl rfl (OpP.move rfl) ?_
  refine JL.dec rfl rfl (OpP.lss rfl rfl) (fun h16 => ?_) (fun h16 => ?_)
  focus
    refine JL.nil ?_
    refine J.condT rfl ?_
    refine J.seq ?_
    refine J.region ?_
    refine JL.pure rfl rfl (OpP.assign rfl) ?_
    refine JL.nil ?_
    refine J.ret1 rfl rfl ?_
  rotate_left 1
  focus
    refine JL.nil ?_
    refine J.condF rfl ?_
    refine J.skip ?_
    refine J.seq ?_
    refine J.seq ?_
    refine J.region ?_
    refine JL.pure rfl rfl (OpP.move rfl) ?_
    refine JL.pure rfl rfl (OpP.move rfl) ?_
    refine JL.dec rfl rfl (OpP.gtr rfl rfl) (fun h19 => ?_) (fun h19 => ?_)
    focus
      refine JL.nil ?_
      refine J.condT rfl ?_
      refine J.seq ?_
      refine J.region ?_
      refine JL.pure rfl rfl (OpP.assign rfl) ?_
      refine JL.nil ?_
      refine J.ret1 rfl rfl ?_
    rotate_left 1
    focus
      refine JL.nil ?_
      refine J.condF rfl ?_
      refine J.skip ?_
      refine J.seq ?_
      refine J.region ?_
      refine JL.pure rfl rfl (OpP.assign rfl) ?_
      refine JL.nil ?_
      refine J.ret1 rfl rfl ?_
    rotate_left 1
  rotate_left 2
  all_goals refine ⟨congrArg (Value.int .i64) ?_, rfl⟩
  all_goals (unfold ordI; repeat' split) <;> omega
/-- A function of no body that compares texts. -/
theorem cmpStr {w0 : World} {F : List HProp} {a b : List UInt8} :
    FnO Try.prog w0 52 [.string (strB a), .string (strB b)] F (fun r l' => r = .int .i64 (ordB a b) ∧ l' = F) := by
  have hfn : ∃ fn, Try.prog.funcs[53]? = some fn ∧ (fn.name == "runtime.NumGoroutine") = false ∧ fn.body.isNone = true ∧ Extern.findNext fn = none ∧ Extern.find fn = some Extern.BytealgCompare.compare := by
    have h : ((Try.prog.funcs[53]?).map fun fn => (fn.name == "runtime.NumGoroutine", fn.body.isNone, (Extern.findNext fn).isNone)) = some (false, true, true) := by kernel_rfl
    cases hf : Try.prog.funcs[53]? with
    | none => rw [hf] at h; cases h
    | some fn =>
      rw [hf, Option.map_some, Option.some.injEq, Prod.mk.injEq, Prod.mk.injEq] at h
      refine ⟨fn, rfl, h.1, h.2.1, by simpa using h.2.2, ?_⟩
      have h2 : (Try.prog.funcs[53]?).map (fun fn => Extern.find fn) = some (some Extern.BytealgCompare.compare) := by kernel_rfl
      rw [hf] at h2
      exact Option.some.inj h2
  obtain ⟨fn, h1, h2, h3, h4, h5⟩ := hfn
  refine FnO.intro (n := 8) Try.func52 rfl rfl rfl ?_
  refine J.seq ?_
  refine J.region ?_
  refine JL.pure rfl rfl (OpP.assign rfl) ?_
  refine JL.nil ?_
  refine J.seq ?_
  refine J.region ?_
  refine JL.pure rfl rfl (OpP.move rfl) ?_
  refine JL.pure rfl rfl (OpP.move rfl) ?_
  refine JL.pure rfl rfl (v := .int .i64 (ordB a b)) ⟨fun ρ hr w => ?_⟩ ?_
  · have hx : ρ (.tmp 5) = _ := hr (.tmp 5) (by simp [Op.operands, Call.operands]) (.string (strB a)) rfl
    have hy : ρ (.tmp 6) = _ := hr (.tmp 6) (by simp [Op.operands, Call.operands]) (.string (strB b)) rfl
    have hf : ρ (.func 53) = _ := hr (.func 53) (by simp [Op.operands, Call.operands]) (.func (.func 53) #[] #[]) rfl
    have hcall : (callFunc 53 #[.string (strB a), .string (strB b)]).run Try.prog w = .ok (.value (.int .i64 (ordB a b))) w := by
      rw [run_callFunc_extern h1 h2 h3 h4 h5, Lib.run_compareString, ordB_eq]
      simp [strB_data]
    simp only [execOp, resolve, hf, Deferred.ofValue, List.map_toArray]
    simp [invoke, hx, hy, hcall]
  · refine JL.pure rfl rfl (OpP.assign rfl) ?_
    refine JL.nil ?_
    refine J.ret1 rfl rfl ?_
    exact ⟨rfl, rfl⟩
theorem strCompare_ok {w0 : World} {F : List HProp} {a b : List UInt8} :
    FnO Try.prog w0 48 [.string (strB a), .string (strB b)] F (fun r l' => r = .int .i64 (ordB a b) ∧ l' = F) := by
  refine FnO.intro (n := 8) Try.func48 rfl rfl rfl ?_
  refine J.seq ?_
  refine J.region ?_
  refine JL.pure rfl rfl (OpP.assign rfl) ?_
  refine JL.nil ?_
  refine J.seq ?_
  refine J.region ?_
  refine JL.pure rfl rfl (OpP.move rfl) ?_
  refine JL.pure rfl rfl (OpP.move rfl) ?_
  refine JL.step rfl rfl (OpW.call (first := []) (captured := []) inferInstance rfl rfl cmpStr) ?_; rintro r7 _ ⟨rfl, rfl⟩
  refine JL.pure rfl rfl (OpP.assign rfl) ?_
  refine JL.nil ?_
  refine J.ret1 rfl rfl ?_
  exact ⟨rfl, rfl⟩
theorem or_ok {w0 : World} {F : List HProp} {a b d : Int} {g e c : Nat} :
    FnO Try.prog w0 45 [.slice (some ⟨g, 0, none⟩) 3 c] (row g e [.int .i64 a, .int .i64 b, .int .i64 d] :: F) (fun r l' => r = .int .i64 (if a ≠ 0 then a else if b ≠ 0 then b else d) ∧ l' = row g e [.int .i64 a, .int .i64 b, .int .i64 d] :: F) := by
  refine FnO.intro (n := 18) Try.func45 rfl rfl rfl ?_
  refine J.seq ?_
  refine J.region ?_
  refine JL.pure rfl rfl (OpP.assign rfl) ?_
  refine JL.nil ?_
  refine J.seq ?_
  refine J.region ?_
  refine JL.pure rfl rfl (OpP.assign rfl) ?_
  refine JL.nil ?_
  refine J.seq ?_
  refine J.seq ?_
  refine J.region ?_
  refine JL.pure rfl rfl (OpP.move rfl) ?_
  refine JL.pure rfl rfl (OpP.len rfl rfl) ?_
  refine JL.pure rfl rfl (OpP.move rfl) ?_
  refine JL.nil ?_
  refine J.block ?_
  refine J.loop ?_
  refine J.seq ?_
  refine J.region ?_
  refine JL.decT rfl rfl (OpP.lss rfl rfl) (by omega) ?_
  refine JL.nil ?_
  refine J.seq ?_
  refine J.condT rfl ?_
  refine J.skip ?_
  refine J.seq ?_
  refine J.block ?_
  refine J.seq ?_
  refine J.region ?_
  refine JL.pure rfl rfl (OpP.indexAddr rfl rfl (by omega) (by omega)) ?_
  refine JL.read rfl rfl (OpR.load1 rfl (Cell.row .head rfl)) ?_
  refine JL.pure rfl rfl (OpP.assign rfl) ?_
  refine JL.nil ?_
  refine J.seq ?_
  refine J.region ?_
  refine JL.pure rfl rfl (OpP.move rfl) ?_
  refine JL.pure rfl rfl (OpP.move rfl) ?_
  refine JL.dec rfl rfl (OpP.neq rfl rfl) (fun h14 => ?_) (fun h14 => ?_)
  focus
    refine JL.nil ?_
    refine J.condT rfl ?_
    refine J.seq ?_
    refine J.region ?_
    refine JL.pure rfl rfl (OpP.move rfl) ?_
    refine JL.pure rfl rfl (OpP.assign rfl) ?_
    refine JL.nil ?_
    refine J.ret1 rfl rfl ?_
  rotate_left 1
  focus
    refine JL.nil ?_
    refine J.condF rfl ?_
    refine J.skip ?_
    refine J.inBlock ?_
    refine J.region ?_
    refine JL.pure rfl rfl (OpP.addI rfl rfl (by omega) (by omega)) ?_
    refine JL.pure rfl rfl (OpP.move rfl) ?_
    refine JL.nil ?_
    refine J.inLoop ?_
    refine J.seq ?_
    refine J.region ?_
    refine JL.decT rfl rfl (OpP.lss rfl rfl) (by omega) ?_
    refine JL.nil ?_
    refine J.seq ?_
    refine J.condT rfl ?_
    refine J.skip ?_
    refine J.seq ?_
    refine J.block ?_
    refine J.seq ?_
    refine J.region ?_
    refine JL.pure rfl rfl (OpP.indexAddr rfl rfl (by omega) (by omega)) ?_
    refine JL.read rfl rfl (OpR.load1 rfl (Cell.row .head rfl)) ?_
    refine JL.pure rfl rfl (OpP.assign rfl) ?_
    refine JL.nil ?_
    refine J.seq ?_
    refine J.region ?_
    refine JL.pure rfl rfl (OpP.move rfl) ?_
    refine JL.pure rfl rfl (OpP.move rfl) ?_
    refine JL.dec rfl rfl (OpP.neq rfl rfl) (fun h14 => ?_) (fun h14 => ?_)
    focus
      refine JL.nil ?_
      refine J.condT rfl ?_
      refine J.seq ?_
      refine J.region ?_
      refine JL.pure rfl rfl (OpP.move rfl) ?_
      refine JL.pure rfl rfl (OpP.assign rfl) ?_
      refine JL.nil ?_
      refine J.ret1 rfl rfl ?_
    rotate_left 1
    focus
      refine JL.nil ?_
      refine J.condF rfl ?_
      refine J.skip ?_
      refine J.inBlock ?_
      refine J.region ?_
      refine JL.pure rfl rfl (OpP.addI rfl rfl (by omega) (by omega)) ?_
      refine JL.pure rfl rfl (OpP.move rfl) ?_
      refine JL.nil ?_
      refine J.inLoop ?_
      refine J.seq ?_
      refine J.region ?_
      refine JL.decT rfl rfl (OpP.lss rfl rfl) (by omega) ?_
      refine JL.nil ?_
      refine J.seq ?_
      refine J.condT rfl ?_
      refine J.skip ?_
      refine J.seq ?_
      refine J.block ?_
      refine J.seq ?_
      refine J.region ?_
      refine JL.pure rfl rfl (OpP.indexAddr rfl rfl (by omega) (by omega)) ?_
      refine JL.read rfl rfl (OpR.load1 rfl (Cell.row .head rfl)) ?_
      refine JL.pure rfl rfl (OpP.assign rfl) ?_
      refine JL.nil ?_
      refine J.seq ?_
      refine J.region ?_
      refine JL.pure rfl rfl (OpP.move rfl) ?_
      refine JL.pure rfl rfl (OpP.move rfl) ?_
      refine JL.dec rfl rfl (OpP.neq rfl rfl) (fun h14 => ?_) (fun h14 => ?_)
      focus
        refine JL.nil ?_
        refine J.condT rfl ?_
        refine J.seq ?_
        refine J.region ?_
        refine JL.pure rfl rfl (OpP.move rfl) ?_
        refine JL.pure rfl rfl (OpP.assign rfl) ?_
        refine JL.nil ?_
        refine J.ret1 rfl rfl ?_
      rotate_left 1
      focus
        refine JL.nil ?_
        refine J.condF rfl ?_
        refine J.skip ?_
        refine J.inBlock ?_
        refine J.region ?_
        refine JL.pure rfl rfl (OpP.addI rfl rfl (by omega) (by omega)) ?_
        refine JL.pure rfl rfl (OpP.move rfl) ?_
        refine JL.nil ?_
        refine J.inLoop ?_
        refine J.seq ?_
        refine J.region ?_
        refine JL.decF rfl rfl (OpP.lss rfl rfl) (by omega) ?_
        refine JL.nil ?_
        refine J.seq ?_
        refine J.condF rfl ?_
        refine J.exit rfl ?_
        refine J.seq ?_
        refine J.region ?_
        refine JL.pure rfl rfl (OpP.move rfl) ?_
        refine JL.pure rfl rfl (OpP.assign rfl) ?_
        refine JL.nil ?_
        refine J.ret1 rfl rfl ?_
      rotate_left 1
    rotate_left 2
  rotate_left 3
  all_goals refine ⟨congrArg (Value.int .i64) ?_, rfl⟩
  all_goals (repeat' split) <;> omega
theorem cmpf_ok {w0 : World} {F : List HProp} {a a2 : Option Addr} {c c2 : Nat} {v : Value} :
    FnO Try.prog w0 49 [.slice a 0 c, .slice a2 0 c2, v] F (fun r l' => r = .int .i64 0 ∧ l' = F) := by
  refine FnO.intro (n := 39) Try.func49 rfl rfl rfl ?_
  refine J.seq ?_
  refine J.region ?_
  refine JL.pure rfl rfl (OpP.assign rfl) ?_
  refine JL.nil ?_
  refine J.seq ?_
  refine J.seq ?_
  refine J.region ?_
  refine JL.pure rfl rfl (OpP.move rfl) ?_
  refine JL.pure rfl rfl (OpP.len rfl rfl) ?_
  refine JL.pure rfl rfl (OpP.move rfl) ?_
  refine JL.nil ?_
  refine J.block ?_
  refine J.loop ?_
  refine J.seq ?_
  refine J.region ?_
  refine JL.decF rfl rfl (OpP.lss rfl rfl) (by omega) ?_
  refine JL.nil ?_
  refine J.seq ?_
  refine J.condF rfl ?_
  refine J.exit rfl ?_
  refine J.seq ?_
  refine J.seq ?_
  refine J.region ?_
  refine JL.pure rfl rfl (OpP.move rfl) ?_
  refine JL.pure rfl rfl (OpP.len rfl rfl) ?_
  refine JL.pure rfl rfl (OpP.move rfl) ?_
  refine JL.pure rfl rfl (OpP.len rfl rfl) ?_
  refine JL.decF rfl rfl (OpP.lss rfl rfl) (by omega) ?_
  refine JL.nil ?_
  refine J.condF rfl ?_
  refine J.skip ?_
  refine J.seq ?_
  refine J.region ?_
  refine JL.pure rfl rfl (OpP.assign rfl) ?_
  refine JL.nil ?_
  refine J.ret1 rfl rfl ?_
  exact ⟨rfl, rfl⟩
/-- The order of two that have no elements. -/
def ordV (k i : Int) (s : List UInt8) (k' i' : Int) (s' : List UInt8) : Int := if ordI k k' ≠ 0 then ordI k k' else if ordI i i' ≠ 0 then ordI i i' else ordB s s'
theorem order_ok {w0 : World} {F : List HProp} {k i k' i' : Int} {s s' : List UInt8} {a a2 : Option Addr} {c c2 : Nat} :
    FnO Try.prog w0 43 [.agg (vcl k i s (.slice a 0 c)).toArray, .agg (vcl k' i' s' (.slice a2 0 c2)).toArray] F (fun r l' => r = .int .i64 (ordV k i s k' i' s') ∧ l' = F) := by
  refine FnO.weak ?_
  refine FnO.intro (n := 31) Try.func43 rfl rfl rfl ?_
  refine J.seq ?_
  refine J.region ?_
  refine JL.mem rfl rfl (OpM.box rfl rfl) ?_; rintro _ _ ⟨b2, rfl, rfl⟩
  refine JL.mem rfl rfl (OpM.box rfl rfl) ?_; rintro _ _ ⟨b3, rfl, rfl⟩
  refine JL.pure rfl rfl (OpP.assign rfl) ?_
  refine JL.nil ?_
  refine J.seq ?_
  refine J.seq ?_
  refine J.regionD [1, 3, 6, 8, 11, 13] (by kernel_rfl) ?_
  refine DL.pure (i := 0) (by kernel_rfl) (by kernel_rfl) rfl rfl rfl (OpP.fieldAddr rfl) ?_
  refine DL.read (i := 1) (by kernel_rfl) (by kernel_rfl) rfl rfl rfl (fun _ h => h) (OpR.load1 rfl (Cell.row (.tail .head) rfl)) ?_
  refine DL.pure (i := 2) (by kernel_rfl) (by kernel_rfl) rfl rfl rfl (OpP.fieldAddr rfl) ?_
  refine DL.read (i := 3) (by kernel_rfl) (by kernel_rfl) rfl rfl rfl (fun _ h => h) (OpR.load1 rfl (Cell.row .head rfl)) ?_
  refine DL.pure (i := 5) (by kernel_rfl) (by kernel_rfl) rfl rfl rfl (OpP.fieldAddr rfl) ?_
  refine DL.read (i := 6) (by kernel_rfl) (by kernel_rfl) rfl rfl rfl (fun _ h => h) (OpR.load1 rfl (Cell.row (.tail .head) rfl)) ?_
  refine DL.pure (i := 7) (by kernel_rfl) (by kernel_rfl) rfl rfl rfl (OpP.fieldAddr rfl) ?_
  refine DL.read (i := 8) (by kernel_rfl) (by kernel_rfl) rfl rfl rfl (fun _ h => h) (OpR.load1 rfl (Cell.row .head rfl)) ?_
  refine DL.pure (i := 10) (by kernel_rfl) (by kernel_rfl) rfl rfl rfl (OpP.fieldAddr rfl) ?_
  refine DL.read (i := 11) (by kernel_rfl) (by kernel_rfl) rfl rfl rfl (fun _ h => h) (OpR.load1 rfl (Cell.row (.tail .head) rfl)) ?_
  refine DL.pure (i := 12) (by kernel_rfl) (by kernel_rfl) rfl rfl rfl (OpP.fieldAddr rfl) ?_
  refine DL.read (i := 13) (by kernel_rfl) (by kernel_rfl) rfl rfl rfl (fun _ h => h) (OpR.load1 rfl (Cell.row .head rfl)) ?_
  refine DL.only (i := 4) (by kernel_rfl) ?_
  refine DL1.stepK rfl rfl rfl (by exact OpW.call (first := []) (captured := []) inferInstance rfl rfl compare_ok) (by rintro _ _ ⟨rfl, rfl⟩ _ h; exact Own.pick (pre := [_, _]) [0, 1] rfl h) ?_; rintro r10 _ ⟨rfl, rfl⟩
  refine DL.only (i := 9) (by kernel_rfl) ?_
  refine DL1.stepK rfl rfl rfl (by exact OpW.call (first := []) (captured := []) inferInstance rfl rfl compare64_ok) (by rintro _ _ ⟨rfl, rfl⟩ _ h; exact Own.pick (pre := [_, _]) [0, 1] rfl h) ?_; rintro r15 _ ⟨rfl, rfl⟩
  refine DL.only (i := 14) (by kernel_rfl) ?_
  refine DL1.stepF rfl rfl rfl (by kernel_rfl) (by exact OpW.call (first := []) (captured := []) inferInstance rfl rfl strCompare_ok) ?_; rintro r20 _ ⟨rfl, rfl⟩
  refine DL.only (i := 15) (by kernel_rfl) ?_
  refine DL1.stepF rfl rfl rfl (by kernel_rfl) (OpM.w (by apply OpM.buildSlice (by rfl) rfl (by rfl); (repeat (first | exact Fills.nil | (apply Fills.cons rfl rfl rfl; (case' hs => ((repeat (first | exact Spl.nil | apply Spl.here | apply Spl.there)); done))))))) ?_; rintro _ _ ⟨b21, rfl, rfl⟩
  refine DL.only (i := 16) (by kernel_rfl) ?_
  refine DL1.stepF rfl rfl rfl (by kernel_rfl) (by exact OpW.call (first := []) (captured := []) inferInstance rfl rfl or_ok) ?_; rintro r22 _ ⟨rfl, rfl⟩
  refine DL.pure (i := 17) (by kernel_rfl) (by kernel_rfl) rfl rfl rfl (OpP.assign rfl) ?_
  refine DL.done (by kernel_rfl) ?_
  refine J.seq ?_
  refine J.region ?_
  refine JL.pure rfl rfl (OpP.move rfl) ?_
  refine JL.dec rfl rfl (OpP.neq rfl rfl) (fun h24 => ?_) (fun h24 => ?_)
  focus
    refine JL.nil ?_
    refine J.condT rfl ?_
    refine J.seq ?_
    refine J.region ?_
    refine JL.pure rfl rfl (OpP.move rfl) ?_
    refine JL.pure rfl rfl (OpP.assign rfl) ?_
    refine JL.nil ?_
    refine J.ret1 rfl rfl ?_
  rotate_left 1
  focus
    refine JL.nil ?_
    refine J.condF rfl ?_
    refine J.skip ?_
    refine J.seq ?_
    refine J.region ?_
    refine JL.pure rfl rfl (OpP.fieldAddr rfl) ?_
    refine JL.read rfl rfl (OpR.load1 rfl (Cell.row (.tail (.tail .head)) rfl)) ?_
    refine JL.pure rfl rfl (OpP.fieldAddr rfl) ?_
    refine JL.read rfl rfl (OpR.load1 rfl (Cell.row (.tail .head) rfl)) ?_
    refine JL.step rfl rfl (OpW.call (first := []) (captured := []) inferInstance rfl rfl cmpf_ok) ?_; rintro r30 _ ⟨rfl, rfl⟩
    refine JL.pure rfl rfl (OpP.assign rfl) ?_
    refine JL.nil ?_
    refine J.ret1 rfl rfl ?_
  rotate_left 1
  · exact ⟨_, ⟨rfl, rfl⟩, fun _ h => h.tail.tail.tail⟩
  · exact ⟨_, ⟨congrArg (Value.int .i64) (Decidable.not_not.1 h24).symm, rfl⟩, fun _ h => h.tail.tail.tail⟩
/-- A value in a bag. -/
structure El where
  k : Int
  i : Int
  s : List UInt8
  a : Option Addr
  n : Nat
  c : Nat
abbrev ecl (e : El) : List Value := vcl e.k e.i e.s (.slice e.a e.n e.c)
/-- What an element is from outside. -/
def El.ok (e : El) : Prop := e.s.length ≤ 1000000000
/-- Numbers are in range. -/
def InR (i : Int) (xs : List El) : Prop := (-9223372036854775808 ≤ i ∧ i ≤ 9223372036854775807) ∧ ∀ e ∈ xs, -9223372036854775808 ≤ e.i ∧ e.i ≤ 9223372036854775807
def pl (e : El) : Pl := (e.k, e.i, e.s)
/-- Are two values the same, as the reference asks? -/
def SameP (k i : Int) (s : List UInt8) (xs : List El) (k' i' : Int) (s' : List UInt8) (ys : List El) : Prop :=
  k = k' ∧ i = i' ∧ s = s' ∧ xs.length = ys.length ∧ ∀ (j : Nat) (x y : El), xs[j]? = some x → ys[j]? = some y → x.k = y.k ∧ x.i = y.i ∧ x.s = y.s ∧ x.n = 0 ∧ y.n = 0
theorem same_ok {w0 : World} {F : List HProp} {s s' : List UInt8} {k i k' i' : Int} {a a' : Option Addr} {c c' : Nat} {xs ys : List El} (hn : xs.length ≤ 9223372036854775807) (hn' : ys.length ≤ 9223372036854775807) (hr : RdO w0 F (.slice a xs.length c) xs.length (xs.flatMap ecl)) (hr' : RdO w0 F (.slice a' ys.length c') ys.length (ys.flatMap ecl)) :
    FnO Try.prog w0 37 [.agg (vcl k i s (.slice a xs.length c)).toArray, .agg (vcl k' i' s' (.slice a' ys.length c')).toArray] F (fun r l' => ∃ b, r = .bool b ∧ l' = F ∧ (b = true ↔ SameP k i s xs k' i' s' ys)) := by
  have hlen : ∀ e ∈ xs, (ecl e).length = 4 := fun _ _ => rfl
  have hlen2 : ∀ e ∈ ys, (ecl e).length = 4 := fun _ _ => rfl
  refine FnO.rdF (fun _ h => h) hr fun hr1 => ?_
  refine FnO.rdF (fun _ h => h) hr' fun hr2 => ?_
  refine FnO.weak ?_
  refine FnO.intro (n := 84) Try.func37 rfl rfl rfl ?_
  refine J.seq ?_
  refine J.region ?_
  refine JL.mem rfl rfl (OpM.box rfl rfl) ?_; rintro _ _ ⟨b2, rfl, rfl⟩
  refine JL.mem rfl rfl (OpM.box rfl rfl) ?_; rintro _ _ ⟨b3, rfl, rfl⟩
  refine JL.pure rfl rfl (OpP.assign rfl) ?_
  refine JL.nil ?_
  refine J.seq ?_
  refine J.seq ?_
  refine J.region ?_
  refine JL.pure rfl rfl (OpP.fieldAddr rfl) ?_
  refine JL.read rfl rfl (OpR.load1 rfl (Cell.row (.tail .head) rfl)) ?_
  refine JL.pure rfl rfl (OpP.fieldAddr rfl) ?_
  refine JL.read rfl rfl (OpR.load1 rfl (Cell.row .head rfl)) ?_
  refine JL.dec rfl rfl (OpP.neq rfl rfl) (fun h12 => ?_) (fun h12 => ?_)
  focus
    refine JL.pure rfl rfl (OpP.move rfl) ?_
    refine JL.skip rfl rfl ?_
    refine JL.skip rfl rfl ?_
    refine JL.skip rfl rfl ?_
    refine JL.skip rfl rfl ?_
    refine JL.skip rfl rfl ?_
    refine JL.pure rfl rfl (OpP.pickT rfl rfl) ?_
    refine JL.pure rfl rfl (OpP.move rfl) ?_
    refine JL.skip rfl rfl ?_
    refine JL.skip rfl rfl ?_
    refine JL.skip rfl rfl ?_
    refine JL.skip rfl rfl ?_
    refine JL.skip rfl rfl ?_
    refine JL.pure rfl rfl (OpP.pickT rfl rfl) ?_
    refine JL.pure rfl rfl (OpP.move rfl) ?_
    refine JL.skip rfl rfl ?_
    refine JL.skip rfl rfl ?_
    refine JL.skip rfl rfl ?_
    refine JL.skip rfl rfl ?_
    refine JL.skip rfl rfl ?_
    refine JL.skip rfl rfl ?_
    refine JL.skip rfl rfl ?_
    refine JL.pure rfl rfl (OpP.pickT rfl rfl) ?_
    refine JL.nil ?_
    refine J.condT rfl ?_
    refine J.seq ?_
    refine J.region ?_
    refine JL.pure rfl rfl (OpP.assign rfl) ?_
    refine JL.nil ?_
    refine J.ret1 rfl rfl ?_
  rotate_left 1
  focus
    refine JL.pure rfl rfl (OpP.move rfl) ?_
    refine JL.pure rfl rfl (OpP.fieldAddr rfl) ?_
    refine JL.read rfl rfl (OpR.load1 rfl (Cell.row (.tail .head) rfl)) ?_
    refine JL.pure rfl rfl (OpP.fieldAddr rfl) ?_
    refine JL.read rfl rfl (OpR.load1 rfl (Cell.row .head rfl)) ?_
    refine JL.dec rfl rfl (OpP.neq rfl rfl) (fun h18 => ?_) (fun h18 => ?_)
    focus
      refine JL.pure rfl rfl (OpP.pickF rfl rfl) ?_
      refine JL.pure rfl rfl (OpP.move rfl) ?_
      refine JL.skip rfl rfl ?_
      refine JL.skip rfl rfl ?_
      refine JL.skip rfl rfl ?_
      refine JL.skip rfl rfl ?_
      refine JL.skip rfl rfl ?_
      refine JL.pure rfl rfl (OpP.pickT rfl rfl) ?_
      refine JL.pure rfl rfl (OpP.move rfl) ?_
      refine JL.skip rfl rfl ?_
      refine JL.skip rfl rfl ?_
      refine JL.skip rfl rfl ?_
      refine JL.skip rfl rfl ?_
      refine JL.skip rfl rfl ?_
      refine JL.skip rfl rfl ?_
      refine JL.skip rfl rfl ?_
      refine JL.pure rfl rfl (OpP.pickT rfl rfl) ?_
      refine JL.nil ?_
      refine J.condT rfl ?_
      refine J.seq ?_
      refine J.region ?_
      refine JL.pure rfl rfl (OpP.assign rfl) ?_
      refine JL.nil ?_
      refine J.ret1 rfl rfl ?_
    rotate_left 1
    focus
      refine JL.pure rfl rfl (OpP.pickF rfl rfl) ?_
      refine JL.pure rfl rfl (OpP.move rfl) ?_
      refine JL.pure rfl rfl (OpP.fieldAddr rfl) ?_
      refine JL.read rfl rfl (OpR.load1 rfl (Cell.row (.tail .head) rfl)) ?_
      refine JL.pure rfl rfl (OpP.fieldAddr rfl) ?_
      refine JL.read rfl rfl (OpR.load1 rfl (Cell.row .head rfl)) ?_
      refine JL.dec rfl rfl (OpP.neStr rfl rfl) (fun h25 => ?_) (fun h25 => ?_)
      focus
        refine JL.pure rfl rfl (OpP.pickF rfl rfl) ?_
        refine JL.pure rfl rfl (OpP.move rfl) ?_
        refine JL.skip rfl rfl ?_
        refine JL.skip rfl rfl ?_
        refine JL.skip rfl rfl ?_
        refine JL.skip rfl rfl ?_
        refine JL.skip rfl rfl ?_
        refine JL.skip rfl rfl ?_
        refine JL.skip rfl rfl ?_
        refine JL.pure rfl rfl (OpP.pickT rfl rfl) ?_
        refine JL.nil ?_
        refine J.condT rfl ?_
        refine J.seq ?_
        refine J.region ?_
        refine JL.pure rfl rfl (OpP.assign rfl) ?_
        refine JL.nil ?_
        refine J.ret1 rfl rfl ?_
      rotate_left 1
      focus
        refine JL.pure rfl rfl (OpP.pickF rfl rfl) ?_
        refine JL.pure rfl rfl (OpP.move rfl) ?_
        refine JL.pure rfl rfl (OpP.fieldAddr rfl) ?_
        refine JL.read rfl rfl (OpR.load1 rfl (Cell.row (.tail .head) rfl)) ?_
        refine JL.pure rfl rfl (OpP.len rfl rfl) ?_
        refine JL.pure rfl rfl (OpP.fieldAddr rfl) ?_
        refine JL.read rfl rfl (OpR.load1 rfl (Cell.row .head rfl)) ?_
        refine JL.pure rfl rfl (OpP.len rfl rfl) ?_
        refine JL.dec rfl rfl (OpP.neq rfl rfl) (fun h34 => ?_) (fun h34 => ?_)
        focus
          refine JL.pure rfl rfl (OpP.pickF rfl rfl) ?_
          refine JL.nil ?_
          refine J.condT rfl ?_
          refine J.seq ?_
          refine J.region ?_
          refine JL.pure rfl rfl (OpP.assign rfl) ?_
          refine JL.nil ?_
          refine J.ret1 rfl rfl ?_
        rotate_left 1
        focus
          refine JL.pure rfl rfl (OpP.pickF rfl rfl) ?_
          refine JL.nil ?_
          refine J.condF rfl ?_
          refine J.skip ?_
          refine J.seq ?_
          refine J.seq ?_
          refine J.region ?_
          refine JL.pure rfl rfl (OpP.assign rfl) ?_
          refine JL.nil ?_
          refine J.block ?_
        rotate_left 1
      rotate_left 2
    rotate_left 3
  rotate_left 4
  · refine ⟨_, ⟨_, rfl, rfl, (fun q => by cases q), fun q => absurd q.1 h12⟩, fun _ h => h.tail.tail⟩
  · refine ⟨_, ⟨_, rfl, rfl, (fun q => by cases q), fun q => absurd q.2.1 h18⟩, fun _ h => h.tail.tail⟩
  · refine ⟨_, ⟨_, rfl, rfl, (fun q => by cases q), fun q => absurd (strB_inj.2 q.2.2.1) h25⟩, fun _ h => h.tail.tail⟩
  · refine ⟨_, ⟨_, rfl, rfl, (fun q => by cases q), fun q => absurd q.2.2.2.1 (by omega)⟩, fun _ h => h.tail.tail⟩
  · refine J.loopI (fun j : Nat => xs.length - j) (fun j => j ≤ xs.length ∧ ∀ (m : Nat) (x y : El), m < j → xs[m]? = some x → ys[m]? = some y → x.k = y.k ∧ x.i = y.i ∧ x.s = y.s ∧ x.n = 0 ∧ y.n = 0) (fun j => [(5, .int .i64 (j : Nat)), (2, .pointer (some ⟨b2, 0, none⟩)), (3, .pointer (some ⟨b3, 0, none⟩))])
      (fun _ => row b3 24 (vcl k' i' s' (.slice a' ys.length c')) :: row b2 24 (vcl k i s (.slice a xs.length c)) :: F) 0 ⟨Nat.zero_le _, fun _ _ _ h => absurd h (Nat.not_lt_zero _)⟩ (by repeat (first | exact SubEnv.nil | refine SubEnv.cons (by first | rfl | exact congrArg (fun z => some (Value.int .i64 z)) (by omega) | (simp; done)) ?_)) (fun _ h => h) (fun j hi back => ?_)
    dsimp only at hi back ⊢
    obtain ⟨hj, hg⟩ := hi
    by_cases hlt : j < xs.length
    · obtain ⟨x, hx⟩ : ∃ e, xs[j]? = some e := ⟨_, List.getElem?_eq_getElem hlt⟩
      obtain ⟨y, hy⟩ : ∃ e, ys[j]? = some e := ⟨_, List.getElem?_eq_getElem (show j < ys.length by omega)⟩
      obtain ⟨ga, pa, qa, ea, ka, hcs⟩ := hr1.pos (by omega)
      cases ea
      obtain ⟨gb, pb, qb, eb, kb, hcs2⟩ := hr2.pos (by omega)
      cases eb
      refine J.seq ?_
      refine J.seq ?_
      refine J.region ?_
      refine JL.pure rfl rfl (OpP.move rfl) ?_
      refine JL.pure rfl rfl (OpP.fieldAddr rfl) ?_
      refine JL.read rfl rfl (OpR.load1 rfl (Cell.row (.tail .head) rfl)) ?_
      refine JL.pure rfl rfl (OpP.len rfl rfl) ?_
      refine JL.decT rfl rfl (OpP.lss rfl rfl) (by omega) ?_
      refine JL.nil ?_
      refine J.condT rfl ?_
      refine J.skip ?_
      refine J.seq ?_
      refine J.block ?_
      refine J.seq ?_
      refine J.regionD [1, 4, 6, 9] (by kernel_rfl) ?_
      refine DL.pure (i := 0) (by kernel_rfl) (by kernel_rfl) rfl rfl rfl (OpP.fieldAddr rfl) ?_
      refine DL.read (i := 1) (by kernel_rfl) (by kernel_rfl) rfl rfl rfl (fun _ h => h) (OpR.load1 rfl (Cell.row (.tail .head) rfl)) ?_
      refine DL.pure (i := 2) (by kernel_rfl) (by kernel_rfl) rfl rfl rfl (OpP.move rfl) ?_
      refine DL.pure (i := 3) (by kernel_rfl) (by kernel_rfl) rfl rfl rfl (OpP.indexAddr rfl rfl (by omega) (by omega)) ?_
      refine DL.read (i := 4) (by kernel_rfl) (by kernel_rfl) rfl rfl rfl (fun _ h => h) (OpR.loadN rfl (by apply Cells.conv (fun _ h => Own.pick (pre := [_, _]) [] rfl h); apply Cells.chunkAt hcs; (case' h => assumption); (case' hi => assumption); done) (by first | rfl | assumption)) ?_
      refine DL.pure (i := 5) (by kernel_rfl) (by kernel_rfl) rfl rfl rfl (OpP.fieldAddr rfl) ?_
      refine DL.read (i := 6) (by kernel_rfl) (by kernel_rfl) rfl rfl rfl (fun _ h => h) (OpR.load1 rfl (Cell.row .head rfl)) ?_
      refine DL.pure (i := 7) (by kernel_rfl) (by kernel_rfl) rfl rfl rfl (OpP.move rfl) ?_
      refine DL.pure (i := 8) (by kernel_rfl) (by kernel_rfl) rfl rfl rfl (OpP.indexAddr rfl rfl (by omega) (by omega)) ?_
      refine DL.read (i := 9) (by kernel_rfl) (by kernel_rfl) rfl rfl rfl (fun _ h => h) (OpR.loadN rfl (by apply Cells.conv (fun _ h => Own.pick (pre := [_, _]) [] rfl h); apply Cells.chunkAt hcs2; (case' h => assumption); (case' hi => assumption); done) (by first | rfl | assumption)) ?_
      refine DL.two (i := 10) (j := 11) (by kernel_rfl) ?_ ?_
      focus
        refine DL1.stepK rfl rfl rfl (OpM.w OpM.alloc) (by rintro _ _ ⟨b6, rfl, rfl⟩ _ h; exact Own.pick (pre := [_, _, _]) [1, 2] rfl h) ?_; rintro _ _ ⟨b6, rfl, rfl⟩
        refine DL.only (i := 11) (by kernel_rfl) ?_
        refine DL1.stepK rfl rfl rfl (OpM.w OpM.alloc) (by rintro _ _ ⟨b7, rfl, rfl⟩ _ h; exact Own.pick (pre := [_, _, _, _]) [2, 3] rfl h) ?_; rintro _ _ ⟨b7, rfl, rfl⟩
        refine DL.only (i := 12) (by kernel_rfl) ?_
        refine DL1.stepK0 rfl rfl (OpM.w (by apply OpM.storeN rfl rfl (by rfl) (oneC rfl (oneC rfl (oneC rfl (one1 rfl)))); (case' hu => exact (.tail .head)); (case' hs => exact (.here (.here (.here (.here .nil))))); done)) (by rintro _ _ ⟨rfl, rfl⟩ _ h; exact Own.pick (pre := [_, _, _, _]) [2, 3] rfl h) ?_; rintro _ _ ⟨rfl, rfl⟩
        refine DL.only (i := 13) (by kernel_rfl) ?_
        refine DL1.stepF0 rfl rfl (by kernel_rfl) (OpM.w (by apply OpM.storeN rfl rfl (by rfl) (oneC rfl (oneC rfl (oneC rfl (one1 rfl)))); (case' hu => exact .head); (case' hs => exact (.here (.here (.here (.here .nil))))); done)) ?_; rintro _ _ ⟨rfl, rfl⟩
        refine DL.done (by kernel_rfl) ?_
        refine J.seq ?_
        refine J.region ?_
        refine JL.pure rfl rfl (OpP.fieldAddr rfl) ?_
        refine JL.read rfl rfl (OpR.load1 rfl (Cell.row (.tail .head) rfl)) ?_
        refine JL.pure rfl rfl (OpP.fieldAddr rfl) ?_
        refine JL.read rfl rfl (OpR.load1 rfl (Cell.row .head rfl)) ?_
        refine JL.dec rfl rfl (OpP.neq rfl rfl) (fun h57 => ?_) (fun h57 => ?_)
        focus
          refine JL.pure rfl rfl (OpP.move rfl) ?_
          refine JL.skip rfl rfl ?_
          refine JL.skip rfl rfl ?_
          refine JL.skip rfl rfl ?_
          refine JL.skip rfl rfl ?_
          refine JL.skip rfl rfl ?_
          refine JL.pure rfl rfl (OpP.pickT rfl rfl) ?_
          refine JL.pure rfl rfl (OpP.move rfl) ?_
          refine JL.skip rfl rfl ?_
          refine JL.skip rfl rfl ?_
          refine JL.skip rfl rfl ?_
          refine JL.skip rfl rfl ?_
          refine JL.skip rfl rfl ?_
          refine JL.pure rfl rfl (OpP.pickT rfl rfl) ?_
          refine JL.pure rfl rfl (OpP.move rfl) ?_
          refine JL.skip rfl rfl ?_
          refine JL.skip rfl rfl ?_
          refine JL.skip rfl rfl ?_
          refine JL.skip rfl rfl ?_
          refine JL.pure rfl rfl (OpP.pickT rfl rfl) ?_
          refine JL.pure rfl rfl (OpP.move rfl) ?_
          refine JL.skip rfl rfl ?_
          refine JL.skip rfl rfl ?_
          refine JL.skip rfl rfl ?_
          refine JL.skip rfl rfl ?_
          refine JL.pure rfl rfl (OpP.pickT rfl rfl) ?_
          refine JL.nil ?_
          refine J.condT rfl ?_
          refine J.seq ?_
          refine J.region ?_
          refine JL.pure rfl rfl (OpP.assign rfl) ?_
          refine JL.nil ?_
          refine J.ret1 rfl rfl ?_
        rotate_left 1
        focus
          refine JL.pure rfl rfl (OpP.move rfl) ?_
          refine JL.pure rfl rfl (OpP.fieldAddr rfl) ?_
          refine JL.read rfl rfl (OpR.load1 rfl (Cell.row (.tail .head) rfl)) ?_
          refine JL.pure rfl rfl (OpP.fieldAddr rfl) ?_
          refine JL.read rfl rfl (OpR.load1 rfl (Cell.row .head rfl)) ?_
          refine JL.dec rfl rfl (OpP.neq rfl rfl) (fun h63 => ?_) (fun h63 => ?_)
          focus
            refine JL.pure rfl rfl (OpP.pickF rfl rfl) ?_
            refine JL.pure rfl rfl (OpP.move rfl) ?_
            refine JL.skip rfl rfl ?_
            refine JL.skip rfl rfl ?_
            refine JL.skip rfl rfl ?_
            refine JL.skip rfl rfl ?_
            refine JL.skip rfl rfl ?_
            refine JL.pure rfl rfl (OpP.pickT rfl rfl) ?_
            refine JL.pure rfl rfl (OpP.move rfl) ?_
            refine JL.skip rfl rfl ?_
            refine JL.skip rfl rfl ?_
            refine JL.skip rfl rfl ?_
            refine JL.skip rfl rfl ?_
            refine JL.pure rfl rfl (OpP.pickT rfl rfl) ?_
            refine JL.pure rfl rfl (OpP.move rfl) ?_
            refine JL.skip rfl rfl ?_
            refine JL.skip rfl rfl ?_
            refine JL.skip rfl rfl ?_
            refine JL.skip rfl rfl ?_
            refine JL.pure rfl rfl (OpP.pickT rfl rfl) ?_
            refine JL.nil ?_
            refine J.condT rfl ?_
            refine J.seq ?_
            refine J.region ?_
            refine JL.pure rfl rfl (OpP.assign rfl) ?_
            refine JL.nil ?_
            refine J.ret1 rfl rfl ?_
          rotate_left 1
          focus
            refine JL.pure rfl rfl (OpP.pickF rfl rfl) ?_
            refine JL.pure rfl rfl (OpP.move rfl) ?_
            refine JL.pure rfl rfl (OpP.fieldAddr rfl) ?_
            refine JL.read rfl rfl (OpR.load1 rfl (Cell.row (.tail .head) rfl)) ?_
            refine JL.pure rfl rfl (OpP.fieldAddr rfl) ?_
            refine JL.read rfl rfl (OpR.load1 rfl (Cell.row .head rfl)) ?_
            refine JL.dec rfl rfl (OpP.neStr rfl rfl) (fun h70 => ?_) (fun h70 => ?_)
            focus
              refine JL.pure rfl rfl (OpP.pickF rfl rfl) ?_
              refine JL.pure rfl rfl (OpP.move rfl) ?_
              refine JL.skip rfl rfl ?_
              refine JL.skip rfl rfl ?_
              refine JL.skip rfl rfl ?_
              refine JL.skip rfl rfl ?_
              refine JL.pure rfl rfl (OpP.pickT rfl rfl) ?_
              refine JL.pure rfl rfl (OpP.move rfl) ?_
              refine JL.skip rfl rfl ?_
              refine JL.skip rfl rfl ?_
              refine JL.skip rfl rfl ?_
              refine JL.skip rfl rfl ?_
              refine JL.pure rfl rfl (OpP.pickT rfl rfl) ?_
              refine JL.nil ?_
              refine J.condT rfl ?_
              refine J.seq ?_
              refine J.region ?_
              refine JL.pure rfl rfl (OpP.assign rfl) ?_
              refine JL.nil ?_
              refine J.ret1 rfl rfl ?_
            rotate_left 1
            focus
              refine JL.pure rfl rfl (OpP.pickF rfl rfl) ?_
              refine JL.pure rfl rfl (OpP.move rfl) ?_
              refine JL.pure rfl rfl (OpP.fieldAddr rfl) ?_
              refine JL.read rfl rfl (OpR.load1 rfl (Cell.row (.tail .head) rfl)) ?_
              refine JL.pure rfl rfl (OpP.len rfl rfl) ?_
              refine JL.dec rfl rfl (OpP.gtr rfl rfl) (fun h76 => ?_) (fun h76 => ?_)
              focus
                refine JL.pure rfl rfl (OpP.pickF rfl rfl) ?_
                refine JL.pure rfl rfl (OpP.move rfl) ?_
                refine JL.skip rfl rfl ?_
                refine JL.skip rfl rfl ?_
                refine JL.skip rfl rfl ?_
                refine JL.skip rfl rfl ?_
                refine JL.pure rfl rfl (OpP.pickT rfl rfl) ?_
                refine JL.nil ?_
                refine J.condT rfl ?_
                refine J.seq ?_
                refine J.region ?_
                refine JL.pure rfl rfl (OpP.assign rfl) ?_
                refine JL.nil ?_
                refine J.ret1 rfl rfl ?_
              rotate_left 1
              focus
                refine JL.pure rfl rfl (OpP.pickF rfl rfl) ?_
                refine JL.pure rfl rfl (OpP.move rfl) ?_
                refine JL.pure rfl rfl (OpP.fieldAddr rfl) ?_
                refine JL.read rfl rfl (OpR.load1 rfl (Cell.row .head rfl)) ?_
                refine JL.pure rfl rfl (OpP.len rfl rfl) ?_
                refine JL.dec rfl rfl (OpP.gtr rfl rfl) (fun h82 => ?_) (fun h82 => ?_)
                focus
                  refine JL.pure rfl rfl (OpP.pickF rfl rfl) ?_
                  refine JL.nil ?_
                  refine J.condT rfl ?_
                  refine J.seq ?_
                  refine J.region ?_
                  refine JL.pure rfl rfl (OpP.assign rfl) ?_
                  refine JL.nil ?_
                  refine J.ret1 rfl rfl ?_
                rotate_left 1
                focus
                  refine JL.pure rfl rfl (OpP.pickF rfl rfl) ?_
                  refine JL.nil ?_
                  refine J.condF rfl ?_
                  refine J.skip ?_
                  refine J.inBlock ?_
                  refine J.region ?_
                  refine JL.pure rfl rfl (OpP.move rfl) ?_
                  refine JL.pure rfl rfl (OpP.addI rfl rfl (by omega) (by omega)) ?_
                  refine JL.pure rfl rfl (OpP.assign rfl) ?_
                  refine JL.nil ?_
                rotate_left 1
              rotate_left 2
            rotate_left 3
          rotate_left 4
        rotate_left 5
      rotate_left 6
      focus
        refine DL1.stepK rfl rfl rfl (OpM.w OpM.alloc) (by rintro _ _ ⟨b7, rfl, rfl⟩ _ h; exact Own.pick (pre := [_, _, _]) [1, 2] rfl h) ?_; rintro _ _ ⟨b7, rfl, rfl⟩
        refine DL.only (i := 10) (by kernel_rfl) ?_
        refine DL1.stepK rfl rfl rfl (OpM.w OpM.alloc) (by rintro _ _ ⟨b6, rfl, rfl⟩ _ h; exact Own.pick (pre := [_, _, _, _]) [2, 3] rfl h) ?_; rintro _ _ ⟨b6, rfl, rfl⟩
        refine DL.only (i := 12) (by kernel_rfl) ?_
        refine DL1.stepK0 rfl rfl (OpM.w (by apply OpM.storeN rfl rfl (by rfl) (oneC rfl (oneC rfl (oneC rfl (one1 rfl)))); (case' hu => exact .head); (case' hs => exact (.here (.here (.here (.here .nil))))); done)) (by rintro _ _ ⟨rfl, rfl⟩ _ h; exact Own.pick (pre := [_, _, _, _]) [2, 3] rfl h) ?_; rintro _ _ ⟨rfl, rfl⟩
        refine DL.only (i := 13) (by kernel_rfl) ?_
        refine DL1.stepF0 rfl rfl (by kernel_rfl) (OpM.w (by apply OpM.storeN rfl rfl (by rfl) (oneC rfl (oneC rfl (oneC rfl (one1 rfl)))); (case' hu => exact (.tail .head)); (case' hs => exact (.here (.here (.here (.here .nil))))); done)) ?_; rintro _ _ ⟨rfl, rfl⟩
        refine DL.done (by kernel_rfl) ?_
        refine J.seq ?_
        refine J.region ?_
        refine JL.pure rfl rfl (OpP.fieldAddr rfl) ?_
        refine JL.read rfl rfl (OpR.load1 rfl (Cell.row .head rfl)) ?_
        refine JL.pure rfl rfl (OpP.fieldAddr rfl) ?_
        refine JL.read rfl rfl (OpR.load1 rfl (Cell.row (.tail .head) rfl)) ?_
        refine JL.dec rfl rfl (OpP.neq rfl rfl) (fun h57 => ?_) (fun h57 => ?_)
        focus
          refine JL.pure rfl rfl (OpP.move rfl) ?_
          refine JL.skip rfl rfl ?_
          refine JL.skip rfl rfl ?_
          refine JL.skip rfl rfl ?_
          refine JL.skip rfl rfl ?_
          refine JL.skip rfl rfl ?_
          refine JL.pure rfl rfl (OpP.pickT rfl rfl) ?_
          refine JL.pure rfl rfl (OpP.move rfl) ?_
          refine JL.skip rfl rfl ?_
          refine JL.skip rfl rfl ?_
          refine JL.skip rfl rfl ?_
          refine JL.skip rfl rfl ?_
          refine JL.skip rfl rfl ?_
          refine JL.pure rfl rfl (OpP.pickT rfl rfl) ?_
          refine JL.pure rfl rfl (OpP.move rfl) ?_
          refine JL.skip rfl rfl ?_
          refine JL.skip rfl rfl ?_
          refine JL.skip rfl rfl ?_
          refine JL.skip rfl rfl ?_
          refine JL.pure rfl rfl (OpP.pickT rfl rfl) ?_
          refine JL.pure rfl rfl (OpP.move rfl) ?_
          refine JL.skip rfl rfl ?_
          refine JL.skip rfl rfl ?_
          refine JL.skip rfl rfl ?_
          refine JL.skip rfl rfl ?_
          refine JL.pure rfl rfl (OpP.pickT rfl rfl) ?_
          refine JL.nil ?_
          refine J.condT rfl ?_
          refine J.seq ?_
          refine J.region ?_
          refine JL.pure rfl rfl (OpP.assign rfl) ?_
          refine JL.nil ?_
          refine J.ret1 rfl rfl ?_
        rotate_left 1
        focus
          refine JL.pure rfl rfl (OpP.move rfl) ?_
          refine JL.pure rfl rfl (OpP.fieldAddr rfl) ?_
          refine JL.read rfl rfl (OpR.load1 rfl (Cell.row .head rfl)) ?_
          refine JL.pure rfl rfl (OpP.fieldAddr rfl) ?_
          refine JL.read rfl rfl (OpR.load1 rfl (Cell.row (.tail .head) rfl)) ?_
          refine JL.dec rfl rfl (OpP.neq rfl rfl) (fun h63 => ?_) (fun h63 => ?_)
          focus
            refine JL.pure rfl rfl (OpP.pickF rfl rfl) ?_
            refine JL.pure rfl rfl (OpP.move rfl) ?_
            refine JL.skip rfl rfl ?_
            refine JL.skip rfl rfl ?_
            refine JL.skip rfl rfl ?_
            refine JL.skip rfl rfl ?_
            refine JL.skip rfl rfl ?_
            refine JL.pure rfl rfl (OpP.pickT rfl rfl) ?_
            refine JL.pure rfl rfl (OpP.move rfl) ?_
            refine JL.skip rfl rfl ?_
            refine JL.skip rfl rfl ?_
            refine JL.skip rfl rfl ?_
            refine JL.skip rfl rfl ?_
            refine JL.pure rfl rfl (OpP.pickT rfl rfl) ?_
            refine JL.pure rfl rfl (OpP.move rfl) ?_
            refine JL.skip rfl rfl ?_
            refine JL.skip rfl rfl ?_
            refine JL.skip rfl rfl ?_
            refine JL.skip rfl rfl ?_
            refine JL.pure rfl rfl (OpP.pickT rfl rfl) ?_
            refine JL.nil ?_
            refine J.condT rfl ?_
            refine J.seq ?_
            refine J.region ?_
            refine JL.pure rfl rfl (OpP.assign rfl) ?_
            refine JL.nil ?_
            refine J.ret1 rfl rfl ?_
          rotate_left 1
          focus
            refine JL.pure rfl rfl (OpP.pickF rfl rfl) ?_
            refine JL.pure rfl rfl (OpP.move rfl) ?_
            refine JL.pure rfl rfl (OpP.fieldAddr rfl) ?_
            refine JL.read rfl rfl (OpR.load1 rfl (Cell.row .head rfl)) ?_
            refine JL.pure rfl rfl (OpP.fieldAddr rfl) ?_
            refine JL.read rfl rfl (OpR.load1 rfl (Cell.row (.tail .head) rfl)) ?_
            refine JL.dec rfl rfl (OpP.neStr rfl rfl) (fun h70 => ?_) (fun h70 => ?_)
            focus
              refine JL.pure rfl rfl (OpP.pickF rfl rfl) ?_
              refine JL.pure rfl rfl (OpP.move rfl) ?_
              refine JL.skip rfl rfl ?_
              refine JL.skip rfl rfl ?_
              refine JL.skip rfl rfl ?_
              refine JL.skip rfl rfl ?_
              refine JL.pure rfl rfl (OpP.pickT rfl rfl) ?_
              refine JL.pure rfl rfl (OpP.move rfl) ?_
              refine JL.skip rfl rfl ?_
              refine JL.skip rfl rfl ?_
              refine JL.skip rfl rfl ?_
              refine JL.skip rfl rfl ?_
              refine JL.pure rfl rfl (OpP.pickT rfl rfl) ?_
              refine JL.nil ?_
              refine J.condT rfl ?_
              refine J.seq ?_
              refine J.region ?_
              refine JL.pure rfl rfl (OpP.assign rfl) ?_
              refine JL.nil ?_
              refine J.ret1 rfl rfl ?_
            rotate_left 1
            focus
              refine JL.pure rfl rfl (OpP.pickF rfl rfl) ?_
              refine JL.pure rfl rfl (OpP.move rfl) ?_
              refine JL.pure rfl rfl (OpP.fieldAddr rfl) ?_
              refine JL.read rfl rfl (OpR.load1 rfl (Cell.row .head rfl)) ?_
              refine JL.pure rfl rfl (OpP.len rfl rfl) ?_
              refine JL.dec rfl rfl (OpP.gtr rfl rfl) (fun h76 => ?_) (fun h76 => ?_)
              focus
                refine JL.pure rfl rfl (OpP.pickF rfl rfl) ?_
                refine JL.pure rfl rfl (OpP.move rfl) ?_
                refine JL.skip rfl rfl ?_
                refine JL.skip rfl rfl ?_
                refine JL.skip rfl rfl ?_
                refine JL.skip rfl rfl ?_
                refine JL.pure rfl rfl (OpP.pickT rfl rfl) ?_
                refine JL.nil ?_
                refine J.condT rfl ?_
                refine J.seq ?_
                refine J.region ?_
                refine JL.pure rfl rfl (OpP.assign rfl) ?_
                refine JL.nil ?_
                refine J.ret1 rfl rfl ?_
              rotate_left 1
              focus
                refine JL.pure rfl rfl (OpP.pickF rfl rfl) ?_
                refine JL.pure rfl rfl (OpP.move rfl) ?_
                refine JL.pure rfl rfl (OpP.fieldAddr rfl) ?_
                refine JL.read rfl rfl (OpR.load1 rfl (Cell.row (.tail .head) rfl)) ?_
                refine JL.pure rfl rfl (OpP.len rfl rfl) ?_
                refine JL.dec rfl rfl (OpP.gtr rfl rfl) (fun h82 => ?_) (fun h82 => ?_)
                focus
                  refine JL.pure rfl rfl (OpP.pickF rfl rfl) ?_
                  refine JL.nil ?_
                  refine J.condT rfl ?_
                  refine J.seq ?_
                  refine J.region ?_
                  refine JL.pure rfl rfl (OpP.assign rfl) ?_
                  refine JL.nil ?_
                  refine J.ret1 rfl rfl ?_
                rotate_left 1
                focus
                  refine JL.pure rfl rfl (OpP.pickF rfl rfl) ?_
                  refine JL.nil ?_
                  refine J.condF rfl ?_
                  refine J.skip ?_
                  refine J.inBlock ?_
                  refine J.region ?_
                  refine JL.pure rfl rfl (OpP.move rfl) ?_
                  refine JL.pure rfl rfl (OpP.addI rfl rfl (by omega) (by omega)) ?_
                  refine JL.pure rfl rfl (OpP.assign rfl) ?_
                  refine JL.nil ?_
                rotate_left 1
              rotate_left 2
            rotate_left 3
          rotate_left 4
        rotate_left 5
      rotate_left 6
      all_goals first
        | exact ⟨_, ⟨_, rfl, rfl, (fun q => by cases q), fun q => absurd (q.2.2.2.2 j x y hx hy).1 h57⟩, fun _ h => h.tail.tail.tail.tail⟩
        | exact ⟨_, ⟨_, rfl, rfl, (fun q => by cases q), fun q => absurd (q.2.2.2.2 j x y hx hy).2.1 h63⟩, fun _ h => h.tail.tail.tail.tail⟩
        | exact ⟨_, ⟨_, rfl, rfl, (fun q => by cases q), fun q => absurd (strB_inj.2 (q.2.2.2.2 j x y hx hy).2.2.1) h70⟩, fun _ h => h.tail.tail.tail.tail⟩
        | exact ⟨_, ⟨_, rfl, rfl, (fun q => by cases q), fun q => absurd (q.2.2.2.2 j x y hx hy).2.2.2.1 (by omega)⟩, fun _ h => h.tail.tail.tail.tail⟩
        | exact ⟨_, ⟨_, rfl, rfl, (fun q => by cases q), fun q => absurd (q.2.2.2.2 j x y hx hy).2.2.2.2 (by omega)⟩, fun _ h => h.tail.tail.tail.tail⟩
        | (refine back (j + 1) ⟨by omega, fun m u v hm hu hv => ?_⟩ (by omega) (by repeat (first | exact SubEnv.nil | refine SubEnv.cons (by first | rfl | exact congrArg (fun z => some (Value.int .i64 z)) (by omega) | (simp; done)) ?_)) (fun _ h => h.tail.tail)
           by_cases hmj : m < j
           · exact hg m u v hmj hu hv
           · obtain rfl : m = j := by omega
             obtain rfl : u = x := Option.some.inj (hu.symm.trans hx)
             obtain rfl : v = y := Option.some.inj (hv.symm.trans hy)
             exact ⟨by omega, by omega, strB_inj.1 (Decidable.not_not.1 h70), by omega, by omega⟩)
    · have : j = xs.length := by omega
      subst this
      refine J.seq ?_
      refine J.seq ?_
      refine J.region ?_
      refine JL.pure rfl rfl (OpP.move rfl) ?_
      refine JL.pure rfl rfl (OpP.fieldAddr rfl) ?_
      refine JL.read rfl rfl (OpR.load1 rfl (Cell.row (.tail .head) rfl)) ?_
      refine JL.pure rfl rfl (OpP.len rfl rfl) ?_
      refine JL.decF rfl rfl (OpP.lss rfl rfl) (by omega) ?_
      refine JL.nil ?_
      refine J.condF rfl ?_
      refine J.exit rfl ?_
      refine J.seq ?_
      refine J.region ?_
      refine JL.pure rfl rfl (OpP.assign rfl) ?_
      refine JL.nil ?_
      refine J.ret1 rfl rfl ?_
      exact ⟨_, ⟨_, rfl, rfl, fun _ => ⟨by omega, by omega, strB_inj.1 (Decidable.not_not.1 h25), by omega, fun j x y hx hy => hg j x y (List.getElem?_eq_some_iff.1 hx).1 hx hy⟩, fun _ => rfl⟩, fun _ h => h.tail.tail⟩
/-- A value in a list. -/
structure Va where
  k : Int
  i : Int
  s : List UInt8
  xs : List El
  a : Option Addr
  c : Nat
abbrev vac (u : Va) : List Value := vcl u.k u.i u.s (.slice u.a u.xs.length u.c)
def FewE (e : El) : Prop := e.s.length ≤ 200 ∧ e.n = 0
def FewU (u : Va) : Prop := u.s.length ≤ 200 ∧ u.xs.length ≤ 30 ∧ ∀ (j : Nat) (e : El), u.xs[j]? = some e → FewE e
theorem few_ok {w0 : World} {F : List HProp} {a : Option Addr} {c : Nat} {m : Int} {vs : List Va} (hn : vs.length ≤ 9223372036854775807) (hr : RdO w0 F (.slice a vs.length c) vs.length (vs.flatMap vac)) (hin : ∀ u ∈ vs, RdO w0 F (.slice u.a u.xs.length u.c) u.xs.length (u.xs.flatMap ecl)) :
    FnO Try.prog w0 30 [.slice a vs.length c, .int .i64 m] F (fun r l' => ∃ b, r = .bool b ∧ l' = F ∧ (b = true → (vs.length : Int) ≤ m ∧ ∀ (j : Nat) (u : Va), j < 100 → vs[j]? = some u → FewU u)) := by
  have hlen : ∀ u ∈ vs, (vac u).length = 4 := fun _ _ => rfl
  refine FnO.rdF (fun _ h => h) hr fun hr1 => ?_
  refine FnO.intro (n := 71) Try.func30 rfl rfl rfl ?_
  refine J.seq ?_
  refine J.region ?_
  refine JL.pure rfl rfl (OpP.assign rfl) ?_
  refine JL.nil ?_
  refine J.seq ?_
  refine J.seq ?_
  refine J.region ?_
  refine JL.pure rfl rfl (OpP.assign rfl) ?_
  refine JL.nil ?_
  refine J.block ?_
  refine J.loopI (fun j : Nat => vs.length - j) (fun j => j ≤ vs.length ∧ j ≤ 100 ∧ ∀ (q : Nat) (u : Va), q < j → vs[q]? = some u → FewU u) (fun j => [(5, .int .i64 (j : Nat)), (0, .slice a vs.length c), (1, .int .i64 m)])
    (fun _ => F) 0 ⟨Nat.zero_le _, Nat.zero_le _, fun _ _ h => absurd h (Nat.not_lt_zero _)⟩ (by repeat (first | exact SubEnv.nil | refine SubEnv.cons (by first | rfl | exact congrArg (fun z => some (Value.int .i64 z)) (by omega) | (simp; done)) ?_)) (fun _ h => h) (fun j hi back => ?_)
  dsimp only at hi back ⊢
  obtain ⟨hj, hj2, hg⟩ := hi
  by_cases hlt : j < vs.length
  · by_cases h100 : j < 100
    · obtain ⟨u, hu⟩ : ∃ e, vs[j]? = some e := ⟨_, List.getElem?_eq_getElem hlt⟩
      have hui := hin u (List.mem_of_getElem? hu)
      have es := strB_size u.s
      obtain ⟨ga, pa, qa, ea, ka, hcs⟩ := hr1.pos (by omega)
      cases ea
      refine J.seq ?_
      refine J.seq ?_
      refine J.region ?_
      refine JL.pure rfl rfl (OpP.move rfl) ?_
      refine JL.pure rfl rfl (OpP.move rfl) ?_
      refine JL.pure rfl rfl (OpP.len rfl rfl) ?_
      refine JL.decT rfl rfl (OpP.lss rfl rfl) (by omega) ?_
      refine JL.pure rfl rfl (OpP.move rfl) ?_
      refine JL.pure rfl rfl (OpP.move rfl) ?_
      refine JL.decT rfl rfl (OpP.lss rfl rfl) (by omega) ?_
      refine JL.pure rfl rfl (OpP.pickT rfl rfl) ?_
      refine JL.nil ?_
      refine J.condT rfl ?_
      refine J.skip ?_
      refine J.seq ?_
      refine J.block ?_
      refine J.seq ?_
      refine J.seq ?_
      refine J.region ?_
      refine JL.pure rfl rfl (OpP.move rfl) ?_
      refine JL.pure rfl rfl (OpP.move rfl) ?_
      refine JL.pure rfl rfl (OpP.indexAddr rfl rfl (by omega) (by omega)) ?_
      refine JL.pure rfl rfl (OpP.fieldAddr rfl) ?_
      refine JL.read rfl rfl (OpR.load1 rfl (by apply Cells.cellChunk (j := 2) hcs (fun _ h => h); (case' h => assumption); (case' hi => assumption); (case' hv => rfl); (case' ho => omega); done)) ?_
      refine JL.pure rfl rfl (OpP.lenStr rfl rfl) ?_
      refine JL.dec rfl rfl (OpP.gtr rfl rfl) (fun h23 => ?_) (fun h23 => ?_)
      focus
        refine JL.pure rfl rfl (OpP.move rfl) ?_
        refine JL.skip rfl rfl ?_
        refine JL.skip rfl rfl ?_
        refine JL.skip rfl rfl ?_
        refine JL.skip rfl rfl ?_
        refine JL.skip rfl rfl ?_
        refine JL.skip rfl rfl ?_
        refine JL.skip rfl rfl ?_
        refine JL.pure rfl rfl (OpP.pickT rfl rfl) ?_
        refine JL.nil ?_
        refine J.condT rfl ?_
        refine J.seq ?_
        refine J.region ?_
        refine JL.pure rfl rfl (OpP.assign rfl) ?_
        refine JL.nil ?_
        refine J.ret1 rfl rfl ?_
      rotate_left 1
      focus
        refine JL.pure rfl rfl (OpP.move rfl) ?_
        refine JL.pure rfl rfl (OpP.move rfl) ?_
        refine JL.pure rfl rfl (OpP.move rfl) ?_
        refine JL.pure rfl rfl (OpP.indexAddr rfl rfl (by omega) (by omega)) ?_
        refine JL.pure rfl rfl (OpP.fieldAddr rfl) ?_
        refine JL.read rfl rfl (OpR.load1 rfl (by apply Cells.cellChunk (j := 3) hcs (fun _ h => h); (case' h => assumption); (case' hi => assumption); (case' hv => rfl); (case' ho => omega); done)) ?_
        refine JL.pure rfl rfl (OpP.len rfl rfl) ?_
        refine JL.dec rfl rfl (OpP.gtr rfl rfl) (fun h31 => ?_) (fun h31 => ?_)
        focus
          refine JL.pure rfl rfl (OpP.pickF rfl rfl) ?_
          refine JL.nil ?_
          refine J.condT rfl ?_
          refine J.seq ?_
          refine J.region ?_
          refine JL.pure rfl rfl (OpP.assign rfl) ?_
          refine JL.nil ?_
          refine J.ret1 rfl rfl ?_
        rotate_left 1
        focus
          refine JL.pure rfl rfl (OpP.pickF rfl rfl) ?_
          refine JL.nil ?_
          refine J.condF rfl ?_
          refine J.skip ?_
          refine J.seq ?_
          refine J.region ?_
          refine JL.pure rfl rfl (OpP.assign rfl) ?_
          refine JL.nil ?_
          refine J.block ?_
        rotate_left 1
      rotate_left 2
      · exact ⟨_, rfl, rfl, fun q => by cases q⟩
      · exact ⟨_, rfl, rfl, fun q => by cases q⟩
      · refine J.loopI (fun q : Nat => u.xs.length - q) (fun q => q ≤ u.xs.length ∧ ∀ (p : Nat) (e : El), p < q → u.xs[p]? = some e → FewE e) (fun q => [(6, .int .i64 (q : Nat)), (5, .int .i64 (j : Nat)), (0, .slice (some ⟨ga, pa, none⟩) vs.length c), (1, .int .i64 m)])
          (fun _ => F) 0 ⟨Nat.zero_le _, fun _ _ h => absurd h (Nat.not_lt_zero _)⟩ (by repeat (first | exact SubEnv.nil | refine SubEnv.cons (by first | rfl | exact congrArg (fun z => some (Value.int .i64 z)) (by omega) | (simp; done)) ?_)) (fun _ h => h) (fun q hi back2 => ?_)
        dsimp only at hi back2 ⊢
        obtain ⟨hq, hg2⟩ := hi
        by_cases hlt2 : q < u.xs.length
        · obtain ⟨e, he⟩ : ∃ e, u.xs[q]? = some e := ⟨_, List.getElem?_eq_getElem hlt2⟩
          have ese := strB_size e.s
          have hlen2 : ∀ e ∈ u.xs, (ecl e).length = 4 := fun _ _ => rfl
          refine J.rd hui fun hu1 => ?_
          obtain ⟨gi, pi, qi, ei, ki, hci⟩ := hu1.pos (by omega)
          have hua : u.a = some ⟨gi, pi, none⟩ := by injection ei
          have hcL := Cells.cellChunk (j := 3) hcs (fun _ h => h) hlen hu rfl rfl
          rw [hua] at hcL
          have hcs' := hcs
          clear hcs
          refine J.seq ?_
          refine J.seq ?_
          refine J.region ?_
          refine JL.pure rfl rfl (OpP.move rfl) ?_
          refine JL.pure rfl rfl (OpP.move rfl) ?_
          refine JL.pure rfl rfl (OpP.move rfl) ?_
          refine JL.pure rfl rfl (OpP.indexAddr rfl rfl (by omega) (by omega)) ?_
          refine JL.pure rfl rfl (OpP.fieldAddr rfl) ?_
          refine JL.read rfl rfl (OpR.load1 rfl (hcL.conv (fun _ h => h))) ?_
          refine JL.pure rfl rfl (OpP.len rfl rfl) ?_
          refine JL.decT rfl rfl (OpP.lss rfl rfl) (by omega) ?_
          refine JL.nil ?_
          refine J.condT rfl ?_
          refine J.skip ?_
          refine J.seq ?_
          refine J.block ?_
          refine J.seq ?_
          refine J.region ?_
          refine JL.pure rfl rfl (OpP.move rfl) ?_
          refine JL.pure rfl rfl (OpP.move rfl) ?_
          refine JL.pure rfl rfl (OpP.indexAddr rfl rfl (by omega) (by omega)) ?_
          refine JL.pure rfl rfl (OpP.fieldAddr rfl) ?_
          refine JL.read rfl rfl (OpR.load1 rfl (hcL.conv (fun _ h => h))) ?_
          refine JL.pure rfl rfl (OpP.move rfl) ?_
          refine JL.pure rfl rfl (OpP.indexAddr rfl rfl (by omega) (by omega)) ?_
          refine JL.pure rfl rfl (OpP.fieldAddr rfl) ?_
          refine JL.read rfl rfl (OpR.load1 rfl (by apply Cells.cellChunk (j := 2) hci (fun _ h => h); (case' h => assumption); (case' hi => assumption); (case' hv => rfl); (case' ho => omega); done)) ?_
          refine JL.pure rfl rfl (OpP.lenStr rfl rfl) ?_
          refine JL.dec rfl rfl (OpP.gtr rfl rfl) (fun h53 => ?_) (fun h53 => ?_)
          focus
            refine JL.pure rfl rfl (OpP.move rfl) ?_
            refine JL.skip rfl rfl ?_
            refine JL.skip rfl rfl ?_
            refine JL.skip rfl rfl ?_
            refine JL.skip rfl rfl ?_
            refine JL.skip rfl rfl ?_
            refine JL.skip rfl rfl ?_
            refine JL.skip rfl rfl ?_
            refine JL.skip rfl rfl ?_
            refine JL.skip rfl rfl ?_
            refine JL.skip rfl rfl ?_
            refine JL.skip rfl rfl ?_
            refine JL.pure rfl rfl (OpP.pickT rfl rfl) ?_
            refine JL.nil ?_
            refine J.condT rfl ?_
            refine J.seq ?_
            refine J.region ?_
            refine JL.pure rfl rfl (OpP.assign rfl) ?_
            refine JL.nil ?_
            refine J.ret1 rfl rfl ?_
          rotate_left 1
          focus
            refine JL.pure rfl rfl (OpP.move rfl) ?_
            refine JL.pure rfl rfl (OpP.move rfl) ?_
            refine JL.pure rfl rfl (OpP.move rfl) ?_
            refine JL.pure rfl rfl (OpP.indexAddr rfl rfl (by omega) (by omega)) ?_
            refine JL.pure rfl rfl (OpP.fieldAddr rfl) ?_
            refine JL.read rfl rfl (OpR.load1 rfl (hcL.conv (fun _ h => h))) ?_
            refine JL.pure rfl rfl (OpP.move rfl) ?_
            refine JL.pure rfl rfl (OpP.indexAddr rfl rfl (by omega) (by omega)) ?_
            refine JL.pure rfl rfl (OpP.fieldAddr rfl) ?_
            refine JL.read rfl rfl (OpR.load1 rfl (by apply Cells.cellChunk (j := 3) hci (fun _ h => h); (case' h => assumption); (case' hi => assumption); (case' hv => rfl); (case' ho => omega); done)) ?_
            refine JL.pure rfl rfl (OpP.len rfl rfl) ?_
            refine JL.dec rfl rfl (OpP.gtr rfl rfl) (fun h65 => ?_) (fun h65 => ?_)
            focus
              refine JL.pure rfl rfl (OpP.pickF rfl rfl) ?_
              refine JL.nil ?_
              refine J.condT rfl ?_
              refine J.seq ?_
              refine J.region ?_
              refine JL.pure rfl rfl (OpP.assign rfl) ?_
              refine JL.nil ?_
              refine J.ret1 rfl rfl ?_
            rotate_left 1
            focus
              refine JL.pure rfl rfl (OpP.pickF rfl rfl) ?_
              refine JL.nil ?_
              refine J.condF rfl ?_
              refine J.skip ?_
              refine J.inBlock ?_
              refine J.region ?_
              refine JL.pure rfl rfl (OpP.move rfl) ?_
              refine JL.pure rfl rfl (OpP.addI rfl rfl (by omega) (by omega)) ?_
              refine JL.pure rfl rfl (OpP.assign rfl) ?_
              refine JL.nil ?_
            rotate_left 1
          rotate_left 2
          · exact ⟨_, rfl, rfl, fun q => by cases q⟩
          · exact ⟨_, rfl, rfl, fun q => by cases q⟩
          · refine back2 (q + 1) ⟨by omega, fun p e' hp he' => ?_⟩ (by omega) (by repeat (first | exact SubEnv.nil | refine SubEnv.cons (by first | rfl | exact congrArg (fun z => some (Value.int .i64 z)) (by omega) | (simp; done)) ?_)) (fun _ h => h)
            by_cases hpq : p < q
            · exact hg2 p e' hpq he'
            · obtain rfl : p = q := by omega
              obtain rfl : e' = e := Option.some.inj (he'.symm.trans he)
              exact ⟨by omega, by omega⟩
        · refine J.seq ?_
          refine J.seq ?_
          refine J.region ?_
          refine JL.pure rfl rfl (OpP.move rfl) ?_
          refine JL.pure rfl rfl (OpP.move rfl) ?_
          refine JL.pure rfl rfl (OpP.move rfl) ?_
          refine JL.pure rfl rfl (OpP.indexAddr rfl rfl (by omega) (by omega)) ?_
          refine JL.pure rfl rfl (OpP.fieldAddr rfl) ?_
          refine JL.read rfl rfl (OpR.load1 rfl (by apply Cells.cellChunk (j := 3) hcs (fun _ h => h); (case' h => assumption); (case' hi => assumption); (case' hv => rfl); (case' ho => omega); done)) ?_
          refine JL.pure rfl rfl (OpP.len rfl rfl) ?_
          refine JL.decF rfl rfl (OpP.lss rfl rfl) (by omega) ?_
          refine JL.nil ?_
          refine J.condF rfl ?_
          refine J.exit rfl ?_
          refine J.inBlock ?_
          refine J.region ?_
          refine JL.pure rfl rfl (OpP.move rfl) ?_
          refine JL.pure rfl rfl (OpP.addI rfl rfl (by omega) (by omega)) ?_
          refine JL.pure rfl rfl (OpP.assign rfl) ?_
          refine JL.nil ?_
          refine back (j + 1) ⟨by omega, by omega, fun p u' hp hu' => ?_⟩ (by omega) (by repeat (first | exact SubEnv.nil | refine SubEnv.cons (by first | rfl | exact congrArg (fun z => some (Value.int .i64 z)) (by omega) | (simp; done)) ?_)) (fun _ h => h)
          by_cases hpj : p < j
          · exact hg p u' hpj hu'
          · obtain rfl : p = j := by omega
            obtain rfl : u' = u := Option.some.inj (hu'.symm.trans hu)
            exact ⟨by omega, by omega, fun i e he => hg2 i e (by have := (List.getElem?_eq_some_iff.1 he).1; omega) he⟩
    · refine J.seq ?_
      refine J.seq ?_
      refine J.region ?_
      refine JL.pure rfl rfl (OpP.move rfl) ?_
      refine JL.pure rfl rfl (OpP.move rfl) ?_
      refine JL.pure rfl rfl (OpP.len rfl rfl) ?_
      refine JL.decT rfl rfl (OpP.lss rfl rfl) (by omega) ?_
      refine JL.pure rfl rfl (OpP.move rfl) ?_
      refine JL.pure rfl rfl (OpP.move rfl) ?_
      refine JL.decF rfl rfl (OpP.lss rfl rfl) (by omega) ?_
      refine JL.pure rfl rfl (OpP.pickT rfl rfl) ?_
      refine JL.nil ?_
      refine J.condF rfl ?_
      refine J.exit rfl ?_
      refine J.seq ?_
      refine J.region ?_
      refine JL.pure rfl rfl (OpP.move rfl) ?_
      refine JL.pure rfl rfl (OpP.len rfl rfl) ?_
      refine JL.pure rfl rfl (OpP.move rfl) ?_
      refine JL.dec rfl rfl (OpP.leq rfl rfl) (fun h70 => ?_) (fun h70 => ?_)
      focus
        refine JL.pure rfl rfl (OpP.assign rfl) ?_
        refine JL.nil ?_
        refine J.ret1 rfl rfl ?_
      rotate_left 1
      focus
        refine JL.pure rfl rfl (OpP.assign rfl) ?_
        refine JL.nil ?_
        refine J.ret1 rfl rfl ?_
      rotate_left 1
      · exact ⟨_, rfl, rfl, fun _ => ⟨by omega, fun q u hq hu => hg q u (by omega) hu⟩⟩
      · exact ⟨_, rfl, rfl, fun q => by cases q⟩
  · refine J.seq ?_
    refine J.seq ?_
    refine J.region ?_
    refine JL.pure rfl rfl (OpP.move rfl) ?_
    refine JL.pure rfl rfl (OpP.move rfl) ?_
    refine JL.pure rfl rfl (OpP.len rfl rfl) ?_
    refine JL.decF rfl rfl (OpP.lss rfl rfl) (by omega) ?_
    refine JL.pure rfl rfl (OpP.move rfl) ?_
    refine JL.skip rfl rfl ?_
    refine JL.skip rfl rfl ?_
    refine JL.pure rfl rfl (OpP.pickF rfl rfl) ?_
    refine JL.nil ?_
    refine J.condF rfl ?_
    refine J.exit rfl ?_
    refine J.seq ?_
    refine J.region ?_
    refine JL.pure rfl rfl (OpP.move rfl) ?_
    refine JL.pure rfl rfl (OpP.len rfl rfl) ?_
    refine JL.pure rfl rfl (OpP.move rfl) ?_
    refine JL.dec rfl rfl (OpP.leq rfl rfl) (fun h70 => ?_) (fun h70 => ?_)
    focus
      refine JL.pure rfl rfl (OpP.assign rfl) ?_
      refine JL.nil ?_
      refine J.ret1 rfl rfl ?_
    rotate_left 1
    focus
      refine JL.pure rfl rfl (OpP.assign rfl) ?_
      refine JL.nil ?_
      refine J.ret1 rfl rfl ?_
    rotate_left 1
    · exact ⟨_, rfl, rfl, fun _ => ⟨by omega, fun q u hq hu => hg q u (by have := (List.getElem?_eq_some_iff.1 hu).1; omega) hu⟩⟩
    · exact ⟨_, rfl, rfl, fun q => by cases q⟩
theorem few_okE {k i : Int} {s : List UInt8} {xs : List El} {a : Option Addr} {c : Nat} (h : FewU ⟨k, i, s, xs, a, c⟩) : (∀ e ∈ xs, e.ok) ∧ xs.length ≤ 30 ∧ ∀ e ∈ xs, e.n = 0 := by
  obtain ⟨_, h2, h3⟩ := h
  refine ⟨fun e he => ?_, h2, fun e he => ?_⟩
  · obtain ⟨j, hj⟩ := List.getElem?_of_mem he
    have := (h3 j e hj).1
    unfold El.ok
    omega
  · obtain ⟨j, hj⟩ := List.getElem?_of_mem he
    exact (h3 j e hj).2
theorem few1_ok {w0 : World} {F : List HProp} {fa a : Option Addr} {fc c : Nat} {k i : Int} {s : List UInt8} {xs : List El} (hr : RdO w0 F (.slice fa 1 fc) 1 (vcl k i s (.slice a xs.length c))) (h1 : RdO w0 F (.slice a xs.length c) xs.length (xs.flatMap ecl)) :
    FnO Try.prog w0 30 [.slice fa 1 fc, .int .i64 1] F (fun r l' => ∃ b, r = .bool b ∧ l' = F ∧ (b = true → FewU ⟨k, i, s, xs, a, c⟩)) :=
  (few_ok (vs := [⟨k, i, s, xs, a, c⟩]) (m := 1) (by simp) hr (by
    intro u hu
    obtain rfl := List.mem_singleton.1 hu
    exact h1)).mono fun r l' ⟨b, q1, q2, q3⟩ => ⟨b, q1, q2, fun hb => (q3 hb).2 0 _ (by omega) rfl⟩
theorem ordI0 {a b : Int} : ordI a b = 0 ↔ a = b := by unfold ordI; omega
theorem ordB0 {s t : List UInt8} : ordB s t = 0 ↔ s = t := by
  induction s generalizing t with
  | nil => cases t <;> simp [ordB]
  | cons a s ih =>
    cases t with
    | nil => simp [ordB]
    | cons b t =>
      rw [ordB]
      split
      · rename_i h; constructor
        · intro q; cases q
        · intro q; cases q; exact absurd h (UInt8.lt_irrefl _)
      · split
        · rename_i h; constructor
          · intro q; cases q
          · intro q; cases q; exact absurd h (UInt8.lt_irrefl _)
        · rename_i h1 h2
          have hab : a = b := by
            have h1' : ¬ a.toNat < b.toNat := fun h => h1 (UInt8.lt_iff_toNat_lt.2 h)
            have h2' : ¬ b.toNat < a.toNat := fun h => h2 (UInt8.lt_iff_toNat_lt.2 h)
            exact UInt8.toNat_inj.1 (by omega)
          rw [ih, List.cons.injEq]
          exact ⟨fun q => ⟨hab, q⟩, fun q => q.2⟩
theorem ordV0 {k i k' i' : Int} {s s' : List UInt8} : ordV k i s k' i' s' = 0 ↔ k = k' ∧ i = i' ∧ s = s' := by
  unfold ordV
  split
  · rename_i h; exact ⟨fun q => absurd q h, fun q => absurd (ordI0.2 q.1) h⟩
  · rename_i h
    have h := Decidable.not_not.1 h
    split
    · rename_i h2; exact ⟨fun q => absurd q h2, fun q => absurd (ordI0.2 q.2.1) h2⟩
    · rename_i h2
      have h2 := Decidable.not_not.1 h2
      rw [ordB0]
      exact ⟨fun q => ⟨ordI0.1 h, ordI0.1 h2, q⟩, fun q => q.2.2⟩
theorem orderE_ok {w0 : World} {F : List HProp} {x y : El} (hx : x.n = 0) (hy : y.n = 0) :
    FnO Try.prog w0 43 [.agg (ecl x).toArray, .agg (ecl y).toArray] F (fun r l' => r = .int .i64 (ordV x.k x.i x.s y.k y.i y.s) ∧ l' = F) := by
  obtain ⟨k, i, s, a, n, c⟩ := x
  obtain ⟨k', i', s', a', n', c'⟩ := y
  cases hx; cases hy
  exact order_ok
theorem cmpf2_ok {w0 : World} {F : List HProp} {a a2 : Option Addr} {c c2 : Nat} {xs ys : List El} (hn : xs.length ≤ 9223372036854775807) (hm : ys.length ≤ 9223372036854775807) (hx : ∀ e ∈ xs, e.n = 0) (hy : ∀ e ∈ ys, e.n = 0) (hr : RdO w0 F (.slice a xs.length c) xs.length (xs.flatMap ecl)) (hr2 : RdO w0 F (.slice a2 ys.length c2) ys.length (ys.flatMap ecl)) :
    FnO Try.prog w0 49 [.slice a xs.length c, .slice a2 ys.length c2, .func (.func 43) #[] #[]] F (fun r l' => ∃ n, r = .int .i64 n ∧ l' = F ∧ (n = 0 ↔ xs.map pl = ys.map pl)) := by
  have hlen : ∀ e ∈ xs, (ecl e).length = 4 := fun _ _ => rfl
  have hlen2 : ∀ e ∈ ys, (ecl e).length = 4 := fun _ _ => rfl
  refine FnO.rdF (fun _ h => h) hr fun hd1 => ?_
  refine FnO.rdF (fun _ h => h) hr2 fun hd2 => ?_
  refine FnO.weak ?_
  refine FnO.intro (n := 39) Try.func49 rfl rfl rfl ?_
  refine J.seq ?_
  refine J.region ?_
  refine JL.pure rfl rfl (OpP.assign rfl) ?_
  refine JL.nil ?_
  refine J.seq ?_
  refine J.seq ?_
  refine J.region ?_
  refine JL.pure rfl rfl (OpP.move rfl) ?_
  refine JL.pure rfl rfl (OpP.len rfl rfl) ?_
  refine JL.pure rfl rfl (OpP.move rfl) ?_
  refine JL.nil ?_
  refine J.block ?_
  refine J.loopI (fun j : Nat => xs.length - j) (fun j => j ≤ xs.length ∧ j ≤ ys.length ∧ (xs.take j).map pl = (ys.take j).map pl) (fun j => [(13, .int .i64 (j : Nat)), (12, .int .i64 (xs.length : Nat)), (11, .slice a xs.length c), (2, .func (.func 43) #[] #[]), (1, .slice a2 ys.length c2), (0, .slice a xs.length c)])
    (fun _ => F) 0 ⟨Nat.zero_le _, Nat.zero_le _, rfl⟩ (by repeat (first | exact SubEnv.nil | refine SubEnv.cons (by first | rfl | exact congrArg (fun z => some (Value.int .i64 z)) (by omega) | (simp; done)) ?_)) (fun _ h => h) (fun j hi back => ?_)
  dsimp only at hi back ⊢
  obtain ⟨hj, hj2, hg⟩ := hi
  by_cases hlt : j < xs.length
  · obtain ⟨x, hxj⟩ : ∃ e, xs[j]? = some e := ⟨_, List.getElem?_eq_getElem hlt⟩
    obtain ⟨ga, pa, qa, ea, ka, hcs⟩ := hd1.pos (by omega)
    rw [ea] at hd1 back ⊢
    by_cases hlt2 : j < ys.length
    · obtain ⟨y, hyj⟩ : ∃ e, ys[j]? = some e := ⟨_, List.getElem?_eq_getElem hlt2⟩
      obtain ⟨gb, pb, qb, eb, kb, hcs2⟩ := hd2.pos (by omega)
      rw [eb] at hd2 back ⊢
      have hx0 := hx x (List.mem_of_getElem? hxj)
      have hy0 := hy y (List.mem_of_getElem? hyj)
      refine J.seq ?_
      refine J.region ?_
      refine JL.decT rfl rfl (OpP.lss rfl rfl) (by omega) ?_
      refine JL.nil ?_
      refine J.seq ?_
      refine J.condT rfl ?_
      refine J.skip ?_
      refine J.seq ?_
      refine J.block ?_
      refine J.seq ?_
      refine J.region ?_
      refine JL.pure rfl rfl (OpP.move rfl) ?_
      refine JL.pure rfl rfl (OpP.indexAddr rfl rfl (by omega) (by omega)) ?_
      refine JL.read rfl rfl (OpR.loadN rfl (by apply Cells.conv (fun _ h => h); apply Cells.chunkAt hcs; (case' h => assumption); (case' hi => assumption); done) (by first | rfl | assumption)) ?_
      refine JL.mem rfl rfl OpM.alloc ?_; rintro _ _ ⟨b8, rfl, rfl⟩
      refine JL.pure rfl rfl (OpP.assign rfl) ?_
      refine JL.mem0 rfl (by apply OpM.storeN rfl rfl (by rfl) (oneC rfl (oneC rfl (oneC rfl (one1 rfl)))); (case' hu => exact .head); (case' hs => exact (.here (.here (.here (.here .nil))))); done) ?_; rintro _ _ ⟨rfl, rfl⟩
      refine JL.nil ?_
      refine J.seq ?_
      refine J.seq ?_
      refine J.region ?_
      refine JL.pure rfl rfl (OpP.move rfl) ?_
      refine JL.pure rfl rfl (OpP.move rfl) ?_
      refine JL.pure rfl rfl (OpP.len rfl rfl) ?_
      refine JL.decF rfl rfl (OpP.geq rfl rfl) (by omega) ?_
      refine JL.nil ?_
      refine J.condF rfl ?_
      refine J.skip ?_
      refine J.seq ?_
      refine J.region ?_
      refine JL.pure rfl rfl (OpP.move rfl) ?_
      refine JL.pure rfl rfl (OpP.move rfl) ?_
      refine JL.pure rfl rfl (OpP.indexAddr rfl rfl (by omega) (by omega)) ?_
      refine JL.read rfl rfl (OpR.loadN rfl (by apply Cells.conv (fun _ h => Own.pick (pre := [_]) [] rfl h); apply Cells.chunkAt hcs2; (case' h => assumption); (case' hi => assumption); done) (by first | rfl | assumption)) ?_
      refine JL.mem rfl rfl OpM.alloc ?_; rintro _ _ ⟨b9, rfl, rfl⟩
      refine JL.mem0 rfl (by apply OpM.storeN rfl rfl (by rfl) (oneC rfl (oneC rfl (oneC rfl (one1 rfl)))); (case' hu => exact .head); (case' hs => exact (.here (.here (.here (.here .nil))))); done) ?_; rintro _ _ ⟨rfl, rfl⟩
      refine JL.nil ?_
      refine J.seq ?_
      refine J.region ?_
      refine JL.pure rfl rfl (OpP.move rfl) ?_
      refine JL.read rfl rfl (OpR.loadN rfl (Cells.full (.tail .head)) rfl) ?_
      refine JL.read rfl rfl (OpR.loadN rfl (Cells.full .head) rfl) ?_
      refine JL.step rfl rfl (OpW.call (first := []) (captured := []) inferInstance rfl rfl (orderE_ok hx0 hy0)) ?_; rintro r29 _ ⟨rfl, rfl⟩
      refine JL.pure rfl rfl (OpP.assign rfl) ?_
      refine JL.nil ?_
      refine J.seq ?_
      refine J.region ?_
      refine JL.pure rfl rfl (OpP.move rfl) ?_
      refine JL.dec rfl rfl (OpP.neq rfl rfl) (fun h31 => ?_) (fun h31 => ?_)
      focus
        refine JL.nil ?_
        refine J.condT rfl ?_
        refine J.seq ?_
        refine J.region ?_
        refine JL.pure rfl rfl (OpP.move rfl) ?_
        refine JL.pure rfl rfl (OpP.assign rfl) ?_
        refine JL.nil ?_
        refine J.ret1 rfl rfl ?_
      rotate_left 1
      focus
        refine JL.nil ?_
        refine J.condF rfl ?_
        refine J.skip ?_
        refine J.inBlock ?_
        refine J.region ?_
        refine JL.pure rfl rfl (OpP.addI rfl rfl (by omega) (by omega)) ?_
        refine JL.pure rfl rfl (OpP.move rfl) ?_
        refine JL.nil ?_
      rotate_left 1
      · refine ⟨_, ⟨_, rfl, rfl, fun q => absurd q h31, fun q => absurd ?_ h31⟩, fun _ h => h.tail.tail⟩
        have hq := congrArg (·[j]?) q
        simp only [List.getElem?_map, hxj, hyj, Option.map_some, Option.some.injEq, pl, Prod.mk.injEq] at hq
        exact ordV0.2 hq
      · refine back (j + 1) ⟨by omega, by omega, ?_⟩ (by omega) (by repeat (first | exact SubEnv.nil | refine SubEnv.cons (by first | rfl | exact congrArg (fun z => some (Value.int .i64 z)) (by omega) | (simp; done)) ?_)) (fun _ h => h.tail.tail)
        obtain ⟨q1, q2, q3⟩ := ordV0.1 (Decidable.not_not.1 h31)
        rw [List.take_add_one, List.take_add_one, List.map_append, List.map_append, hg, hxj, hyj]
        simp only [Option.toList_some, List.map_cons, List.map_nil, pl, q1, q2, q3]
    · refine J.seq ?_
      refine J.region ?_
      refine JL.decT rfl rfl (OpP.lss rfl rfl) (by omega) ?_
      refine JL.nil ?_
      refine J.seq ?_
      refine J.condT rfl ?_
      refine J.skip ?_
      refine J.seq ?_
      refine J.block ?_
      refine J.seq ?_
      refine J.region ?_
      refine JL.pure rfl rfl (OpP.move rfl) ?_
      refine JL.pure rfl rfl (OpP.indexAddr rfl rfl (by omega) (by omega)) ?_
      refine JL.read rfl rfl (OpR.loadN rfl (by apply Cells.conv (fun _ h => h); apply Cells.chunkAt hcs; (case' h => assumption); (case' hi => assumption); done) (by first | rfl | assumption)) ?_
      refine JL.mem rfl rfl OpM.alloc ?_; rintro _ _ ⟨b8, rfl, rfl⟩
      refine JL.pure rfl rfl (OpP.assign rfl) ?_
      refine JL.mem0 rfl (by apply OpM.storeN rfl rfl (by rfl) (oneC rfl (oneC rfl (oneC rfl (one1 rfl)))); (case' hu => exact .head); (case' hs => exact (.here (.here (.here (.here .nil))))); done) ?_; rintro _ _ ⟨rfl, rfl⟩
      refine JL.nil ?_
      refine J.seq ?_
      refine J.seq ?_
      refine J.region ?_
      refine JL.pure rfl rfl (OpP.move rfl) ?_
      refine JL.pure rfl rfl (OpP.move rfl) ?_
      refine JL.pure rfl rfl (OpP.len rfl rfl) ?_
      refine JL.decT rfl rfl (OpP.geq rfl rfl) (by omega) ?_
      refine JL.nil ?_
      refine J.condT rfl ?_
      refine J.seq ?_
      refine J.region ?_
      refine JL.pure rfl rfl (OpP.assign rfl) ?_
      refine JL.nil ?_
      refine J.ret1 rfl rfl ?_
      exact ⟨_, ⟨_, rfl, rfl, fun q => absurd q (by decide), fun q => absurd (congrArg List.length q) (by rw [List.length_map, List.length_map]; omega)⟩, fun _ h => h.tail⟩
  · refine J.seq ?_
    refine J.region ?_
    refine JL.decF rfl rfl (OpP.lss rfl rfl) (by omega) ?_
    refine JL.nil ?_
    refine J.seq ?_
    refine J.condF rfl ?_
    refine J.exit rfl ?_
    refine J.seq ?_
    refine J.seq ?_
    refine J.region ?_
    refine JL.pure rfl rfl (OpP.move rfl) ?_
    refine JL.pure rfl rfl (OpP.len rfl rfl) ?_
    refine JL.pure rfl rfl (OpP.move rfl) ?_
    refine JL.pure rfl rfl (OpP.len rfl rfl) ?_
    refine JL.dec rfl rfl (OpP.lss rfl rfl) (fun h38 => ?_) (fun h38 => ?_)
    focus
      refine JL.nil ?_
      refine J.condT rfl ?_
      refine J.seq ?_
      refine J.region ?_
      refine JL.pure rfl rfl (OpP.assign rfl) ?_
      refine JL.nil ?_
      refine J.ret1 rfl rfl ?_
    rotate_left 1
    focus
      refine JL.nil ?_
      refine J.condF rfl ?_
      refine J.skip ?_
      refine J.seq ?_
      refine J.region ?_
      refine JL.pure rfl rfl (OpP.assign rfl) ?_
      refine JL.nil ?_
      refine J.ret1 rfl rfl ?_
    rotate_left 1
    · exact ⟨_, ⟨_, rfl, rfl, fun q => absurd q (by decide), fun q => absurd (congrArg List.length q) (by rw [List.length_map, List.length_map]; omega)⟩, fun _ h => h⟩
    · refine ⟨_, ⟨_, rfl, rfl, fun _ => ?_, fun _ => rfl⟩, fun _ h => h⟩
      rw [List.take_of_length_le (by omega), List.take_of_length_le (by omega)] at hg
      exact hg
/-- Two values that are alike, by the order. -/
theorem orderZ_ok {w0 : World} {F : List HProp} {u v : Va} (hn : u.xs.length ≤ 9223372036854775807) (hm : v.xs.length ≤ 9223372036854775807) (hx : ∀ e ∈ u.xs, e.n = 0) (hy : ∀ e ∈ v.xs, e.n = 0) (hr : RdO w0 F (.slice u.a u.xs.length u.c) u.xs.length (u.xs.flatMap ecl)) (hr2 : RdO w0 F (.slice v.a v.xs.length v.c) v.xs.length (v.xs.flatMap ecl)) :
    FnO Try.prog w0 43 [.agg (vac u).toArray, .agg (vac v).toArray] F (fun r l' => ∃ n, r = .int .i64 n ∧ l' = F ∧ (n = 0 ↔ u.k = v.k ∧ u.i = v.i ∧ u.s = v.s ∧ u.xs.map pl = v.xs.map pl)) := by
  have pb := fun (A B C : HProp) => cmpf2_ok (F := A :: B :: C :: F) hn hm hx hy hr.sub.sub.sub hr2.sub.sub.sub
  refine FnO.weak ?_
  refine FnO.intro (n := 31) Try.func43 rfl rfl rfl ?_
  refine J.seq ?_
  refine J.region ?_
  refine JL.mem rfl rfl (OpM.box rfl rfl) ?_; rintro _ _ ⟨b2, rfl, rfl⟩
  refine JL.mem rfl rfl (OpM.box rfl rfl) ?_; rintro _ _ ⟨b3, rfl, rfl⟩
  refine JL.pure rfl rfl (OpP.assign rfl) ?_
  refine JL.nil ?_
  refine J.seq ?_
  refine J.seq ?_
  refine J.regionD [1, 3, 6, 8, 11, 13] (by kernel_rfl) ?_
  refine DL.pure (i := 0) (by kernel_rfl) (by kernel_rfl) rfl rfl rfl (OpP.fieldAddr rfl) ?_
  refine DL.read (i := 1) (by kernel_rfl) (by kernel_rfl) rfl rfl rfl (fun _ h => h) (OpR.load1 rfl (Cell.row (.tail .head) rfl)) ?_
  refine DL.pure (i := 2) (by kernel_rfl) (by kernel_rfl) rfl rfl rfl (OpP.fieldAddr rfl) ?_
  refine DL.read (i := 3) (by kernel_rfl) (by kernel_rfl) rfl rfl rfl (fun _ h => h) (OpR.load1 rfl (Cell.row .head rfl)) ?_
  refine DL.pure (i := 5) (by kernel_rfl) (by kernel_rfl) rfl rfl rfl (OpP.fieldAddr rfl) ?_
  refine DL.read (i := 6) (by kernel_rfl) (by kernel_rfl) rfl rfl rfl (fun _ h => h) (OpR.load1 rfl (Cell.row (.tail .head) rfl)) ?_
  refine DL.pure (i := 7) (by kernel_rfl) (by kernel_rfl) rfl rfl rfl (OpP.fieldAddr rfl) ?_
  refine DL.read (i := 8) (by kernel_rfl) (by kernel_rfl) rfl rfl rfl (fun _ h => h) (OpR.load1 rfl (Cell.row .head rfl)) ?_
  refine DL.pure (i := 10) (by kernel_rfl) (by kernel_rfl) rfl rfl rfl (OpP.fieldAddr rfl) ?_
  refine DL.read (i := 11) (by kernel_rfl) (by kernel_rfl) rfl rfl rfl (fun _ h => h) (OpR.load1 rfl (Cell.row (.tail .head) rfl)) ?_
  refine DL.pure (i := 12) (by kernel_rfl) (by kernel_rfl) rfl rfl rfl (OpP.fieldAddr rfl) ?_
  refine DL.read (i := 13) (by kernel_rfl) (by kernel_rfl) rfl rfl rfl (fun _ h => h) (OpR.load1 rfl (Cell.row .head rfl)) ?_
  refine DL.only (i := 4) (by kernel_rfl) ?_
  refine DL1.stepK rfl rfl rfl (by exact OpW.call (first := []) (captured := []) inferInstance rfl rfl compare_ok) (by rintro _ _ ⟨rfl, rfl⟩ _ h; exact Own.pick (pre := [_, _]) [0, 1] rfl h) ?_; rintro r10 _ ⟨rfl, rfl⟩
  refine DL.only (i := 9) (by kernel_rfl) ?_
  refine DL1.stepK rfl rfl rfl (by exact OpW.call (first := []) (captured := []) inferInstance rfl rfl compare64_ok) (by rintro _ _ ⟨rfl, rfl⟩ _ h; exact Own.pick (pre := [_, _]) [0, 1] rfl h) ?_; rintro r15 _ ⟨rfl, rfl⟩
  refine DL.only (i := 14) (by kernel_rfl) ?_
  refine DL1.stepF rfl rfl rfl (by kernel_rfl) (by exact OpW.call (first := []) (captured := []) inferInstance rfl rfl strCompare_ok) ?_; rintro r20 _ ⟨rfl, rfl⟩
  refine DL.only (i := 15) (by kernel_rfl) ?_
  refine DL1.stepF rfl rfl rfl (by kernel_rfl) (OpM.w (by apply OpM.buildSlice (by rfl) rfl (by rfl); (repeat (first | exact Fills.nil | (apply Fills.cons rfl rfl rfl; (case' hs => ((repeat (first | exact Spl.nil | apply Spl.here | apply Spl.there)); done))))))) ?_; rintro _ _ ⟨b21, rfl, rfl⟩
  refine DL.only (i := 16) (by kernel_rfl) ?_
  refine DL1.stepF rfl rfl rfl (by kernel_rfl) (by exact OpW.call (first := []) (captured := []) inferInstance rfl rfl or_ok) ?_; rintro r22 _ ⟨rfl, rfl⟩
  refine DL.pure (i := 17) (by kernel_rfl) (by kernel_rfl) rfl rfl rfl (OpP.assign rfl) ?_
  refine DL.done (by kernel_rfl) ?_
  refine J.seq ?_
  refine J.region ?_
  refine JL.pure rfl rfl (OpP.move rfl) ?_
  refine JL.dec rfl rfl (OpP.neq rfl rfl) (fun h24 => ?_) (fun h24 => ?_)
  focus
    refine JL.nil ?_
    refine J.condT rfl ?_
    refine J.seq ?_
    refine J.region ?_
    refine JL.pure rfl rfl (OpP.move rfl) ?_
    refine JL.pure rfl rfl (OpP.assign rfl) ?_
    refine JL.nil ?_
    refine J.ret1 rfl rfl ?_
  rotate_left 1
  focus
    refine JL.nil ?_
    refine J.condF rfl ?_
    refine J.skip ?_
    refine J.seq ?_
    refine J.region ?_
    refine JL.pure rfl rfl (OpP.fieldAddr rfl) ?_
    refine JL.read rfl rfl (OpR.load1 rfl (Cell.row (.tail (.tail .head)) rfl)) ?_
    refine JL.pure rfl rfl (OpP.fieldAddr rfl) ?_
    refine JL.read rfl rfl (OpR.load1 rfl (Cell.row (.tail .head) rfl)) ?_
    refine JL.step rfl rfl (OpW.call (first := []) (captured := []) inferInstance rfl rfl (pb _ _ _)) ?_; rintro r30 _ ⟨n, ⟨rfl, ⟨rfl, h30⟩⟩⟩
    refine JL.pure rfl rfl (OpP.assign rfl) ?_
    refine JL.nil ?_
    refine J.ret1 rfl rfl ?_
  rotate_left 1
  · have h24' : ¬ ordV u.k u.i u.s v.k v.i v.s = 0 := h24
    exact ⟨_, ⟨_, rfl, rfl, fun q => absurd q h24, fun q => absurd (ordV0.2 ⟨q.1, q.2.1, q.2.2.1⟩) h24'⟩, fun _ h => h.tail.tail.tail⟩
  · have h24' : ordV u.k u.i u.s v.k v.i v.s = 0 := Decidable.not_not.1 h24
    obtain ⟨q1, q2, q3⟩ := ordV0.1 h24'
    exact ⟨_, ⟨_, rfl, rfl, fun q => ⟨q1, q2, q3, h30.1 q⟩, fun q => h30.2 q.2.2.2⟩, fun _ h => h.tail.tail.tail⟩
/-- Two values that are alike. -/
def VaEq (u v : Va) : Prop := u.k = v.k ∧ u.i = v.i ∧ u.s = v.s ∧ u.xs.map pl = v.xs.map pl
/-- What a value is from outside. -/
structure VOk (w0 : World) (F : List HProp) (u : Va) : Prop where
  n : u.xs.length ≤ 9223372036854775807
  e : ∀ e ∈ u.xs, e.ok
  z : ∀ e ∈ u.xs, e.n = 0
  r : RdO w0 F (.slice u.a u.xs.length u.c) u.xs.length (u.xs.flatMap ecl)
theorem VOk.conv {w0 : World} {F G : List HProp} {u : Va} (hl : ∀ w, Own w0 w G → Own w0 w F) (h : VOk w0 F u) : VOk w0 G u := ⟨h.n, h.e, h.z, h.r.conv hl⟩
theorem VOk.sub {w0 : World} {F : List HProp} {A : HProp} {u : Va} (h : VOk w0 F u) : VOk w0 (A :: F) u := h.conv fun _ h => h.tail
theorem order0_ok {w0 : World} {F : List HProp} {u v : Va} (hu : VOk w0 F u) (hv : VOk w0 F v) :
    FnO Try.prog w0 43 [.agg (vac u).toArray, .agg (vac v).toArray] F (fun r l' => ∃ n, r = .int .i64 n ∧ l' = F ∧ (n = 0 ↔ VaEq u v)) := orderZ_ok hu.n hv.n hu.z hv.z hu.r hv.r
theorem same_iff {u v : Va} (hx : ∀ e ∈ u.xs, e.n = 0) (hy : ∀ e ∈ v.xs, e.n = 0) : SameP u.k u.i u.s u.xs v.k v.i v.s v.xs ↔ VaEq u v := by
  constructor
  · rintro ⟨h1, h2, h3, hl, hg⟩
    refine ⟨h1, h2, h3, ?_⟩
    apply List.ext_getElem?
    intro j
    rw [List.getElem?_map, List.getElem?_map]
    by_cases hj : j < u.xs.length
    · have e1 : u.xs[j]? = some u.xs[j] := List.getElem?_eq_getElem hj
      have e2 : v.xs[j]? = some v.xs[j] := List.getElem?_eq_getElem (by omega)
      obtain ⟨g1, g2, g3, _⟩ := hg j _ _ e1 e2
      rw [e1, e2, Option.map_some, Option.map_some, pl, pl, g1, g2, g3]
    · rw [List.getElem?_eq_none (by omega), List.getElem?_eq_none (by omega)]
  · rintro ⟨h1, h2, h3, hm⟩
    refine ⟨h1, h2, h3, by have := congrArg List.length hm; simpa using this, fun j x y hxj hyj => ?_⟩
    have h1 := congrArg (·[j]?) hm
    simp only [List.getElem?_map, hxj, hyj, Option.map_some, Option.some.injEq, pl, Prod.mk.injEq] at h1
    exact ⟨h1.1, h1.2.1, h1.2.2, hx x (List.mem_of_getElem? hxj), hy y (List.mem_of_getElem? hyj)⟩
theorem sameV_ok {w0 : World} {F : List HProp} {u v : Va} (hu : VOk w0 F u) (hv : VOk w0 F v) :
    FnO Try.prog w0 37 [.agg (vac u).toArray, .agg (vac v).toArray] F (fun r l' => ∃ b, r = .bool b ∧ l' = F ∧ (b = true ↔ VaEq u v)) :=
  (same_ok hu.n hv.n hu.r hv.r).mono fun r l' ⟨b, h1, h2, h3⟩ => ⟨b, h1, h2, h3.trans (same_iff hu.z hv.z)⟩
theorem Fm.val {w0 : World} {cs : List Value} (h : Fm Try.prog w0 24 cs) : ∃ k i s a c, ∃ xs : List El, InR i xs ∧ cs = vcl k i s (.slice a xs.length c) ∧ ∀ l, Rd w0 l (.slice a xs.length c) xs.length (xs.flatMap ecl) := by
  have h := h.fields (l := [(3, 1), (2, 1), (9, 1), (22, 1)]) (by kernel_rfl)
  obtain ⟨c0, cs, rfl, f0, h⟩ := h.one
  obtain ⟨c1, cs, rfl, f1, h⟩ := h.one
  obtain ⟨c2, cs, rfl, f2, h⟩ := h.one
  obtain ⟨c3, cs, rfl, f3, h⟩ := h.one
  cases h
  obtain ⟨k, e0, _⟩ := f0.int (k := .i64) (by kernel_rfl)
  obtain ⟨i, e1, k1⟩ := f1.int (k := .i64) (by kernel_rfl)
  obtain ⟨s, e2, _⟩ := f2.str (by kernel_rfl)
  simp [Lit.wf, IntKind.min, IntKind.max, IntKind.signed, IntKind.bits] at k1
  cases e0; cases e1; cases e2
  obtain ⟨xs, hl, _, hr⟩ := Fm.rows (f := ecl) (Q := fun e => -9223372036854775808 ≤ e.i ∧ e.i ≤ 9223372036854775807) (e := 24) (by kernel_rfl) (sz := 4) (by kernel_rfl) (by decide) f3 fun cs _ hf => by
    have h := hf.fields (l := [(3, 1), (2, 1), (9, 1), (22, 1)]) (by kernel_rfl)
    obtain ⟨c0, cs, rfl, f0, h⟩ := h.one
    obtain ⟨c1, cs, rfl, f1, h⟩ := h.one
    obtain ⟨c2, cs, rfl, f2, h⟩ := h.one
    obtain ⟨c4, cs, rfl, f4, h⟩ := h.one
    cases h
    obtain ⟨k, e0, _⟩ := f0.int (k := .i64) (by kernel_rfl)
    obtain ⟨i, e1, k1⟩ := f1.int (k := .i64) (by kernel_rfl)
    obtain ⟨s, e2, _⟩ := f2.str (by kernel_rfl)
    simp [Lit.wf, IntKind.min, IntKind.max, IntKind.signed, IntKind.bits] at k1
    cases e0; cases e1; cases e2
    obtain ⟨p, a, n, c, e4⟩ : ∃ (_ : Unit) (a : Option Addr) (n c : Nat), c4 = .slice a n c := by
      rcases f4.slice (e := 24) (by kernel_rfl) with h0 | ⟨a, n, c, h0, _⟩
      · simp at h0; exact ⟨(), _, _, _, h0⟩
      · simp at h0; exact ⟨(), _, _, _, h0⟩
    subst e4
    exact ⟨⟨k, i, s.data.toList, a, n, c⟩, k1, by simp [ecl, vcl, strB]⟩
  obtain ⟨a, c, e⟩ := (hr []).lit
  cases e
  exact ⟨k, i, s.data.toList, a, c, xs, ⟨k1, fun e he => (hl e he).1⟩, by simp [vcl, strB], hr⟩
end Go.Proofs.D

-- seat d
namespace Go.Proofs.D
open Go Go.Gp Go.RowKit

abbrev Str := ByteArray
/-- A tree, as it lies in memory. -/
inductive Ex where
  | mk (op who name : Str) (v : Va) (ps : List Ex) (a : Option Addr) (c : Nat)
def Ex.op : Ex → Str | .mk op _ _ _ _ _ _ => op
def Ex.who : Ex → Str | .mk _ who _ _ _ _ _ => who
def Ex.name : Ex → Str | .mk _ _ name _ _ _ _ => name
def Ex.v : Ex → Va | .mk _ _ _ v _ _ _ => v
def Ex.ps : Ex → List Ex | .mk _ _ _ _ ps _ _ => ps
def Ex.a : Ex → Option Addr | .mk _ _ _ _ _ a _ => a
def Ex.c : Ex → Nat | .mk _ _ _ _ _ _ c => c
abbrev xcl (e : Ex) : List Value := [.string e.op, .int .i64 e.v.k, .int .i64 e.v.i, .string (strB e.v.s), .slice e.v.a e.v.xs.length e.v.c, .string e.who, .string e.name, .slice e.a e.ps.length e.c]

/-- The tree alone. -/
inductive Nf where
  | mk (op who name : Str) (v : Int × Int × List UInt8 × List Pl) (ps : List Nf)
mutual
def enf : Ex → Nf
  | .mk op who name v ps _ _ => .mk op who name (v.k, v.i, v.s, v.xs.map pl) (enfs ps)
def enfs : List Ex → List Nf
  | [] => []
  | e :: es => enf e :: enfs es
end
theorem enfs_map : ∀ es : List Ex, enfs es = es.map enf
  | [] => rfl
  | e :: es => by rw [enfs, enfs_map es]; rfl
theorem enf_eq (e : Ex) : enf e = .mk e.op e.who e.name (e.v.k, e.v.i, e.v.s, e.v.xs.map pl) (e.ps.map enf) := by
  cases e; rw [enf, enfs_map]; rfl
mutual
def esz : Ex → Nat
  | .mk _ _ _ _ ps _ _ => 1 + eszs ps
def eszs : List Ex → Nat
  | [] => 0
  | e :: es => esz e + eszs es
end
theorem esz_eq (e : Ex) : esz e = 1 + eszs e.ps := by cases e; rw [esz]; rfl
theorem eszs_take {es : List Ex} {j : Nat} {e : Ex} (h : es[j]? = some e) : eszs (es.take (j + 1)) = eszs (es.take j) + esz e := by
  have key : ∀ (l : List Ex) (e : Ex), eszs (l ++ [e]) = eszs l + esz e := by
    intro l e
    induction l with
    | nil => simp [eszs]
    | cons a l ih => rw [List.cons_append, eszs, eszs, ih]; omega
  rw [List.take_add_one, h, Option.toList_some, key]
theorem eszs_mem {es : List Ex} {e : Ex} (h : e ∈ es) : esz e ≤ eszs es := by
  induction es with
  | nil => cases h
  | cons a l ih =>
    rw [eszs]
    rcases List.mem_cons.1 h with rfl | h
    · omega
    · have := ih h; omega
theorem esz_pos (e : Ex) : 1 ≤ esz e := by rw [esz_eq]; omega
theorem eszs_len : ∀ es : List Ex, es.length ≤ eszs es
  | [] => Nat.le_refl _
  | e :: es => by rw [eszs, List.length_cons]; have := eszs_len es; have := esz_pos e; omega

/-- A tree from outside. -/
inductive ExOk (w0 : World) : Ex → Prop
  | mk {e : Ex} (hv : ∀ l, RdO w0 l (.slice e.v.a e.v.xs.length e.v.c) e.v.xs.length (e.v.xs.flatMap ecl)) (hp : ∀ l, RdO w0 l (.slice e.a e.ps.length e.c) e.ps.length (e.ps.flatMap xcl)) (hn : e.ps.length ≤ maxLen) (h : ∀ p ∈ e.ps, ExOk w0 p) : ExOk w0 e
/-- A tree whose texts are short. -/
inductive Shrt : Ex → Prop
  | mk {e : Ex} (h1 : e.op.size ≤ 200) (h2 : e.who.size ≤ 200) (h3 : e.name.size ≤ 200) (hv : FewU e.v) (h : ∀ p ∈ e.ps, Shrt p) : Shrt e
/-- A tree of those that are looked at. -/
inductive Tr (w0 : World) : Ex → Prop
  | mk {e : Ex} (h1 : e.op.size ≤ 200) (h2 : e.who.size ≤ 200) (h3 : e.name.size ≤ 200) (hv : ∀ l, VOk w0 l e.v) (hp : ∀ l, RdO w0 l (.slice e.a e.ps.length e.c) e.ps.length (e.ps.flatMap xcl)) (hs : esz e ≤ 60) (h : ∀ p ∈ e.ps, Tr w0 p) : Tr w0 e
theorem Tr.of {w0 : World} {e : Ex} (h : ExOk w0 e) (hs : Shrt e) (hz : esz e ≤ 60) : Tr w0 e := by
  induction h with
  | mk hv hp hn h ih =>
    rename_i e
    cases hs with
    | mk h1 h2 h3 hf hh =>
      obtain ⟨q1, q2, q3⟩ := few_okE (k := e.v.k) (i := e.v.i) (s := e.v.s) (xs := e.v.xs) (a := e.v.a) (c := e.v.c) hf
      refine .mk h1 h2 h3 (fun l => ⟨by omega, q1, q3, hv l⟩) hp hz fun p hp => ih p hp (hh p hp) ?_
      have := eszs_mem hp
      rw [esz_eq] at hz
      omega
theorem Tr.len {w0 : World} {e : Ex} (h : Tr w0 e) : e.ps.length ≤ 59 := by
  cases h with
  | mk h1 h2 h3 hv hp hs h =>
    rw [esz_eq] at hs
    have := eszs_len e.ps
    omega

/-! From outside. -/
def FmN (P : Program) (w : World) (t : TypeId) (N : Nat) (cs : List Value) : Prop :=
  ∃ (H : Type) (enc : TypeId × Value → H) (base : Nat) (spare : Nat → Bool) (held : Bool) (x : DataW H × List MemPlace), DataW.trod enc P w base spare held N t cs = some x
theorem FmN.fm {P : Program} {w : World} {t : TypeId} {N : Nat} {cs : List Value} (h : FmN P w t N cs) : Fm P w t cs := by
  obtain ⟨H, enc, base, spare, held, x, h⟩ := h; exact ⟨H, enc, base, spare, held, N, x, h⟩
theorem Fm.n {P : Program} {w : World} {t : TypeId} {cs : List Value} (h : Fm P w t cs) : ∃ N, FmN P w t N cs := by
  obtain ⟨H, enc, base, spare, held, N, x, h⟩ := h; exact ⟨N, H, enc, base, spare, held, x, h⟩
theorem FmN.struct {P : Program} {w : World} {t : TypeId} {N : Nat} {cs : List Value} {fs : Array Field} (ht : P.underlying t = some (.struct fs)) (h : FmN P w t N cs) :
    ∃ n, N = n + 1 ∧ cs.length = P.cellsOf t ∧ ∀ (i : Nat) f, fs.toList[i]? = some f → FmN P w f.type n ((cs.drop f.offset).take (P.cellsOf f.type)) := by
  obtain ⟨H, enc, base, spare, held, x, h⟩ := h
  obtain ⟨xs, n, hN, _, hl, hlen, hf⟩ := DataW.trod_struct ht h
  refine ⟨n, hN, hl, fun i f hi => ?_⟩
  have h1 := (List.getElem?_eq_some_iff.1 hi).1
  have h2 := hf i f (by simpa using hi)
  rw [List.getElem?_eq_getElem (by simp at h1; omega)] at h2
  exact ⟨H, enc, base, spare, held, _, h2⟩
theorem FmN.slice {P : Program} {w : World} {t e : TypeId} {N : Nat} {cs : List Value} (ht : P.underlying t = some (.slice e)) (h : FmN P w t N cs) :
    cs = [.slice none 0 0] ∨ ∃ (a : Addr) (len cap n : Nat), N = n + 1 ∧ cs = [.slice (some a) len cap] ∧ len ≤ cap ∧ cap ≤ maxLen ∧
      ∀ i, i < len → ∃ cs', cs'.length = P.cellsOf e ∧ (0 < P.cellsOf e → a.spot = none) ∧ (∀ j v, cs'[j]? = some v → w.cell? ⟨a.block, a.off + (i * P.cellsOf e + j), none⟩ = some v) ∧ FmN P w e n cs' := by
  obtain ⟨H, enc, base, spare, held, x, h⟩ := h
  rcases DataW.trod_slice ht h with ⟨h0, _⟩ | ⟨a, len, cap, elems, rest, n, hN, rfl, rfl, hb, hl, hm, hlen, hel, _⟩
  · exact .inl h0
  right
  have hx : ∀ i, i < len → ∃ cs' y, w.cells? base (a.add (i * P.cellsOf e)) (P.cellsOf e) = some cs' ∧ DataW.trod enc P w base spare held n e cs' = some y := by
    intro i hi
    have := hel i hi
    rw [List.getElem?_eq_getElem (by omega)] at this
    obtain ⟨cs', h1, h2⟩ := Option.bind_eq_some_iff.1 this
    exact ⟨cs', _, h1, h2⟩
  refine ⟨a, len, cap, n, hN, rfl, hl, hm, fun i hi => ?_⟩
  obtain ⟨cs', y, h1, h2⟩ := hx i hi
  obtain ⟨_, hlen, hcell⟩ := World.cells?_some h1
  have hsp : 0 < P.cellsOf e → a.spot = none := by
    intro hp
    obtain ⟨cs0, y0, g1, g2⟩ := hx 0 (by omega)
    obtain ⟨_, glen, gcell⟩ := World.cells?_some g1
    have h0 := gcell 0 hp
    have e0 : (a.add (0 * P.cellsOf e)).add 0 = a := by simp [Addr.add]
    rw [e0, List.getElem?_eq_getElem (by omega)] at h0
    exact World.cell?_spot h0
  refine ⟨cs', hlen, hsp, fun j v hv => ?_, H, enc, base, spare, held, _, h2⟩
  have hj := (List.getElem?_eq_some_iff.1 hv).1
  have h3 := hcell j (by omega)
  rw [hv, Addr.add_add] at h3
  have := hsp (by omega)
  obtain ⟨b, off, spot⟩ := a
  simp at this; subst this
  rw [show (⟨b, off, none⟩ : Addr).add (i * P.cellsOf e + j) = ⟨b, off + (i * P.cellsOf e + j), none⟩ from addr_add _ _ _] at h3
  exact h3
theorem FmN.rows {P : Program} {w : World} {t e : TypeId} {N : Nat} {α : Type} {f : α → List Value} {Q : α → Prop} {sz : Nat} {v : Value} (ht : P.underlying t = some (.slice e)) (hsz : P.cellsOf e = sz) (hp : 0 < sz) (h : FmN P w t N [v])
    (hel : ∀ cs n, n < N → cs.length = sz → FmN P w e n cs → ∃ x, Q x ∧ cs = f x) :
    ∃ xs : List α, (∀ x ∈ xs, Q x ∧ (f x).length = sz) ∧ xs.length ≤ maxLen ∧ ∀ l, Rd w l v xs.length (xs.flatMap f) := by
  rcases h.slice ht with h0 | ⟨a, len, cap, n, hN, h0, h1, h2, h3⟩
  · simp at h0; subst h0
    exact ⟨[], by simp, by simp, fun l => .inl ⟨_, _, rfl, rfl, rfl⟩⟩
  simp at h0; subst h0
  have key : ∀ m, m ≤ len → ∃ xs : List α, xs.length = m ∧ (∀ x ∈ xs, Q x ∧ (f x).length = sz) ∧ ∀ j v, (xs.flatMap f)[j]? = some v → w.cell? ⟨a.block, a.off + j, none⟩ = some v := by
    intro m
    induction m with
    | zero => exact fun _ => ⟨[], rfl, by simp, by simp⟩
    | succ m ih =>
      intro hn
      obtain ⟨xs, hl, hq, hc⟩ := ih (by omega)
      obtain ⟨cs', g1, g2, g3, g4⟩ := h3 m (by omega)
      obtain ⟨x, hx, rfl⟩ := hel cs' n (by omega) (by omega) g4
      refine ⟨xs ++ [x], by simp [hl], ?_, ?_⟩
      · intro y hy
        rcases List.mem_append.1 hy with hy | hy
        · exact hq y hy
        · simp at hy; subst hy; exact ⟨hx, by omega⟩
      · intro j v hv
        have hxl : (xs.flatMap f).length = m * sz := by rw [chunk_length (fun y hy => (hq y hy).2), hl]
        rw [List.flatMap_append, List.flatMap_cons, List.flatMap_nil, List.append_nil] at hv
        by_cases hj : j < m * sz
        · rw [List.getElem?_append_left (by omega)] at hv
          exact hc j v hv
        · rw [List.getElem?_append_right (by omega), hxl] at hv
          have := g3 _ _ hv
          rw [hsz, show m * sz + (j - m * sz) = j by omega] at this
          exact this
  obtain ⟨xs, hl, hq, hc⟩ := key len (Nat.le_refl _)
  refine ⟨xs, hq, by omega, fun l => ?_⟩
  rw [hl]
  cases xs with
  | nil => simp at hl; subst hl; exact .inl ⟨_, _, rfl, rfl, rfl⟩
  | cons x xs =>
    have : a.spot = none := by
      obtain ⟨_, _, g, _⟩ := h3 0 (by simp at hl; omega)
      exact g (by omega)
    obtain ⟨b, off, spot⟩ := a
    simp at this; subst this
    exact .inr ⟨b, off, cap, rfl, h1, Cells.base hc⟩
end Go.Proofs.D

-- seat d
namespace Go.Proofs.D
open Go Go.Gp Go.RowKit

theorem Fm.treeN {w0 : World} : ∀ (N : Nat) (cs : List Value), FmN Try.prog w0 27 N cs → ∃ e : Ex, ExOk w0 e ∧ cs = xcl e := by
  intro N
  induction N using Nat.strongRecOn with
  | _ N ih =>
  intro cs hN
  have h := hN.fm.fields (l := [(9, 1), (24, 4), (9, 1), (9, 1), (25, 1)]) (by kernel_rfl)
  obtain ⟨n, rfl, _, hf⟩ := hN.struct Try.underlying27
  have hP := hf 4 _ rfl
  clear hf
  obtain ⟨c0, cs, rfl, f0, h⟩ := h.one
  obtain ⟨d, cs, rfl, hd, f1, h⟩ := h.many
  obtain ⟨c2, cs, rfl, f2, h⟩ := h.one
  obtain ⟨c3, cs, rfl, f3, h⟩ := h.one
  obtain ⟨c4, cs, rfl, f4, h⟩ := h.one
  cases h
  obtain ⟨op, e0, _⟩ := f0.str (by kernel_rfl)
  obtain ⟨who, e2, _⟩ := f2.str (by kernel_rfl)
  obtain ⟨name, e3, _⟩ := f3.str (by kernel_rfl)
  cases e0; cases e2; cases e3
  obtain ⟨k, i, s, a, c, xs, _, e, hr⟩ := Fm.val f1
  subst e
  have hP : FmN Try.prog w0 25 n [c4] := by
    have e : Try.prog.cellsOf 25 = 1 := by kernel_rfl
    simpa [vcl, e] using hP
  obtain ⟨es, hl, hm, hrr⟩ := hP.rows (f := xcl) (Q := ExOk w0) (e := 27) (by kernel_rfl) (sz := 8) (by kernel_rfl) (by decide) fun cs m hm _ hc => ih m (by omega) cs hc
  obtain ⟨pa, pc, e⟩ := (hrr []).lit
  cases e
  refine ⟨.mk op who name ⟨k, i, s, xs, a, c⟩ es pa pc, .mk (fun l => (hr l).o) (fun l => (hrr l).o) hm fun p hp => (hl p hp).1, rfl⟩
theorem Fm.tree {w0 : World} {cs : List Value} (h : Fm Try.prog w0 27 cs) : ∃ e : Ex, ExOk w0 e ∧ cs = xcl e := by
  obtain ⟨N, h⟩ := Fm.n h
  exact Fm.treeN N cs h

abbrev xc8 (op who name : Str) (v : Va) (a : Option Addr) (n c : Nat) : List Value := [.string op, .int .i64 v.k, .int .i64 v.i, .string (strB v.s), .slice v.a v.xs.length v.c, .string who, .string name, .slice a n c]
theorem xcl_mk {op who name : Str} {v : Va} {ps : List Ex} {a : Option Addr} {c : Nat} : xcl (.mk op who name v ps a c) = xc8 op who name v a ps.length c := rfl
theorem size_ok {w0 : World} {F : List HProp} {e : Ex} (h : ExOk w0 e) : ∀ {m : Int}, 0 ≤ m → m ≤ 60 →
    FnO Try.prog w0 20 [.agg (xcl e).toArray, .int .i64 m] F (fun r l' => ∃ n : Int, r = .int .i64 n ∧ l' = F ∧ 1 ≤ n ∧ n ≤ m + 1 ∧ (n ≤ m → n = esz e)) := by
  induction h generalizing F with
  | mk hv hp hn h ih =>
    rename_i e
    intro m hm1 hm2
    obtain ⟨op, who, name, v, ps, a, c⟩ := e
    rw [esz_eq, xcl_mk]
    dsimp only [Ex.op, Ex.who, Ex.name, Ex.v, Ex.ps, Ex.a, Ex.c] at *
    have hlen : ∀ p ∈ ps, (xcl p).length = 8 := fun _ _ => rfl
    have hn2 : ps.length ≤ 9223372036854775807 := Nat.le_trans hn (by decide)
    refine FnO.rd (hp F) fun hr1 => ?_
    refine FnO.weak ?_
    refine FnO.intro (n := 31) Try.func20 rfl rfl rfl ?_
    refine J.seq ?_
    refine J.region ?_
    refine JL.mem rfl rfl (OpM.box rfl rfl) ?_; rintro _ _ ⟨b2, rfl, rfl⟩
    refine JL.pure rfl rfl (OpP.assign rfl) ?_
    refine JL.nil ?_
    refine J.seq ?_
    refine J.region ?_
    refine JL.pure rfl rfl (OpP.assign rfl) ?_
    refine JL.nil ?_
    refine J.seq ?_
    refine J.seq ?_
    refine J.region ?_
    refine JL.pure rfl rfl (OpP.assign rfl) ?_
    refine JL.nil ?_
    refine J.block ?_
    refine J.loopI (fun x : Nat × Int => ps.length - x.1) (fun x => x.1 ≤ ps.length ∧ 1 ≤ x.2 ∧ x.2 ≤ m + 1 ∧ (x.2 ≤ m → x.2 = 1 + eszs (ps.take x.1))) (fun x => [(6, .int .i64 (x.1 : Nat)), (5, .int .i64 x.2), (2, .pointer (some ⟨b2, 0, none⟩)), (1, .int .i64 m)])
      (fun _ => row b2 27 (xc8 op who name v a ps.length c) :: F) (0, 1) ⟨Nat.zero_le _, by decide, by dsimp only; omega, fun _ => rfl⟩ (by repeat (first | exact SubEnv.nil | refine SubEnv.cons (by first | rfl | exact congrArg (fun z => some (Value.int .i64 z)) (by omega) | (simp; done)) ?_)) (fun _ h => h) (fun ⟨j, n⟩ hi back => ?_)
    dsimp only at hi back ⊢
    obtain ⟨hj, hn1, hn3, hz⟩ := hi
    by_cases hlt : j < ps.length
    · by_cases hnm : n ≤ m
      · obtain ⟨p, hpj⟩ : ∃ p, ps[j]? = some p := ⟨_, List.getElem?_eq_getElem hlt⟩
        have hpm := List.mem_of_getElem? hpj
        have hnx := eszs_take hpj
        have hz := hz hnm
        obtain ⟨ga, pa, qa, ea, ka, hcs⟩ := hr1.pos (by omega)
        cases ea
        have ih' := fun (G : List HProp) => ih p hpm (F := G) (m := m - n) (by omega) (by omega)
        refine J.seq ?_
        refine J.seq ?_
        refine J.region ?_
        refine JL.pure rfl rfl (OpP.move rfl) ?_
        refine JL.pure rfl rfl (OpP.fieldAddr rfl) ?_
        refine JL.read rfl rfl (OpR.load1 rfl (Cell.row .head rfl)) ?_
        refine JL.pure rfl rfl (OpP.len rfl rfl) ?_
        refine JL.decT rfl rfl (OpP.lss rfl rfl) (by omega) ?_
        refine JL.pure rfl rfl (OpP.move rfl) ?_
        refine JL.pure rfl rfl (OpP.move rfl) ?_
        refine JL.pure rfl rfl (OpP.move rfl) ?_
        refine JL.decT rfl rfl (OpP.leq rfl rfl) (by omega) ?_
        refine JL.pure rfl rfl (OpP.pickT rfl rfl) ?_
        refine JL.nil ?_
        refine J.condT rfl ?_
        refine J.skip ?_
        refine J.seq ?_
        refine J.block ?_
        refine J.region ?_
        refine JL.pure rfl rfl (OpP.move rfl) ?_
        refine JL.pure rfl rfl (OpP.fieldAddr rfl) ?_
        refine JL.read rfl rfl (OpR.load1 rfl (Cell.row .head rfl)) ?_
        refine JL.pure rfl rfl (OpP.move rfl) ?_
        refine JL.pure rfl rfl (OpP.indexAddr rfl rfl (by omega) (by omega)) ?_
        refine JL.read rfl rfl (OpR.loadN rfl (by apply Cells.conv (fun _ h => Own.pick (pre := [_]) [] rfl h); apply Cells.chunkAt hcs; (case' h => assumption); (case' hi => assumption); done) (by first | rfl | assumption)) ?_
        refine JL.pure rfl rfl (OpP.move rfl) ?_
        refine JL.pure rfl rfl (OpP.move rfl) ?_
        refine JL.pure rfl rfl (OpP.subI rfl rfl (by omega) (by omega)) ?_
        refine JL.step rfl rfl (OpW.call (first := []) (captured := []) inferInstance rfl rfl (ih' _)) ?_; rintro r28 _ ⟨n1, ⟨rfl, ⟨rfl, ⟨h28, ⟨h281, h282⟩⟩⟩⟩⟩
        refine JL.pure rfl rfl (OpP.addI rfl rfl (by omega) (by omega)) ?_
        refine JL.pure rfl rfl (OpP.assign rfl) ?_
        refine JL.nil ?_
        refine J.inBlock ?_
        refine J.region ?_
        refine JL.pure rfl rfl (OpP.move rfl) ?_
        refine JL.pure rfl rfl (OpP.addI rfl rfl (by omega) (by omega)) ?_
        refine JL.pure rfl rfl (OpP.assign rfl) ?_
        refine JL.nil ?_
        refine back (j + 1, n + n1) ⟨by dsimp only; omega, by dsimp only; omega, by dsimp only; omega, fun q => ?_⟩ (by dsimp only; omega) (by repeat (first | exact SubEnv.nil | refine SubEnv.cons (by first | rfl | exact congrArg (fun z => some (Value.int .i64 z)) (by omega) | (simp; done)) ?_)) (fun _ h => h)
        dsimp only at q ⊢
        have hq : n1 = esz p := by
          first | exact h282 (by omega) | exact h283 (by omega) | exact h28 (by omega) | exact h284 (by omega) | exact h281 (by omega)
        rw [hnx]; omega
      · refine J.seq ?_
        refine J.seq ?_
        refine J.region ?_
        refine JL.pure rfl rfl (OpP.move rfl) ?_
        refine JL.pure rfl rfl (OpP.fieldAddr rfl) ?_
        refine JL.read rfl rfl (OpR.load1 rfl (Cell.row .head rfl)) ?_
        refine JL.pure rfl rfl (OpP.len rfl rfl) ?_
        refine JL.decT rfl rfl (OpP.lss rfl rfl) (by omega) ?_
        refine JL.pure rfl rfl (OpP.move rfl) ?_
        refine JL.pure rfl rfl (OpP.move rfl) ?_
        refine JL.pure rfl rfl (OpP.move rfl) ?_
        refine JL.decF rfl rfl (OpP.leq rfl rfl) (by omega) ?_
        refine JL.pure rfl rfl (OpP.pickT rfl rfl) ?_
        refine JL.nil ?_
        refine J.condF rfl ?_
        refine J.exit rfl ?_
        refine J.seq ?_
        refine J.region ?_
        refine JL.pure rfl rfl (OpP.move rfl) ?_
        refine JL.pure rfl rfl (OpP.assign rfl) ?_
        refine JL.nil ?_
        refine J.ret1 rfl rfl ?_
        exact ⟨_, ⟨n, rfl, rfl, by omega, by omega, fun q => absurd q hnm⟩, fun _ h => h.tail⟩
    · have : j = ps.length := by omega
      subst this
      rw [List.take_length] at hz
      refine J.seq ?_
      refine J.seq ?_
      refine J.region ?_
      refine JL.pure rfl rfl (OpP.move rfl) ?_
      refine JL.pure rfl rfl (OpP.fieldAddr rfl) ?_
      refine JL.read rfl rfl (OpR.load1 rfl (Cell.row .head rfl)) ?_
      refine JL.pure rfl rfl (OpP.len rfl rfl) ?_
      refine JL.decF rfl rfl (OpP.lss rfl rfl) (by omega) ?_
      refine JL.pure rfl rfl (OpP.move rfl) ?_
      refine JL.skip rfl rfl ?_
      refine JL.skip rfl rfl ?_
      refine JL.skip rfl rfl ?_
      refine JL.pure rfl rfl (OpP.pickF rfl rfl) ?_
      refine JL.nil ?_
      refine J.condF rfl ?_
      refine J.exit rfl ?_
      refine J.seq ?_
      refine J.region ?_
      refine JL.pure rfl rfl (OpP.move rfl) ?_
      refine JL.pure rfl rfl (OpP.assign rfl) ?_
      refine JL.nil ?_
      refine J.ret1 rfl rfl ?_
      · exact ⟨_, ⟨n, rfl, rfl, by omega, by omega, fun q => by rw [hz q]; omega⟩, fun _ h => h.tail⟩
theorem short_ok {w0 : World} {F : List HProp} {e : Ex} (h : ExOk w0 e) :
    FnO Try.prog w0 21 [.agg (xcl e).toArray] F (fun r l' => ∃ b, r = .bool b ∧ l' = F ∧ (b = true → Shrt e)) := by
  induction h generalizing F with
  | mk hv hp hn h ih =>
    rename_i e
    obtain ⟨op, who, name, v, ps, a, c⟩ := e
    rw [xcl_mk]
    dsimp only [Ex.op, Ex.who, Ex.name, Ex.v, Ex.ps, Ex.a, Ex.c] at *
    have hlen : ∀ p ∈ ps, (xcl p).length = 8 := fun _ _ => rfl
    have hn2 : ps.length ≤ 9223372036854775807 := Nat.le_trans hn (by decide)
    refine FnO.rd (hp F) fun hr1 => ?_
    refine FnO.weak ?_
    refine FnO.intro (n := 41) Try.func21 rfl rfl rfl ?_
    have hvF := hv F
    refine J.seq ?_
    refine J.region ?_
    refine JL.mem rfl rfl (OpM.box rfl rfl) ?_; rintro _ _ ⟨b1, rfl, rfl⟩
    refine JL.pure rfl rfl (OpP.assign rfl) ?_
    refine JL.nil ?_
    refine J.seq ?_
    refine J.seq ?_
    refine J.region ?_
    refine JL.pure rfl rfl (OpP.fieldAddr rfl) ?_
    refine JL.read rfl rfl (OpR.load1 rfl (Cell.row .head rfl)) ?_
    refine JL.pure rfl rfl (OpP.lenStr rfl rfl) ?_
    refine JL.dec rfl rfl (OpP.gtr rfl rfl) (fun h7 => ?_) (fun h7 => ?_)
    focus
      refine JL.pure rfl rfl (OpP.move rfl) ?_
      refine JL.skip rfl rfl ?_
      refine JL.skip rfl rfl ?_
      refine JL.skip rfl rfl ?_
      refine JL.skip rfl rfl ?_
      refine JL.pure rfl rfl (OpP.pickT rfl rfl) ?_
      refine JL.pure rfl rfl (OpP.move rfl) ?_
      refine JL.skip rfl rfl ?_
      refine JL.skip rfl rfl ?_
      refine JL.skip rfl rfl ?_
      refine JL.skip rfl rfl ?_
      refine JL.pure rfl rfl (OpP.pickT rfl rfl) ?_
      refine JL.pure rfl rfl (OpP.move rfl) ?_
      refine JL.skip rfl rfl ?_
      refine JL.skip rfl rfl ?_
      refine JL.skip rfl rfl ?_
      refine JL.skip rfl rfl ?_
      refine JL.skip rfl rfl ?_
      refine JL.pure rfl rfl (OpP.pickT rfl rfl) ?_
      refine JL.nil ?_
      refine J.condT rfl ?_
      refine J.seq ?_
      refine J.region ?_
      refine JL.pure rfl rfl (OpP.assign rfl) ?_
      refine JL.nil ?_
      refine J.ret1 rfl rfl ?_
    rotate_left 1
    focus
      refine JL.pure rfl rfl (OpP.move rfl) ?_
      refine JL.pure rfl rfl (OpP.fieldAddr rfl) ?_
      refine JL.read rfl rfl (OpR.load1 rfl (Cell.row .head rfl)) ?_
      refine JL.pure rfl rfl (OpP.lenStr rfl rfl) ?_
      refine JL.dec rfl rfl (OpP.gtr rfl rfl) (fun h12 => ?_) (fun h12 => ?_)
      focus
        refine JL.pure rfl rfl (OpP.pickF rfl rfl) ?_
        refine JL.pure rfl rfl (OpP.move rfl) ?_
        refine JL.skip rfl rfl ?_
        refine JL.skip rfl rfl ?_
        refine JL.skip rfl rfl ?_
        refine JL.skip rfl rfl ?_
        refine JL.pure rfl rfl (OpP.pickT rfl rfl) ?_
        refine JL.pure rfl rfl (OpP.move rfl) ?_
        refine JL.skip rfl rfl ?_
        refine JL.skip rfl rfl ?_
        refine JL.skip rfl rfl ?_
        refine JL.skip rfl rfl ?_
        refine JL.skip rfl rfl ?_
        refine JL.pure rfl rfl (OpP.pickT rfl rfl) ?_
        refine JL.nil ?_
        refine J.condT rfl ?_
        refine J.seq ?_
        refine J.region ?_
        refine JL.pure rfl rfl (OpP.assign rfl) ?_
        refine JL.nil ?_
        refine J.ret1 rfl rfl ?_
      rotate_left 1
      focus
        refine JL.pure rfl rfl (OpP.pickF rfl rfl) ?_
        refine JL.pure rfl rfl (OpP.move rfl) ?_
        refine JL.pure rfl rfl (OpP.fieldAddr rfl) ?_
        refine JL.read rfl rfl (OpR.load1 rfl (Cell.row .head rfl)) ?_
        refine JL.pure rfl rfl (OpP.lenStr rfl rfl) ?_
        refine JL.dec rfl rfl (OpP.gtr rfl rfl) (fun h18 => ?_) (fun h18 => ?_)
        focus
          refine JL.pure rfl rfl (OpP.pickF rfl rfl) ?_
          refine JL.pure rfl rfl (OpP.move rfl) ?_
          refine JL.skip rfl rfl ?_
          refine JL.skip rfl rfl ?_
          refine JL.skip rfl rfl ?_
          refine JL.skip rfl rfl ?_
          refine JL.skip rfl rfl ?_
          refine JL.pure rfl rfl (OpP.pickT rfl rfl) ?_
          refine JL.nil ?_
          refine J.condT rfl ?_
          refine J.seq ?_
          refine J.region ?_
          refine JL.pure rfl rfl (OpP.assign rfl) ?_
          refine JL.nil ?_
          refine J.ret1 rfl rfl ?_
        rotate_left 1
        focus
          refine JL.pure rfl rfl (OpP.pickF rfl rfl) ?_
          refine JL.pure rfl rfl (OpP.move rfl) ?_
          refine JL.pure rfl rfl (OpP.fieldAddr rfl) ?_
          refine JL.read rfl rfl (OpR.loadN rfl (Cells.sub 4 .head rfl) rfl) ?_
          refine JL.mem rfl rfl (by apply OpM.buildSlice (by rfl) rfl (by rfl); (repeat (first | exact Fills.nil | (apply Fills.cons rfl rfl rfl; (case' hs => ((repeat (first | exact Spl.nil | apply Spl.here | apply Spl.there)); done)))))) ?_; rintro _ _ ⟨b23, rfl, rfl⟩
          refine JL.step rfl rfl (OpW.call (first := []) (captured := []) inferInstance rfl rfl (few1_ok (k := v.k) (i := v.i) (s := v.s) (a := v.a) (c := v.c) (xs := v.xs) (RdO.ofRow .head (by first | exact Nat.le_refl _ | decide | omega)) (hvF.conv fun _ h => Own.pick (pre := [_, _]) [] rfl h))) ?_; rintro r24 _ ⟨b, ⟨rfl, ⟨rfl, h24⟩⟩⟩
          refine JL.pure rfl rfl (OpP.notB rfl) ?_
          refine JL.pure rfl rfl (OpP.pickF rfl rfl) ?_
          refine JL.nil ?_
          refine J.splitAt 26 rfl (fun h26 => ?_) (fun h26 => ?_)
          focus
            refine J.condT rfl ?_
            refine J.seq ?_
            refine J.region ?_
            refine JL.pure rfl rfl (OpP.assign rfl) ?_
            refine JL.nil ?_
            refine J.ret1 rfl rfl ?_
          rotate_left 1
          focus
            refine J.condF rfl ?_
            refine J.skip ?_
            refine J.seq ?_
          rotate_left 1
        rotate_left 2
      rotate_left 3
    rotate_left 4
    · exact ⟨_, ⟨false, rfl, rfl, fun q => by cases q⟩, fun _ h => h.tail⟩
    · exact ⟨_, ⟨false, rfl, rfl, fun q => by cases q⟩, fun _ h => h.tail⟩
    · exact ⟨_, ⟨false, rfl, rfl, fun q => by cases q⟩, fun _ h => h.tail⟩
    · exact ⟨_, ⟨false, rfl, rfl, fun q => by cases q⟩, fun _ h => h.tail.tail⟩
    have hfu : FewU v := h24 (by simp_all)
    refine J.conv (l' := row b1 27 (xc8 op who name v a ps.length c) :: F) (fun _ h => h.tail) ?_
    refine J.seq ?_
    refine J.region ?_
    refine JL.pure rfl rfl (OpP.assign rfl) ?_
    refine JL.nil ?_
    refine J.block ?_
    refine J.loopI (fun j : Nat => ps.length - j) (fun j => j ≤ ps.length ∧ ∀ (q : Nat) (p : Ex), q < j → ps[q]? = some p → Shrt p) (fun j => [(3, .int .i64 (j : Nat)), (1, .pointer (some ⟨b1, 0, none⟩))])
      (fun _ => row b1 27 (xc8 op who name v a ps.length c) :: F) 0 ⟨Nat.zero_le _, fun _ _ h => absurd h (Nat.not_lt_zero _)⟩ (by repeat (first | exact SubEnv.nil | refine SubEnv.cons (by first | rfl | exact congrArg (fun z => some (Value.int .i64 z)) (by omega) | (simp; done)) ?_)) (fun _ h => h) (fun j hi back => ?_)
    obtain ⟨hj, hg⟩ := hi
    by_cases hlt : j < ps.length
    · obtain ⟨p, hpj⟩ : ∃ p, ps[j]? = some p := ⟨_, List.getElem?_eq_getElem hlt⟩
      have hpm := List.mem_of_getElem? hpj
      obtain ⟨ga, pa, qa, ea, ka, hcs⟩ := hr1.pos (by omega)
      cases ea
      have ih' := fun (G : List HProp) => ih p hpm (F := G)
      refine J.seq ?_
      refine J.seq ?_
      refine J.region ?_
      refine JL.pure rfl rfl (OpP.move rfl) ?_
      refine JL.pure rfl rfl (OpP.fieldAddr rfl) ?_
      refine JL.read rfl rfl (OpR.load1 rfl (Cell.row .head rfl)) ?_
      refine JL.pure rfl rfl (OpP.len rfl rfl) ?_
      refine JL.decT rfl rfl (OpP.lss rfl rfl) (by omega) ?_
      refine JL.nil ?_
      refine J.condT rfl ?_
      refine J.skip ?_
      refine J.seq ?_
      refine J.block ?_
      refine J.seq ?_
      refine J.region ?_
      refine JL.pure rfl rfl (OpP.fieldAddr rfl) ?_
      refine JL.read rfl rfl (OpR.load1 rfl (Cell.row .head rfl)) ?_
      refine JL.pure rfl rfl (OpP.move rfl) ?_
      refine JL.pure rfl rfl (OpP.indexAddr rfl rfl (by omega) (by omega)) ?_
      refine JL.read rfl rfl (OpR.loadN rfl (by apply Cells.conv (fun _ h => Own.pick (pre := [_]) [] rfl h); apply Cells.chunkAt hcs; (case' h => assumption); (case' hi => assumption); done) (by first | rfl | assumption)) ?_
      refine JL.step rfl rfl (OpW.call (first := []) (captured := []) inferInstance rfl rfl (ih' _)) ?_; rintro r39 _ ⟨b2, ⟨rfl, ⟨rfl, h39⟩⟩⟩
      refine JL.pure rfl rfl (OpP.notB rfl) ?_
      refine JL.nil ?_
      refine J.splitAt 40 rfl (fun h40 => ?_) (fun h40 => ?_)
      focus
        refine J.condT rfl ?_
        refine J.seq ?_
        refine J.region ?_
        refine JL.pure rfl rfl (OpP.assign rfl) ?_
        refine JL.nil ?_
        refine J.ret1 rfl rfl ?_
      rotate_left 1
      focus
        refine J.condF rfl ?_
        refine J.skip ?_
        refine J.inBlock ?_
        refine J.region ?_
        refine JL.pure rfl rfl (OpP.move rfl) ?_
        refine JL.pure rfl rfl (OpP.addI rfl rfl (by omega) (by omega)) ?_
        refine JL.pure rfl rfl (OpP.assign rfl) ?_
        refine JL.nil ?_
      rotate_left 1
      · exact ⟨_, ⟨false, rfl, rfl, fun q => by cases q⟩, fun _ h => h.tail⟩
      · refine back (j + 1) ⟨by omega, fun q p' hq hp' => ?_⟩ (by omega) (by repeat (first | exact SubEnv.nil | refine SubEnv.cons (by first | rfl | exact congrArg (fun z => some (Value.int .i64 z)) (by omega) | (simp; done)) ?_)) (fun _ h => h)
        by_cases hqj : q < j
        · exact hg q p' hqj hp'
        · obtain rfl : q = j := by omega
          obtain rfl : p' = p := Option.some.inj (hp'.symm.trans hpj)
          exact h39 (by simp_all)
    · refine J.seq ?_
      refine J.seq ?_
      refine J.region ?_
      refine JL.pure rfl rfl (OpP.move rfl) ?_
      refine JL.pure rfl rfl (OpP.fieldAddr rfl) ?_
      refine JL.read rfl rfl (OpR.load1 rfl (Cell.row .head rfl)) ?_
      refine JL.pure rfl rfl (OpP.len rfl rfl) ?_
      refine JL.decF rfl rfl (OpP.lss rfl rfl) (by omega) ?_
      refine JL.nil ?_
      refine J.condF rfl ?_
      refine J.exit rfl ?_
      refine J.seq ?_
      refine J.region ?_
      refine JL.pure rfl rfl (OpP.assign rfl) ?_
      refine JL.nil ?_
      refine J.ret1 rfl rfl ?_
      refine ⟨_, ⟨true, rfl, rfl, fun _ => .mk (by dsimp only [Ex.op]; omega) (by dsimp only [Ex.who]; omega) (by dsimp only [Ex.name]; omega) hfu fun p hp => ?_⟩, fun _ h => h.tail⟩
      obtain ⟨q, hq⟩ := List.getElem?_of_mem hp
      exact hg q p (by have := (List.getElem?_eq_some_iff.1 hq).1; dsimp only [Ex.ps] at this; omega) hq
theorem fewExpr_ok {w0 : World} {F : List HProp} {e : Ex} (h : ExOk w0 e) :
    FnO Try.prog w0 8 [.agg (xcl e).toArray] F (fun r l' => ∃ b, r = .bool b ∧ l' = F ∧ (b = true → Tr w0 e)) := by
  refine FnO.weak ?_
  refine FnO.intro (n := 10) Try.func8 rfl rfl rfl ?_
  refine J.seq ?_
  refine J.region ?_
  refine JL.mem rfl rfl (OpM.box rfl rfl) ?_; rintro _ _ ⟨b1, rfl, rfl⟩
  refine JL.pure rfl rfl (OpP.assign rfl) ?_
  refine JL.nil ?_
  refine J.seq ?_
  refine J.region ?_
  refine JL.read rfl rfl (OpR.loadN rfl (Cells.full .head) rfl) ?_
  refine JL.step rfl rfl (OpW.call (first := []) (captured := []) inferInstance rfl rfl (size_ok h (by first | assumption | omega | rfl | exact Nat.le_of_ble_eq_true rfl | (simp; omega)) (by first | assumption | omega | rfl | exact Nat.le_of_ble_eq_true rfl | (simp; omega)))) ?_; rintro r4 _ ⟨n, ⟨rfl, ⟨rfl, ⟨h4, ⟨h41, h42⟩⟩⟩⟩⟩
  refine JL.dec rfl rfl (OpP.leq rfl rfl) (fun h5 => ?_) (fun h5 => ?_)
  focus
    refine JL.pure rfl rfl (OpP.move rfl) ?_
    refine JL.read rfl rfl (OpR.loadN rfl (Cells.full .head) rfl) ?_
    refine JL.step rfl rfl (OpW.call (first := []) (captured := []) inferInstance rfl rfl (short_ok h)) ?_; rintro r8 _ ⟨b, ⟨rfl, ⟨rfl, h8⟩⟩⟩
    refine JL.pure rfl rfl (OpP.pickT rfl rfl) ?_
    refine JL.pure rfl rfl (OpP.assign rfl) ?_
    refine JL.nil ?_
    refine J.ret1 rfl rfl ?_
  rotate_left 1
  focus
    refine JL.pure rfl rfl (OpP.move rfl) ?_
    refine JL.skip rfl rfl ?_
    refine JL.skip rfl rfl ?_
    refine JL.pure rfl rfl (OpP.pickF rfl rfl) ?_
    refine JL.pure rfl rfl (OpP.assign rfl) ?_
    refine JL.nil ?_
    refine J.ret1 rfl rfl ?_
  rotate_left 1
  · exact ⟨_, ⟨b, rfl, rfl, fun q => Tr.of h (h8 q) (by have := h4; omega)⟩, fun _ h => h.tail⟩
  · exact ⟨_, ⟨false, rfl, rfl, fun q => by cases q⟩, fun _ h => h.tail⟩
end Go.Proofs.D

-- seat d
namespace Go.Proofs.D
open Go Go.Gp Go.RowKit

theorem enf_iff {e f : Ex} : enf e = enf f ↔ e.op = f.op ∧ e.who = f.who ∧ e.name = f.name ∧ VaEq e.v f.v ∧ e.ps.map enf = f.ps.map enf := by
  rw [enf_eq e, enf_eq f]
  simp only [Nf.mk.injEq, Prod.mk.injEq, VaEq]
theorem sameVal_ok {w0 : World} {F : List HProp} {e f : Ex} (hu : VOk w0 F e.v) (hv : VOk w0 F f.v) :
    FnO Try.prog w0 29 [.agg (xcl e).toArray, .agg (xcl f).toArray] F (fun r l' => ∃ b, r = .bool b ∧ l' = F ∧ (b = true ↔ VaEq e.v f.v)) := by
  refine FnO.weak ?_
  refine FnO.intro (n := 10) Try.func29 rfl rfl rfl ?_
  refine J.seq ?_
  refine J.region ?_
  refine JL.mem rfl rfl (OpM.box rfl rfl) ?_; rintro _ _ ⟨b2, rfl, rfl⟩
  refine JL.mem rfl rfl (OpM.box rfl rfl) ?_; rintro _ _ ⟨b3, rfl, rfl⟩
  refine JL.pure rfl rfl (OpP.assign rfl) ?_
  refine JL.nil ?_
  refine J.seq ?_
  refine J.region ?_
  refine JL.pure rfl rfl (OpP.fieldAddr rfl) ?_
  refine JL.read rfl rfl (OpR.loadN rfl (Cells.sub 4 (.tail .head) rfl) rfl) ?_
  refine JL.pure rfl rfl (OpP.fieldAddr rfl) ?_
  refine JL.read rfl rfl (OpR.loadN rfl (Cells.sub 4 .head rfl) rfl) ?_
  refine JL.step rfl rfl (OpW.call (first := []) (captured := []) inferInstance rfl rfl (sameV_ok (u := e.v) (v := f.v) (hu.conv fun _ h => Own.pick (pre := [_, _]) [] rfl h) (hv.conv fun _ h => Own.pick (pre := [_, _]) [] rfl h))) ?_; rintro r9 _ ⟨b, ⟨rfl, ⟨rfl, h9⟩⟩⟩
  refine JL.pure rfl rfl (OpP.assign rfl) ?_
  refine JL.nil ?_
  refine J.ret1 rfl rfl ?_
  exact ⟨_, ⟨b, rfl, rfl, h9⟩, fun _ h => h.tail.tail⟩
theorem maps_ne {es fs : List Ex} {j : Nat} {p q : Ex} (h1 : es[j]? = some p) (h2 : fs[j]? = some q) (h : es.map enf = fs.map enf) : enf p = enf q := by
  have := congrArg (·[j]?) h
  simp only [List.getElem?_map, h1, h2, Option.map_some, Option.some.injEq] at this
  exact this
theorem maps_eq {es fs : List Ex} (hl : es.length = fs.length) (h : ∀ (j : Nat) (p q : Ex), es[j]? = some p → fs[j]? = some q → enf p = enf q) : es.map enf = fs.map enf := by
  apply List.ext_getElem?
  intro j
  rw [List.getElem?_map, List.getElem?_map]
  by_cases hj : j < es.length
  · have h1 : es[j]? = some es[j] := List.getElem?_eq_getElem hj
    have h2 : fs[j]? = some fs[j] := List.getElem?_eq_getElem (by omega)
    rw [h1, h2, Option.map_some, Option.map_some, h j _ _ h1 h2]
  · rw [List.getElem?_eq_none (by omega), List.getElem?_eq_none (by omega)]
theorem sameExpr_ok {w0 : World} {F : List HProp} {e : Ex} (he : Tr w0 e) : ∀ {f : Ex}, Tr w0 f →
    FnO Try.prog w0 18 [.agg (xcl e).toArray, .agg (xcl f).toArray] F (fun r l' => ∃ b, r = .bool b ∧ l' = F ∧ (b = true ↔ enf e = enf f)) := by
  induction he generalizing F with
  | mk h1 h2 h3 hv hp hs h ih =>
    rename_i e
    intro f hf
    have hn1 : e.ps.length ≤ 59 := Tr.len (.mk h1 h2 h3 hv hp hs h)
    have hn2 := hf.len
    obtain ⟨g1, g2, g3, gv, gp, gs, gh⟩ := hf
    have sv := fun (G : List HProp) => sameVal_ok (F := G) (hv G) (gv G)
    rw [enf_iff]
    obtain ⟨op, who, name, v, ps, a, c⟩ := e
    obtain ⟨op2, who2, name2, v2, ps2, a2, c2⟩ := f
    rw [xcl_mk, xcl_mk] at *
    dsimp only [Ex.op, Ex.who, Ex.name, Ex.v, Ex.ps, Ex.a, Ex.c] at *
    have hlen : ∀ p ∈ ps, (xcl p).length = 8 := fun _ _ => rfl
    have hlen2 : ∀ p ∈ ps2, (xcl p).length = 8 := fun _ _ => rfl
    refine FnO.rd (hp F) fun hr1 => ?_
    refine FnO.rd (gp F) fun hr2 => ?_
    refine FnO.weak ?_
    refine FnO.intro (n := 59) Try.func18 rfl rfl rfl ?_
    refine J.seq ?_
    refine J.region ?_
    refine JL.mem rfl rfl (OpM.box rfl rfl) ?_; rintro _ _ ⟨b2, rfl, rfl⟩
    refine JL.mem rfl rfl (OpM.box rfl rfl) ?_; rintro _ _ ⟨b3, rfl, rfl⟩
    refine JL.pure rfl rfl (OpP.assign rfl) ?_
    refine JL.nil ?_
    refine J.seq ?_
    refine J.seq ?_
    refine J.region ?_
    refine JL.pure rfl rfl (OpP.fieldAddr rfl) ?_
    refine JL.read rfl rfl (OpR.load1 rfl (Cell.row (.tail .head) rfl)) ?_
    refine JL.pure rfl rfl (OpP.fieldAddr rfl) ?_
    refine JL.read rfl rfl (OpR.load1 rfl (Cell.row .head rfl)) ?_
    refine JL.dec rfl rfl (OpP.neStr rfl rfl) (fun h10 => ?_) (fun h10 => ?_)
    focus
      refine JL.pure rfl rfl (OpP.move rfl) ?_
      refine JL.skip rfl rfl ?_
      refine JL.skip rfl rfl ?_
      refine JL.skip rfl rfl ?_
      refine JL.skip rfl rfl ?_
      refine JL.skip rfl rfl ?_
      refine JL.pure rfl rfl (OpP.pickT rfl rfl) ?_
      refine JL.pure rfl rfl (OpP.move rfl) ?_
      refine JL.skip rfl rfl ?_
      refine JL.skip rfl rfl ?_
      refine JL.skip rfl rfl ?_
      refine JL.skip rfl rfl ?_
      refine JL.skip rfl rfl ?_
      refine JL.pure rfl rfl (OpP.pickT rfl rfl) ?_
      refine JL.pure rfl rfl (OpP.move rfl) ?_
      refine JL.skip rfl rfl ?_
      refine JL.skip rfl rfl ?_
      refine JL.skip rfl rfl ?_
      refine JL.skip rfl rfl ?_
      refine JL.pure rfl rfl (OpP.pickT rfl rfl) ?_
      refine JL.pure rfl rfl (OpP.move rfl) ?_
      refine JL.skip rfl rfl ?_
      refine JL.skip rfl rfl ?_
      refine JL.skip rfl rfl ?_
      refine JL.skip rfl rfl ?_
      refine JL.skip rfl rfl ?_
      refine JL.skip rfl rfl ?_
      refine JL.skip rfl rfl ?_
      refine JL.pure rfl rfl (OpP.pickT rfl rfl) ?_
      refine JL.nil ?_
      refine J.condT rfl ?_
      refine J.seq ?_
      refine J.region ?_
      refine JL.pure rfl rfl (OpP.assign rfl) ?_
      refine JL.nil ?_
      refine J.ret1 rfl rfl ?_
    rotate_left 1
    focus
      refine JL.pure rfl rfl (OpP.move rfl) ?_
      refine JL.pure rfl rfl (OpP.fieldAddr rfl) ?_
      refine JL.read rfl rfl (OpR.load1 rfl (Cell.row (.tail .head) rfl)) ?_
      refine JL.pure rfl rfl (OpP.fieldAddr rfl) ?_
      refine JL.read rfl rfl (OpR.load1 rfl (Cell.row .head rfl)) ?_
      refine JL.dec rfl rfl (OpP.neStr rfl rfl) (fun h16 => ?_) (fun h16 => ?_)
      focus
        refine JL.pure rfl rfl (OpP.pickF rfl rfl) ?_
        refine JL.pure rfl rfl (OpP.move rfl) ?_
        refine JL.skip rfl rfl ?_
        refine JL.skip rfl rfl ?_
        refine JL.skip rfl rfl ?_
        refine JL.skip rfl rfl ?_
        refine JL.skip rfl rfl ?_
        refine JL.pure rfl rfl (OpP.pickT rfl rfl) ?_
        refine JL.pure rfl rfl (OpP.move rfl) ?_
        refine JL.skip rfl rfl ?_
        refine JL.skip rfl rfl ?_
        refine JL.skip rfl rfl ?_
        refine JL.skip rfl rfl ?_
        refine JL.pure rfl rfl (OpP.pickT rfl rfl) ?_
        refine JL.pure rfl rfl (OpP.move rfl) ?_
        refine JL.skip rfl rfl ?_
        refine JL.skip rfl rfl ?_
        refine JL.skip rfl rfl ?_
        refine JL.skip rfl rfl ?_
        refine JL.skip rfl rfl ?_
        refine JL.skip rfl rfl ?_
        refine JL.skip rfl rfl ?_
        refine JL.pure rfl rfl (OpP.pickT rfl rfl) ?_
        refine JL.nil ?_
        refine J.condT rfl ?_
        refine J.seq ?_
        refine J.region ?_
        refine JL.pure rfl rfl (OpP.assign rfl) ?_
        refine JL.nil ?_
        refine J.ret1 rfl rfl ?_
      rotate_left 1
      focus
        refine JL.pure rfl rfl (OpP.pickF rfl rfl) ?_
        refine JL.pure rfl rfl (OpP.move rfl) ?_
        refine JL.pure rfl rfl (OpP.fieldAddr rfl) ?_
        refine JL.read rfl rfl (OpR.load1 rfl (Cell.row (.tail .head) rfl)) ?_
        refine JL.pure rfl rfl (OpP.fieldAddr rfl) ?_
        refine JL.read rfl rfl (OpR.load1 rfl (Cell.row .head rfl)) ?_
        refine JL.dec rfl rfl (OpP.neStr rfl rfl) (fun h23 => ?_) (fun h23 => ?_)
        focus
          refine JL.pure rfl rfl (OpP.pickF rfl rfl) ?_
          refine JL.pure rfl rfl (OpP.move rfl) ?_
          refine JL.skip rfl rfl ?_
          refine JL.skip rfl rfl ?_
          refine JL.skip rfl rfl ?_
          refine JL.skip rfl rfl ?_
          refine JL.pure rfl rfl (OpP.pickT rfl rfl) ?_
          refine JL.pure rfl rfl (OpP.move rfl) ?_
          refine JL.skip rfl rfl ?_
          refine JL.skip rfl rfl ?_
          refine JL.skip rfl rfl ?_
          refine JL.skip rfl rfl ?_
          refine JL.skip rfl rfl ?_
          refine JL.skip rfl rfl ?_
          refine JL.skip rfl rfl ?_
          refine JL.pure rfl rfl (OpP.pickT rfl rfl) ?_
          refine JL.nil ?_
          refine J.condT rfl ?_
          refine J.seq ?_
          refine J.region ?_
          refine JL.pure rfl rfl (OpP.assign rfl) ?_
          refine JL.nil ?_
          refine J.ret1 rfl rfl ?_
        rotate_left 1
        focus
          refine JL.pure rfl rfl (OpP.pickF rfl rfl) ?_
          refine JL.pure rfl rfl (OpP.move rfl) ?_
          refine JL.read rfl rfl (OpR.loadN rfl (Cells.full (.tail .head)) rfl) ?_
          refine JL.read rfl rfl (OpR.loadN rfl (Cells.full .head) rfl) ?_
          refine JL.step rfl rfl (OpW.call (first := []) (captured := []) inferInstance rfl rfl (sv _)) ?_; rintro r28 _ ⟨b, ⟨rfl, ⟨rfl, h28⟩⟩⟩
          refine JL.pure rfl rfl (OpP.notB rfl) ?_
          refine JL.pure rfl rfl (OpP.pickF rfl rfl) ?_
          refine JL.pure rfl rfl (OpP.move rfl) ?_
          refine JL.splitAt 31 rfl (fun h31 => ?_) (fun h31 => ?_)
          focus
            refine JL.skip rfl rfl ?_
            refine JL.skip rfl rfl ?_
            refine JL.skip rfl rfl ?_
            refine JL.skip rfl rfl ?_
            refine JL.skip rfl rfl ?_
            refine JL.skip rfl rfl ?_
            refine JL.skip rfl rfl ?_
            refine JL.pure rfl rfl (OpP.pickT rfl rfl) ?_
            refine JL.nil ?_
            refine J.condT rfl ?_
            refine J.seq ?_
            refine J.region ?_
            refine JL.pure rfl rfl (OpP.assign rfl) ?_
            refine JL.nil ?_
            refine J.ret1 rfl rfl ?_
          rotate_left 1
          focus
            refine JL.pure rfl rfl (OpP.fieldAddr rfl) ?_
            refine JL.read rfl rfl (OpR.load1 rfl (Cell.row (.tail .head) rfl)) ?_
            refine JL.pure rfl rfl (OpP.len rfl rfl) ?_
            refine JL.pure rfl rfl (OpP.fieldAddr rfl) ?_
            refine JL.read rfl rfl (OpR.load1 rfl (Cell.row .head rfl)) ?_
            refine JL.pure rfl rfl (OpP.len rfl rfl) ?_
            refine JL.dec rfl rfl (OpP.neq rfl rfl) (fun h38 => ?_) (fun h38 => ?_)
            focus
              refine JL.pure rfl rfl (OpP.pickF rfl rfl) ?_
              refine JL.nil ?_
              refine J.condT rfl ?_
              refine J.seq ?_
              refine J.region ?_
              refine JL.pure rfl rfl (OpP.assign rfl) ?_
              refine JL.nil ?_
              refine J.ret1 rfl rfl ?_
            rotate_left 1
            focus
              refine JL.pure rfl rfl (OpP.pickF rfl rfl) ?_
              refine JL.nil ?_
              refine J.condF rfl ?_
              refine J.skip ?_
              refine J.seq ?_
            rotate_left 1
          rotate_left 2
        rotate_left 3
      rotate_left 4
    rotate_left 5
    · exact ⟨_, ⟨false, rfl, rfl, ⟨(fun q => by cases q), fun q => absurd q.1 (by assumption)⟩⟩, fun _ h => h.tail.tail⟩
    · exact ⟨_, ⟨false, rfl, rfl, ⟨(fun q => by cases q), fun q => absurd q.2.1 (by assumption)⟩⟩, fun _ h => h.tail.tail⟩
    · exact ⟨_, ⟨false, rfl, rfl, ⟨(fun q => by cases q), fun q => absurd q.2.2.1 (by assumption)⟩⟩, fun _ h => h.tail.tail⟩
    · exact ⟨_, ⟨false, rfl, rfl, ⟨(fun q => by cases q), fun q => by simp_all⟩⟩, fun _ h => h.tail.tail⟩
    · exact ⟨_, ⟨false, rfl, rfl, ⟨(fun q => by cases q), fun q => by have := congrArg List.length q.2.2.2.2; simp at this; omega⟩⟩, fun _ h => h.tail.tail⟩
    have hvv : VaEq v v2 := by simp_all
    have hll : ps.length = ps2.length := by omega
    have h4 : op = op2 ∧ who = who2 ∧ name = name2 := ⟨by simp_all, by simp_all, by simp_all⟩
    refine J.seq ?_
    refine J.region ?_
    refine JL.pure rfl rfl (OpP.assign rfl) ?_
    refine JL.nil ?_
    refine J.block ?_
    refine J.loopI (fun j : Nat => ps.length - j) (fun j => j ≤ ps.length ∧ ∀ (i : Nat) (p q : Ex), i < j → ps[i]? = some p → ps2[i]? = some q → enf p = enf q) (fun j => [(5, .int .i64 (j : Nat)), (3, .pointer (some ⟨b3, 0, none⟩)), (2, .pointer (some ⟨b2, 0, none⟩))])
      (fun _ => row b3 27 (xc8 op2 who2 name2 v2 a2 ps2.length c2) :: row b2 27 (xc8 op who name v a ps.length c) :: F) 0 ⟨Nat.zero_le _, fun _ _ _ h => absurd h (Nat.not_lt_zero _)⟩ (by repeat (first | exact SubEnv.nil | refine SubEnv.cons (by first | rfl | exact congrArg (fun z => some (Value.int .i64 z)) (by omega) | (simp; done)) ?_)) (fun _ h => h) (fun j hi back => ?_)
    obtain ⟨hj, hg⟩ := hi
    by_cases hlt : j < ps.length
    · obtain ⟨p, hpj⟩ : ∃ p, ps[j]? = some p := ⟨_, List.getElem?_eq_getElem hlt⟩
      obtain ⟨q, hqj⟩ : ∃ p, ps2[j]? = some p := ⟨_, List.getElem?_eq_getElem (by omega)⟩
      obtain ⟨ga, pa, qa, ea, ka, hcs⟩ := hr1.pos (by omega)
      cases ea
      obtain ⟨gb, pb, qb, eb, kb, hcs2⟩ := hr2.pos (by omega)
      cases eb
      have ih' := fun (G : List HProp) => ih p (List.mem_of_getElem? hpj) (F := G) (f := q) (gh q (List.mem_of_getElem? hqj))
      refine J.seq ?_
      refine J.seq ?_
      refine J.region ?_
      refine JL.pure rfl rfl (OpP.move rfl) ?_
      refine JL.pure rfl rfl (OpP.fieldAddr rfl) ?_
      refine JL.read rfl rfl (OpR.load1 rfl (Cell.row (.tail .head) rfl)) ?_
      refine JL.pure rfl rfl (OpP.len rfl rfl) ?_
      refine JL.decT rfl rfl (OpP.lss rfl rfl) (by omega) ?_
      refine JL.nil ?_
      refine J.condT rfl ?_
      refine J.skip ?_
      refine J.seq ?_
      refine J.block ?_
      refine J.seq ?_
      refine J.regionD [1, 4, 6, 9] (by kernel_rfl) ?_
      refine DL.pure (i := 0) (by kernel_rfl) (by kernel_rfl) rfl rfl rfl (OpP.fieldAddr rfl) ?_
      refine DL.read (i := 1) (by kernel_rfl) (by kernel_rfl) rfl rfl rfl (fun _ h => h) (OpR.load1 rfl (Cell.row (.tail .head) rfl)) ?_
      refine DL.pure (i := 2) (by kernel_rfl) (by kernel_rfl) rfl rfl rfl (OpP.move rfl) ?_
      refine DL.pure (i := 3) (by kernel_rfl) (by kernel_rfl) rfl rfl rfl (OpP.indexAddr rfl rfl (by omega) (by omega)) ?_
      refine DL.read (i := 4) (by kernel_rfl) (by kernel_rfl) rfl rfl rfl (fun _ h => h) (OpR.loadN rfl (by apply Cells.conv (fun _ h => Own.pick (pre := [_, _]) [] rfl h); apply Cells.chunkAt hcs; (case' h => assumption); (case' hi => assumption); done) (by first | rfl | assumption)) ?_
      refine DL.pure (i := 5) (by kernel_rfl) (by kernel_rfl) rfl rfl rfl (OpP.fieldAddr rfl) ?_
      refine DL.read (i := 6) (by kernel_rfl) (by kernel_rfl) rfl rfl rfl (fun _ h => h) (OpR.load1 rfl (Cell.row .head rfl)) ?_
      refine DL.pure (i := 7) (by kernel_rfl) (by kernel_rfl) rfl rfl rfl (OpP.move rfl) ?_
      refine DL.pure (i := 8) (by kernel_rfl) (by kernel_rfl) rfl rfl rfl (OpP.indexAddr rfl rfl (by omega) (by omega)) ?_
      refine DL.read (i := 9) (by kernel_rfl) (by kernel_rfl) rfl rfl rfl (fun _ h => h) (OpR.loadN rfl (by apply Cells.conv (fun _ h => Own.pick (pre := [_, _]) [] rfl h); apply Cells.chunkAt hcs2; (case' h => assumption); (case' hi => assumption); done) (by first | rfl | assumption)) ?_
      refine DL.only (i := 10) (by kernel_rfl) ?_
      refine DL1.stepF rfl rfl rfl (by kernel_rfl) (by exact OpW.call (first := []) (captured := []) inferInstance rfl rfl (ih' _)) ?_; rintro r57 _ ⟨b1, ⟨rfl, ⟨rfl, h57⟩⟩⟩
      refine DL.pure (i := 11) (by kernel_rfl) (by kernel_rfl) rfl rfl rfl (OpP.notB rfl) ?_
      refine DL.done (by kernel_rfl) ?_
      refine J.splitAt 58 rfl (fun h58 => ?_) (fun h58 => ?_)
      focus
        refine J.condT rfl ?_
        refine J.seq ?_
        refine J.region ?_
        refine JL.pure rfl rfl (OpP.assign rfl) ?_
        refine JL.nil ?_
        refine J.ret1 rfl rfl ?_
      rotate_left 1
      focus
        refine J.condF rfl ?_
        refine J.skip ?_
        refine J.inBlock ?_
        refine J.region ?_
        refine JL.pure rfl rfl (OpP.move rfl) ?_
        refine JL.pure rfl rfl (OpP.addI rfl rfl (by omega) (by omega)) ?_
        refine JL.pure rfl rfl (OpP.assign rfl) ?_
        refine JL.nil ?_
      rotate_left 1
      · exact ⟨_, ⟨false, rfl, rfl, ⟨(fun q => by cases q), fun hq => by have := maps_ne hpj hqj hq.2.2.2.2; simp_all⟩⟩, fun _ h => h.tail.tail⟩
      · refine back (j + 1) ⟨by omega, fun i p' q' hi hp' hq' => ?_⟩ (by omega) (by repeat (first | exact SubEnv.nil | refine SubEnv.cons (by first | rfl | exact congrArg (fun z => some (Value.int .i64 z)) (by omega) | (simp; done)) ?_)) (fun _ h => h)
        by_cases hij : i < j
        · exact hg i p' q' hij hp' hq'
        · obtain rfl : i = j := by omega
          obtain rfl : p' = p := Option.some.inj (hp'.symm.trans hpj)
          obtain rfl : q' = q := Option.some.inj (hq'.symm.trans hqj)
          simp_all
    · refine J.seq ?_
      refine J.seq ?_
      refine J.region ?_
      refine JL.pure rfl rfl (OpP.move rfl) ?_
      refine JL.pure rfl rfl (OpP.fieldAddr rfl) ?_
      refine JL.read rfl rfl (OpR.load1 rfl (Cell.row (.tail .head) rfl)) ?_
      refine JL.pure rfl rfl (OpP.len rfl rfl) ?_
      refine JL.decF rfl rfl (OpP.lss rfl rfl) (by omega) ?_
      refine JL.nil ?_
      refine J.condF rfl ?_
      refine J.exit rfl ?_
      refine J.seq ?_
      refine J.region ?_
      refine JL.pure rfl rfl (OpP.assign rfl) ?_
      refine JL.nil ?_
      refine J.ret1 rfl rfl ?_
      exact ⟨_, ⟨true, rfl, rfl, ⟨fun _ => ⟨h4.1, h4.2.1, h4.2.2, hvv, maps_eq hll fun i p q hp hq => hg i p q (by have := (List.getElem?_eq_some_iff.1 hp).1; omega) hp hq⟩, fun _ => rfl⟩⟩, fun _ h => h.tail.tail⟩
end Go.Proofs.D

-- seat d
namespace Go.Proofs.D
open Go Go.Gp Go.RowKit

theorem equalFunc_ok {w0 : World} {F : List HProp} {a a2 : Option Addr} {c c2 : Nat} {ps ps2 : List Ex} (hn1 : ps.length ≤ 1000) (hn2 : ps2.length ≤ 1000) (hp : RdO w0 F (.slice a ps.length c) ps.length (ps.flatMap xcl)) (gp : RdO w0 F (.slice a2 ps2.length c2) ps2.length (ps2.flatMap xcl))
    (ih : ∀ p ∈ ps, ∀ q ∈ ps2, ∀ G, FnO Try.prog w0 42 [.agg (xcl p).toArray, .agg (xcl q).toArray] G (fun r l' => ∃ b, r = .bool b ∧ l' = G ∧ (b = true ↔ enf p = enf q))) :
    FnO Try.prog w0 44 [.slice a ps.length c, .slice a2 ps2.length c2, .func (.func 42) #[] #[]] F (fun r l' => ∃ b, r = .bool b ∧ l' = F ∧ (b = true ↔ ps.map enf = ps2.map enf)) := by
  have hlen : ∀ p ∈ ps, (xcl p).length = 8 := fun _ _ => rfl
  have hlen2 : ∀ p ∈ ps2, (xcl p).length = 8 := fun _ _ => rfl
  refine FnO.rd hp fun hr1 => ?_
  refine FnO.rd gp fun hr2 => ?_
  refine FnO.weak ?_
  refine FnO.intro (n := 32) Try.func44 rfl rfl rfl ?_
  by_cases hll : ps.length = ps2.length
  · refine J.seq ?_
    refine J.region ?_
    refine JL.pure rfl rfl (OpP.assign rfl) ?_
    refine JL.nil ?_
    refine J.seq ?_
    refine J.seq ?_
    refine J.region ?_
    refine JL.pure rfl rfl (OpP.move rfl) ?_
    refine JL.pure rfl rfl (OpP.len rfl rfl) ?_
    refine JL.pure rfl rfl (OpP.move rfl) ?_
    refine JL.pure rfl rfl (OpP.len rfl rfl) ?_
    refine JL.decF rfl rfl (OpP.neq rfl rfl) (by omega) ?_
    refine JL.nil ?_
    refine J.condF rfl ?_
    refine J.skip ?_
    refine J.seq ?_
    refine J.seq ?_
    refine J.region ?_
    refine JL.pure rfl rfl (OpP.move rfl) ?_
    refine JL.pure rfl rfl (OpP.len rfl rfl) ?_
    refine JL.pure rfl rfl (OpP.move rfl) ?_
    refine JL.nil ?_
    refine J.block ?_
    refine J.loopI (fun j : Nat => ps.length - j) (fun j => j ≤ ps.length ∧ ∀ (i : Nat) (p q : Ex), i < j → ps[i]? = some p → ps2[i]? = some q → enf p = enf q) (fun j => [(17, .int .i64 (j : Nat)), (16, .int .i64 ps.length), (15, .slice a ps.length c), (1, .slice a2 ps2.length c2), (2, .func (.func 42) #[] #[])])
      (fun _ => F) 0 ⟨Nat.zero_le _, fun _ _ _ h => absurd h (Nat.not_lt_zero _)⟩ (by repeat (first | exact SubEnv.nil | refine SubEnv.cons (by first | rfl | exact congrArg (fun z => some (Value.int .i64 z)) (by omega) | (simp; done)) ?_)) (fun _ h => h) (fun j hi back => ?_)
    obtain ⟨hj, hg⟩ := hi
    by_cases hlt : j < ps.length
    · obtain ⟨p, hpj⟩ : ∃ p, ps[j]? = some p := ⟨_, List.getElem?_eq_getElem hlt⟩
      obtain ⟨q, hqj⟩ : ∃ p, ps2[j]? = some p := ⟨_, List.getElem?_eq_getElem (by omega)⟩
      obtain ⟨ga, pa, qa, ea, ka, hcs⟩ := hr1.pos (by omega)
      cases ea
      obtain ⟨gb, pb, qb, eb, kb, hcs2⟩ := hr2.pos (by omega)
      cases eb
      have ih' := ih p (List.mem_of_getElem? hpj) q (List.mem_of_getElem? hqj)
      refine J.seq ?_
      refine J.region ?_
      refine JL.decT rfl rfl (OpP.lss rfl rfl) (by omega) ?_
      refine JL.nil ?_
      refine J.seq ?_
      refine J.condT rfl ?_
      refine J.skip ?_
      refine J.seq ?_
      refine J.block ?_
      refine J.seq ?_
      refine J.region ?_
      refine JL.pure rfl rfl (OpP.move rfl) ?_
      refine JL.pure rfl rfl (OpP.indexAddr rfl rfl (by omega) (by omega)) ?_
      refine JL.read rfl rfl (OpR.loadN rfl (by apply Cells.conv (fun _ h => h); apply Cells.chunkAt hcs; (case' h => assumption); (case' hi => assumption); done) (by first | rfl | assumption)) ?_
      refine JL.mem rfl rfl OpM.alloc ?_; rintro _ _ ⟨b8, rfl, rfl⟩
      refine JL.pure rfl rfl (OpP.assign rfl) ?_
      refine JL.mem0 rfl (by apply OpM.storeN rfl rfl (by rfl) (oneC rfl (oneC rfl (oneC rfl (oneC rfl (oneC rfl (oneC rfl (oneC rfl (one1 rfl)))))))); (case' hu => exact .head); (case' hs => exact (.here (.here (.here (.here (.here (.here (.here (.here .nil))))))))); done) ?_; rintro _ _ ⟨rfl, rfl⟩
      refine JL.nil ?_
      refine J.seq ?_
      refine J.region ?_
      refine JL.pure rfl rfl (OpP.move rfl) ?_
      refine JL.pure rfl rfl (OpP.move rfl) ?_
      refine JL.pure rfl rfl (OpP.indexAddr rfl rfl (by omega) (by omega)) ?_
      refine JL.read rfl rfl (OpR.loadN rfl (by apply Cells.conv (fun _ h => Own.pick (pre := [_]) [] rfl h); apply Cells.chunkAt hcs2; (case' h => assumption); (case' hi => assumption); done) (by first | rfl | assumption)) ?_
      refine JL.mem rfl rfl OpM.alloc ?_; rintro _ _ ⟨b9, rfl, rfl⟩
      refine JL.mem0 rfl (by apply OpM.storeN rfl rfl (by rfl) (oneC rfl (oneC rfl (oneC rfl (oneC rfl (oneC rfl (oneC rfl (oneC rfl (one1 rfl)))))))); (case' hu => exact .head); (case' hs => exact (.here (.here (.here (.here (.here (.here (.here (.here .nil))))))))); done) ?_; rintro _ _ ⟨rfl, rfl⟩
      refine JL.nil ?_
      refine J.seq ?_
      refine J.region ?_
      refine JL.pure rfl rfl (OpP.move rfl) ?_
      refine JL.read rfl rfl (OpR.loadN rfl (Cells.full (.tail .head)) rfl) ?_
      refine JL.read rfl rfl (OpR.loadN rfl (Cells.full .head) rfl) ?_
      refine JL.step rfl rfl (OpW.call (first := []) (captured := []) inferInstance rfl rfl (ih' _)) ?_; rintro r29 _ ⟨b, ⟨rfl, ⟨rfl, h29⟩⟩⟩
      refine JL.pure rfl rfl (OpP.notB rfl) ?_
      refine JL.nil ?_
      refine J.splitAt 30 rfl (fun h30 => ?_) (fun h30 => ?_)
      focus
        refine J.condT rfl ?_
        refine J.seq ?_
        refine J.region ?_
        refine JL.pure rfl rfl (OpP.assign rfl) ?_
        refine JL.nil ?_
        refine J.ret1 rfl rfl ?_
      rotate_left 1
      focus
        refine J.condF rfl ?_
        refine J.skip ?_
        refine J.inBlock ?_
        refine J.region ?_
        refine JL.pure rfl rfl (OpP.addI rfl rfl (by omega) (by omega)) ?_
        refine JL.pure rfl rfl (OpP.move rfl) ?_
        refine JL.nil ?_
      rotate_left 1
      · exact ⟨_, ⟨false, rfl, rfl, ⟨(fun q => by cases q), fun hq => by have := maps_ne hpj hqj hq; simp_all⟩⟩, fun _ h => h.tail.tail⟩
      · refine back (j + 1) ⟨by omega, fun i p' q' hi hp' hq' => ?_⟩ (by omega) (by repeat (first | exact SubEnv.nil | refine SubEnv.cons (by first | rfl | exact congrArg (fun z => some (Value.int .i64 z)) (by omega) | (simp; done)) ?_)) (fun _ h => h.tail.tail)
        by_cases hij : i < j
        · exact hg i p' q' hij hp' hq'
        · obtain rfl : i = j := by omega
          obtain rfl : p' = p := Option.some.inj (hp'.symm.trans hpj)
          obtain rfl : q' = q := Option.some.inj (hq'.symm.trans hqj)
          simp_all
    · refine J.seq ?_
      refine J.region ?_
      refine JL.decF rfl rfl (OpP.lss rfl rfl) (by omega) ?_
      refine JL.nil ?_
      refine J.seq ?_
      refine J.condF rfl ?_
      refine J.exit rfl ?_
      refine J.seq ?_
      refine J.region ?_
      refine JL.pure rfl rfl (OpP.assign rfl) ?_
      refine JL.nil ?_
      refine J.ret1 rfl rfl ?_
      exact ⟨_, ⟨true, rfl, rfl, ⟨fun _ => maps_eq hll fun i p q hp hq => hg i p q (by have := (List.getElem?_eq_some_iff.1 hp).1; omega) hp hq, fun _ => rfl⟩⟩, fun _ h => h⟩
  · refine J.seq ?_
    refine J.region ?_
    refine JL.pure rfl rfl (OpP.assign rfl) ?_
    refine JL.nil ?_
    refine J.seq ?_
    refine J.seq ?_
    refine J.region ?_
    refine JL.pure rfl rfl (OpP.move rfl) ?_
    refine JL.pure rfl rfl (OpP.len rfl rfl) ?_
    refine JL.pure rfl rfl (OpP.move rfl) ?_
    refine JL.pure rfl rfl (OpP.len rfl rfl) ?_
    refine JL.decT rfl rfl (OpP.neq rfl rfl) (by omega) ?_
    refine JL.nil ?_
    refine J.condT rfl ?_
    refine J.seq ?_
    refine J.region ?_
    refine JL.pure rfl rfl (OpP.assign rfl) ?_
    refine JL.nil ?_
    refine J.ret1 rfl rfl ?_
    exact ⟨_, ⟨false, rfl, rfl, ⟨(fun q => by cases q), fun hq => absurd (by simpa using congrArg List.length hq) hll⟩⟩, fun _ h => h⟩
theorem same_ok' {w0 : World} {F : List HProp} {e : Ex} (he : Tr w0 e) : ∀ {f : Ex}, Tr w0 f →
    FnO Try.prog w0 42 [.agg (xcl e).toArray, .agg (xcl f).toArray] F (fun r l' => ∃ b, r = .bool b ∧ l' = F ∧ (b = true ↔ enf e = enf f)) := by
  induction he generalizing F with
  | mk h1 h2 h3 hv hp hs h ih =>
    rename_i e
    intro f hf
    have hn1 : e.ps.length ≤ 59 := Tr.len (.mk h1 h2 h3 hv hp hs h)
    have hn2 := hf.len
    obtain ⟨g1, g2, g3, gv, gp, gs, gh⟩ := hf
    rw [enf_iff]
    have ho := fun (G : List HProp) => order0_ok (F := G) (hv G) (gv G)
    have hq := fun (G : List HProp) => equalFunc_ok (F := G) (by omega) (by omega) (hp G) (gp G) fun p hp q hq G => ih p hp (F := G) (gh q hq)
    refine FnO.weak ?_
    refine FnO.intro (n := 39) Try.func42 rfl rfl rfl ?_
    refine J.seq ?_
    refine J.region ?_
    refine JL.mem rfl rfl (OpM.box rfl rfl) ?_; rintro _ _ ⟨b2, rfl, rfl⟩
    refine JL.mem rfl rfl (OpM.box rfl rfl) ?_; rintro _ _ ⟨b3, rfl, rfl⟩
    refine JL.pure rfl rfl (OpP.assign rfl) ?_
    refine JL.nil ?_
    refine J.seq ?_
    refine J.region ?_
    refine JL.pure rfl rfl (OpP.fieldAddr rfl) ?_
    refine JL.read rfl rfl (OpR.load1 rfl (Cell.row (.tail .head) rfl)) ?_
    refine JL.pure rfl rfl (OpP.fieldAddr rfl) ?_
    refine JL.read rfl rfl (OpR.load1 rfl (Cell.row .head rfl)) ?_
    refine JL.dec rfl rfl (OpP.eqStr rfl rfl) (fun h9 => ?_) (fun h9 => ?_)
    focus
      refine JL.pure rfl rfl (OpP.move rfl) ?_
      refine JL.pure rfl rfl (OpP.fieldAddr rfl) ?_
      refine JL.read rfl rfl (OpR.load1 rfl (Cell.row (.tail .head) rfl)) ?_
      refine JL.pure rfl rfl (OpP.fieldAddr rfl) ?_
      refine JL.read rfl rfl (OpR.load1 rfl (Cell.row .head rfl)) ?_
      refine JL.dec rfl rfl (OpP.eqStr rfl rfl) (fun h15 => ?_) (fun h15 => ?_)
      focus
        refine JL.pure rfl rfl (OpP.pickT rfl rfl) ?_
        refine JL.pure rfl rfl (OpP.move rfl) ?_
        refine JL.pure rfl rfl (OpP.fieldAddr rfl) ?_
        refine JL.read rfl rfl (OpR.load1 rfl (Cell.row (.tail .head) rfl)) ?_
        refine JL.pure rfl rfl (OpP.fieldAddr rfl) ?_
        refine JL.read rfl rfl (OpR.load1 rfl (Cell.row .head rfl)) ?_
        refine JL.dec rfl rfl (OpP.eqStr rfl rfl) (fun h22 => ?_) (fun h22 => ?_)
        focus
          refine JL.pure rfl rfl (OpP.pickT rfl rfl) ?_
          refine JL.pure rfl rfl (OpP.move rfl) ?_
          refine JL.pure rfl rfl (OpP.fieldAddr rfl) ?_
          refine JL.read rfl rfl (OpR.loadN rfl (Cells.sub 4 (.tail .head) rfl) rfl) ?_
          refine JL.pure rfl rfl (OpP.fieldAddr rfl) ?_
          refine JL.read rfl rfl (OpR.loadN rfl (Cells.sub 4 .head rfl) rfl) ?_
          refine JL.step rfl rfl (OpW.call (first := []) (captured := []) inferInstance rfl rfl (ho _)) ?_; rintro r29 _ ⟨n, ⟨rfl, ⟨rfl, h29⟩⟩⟩
          refine JL.dec rfl rfl (OpP.eql rfl rfl) (fun h30 => ?_) (fun h30 => ?_)
          focus
            refine JL.pure rfl rfl (OpP.pickT rfl rfl) ?_
            refine JL.pure rfl rfl (OpP.move rfl) ?_
            refine JL.pure rfl rfl (OpP.fieldAddr rfl) ?_
            refine JL.read rfl rfl (OpR.load1 rfl (Cell.row (.tail .head) rfl)) ?_
            refine JL.pure rfl rfl (OpP.fieldAddr rfl) ?_
            refine JL.read rfl rfl (OpR.load1 rfl (Cell.row .head rfl)) ?_
            refine JL.step rfl rfl (OpW.call (first := []) (captured := []) inferInstance rfl rfl (hq _)) ?_; rintro r37 _ ⟨b, ⟨rfl, ⟨rfl, h37⟩⟩⟩
            refine JL.pure rfl rfl (OpP.pickT rfl rfl) ?_
            refine JL.pure rfl rfl (OpP.assign rfl) ?_
            refine JL.nil ?_
            refine J.ret1 rfl rfl ?_
          rotate_left 1
          focus
            refine JL.pure rfl rfl (OpP.pickT rfl rfl) ?_
            refine JL.pure rfl rfl (OpP.move rfl) ?_
            refine JL.skip rfl rfl ?_
            refine JL.skip rfl rfl ?_
            refine JL.skip rfl rfl ?_
            refine JL.skip rfl rfl ?_
            refine JL.skip rfl rfl ?_
            refine JL.pure rfl rfl (OpP.pickF rfl rfl) ?_
            refine JL.pure rfl rfl (OpP.assign rfl) ?_
            refine JL.nil ?_
            refine J.ret1 rfl rfl ?_
          rotate_left 1
        rotate_left 2
        focus
          refine JL.pure rfl rfl (OpP.pickT rfl rfl) ?_
          refine JL.pure rfl rfl (OpP.move rfl) ?_
          refine JL.skip rfl rfl ?_
          refine JL.skip rfl rfl ?_
          refine JL.skip rfl rfl ?_
          refine JL.skip rfl rfl ?_
          refine JL.skip rfl rfl ?_
          refine JL.skip rfl rfl ?_
          refine JL.pure rfl rfl (OpP.pickF rfl rfl) ?_
          refine JL.pure rfl rfl (OpP.move rfl) ?_
          refine JL.skip rfl rfl ?_
          refine JL.skip rfl rfl ?_
          refine JL.skip rfl rfl ?_
          refine JL.skip rfl rfl ?_
          refine JL.skip rfl rfl ?_
          refine JL.pure rfl rfl (OpP.pickF rfl rfl) ?_
          refine JL.pure rfl rfl (OpP.assign rfl) ?_
          refine JL.nil ?_
          refine J.ret1 rfl rfl ?_
        rotate_left 1
      rotate_left 3
      focus
        refine JL.pure rfl rfl (OpP.pickT rfl rfl) ?_
        refine JL.pure rfl rfl (OpP.move rfl) ?_
        refine JL.skip rfl rfl ?_
        refine JL.skip rfl rfl ?_
        refine JL.skip rfl rfl ?_
        refine JL.skip rfl rfl ?_
        refine JL.skip rfl rfl ?_
        refine JL.pure rfl rfl (OpP.pickF rfl rfl) ?_
        refine JL.pure rfl rfl (OpP.move rfl) ?_
        refine JL.skip rfl rfl ?_
        refine JL.skip rfl rfl ?_
        refine JL.skip rfl rfl ?_
        refine JL.skip rfl rfl ?_
        refine JL.skip rfl rfl ?_
        refine JL.skip rfl rfl ?_
        refine JL.pure rfl rfl (OpP.pickF rfl rfl) ?_
        refine JL.pure rfl rfl (OpP.move rfl) ?_
        refine JL.skip rfl rfl ?_
        refine JL.skip rfl rfl ?_
        refine JL.skip rfl rfl ?_
        refine JL.skip rfl rfl ?_
        refine JL.skip rfl rfl ?_
        refine JL.pure rfl rfl (OpP.pickF rfl rfl) ?_
        refine JL.pure rfl rfl (OpP.assign rfl) ?_
        refine JL.nil ?_
        refine J.ret1 rfl rfl ?_
      rotate_left 1
    rotate_left 4
    focus
      refine JL.pure rfl rfl (OpP.move rfl) ?_
      refine JL.skip rfl rfl ?_
      refine JL.skip rfl rfl ?_
      refine JL.skip rfl rfl ?_
      refine JL.skip rfl rfl ?_
      refine JL.skip rfl rfl ?_
      refine JL.pure rfl rfl (OpP.pickF rfl rfl) ?_
      refine JL.pure rfl rfl (OpP.move rfl) ?_
      refine JL.skip rfl rfl ?_
      refine JL.skip rfl rfl ?_
      refine JL.skip rfl rfl ?_
      refine JL.skip rfl rfl ?_
      refine JL.skip rfl rfl ?_
      refine JL.pure rfl rfl (OpP.pickF rfl rfl) ?_
      refine JL.pure rfl rfl (OpP.move rfl) ?_
      refine JL.skip rfl rfl ?_
      refine JL.skip rfl rfl ?_
      refine JL.skip rfl rfl ?_
      refine JL.skip rfl rfl ?_
      refine JL.skip rfl rfl ?_
      refine JL.skip rfl rfl ?_
      refine JL.pure rfl rfl (OpP.pickF rfl rfl) ?_
      refine JL.pure rfl rfl (OpP.move rfl) ?_
      refine JL.skip rfl rfl ?_
      refine JL.skip rfl rfl ?_
      refine JL.skip rfl rfl ?_
      refine JL.skip rfl rfl ?_
      refine JL.skip rfl rfl ?_
      refine JL.pure rfl rfl (OpP.pickF rfl rfl) ?_
      refine JL.pure rfl rfl (OpP.assign rfl) ?_
      refine JL.nil ?_
      refine J.ret1 rfl rfl ?_
    rotate_left 1
    · exact ⟨_, ⟨b, rfl, rfl, by clear ih ho hq; simp_all⟩, fun _ h => h.tail.tail⟩
    · exact ⟨_, ⟨false, rfl, rfl, by clear ih ho hq; simp_all⟩, fun _ h => h.tail.tail⟩
    · exact ⟨_, ⟨false, rfl, rfl, by clear ih ho hq; simp_all⟩, fun _ h => h.tail.tail⟩
    · exact ⟨_, ⟨false, rfl, rfl, by clear ih ho hq; simp_all⟩, fun _ h => h.tail.tail⟩
    · exact ⟨_, ⟨false, rfl, rfl, by clear ih ho hq; simp_all⟩, fun _ h => h.tail.tail⟩
end Go.Proofs.D

-- seat d
namespace Go.Proofs.D
open Go Go.Gp Go.RowKit

abbrev scells (l : List Str) : List Value := l.map Value.string
theorem scells_get {xs : List Str} {i : Nat} {s : Str} (h : xs[i]? = some s) : (scells xs)[i]? = some (.string s) := by simp [scells, h]
theorem index_ok {w0 : World} {F : List HProp} {a : Option Addr} {c : Nat} {xs : List Str} {s : Str} (hl : xs.length ≤ 1000) (hr : RdO w0 F (.slice a xs.length c) xs.length (scells xs)) :
    FnO Try.prog w0 38 [.slice a xs.length c, .string s] F (fun u l' => ∃ x, u = .int .i64 x ∧ l' = F ∧ (0 ≤ x ↔ s ∈ xs)) := by
  refine FnO.rd hr fun hr1 => ?_
  refine FnO.intro (n := 19) Try.func38 rfl rfl rfl ?_
  refine J.seq ?_
  refine J.region ?_
  refine JL.pure rfl rfl (OpP.assign rfl) ?_
  refine JL.nil ?_
  refine J.seq ?_
  refine J.seq ?_
  refine J.region ?_
  refine JL.pure rfl rfl (OpP.move rfl) ?_
  refine JL.pure rfl rfl (OpP.len rfl rfl) ?_
  refine JL.pure rfl rfl (OpP.move rfl) ?_
  refine JL.nil ?_
  refine J.block ?_
  refine J.loopI (fun i : Nat => xs.length - i) (fun i => i ≤ xs.length ∧ ∀ (j : Nat) (y : Str), j < i → xs[j]? = some y → y ≠ s) (fun i => [(8, .int .i64 (i : Nat)), (7, .int .i64 xs.length), (0, .slice a xs.length c), (1, .string s)]) (fun _ => F) 0 ⟨Nat.zero_le _, fun _ _ h => absurd h (Nat.not_lt_zero _)⟩ (by repeat (first | exact SubEnv.nil | refine SubEnv.cons (by first | rfl | exact congrArg (fun z => some (Value.int .i64 z)) (by omega) | (simp; done)) ?_)) (fun _ h => h) (fun i ⟨hi, hf⟩ back => ?_)
  by_cases hlt : i < xs.length
  · obtain ⟨x, hx⟩ : ∃ x, xs[i]? = some x := ⟨_, List.getElem?_eq_getElem hlt⟩
    have hx' := scells_get hx
    refine J.seq ?_
    refine J.region ?_
    refine JL.decT rfl rfl (OpP.lss rfl rfl) (by omega) ?_
    refine JL.nil ?_
    refine J.seq ?_
    refine J.condT rfl ?_
    refine J.skip ?_
    refine J.seq ?_
    refine J.block ?_
    refine J.seq ?_
    refine J.region ?_
    refine JL.pure rfl rfl (OpP.move rfl) ?_
    refine JL.pure rfl rfl (OpP.assign rfl) ?_
    refine JL.nil ?_
    refine J.seq ?_
    refine J.region ?_
    refine JL.pure rfl rfl (OpP.move rfl) ?_
    refine JL.pure rfl rfl (OpP.move rfl) ?_
    refine JL.pure rfl rfl (OpP.move rfl) ?_
    obtain ⟨ga, pa, qa, ea, ka, ca⟩ := hr1.pos (by omega); cases ea
    refine JL.pure rfl rfl (OpP.indexAddr rfl rfl (by omega) (by omega)) ?_
    refine JL.read rfl rfl (OpR.load1 rfl (by apply Cells.cell ca (fun _ h => h); (case' hv => assumption); (case' ho => omega); done)) ?_
    refine JL.dec rfl rfl (OpP.eqStr rfl rfl) (fun h16 => ?_) (fun h16 => ?_)
    focus
      refine JL.nil ?_
      refine J.condT rfl ?_
      refine J.seq ?_
      refine J.region ?_
      refine JL.pure rfl rfl (OpP.move rfl) ?_
      refine JL.pure rfl rfl (OpP.assign rfl) ?_
      refine JL.nil ?_
      refine J.ret1 rfl rfl ?_
    rotate_left 1
    focus
      refine JL.nil ?_
      refine J.condF rfl ?_
      refine J.skip ?_
      refine J.inBlock ?_
      refine J.region ?_
      refine JL.pure rfl rfl (OpP.addI rfl rfl (by omega) (by omega)) ?_
      refine JL.pure rfl rfl (OpP.move rfl) ?_
      refine JL.nil ?_
    rotate_left 1
    · exact ⟨_, rfl, rfl, ⟨fun _ => by have := List.mem_of_getElem? hx; simp_all, fun _ => by omega⟩⟩
    · refine back (i + 1) ⟨by omega, fun j y hj hy => ?_⟩ (by omega) (by repeat (first | exact SubEnv.nil | refine SubEnv.cons (by first | rfl | exact congrArg (fun z => some (Value.int .i64 z)) (by omega) | (simp; done)) ?_)) (fun _ h => h)
      by_cases hji : j < i
      · exact hf j y hji hy
      · obtain rfl : j = i := by omega
        obtain rfl : y = x := Option.some.inj (hy.symm.trans hx)
        exact fun q => absurd q.symm (by assumption)
  · refine J.seq ?_
    refine J.region ?_
    refine JL.decF rfl rfl (OpP.lss rfl rfl) (by omega) ?_
    refine JL.nil ?_
    refine J.seq ?_
    refine J.condF rfl ?_
    refine J.exit rfl ?_
    refine J.seq ?_
    refine J.region ?_
    refine JL.pure rfl rfl (OpP.assign rfl) ?_
    refine JL.nil ?_
    refine J.ret1 rfl rfl ?_
    refine ⟨_, rfl, rfl, ⟨fun q => by omega, fun q => ?_⟩⟩
    obtain ⟨j, hj⟩ := List.getElem?_of_mem q
    exact absurd rfl (hf j s (by have := (List.getElem?_eq_some_iff.1 hj).1; omega) hj)
theorem contains_ok {w0 : World} {F : List HProp} {a : Option Addr} {c : Nat} {xs : List Str} {s : Str} (hl : xs.length ≤ 1000) (hr : RdO w0 F (.slice a xs.length c) xs.length (scells xs)) :
    FnO Try.prog w0 32 [.slice a xs.length c, .string s] F (fun u l' => ∃ b, u = .bool b ∧ l' = F ∧ (b = true ↔ s ∈ xs)) := by
  refine FnO.intro (n := 9) Try.func32 rfl rfl rfl ?_
  refine J.seq ?_
  refine J.region ?_
  refine JL.pure rfl rfl (OpP.assign rfl) ?_
  refine JL.nil ?_
  refine J.seq ?_
  refine J.region ?_
  refine JL.pure rfl rfl (OpP.move rfl) ?_
  refine JL.pure rfl rfl (OpP.move rfl) ?_
  refine JL.step rfl rfl (OpW.call (first := []) (captured := []) inferInstance rfl rfl (index_ok hl hr)) ?_; rintro r7 _ ⟨x, ⟨rfl, ⟨rfl, h7⟩⟩⟩
  refine JL.dec rfl rfl (OpP.geq rfl rfl) (fun h8 => ?_) (fun h8 => ?_)
  focus
    refine JL.pure rfl rfl (OpP.assign rfl) ?_
    refine JL.nil ?_
    refine J.ret1 rfl rfl ?_
  rotate_left 1
  focus
    refine JL.pure rfl rfl (OpP.assign rfl) ?_
    refine JL.nil ?_
    refine J.ret1 rfl rfl ?_
  rotate_left 1
  · exact ⟨true, rfl, rfl, ⟨fun _ => h7.1 (by omega), fun _ => rfl⟩⟩
  · exact ⟨false, rfl, rfl, ⟨(fun q => by cases q), fun q => absurd (h7.2 q) (by omega)⟩⟩

theorem indexF_ok {w0 : World} {F : List HProp} {a : Option Addr} {c b4 b5 : Nat} {ps : List Ex} {P : Ex → Prop} (hl : ps.length ≤ 1000) (hr : RdO w0 F (.slice a ps.length c) ps.length (ps.flatMap xcl))
    (hcl : ∀ p ∈ ps, FnO Try.prog w0 34 [.agg (xcl p).toArray, .pointer (some ⟨b4, 0, none⟩), .pointer (some ⟨b5, 0, none⟩)] F (fun r l' => ∃ b, r = .bool b ∧ l' = F ∧ (b = true ↔ P p))) :
    FnO Try.prog w0 39 [.slice a ps.length c, .func (.func 34) #[] #[.pointer (some ⟨b4, 0, none⟩), .pointer (some ⟨b5, 0, none⟩)]] F (fun u l' => ∃ x, u = .int .i64 x ∧ l' = F ∧ (0 ≤ x ↔ ∃ p ∈ ps, P p)) := by
  have hlen : ∀ p ∈ ps, (xcl p).length = 8 := fun _ _ => rfl
  refine FnO.rd hr fun hr1 => ?_
  refine FnO.intro (n := 19) Try.func39 rfl rfl rfl ?_
  refine J.seq ?_
  refine J.region ?_
  refine JL.pure rfl rfl (OpP.assign rfl) ?_
  refine JL.nil ?_
  refine J.seq ?_
  refine J.seq ?_
  refine J.region ?_
  refine JL.pure rfl rfl (OpP.move rfl) ?_
  refine JL.pure rfl rfl (OpP.len rfl rfl) ?_
  refine JL.pure rfl rfl (OpP.move rfl) ?_
  refine JL.nil ?_
  refine J.block ?_
  refine J.loopI (fun i : Nat => ps.length - i) (fun i => i ≤ ps.length ∧ ∀ (j : Nat) (y : Ex), j < i → ps[j]? = some y → ¬ P y) (fun i => [(8, .int .i64 (i : Nat)), (7, .int .i64 ps.length), (0, .slice a ps.length c), (1, .func (.func 34) #[] #[.pointer (some ⟨b4, 0, none⟩), .pointer (some ⟨b5, 0, none⟩)])]) (fun _ => F) 0 ⟨Nat.zero_le _, fun _ _ h => absurd h (Nat.not_lt_zero _)⟩ (by repeat (first | exact SubEnv.nil | refine SubEnv.cons (by first | rfl | exact congrArg (fun z => some (Value.int .i64 z)) (by omega) | (simp; done)) ?_)) (fun _ h => h) (fun i ⟨hi, hf⟩ back => ?_)
  by_cases hlt : i < ps.length
  · obtain ⟨p, hp⟩ : ∃ x, ps[i]? = some x := ⟨_, List.getElem?_eq_getElem hlt⟩
    have hpm := List.mem_of_getElem? hp
    have hc := hcl p hpm
    obtain ⟨ga, pa, qa, ea, ka, hcs⟩ := hr1.pos (by omega)
    cases ea
    refine J.seq ?_
    refine J.region ?_
    refine JL.decT rfl rfl (OpP.lss rfl rfl) (by omega) ?_
    refine JL.nil ?_
    refine J.seq ?_
    refine J.condT rfl ?_
    refine J.skip ?_
    refine J.seq ?_
    refine J.block ?_
    refine J.seq ?_
    refine J.region ?_
    refine JL.pure rfl rfl (OpP.move rfl) ?_
    refine JL.pure rfl rfl (OpP.assign rfl) ?_
    refine JL.nil ?_
    refine J.seq ?_
    refine J.region ?_
    refine JL.pure rfl rfl (OpP.move rfl) ?_
    refine JL.pure rfl rfl (OpP.move rfl) ?_
    refine JL.pure rfl rfl (OpP.move rfl) ?_
    refine JL.pure rfl rfl (OpP.indexAddr rfl rfl (by omega) (by omega)) ?_
    refine JL.read rfl rfl (OpR.loadN rfl (by apply Cells.conv (fun _ h => h); apply Cells.chunkAt hcs; (case' h => assumption); (case' hi => assumption); done) (by first | rfl | assumption)) ?_
    refine JL.step rfl rfl (OpW.call (first := []) (captured := [_, _]) inferInstance rfl rfl hc) ?_; rintro r16 _ ⟨b, ⟨rfl, ⟨rfl, h16⟩⟩⟩
    refine JL.nil ?_
    refine J.splitAt 16 rfl (fun h16 => ?_) (fun h16 => ?_)
    focus
      refine J.condT rfl ?_
      refine J.seq ?_
      refine J.region ?_
      refine JL.pure rfl rfl (OpP.move rfl) ?_
      refine JL.pure rfl rfl (OpP.assign rfl) ?_
      refine JL.nil ?_
      refine J.ret1 rfl rfl ?_
    rotate_left 1
    focus
      refine J.condF rfl ?_
      refine J.skip ?_
      refine J.inBlock ?_
      refine J.region ?_
      refine JL.pure rfl rfl (OpP.addI rfl rfl (by omega) (by omega)) ?_
      refine JL.pure rfl rfl (OpP.move rfl) ?_
      refine JL.nil ?_
    rotate_left 1
    · exact ⟨_, rfl, rfl, ⟨fun _ => ⟨p, hpm, by simp_all⟩, fun _ => by omega⟩⟩
    · refine back (i + 1) ⟨by omega, fun j y hj hy => ?_⟩ (by omega) (by repeat (first | exact SubEnv.nil | refine SubEnv.cons (by first | rfl | exact congrArg (fun z => some (Value.int .i64 z)) (by omega) | (simp; done)) ?_)) (fun _ h => h)
      by_cases hji : j < i
      · exact hf j y hji hy
      · obtain rfl : j = i := by omega
        obtain rfl : y = p := Option.some.inj (hy.symm.trans hp)
        simp_all
  · refine J.seq ?_
    refine J.region ?_
    refine JL.decF rfl rfl (OpP.lss rfl rfl) (by omega) ?_
    refine JL.nil ?_
    refine J.seq ?_
    refine J.condF rfl ?_
    refine J.exit rfl ?_
    refine J.seq ?_
    refine J.region ?_
    refine JL.pure rfl rfl (OpP.assign rfl) ?_
    refine JL.nil ?_
    refine J.ret1 rfl rfl ?_
    refine ⟨_, rfl, rfl, ⟨fun q => by omega, fun ⟨p, hp, q⟩ => ?_⟩⟩
    obtain ⟨j, hj⟩ := List.getElem?_of_mem hp
    exact absurd q (hf j p (by have := (List.getElem?_eq_some_iff.1 hj).1; omega) hj)
theorem containsF_ok {w0 : World} {F : List HProp} {a : Option Addr} {c b4 b5 : Nat} {ps : List Ex} {P : Ex → Prop} (hl : ps.length ≤ 1000) (hr : RdO w0 F (.slice a ps.length c) ps.length (ps.flatMap xcl))
    (hcl : ∀ p ∈ ps, FnO Try.prog w0 34 [.agg (xcl p).toArray, .pointer (some ⟨b4, 0, none⟩), .pointer (some ⟨b5, 0, none⟩)] F (fun r l' => ∃ b, r = .bool b ∧ l' = F ∧ (b = true ↔ P p))) :
    FnO Try.prog w0 33 [.slice a ps.length c, .func (.func 34) #[] #[.pointer (some ⟨b4, 0, none⟩), .pointer (some ⟨b5, 0, none⟩)]] F (fun u l' => ∃ b, u = .bool b ∧ l' = F ∧ (b = true ↔ ∃ p ∈ ps, P p)) := by
  refine FnO.intro (n := 9) Try.func33 rfl rfl rfl ?_
  refine J.seq ?_
  refine J.region ?_
  refine JL.pure rfl rfl (OpP.assign rfl) ?_
  refine JL.nil ?_
  refine J.seq ?_
  refine J.region ?_
  refine JL.pure rfl rfl (OpP.move rfl) ?_
  refine JL.pure rfl rfl (OpP.move rfl) ?_
  refine JL.step rfl rfl (OpW.call (first := []) (captured := []) inferInstance rfl rfl (indexF_ok hl hr hcl)) ?_; rintro r7 _ ⟨x, ⟨rfl, ⟨rfl, h7⟩⟩⟩
  refine JL.dec rfl rfl (OpP.geq rfl rfl) (fun h8 => ?_) (fun h8 => ?_)
  focus
    refine JL.pure rfl rfl (OpP.assign rfl) ?_
    refine JL.nil ?_
    refine J.ret1 rfl rfl ?_
  rotate_left 1
  focus
    refine JL.pure rfl rfl (OpP.assign rfl) ?_
    refine JL.nil ?_
    refine J.ret1 rfl rfl ?_
  rotate_left 1
  · exact ⟨true, rfl, rfl, ⟨fun _ => h7.1 (by omega), fun _ => rfl⟩⟩
  · exact ⟨false, rfl, rfl, ⟨(fun q => by cases q), fun q => absurd (h7.2 q) (by omega)⟩⟩
def hasS (ops : List Str) (op : Str) : Bool := ops.any fun o => decide (o = op)
theorem hasS_iff {ops : List Str} {op : Str} : hasS ops op = true ↔ op ∈ ops := by
  rw [hasS, List.any_eq_true]
  constructor
  · rintro ⟨x, h1, h2⟩; simp at h2; exact h2 ▸ h1
  · exact fun h => ⟨op, h, by simp⟩
mutual
def asksN (who : Str) (ops : List Str) : Nf → Bool
  | .mk op w _ _ ps => (hasS ops op && (decide (who = ⟨#[]⟩) || decide (w = who))) || asksNs who ops ps
def asksNs (who : Str) (ops : List Str) : List Nf → Bool
  | [] => false
  | e :: es => asksN who ops e || asksNs who ops es
end
theorem asksNs_any (who : Str) (ops : List Str) : ∀ es : List Nf, asksNs who ops es = es.any (asksN who ops)
  | [] => rfl
  | e :: es => by rw [asksNs, asksNs_any who ops es]; rfl
theorem asks_eq (who : Str) (ops : List Str) (e : Ex) : asksN who ops (enf e) = ((hasS ops e.op && (decide (who = ⟨#[]⟩) || decide (e.who = who))) || e.ps.any fun p => asksN who ops (enf p)) := by
  rw [enf_eq e, asksN, asksNs_any, List.any_map]; rfl
theorem asks1_ok {w0 : World} {F : List HProp} {oa : Option Addr} {oc b4 b5 : Nat} {who : Str} {ops : List Str} {p : Ex} (h4 : Cell w0 F ⟨b4, 0, none⟩ (.string who)) (h5 : Cell w0 F ⟨b5, 0, none⟩ (.slice oa ops.length oc)) (hr : RdO w0 F (.slice oa ops.length oc) ops.length (scells ops))
    (ih : ∀ G, RdO w0 G (.slice oa ops.length oc) ops.length (scells ops) → FnO Try.prog w0 23 [.agg (xcl p).toArray, .string who, .slice oa ops.length oc] G (fun u l' => ∃ b, u = .bool b ∧ l' = G ∧ (b = true ↔ asksN who ops (enf p) = true))) :
    FnO Try.prog w0 34 [.agg (xcl p).toArray, .pointer (some ⟨b4, 0, none⟩), .pointer (some ⟨b5, 0, none⟩)] F (fun u l' => ∃ b, u = .bool b ∧ l' = F ∧ (b = true ↔ asksN who ops (enf p) = true)) := by
  refine FnO.weak ?_
  refine FnO.intro (n := 9) Try.func34 rfl rfl rfl ?_
  refine J.seq ?_
  refine J.region ?_
  refine JL.mem rfl rfl (OpM.box rfl rfl) ?_; rintro _ _ ⟨b3, rfl, rfl⟩
  refine JL.pure rfl rfl (OpP.assign rfl) ?_
  refine JL.nil ?_
  refine J.seq ?_
  refine J.region ?_
  refine JL.read rfl rfl (OpR.loadN rfl (Cells.full .head) rfl) ?_
  refine JL.read rfl rfl (OpR.load1 rfl (h4.conv (fun _ h => Own.pick (pre := [_]) [] rfl h))) ?_
  refine JL.read rfl rfl (OpR.load1 rfl (h5.conv (fun _ h => Own.pick (pre := [_]) [] rfl h))) ?_
  refine JL.step rfl rfl (OpW.call (first := []) (captured := []) inferInstance rfl rfl (ih _ (hr.conv fun _ h => Own.pick (pre := [_]) [] rfl h))) ?_; rintro r8 _ ⟨b, ⟨rfl, ⟨rfl, h8⟩⟩⟩
  refine JL.pure rfl rfl (OpP.assign rfl) ?_
  refine JL.nil ?_
  refine J.ret1 rfl rfl ?_
  exact ⟨_, ⟨b, rfl, rfl, h8⟩, fun _ h => h.tail⟩
theorem asks_ok {w0 : World} {F : List HProp} {oa : Option Addr} {oc : Nat} {who : Str} {ops : List Str} {e : Ex} (he : Tr w0 e) (hl : ops.length ≤ 1000) (hr : RdO w0 F (.slice oa ops.length oc) ops.length (scells ops)) :
    FnO Try.prog w0 23 [.agg (xcl e).toArray, .string who, .slice oa ops.length oc] F (fun u l' => ∃ b, u = .bool b ∧ l' = F ∧ (b = true ↔ asksN who ops (enf e) = true)) := by
  induction he generalizing F with
  | mk h1 h2 h3 hv hp hs h ih =>
    rename_i e
    have hn1 : e.ps.length ≤ 59 := Tr.len (.mk h1 h2 h3 hv hp hs h)
    rw [asks_eq]
    refine FnO.weak ?_
    refine FnO.intro (n := 25) Try.func23 rfl rfl rfl ?_
    refine J.seq ?_
    refine J.region ?_
    refine JL.mem rfl rfl (OpM.box rfl rfl) ?_; rintro _ _ ⟨b3, rfl, rfl⟩
    refine JL.mem rfl rfl (OpM.box rfl rfl) ?_; rintro _ _ ⟨b4, rfl, rfl⟩
    refine JL.mem rfl rfl (OpM.box rfl rfl) ?_; rintro _ _ ⟨b5, rfl, rfl⟩
    refine JL.pure rfl rfl (OpP.assign rfl) ?_
    refine JL.nil ?_
    refine J.seq ?_
    refine J.seq ?_
    refine J.region ?_
    refine JL.read rfl rfl (OpR.load1 rfl (Cell.row .head rfl)) ?_
    refine JL.pure rfl rfl (OpP.fieldAddr rfl) ?_
    refine JL.read rfl rfl (OpR.load1 rfl (Cell.row (.tail (.tail .head)) rfl)) ?_
    refine JL.step rfl rfl (OpW.call (first := []) (captured := []) inferInstance rfl rfl (contains_ok hl (hr.conv fun _ h => Own.pick (pre := [_, _, _]) [] rfl h))) ?_; rintro r10 _ ⟨b, ⟨rfl, ⟨rfl, h10⟩⟩⟩
    refine JL.pure rfl rfl (OpP.move rfl) ?_
    refine JL.splitAt 11 rfl (fun h11 => ?_) (fun h11 => ?_)
    focus
      refine JL.read rfl rfl (OpR.load1 rfl (Cell.row (.tail .head) rfl)) ?_
      refine JL.dec rfl rfl (OpP.eqStr rfl rfl) (fun h13 => ?_) (fun h13 => ?_)
      focus
        refine JL.pure rfl rfl (OpP.move rfl) ?_
        refine JL.skip rfl rfl ?_
        refine JL.skip rfl rfl ?_
        refine JL.skip rfl rfl ?_
        refine JL.skip rfl rfl ?_
        refine JL.pure rfl rfl (OpP.pickT rfl rfl) ?_
        refine JL.pure rfl rfl (OpP.pickT rfl rfl) ?_
        refine JL.nil ?_
        refine J.condT rfl ?_
        refine J.seq ?_
        refine J.region ?_
        refine JL.pure rfl rfl (OpP.assign rfl) ?_
        refine JL.nil ?_
        refine J.ret1 rfl rfl ?_
      rotate_left 1
      focus
        refine JL.pure rfl rfl (OpP.move rfl) ?_
        refine JL.pure rfl rfl (OpP.fieldAddr rfl) ?_
        refine JL.read rfl rfl (OpR.load1 rfl (Cell.row (.tail (.tail .head)) rfl)) ?_
        refine JL.read rfl rfl (OpR.load1 rfl (Cell.row (.tail .head) rfl)) ?_
        refine JL.dec rfl rfl (OpP.eqStr rfl rfl) (fun h18 => ?_) (fun h18 => ?_)
        focus
          refine JL.pure rfl rfl (OpP.pickF rfl rfl) ?_
          refine JL.pure rfl rfl (OpP.pickT rfl rfl) ?_
          refine JL.nil ?_
          refine J.condT rfl ?_
          refine J.seq ?_
          refine J.region ?_
          refine JL.pure rfl rfl (OpP.assign rfl) ?_
          refine JL.nil ?_
          refine J.ret1 rfl rfl ?_
        rotate_left 1
        focus
          refine JL.pure rfl rfl (OpP.pickF rfl rfl) ?_
          refine JL.pure rfl rfl (OpP.pickT rfl rfl) ?_
          refine JL.nil ?_
          refine J.condF rfl ?_
          refine J.skip ?_
        rotate_left 1
      rotate_left 2
    rotate_left 3
    focus
      refine JL.skip rfl rfl ?_
      refine JL.skip rfl rfl ?_
      refine JL.skip rfl rfl ?_
      refine JL.skip rfl rfl ?_
      refine JL.skip rfl rfl ?_
      refine JL.skip rfl rfl ?_
      refine JL.skip rfl rfl ?_
      refine JL.skip rfl rfl ?_
      refine JL.pure rfl rfl (OpP.pickF rfl rfl) ?_
      refine JL.nil ?_
      refine J.condF rfl ?_
      refine J.skip ?_
    rotate_left 1
    · exact ⟨_, ⟨true, rfl, rfl, by have hh := hasS_iff (ops := ops) (op := e.op); simp_all⟩, fun _ h => h.tail.tail.tail⟩
    · exact ⟨_, ⟨true, rfl, rfl, by have hh := hasS_iff (ops := ops) (op := e.op); simp_all⟩, fun _ h => h.tail.tail.tail⟩
    · have hc4 : Cell w0 (row b5 60 [.slice oa ops.length oc] :: row b4 9 [.string who] :: row b3 27 (xcl e) :: F) ⟨b4, 0, none⟩ (.string who) := Cell.row (.tail .head) rfl
      have hc5 : Cell w0 (row b5 60 [.slice oa ops.length oc] :: row b4 9 [.string who] :: row b3 27 (xcl e) :: F) ⟨b5, 0, none⟩ (.slice oa ops.length oc) := Cell.row .head rfl
      have hcf := containsF_ok (by omega) (hp _) fun p hpm => asks1_ok hc4 hc5 hr.sub.sub.sub fun G => ih p hpm (F := G)
      refine J.seq ?_
      refine J.region ?_
      refine JL.pure rfl rfl (OpP.fieldAddr rfl) ?_
      refine JL.read rfl rfl (OpR.load1 rfl (Cell.row (.tail (.tail .head)) rfl)) ?_
      refine JL.pure rfl rfl (OpP.makeFunc rfl rfl) ?_
      refine JL.step rfl rfl (OpW.call (first := []) (captured := []) inferInstance rfl rfl hcf) ?_; rintro r24 _ ⟨b1, ⟨rfl, ⟨rfl, h24⟩⟩⟩
      refine JL.pure rfl rfl (OpP.assign rfl) ?_
      refine JL.nil ?_
      refine J.ret1 rfl rfl ?_
      exact ⟨_, ⟨b1, rfl, rfl, by have hh := hasS_iff (ops := ops) (op := e.op); rw [h24]; simp_all⟩, fun _ h => h.tail.tail.tail⟩
    · have hc4 : Cell w0 (row b5 60 [.slice oa ops.length oc] :: row b4 9 [.string who] :: row b3 27 (xcl e) :: F) ⟨b4, 0, none⟩ (.string who) := Cell.row (.tail .head) rfl
      have hc5 : Cell w0 (row b5 60 [.slice oa ops.length oc] :: row b4 9 [.string who] :: row b3 27 (xcl e) :: F) ⟨b5, 0, none⟩ (.slice oa ops.length oc) := Cell.row .head rfl
      have hcf := containsF_ok (by omega) (hp _) fun p hpm => asks1_ok hc4 hc5 hr.sub.sub.sub fun G => ih p hpm (F := G)
      refine J.seq ?_
      refine J.region ?_
      refine JL.pure rfl rfl (OpP.fieldAddr rfl) ?_
      refine JL.read rfl rfl (OpR.load1 rfl (Cell.row (.tail (.tail .head)) rfl)) ?_
      refine JL.pure rfl rfl (OpP.makeFunc rfl rfl) ?_
      refine JL.step rfl rfl (OpW.call (first := []) (captured := []) inferInstance rfl rfl hcf) ?_; rintro r24 _ ⟨b1, ⟨rfl, ⟨rfl, h24⟩⟩⟩
      refine JL.pure rfl rfl (OpP.assign rfl) ?_
      refine JL.nil ?_
      refine J.ret1 rfl rfl ?_
      exact ⟨_, ⟨b1, rfl, rfl, by have hh := hasS_iff (ops := ops) (op := e.op); rw [h24]; simp_all⟩, fun _ h => h.tail.tail.tail⟩
end Go.Proofs.D

-- seat d
namespace Go.Proofs.D
open Go Go.Gp Go.RowKit

abbrev attrS : Str := ⟨#[97, 116, 116, 114]⟩
abbrev hasT : Str := ⟨#[104, 97, 115]⟩
abbrev roleS : Str := ⟨#[114, 111, 108, 101]⟩
abbrev nowS : Str := ⟨#[110, 111, 119]⟩
abbrev subjS : Str := ⟨#[115, 117, 98, 106, 101, 99, 116]⟩
abbrev resS : Str := ⟨#[114, 101, 115, 111, 117, 114, 99, 101]⟩
abbrev actS : Str := ⟨#[97, 99, 116, 105, 111, 110]⟩
abbrev envS : Str := ⟨#[101, 110, 118]⟩
abbrev noS : Str := ⟨#[]⟩
def subjN (n : Nf) : Bool := asksN subjS [attrS, hasT] n || asksN noS [roleS] n
def resN (n : Nf) : Bool := asksN resS [attrS, hasT] n
def restN (n : Nf) : Bool := (asksN noS [nowS] n || asksN actS [attrS, hasT] n) || asksN envS [attrS, hasT] n
def sideN (n : Nf) : Int := if restN n = true then 6 else if subjN n = true ∧ resN n = true then 5 else if resN n = true then 3 else 2
theorem side_ok {w0 : World} {F : List HProp} {e : Ex} (he : Tr w0 e) :
    FnO Try.prog w0 12 [.agg (xcl e).toArray] F (fun u l' => u = .int .i64 (sideN (enf e)) ∧ l' = F) := by
  refine FnO.weak ?_
  refine FnO.intro (n := 37) Try.func12 rfl rfl rfl ?_
  refine J.seq ?_
  refine J.region ?_
  refine JL.mem rfl rfl (OpM.box rfl rfl) ?_; rintro _ _ ⟨b1, rfl, rfl⟩
  refine JL.pure rfl rfl (OpP.assign rfl) ?_
  refine JL.nil ?_
  refine J.seq ?_
  refine J.region ?_
  refine JL.read rfl rfl (OpR.loadN rfl (Cells.full .head) rfl) ?_
  refine JL.mem rfl rfl (by apply OpM.buildSlice (by rfl) rfl (by rfl); (repeat (first | exact Fills.nil | (apply Fills.cons rfl rfl rfl; (case' hs => ((repeat (first | exact Spl.nil | apply Spl.here | apply Spl.there)); done)))))) ?_; rintro _ _ ⟨b6, rfl, rfl⟩
  refine JL.step rfl rfl (OpW.call (first := []) (captured := []) inferInstance rfl rfl (asks_ok (ops := [attrS, hasT]) (who := subjS) he (by decide) (RdO.ofRow .head (by first | exact Nat.le_refl _ | decide | omega)))) ?_; rintro r7 _ ⟨b, ⟨rfl, ⟨rfl, h7⟩⟩⟩
  refine JL.pure rfl rfl (OpP.move rfl) ?_
  refine JL.splitAt 8 rfl (fun h8 => ?_) (fun h8 => ?_)
  focus
    refine JL.skip rfl rfl ?_
    refine JL.skip rfl rfl ?_
    refine JL.skip rfl rfl ?_
    refine JL.pure rfl rfl (OpP.pickT rfl rfl) ?_
    refine JL.pure rfl rfl (OpP.assign rfl) ?_
    refine JL.nil ?_
    refine J.seq ?_
    refine J.region ?_
    refine JL.read rfl rfl (OpR.loadN rfl (Cells.full (.tail .head)) rfl) ?_
    refine JL.mem rfl rfl (by apply OpM.buildSlice (by rfl) rfl (by rfl); (repeat (first | exact Fills.nil | (apply Fills.cons rfl rfl rfl; (case' hs => ((repeat (first | exact Spl.nil | apply Spl.here | apply Spl.there)); done)))))) ?_; rintro _ _ ⟨b14, rfl, rfl⟩
    refine JL.step rfl rfl (OpW.call (first := []) (captured := []) inferInstance rfl rfl (asks_ok (ops := [attrS, hasT]) (who := resS) he (by decide) (RdO.ofRow .head (by first | exact Nat.le_refl _ | decide | omega)))) ?_; rintro r15 _ ⟨b2, ⟨rfl, ⟨rfl, h15⟩⟩⟩
    refine JL.pure rfl rfl (OpP.assign rfl) ?_
    refine JL.nil ?_
    refine J.seq ?_
    refine J.block ?_
    refine J.seq ?_
    refine J.region ?_
    refine JL.read rfl rfl (OpR.loadN rfl (Cells.full (.tail (.tail .head))) rfl) ?_
    refine JL.mem rfl rfl (by apply OpM.buildSlice (by rfl) rfl (by rfl); (repeat (first | exact Fills.nil | (apply Fills.cons rfl rfl rfl; (case' hs => ((repeat (first | exact Spl.nil | apply Spl.here | apply Spl.there)); done)))))) ?_; rintro _ _ ⟨b18, rfl, rfl⟩
    refine JL.step rfl rfl (OpW.call (first := []) (captured := []) inferInstance rfl rfl (asks_ok (ops := [nowS]) (who := noS) he (by decide) (RdO.ofRow .head (by first | exact Nat.le_refl _ | decide | omega)))) ?_; rintro r19 _ ⟨b3, ⟨rfl, ⟨rfl, h19⟩⟩⟩
    refine JL.pure rfl rfl (OpP.move rfl) ?_
    refine JL.splitAt 20 rfl (fun h20 => ?_) (fun h20 => ?_)
    focus
      refine JL.skip rfl rfl ?_
      refine JL.skip rfl rfl ?_
      refine JL.skip rfl rfl ?_
      refine JL.pure rfl rfl (OpP.pickT rfl rfl) ?_
      refine JL.pure rfl rfl (OpP.move rfl) ?_
      refine JL.skip rfl rfl ?_
      refine JL.skip rfl rfl ?_
      refine JL.skip rfl rfl ?_
      refine JL.pure rfl rfl (OpP.pickT rfl rfl) ?_
      refine JL.pure rfl rfl (OpP.assign rfl) ?_
      refine JL.nil ?_
      refine J.condT rfl ?_
      refine J.seq ?_
      refine J.region ?_
      refine JL.pure rfl rfl (OpP.assign rfl) ?_
      refine JL.nil ?_
      refine J.ret1 rfl rfl ?_
    rotate_left 1
    focus
      refine JL.read rfl rfl (OpR.loadN rfl (Cells.full (.tail (.tail (.tail .head)))) rfl) ?_
      refine JL.mem rfl rfl (by apply OpM.buildSlice (by rfl) rfl (by rfl); (repeat (first | exact Fills.nil | (apply Fills.cons rfl rfl rfl; (case' hs => ((repeat (first | exact Spl.nil | apply Spl.here | apply Spl.there)); done)))))) ?_; rintro _ _ ⟨b22, rfl, rfl⟩
      refine JL.step rfl rfl (OpW.call (first := []) (captured := []) inferInstance rfl rfl (asks_ok (ops := [attrS, hasT]) (who := actS) he (by decide) (RdO.ofRow .head (by first | exact Nat.le_refl _ | decide | omega)))) ?_; rintro r23 _ ⟨b4, ⟨rfl, ⟨rfl, h23⟩⟩⟩
      refine JL.pure rfl rfl (OpP.pickF rfl rfl) ?_
      refine JL.pure rfl rfl (OpP.move rfl) ?_
      refine JL.splitAt 25 rfl (fun h25 => ?_) (fun h25 => ?_)
      focus
        refine JL.skip rfl rfl ?_
        refine JL.skip rfl rfl ?_
        refine JL.skip rfl rfl ?_
        refine JL.pure rfl rfl (OpP.pickT rfl rfl) ?_
        refine JL.pure rfl rfl (OpP.assign rfl) ?_
        refine JL.nil ?_
        refine J.condT rfl ?_
        refine J.seq ?_
        refine J.region ?_
        refine JL.pure rfl rfl (OpP.assign rfl) ?_
        refine JL.nil ?_
        refine J.ret1 rfl rfl ?_
      rotate_left 1
      focus
        refine JL.read rfl rfl (OpR.loadN rfl (Cells.full (.tail (.tail (.tail (.tail .head))))) rfl) ?_
        refine JL.mem rfl rfl (by apply OpM.buildSlice (by rfl) rfl (by rfl); (repeat (first | exact Fills.nil | (apply Fills.cons rfl rfl rfl; (case' hs => ((repeat (first | exact Spl.nil | apply Spl.here | apply Spl.there)); done)))))) ?_; rintro _ _ ⟨b27, rfl, rfl⟩
        refine JL.step rfl rfl (OpW.call (first := []) (captured := []) inferInstance rfl rfl (asks_ok (ops := [attrS, hasT]) (who := envS) he (by decide) (RdO.ofRow .head (by first | exact Nat.le_refl _ | decide | omega)))) ?_; rintro r28 _ ⟨b5, ⟨rfl, ⟨rfl, h28⟩⟩⟩
        refine JL.pure rfl rfl (OpP.pickF rfl rfl) ?_
        refine JL.pure rfl rfl (OpP.assign rfl) ?_
        refine JL.nil ?_
        refine J.splitAt 16 rfl (fun h16 => ?_) (fun h16 => ?_)
        focus
          refine J.condT rfl ?_
          refine J.seq ?_
          refine J.region ?_
          refine JL.pure rfl rfl (OpP.assign rfl) ?_
          refine JL.nil ?_
          refine J.ret1 rfl rfl ?_
        rotate_left 1
        focus
          refine J.condF rfl ?_
          refine J.seq ?_
          refine J.region ?_
          refine JL.pure rfl rfl (OpP.move rfl) ?_
          refine JL.pure rfl rfl (OpP.move rfl) ?_
          refine JL.pure rfl rfl (OpP.move rfl) ?_
          refine JL.pure rfl rfl (OpP.pickT rfl rfl) ?_
          refine JL.pure rfl rfl (OpP.assign rfl) ?_
          refine JL.nil ?_
          refine J.splitAt 30 rfl (fun h30 => ?_) (fun h30 => ?_)
          focus
            refine J.condT rfl ?_
            refine J.seq ?_
            refine J.region ?_
            refine JL.pure rfl rfl (OpP.assign rfl) ?_
            refine JL.nil ?_
            refine J.ret1 rfl rfl ?_
          rotate_left 1
          focus
            refine J.condF rfl ?_
            refine J.seq ?_
            refine J.region ?_
            refine JL.pure rfl rfl (OpP.move rfl) ?_
            refine JL.pure rfl rfl (OpP.assign rfl) ?_
            refine JL.nil ?_
            refine J.splitAt 35 rfl (fun h35 => ?_) (fun h35 => ?_)
            focus
              refine J.condT rfl ?_
              refine J.seq ?_
              refine J.region ?_
              refine JL.pure rfl rfl (OpP.assign rfl) ?_
              refine JL.nil ?_
              refine J.ret1 rfl rfl ?_
            rotate_left 1
            focus
              refine J.condF rfl ?_
              refine J.skip ?_
              refine J.inBlock ?_
              refine J.seq ?_
              refine J.region ?_
              refine JL.pure rfl rfl (OpP.assign rfl) ?_
              refine JL.nil ?_
              refine J.ret1 rfl rfl ?_
            rotate_left 1
          rotate_left 2
        rotate_left 3
      rotate_left 4
    rotate_left 5
  rotate_left 6
  focus
    refine JL.read rfl rfl (OpR.loadN rfl (Cells.full (.tail .head)) rfl) ?_
    refine JL.mem rfl rfl (by apply OpM.buildSlice (by rfl) rfl (by rfl); (repeat (first | exact Fills.nil | (apply Fills.cons rfl rfl rfl; (case' hs => ((repeat (first | exact Spl.nil | apply Spl.here | apply Spl.there)); done)))))) ?_; rintro _ _ ⟨b10, rfl, rfl⟩
    refine JL.step rfl rfl (OpW.call (first := []) (captured := []) inferInstance rfl rfl (asks_ok (ops := [roleS]) (who := noS) he (by decide) (RdO.ofRow .head (by first | exact Nat.le_refl _ | decide | omega)))) ?_; rintro r11 _ ⟨b2, ⟨rfl, ⟨rfl, h11⟩⟩⟩
    refine JL.pure rfl rfl (OpP.pickF rfl rfl) ?_
    refine JL.pure rfl rfl (OpP.assign rfl) ?_
    refine JL.nil ?_
    refine J.seq ?_
    refine J.region ?_
    refine JL.read rfl rfl (OpR.loadN rfl (Cells.full (.tail (.tail .head))) rfl) ?_
    refine JL.mem rfl rfl (by apply OpM.buildSlice (by rfl) rfl (by rfl); (repeat (first | exact Fills.nil | (apply Fills.cons rfl rfl rfl; (case' hs => ((repeat (first | exact Spl.nil | apply Spl.here | apply Spl.there)); done)))))) ?_; rintro _ _ ⟨b14, rfl, rfl⟩
    refine JL.step rfl rfl (OpW.call (first := []) (captured := []) inferInstance rfl rfl (asks_ok (ops := [attrS, hasT]) (who := resS) he (by decide) (RdO.ofRow .head (by first | exact Nat.le_refl _ | decide | omega)))) ?_; rintro r15 _ ⟨b3, ⟨rfl, ⟨rfl, h15⟩⟩⟩
    refine JL.pure rfl rfl (OpP.assign rfl) ?_
    refine JL.nil ?_
    refine J.seq ?_
    refine J.block ?_
    refine J.seq ?_
    refine J.region ?_
    refine JL.read rfl rfl (OpR.loadN rfl (Cells.full (.tail (.tail (.tail .head)))) rfl) ?_
    refine JL.mem rfl rfl (by apply OpM.buildSlice (by rfl) rfl (by rfl); (repeat (first | exact Fills.nil | (apply Fills.cons rfl rfl rfl; (case' hs => ((repeat (first | exact Spl.nil | apply Spl.here | apply Spl.there)); done)))))) ?_; rintro _ _ ⟨b18, rfl, rfl⟩
    refine JL.step rfl rfl (OpW.call (first := []) (captured := []) inferInstance rfl rfl (asks_ok (ops := [nowS]) (who := noS) he (by decide) (RdO.ofRow .head (by first | exact Nat.le_refl _ | decide | omega)))) ?_; rintro r19 _ ⟨b4, ⟨rfl, ⟨rfl, h19⟩⟩⟩
    refine JL.pure rfl rfl (OpP.move rfl) ?_
    refine JL.splitAt 20 rfl (fun h20 => ?_) (fun h20 => ?_)
    focus
      refine JL.skip rfl rfl ?_
      refine JL.skip rfl rfl ?_
      refine JL.skip rfl rfl ?_
      refine JL.pure rfl rfl (OpP.pickT rfl rfl) ?_
      refine JL.pure rfl rfl (OpP.move rfl) ?_
      refine JL.skip rfl rfl ?_
      refine JL.skip rfl rfl ?_
      refine JL.skip rfl rfl ?_
      refine JL.pure rfl rfl (OpP.pickT rfl rfl) ?_
      refine JL.pure rfl rfl (OpP.assign rfl) ?_
      refine JL.nil ?_
      refine J.condT rfl ?_
      refine J.seq ?_
      refine J.region ?_
      refine JL.pure rfl rfl (OpP.assign rfl) ?_
      refine JL.nil ?_
      refine J.ret1 rfl rfl ?_
    rotate_left 1
    focus
      refine JL.read rfl rfl (OpR.loadN rfl (Cells.full (.tail (.tail (.tail (.tail .head))))) rfl) ?_
      refine JL.mem rfl rfl (by apply OpM.buildSlice (by rfl) rfl (by rfl); (repeat (first | exact Fills.nil | (apply Fills.cons rfl rfl rfl; (case' hs => ((repeat (first | exact Spl.nil | apply Spl.here | apply Spl.there)); done)))))) ?_; rintro _ _ ⟨b22, rfl, rfl⟩
      refine JL.step rfl rfl (OpW.call (first := []) (captured := []) inferInstance rfl rfl (asks_ok (ops := [attrS, hasT]) (who := actS) he (by decide) (RdO.ofRow .head (by first | exact Nat.le_refl _ | decide | omega)))) ?_; rintro r23 _ ⟨b5, ⟨rfl, ⟨rfl, h23⟩⟩⟩
      refine JL.pure rfl rfl (OpP.pickF rfl rfl) ?_
      refine JL.pure rfl rfl (OpP.move rfl) ?_
      refine JL.splitAt 25 rfl (fun h25 => ?_) (fun h25 => ?_)
      focus
        refine JL.skip rfl rfl ?_
        refine JL.skip rfl rfl ?_
        refine JL.skip rfl rfl ?_
        refine JL.pure rfl rfl (OpP.pickT rfl rfl) ?_
        refine JL.pure rfl rfl (OpP.assign rfl) ?_
        refine JL.nil ?_
        refine J.condT rfl ?_
        refine J.seq ?_
        refine J.region ?_
        refine JL.pure rfl rfl (OpP.assign rfl) ?_
        refine JL.nil ?_
        refine J.ret1 rfl rfl ?_
      rotate_left 1
      focus
        refine JL.read rfl rfl (OpR.loadN rfl (Cells.full (.tail (.tail (.tail (.tail (.tail .head)))))) rfl) ?_
        refine JL.mem rfl rfl (by apply OpM.buildSlice (by rfl) rfl (by rfl); (repeat (first | exact Fills.nil | (apply Fills.cons rfl rfl rfl; (case' hs => ((repeat (first | exact Spl.nil | apply Spl.here | apply Spl.there)); done)))))) ?_; rintro _ _ ⟨b27, rfl, rfl⟩
        refine JL.step rfl rfl (OpW.call (first := []) (captured := []) inferInstance rfl rfl (asks_ok (ops := [attrS, hasT]) (who := envS) he (by decide) (RdO.ofRow .head (by first | exact Nat.le_refl _ | decide | omega)))) ?_; rintro r28 _ ⟨b7, ⟨rfl, ⟨rfl, h28⟩⟩⟩
        refine JL.pure rfl rfl (OpP.pickF rfl rfl) ?_
        refine JL.pure rfl rfl (OpP.assign rfl) ?_
        refine JL.nil ?_
        refine J.splitAt 16 rfl (fun h16 => ?_) (fun h16 => ?_)
        focus
          refine J.condT rfl ?_
          refine J.seq ?_
          refine J.region ?_
          refine JL.pure rfl rfl (OpP.assign rfl) ?_
          refine JL.nil ?_
          refine J.ret1 rfl rfl ?_
        rotate_left 1
        focus
          refine J.condF rfl ?_
          refine J.seq ?_
          refine J.region ?_
          refine JL.pure rfl rfl (OpP.move rfl) ?_
          refine JL.pure rfl rfl (OpP.move rfl) ?_
          refine JL.splitAt 32 rfl (fun h32 => ?_) (fun h32 => ?_)
          focus
            refine JL.pure rfl rfl (OpP.move rfl) ?_
            refine JL.pure rfl rfl (OpP.pickT rfl rfl) ?_
            refine JL.pure rfl rfl (OpP.assign rfl) ?_
            refine JL.nil ?_
            refine J.splitAt 30 rfl (fun h30 => ?_) (fun h30 => ?_)
            focus
              refine J.condT rfl ?_
              refine J.seq ?_
              refine J.region ?_
              refine JL.pure rfl rfl (OpP.assign rfl) ?_
              refine JL.nil ?_
              refine J.ret1 rfl rfl ?_
            rotate_left 1
            focus
              refine J.condF rfl ?_
              refine J.seq ?_
              refine J.region ?_
              refine JL.pure rfl rfl (OpP.move rfl) ?_
              refine JL.pure rfl rfl (OpP.assign rfl) ?_
              refine JL.nil ?_
              refine J.splitAt 35 rfl (fun h35 => ?_) (fun h35 => ?_)
              focus
                refine J.condT rfl ?_
                refine J.seq ?_
                refine J.region ?_
                refine JL.pure rfl rfl (OpP.assign rfl) ?_
                refine JL.nil ?_
                refine J.ret1 rfl rfl ?_
              rotate_left 1
              focus
                refine J.condF rfl ?_
                refine J.skip ?_
                refine J.inBlock ?_
                refine J.seq ?_
                refine J.region ?_
                refine JL.pure rfl rfl (OpP.assign rfl) ?_
                refine JL.nil ?_
                refine J.ret1 rfl rfl ?_
              rotate_left 1
            rotate_left 2
          rotate_left 3
          focus
            refine JL.skip rfl rfl ?_
            refine JL.pure rfl rfl (OpP.pickF rfl rfl) ?_
            refine JL.pure rfl rfl (OpP.assign rfl) ?_
            refine JL.nil ?_
            refine J.condF rfl ?_
            refine J.seq ?_
            refine J.region ?_
            refine JL.pure rfl rfl (OpP.move rfl) ?_
            refine JL.pure rfl rfl (OpP.assign rfl) ?_
            refine JL.nil ?_
            refine J.splitAt 35 rfl (fun h35 => ?_) (fun h35 => ?_)
            focus
              refine J.condT rfl ?_
              refine J.seq ?_
              refine J.region ?_
              refine JL.pure rfl rfl (OpP.assign rfl) ?_
              refine JL.nil ?_
              refine J.ret1 rfl rfl ?_
            rotate_left 1
            focus
              refine J.condF rfl ?_
              refine J.skip ?_
              refine J.inBlock ?_
              refine J.seq ?_
              refine J.region ?_
              refine JL.pure rfl rfl (OpP.assign rfl) ?_
              refine JL.nil ?_
              refine J.ret1 rfl rfl ?_
            rotate_left 1
          rotate_left 2
        rotate_left 5
      rotate_left 6
    rotate_left 7
  rotate_left 8
  all_goals
    refine ⟨_, ⟨congrArg (Value.int .i64) ?_, rfl⟩, fun _ h => by first | exact h.tail | exact h.tail.tail | exact h.tail.tail.tail | exact h.tail.tail.tail.tail | exact h.tail.tail.tail.tail.tail | exact h.tail.tail.tail.tail.tail.tail | exact h.tail.tail.tail.tail.tail.tail.tail | exact h.tail.tail.tail.tail.tail.tail.tail.tail | exact h.tail.tail.tail.tail.tail.tail.tail.tail.tail | exact h.tail.tail.tail.tail.tail.tail.tail.tail.tail.tail | exact h.tail.tail.tail.tail.tail.tail.tail.tail.tail.tail.tail | exact h.tail.tail.tail.tail.tail.tail.tail.tail.tail.tail.tail.tail⟩
    clear he
    simp_all [sideN, subjN, resN, restN]
end Go.Proofs.D

-- seat d
namespace Go.Proofs.D
open Go Go.Gp Go.RowKit

mutual
def anyN (q : Str → Str → Bool) : Nf → Bool
  | .mk op w _ _ ps => q op w || anyNs q ps
def anyNs (q : Str → Str → Bool) : List Nf → Bool
  | [] => false
  | e :: es => anyN q e || anyNs q es
end
mutual
theorem asks_any (who : Str) (ops : List Str) : ∀ n : Nf, asksN who ops n = anyN (fun op w => hasS ops op && (decide (who = noS) || decide (w = who))) n
  | .mk op w _ _ ps => by rw [asksN, anyN, asks_anys who ops ps]
theorem asks_anys (who : Str) (ops : List Str) : ∀ es : List Nf, asksNs who ops es = anyNs (fun op w => hasS ops op && (decide (who = noS) || decide (w = who))) es
  | [] => rfl
  | e :: es => by rw [asksNs, anyNs, asks_any who ops e, asks_anys who ops es]
end
mutual
theorem any_or (q r : Str → Str → Bool) : ∀ n : Nf, (anyN q n || anyN r n) = anyN (fun o w => q o w || r o w) n
  | .mk op w _ _ ps => by rw [anyN, anyN, anyN, ← any_ors q r ps]; cases q op w <;> cases r op w <;> cases anyNs q ps <;> cases anyNs r ps <;> rfl
theorem any_ors (q r : Str → Str → Bool) : ∀ es : List Nf, (anyNs q es || anyNs r es) = anyNs (fun o w => q o w || r o w) es
  | [] => rfl
  | e :: es => by rw [anyNs, anyNs, anyNs, ← any_ors q r es, ← any_or q r e]; cases anyN q e <;> cases anyN r e <;> cases anyNs q es <;> cases anyNs r es <;> rfl
end
def ofB (op : Str) : Bool := decide (op = attrS) || decide (op = hasT)
def q1 (op who : Str) : Bool := ofB op && decide (who = resS)
def q2 (op who : Str) : Bool := (ofB op && (decide (who = actS) || decide (who = envS))) || decide (op = nowS)
end Go.Proofs.D

-- seat d
namespace Go.Proofs.D
open Go Go.Gp Go.RowKit

end Go.Proofs.D
