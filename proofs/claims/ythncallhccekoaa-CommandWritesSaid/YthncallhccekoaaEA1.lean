/- A text of the proof of a statement about the given program: its part EA1. No person has read it. -/
import Derived.Test.YthncallhccekoaaEInstM
import Derived.Test.YthncallhccekoaaEJ2
import Derived.Lib.Bytealg
-- seat e
namespace Go.Proofs.E
open Go Go.Gp Go.RowKit

/-- A value's cells. -/
abbrev vcl (k i : Int) (s : List UInt8) (l : Value) : List Value := [.int .i64 k, .int .i64 i, .string (strB s), l]
abbrev Plain (k i : Int) (s : List UInt8) (n : Nat) : Prop := n = 0 ∧ (k = 3 ∨ s.length = 0) ∧ (k = 0 ∧ i = 0 ∨ k = 1 ∧ (i = 0 ∨ i = 1) ∨ k = 2 ∨ k = 3 ∧ i = 0 ∧ s.length ≤ 64 ∨ k = 4 ∧ 0 ≤ i ∧ i ≤ 1099511627776)
theorem strB_nil {s : List UInt8} : strB s = ⟨#[]⟩ ↔ s.length = 0 := by
  rw [show (⟨#[]⟩ : ByteArray) = strB [] from rfl, strB_inj, List.length_eq_zero_iff]
theorem plain_ok {w0 : World} {F : List HProp} {k i : Int} {s : List UInt8} {a : Option Addr} {n c : Nat} :
    FnO Try.prog w0 83 [.agg (vcl k i s (.slice a n c)).toArray] F (fun r l' => r = .bool (decide (Plain k i s n)) ∧ l' = F) := by
  refine FnO.weak ?_
  refine FnO.intro (n := 57) Try.func83 rfl rfl rfl ?_
  refine J.seq ?_
  refine J.region ?_
  refine JL.mem rfl rfl (OpM.box rfl rfl) ?_; rintro _ _ ⟨b1, rfl, rfl⟩
  refine JL.pure rfl rfl (OpP.assign rfl) ?_
  refine JL.nil ?_
  refine J.seq ?_
  refine J.seq ?_
  refine J.region ?_
  refine JL.pure rfl rfl (OpP.fieldAddr rfl) ?_
  refine JL.read rfl rfl (OpR.load1 rfl (Cell.row .head rfl)) ?_
  refine JL.pure rfl rfl (OpP.len rfl rfl) ?_
  refine JL.dec rfl rfl (OpP.gtr rfl rfl) (fun h6 => ?_) (fun h6 => ?_)
  focus
    refine JL.pure rfl rfl (OpP.move rfl) ?_
    refine JL.skip rfl rfl ?_
    refine JL.skip rfl rfl ?_
    refine JL.skip rfl rfl ?_
    refine JL.skip rfl rfl ?_
    refine JL.skip rfl rfl ?_
    refine JL.skip rfl rfl ?_
    refine JL.skip rfl rfl ?_
    refine JL.skip rfl rfl ?_
    refine JL.pure rfl rfl (OpP.pickT rfl rfl) ?_
    refine JL.nil ?_
    refine J.condT rfl ?_
    refine J.seq ?_
    refine J.region ?_
    refine JL.pure rfl rfl (OpP.assign rfl) ?_
    refine JL.nil ?_
    refine J.ret1 rfl rfl ?_
  rotate_left 1
  focus
    refine JL.pure rfl rfl (OpP.move rfl) ?_
    refine JL.pure rfl rfl (OpP.fieldAddr rfl) ?_
    refine JL.read rfl rfl (OpR.load1 rfl (Cell.row .head rfl)) ?_
    refine JL.dec rfl rfl (OpP.neq rfl rfl) (fun h10 => ?_) (fun h10 => ?_)
    focus
      refine JL.pure rfl rfl (OpP.move rfl) ?_
      refine JL.pure rfl rfl (OpP.fieldAddr rfl) ?_
      refine JL.read rfl rfl (OpR.load1 rfl (Cell.row .head rfl)) ?_
      refine JL.dec rfl rfl (OpP.neStr rfl rfl) (fun h14 => ?_) (fun h14 => ?_)
      focus
        refine JL.pure rfl rfl (OpP.pickT rfl rfl) ?_
        refine JL.pure rfl rfl (OpP.pickF rfl rfl) ?_
        refine JL.nil ?_
        refine J.condT rfl ?_
        refine J.seq ?_
        refine J.region ?_
        refine JL.pure rfl rfl (OpP.assign rfl) ?_
        refine JL.nil ?_
        refine J.ret1 rfl rfl ?_
      rotate_left 1
      focus
        refine JL.pure rfl rfl (OpP.pickT rfl rfl) ?_
        refine JL.pure rfl rfl (OpP.pickF rfl rfl) ?_
        refine JL.nil ?_
        refine J.condF rfl ?_
        refine J.skip ?_
        refine J.seq ?_
        refine J.seq ?_
        refine J.region ?_
        refine JL.pure rfl rfl (OpP.fieldAddr rfl) ?_
        refine JL.read rfl rfl (OpR.load1 rfl (Cell.row .head rfl)) ?_
        refine JL.nil ?_
        refine J.block ?_
        refine J.seq ?_
        refine J.region ?_
        refine JL.dec rfl rfl (OpP.eql rfl rfl) (fun h20 => ?_) (fun h20 => ?_)
        focus
          refine JL.pure rfl rfl (OpP.assign rfl) ?_
          refine JL.nil ?_
          refine J.condT rfl ?_
          refine J.seq ?_
          refine J.region ?_
          refine JL.pure rfl rfl (OpP.fieldAddr rfl) ?_
          refine JL.read rfl rfl (OpR.load1 rfl (Cell.row .head rfl)) ?_
          refine JL.dec rfl rfl (OpP.eql rfl rfl) (fun h23 => ?_) (fun h23 => ?_)
          focus
            refine JL.pure rfl rfl (OpP.assign rfl) ?_
            refine JL.nil ?_
            refine J.ret1 rfl rfl ?_
          rotate_left 1
          focus
            refine JL.pure rfl rfl (OpP.assign rfl) ?_
            refine JL.nil ?_
            refine J.ret1 rfl rfl ?_
          rotate_left 1
        rotate_left 2
        focus
          refine JL.pure rfl rfl (OpP.assign rfl) ?_
          refine JL.nil ?_
          refine J.condF rfl ?_
          refine J.seq ?_
          refine J.region ?_
          refine JL.dec rfl rfl (OpP.eql rfl rfl) (fun h25 => ?_) (fun h25 => ?_)
          focus
            refine JL.pure rfl rfl (OpP.assign rfl) ?_
            refine JL.nil ?_
            refine J.condT rfl ?_
            refine J.seq ?_
            refine J.region ?_
            refine JL.pure rfl rfl (OpP.fieldAddr rfl) ?_
            refine JL.read rfl rfl (OpR.load1 rfl (Cell.row .head rfl)) ?_
            refine JL.dec rfl rfl (OpP.eql rfl rfl) (fun h28 => ?_) (fun h28 => ?_)
            focus
              refine JL.pure rfl rfl (OpP.move rfl) ?_
              refine JL.skip rfl rfl ?_
              refine JL.skip rfl rfl ?_
              refine JL.skip rfl rfl ?_
              refine JL.pure rfl rfl (OpP.pickT rfl rfl) ?_
              refine JL.pure rfl rfl (OpP.assign rfl) ?_
              refine JL.nil ?_
              refine J.ret1 rfl rfl ?_
            rotate_left 1
            focus
              refine JL.pure rfl rfl (OpP.move rfl) ?_
              refine JL.pure rfl rfl (OpP.fieldAddr rfl) ?_
              refine JL.read rfl rfl (OpR.load1 rfl (Cell.row .head rfl)) ?_
              refine JL.dec rfl rfl (OpP.eql rfl rfl) (fun h32 => ?_) (fun h32 => ?_)
              focus
                refine JL.pure rfl rfl (OpP.pickF rfl rfl) ?_
                refine JL.pure rfl rfl (OpP.assign rfl) ?_
                refine JL.nil ?_
                refine J.ret1 rfl rfl ?_
              rotate_left 1
              focus
                refine JL.pure rfl rfl (OpP.pickF rfl rfl) ?_
                refine JL.pure rfl rfl (OpP.assign rfl) ?_
                refine JL.nil ?_
                refine J.ret1 rfl rfl ?_
              rotate_left 1
            rotate_left 2
          rotate_left 3
          focus
            refine JL.pure rfl rfl (OpP.assign rfl) ?_
            refine JL.nil ?_
            refine J.condF rfl ?_
            refine J.seq ?_
            refine J.region ?_
            refine JL.dec rfl rfl (OpP.eql rfl rfl) (fun h35 => ?_) (fun h35 => ?_)
            focus
              refine JL.pure rfl rfl (OpP.assign rfl) ?_
              refine JL.nil ?_
              refine J.condT rfl ?_
              refine J.seq ?_
              refine J.region ?_
              refine JL.pure rfl rfl (OpP.assign rfl) ?_
              refine JL.nil ?_
              refine J.ret1 rfl rfl ?_
            rotate_left 1
            focus
              refine JL.pure rfl rfl (OpP.assign rfl) ?_
              refine JL.nil ?_
              refine J.condF rfl ?_
              refine J.seq ?_
              refine J.region ?_
              refine JL.decF rfl rfl (OpP.eql rfl rfl) (by omega) ?_
              refine JL.pure rfl rfl (OpP.assign rfl) ?_
              refine JL.nil ?_
              refine J.condF rfl ?_
              refine J.seq ?_
              refine J.region ?_
              refine JL.dec rfl rfl (OpP.eql rfl rfl) (fun h48 => ?_) (fun h48 => ?_)
              focus
                refine JL.pure rfl rfl (OpP.assign rfl) ?_
                refine JL.nil ?_
                refine J.condT rfl ?_
                refine J.seq ?_
                refine J.region ?_
                refine JL.pure rfl rfl (OpP.fieldAddr rfl) ?_
                refine JL.read rfl rfl (OpR.load1 rfl (Cell.row .head rfl)) ?_
                refine JL.dec rfl rfl (OpP.geq rfl rfl) (fun h51 => ?_) (fun h51 => ?_)
                focus
                  refine JL.pure rfl rfl (OpP.move rfl) ?_
                  refine JL.pure rfl rfl (OpP.fieldAddr rfl) ?_
                  refine JL.read rfl rfl (OpR.load1 rfl (Cell.row .head rfl)) ?_
                  refine JL.dec rfl rfl (OpP.leq rfl rfl) (fun h55 => ?_) (fun h55 => ?_)
                  focus
                    refine JL.pure rfl rfl (OpP.pickT rfl rfl) ?_
                    refine JL.pure rfl rfl (OpP.assign rfl) ?_
                    refine JL.nil ?_
                    refine J.ret1 rfl rfl ?_
                  rotate_left 1
                  focus
                    refine JL.pure rfl rfl (OpP.pickT rfl rfl) ?_
                    refine JL.pure rfl rfl (OpP.assign rfl) ?_
                    refine JL.nil ?_
                    refine J.ret1 rfl rfl ?_
                  rotate_left 1
                rotate_left 2
                focus
                  refine JL.pure rfl rfl (OpP.move rfl) ?_
                  refine JL.skip rfl rfl ?_
                  refine JL.skip rfl rfl ?_
                  refine JL.skip rfl rfl ?_
                  refine JL.pure rfl rfl (OpP.pickF rfl rfl) ?_
                  refine JL.pure rfl rfl (OpP.assign rfl) ?_
                  refine JL.nil ?_
                  refine J.ret1 rfl rfl ?_
                rotate_left 1
              rotate_left 3
              focus
                refine JL.pure rfl rfl (OpP.assign rfl) ?_
                refine JL.nil ?_
                refine J.condF rfl ?_
                refine J.skip ?_
                refine J.inBlock ?_
                refine J.seq ?_
                refine J.region ?_
                refine JL.pure rfl rfl (OpP.assign rfl) ?_
                refine JL.nil ?_
                refine J.ret1 rfl rfl ?_
              rotate_left 1
            rotate_left 4
          rotate_left 5
        rotate_left 8
      rotate_left 10
    rotate_left 11
    focus
      refine JL.pure rfl rfl (OpP.move rfl) ?_
      refine JL.skip rfl rfl ?_
      refine JL.skip rfl rfl ?_
      refine JL.skip rfl rfl ?_
      refine JL.pure rfl rfl (OpP.pickF rfl rfl) ?_
      refine JL.pure rfl rfl (OpP.pickF rfl rfl) ?_
      refine JL.nil ?_
      refine J.condF rfl ?_
      refine J.skip ?_
      refine J.seq ?_
      refine J.seq ?_
      refine J.region ?_
      refine JL.pure rfl rfl (OpP.fieldAddr rfl) ?_
      refine JL.read rfl rfl (OpR.load1 rfl (Cell.row .head rfl)) ?_
      refine JL.nil ?_
      refine J.block ?_
      refine J.seq ?_
      refine J.region ?_
      refine JL.decF rfl rfl (OpP.eql rfl rfl) (by omega) ?_
      refine JL.pure rfl rfl (OpP.assign rfl) ?_
      refine JL.nil ?_
      refine J.condF rfl ?_
      refine J.seq ?_
      refine J.region ?_
      refine JL.decF rfl rfl (OpP.eql rfl rfl) (by omega) ?_
      refine JL.pure rfl rfl (OpP.assign rfl) ?_
      refine JL.nil ?_
      refine J.condF rfl ?_
      refine J.seq ?_
      refine J.region ?_
      refine JL.decF rfl rfl (OpP.eql rfl rfl) (by omega) ?_
      refine JL.pure rfl rfl (OpP.assign rfl) ?_
      refine JL.nil ?_
      refine J.condF rfl ?_
      refine J.seq ?_
      refine J.region ?_
      refine JL.decT rfl rfl (OpP.eql rfl rfl) (by omega) ?_
      refine JL.pure rfl rfl (OpP.assign rfl) ?_
      refine JL.nil ?_
      refine J.condT rfl ?_
      refine J.seq ?_
      refine J.region ?_
      refine JL.pure rfl rfl (OpP.fieldAddr rfl) ?_
      refine JL.read rfl rfl (OpR.load1 rfl (Cell.row .head rfl)) ?_
      refine JL.dec rfl rfl (OpP.eql rfl rfl) (fun h40 => ?_) (fun h40 => ?_)
      focus
        refine JL.pure rfl rfl (OpP.move rfl) ?_
        refine JL.pure rfl rfl (OpP.fieldAddr rfl) ?_
        refine JL.read rfl rfl (OpR.load1 rfl (Cell.row .head rfl)) ?_
        refine JL.pure rfl rfl (OpP.lenStr rfl rfl) ?_
        refine JL.dec rfl rfl (OpP.leq rfl rfl) (fun h45 => ?_) (fun h45 => ?_)
        focus
          refine JL.pure rfl rfl (OpP.pickT rfl rfl) ?_
          refine JL.pure rfl rfl (OpP.assign rfl) ?_
          refine JL.nil ?_
          refine J.ret1 rfl rfl ?_
        rotate_left 1
        focus
          refine JL.pure rfl rfl (OpP.pickT rfl rfl) ?_
          refine JL.pure rfl rfl (OpP.assign rfl) ?_
          refine JL.nil ?_
          refine J.ret1 rfl rfl ?_
        rotate_left 1
      rotate_left 2
      focus
        refine JL.pure rfl rfl (OpP.move rfl) ?_
        refine JL.skip rfl rfl ?_
        refine JL.skip rfl rfl ?_
        refine JL.skip rfl rfl ?_
        refine JL.skip rfl rfl ?_
        refine JL.pure rfl rfl (OpP.pickF rfl rfl) ?_
        refine JL.pure rfl rfl (OpP.assign rfl) ?_
        refine JL.nil ?_
        refine J.ret1 rfl rfl ?_
      rotate_left 1
    rotate_left 3
  rotate_left 14
  all_goals refine ⟨_, ⟨congrArg Value.bool ?_, rfl⟩, fun _ h => h.tail⟩
  all_goals try simp only [ne_eq, strB_nil, strB_size, Decidable.not_not] at *
  all_goals first
    | exact (decide_eq_true (by unfold Plain; omega)).symm
    | exact (decide_eq_false (by unfold Plain; omega)).symm
    | (rw [decide_eq_decide]; unfold Plain; omega)
theorem one_ok {w0 : World} {F : List HProp} {k i : Int} {s : List UInt8} {a : Option Addr} {n c : Nat} :
    FnO Try.prog w0 56 [.agg (vcl k i s (.slice a n c)).toArray] F (fun r l' => r = .bool (decide (Plain k i s n)) ∧ l' = F) := by
  refine FnO.weak ?_
  refine FnO.intro (n := 70) Try.func56 rfl rfl rfl ?_
  refine J.seq ?_
  refine J.region ?_
  refine JL.mem rfl rfl (OpM.box rfl rfl) ?_; rintro _ _ ⟨b1, rfl, rfl⟩
  refine JL.pure rfl rfl (OpP.assign rfl) ?_
  refine JL.nil ?_
  refine J.seq ?_
  refine J.seq ?_
  refine J.region ?_
  refine JL.pure rfl rfl (OpP.fieldAddr rfl) ?_
  refine JL.read rfl rfl (OpR.load1 rfl (Cell.row .head rfl)) ?_
  refine JL.pure rfl rfl (OpP.len rfl rfl) ?_
  refine JL.dec rfl rfl (OpP.gtr rfl rfl) (fun h6 => ?_) (fun h6 => ?_)
  focus
    refine JL.pure rfl rfl (OpP.move rfl) ?_
    refine JL.skip rfl rfl ?_
    refine JL.skip rfl rfl ?_
    refine JL.skip rfl rfl ?_
    refine JL.pure rfl rfl (OpP.pickT rfl rfl) ?_
    refine JL.pure rfl rfl (OpP.move rfl) ?_
    refine JL.skip rfl rfl ?_
    refine JL.skip rfl rfl ?_
    refine JL.skip rfl rfl ?_
    refine JL.pure rfl rfl (OpP.pickT rfl rfl) ?_
    refine JL.nil ?_
    refine J.condT rfl ?_
    refine J.seq ?_
    refine J.region ?_
    refine JL.pure rfl rfl (OpP.assign rfl) ?_
    refine JL.nil ?_
    refine J.ret1 rfl rfl ?_
  rotate_left 1
  focus
    refine JL.pure rfl rfl (OpP.move rfl) ?_
    refine JL.pure rfl rfl (OpP.fieldAddr rfl) ?_
    refine JL.read rfl rfl (OpR.load1 rfl (Cell.row .head rfl)) ?_
    refine JL.dec rfl rfl (OpP.lss rfl rfl) (fun h10 => ?_) (fun h10 => ?_)
    focus
      refine JL.pure rfl rfl (OpP.pickF rfl rfl) ?_
      refine JL.pure rfl rfl (OpP.move rfl) ?_
      refine JL.skip rfl rfl ?_
      refine JL.skip rfl rfl ?_
      refine JL.skip rfl rfl ?_
      refine JL.pure rfl rfl (OpP.pickT rfl rfl) ?_
      refine JL.nil ?_
      refine J.condT rfl ?_
      refine J.seq ?_
      refine J.region ?_
      refine JL.pure rfl rfl (OpP.assign rfl) ?_
      refine JL.nil ?_
      refine J.ret1 rfl rfl ?_
    rotate_left 1
    focus
      refine JL.pure rfl rfl (OpP.pickF rfl rfl) ?_
      refine JL.pure rfl rfl (OpP.move rfl) ?_
      refine JL.pure rfl rfl (OpP.fieldAddr rfl) ?_
      refine JL.read rfl rfl (OpR.load1 rfl (Cell.row .head rfl)) ?_
      refine JL.dec rfl rfl (OpP.gtr rfl rfl) (fun h15 => ?_) (fun h15 => ?_)
      focus
        refine JL.pure rfl rfl (OpP.pickF rfl rfl) ?_
        refine JL.nil ?_
        refine J.condT rfl ?_
        refine J.seq ?_
        refine J.region ?_
        refine JL.pure rfl rfl (OpP.assign rfl) ?_
        refine JL.nil ?_
        refine J.ret1 rfl rfl ?_
      rotate_left 1
      focus
        refine JL.pure rfl rfl (OpP.pickF rfl rfl) ?_
        refine JL.nil ?_
        refine J.condF rfl ?_
        refine J.skip ?_
        refine J.seq ?_
        refine J.seq ?_
        refine J.region ?_
        refine JL.pure rfl rfl (OpP.fieldAddr rfl) ?_
        refine JL.read rfl rfl (OpR.load1 rfl (Cell.row .head rfl)) ?_
        refine JL.dec rfl rfl (OpP.eql rfl rfl) (fun h19 => ?_) (fun h19 => ?_)
        focus
          refine JL.nil ?_
          refine J.condT rfl ?_
          refine J.seq ?_
          refine J.region ?_
          refine JL.pure rfl rfl (OpP.fieldAddr rfl) ?_
          refine JL.read rfl rfl (OpR.load1 rfl (Cell.row .head rfl)) ?_
          refine JL.dec rfl rfl (OpP.eql rfl rfl) (fun h22 => ?_) (fun h22 => ?_)
          focus
            refine JL.pure rfl rfl (OpP.move rfl) ?_
            refine JL.pure rfl rfl (OpP.fieldAddr rfl) ?_
            refine JL.read rfl rfl (OpR.load1 rfl (Cell.row .head rfl)) ?_
            refine JL.pure rfl rfl (OpP.lenStr rfl rfl) ?_
            refine JL.dec rfl rfl (OpP.leq rfl rfl) (fun h27 => ?_) (fun h27 => ?_)
            focus
              refine JL.pure rfl rfl (OpP.pickT rfl rfl) ?_
              refine JL.pure rfl rfl (OpP.assign rfl) ?_
              refine JL.nil ?_
              refine J.ret1 rfl rfl ?_
            rotate_left 1
            focus
              refine JL.pure rfl rfl (OpP.pickT rfl rfl) ?_
              refine JL.pure rfl rfl (OpP.assign rfl) ?_
              refine JL.nil ?_
              refine J.ret1 rfl rfl ?_
            rotate_left 1
          rotate_left 2
          focus
            refine JL.pure rfl rfl (OpP.move rfl) ?_
            refine JL.skip rfl rfl ?_
            refine JL.skip rfl rfl ?_
            refine JL.skip rfl rfl ?_
            refine JL.skip rfl rfl ?_
            refine JL.pure rfl rfl (OpP.pickF rfl rfl) ?_
            refine JL.pure rfl rfl (OpP.assign rfl) ?_
            refine JL.nil ?_
            refine J.ret1 rfl rfl ?_
          rotate_left 1
        rotate_left 3
        focus
          refine JL.nil ?_
          refine J.condF rfl ?_
          refine J.skip ?_
          refine J.seq ?_
          refine J.seq ?_
          refine J.region ?_
          refine JL.pure rfl rfl (OpP.fieldAddr rfl) ?_
          refine JL.read rfl rfl (OpR.load1 rfl (Cell.row .head rfl)) ?_
          refine JL.dec rfl rfl (OpP.neStr rfl rfl) (fun h31 => ?_) (fun h31 => ?_)
          focus
            refine JL.pure rfl rfl (OpP.move rfl) ?_
            refine JL.skip rfl rfl ?_
            refine JL.skip rfl rfl ?_
            refine JL.skip rfl rfl ?_
            refine JL.skip rfl rfl ?_
            refine JL.skip rfl rfl ?_
            refine JL.skip rfl rfl ?_
            refine JL.skip rfl rfl ?_
            refine JL.skip rfl rfl ?_
            refine JL.pure rfl rfl (OpP.pickT rfl rfl) ?_
            refine JL.pure rfl rfl (OpP.move rfl) ?_
            refine JL.skip rfl rfl ?_
            refine JL.skip rfl rfl ?_
            refine JL.skip rfl rfl ?_
            refine JL.skip rfl rfl ?_
            refine JL.skip rfl rfl ?_
            refine JL.skip rfl rfl ?_
            refine JL.skip rfl rfl ?_
            refine JL.skip rfl rfl ?_
            refine JL.skip rfl rfl ?_
            refine JL.skip rfl rfl ?_
            refine JL.skip rfl rfl ?_
            refine JL.skip rfl rfl ?_
            refine JL.skip rfl rfl ?_
            refine JL.pure rfl rfl (OpP.pickT rfl rfl) ?_
            refine JL.nil ?_
            refine J.condT rfl ?_
            refine J.seq ?_
            refine J.region ?_
            refine JL.pure rfl rfl (OpP.assign rfl) ?_
            refine JL.nil ?_
            refine J.ret1 rfl rfl ?_
          rotate_left 1
          focus
            refine JL.pure rfl rfl (OpP.move rfl) ?_
            refine JL.pure rfl rfl (OpP.fieldAddr rfl) ?_
            refine JL.read rfl rfl (OpR.load1 rfl (Cell.row .head rfl)) ?_
            refine JL.dec rfl rfl (OpP.eql rfl rfl) (fun h35 => ?_) (fun h35 => ?_)
            focus
              refine JL.pure rfl rfl (OpP.move rfl) ?_
              refine JL.pure rfl rfl (OpP.fieldAddr rfl) ?_
              refine JL.read rfl rfl (OpR.load1 rfl (Cell.row .head rfl)) ?_
              refine JL.dec rfl rfl (OpP.neq rfl rfl) (fun h39 => ?_) (fun h39 => ?_)
              focus
                refine JL.pure rfl rfl (OpP.pickT rfl rfl) ?_
                refine JL.pure rfl rfl (OpP.pickF rfl rfl) ?_
                refine JL.pure rfl rfl (OpP.move rfl) ?_
                refine JL.skip rfl rfl ?_
                refine JL.skip rfl rfl ?_
                refine JL.skip rfl rfl ?_
                refine JL.skip rfl rfl ?_
                refine JL.skip rfl rfl ?_
                refine JL.skip rfl rfl ?_
                refine JL.skip rfl rfl ?_
                refine JL.skip rfl rfl ?_
                refine JL.skip rfl rfl ?_
                refine JL.skip rfl rfl ?_
                refine JL.skip rfl rfl ?_
                refine JL.skip rfl rfl ?_
                refine JL.skip rfl rfl ?_
                refine JL.pure rfl rfl (OpP.pickT rfl rfl) ?_
                refine JL.nil ?_
                refine J.condT rfl ?_
                refine J.seq ?_
                refine J.region ?_
                refine JL.pure rfl rfl (OpP.assign rfl) ?_
                refine JL.nil ?_
                refine J.ret1 rfl rfl ?_
              rotate_left 1
              focus
                refine JL.pure rfl rfl (OpP.pickT rfl rfl) ?_
                refine JL.pure rfl rfl (OpP.pickF rfl rfl) ?_
                refine JL.pure rfl rfl (OpP.move rfl) ?_
                refine JL.pure rfl rfl (OpP.fieldAddr rfl) ?_
                refine JL.read rfl rfl (OpR.load1 rfl (Cell.row .head rfl)) ?_
                refine JL.decF rfl rfl (OpP.eql rfl rfl) (by omega) ?_
                refine JL.pure rfl rfl (OpP.move rfl) ?_
                refine JL.skip rfl rfl ?_
                refine JL.skip rfl rfl ?_
                refine JL.skip rfl rfl ?_
                refine JL.pure rfl rfl (OpP.pickF rfl rfl) ?_
                refine JL.pure rfl rfl (OpP.move rfl) ?_
                refine JL.skip rfl rfl ?_
                refine JL.skip rfl rfl ?_
                refine JL.skip rfl rfl ?_
                refine JL.pure rfl rfl (OpP.pickF rfl rfl) ?_
                refine JL.pure rfl rfl (OpP.pickF rfl rfl) ?_
                refine JL.nil ?_
                refine J.condF rfl ?_
                refine J.skip ?_
                refine J.seq ?_
                refine J.region ?_
                refine JL.pure rfl rfl (OpP.fieldAddr rfl) ?_
                refine JL.read rfl rfl (OpR.load1 rfl (Cell.row .head rfl)) ?_
                refine JL.decT rfl rfl (OpP.neq rfl rfl) (by omega) ?_
                refine JL.pure rfl rfl (OpP.move rfl) ?_
                refine JL.skip rfl rfl ?_
                refine JL.skip rfl rfl ?_
                refine JL.skip rfl rfl ?_
                refine JL.skip rfl rfl ?_
                refine JL.skip rfl rfl ?_
                refine JL.skip rfl rfl ?_
                refine JL.skip rfl rfl ?_
                refine JL.skip rfl rfl ?_
                refine JL.pure rfl rfl (OpP.pickT rfl rfl) ?_
                refine JL.pure rfl rfl (OpP.assign rfl) ?_
                refine JL.nil ?_
                refine J.ret1 rfl rfl ?_
              rotate_left 1
            rotate_left 2
            focus
              refine JL.pure rfl rfl (OpP.move rfl) ?_
              refine JL.skip rfl rfl ?_
              refine JL.skip rfl rfl ?_
              refine JL.skip rfl rfl ?_
              refine JL.pure rfl rfl (OpP.pickF rfl rfl) ?_
              refine JL.pure rfl rfl (OpP.pickF rfl rfl) ?_
              refine JL.pure rfl rfl (OpP.move rfl) ?_
              refine JL.pure rfl rfl (OpP.fieldAddr rfl) ?_
              refine JL.read rfl rfl (OpR.load1 rfl (Cell.row .head rfl)) ?_
              refine JL.dec rfl rfl (OpP.eql rfl rfl) (fun h45 => ?_) (fun h45 => ?_)
              focus
                refine JL.pure rfl rfl (OpP.move rfl) ?_
                refine JL.pure rfl rfl (OpP.fieldAddr rfl) ?_
                refine JL.read rfl rfl (OpR.load1 rfl (Cell.row .head rfl)) ?_
                refine JL.dec rfl rfl (OpP.neq rfl rfl) (fun h49 => ?_) (fun h49 => ?_)
                focus
                  refine JL.pure rfl rfl (OpP.pickT rfl rfl) ?_
                  refine JL.pure rfl rfl (OpP.move rfl) ?_
                  refine JL.pure rfl rfl (OpP.fieldAddr rfl) ?_
                  refine JL.read rfl rfl (OpR.load1 rfl (Cell.row .head rfl)) ?_
                  refine JL.dec rfl rfl (OpP.neq rfl rfl) (fun h54 => ?_) (fun h54 => ?_)
                  focus
                    refine JL.pure rfl rfl (OpP.pickT rfl rfl) ?_
                    refine JL.pure rfl rfl (OpP.pickF rfl rfl) ?_
                    refine JL.nil ?_
                    refine J.condT rfl ?_
                    refine J.seq ?_
                    refine J.region ?_
                    refine JL.pure rfl rfl (OpP.assign rfl) ?_
                    refine JL.nil ?_
                    refine J.ret1 rfl rfl ?_
                  rotate_left 1
                  focus
                    refine JL.pure rfl rfl (OpP.pickT rfl rfl) ?_
                    refine JL.pure rfl rfl (OpP.pickF rfl rfl) ?_
                    refine JL.nil ?_
                    refine J.condF rfl ?_
                    refine J.skip ?_
                    refine J.seq ?_
                    refine J.region ?_
                    refine JL.pure rfl rfl (OpP.fieldAddr rfl) ?_
                    refine JL.read rfl rfl (OpR.load1 rfl (Cell.row .head rfl)) ?_
                    refine JL.decT rfl rfl (OpP.neq rfl rfl) (by omega) ?_
                    refine JL.pure rfl rfl (OpP.move rfl) ?_
                    refine JL.skip rfl rfl ?_
                    refine JL.skip rfl rfl ?_
                    refine JL.skip rfl rfl ?_
                    refine JL.skip rfl rfl ?_
                    refine JL.skip rfl rfl ?_
                    refine JL.skip rfl rfl ?_
                    refine JL.skip rfl rfl ?_
                    refine JL.skip rfl rfl ?_
                    refine JL.pure rfl rfl (OpP.pickT rfl rfl) ?_
                    refine JL.pure rfl rfl (OpP.assign rfl) ?_
                    refine JL.nil ?_
                    refine J.ret1 rfl rfl ?_
                  rotate_left 1
                rotate_left 2
                focus
                  refine JL.pure rfl rfl (OpP.pickT rfl rfl) ?_
                  refine JL.pure rfl rfl (OpP.move rfl) ?_
                  refine JL.skip rfl rfl ?_
                  refine JL.skip rfl rfl ?_
                  refine JL.skip rfl rfl ?_
                  refine JL.pure rfl rfl (OpP.pickF rfl rfl) ?_
                  refine JL.pure rfl rfl (OpP.pickF rfl rfl) ?_
                  refine JL.nil ?_
                  refine J.condF rfl ?_
                  refine J.skip ?_
                  refine J.seq ?_
                  refine J.region ?_
                  refine JL.pure rfl rfl (OpP.fieldAddr rfl) ?_
                  refine JL.read rfl rfl (OpR.load1 rfl (Cell.row .head rfl)) ?_
                  refine JL.decT rfl rfl (OpP.neq rfl rfl) (by omega) ?_
                  refine JL.pure rfl rfl (OpP.move rfl) ?_
                  refine JL.skip rfl rfl ?_
                  refine JL.skip rfl rfl ?_
                  refine JL.skip rfl rfl ?_
                  refine JL.skip rfl rfl ?_
                  refine JL.skip rfl rfl ?_
                  refine JL.skip rfl rfl ?_
                  refine JL.skip rfl rfl ?_
                  refine JL.skip rfl rfl ?_
                  refine JL.pure rfl rfl (OpP.pickT rfl rfl) ?_
                  refine JL.pure rfl rfl (OpP.assign rfl) ?_
                  refine JL.nil ?_
                  refine J.ret1 rfl rfl ?_
                rotate_left 1
              rotate_left 3
              focus
                refine JL.pure rfl rfl (OpP.move rfl) ?_
                refine JL.skip rfl rfl ?_
                refine JL.skip rfl rfl ?_
                refine JL.skip rfl rfl ?_
                refine JL.pure rfl rfl (OpP.pickF rfl rfl) ?_
                refine JL.pure rfl rfl (OpP.move rfl) ?_
                refine JL.skip rfl rfl ?_
                refine JL.skip rfl rfl ?_
                refine JL.skip rfl rfl ?_
                refine JL.pure rfl rfl (OpP.pickF rfl rfl) ?_
                refine JL.pure rfl rfl (OpP.pickF rfl rfl) ?_
                refine JL.nil ?_
                refine J.condF rfl ?_
                refine J.skip ?_
                refine J.seq ?_
                refine J.region ?_
                refine JL.pure rfl rfl (OpP.fieldAddr rfl) ?_
                refine JL.read rfl rfl (OpR.load1 rfl (Cell.row .head rfl)) ?_
                refine JL.dec rfl rfl (OpP.neq rfl rfl) (fun h59 => ?_) (fun h59 => ?_)
                focus
                  refine JL.pure rfl rfl (OpP.move rfl) ?_
                  refine JL.skip rfl rfl ?_
                  refine JL.skip rfl rfl ?_
                  refine JL.skip rfl rfl ?_
                  refine JL.skip rfl rfl ?_
                  refine JL.skip rfl rfl ?_
                  refine JL.skip rfl rfl ?_
                  refine JL.skip rfl rfl ?_
                  refine JL.skip rfl rfl ?_
                  refine JL.pure rfl rfl (OpP.pickT rfl rfl) ?_
                  refine JL.pure rfl rfl (OpP.assign rfl) ?_
                  refine JL.nil ?_
                  refine J.ret1 rfl rfl ?_
                rotate_left 1
                focus
                  refine JL.pure rfl rfl (OpP.move rfl) ?_
                  refine JL.pure rfl rfl (OpP.fieldAddr rfl) ?_
                  refine JL.read rfl rfl (OpR.load1 rfl (Cell.row .head rfl)) ?_
                  refine JL.dec rfl rfl (OpP.geq rfl rfl) (fun h63 => ?_) (fun h63 => ?_)
                  focus
                    refine JL.pure rfl rfl (OpP.move rfl) ?_
                    refine JL.pure rfl rfl (OpP.fieldAddr rfl) ?_
                    refine JL.read rfl rfl (OpR.load1 rfl (Cell.row .head rfl)) ?_
                    refine JL.dec rfl rfl (OpP.leq rfl rfl) (fun h67 => ?_) (fun h67 => ?_)
                    focus
                      refine JL.pure rfl rfl (OpP.pickT rfl rfl) ?_
                      refine JL.pure rfl rfl (OpP.pickF rfl rfl) ?_
                      refine JL.pure rfl rfl (OpP.assign rfl) ?_
                      refine JL.nil ?_
                      refine J.ret1 rfl rfl ?_
                    rotate_left 1
                    focus
                      refine JL.pure rfl rfl (OpP.pickT rfl rfl) ?_
                      refine JL.pure rfl rfl (OpP.pickF rfl rfl) ?_
                      refine JL.pure rfl rfl (OpP.assign rfl) ?_
                      refine JL.nil ?_
                      refine J.ret1 rfl rfl ?_
                    rotate_left 1
                  rotate_left 2
                  focus
                    refine JL.pure rfl rfl (OpP.move rfl) ?_
                    refine JL.skip rfl rfl ?_
                    refine JL.skip rfl rfl ?_
                    refine JL.skip rfl rfl ?_
                    refine JL.pure rfl rfl (OpP.pickF rfl rfl) ?_
                    refine JL.pure rfl rfl (OpP.pickF rfl rfl) ?_
                    refine JL.pure rfl rfl (OpP.assign rfl) ?_
                    refine JL.nil ?_
                    refine J.ret1 rfl rfl ?_
                  rotate_left 1
                rotate_left 3
              rotate_left 4
            rotate_left 7
          rotate_left 9
        rotate_left 10
      rotate_left 13
    rotate_left 14
  rotate_left 15
  all_goals refine ⟨_, ⟨congrArg Value.bool ?_, rfl⟩, fun _ h => h.tail⟩
  all_goals try simp only [ne_eq, strB_nil, strB_size, Decidable.not_not] at *
  all_goals first
    | exact (decide_eq_true (by unfold Plain; omega)).symm
    | exact (decide_eq_false (by unfold Plain; omega)).symm
    | (rw [decide_eq_decide]; unfold Plain; omega)
end Go.Proofs.E

-- seat e
namespace Go.Proofs.E
open Go Go.Gp Go.RowKit

def ordI (a b : Int) : Int := if a < b then -1 else if b < a then 1 else 0
def ordB : List UInt8 → List UInt8 → Int
  | [], [] => 0
  | [], _ :: _ => -1
  | _ :: _, [] => 1
  | a :: xs, b :: ys => if a < b then -1 else if b < a then 1 else ordB xs ys
theorem ordB_eq : ∀ a b : List UInt8, ordB a b = Lib.compareBytes a b
  | [], [] => rfl
  | [], _ :: _ => rfl
  | _ :: _, [] => rfl
  | a :: xs, b :: ys => by unfold ordB Lib.compareBytes; rw [ordB_eq xs ys]
theorem numbers_ok {w0 : World} {F : List HProp} {a b : Int} :
    FnO Try.prog w0 84 [.int .i64 a, .int .i64 b] F (fun r l' => r = .int .i64 (ordI a b) ∧ l' = F) := by
  refine FnO.intro (n := 11) Try.func84 rfl rfl rfl ?_
  refine J.seq ?_
  refine J.region ?_
  refine JL.pure rfl rfl (OpP.assign rfl) ?_
  refine JL.nil ?_
  refine J.seq ?_
  refine J.seq ?_
  refine J.region ?_
  refine JL.pure rfl rfl (OpP.move rfl) ?_
  refine JL.pure rfl rfl (OpP.move rfl) ?_
  refine JL.dec rfl rfl (OpP.lss rfl rfl) (fun h7 => ?_) (fun h7 => ?_)
  focus
    refine JL.nil ?_
    refine J.condT rfl ?_
    refine J.seq ?_
    refine J.region ?_
    refine JL.pure rfl rfl (OpP.assign rfl) ?_
    refine JL.nil ?_
    refine J.ret1 rfl rfl ?_
  rotate_left 1
  focus
    refine JL.nil ?_
    refine J.condF rfl ?_
    refine J.skip ?_
    refine J.seq ?_
    refine J.seq ?_
    refine J.region ?_
    refine JL.pure rfl rfl (OpP.move rfl) ?_
    refine JL.pure rfl rfl (OpP.move rfl) ?_
    refine JL.dec rfl rfl (OpP.gtr rfl rfl) (fun h10 => ?_) (fun h10 => ?_)
    focus
      refine JL.nil ?_
      refine J.condT rfl ?_
      refine J.seq ?_
      refine J.region ?_
      refine JL.pure rfl rfl (OpP.assign rfl) ?_
      refine JL.nil ?_
      refine J.ret1 rfl rfl ?_
    rotate_left 1
    focus
      refine JL.nil ?_
      refine J.condF rfl ?_
      refine J.skip ?_
      refine J.seq ?_
      refine J.region ?_
      refine JL.pure rfl rfl (OpP.assign rfl) ?_
      refine JL.nil ?_
      refine J.ret1 rfl rfl ?_
    rotate_left 1
  rotate_left 2
  all_goals refine ⟨congrArg (Value.int .i64) ?_, rfl⟩
  all_goals (unfold ordI; repeat' split) <;> omega
theorem nan_ok {w0 : World} {F : List HProp} {a : Int} :
    FnO Try.prog w0 102 [.int .i64 a] F (fun r l' => r = .bool false ∧ l' = F) := by
  refine FnO.intro (n := 6) Try.func102 rfl rfl rfl ?_
  refine J.seq ?_
  refine J.region ?_
  refine JL.pure rfl rfl (OpP.assign rfl) ?_
  refine JL.nil ?_
  refine J.seq ?_
  refine J.region ?_
  refine JL.pure rfl rfl (OpP.move rfl) ?_
  refine JL.pure rfl rfl (OpP.move rfl) ?_
  refine JL.decF rfl rfl (OpP.neq rfl rfl) (by omega) ?_
  refine JL.pure rfl rfl (OpP.assign rfl) ?_
  refine JL.nil ?_
  refine J.ret1 rfl rfl ?_
  exact ⟨rfl, rfl⟩
theorem nan64_ok {w0 : World} {F : List HProp} {a : Int} :
    FnO Try.prog w0 103 [.int .i64 a] F (fun r l' => r = .bool false ∧ l' = F) := by
  refine FnO.intro (n := 6) Try.func103 rfl rfl rfl ?_
  refine J.seq ?_
  refine J.region ?_
  refine JL.pure rfl rfl (OpP.assign rfl) ?_
  refine JL.nil ?_
  refine J.seq ?_
  refine J.region ?_
  refine JL.pure rfl rfl (OpP.move rfl) ?_
  refine JL.pure rfl rfl (OpP.move rfl) ?_
  refine JL.decF rfl rfl (OpP.neq rfl rfl) (by omega) ?_
  refine JL.pure rfl rfl (OpP.assign rfl) ?_
  refine JL.nil ?_
  refine J.ret1 rfl rfl ?_
  exact ⟨rfl, rfl⟩
theorem compare_ok {w0 : World} {F : List HProp} {a b : Int} :
    FnO Try.prog w0 89 [.int .i64 a, .int .i64 b] F (fun r l' => r = .int .i64 (ordI a b) ∧ l' = F) := by
  refine FnO.intro (n := 20) Try.func89 rfl rfl rfl ?_
  refine J.seq ?_
  refine J.region ?_
  refine JL.pure rfl rfl (OpP.assign rfl) ?_
  refine JL.nil ?_
  refine J.seq ?_
  refine J.region ?_
  refine JL.pure rfl rfl (OpP.move rfl) ?_
  refine JL.step rfl rfl (OpW.call (first := []) (captured := []) inferInstance rfl rfl nan_ok) ?_; rintro r8 _ ⟨rfl, rfl⟩
  refine JL.pure rfl rfl (OpP.assign rfl) ?_
  refine JL.nil ?_
  refine J.seq ?_
  refine J.region ?_
  refine JL.pure rfl rfl (OpP.move rfl) ?_
  refine JL.step rfl rfl (OpW.call (first := []) (captured := []) inferInstance rfl rfl nan_ok) ?_; rintro r10 _ ⟨rfl, rfl⟩
  refine JL.pure rfl rfl (OpP.assign rfl) ?_
  refine JL.nil ?_
  refine J.seq ?_
  refine J.seq ?_
  refine J.region ?_
  refine JL.pure rfl rfl (OpP.move rfl) ?_
  refine JL.nil ?_
  refine J.condF rfl ?_
  refine J.skip ?_
  refine J.seq ?_
  refine J.seq ?_
  refine J.region ?_
  refine JL.pure rfl rfl (OpP.move rfl) ?_
  refine JL.nil ?_
  refine J.condF rfl ?_
  refine J.skip ?_
  refine J.seq ?_
  refine J.seq ?_
  refine J.region ?_
  refine JL.pure rfl rfl (OpP.move rfl) ?_
  refine JL.pure rfl rfl (OpP.move rfl) ?_
  refine JL.dec rfl rfl (OpP.lss rfl rfl) (fun h16 => ?_) (fun h16 => ?_)
  focus
    refine JL.nil ?_
    refine J.condT rfl ?_
    refine J.seq ?_
    refine J.region ?_
    refine JL.pure rfl rfl (OpP.assign rfl) ?_
    refine JL.nil ?_
    refine J.ret1 rfl rfl ?_
  rotate_left 1
  focus
    refine JL.nil ?_
    refine J.condF rfl ?_
    refine J.skip ?_
    refine J.seq ?_
    refine J.seq ?_
    refine J.region ?_
    refine JL.pure rfl rfl (OpP.move rfl) ?_
    refine JL.pure rfl rfl (OpP.move rfl) ?_
    refine JL.dec rfl rfl (OpP.gtr rfl rfl) (fun h19 => ?_) (fun h19 => ?_)
    focus
      refine JL.nil ?_
      refine J.condT rfl ?_
      refine J.seq ?_
      refine J.region ?_
      refine JL.pure rfl rfl (OpP.assign rfl) ?_
      refine JL.nil ?_
      refine J.ret1 rfl rfl ?_
    rotate_left 1
    focus
      refine JL.nil ?_
      refine J.condF rfl ?_
      refine J.skip ?_
      refine J.seq ?_
      refine J.region ?_
      refine JL.pure rfl rfl (OpP.assign rfl) ?_
      refine JL.nil ?_
      refine J.ret1 rfl rfl ?_
    rotate_left 1
  rotate_left 2
  all_goals refine ⟨congrArg (Value.int .i64) ?_, rfl⟩
  all_goals (unfold ordI; repeat' split) <;> omega
theorem compare64_ok {w0 : World} {F : List HProp} {a b : Int} :
    FnO Try.prog w0 90 [.int .i64 a, .int .i64 b] F (fun r l' => r = .int .i64 (ordI a b) ∧ l' = F) := by
  refine FnO.intro (n := 20) Try.func90 rfl rfl rfl ?_
  refine J.seq ?_
  refine J.region ?_
  refine JL.pure rfl rfl (OpP.assign rfl) ?_
  refine JL.nil ?_
  refine J.seq ?_
  refine J.region ?_
  refine JL.pure rfl rfl (OpP.move rfl) ?_
  refine JL.step rfl rfl (OpW.call (first := []) (captured := []) inferInstance rfl rfl nan64_ok) ?_; rintro r8 _ ⟨rfl, rfl⟩
  refine JL.pure rfl rfl (OpP.assign rfl) ?_
  refine JL.nil ?_
  refine J.seq ?_
  refine J.region ?_
  refine JL.pure rfl rfl (OpP.move rfl) ?_
  refine JL.step rfl rfl (OpW.call (first := []) (captured := []) inferInstance rfl rfl nan64_ok) ?_; rintro r10 _ ⟨rfl, rfl⟩
  refine JL.pure rfl rfl (OpP.assign rfl) ?_
  refine JL.nil ?_
  refine J.seq ?_
  refine J.seq ?_
  refine J.region ?_
  refine JL.pure rfl rfl (OpP.move rfl) ?_
  refine JL.nil ?_
  refine J.condF rfl ?_
  refine J.skip ?_
  refine J.seq ?_
  refine J.seq ?_
  refine J.region ?_
  refine JL.pure rfl rfl (OpP.move rfl) ?_
  refine JL.nil ?_
  refine J.condF rfl ?_
  refine J.skip ?_
  refine J.seq ?_
  refine J.seq ?_
  refine J.region ?_
  refine JL.pure rfl rfl (OpP.move rfl) ?_
  refine JL.pure rfl rfl (OpP.move rfl) ?_
  refine JL.dec rfl rfl (OpP.lss rfl rfl) (fun h16 => ?_) (fun h16 => ?_)
  focus
    refine JL.nil ?_
    refine J.condT rfl ?_
    refine J.seq ?_
    refine J.region ?_
    refine JL.pure rfl rfl (OpP.assign rfl) ?_
    refine JL.nil ?_
    refine J.ret1 rfl rfl ?_
  rotate_left 1
  focus
    refine JL.nil ?_
    refine J.condF rfl ?_
    refine J.skip ?_
    refine J.seq ?_
    refine J.seq ?_
    refine J.region ?_
    refine JL.pure rfl rfl (OpP.move rfl) ?_
    refine JL.pure rfl rfl (OpP.move rfl) ?_
    refine JL.dec rfl rfl (OpP.gtr rfl rfl) (fun h19 => ?_) (fun h19 => ?_)
    focus
      refine JL.nil ?_
      refine J.condT rfl ?_
      refine J.seq ?_
      refine J.region ?_
      refine JL.pure rfl rfl (OpP.assign rfl) ?_
      refine JL.nil ?_
      refine J.ret1 rfl rfl ?_
    rotate_left 1
    focus
      refine JL.nil ?_
      refine J.condF rfl ?_
      refine J.skip ?_
      refine J.seq ?_
      refine J.region ?_
      refine JL.pure rfl rfl (OpP.assign rfl) ?_
      refine JL.nil ?_
      refine J.ret1 rfl rfl ?_
    rotate_left 1
  rotate_left 2
  all_goals refine ⟨congrArg (Value.int .i64) ?_, rfl⟩
  all_goals (unfold ordI; repeat' split) <;> omega
/-- A function of no body that compares texts. -/
theorem cmpStr {w0 : World} {F : List HProp} {a b : List UInt8} :
    FnO Try.prog w0 104 [.string (strB a), .string (strB b)] F (fun r l' => r = .int .i64 (ordB a b) ∧ l' = F) := by
  have hfn : ∃ fn, Try.prog.funcs[105]? = some fn ∧ (fn.name == "runtime.NumGoroutine") = false ∧ fn.body.isNone = true ∧ Extern.findNext fn = none ∧ Extern.find fn = some Extern.BytealgCompare.compare := by
    have h : ((Try.prog.funcs[105]?).map fun fn => (fn.name == "runtime.NumGoroutine", fn.body.isNone, (Extern.findNext fn).isNone)) = some (false, true, true) := by kernel_rfl
    cases hf : Try.prog.funcs[105]? with
    | none => rw [hf] at h; cases h
    | some fn =>
      rw [hf, Option.map_some, Option.some.injEq, Prod.mk.injEq, Prod.mk.injEq] at h
      refine ⟨fn, rfl, h.1, h.2.1, by simpa using h.2.2, ?_⟩
      have h2 : (Try.prog.funcs[105]?).map (fun fn => Extern.find fn) = some (some Extern.BytealgCompare.compare) := by kernel_rfl
      rw [hf] at h2
      exact Option.some.inj h2
  obtain ⟨fn, h1, h2, h3, h4, h5⟩ := hfn
  refine FnO.intro (n := 8) Try.func104 rfl rfl rfl ?_
  refine J.seq ?_
  refine J.region ?_
  refine JL.pure rfl rfl (OpP.assign rfl) ?_
  refine JL.nil ?_
  refine J.seq ?_
  refine J.region ?_
  refine JL.pure rfl rfl (OpP.move rfl) ?_
  refine JL.pure rfl rfl (OpP.move rfl) ?_
  refine JL.pure rfl rfl (v := .int .i64 (ordB a b)) ⟨fun ρ hr w => ?_⟩ ?_
  · have hx : ρ (.tmp 5) = _ := hr (.tmp 5) (by simp [Op.operands, Call.operands]) (.string (strB a)) rfl
    have hy : ρ (.tmp 6) = _ := hr (.tmp 6) (by simp [Op.operands, Call.operands]) (.string (strB b)) rfl
    have hf : ρ (.func 105) = _ := hr (.func 105) (by simp [Op.operands, Call.operands]) (.func (.func 105) #[] #[]) rfl
    have hcall : (callFunc 105 #[.string (strB a), .string (strB b)]).run Try.prog w = .ok (.value (.int .i64 (ordB a b))) w := by
      rw [run_callFunc_extern h1 h2 h3 h4 h5, Lib.run_compareString, ordB_eq]
      simp [strB_data]
    simp only [execOp, resolve, hf, Deferred.ofValue, List.map_toArray]
    simp [invoke, hx, hy, hcall]
  · refine JL.pure rfl rfl (OpP.assign rfl) ?_
    refine JL.nil ?_
    refine J.ret1 rfl rfl ?_
    exact ⟨rfl, rfl⟩
theorem strCompare_ok {w0 : World} {F : List HProp} {a b : List UInt8} :
    FnO Try.prog w0 91 [.string (strB a), .string (strB b)] F (fun r l' => r = .int .i64 (ordB a b) ∧ l' = F) := by
  refine FnO.intro (n := 8) Try.func91 rfl rfl rfl ?_
  refine J.seq ?_
  refine J.region ?_
  refine JL.pure rfl rfl (OpP.assign rfl) ?_
  refine JL.nil ?_
  refine J.seq ?_
  refine J.region ?_
  refine JL.pure rfl rfl (OpP.move rfl) ?_
  refine JL.pure rfl rfl (OpP.move rfl) ?_
  refine JL.step rfl rfl (OpW.call (first := []) (captured := []) inferInstance rfl rfl cmpStr) ?_; rintro r7 _ ⟨rfl, rfl⟩
  refine JL.pure rfl rfl (OpP.assign rfl) ?_
  refine JL.nil ?_
  refine J.ret1 rfl rfl ?_
  exact ⟨rfl, rfl⟩
theorem or_ok {w0 : World} {F : List HProp} {a b d : Int} {g e c : Nat} :
    FnO Try.prog w0 88 [.slice (some ⟨g, 0, none⟩) 3 c] (row g e [.int .i64 a, .int .i64 b, .int .i64 d] :: F) (fun r l' => r = .int .i64 (if a ≠ 0 then a else if b ≠ 0 then b else d) ∧ l' = row g e [.int .i64 a, .int .i64 b, .int .i64 d] :: F) := by
  refine FnO.intro (n := 18) Try.func88 rfl rfl rfl ?_
  refine J.seq ?_
  refine J.region ?_
  refine JL.pure rfl rfl (OpP.assign rfl) ?_
  refine JL.nil ?_
  refine J.seq ?_
  refine J.region ?_
  refine JL.pure rfl rfl (OpP.assign rfl) ?_
  refine JL.nil ?_
  refine J.seq ?_
  refine J.seq ?_
  refine J.region ?_
  refine JL.pure rfl rfl (OpP.move rfl) ?_
  refine JL.pure rfl rfl (OpP.len rfl rfl) ?_
  refine JL.pure rfl rfl (OpP.move rfl) ?_
  refine JL.nil ?_
  refine J.block ?_
  refine J.loop ?_
  refine J.seq ?_
  refine J.region ?_
  refine JL.decT rfl rfl (OpP.lss rfl rfl) (by omega) ?_
  refine JL.nil ?_
  refine J.seq ?_
  refine J.condT rfl ?_
  refine J.skip ?_
  refine J.seq ?_
  refine J.block ?_
  refine J.seq ?_
  refine J.region ?_
  refine JL.pure rfl rfl (OpP.indexAddr rfl rfl (by omega) (by omega)) ?_
  refine JL.read rfl rfl (OpR.load1 rfl (Cell.row .head rfl)) ?_
  refine JL.pure rfl rfl (OpP.assign rfl) ?_
  refine JL.nil ?_
  refine J.seq ?_
  refine J.region ?_
  refine JL.pure rfl rfl (OpP.move rfl) ?_
  refine JL.pure rfl rfl (OpP.move rfl) ?_
  refine JL.dec rfl rfl (OpP.neq rfl rfl) (fun h14 => ?_) (fun h14 => ?_)
  focus
    refine JL.nil ?_
    refine J.condT rfl ?_
    refine J.seq ?_
    refine J.region ?_
    refine JL.pure rfl rfl (OpP.move rfl) ?_
    refine JL.pure rfl rfl (OpP.assign rfl) ?_
    refine JL.nil ?_
    refine J.ret1 rfl rfl ?_
  rotate_left 1
  focus
    refine JL.nil ?_
    refine J.condF rfl ?_
    refine J.skip ?_
    refine J.inBlock ?_
    refine J.region ?_
    refine JL.pure rfl rfl (OpP.addI rfl rfl (by omega) (by omega)) ?_
    refine JL.pure rfl rfl (OpP.move rfl) ?_
    refine JL.nil ?_
    refine J.inLoop ?_
    refine J.seq ?_
    refine J.region ?_
    refine JL.decT rfl rfl (OpP.lss rfl rfl) (by omega) ?_
    refine JL.nil ?_
    refine J.seq ?_
    refine J.condT rfl ?_
    refine J.skip ?_
    refine J.seq ?_
    refine J.block ?_
    refine J.seq ?_
    refine J.region ?_
    refine JL.pure rfl rfl (OpP.indexAddr rfl rfl (by omega) (by omega)) ?_
    refine JL.read rfl rfl (OpR.load1 rfl (Cell.row .head rfl)) ?_
    refine JL.pure rfl rfl (OpP.assign rfl) ?_
    refine JL.nil ?_
    refine J.seq ?_
    refine J.region ?_
    refine JL.pure rfl rfl (OpP.move rfl) ?_
    refine JL.pure rfl rfl (OpP.move rfl) ?_
    refine JL.dec rfl rfl (OpP.neq rfl rfl) (fun h14 => ?_) (fun h14 => ?_)
    focus
      refine JL.nil ?_
      refine J.condT rfl ?_
      refine J.seq ?_
      refine J.region ?_
      refine JL.pure rfl rfl (OpP.move rfl) ?_
      refine JL.pure rfl rfl (OpP.assign rfl) ?_
      refine JL.nil ?_
      refine J.ret1 rfl rfl ?_
    rotate_left 1
    focus
      refine JL.nil ?_
      refine J.condF rfl ?_
      refine J.skip ?_
      refine J.inBlock ?_
      refine J.region ?_
      refine JL.pure rfl rfl (OpP.addI rfl rfl (by omega) (by omega)) ?_
      refine JL.pure rfl rfl (OpP.move rfl) ?_
      refine JL.nil ?_
      refine J.inLoop ?_
      refine J.seq ?_
      refine J.region ?_
      refine JL.decT rfl rfl (OpP.lss rfl rfl) (by omega) ?_
      refine JL.nil ?_
      refine J.seq ?_
      refine J.condT rfl ?_
      refine J.skip ?_
      refine J.seq ?_
      refine J.block ?_
      refine J.seq ?_
      refine J.region ?_
      refine JL.pure rfl rfl (OpP.indexAddr rfl rfl (by omega) (by omega)) ?_
      refine JL.read rfl rfl (OpR.load1 rfl (Cell.row .head rfl)) ?_
      refine JL.pure rfl rfl (OpP.assign rfl) ?_
      refine JL.nil ?_
      refine J.seq ?_
      refine J.region ?_
      refine JL.pure rfl rfl (OpP.move rfl) ?_
      refine JL.pure rfl rfl (OpP.move rfl) ?_
      refine JL.dec rfl rfl (OpP.neq rfl rfl) (fun h14 => ?_) (fun h14 => ?_)
      focus
        refine JL.nil ?_
        refine J.condT rfl ?_
        refine J.seq ?_
        refine J.region ?_
        refine JL.pure rfl rfl (OpP.move rfl) ?_
        refine JL.pure rfl rfl (OpP.assign rfl) ?_
        refine JL.nil ?_
        refine J.ret1 rfl rfl ?_
      rotate_left 1
      focus
        refine JL.nil ?_
        refine J.condF rfl ?_
        refine J.skip ?_
        refine J.inBlock ?_
        refine J.region ?_
        refine JL.pure rfl rfl (OpP.addI rfl rfl (by omega) (by omega)) ?_
        refine JL.pure rfl rfl (OpP.move rfl) ?_
        refine JL.nil ?_
        refine J.inLoop ?_
        refine J.seq ?_
        refine J.region ?_
        refine JL.decF rfl rfl (OpP.lss rfl rfl) (by omega) ?_
        refine JL.nil ?_
        refine J.seq ?_
        refine J.condF rfl ?_
        refine J.exit rfl ?_
        refine J.seq ?_
        refine J.region ?_
        refine JL.pure rfl rfl (OpP.move rfl) ?_
        refine JL.pure rfl rfl (OpP.assign rfl) ?_
        refine JL.nil ?_
        refine J.ret1 rfl rfl ?_
      rotate_left 1
    rotate_left 2
  rotate_left 3
  all_goals refine ⟨congrArg (Value.int .i64) ?_, rfl⟩
  all_goals (repeat' split) <;> omega
end Go.Proofs.E

-- seat e
namespace Go.Proofs.E
open Go Go.Gp Go.RowKit

theorem cmpf_ok {w0 : World} {F : List HProp} {a a2 : Option Addr} {c c2 : Nat} {v : Value} :
    FnO Try.prog w0 92 [.slice a 0 c, .slice a2 0 c2, v] F (fun r l' => r = .int .i64 0 ∧ l' = F) := by
  refine FnO.intro (n := 39) Try.func92 rfl rfl rfl ?_
  refine J.seq ?_
  refine J.region ?_
  refine JL.pure rfl rfl (OpP.assign rfl) ?_
  refine JL.nil ?_
  refine J.seq ?_
  refine J.seq ?_
  refine J.region ?_
  refine JL.pure rfl rfl (OpP.move rfl) ?_
  refine JL.pure rfl rfl (OpP.len rfl rfl) ?_
  refine JL.pure rfl rfl (OpP.move rfl) ?_
  refine JL.nil ?_
  refine J.block ?_
  refine J.loop ?_
  refine J.seq ?_
  refine J.region ?_
  refine JL.decF rfl rfl (OpP.lss rfl rfl) (by omega) ?_
  refine JL.nil ?_
  refine J.seq ?_
  refine J.condF rfl ?_
  refine J.exit rfl ?_
  refine J.seq ?_
  refine J.seq ?_
  refine J.region ?_
  refine JL.pure rfl rfl (OpP.move rfl) ?_
  refine JL.pure rfl rfl (OpP.len rfl rfl) ?_
  refine JL.pure rfl rfl (OpP.move rfl) ?_
  refine JL.pure rfl rfl (OpP.len rfl rfl) ?_
  refine JL.decF rfl rfl (OpP.lss rfl rfl) (by omega) ?_
  refine JL.nil ?_
  refine J.condF rfl ?_
  refine J.skip ?_
  refine J.seq ?_
  refine J.region ?_
  refine JL.pure rfl rfl (OpP.assign rfl) ?_
  refine JL.nil ?_
  refine J.ret1 rfl rfl ?_
  exact ⟨rfl, rfl⟩
/-- The order of two that have no elements. -/
def ordV (k i : Int) (s : List UInt8) (k' i' : Int) (s' : List UInt8) : Int := if ordI k k' ≠ 0 then ordI k k' else if ordI i i' ≠ 0 then ordI i i' else ordB s s'
theorem order_ok {w0 : World} {F : List HProp} {k i k' i' : Int} {s s' : List UInt8} {a a2 : Option Addr} {c c2 : Nat} :
    FnO Try.prog w0 69 [.agg (vcl k i s (.slice a 0 c)).toArray, .agg (vcl k' i' s' (.slice a2 0 c2)).toArray] F (fun r l' => r = .int .i64 (ordV k i s k' i' s') ∧ l' = F) := by
  refine FnO.weak ?_
  refine FnO.intro (n := 31) Try.func69 rfl rfl rfl ?_
  refine J.seq ?_
  refine J.region ?_
  refine JL.mem rfl rfl (OpM.box rfl rfl) ?_; rintro _ _ ⟨b2, rfl, rfl⟩
  refine JL.mem rfl rfl (OpM.box rfl rfl) ?_; rintro _ _ ⟨b3, rfl, rfl⟩
  refine JL.pure rfl rfl (OpP.assign rfl) ?_
  refine JL.nil ?_
  refine J.seq ?_
  refine J.seq ?_
  refine J.regionD [1, 3, 6, 8, 11, 13] (by kernel_rfl) ?_
  refine DL.pure (i := 0) (by kernel_rfl) (by kernel_rfl) rfl rfl rfl (OpP.fieldAddr rfl) ?_
  refine DL.read (i := 1) (by kernel_rfl) (by kernel_rfl) rfl rfl rfl (fun _ h => h) (OpR.load1 rfl (Cell.row (.tail .head) rfl)) ?_
  refine DL.pure (i := 2) (by kernel_rfl) (by kernel_rfl) rfl rfl rfl (OpP.fieldAddr rfl) ?_
  refine DL.read (i := 3) (by kernel_rfl) (by kernel_rfl) rfl rfl rfl (fun _ h => h) (OpR.load1 rfl (Cell.row .head rfl)) ?_
  refine DL.pure (i := 5) (by kernel_rfl) (by kernel_rfl) rfl rfl rfl (OpP.fieldAddr rfl) ?_
  refine DL.read (i := 6) (by kernel_rfl) (by kernel_rfl) rfl rfl rfl (fun _ h => h) (OpR.load1 rfl (Cell.row (.tail .head) rfl)) ?_
  refine DL.pure (i := 7) (by kernel_rfl) (by kernel_rfl) rfl rfl rfl (OpP.fieldAddr rfl) ?_
  refine DL.read (i := 8) (by kernel_rfl) (by kernel_rfl) rfl rfl rfl (fun _ h => h) (OpR.load1 rfl (Cell.row .head rfl)) ?_
  refine DL.pure (i := 10) (by kernel_rfl) (by kernel_rfl) rfl rfl rfl (OpP.fieldAddr rfl) ?_
  refine DL.read (i := 11) (by kernel_rfl) (by kernel_rfl) rfl rfl rfl (fun _ h => h) (OpR.load1 rfl (Cell.row (.tail .head) rfl)) ?_
  refine DL.pure (i := 12) (by kernel_rfl) (by kernel_rfl) rfl rfl rfl (OpP.fieldAddr rfl) ?_
  refine DL.read (i := 13) (by kernel_rfl) (by kernel_rfl) rfl rfl rfl (fun _ h => h) (OpR.load1 rfl (Cell.row .head rfl)) ?_
  refine DL.only (i := 4) (by kernel_rfl) ?_
  refine DL1.stepK rfl rfl rfl (by exact OpW.call (first := []) (captured := []) inferInstance rfl rfl compare_ok) (by rintro _ _ ⟨rfl, rfl⟩ _ h; exact Own.pick (pre := [_, _]) [0, 1] rfl h) ?_; rintro r10 _ ⟨rfl, rfl⟩
  refine DL.only (i := 9) (by kernel_rfl) ?_
  refine DL1.stepK rfl rfl rfl (by exact OpW.call (first := []) (captured := []) inferInstance rfl rfl compare64_ok) (by rintro _ _ ⟨rfl, rfl⟩ _ h; exact Own.pick (pre := [_, _]) [0, 1] rfl h) ?_; rintro r15 _ ⟨rfl, rfl⟩
  refine DL.only (i := 14) (by kernel_rfl) ?_
  refine DL1.stepF rfl rfl rfl (by kernel_rfl) (by exact OpW.call (first := []) (captured := []) inferInstance rfl rfl strCompare_ok) ?_; rintro r20 _ ⟨rfl, rfl⟩
  refine DL.only (i := 15) (by kernel_rfl) ?_
  refine DL1.stepF rfl rfl rfl (by kernel_rfl) (OpM.w (by apply OpM.buildSlice (by rfl) rfl (by rfl); (repeat (first | exact Fills.nil | (apply Fills.cons rfl rfl rfl; (case' hs => ((repeat (first | exact Spl.nil | apply Spl.here | apply Spl.there)); done))))))) ?_; rintro _ _ ⟨b21, rfl, rfl⟩
  refine DL.only (i := 16) (by kernel_rfl) ?_
  refine DL1.stepF rfl rfl rfl (by kernel_rfl) (by exact OpW.call (first := []) (captured := []) inferInstance rfl rfl or_ok) ?_; rintro r22 _ ⟨rfl, rfl⟩
  refine DL.pure (i := 17) (by kernel_rfl) (by kernel_rfl) rfl rfl rfl (OpP.assign rfl) ?_
  refine DL.done (by kernel_rfl) ?_
  refine J.seq ?_
  refine J.region ?_
  refine JL.pure rfl rfl (OpP.move rfl) ?_
  refine JL.dec rfl rfl (OpP.neq rfl rfl) (fun h24 => ?_) (fun h24 => ?_)
  focus
    refine JL.nil ?_
    refine J.condT rfl ?_
    refine J.seq ?_
    refine J.region ?_
    refine JL.pure rfl rfl (OpP.move rfl) ?_
    refine JL.pure rfl rfl (OpP.assign rfl) ?_
    refine JL.nil ?_
    refine J.ret1 rfl rfl ?_
  rotate_left 1
  focus
    refine JL.nil ?_
    refine J.condF rfl ?_
    refine J.skip ?_
    refine J.seq ?_
    refine J.region ?_
    refine JL.pure rfl rfl (OpP.fieldAddr rfl) ?_
    refine JL.read rfl rfl (OpR.load1 rfl (Cell.row (.tail (.tail .head)) rfl)) ?_
    refine JL.pure rfl rfl (OpP.fieldAddr rfl) ?_
    refine JL.read rfl rfl (OpR.load1 rfl (Cell.row (.tail .head) rfl)) ?_
    refine JL.step rfl rfl (OpW.call (first := []) (captured := []) inferInstance rfl rfl cmpf_ok) ?_; rintro r30 _ ⟨rfl, rfl⟩
    refine JL.pure rfl rfl (OpP.assign rfl) ?_
    refine JL.nil ?_
    refine J.ret1 rfl rfl ?_
  rotate_left 1
  · exact ⟨_, ⟨rfl, rfl⟩, fun _ h => h.tail.tail.tail⟩
  · exact ⟨_, ⟨congrArg (Value.int .i64) (Decidable.not_not.1 h24).symm, rfl⟩, fun _ h => h.tail.tail.tail⟩
theorem strB_get {s : List UInt8} {i : Nat} {x : UInt8} (h : s[i]? = some x) : (strB s)[((i : Nat) : Int).toNat]? = some x := by
  obtain ⟨h1, h2⟩ := List.getElem?_eq_some_iff.1 h
  show (strB s)[i]? = some x
  have h3 : i < (strB s).size := by rw [strB_size]; exact h1
  rw [getElem?_pos (strB s) i h3]
  exact congrArg some h2
theorem texts_ok {w0 : World} {F : List HProp} {s t : List UInt8} (hs : s.length ≤ 1000000000) (ht : t.length ≤ 1000000000) :
    FnO Try.prog w0 85 [.string (strB s), .string (strB t)] F (fun r l' => r = .int .i64 (ordB s t) ∧ l' = F) := by
  refine FnO.intro (n := 42) Try.func85 rfl rfl rfl ?_
  have es := strB_size s
  have et := strB_size t
  refine J.seq ?_
  refine J.region ?_
  refine JL.pure rfl rfl (OpP.assign rfl) ?_
  refine JL.nil ?_
  refine J.seq ?_
  refine J.seq ?_
  refine J.region ?_
  refine JL.pure rfl rfl (OpP.assign rfl) ?_
  refine JL.nil ?_
  refine J.block ?_
  refine J.loopI (fun i : Nat => s.length - i) (fun i => i ≤ s.length ∧ i ≤ t.length ∧ ordB s t = ordB (s.drop i) (t.drop i)) (fun i => [(5, .int .i64 (i : Nat)), (0, .string (strB s)), (1, .string (strB t))])
    (fun _ => F) 0 ⟨Nat.zero_le _, Nat.zero_le _, rfl⟩ (by repeat (first | exact SubEnv.nil | refine SubEnv.cons (by first | rfl | exact congrArg (fun z => some (Value.int .i64 z)) (by omega) | (simp; done)) ?_)) (fun _ h => h) (fun i hi back => ?_)
  dsimp only at hi back ⊢
  obtain ⟨hi1, hi2, hi3⟩ := hi
  by_cases h1 : i < s.length
  · by_cases h2 : i < t.length
    · have d1 := List.drop_eq_getElem_cons h1
      have d2 := List.drop_eq_getElem_cons h2
      have g1 : s[i]? = some s[i] := List.getElem?_eq_getElem h1
      have g2 : t[i]? = some t[i] := List.getElem?_eq_getElem h2
      generalize s[i] = x at d1 g1
      generalize t[i] = y at d2 g2
      rw [d1, d2, ordB] at hi3
      have g3 := strB_get g1
      have g4 := strB_get g2
      refine J.seq ?_
      refine J.seq ?_
      refine J.region ?_
      refine JL.pure rfl rfl (OpP.move rfl) ?_
      refine JL.pure rfl rfl (OpP.move rfl) ?_
      refine JL.pure rfl rfl (OpP.lenStr rfl rfl) ?_
      refine JL.decT rfl rfl (OpP.lss rfl rfl) (by omega) ?_
      refine JL.pure rfl rfl (OpP.move rfl) ?_
      refine JL.pure rfl rfl (OpP.move rfl) ?_
      refine JL.pure rfl rfl (OpP.move rfl) ?_
      refine JL.pure rfl rfl (OpP.lenStr rfl rfl) ?_
      refine JL.decT rfl rfl (OpP.lss rfl rfl) (by omega) ?_
      refine JL.pure rfl rfl (OpP.pickT rfl rfl) ?_
      refine JL.nil ?_
      refine J.condT rfl ?_
      refine J.skip ?_
      refine J.seq ?_
      refine J.block ?_
      refine J.seq ?_
      refine J.seq ?_
      refine J.regionD [] (by kernel_rfl) ?_
      refine DL.pure (i := 0) (by kernel_rfl) (by kernel_rfl) rfl rfl rfl (OpP.move rfl) ?_
      refine DL.pure (i := 1) (by kernel_rfl) (by kernel_rfl) rfl rfl rfl (OpP.move rfl) ?_
      refine DL.pure (i := 2) (by kernel_rfl) (by kernel_rfl) rfl rfl rfl (OpP.indexStr rfl rfl (by omega) (by assumption)) ?_
      refine DL.pure (i := 3) (by kernel_rfl) (by kernel_rfl) rfl rfl rfl (OpP.move rfl) ?_
      refine DL.pure (i := 4) (by kernel_rfl) (by kernel_rfl) rfl rfl rfl (OpP.move rfl) ?_
      refine DL.pure (i := 5) (by kernel_rfl) (by kernel_rfl) rfl rfl rfl (OpP.indexStr rfl rfl (by omega) (by assumption)) ?_
      refine DL.dec (i := 6) (by kernel_rfl) (by kernel_rfl) rfl rfl rfl (OpP.lss rfl rfl) (fun h24 => ?_) (fun h24 => ?_)
      focus
        refine DL.done (by kernel_rfl) ?_
        refine J.condT rfl ?_
        refine J.seq ?_
        refine J.region ?_
        refine JL.pure rfl rfl (OpP.assign rfl) ?_
        refine JL.nil ?_
        refine J.ret1 rfl rfl ?_
      rotate_left 1
      focus
        refine DL.done (by kernel_rfl) ?_
        refine J.condF rfl ?_
        refine J.skip ?_
        refine J.seq ?_
        refine J.regionD [] (by kernel_rfl) ?_
        refine DL.pure (i := 0) (by kernel_rfl) (by kernel_rfl) rfl rfl rfl (OpP.move rfl) ?_
        refine DL.pure (i := 1) (by kernel_rfl) (by kernel_rfl) rfl rfl rfl (OpP.move rfl) ?_
        refine DL.pure (i := 2) (by kernel_rfl) (by kernel_rfl) rfl rfl rfl (OpP.indexStr rfl rfl (by omega) (by assumption)) ?_
        refine DL.pure (i := 3) (by kernel_rfl) (by kernel_rfl) rfl rfl rfl (OpP.move rfl) ?_
        refine DL.pure (i := 4) (by kernel_rfl) (by kernel_rfl) rfl rfl rfl (OpP.move rfl) ?_
        refine DL.pure (i := 5) (by kernel_rfl) (by kernel_rfl) rfl rfl rfl (OpP.indexStr rfl rfl (by omega) (by assumption)) ?_
        refine DL.dec (i := 6) (by kernel_rfl) (by kernel_rfl) rfl rfl rfl (OpP.gtr rfl rfl) (fun h31 => ?_) (fun h31 => ?_)
        focus
          refine DL.done (by kernel_rfl) ?_
          refine J.condT rfl ?_
          refine J.seq ?_
          refine J.region ?_
          refine JL.pure rfl rfl (OpP.assign rfl) ?_
          refine JL.nil ?_
          refine J.ret1 rfl rfl ?_
        rotate_left 1
        focus
          refine DL.done (by kernel_rfl) ?_
          refine J.condF rfl ?_
          refine J.skip ?_
          refine J.inBlock ?_
          refine J.region ?_
          refine JL.pure rfl rfl (OpP.move rfl) ?_
          refine JL.pure rfl rfl (OpP.addI rfl rfl (by omega) (by omega)) ?_
          refine JL.pure rfl rfl (OpP.assign rfl) ?_
          refine JL.nil ?_
        rotate_left 1
      rotate_left 2
      · exact ⟨congrArg (Value.int .i64) (by rw [hi3, if_pos (UInt8.lt_iff_toNat_lt.2 (by omega))]), rfl⟩
      · exact ⟨congrArg (Value.int .i64) (by rw [hi3, if_neg (fun h => by have := UInt8.lt_iff_toNat_lt.1 h; omega), if_pos (UInt8.lt_iff_toNat_lt.2 (by omega))]), rfl⟩
      · refine back (i + 1) ⟨by omega, by omega, ?_⟩ (by omega) (by repeat (first | exact SubEnv.nil | refine SubEnv.cons (by first | rfl | exact congrArg (fun z => some (Value.int .i64 z)) (by omega) | (simp; done)) ?_)) (fun _ h => h)
        rw [hi3, if_neg (fun h => by have := UInt8.lt_iff_toNat_lt.1 h; omega), if_neg (fun h => by have := UInt8.lt_iff_toNat_lt.1 h; omega)]
    · have d1 := List.drop_eq_getElem_cons h1
      have d2 : t.drop i = [] := List.drop_eq_nil_of_le (by omega)
      rw [d1, d2, ordB] at hi3
      refine J.seq ?_
      refine J.seq ?_
      refine J.region ?_
      refine JL.pure rfl rfl (OpP.move rfl) ?_
      refine JL.pure rfl rfl (OpP.move rfl) ?_
      refine JL.pure rfl rfl (OpP.lenStr rfl rfl) ?_
      refine JL.decT rfl rfl (OpP.lss rfl rfl) (by omega) ?_
      refine JL.pure rfl rfl (OpP.move rfl) ?_
      refine JL.pure rfl rfl (OpP.move rfl) ?_
      refine JL.pure rfl rfl (OpP.move rfl) ?_
      refine JL.pure rfl rfl (OpP.lenStr rfl rfl) ?_
      refine JL.decF rfl rfl (OpP.lss rfl rfl) (by omega) ?_
      refine JL.pure rfl rfl (OpP.pickT rfl rfl) ?_
      refine JL.nil ?_
      refine J.condF rfl ?_
      refine J.exit rfl ?_
      refine J.seq ?_
      refine J.seq ?_
      refine J.region ?_
      refine JL.pure rfl rfl (OpP.move rfl) ?_
      refine JL.pure rfl rfl (OpP.lenStr rfl rfl) ?_
      refine JL.pure rfl rfl (OpP.move rfl) ?_
      refine JL.pure rfl rfl (OpP.lenStr rfl rfl) ?_
      refine JL.decF rfl rfl (OpP.lss rfl rfl) (by omega) ?_
      refine JL.nil ?_
      refine J.condF rfl ?_
      refine J.skip ?_
      refine J.seq ?_
      refine J.seq ?_
      refine J.region ?_
      refine JL.pure rfl rfl (OpP.move rfl) ?_
      refine JL.pure rfl rfl (OpP.lenStr rfl rfl) ?_
      refine JL.pure rfl rfl (OpP.move rfl) ?_
      refine JL.pure rfl rfl (OpP.lenStr rfl rfl) ?_
      refine JL.decT rfl rfl (OpP.gtr rfl rfl) (by omega) ?_
      refine JL.nil ?_
      refine J.condT rfl ?_
      refine J.seq ?_
      refine J.region ?_
      refine JL.pure rfl rfl (OpP.assign rfl) ?_
      refine JL.nil ?_
      refine J.ret1 rfl rfl ?_
      exact ⟨congrArg (Value.int .i64) hi3.symm, rfl⟩
  · by_cases h2 : i < t.length
    · have d2 := List.drop_eq_getElem_cons h2
      have d1 : s.drop i = [] := List.drop_eq_nil_of_le (by omega)
      rw [d1, d2, ordB] at hi3
      refine J.seq ?_
      refine J.seq ?_
      refine J.region ?_
      refine JL.pure rfl rfl (OpP.move rfl) ?_
      refine JL.pure rfl rfl (OpP.move rfl) ?_
      refine JL.pure rfl rfl (OpP.lenStr rfl rfl) ?_
      refine JL.decF rfl rfl (OpP.lss rfl rfl) (by omega) ?_
      refine JL.pure rfl rfl (OpP.move rfl) ?_
      refine JL.skip rfl rfl ?_
      refine JL.skip rfl rfl ?_
      refine JL.skip rfl rfl ?_
      refine JL.skip rfl rfl ?_
      refine JL.pure rfl rfl (OpP.pickF rfl rfl) ?_
      refine JL.nil ?_
      refine J.condF rfl ?_
      refine J.exit rfl ?_
      refine J.seq ?_
      refine J.seq ?_
      refine J.region ?_
      refine JL.pure rfl rfl (OpP.move rfl) ?_
      refine JL.pure rfl rfl (OpP.lenStr rfl rfl) ?_
      refine JL.pure rfl rfl (OpP.move rfl) ?_
      refine JL.pure rfl rfl (OpP.lenStr rfl rfl) ?_
      refine JL.decT rfl rfl (OpP.lss rfl rfl) (by omega) ?_
      refine JL.nil ?_
      refine J.condT rfl ?_
      refine J.seq ?_
      refine J.region ?_
      refine JL.pure rfl rfl (OpP.assign rfl) ?_
      refine JL.nil ?_
      refine J.ret1 rfl rfl ?_
      exact ⟨congrArg (Value.int .i64) hi3.symm, rfl⟩
    · have d1 : s.drop i = [] := List.drop_eq_nil_of_le (by omega)
      have d2 : t.drop i = [] := List.drop_eq_nil_of_le (by omega)
      rw [d1, d2, ordB] at hi3
      refine J.seq ?_
      refine J.seq ?_
      refine J.region ?_
      refine JL.pure rfl rfl (OpP.move rfl) ?_
      refine JL.pure rfl rfl (OpP.move rfl) ?_
      refine JL.pure rfl rfl (OpP.lenStr rfl rfl) ?_
      refine JL.decF rfl rfl (OpP.lss rfl rfl) (by omega) ?_
      refine JL.pure rfl rfl (OpP.move rfl) ?_
      refine JL.skip rfl rfl ?_
      refine JL.skip rfl rfl ?_
      refine JL.skip rfl rfl ?_
      refine JL.skip rfl rfl ?_
      refine JL.pure rfl rfl (OpP.pickF rfl rfl) ?_
      refine JL.nil ?_
      refine J.condF rfl ?_
      refine J.exit rfl ?_
      refine J.seq ?_
      refine J.seq ?_
      refine J.region ?_
      refine JL.pure rfl rfl (OpP.move rfl) ?_
      refine JL.pure rfl rfl (OpP.lenStr rfl rfl) ?_
      refine JL.pure rfl rfl (OpP.move rfl) ?_
      refine JL.pure rfl rfl (OpP.lenStr rfl rfl) ?_
      refine JL.decF rfl rfl (OpP.lss rfl rfl) (by omega) ?_
      refine JL.nil ?_
      refine J.condF rfl ?_
      refine J.skip ?_
      refine J.seq ?_
      refine J.seq ?_
      refine J.region ?_
      refine JL.pure rfl rfl (OpP.move rfl) ?_
      refine JL.pure rfl rfl (OpP.lenStr rfl rfl) ?_
      refine JL.pure rfl rfl (OpP.move rfl) ?_
      refine JL.pure rfl rfl (OpP.lenStr rfl rfl) ?_
      refine JL.decF rfl rfl (OpP.gtr rfl rfl) (by omega) ?_
      refine JL.nil ?_
      refine J.condF rfl ?_
      refine J.skip ?_
      refine J.seq ?_
      refine J.region ?_
      refine JL.pure rfl rfl (OpP.assign rfl) ?_
      refine JL.nil ?_
      refine J.ret1 rfl rfl ?_
      exact ⟨congrArg (Value.int .i64) hi3.symm, rfl⟩
/-- The order of two that are no bags, by the document. -/
def ordS (k i : Int) (s : List UInt8) (k' i' : Int) (s' : List UInt8) : Int := if k ≠ k' then ordI k k' else if k = 3 then ordB s s' else ordI i i'
theorem single_ok {w0 : World} {F : List HProp} {k i k' i' : Int} {s s' : List UInt8} {v v' : Value} (hs : s.length ≤ 1000000000) (ht : s'.length ≤ 1000000000) :
    FnO Try.prog w0 57 [.agg (vcl k i s v).toArray, .agg (vcl k' i' s' v').toArray] F (fun r l' => r = .int .i64 (ordS k i s k' i' s') ∧ l' = F) := by
  refine FnO.weak ?_
  refine FnO.intro (n := 28) Try.func57 rfl rfl rfl ?_
  refine J.seq ?_
  refine J.region ?_
  refine JL.mem rfl rfl (OpM.box rfl rfl) ?_; rintro _ _ ⟨b2, rfl, rfl⟩
  refine JL.mem rfl rfl (OpM.box rfl rfl) ?_; rintro _ _ ⟨b3, rfl, rfl⟩
  refine JL.pure rfl rfl (OpP.assign rfl) ?_
  refine JL.nil ?_
  refine J.seq ?_
  refine J.seq ?_
  refine J.region ?_
  refine JL.pure rfl rfl (OpP.fieldAddr rfl) ?_
  refine JL.read rfl rfl (OpR.load1 rfl (Cell.row (.tail .head) rfl)) ?_
  refine JL.pure rfl rfl (OpP.fieldAddr rfl) ?_
  refine JL.read rfl rfl (OpR.load1 rfl (Cell.row .head rfl)) ?_
  refine JL.dec rfl rfl (OpP.neq rfl rfl) (fun h9 => ?_) (fun h9 => ?_)
  focus
    refine JL.nil ?_
    refine J.condT rfl ?_
    refine J.seq ?_
    refine J.region ?_
    refine JL.pure rfl rfl (OpP.fieldAddr rfl) ?_
    refine JL.read rfl rfl (OpR.load1 rfl (Cell.row (.tail .head) rfl)) ?_
    refine JL.pure rfl rfl (OpP.fieldAddr rfl) ?_
    refine JL.read rfl rfl (OpR.load1 rfl (Cell.row .head rfl)) ?_
    refine JL.step rfl rfl (OpW.call (first := []) (captured := []) inferInstance rfl rfl numbers_ok) ?_; rintro r14 _ ⟨rfl, rfl⟩
    refine JL.pure rfl rfl (OpP.assign rfl) ?_
    refine JL.nil ?_
    refine J.ret1 rfl rfl ?_
  rotate_left 1
  focus
    refine JL.nil ?_
    refine J.condF rfl ?_
    refine J.skip ?_
    refine J.seq ?_
    refine J.seq ?_
    refine J.region ?_
    refine JL.pure rfl rfl (OpP.fieldAddr rfl) ?_
    refine JL.read rfl rfl (OpR.load1 rfl (Cell.row (.tail .head) rfl)) ?_
    refine JL.dec rfl rfl (OpP.eql rfl rfl) (fun h17 => ?_) (fun h17 => ?_)
    focus
      refine JL.nil ?_
      refine J.condT rfl ?_
      refine J.seq ?_
      refine J.region ?_
      refine JL.pure rfl rfl (OpP.fieldAddr rfl) ?_
      refine JL.read rfl rfl (OpR.load1 rfl (Cell.row (.tail .head) rfl)) ?_
      refine JL.pure rfl rfl (OpP.fieldAddr rfl) ?_
      refine JL.read rfl rfl (OpR.load1 rfl (Cell.row .head rfl)) ?_
      refine JL.step rfl rfl (OpW.call (first := []) (captured := []) inferInstance rfl rfl (texts_ok hs ht)) ?_; rintro r22 _ ⟨rfl, rfl⟩
      refine JL.pure rfl rfl (OpP.assign rfl) ?_
      refine JL.nil ?_
      refine J.ret1 rfl rfl ?_
    rotate_left 1
    focus
      refine JL.nil ?_
      refine J.condF rfl ?_
      refine J.skip ?_
      refine J.seq ?_
      refine J.region ?_
      refine JL.pure rfl rfl (OpP.fieldAddr rfl) ?_
      refine JL.read rfl rfl (OpR.load1 rfl (Cell.row (.tail .head) rfl)) ?_
      refine JL.pure rfl rfl (OpP.fieldAddr rfl) ?_
      refine JL.read rfl rfl (OpR.load1 rfl (Cell.row .head rfl)) ?_
      refine JL.step rfl rfl (OpW.call (first := []) (captured := []) inferInstance rfl rfl numbers_ok) ?_; rintro r27 _ ⟨rfl, rfl⟩
      refine JL.pure rfl rfl (OpP.assign rfl) ?_
      refine JL.nil ?_
      refine J.ret1 rfl rfl ?_
    rotate_left 1
  rotate_left 2
  all_goals refine ⟨_, ⟨congrArg (Value.int .i64) ?_, rfl⟩, fun _ h => h.tail.tail⟩
  all_goals
    unfold ordS
    split <;> (first | rfl | (split <;> first | rfl | omega) | omega)
end Go.Proofs.E

-- seat e
namespace Go.Proofs.E
open Go Go.Gp Go.RowKit

/-- A value in a bag. -/
structure El where
  k : Int
  i : Int
  s : List UInt8
  a : Option Addr
  n : Nat
  c : Nat
abbrev ecl (e : El) : List Value := vcl e.k e.i e.s (.slice e.a e.n e.c)
/-- What an element is from outside. -/
def El.ok (e : El) : Prop := e.s.length ≤ 1000000000
abbrev PlainE (e : El) : Prop := Plain e.k e.i e.s e.n
/-- An element behind another one. -/
def Behind (p e : El) : Prop := ordS p.k p.i p.s e.k e.i e.s < 0
def Good (xs : List El) (j : Nat) (e : El) : Prop := PlainE e ∧ e.k ≠ 0 ∧ (∀ e0, xs[0]? = some e0 → e.k = e0.k) ∧ ∀ p, 0 < j → xs[j - 1]? = some p → Behind p e
def FormedP (k i : Int) (s : List UInt8) (xs : List El) : Prop := if k ≠ 5 then Plain k i s xs.length else i = 0 ∧ s.length = 0 ∧ xs.length ≤ 16 ∧ ∀ j e, xs[j]? = some e → Good xs j e
theorem nd {p : Prop} [Decidable p] (h : (!decide p) = false) : p := of_decide_eq_true (by simpa using h)
theorem nd' {p : Prop} [Decidable p] (h : (!decide p) = true) : ¬ p := of_decide_eq_false (by simpa using h)
theorem order_ok' {w0 : World} {F : List HProp} {k i k' i' : Int} {s s' : List UInt8} {a a2 : Option Addr} {c c2 n n2 : Nat} (h1 : n = 0) (h2 : (!decide (Plain k' i' s' n2)) = false) :
    FnO Try.prog w0 69 [.agg (vcl k i s (.slice a n c)).toArray, .agg (vcl k' i' s' (.slice a2 n2 c2)).toArray] F (fun r l' => r = .int .i64 (ordV k i s k' i' s') ∧ l' = F) := by
  have h3 : n2 = 0 := (nd h2).1
  subst h1 h3; exact order_ok
/-- Of the same kind, and both formed, the two orders are one. -/
theorem ord_same {k i i' : Int} {s s' : List UInt8} {n n' : Nat} (h1 : Plain k i s n) (h2 : Plain k i' s' n') : ordV k i s k i' s' = ordS k i s k i' s' := by
  have e0 : ∀ a : Int, ordI a a = 0 := fun a => by unfold ordI; omega
  simp only [ordV, ordS, e0, ne_eq, not_true_eq_false, if_false]
  by_cases hk : k = 3
  · obtain rfl : i = 0 := by omega
    obtain rfl : i' = 0 := by omega
    simp only [hk, e0, if_true, not_true_eq_false, if_false]
  · have e1 : s = [] := List.eq_nil_of_length_eq_zero (by omega)
    have e2 : s' = [] := List.eq_nil_of_length_eq_zero (by omega)
    subst e1 e2
    rw [if_neg hk]
    by_cases h : ordI i i' = 0
    · rw [if_neg (by simp [h]), h]; rfl
    · rw [if_pos h]
theorem formed_ok {w0 : World} {F : List HProp} {k i : Int} {s : List UInt8} {a : Option Addr} {c : Nat} {xs : List El} (hx : ∀ e ∈ xs, e.ok) (hn : xs.length ≤ 9223372036854775807) (hr : RdO w0 F (.slice a xs.length c) xs.length (xs.flatMap ecl)) :
    FnO Try.prog w0 53 [.agg (vcl k i s (.slice a xs.length c)).toArray] F (fun r l' => ∃ b, r = .bool b ∧ l' = F ∧ (b = true ↔ FormedP k i s xs)) := by
  have hlen : ∀ e ∈ xs, (ecl e).length = 4 := fun _ _ => rfl
  refine FnO.rdF (fun _ h => h) hr fun hr1 => ?_
  refine FnO.weak ?_
  refine FnO.intro (n := 66) Try.func53 rfl rfl rfl ?_
  refine J.seq ?_
  refine J.region ?_
  refine JL.mem rfl rfl (OpM.box rfl rfl) ?_; rintro _ _ ⟨b1, rfl, rfl⟩
  refine JL.pure rfl rfl (OpP.assign rfl) ?_
  refine JL.nil ?_
  refine J.seq ?_
  refine J.seq ?_
  refine J.region ?_
  refine JL.pure rfl rfl (OpP.fieldAddr rfl) ?_
  refine JL.read rfl rfl (OpR.load1 rfl (Cell.row .head rfl)) ?_
  refine JL.dec rfl rfl (OpP.neq rfl rfl) (fun h7 => ?_) (fun h7 => ?_)
  focus
    refine JL.nil ?_
    refine J.condT rfl ?_
    refine J.seq ?_
    refine J.region ?_
    refine JL.read rfl rfl (OpR.loadN rfl (Cells.full .head) rfl) ?_
    refine JL.step rfl rfl (OpW.call (first := []) (captured := []) inferInstance rfl rfl plain_ok) ?_; rintro r9 _ ⟨rfl, rfl⟩
    refine JL.pure rfl rfl (OpP.assign rfl) ?_
    refine JL.nil ?_
    refine J.ret1 rfl rfl ?_
  rotate_left 1
  focus
    refine JL.nil ?_
    refine J.condF rfl ?_
    refine J.skip ?_
    refine J.seq ?_
    refine J.seq ?_
    refine J.region ?_
    refine JL.pure rfl rfl (OpP.fieldAddr rfl) ?_
    refine JL.read rfl rfl (OpR.load1 rfl (Cell.row .head rfl)) ?_
    refine JL.pure rfl rfl (OpP.len rfl rfl) ?_
    refine JL.pure rfl rfl (OpP.move rfl) ?_
    refine JL.nil ?_
    refine J.block ?_
  rotate_left 1
  · exact ⟨_, ⟨_, rfl, rfl, by rw [FormedP, if_pos h7]; exact decide_eq_true_iff⟩, fun _ h => h.tail⟩
  · obtain rfl : k = 5 := by omega
    refine J.loopI (fun j : Nat => xs.length - j) (fun j => j ≤ xs.length ∧ ∀ m e, m < j → xs[m]? = some e → Good xs m e) (fun j => [(13, .int .i64 (j : Nat)), (12, .int .i64 (xs.length : Nat)), (11, .slice a xs.length c), (1, .pointer (some ⟨b1, 0, none⟩))])
      (fun _ => row b1 29 (vcl 5 i s (.slice a xs.length c)) :: F) 0 ⟨Nat.zero_le _, fun _ _ h => absurd h (Nat.not_lt_zero _)⟩ (by repeat (first | exact SubEnv.nil | refine SubEnv.cons (by first | rfl | exact congrArg (fun z => some (Value.int .i64 z)) (by omega) | (simp; done)) ?_)) (fun _ h => h) (fun j hi back => ?_)
    dsimp only at hi back ⊢
    obtain ⟨hj, hg⟩ := hi
    by_cases hlt : j < xs.length
    · obtain ⟨e, he⟩ : ∃ e, xs[j]? = some e := ⟨_, List.getElem?_eq_getElem hlt⟩
      obtain ⟨z, hz⟩ : ∃ e, xs[0]? = some e := ⟨_, List.getElem?_eq_getElem (show 0 < xs.length by omega)⟩
      obtain ⟨ga, pa, qa, ea', ka, hcs⟩ := hr1.pos (by omega)
      cases ea'
      by_cases hj0 : j = 0
      · subst hj0
        obtain rfl : e = z := Option.some.inj (he.symm.trans hz)
        refine J.seq ?_
        refine J.region ?_
        refine JL.decT rfl rfl (OpP.lss rfl rfl) (by omega) ?_
        refine JL.nil ?_
        refine J.seq ?_
        refine J.condT rfl ?_
        refine J.skip ?_
        refine J.seq ?_
        refine J.block ?_
        refine J.seq ?_
        refine J.region ?_
        refine JL.pure rfl rfl (OpP.move rfl) ?_
        refine JL.pure rfl rfl (OpP.indexAddr rfl rfl (by omega) (by omega)) ?_
        refine JL.read rfl rfl (OpR.loadN rfl (by apply Cells.conv (fun _ h => Own.pick (pre := [_]) [] rfl h); apply Cells.chunkAt hcs; (case' h => assumption); (case' hi => assumption); done) (by first | rfl | assumption)) ?_
        refine JL.mem rfl rfl OpM.alloc ?_; rintro _ _ ⟨b4, rfl, rfl⟩
        refine JL.pure rfl rfl (OpP.assign rfl) ?_
        refine JL.mem0 rfl (by apply OpM.storeN rfl rfl (by rfl) (oneC rfl (oneC rfl (oneC rfl (one1 rfl)))); (case' hu => exact .head); (case' hs => exact (.here (.here (.here (.here .nil))))); done) ?_; rintro _ _ ⟨rfl, rfl⟩
        refine JL.nil ?_
        refine J.seq ?_
        refine J.regionD [0, 5, 10, 12, 15, 23, 27, 28] (by kernel_rfl) ?_
        refine DL.read (i := 0) (by kernel_rfl) (by kernel_rfl) rfl rfl rfl (fun _ h => h) (OpR.loadN rfl (Cells.full .head) rfl) ?_
        refine DL.only (i := 1) (by kernel_rfl) ?_
        refine DL1.stepK rfl rfl rfl (by exact OpW.call (first := []) (captured := []) inferInstance rfl rfl plain_ok) (by rintro _ _ ⟨rfl, rfl⟩ _ h; exact Own.pick (pre := [_, _]) [0, 1] rfl h) ?_; rintro r19 _ ⟨rfl, rfl⟩
        refine DL.pure (i := 2) (by kernel_rfl) (by kernel_rfl) rfl rfl rfl (OpP.notB rfl) ?_
        refine DL.pure (i := 3) (by kernel_rfl) (by kernel_rfl) rfl rfl rfl (OpP.move rfl) ?_
        refine DL.splitAt 21 rfl (fun h21 => ?_) (fun h21 => ?_)
        focus
          refine DL.skip (i := 4) (by kernel_rfl) (by kernel_rfl) rfl rfl rfl ?_
          refine DL.skip (i := 5) (by kernel_rfl) (by kernel_rfl) rfl rfl rfl ?_
          refine DL.skip (i := 6) (by kernel_rfl) (by kernel_rfl) rfl rfl rfl ?_
          refine DL.pure (i := 7) (by kernel_rfl) (by kernel_rfl) rfl rfl rfl (OpP.pickT rfl rfl) ?_
          refine DL.pure (i := 8) (by kernel_rfl) (by kernel_rfl) rfl rfl rfl (OpP.move rfl) ?_
          refine DL.skip (i := 9) (by kernel_rfl) (by kernel_rfl) rfl rfl rfl ?_
          refine DL.skip (i := 10) (by kernel_rfl) (by kernel_rfl) rfl rfl rfl ?_
          refine DL.skip (i := 11) (by kernel_rfl) (by kernel_rfl) rfl rfl rfl ?_
          refine DL.skip (i := 12) (by kernel_rfl) (by kernel_rfl) rfl rfl rfl ?_
          refine DL.skip (i := 13) (by kernel_rfl) (by kernel_rfl) rfl rfl rfl ?_
          refine DL.skip (i := 14) (by kernel_rfl) (by kernel_rfl) rfl rfl rfl ?_
          refine DL.skip (i := 15) (by kernel_rfl) (by kernel_rfl) rfl rfl rfl ?_
          refine DL.skip (i := 16) (by kernel_rfl) (by kernel_rfl) rfl rfl rfl ?_
          refine DL.pure (i := 17) (by kernel_rfl) (by kernel_rfl) rfl rfl rfl (OpP.pickT rfl rfl) ?_
          refine DL.pure (i := 18) (by kernel_rfl) (by kernel_rfl) rfl rfl rfl (OpP.move rfl) ?_
          refine DL.skip (i := 19) (by kernel_rfl) (by kernel_rfl) rfl rfl rfl ?_
          refine DL.skip (i := 20) (by kernel_rfl) (by kernel_rfl) rfl rfl rfl ?_
          refine DL.skip (i := 21) (by kernel_rfl) (by kernel_rfl) rfl rfl rfl ?_
          refine DL.skip (i := 22) (by kernel_rfl) (by kernel_rfl) rfl rfl rfl ?_
          refine DL.skip (i := 23) (by kernel_rfl) (by kernel_rfl) rfl rfl rfl ?_
          refine DL.skip (i := 24) (by kernel_rfl) (by kernel_rfl) rfl rfl rfl ?_
          refine DL.skip (i := 25) (by kernel_rfl) (by kernel_rfl) rfl rfl rfl ?_
          refine DL.skip (i := 26) (by kernel_rfl) (by kernel_rfl) rfl rfl rfl ?_
          refine DL.skip (i := 27) (by kernel_rfl) (by kernel_rfl) rfl rfl rfl ?_
          refine DL.skip (i := 28) (by kernel_rfl) (by kernel_rfl) rfl rfl rfl ?_
          refine DL.skip (i := 29) (by kernel_rfl) (by kernel_rfl) rfl rfl rfl ?_
          refine DL.skip (i := 30) (by kernel_rfl) (by kernel_rfl) rfl rfl rfl ?_
          refine DL.skip (i := 31) (by kernel_rfl) (by kernel_rfl) rfl rfl rfl ?_
          refine DL.pure (i := 32) (by kernel_rfl) (by kernel_rfl) rfl rfl rfl (OpP.pickT rfl rfl) ?_
          refine DL.done (by kernel_rfl) ?_
          refine J.condT rfl ?_
          refine J.seq ?_
          refine J.region ?_
          refine JL.pure rfl rfl (OpP.assign rfl) ?_
          refine JL.nil ?_
          refine J.ret1 rfl rfl ?_
        rotate_left 1
        focus
          refine DL.pure (i := 4) (by kernel_rfl) (by kernel_rfl) rfl rfl rfl (OpP.fieldAddr rfl) ?_
          refine DL.read (i := 5) (by kernel_rfl) (by kernel_rfl) rfl rfl rfl (fun _ h => h) (OpR.load1 rfl (Cell.row .head rfl)) ?_
          refine DL.dec (i := 6) (by kernel_rfl) (by kernel_rfl) rfl rfl rfl (OpP.eql rfl rfl) (fun h24 => ?_) (fun h24 => ?_)
          focus
            refine DL.pure (i := 7) (by kernel_rfl) (by kernel_rfl) rfl rfl rfl (OpP.pickF rfl rfl) ?_
            refine DL.pure (i := 8) (by kernel_rfl) (by kernel_rfl) rfl rfl rfl (OpP.move rfl) ?_
            refine DL.skip (i := 9) (by kernel_rfl) (by kernel_rfl) rfl rfl rfl ?_
            refine DL.skip (i := 10) (by kernel_rfl) (by kernel_rfl) rfl rfl rfl ?_
            refine DL.skip (i := 11) (by kernel_rfl) (by kernel_rfl) rfl rfl rfl ?_
            refine DL.skip (i := 12) (by kernel_rfl) (by kernel_rfl) rfl rfl rfl ?_
            refine DL.skip (i := 13) (by kernel_rfl) (by kernel_rfl) rfl rfl rfl ?_
            refine DL.skip (i := 14) (by kernel_rfl) (by kernel_rfl) rfl rfl rfl ?_
            refine DL.skip (i := 15) (by kernel_rfl) (by kernel_rfl) rfl rfl rfl ?_
            refine DL.skip (i := 16) (by kernel_rfl) (by kernel_rfl) rfl rfl rfl ?_
            refine DL.pure (i := 17) (by kernel_rfl) (by kernel_rfl) rfl rfl rfl (OpP.pickT rfl rfl) ?_
            refine DL.pure (i := 18) (by kernel_rfl) (by kernel_rfl) rfl rfl rfl (OpP.move rfl) ?_
            refine DL.skip (i := 19) (by kernel_rfl) (by kernel_rfl) rfl rfl rfl ?_
            refine DL.skip (i := 20) (by kernel_rfl) (by kernel_rfl) rfl rfl rfl ?_
            refine DL.skip (i := 21) (by kernel_rfl) (by kernel_rfl) rfl rfl rfl ?_
            refine DL.skip (i := 22) (by kernel_rfl) (by kernel_rfl) rfl rfl rfl ?_
            refine DL.skip (i := 23) (by kernel_rfl) (by kernel_rfl) rfl rfl rfl ?_
            refine DL.skip (i := 24) (by kernel_rfl) (by kernel_rfl) rfl rfl rfl ?_
            refine DL.skip (i := 25) (by kernel_rfl) (by kernel_rfl) rfl rfl rfl ?_
            refine DL.skip (i := 26) (by kernel_rfl) (by kernel_rfl) rfl rfl rfl ?_
            refine DL.skip (i := 27) (by kernel_rfl) (by kernel_rfl) rfl rfl rfl ?_
            refine DL.skip (i := 28) (by kernel_rfl) (by kernel_rfl) rfl rfl rfl ?_
            refine DL.skip (i := 29) (by kernel_rfl) (by kernel_rfl) rfl rfl rfl ?_
            refine DL.skip (i := 30) (by kernel_rfl) (by kernel_rfl) rfl rfl rfl ?_
            refine DL.skip (i := 31) (by kernel_rfl) (by kernel_rfl) rfl rfl rfl ?_
            refine DL.pure (i := 32) (by kernel_rfl) (by kernel_rfl) rfl rfl rfl (OpP.pickT rfl rfl) ?_
            refine DL.done (by kernel_rfl) ?_
            refine J.condT rfl ?_
            refine J.seq ?_
            refine J.region ?_
            refine JL.pure rfl rfl (OpP.assign rfl) ?_
            refine JL.nil ?_
            refine J.ret1 rfl rfl ?_
          rotate_left 1
          focus
            refine DL.pure (i := 7) (by kernel_rfl) (by kernel_rfl) rfl rfl rfl (OpP.pickF rfl rfl) ?_
            refine DL.pure (i := 8) (by kernel_rfl) (by kernel_rfl) rfl rfl rfl (OpP.move rfl) ?_
            refine DL.pure (i := 9) (by kernel_rfl) (by kernel_rfl) rfl rfl rfl (OpP.fieldAddr rfl) ?_
            refine DL.read (i := 10) (by kernel_rfl) (by kernel_rfl) rfl rfl rfl (fun _ h => h) (OpR.load1 rfl (Cell.row .head rfl)) ?_
            refine DL.pure (i := 11) (by kernel_rfl) (by kernel_rfl) rfl rfl rfl (OpP.fieldAddr rfl) ?_
            refine DL.read (i := 12) (by kernel_rfl) (by kernel_rfl) rfl rfl rfl (fun _ h => h) (OpR.load1 rfl (Cell.row (.tail .head) rfl)) ?_
            refine DL.pure (i := 13) (by kernel_rfl) (by kernel_rfl) rfl rfl rfl (OpP.indexAddr rfl rfl (by omega) (by omega)) ?_
            refine DL.pure (i := 14) (by kernel_rfl) (by kernel_rfl) rfl rfl rfl (OpP.fieldAddr rfl) ?_
            refine DL.read (i := 15) (by kernel_rfl) (by kernel_rfl) rfl rfl rfl (fun _ h => h) (OpR.load1 rfl (by apply Cells.cellChunk (j := 0) hcs (fun _ h => Own.pick (pre := [_, _]) [] rfl h); (case' h => assumption); (case' hi => assumption); (case' hv => rfl); (case' ho => omega); done)) ?_
            refine DL.decF (i := 16) (by kernel_rfl) (by kernel_rfl) rfl rfl rfl (OpP.neq rfl rfl) (by omega) ?_
            refine DL.pure (i := 17) (by kernel_rfl) (by kernel_rfl) rfl rfl rfl (OpP.pickF rfl rfl) ?_
            refine DL.pure (i := 18) (by kernel_rfl) (by kernel_rfl) rfl rfl rfl (OpP.move rfl) ?_
            refine DL.pure (i := 19) (by kernel_rfl) (by kernel_rfl) rfl rfl rfl (OpP.move rfl) ?_
            refine DL.decF (i := 20) (by kernel_rfl) (by kernel_rfl) rfl rfl rfl (OpP.gtr rfl rfl) (by omega) ?_
            refine DL.pure (i := 21) (by kernel_rfl) (by kernel_rfl) rfl rfl rfl (OpP.move rfl) ?_
            refine DL.skip (i := 22) (by kernel_rfl) (by kernel_rfl) rfl rfl rfl ?_
            refine DL.skip (i := 23) (by kernel_rfl) (by kernel_rfl) rfl rfl rfl ?_
            refine DL.skip (i := 24) (by kernel_rfl) (by kernel_rfl) rfl rfl rfl ?_
            refine DL.skip (i := 25) (by kernel_rfl) (by kernel_rfl) rfl rfl rfl ?_
            refine DL.skip (i := 26) (by kernel_rfl) (by kernel_rfl) rfl rfl rfl ?_
            refine DL.skip (i := 27) (by kernel_rfl) (by kernel_rfl) rfl rfl rfl ?_
            refine DL.skip (i := 28) (by kernel_rfl) (by kernel_rfl) rfl rfl rfl ?_
            refine DL.skip (i := 29) (by kernel_rfl) (by kernel_rfl) rfl rfl rfl ?_
            refine DL.skip (i := 30) (by kernel_rfl) (by kernel_rfl) rfl rfl rfl ?_
            refine DL.pure (i := 31) (by kernel_rfl) (by kernel_rfl) rfl rfl rfl (OpP.pickF rfl rfl) ?_
            refine DL.pure (i := 32) (by kernel_rfl) (by kernel_rfl) rfl rfl rfl (OpP.pickF rfl rfl) ?_
            refine DL.done (by kernel_rfl) ?_
            refine J.condF rfl ?_
            refine J.skip ?_
            refine J.inBlock ?_
            refine J.region ?_
            refine JL.pure rfl rfl (OpP.addI rfl rfl (by omega) (by omega)) ?_
            refine JL.pure rfl rfl (OpP.move rfl) ?_
            refine JL.nil ?_
          rotate_left 1
        rotate_left 2
        · refine ⟨_, ⟨_, rfl, rfl, ?_⟩, fun _ h => h.tail.tail⟩
          rw [FormedP, if_neg (by decide)]
          exact ⟨(fun q => by cases q), fun q => absurd (q.2.2.2 0 e he).1 (nd' h21)⟩
        · refine ⟨_, ⟨_, rfl, rfl, ?_⟩, fun _ h => h.tail.tail⟩
          rw [FormedP, if_neg (by decide)]
          exact ⟨(fun q => by cases q), fun q => absurd h24 (q.2.2.2 0 e he).2.1⟩
        · refine back 1 ⟨by omega, fun m e' hm hm' => ?_⟩ (by omega) (by repeat (first | exact SubEnv.nil | refine SubEnv.cons (by first | rfl | exact congrArg (fun z => some (Value.int .i64 z)) (by omega) | (simp; done)) ?_)) (fun _ h => h.tail)
          obtain rfl : m = 0 := by omega
          obtain rfl : e' = e := Option.some.inj (hm'.symm.trans he)
          exact ⟨nd h21, h24, fun e0 h0 => by rw [Option.some.inj (hz.symm.trans h0)], fun p h => absurd h (Nat.lt_irrefl _)⟩
      · obtain ⟨p, hp⟩ : ∃ e, xs[j - 1]? = some e := ⟨_, List.getElem?_eq_getElem (show j - 1 < xs.length by omega)⟩
        have gp := hg (j - 1) _ (by omega) hp
        have hpl := gp.1
        have hpn : p.n = 0 := hpl.1
        refine J.seq ?_
        refine J.region ?_
        refine JL.decT rfl rfl (OpP.lss rfl rfl) (by omega) ?_
        refine JL.nil ?_
        refine J.seq ?_
        refine J.condT rfl ?_
        refine J.skip ?_
        refine J.seq ?_
        refine J.block ?_
        refine J.seq ?_
        refine J.region ?_
        refine JL.pure rfl rfl (OpP.move rfl) ?_
        refine JL.pure rfl rfl (OpP.indexAddr rfl rfl (by omega) (by omega)) ?_
        refine JL.read rfl rfl (OpR.loadN rfl (by apply Cells.conv (fun _ h => Own.pick (pre := [_]) [] rfl h); apply Cells.chunkAt hcs; (case' h => assumption); (case' hi => assumption); done) (by first | rfl | assumption)) ?_
        refine JL.mem rfl rfl OpM.alloc ?_; rintro _ _ ⟨b4, rfl, rfl⟩
        refine JL.pure rfl rfl (OpP.assign rfl) ?_
        refine JL.mem0 rfl (by apply OpM.storeN rfl rfl (by rfl) (oneC rfl (oneC rfl (oneC rfl (one1 rfl)))); (case' hu => exact .head); (case' hs => exact (.here (.here (.here (.here .nil))))); done) ?_; rintro _ _ ⟨rfl, rfl⟩
        refine JL.nil ?_
        refine J.seq ?_
        refine J.regionD [0, 5, 10, 12, 15, 23, 27, 28] (by kernel_rfl) ?_
        refine DL.read (i := 0) (by kernel_rfl) (by kernel_rfl) rfl rfl rfl (fun _ h => h) (OpR.loadN rfl (Cells.full .head) rfl) ?_
        refine DL.only (i := 1) (by kernel_rfl) ?_
        refine DL1.stepK rfl rfl rfl (by exact OpW.call (first := []) (captured := []) inferInstance rfl rfl plain_ok) (by rintro _ _ ⟨rfl, rfl⟩ _ h; exact Own.pick (pre := [_, _]) [0, 1] rfl h) ?_; rintro r19 _ ⟨rfl, rfl⟩
        refine DL.pure (i := 2) (by kernel_rfl) (by kernel_rfl) rfl rfl rfl (OpP.notB rfl) ?_
        refine DL.pure (i := 3) (by kernel_rfl) (by kernel_rfl) rfl rfl rfl (OpP.move rfl) ?_
        refine DL.splitAt 21 rfl (fun h21 => ?_) (fun h21 => ?_)
        focus
          refine DL.skip (i := 4) (by kernel_rfl) (by kernel_rfl) rfl rfl rfl ?_
          refine DL.skip (i := 5) (by kernel_rfl) (by kernel_rfl) rfl rfl rfl ?_
          refine DL.skip (i := 6) (by kernel_rfl) (by kernel_rfl) rfl rfl rfl ?_
          refine DL.pure (i := 7) (by kernel_rfl) (by kernel_rfl) rfl rfl rfl (OpP.pickT rfl rfl) ?_
          refine DL.pure (i := 8) (by kernel_rfl) (by kernel_rfl) rfl rfl rfl (OpP.move rfl) ?_
          refine DL.skip (i := 9) (by kernel_rfl) (by kernel_rfl) rfl rfl rfl ?_
          refine DL.skip (i := 10) (by kernel_rfl) (by kernel_rfl) rfl rfl rfl ?_
          refine DL.skip (i := 11) (by kernel_rfl) (by kernel_rfl) rfl rfl rfl ?_
          refine DL.skip (i := 12) (by kernel_rfl) (by kernel_rfl) rfl rfl rfl ?_
          refine DL.skip (i := 13) (by kernel_rfl) (by kernel_rfl) rfl rfl rfl ?_
          refine DL.skip (i := 14) (by kernel_rfl) (by kernel_rfl) rfl rfl rfl ?_
          refine DL.skip (i := 15) (by kernel_rfl) (by kernel_rfl) rfl rfl rfl ?_
          refine DL.skip (i := 16) (by kernel_rfl) (by kernel_rfl) rfl rfl rfl ?_
          refine DL.pure (i := 17) (by kernel_rfl) (by kernel_rfl) rfl rfl rfl (OpP.pickT rfl rfl) ?_
          refine DL.pure (i := 18) (by kernel_rfl) (by kernel_rfl) rfl rfl rfl (OpP.move rfl) ?_
          refine DL.skip (i := 19) (by kernel_rfl) (by kernel_rfl) rfl rfl rfl ?_
          refine DL.skip (i := 20) (by kernel_rfl) (by kernel_rfl) rfl rfl rfl ?_
          refine DL.skip (i := 21) (by kernel_rfl) (by kernel_rfl) rfl rfl rfl ?_
          refine DL.skip (i := 22) (by kernel_rfl) (by kernel_rfl) rfl rfl rfl ?_
          refine DL.skip (i := 23) (by kernel_rfl) (by kernel_rfl) rfl rfl rfl ?_
          refine DL.skip (i := 24) (by kernel_rfl) (by kernel_rfl) rfl rfl rfl ?_
          refine DL.skip (i := 25) (by kernel_rfl) (by kernel_rfl) rfl rfl rfl ?_
          refine DL.skip (i := 26) (by kernel_rfl) (by kernel_rfl) rfl rfl rfl ?_
          refine DL.skip (i := 27) (by kernel_rfl) (by kernel_rfl) rfl rfl rfl ?_
          refine DL.skip (i := 28) (by kernel_rfl) (by kernel_rfl) rfl rfl rfl ?_
          refine DL.skip (i := 29) (by kernel_rfl) (by kernel_rfl) rfl rfl rfl ?_
          refine DL.skip (i := 30) (by kernel_rfl) (by kernel_rfl) rfl rfl rfl ?_
          refine DL.skip (i := 31) (by kernel_rfl) (by kernel_rfl) rfl rfl rfl ?_
          refine DL.pure (i := 32) (by kernel_rfl) (by kernel_rfl) rfl rfl rfl (OpP.pickT rfl rfl) ?_
          refine DL.done (by kernel_rfl) ?_
          refine J.condT rfl ?_
          refine J.seq ?_
          refine J.region ?_
          refine JL.pure rfl rfl (OpP.assign rfl) ?_
          refine JL.nil ?_
          refine J.ret1 rfl rfl ?_
        rotate_left 1
        focus
          refine DL.pure (i := 4) (by kernel_rfl) (by kernel_rfl) rfl rfl rfl (OpP.fieldAddr rfl) ?_
          refine DL.read (i := 5) (by kernel_rfl) (by kernel_rfl) rfl rfl rfl (fun _ h => h) (OpR.load1 rfl (Cell.row .head rfl)) ?_
          refine DL.dec (i := 6) (by kernel_rfl) (by kernel_rfl) rfl rfl rfl (OpP.eql rfl rfl) (fun h24 => ?_) (fun h24 => ?_)
          focus
            refine DL.pure (i := 7) (by kernel_rfl) (by kernel_rfl) rfl rfl rfl (OpP.pickF rfl rfl) ?_
            refine DL.pure (i := 8) (by kernel_rfl) (by kernel_rfl) rfl rfl rfl (OpP.move rfl) ?_
            refine DL.skip (i := 9) (by kernel_rfl) (by kernel_rfl) rfl rfl rfl ?_
            refine DL.skip (i := 10) (by kernel_rfl) (by kernel_rfl) rfl rfl rfl ?_
            refine DL.skip (i := 11) (by kernel_rfl) (by kernel_rfl) rfl rfl rfl ?_
            refine DL.skip (i := 12) (by kernel_rfl) (by kernel_rfl) rfl rfl rfl ?_
            refine DL.skip (i := 13) (by kernel_rfl) (by kernel_rfl) rfl rfl rfl ?_
            refine DL.skip (i := 14) (by kernel_rfl) (by kernel_rfl) rfl rfl rfl ?_
            refine DL.skip (i := 15) (by kernel_rfl) (by kernel_rfl) rfl rfl rfl ?_
            refine DL.skip (i := 16) (by kernel_rfl) (by kernel_rfl) rfl rfl rfl ?_
            refine DL.pure (i := 17) (by kernel_rfl) (by kernel_rfl) rfl rfl rfl (OpP.pickT rfl rfl) ?_
            refine DL.pure (i := 18) (by kernel_rfl) (by kernel_rfl) rfl rfl rfl (OpP.move rfl) ?_
            refine DL.skip (i := 19) (by kernel_rfl) (by kernel_rfl) rfl rfl rfl ?_
            refine DL.skip (i := 20) (by kernel_rfl) (by kernel_rfl) rfl rfl rfl ?_
            refine DL.skip (i := 21) (by kernel_rfl) (by kernel_rfl) rfl rfl rfl ?_
            refine DL.skip (i := 22) (by kernel_rfl) (by kernel_rfl) rfl rfl rfl ?_
            refine DL.skip (i := 23) (by kernel_rfl) (by kernel_rfl) rfl rfl rfl ?_
            refine DL.skip (i := 24) (by kernel_rfl) (by kernel_rfl) rfl rfl rfl ?_
            refine DL.skip (i := 25) (by kernel_rfl) (by kernel_rfl) rfl rfl rfl ?_
            refine DL.skip (i := 26) (by kernel_rfl) (by kernel_rfl) rfl rfl rfl ?_
            refine DL.skip (i := 27) (by kernel_rfl) (by kernel_rfl) rfl rfl rfl ?_
            refine DL.skip (i := 28) (by kernel_rfl) (by kernel_rfl) rfl rfl rfl ?_
            refine DL.skip (i := 29) (by kernel_rfl) (by kernel_rfl) rfl rfl rfl ?_
            refine DL.skip (i := 30) (by kernel_rfl) (by kernel_rfl) rfl rfl rfl ?_
            refine DL.skip (i := 31) (by kernel_rfl) (by kernel_rfl) rfl rfl rfl ?_
            refine DL.pure (i := 32) (by kernel_rfl) (by kernel_rfl) rfl rfl rfl (OpP.pickT rfl rfl) ?_
            refine DL.done (by kernel_rfl) ?_
            refine J.condT rfl ?_
            refine J.seq ?_
            refine J.region ?_
            refine JL.pure rfl rfl (OpP.assign rfl) ?_
            refine JL.nil ?_
            refine J.ret1 rfl rfl ?_
          rotate_left 1
          focus
            refine DL.pure (i := 7) (by kernel_rfl) (by kernel_rfl) rfl rfl rfl (OpP.pickF rfl rfl) ?_
            refine DL.pure (i := 8) (by kernel_rfl) (by kernel_rfl) rfl rfl rfl (OpP.move rfl) ?_
            refine DL.pure (i := 9) (by kernel_rfl) (by kernel_rfl) rfl rfl rfl (OpP.fieldAddr rfl) ?_
            refine DL.read (i := 10) (by kernel_rfl) (by kernel_rfl) rfl rfl rfl (fun _ h => h) (OpR.load1 rfl (Cell.row .head rfl)) ?_
            refine DL.pure (i := 11) (by kernel_rfl) (by kernel_rfl) rfl rfl rfl (OpP.fieldAddr rfl) ?_
            refine DL.read (i := 12) (by kernel_rfl) (by kernel_rfl) rfl rfl rfl (fun _ h => h) (OpR.load1 rfl (Cell.row (.tail .head) rfl)) ?_
            refine DL.pure (i := 13) (by kernel_rfl) (by kernel_rfl) rfl rfl rfl (OpP.indexAddr rfl rfl (by omega) (by omega)) ?_
            refine DL.pure (i := 14) (by kernel_rfl) (by kernel_rfl) rfl rfl rfl (OpP.fieldAddr rfl) ?_
            refine DL.read (i := 15) (by kernel_rfl) (by kernel_rfl) rfl rfl rfl (fun _ h => h) (OpR.load1 rfl (by apply Cells.cellChunk (j := 0) hcs (fun _ h => Own.pick (pre := [_, _]) [] rfl h); (case' h => assumption); (case' hi => exact hz); (case' hv => rfl); (case' ho => omega); done)) ?_
            refine DL.dec (i := 16) (by kernel_rfl) (by kernel_rfl) rfl rfl rfl (OpP.neq rfl rfl) (fun h34 => ?_) (fun h34 => ?_)
            focus
              refine DL.pure (i := 17) (by kernel_rfl) (by kernel_rfl) rfl rfl rfl (OpP.pickF rfl rfl) ?_
              refine DL.pure (i := 18) (by kernel_rfl) (by kernel_rfl) rfl rfl rfl (OpP.move rfl) ?_
              refine DL.skip (i := 19) (by kernel_rfl) (by kernel_rfl) rfl rfl rfl ?_
              refine DL.skip (i := 20) (by kernel_rfl) (by kernel_rfl) rfl rfl rfl ?_
              refine DL.skip (i := 21) (by kernel_rfl) (by kernel_rfl) rfl rfl rfl ?_
              refine DL.skip (i := 22) (by kernel_rfl) (by kernel_rfl) rfl rfl rfl ?_
              refine DL.skip (i := 23) (by kernel_rfl) (by kernel_rfl) rfl rfl rfl ?_
              refine DL.skip (i := 24) (by kernel_rfl) (by kernel_rfl) rfl rfl rfl ?_
              refine DL.skip (i := 25) (by kernel_rfl) (by kernel_rfl) rfl rfl rfl ?_
              refine DL.skip (i := 26) (by kernel_rfl) (by kernel_rfl) rfl rfl rfl ?_
              refine DL.skip (i := 27) (by kernel_rfl) (by kernel_rfl) rfl rfl rfl ?_
              refine DL.skip (i := 28) (by kernel_rfl) (by kernel_rfl) rfl rfl rfl ?_
              refine DL.skip (i := 29) (by kernel_rfl) (by kernel_rfl) rfl rfl rfl ?_
              refine DL.skip (i := 30) (by kernel_rfl) (by kernel_rfl) rfl rfl rfl ?_
              refine DL.skip (i := 31) (by kernel_rfl) (by kernel_rfl) rfl rfl rfl ?_
              refine DL.pure (i := 32) (by kernel_rfl) (by kernel_rfl) rfl rfl rfl (OpP.pickT rfl rfl) ?_
              refine DL.done (by kernel_rfl) ?_
              refine J.condT rfl ?_
              refine J.seq ?_
              refine J.region ?_
              refine JL.pure rfl rfl (OpP.assign rfl) ?_
              refine JL.nil ?_
              refine J.ret1 rfl rfl ?_
            rotate_left 1
            focus
              refine DL.pure (i := 17) (by kernel_rfl) (by kernel_rfl) rfl rfl rfl (OpP.pickF rfl rfl) ?_
              refine DL.pure (i := 18) (by kernel_rfl) (by kernel_rfl) rfl rfl rfl (OpP.move rfl) ?_
              refine DL.pure (i := 19) (by kernel_rfl) (by kernel_rfl) rfl rfl rfl (OpP.move rfl) ?_
              refine DL.decT (i := 20) (by kernel_rfl) (by kernel_rfl) rfl rfl rfl (OpP.gtr rfl rfl) (by omega) ?_
              refine DL.pure (i := 21) (by kernel_rfl) (by kernel_rfl) rfl rfl rfl (OpP.move rfl) ?_
              refine DL.pure (i := 22) (by kernel_rfl) (by kernel_rfl) rfl rfl rfl (OpP.fieldAddr rfl) ?_
              refine DL.read (i := 23) (by kernel_rfl) (by kernel_rfl) rfl rfl rfl (fun _ h => h) (OpR.load1 rfl (Cell.row (.tail .head) rfl)) ?_
              refine DL.pure (i := 24) (by kernel_rfl) (by kernel_rfl) rfl rfl rfl (OpP.move rfl) ?_
              refine DL.pure (i := 25) (by kernel_rfl) (by kernel_rfl) rfl rfl rfl (OpP.subI rfl rfl (by omega) (by omega)) ?_
              refine DL.pure (i := 26) (by kernel_rfl) (by kernel_rfl) rfl rfl rfl (OpP.indexAddr rfl rfl (by omega) (by omega)) ?_
              refine DL.read (i := 27) (by kernel_rfl) (by kernel_rfl) rfl rfl rfl (fun _ h => h) (OpR.loadN rfl (by apply Cells.conv (fun _ h => Own.pick (pre := [_, _]) [] rfl h); apply Cells.chunkAtE hcs; (case' h => assumption); (case' hi => exact hp); (case' ho => omega); done) (by first | rfl | assumption)) ?_
              refine DL.read (i := 28) (by kernel_rfl) (by kernel_rfl) rfl rfl rfl (fun _ h => h) (OpR.loadN rfl (Cells.full .head) rfl) ?_
              refine DL.only (i := 29) (by kernel_rfl) ?_
              refine DL1.stepF rfl rfl rfl (by kernel_rfl) (by exact OpW.call (first := []) (captured := []) inferInstance rfl rfl (order_ok' (by first | assumption | omega | rfl | exact Nat.le_of_ble_eq_true rfl | (simp; omega)) (by first | assumption | omega | rfl | exact Nat.le_of_ble_eq_true rfl | (simp; omega)))) ?_; rintro r47 _ ⟨rfl, rfl⟩
              refine DL.dec (i := 30) (by kernel_rfl) (by kernel_rfl) rfl rfl rfl (OpP.geq rfl rfl) (fun h48 => ?_) (fun h48 => ?_)
              focus
                refine DL.pure (i := 31) (by kernel_rfl) (by kernel_rfl) rfl rfl rfl (OpP.pickT rfl rfl) ?_
                refine DL.pure (i := 32) (by kernel_rfl) (by kernel_rfl) rfl rfl rfl (OpP.pickF rfl rfl) ?_
                refine DL.done (by kernel_rfl) ?_
                refine J.condT rfl ?_
                refine J.seq ?_
                refine J.region ?_
                refine JL.pure rfl rfl (OpP.assign rfl) ?_
                refine JL.nil ?_
                refine J.ret1 rfl rfl ?_
              rotate_left 1
              focus
                refine DL.pure (i := 31) (by kernel_rfl) (by kernel_rfl) rfl rfl rfl (OpP.pickT rfl rfl) ?_
                refine DL.pure (i := 32) (by kernel_rfl) (by kernel_rfl) rfl rfl rfl (OpP.pickF rfl rfl) ?_
                refine DL.done (by kernel_rfl) ?_
                refine J.condF rfl ?_
                refine J.skip ?_
                refine J.inBlock ?_
                refine J.region ?_
                refine JL.pure rfl rfl (OpP.addI rfl rfl (by omega) (by omega)) ?_
                refine JL.pure rfl rfl (OpP.move rfl) ?_
                refine JL.nil ?_
              rotate_left 1
            rotate_left 2
          rotate_left 3
        rotate_left 4
        · refine ⟨_, ⟨_, rfl, rfl, ?_⟩, fun _ h => h.tail.tail⟩
          rw [FormedP, if_neg (by decide)]
          exact ⟨(fun q => by cases q), fun q => absurd (q.2.2.2 j e he).1 (nd' h21)⟩
        · refine ⟨_, ⟨_, rfl, rfl, ?_⟩, fun _ h => h.tail.tail⟩
          rw [FormedP, if_neg (by decide)]
          exact ⟨(fun q => by cases q), fun q => absurd h24 (q.2.2.2 j e he).2.1⟩
        · refine ⟨_, ⟨_, rfl, rfl, ?_⟩, fun _ h => h.tail.tail⟩
          rw [FormedP, if_neg (by decide)]
          exact ⟨(fun q => by cases q), fun q => absurd ((q.2.2.2 j e he).2.2.1 z hz) h34⟩
        · refine ⟨_, ⟨_, rfl, rfl, ?_⟩, fun _ h => h.tail.tail⟩
          rw [FormedP, if_neg (by decide)]
          refine ⟨(fun q => by cases q), fun q => ?_⟩
          have h1 := (q.2.2.2 j e he).2.2.2 p (by omega) hp
          have h2 := (q.2.2.2 j e he).2.2.1 z hz
          have h3 := gp.2.2.1 z hz
          have hk : p.k = e.k := by rw [h2, h3]
          have h4 := ord_same (hk ▸ hpl : Plain e.k p.i p.s p.n) (nd h21)
          unfold Behind at h1
          rw [hk] at h1 h48
          rw [h4] at h48
          omega
        · refine back (j + 1) ⟨by omega, fun m e' hm hm' => ?_⟩ (by omega) (by repeat (first | exact SubEnv.nil | refine SubEnv.cons (by first | rfl | exact congrArg (fun z => some (Value.int .i64 z)) (by omega) | (simp; done)) ?_)) (fun _ h => h.tail)
          by_cases hmj : m < j
          · exact hg m e' hmj hm'
          · obtain rfl : m = j := by omega
            obtain rfl : e' = e := Option.some.inj (hm'.symm.trans he)
            refine ⟨nd h21, h24, fun e0 h0 => ?_, fun p' _ h => ?_⟩
            · rw [← Option.some.inj (hz.symm.trans h0)]; exact Decidable.not_not.1 h34
            · obtain rfl : p' = p := Option.some.inj (h.symm.trans hp)
              have h3 := gp.2.2.1 z hz
              have hk : p'.k = e'.k := by rw [h3]; exact (Decidable.not_not.1 h34).symm
              have h4 := ord_same (hk ▸ hpl : Plain e'.k p'.i p'.s p'.n) (nd h21)
              unfold Behind
              rw [hk] at h48 ⊢
              rw [h4] at h48
              omega
    · have : j = xs.length := by omega
      subst this
      refine J.seq ?_
      refine J.region ?_
      refine JL.decF rfl rfl (OpP.lss rfl rfl) (by omega) ?_
      refine JL.nil ?_
      refine J.seq ?_
      refine J.condF rfl ?_
      refine J.exit rfl ?_
      refine J.seq ?_
      refine J.region ?_
      refine JL.pure rfl rfl (OpP.fieldAddr rfl) ?_
      refine JL.read rfl rfl (OpR.load1 rfl (Cell.row .head rfl)) ?_
      refine JL.dec rfl rfl (OpP.eql rfl rfl) (fun h54 => ?_) (fun h54 => ?_)
      focus
        refine JL.pure rfl rfl (OpP.move rfl) ?_
        refine JL.pure rfl rfl (OpP.fieldAddr rfl) ?_
        refine JL.read rfl rfl (OpR.load1 rfl (Cell.row .head rfl)) ?_
        refine JL.dec rfl rfl (OpP.eqStr rfl rfl) (fun h58 => ?_) (fun h58 => ?_)
        focus
          refine JL.pure rfl rfl (OpP.pickT rfl rfl) ?_
          refine JL.pure rfl rfl (OpP.move rfl) ?_
          refine JL.pure rfl rfl (OpP.fieldAddr rfl) ?_
          refine JL.read rfl rfl (OpR.load1 rfl (Cell.row .head rfl)) ?_
          refine JL.pure rfl rfl (OpP.len rfl rfl) ?_
          refine JL.dec rfl rfl (OpP.leq rfl rfl) (fun h64 => ?_) (fun h64 => ?_)
          focus
            refine JL.pure rfl rfl (OpP.pickT rfl rfl) ?_
            refine JL.pure rfl rfl (OpP.assign rfl) ?_
            refine JL.nil ?_
            refine J.ret1 rfl rfl ?_
          rotate_left 1
          focus
            refine JL.pure rfl rfl (OpP.pickT rfl rfl) ?_
            refine JL.pure rfl rfl (OpP.assign rfl) ?_
            refine JL.nil ?_
            refine J.ret1 rfl rfl ?_
          rotate_left 1
        rotate_left 2
        focus
          refine JL.pure rfl rfl (OpP.pickT rfl rfl) ?_
          refine JL.pure rfl rfl (OpP.move rfl) ?_
          refine JL.skip rfl rfl ?_
          refine JL.skip rfl rfl ?_
          refine JL.skip rfl rfl ?_
          refine JL.skip rfl rfl ?_
          refine JL.pure rfl rfl (OpP.pickF rfl rfl) ?_
          refine JL.pure rfl rfl (OpP.assign rfl) ?_
          refine JL.nil ?_
          refine J.ret1 rfl rfl ?_
        rotate_left 1
      rotate_left 3
      focus
        refine JL.pure rfl rfl (OpP.move rfl) ?_
        refine JL.skip rfl rfl ?_
        refine JL.skip rfl rfl ?_
        refine JL.skip rfl rfl ?_
        refine JL.pure rfl rfl (OpP.pickF rfl rfl) ?_
        refine JL.pure rfl rfl (OpP.move rfl) ?_
        refine JL.skip rfl rfl ?_
        refine JL.skip rfl rfl ?_
        refine JL.skip rfl rfl ?_
        refine JL.skip rfl rfl ?_
        refine JL.pure rfl rfl (OpP.pickF rfl rfl) ?_
        refine JL.pure rfl rfl (OpP.assign rfl) ?_
        refine JL.nil ?_
        refine J.ret1 rfl rfl ?_
      rotate_left 1
      all_goals refine ⟨_, ⟨_, rfl, rfl, ?_⟩, fun _ h => h.tail⟩
      all_goals rw [FormedP, if_neg (by decide)]
      · exact ⟨fun _ => ⟨h54, strB_nil.1 h58, by omega, fun j e h => hg j e (List.getElem?_eq_some_iff.1 h).1 h⟩, fun _ => rfl⟩
      · exact ⟨(fun q => by cases q), fun q => absurd q.2.2.1 (by omega)⟩
      · exact ⟨(fun q => by cases q), fun q => absurd (strB_nil.2 q.2.1) h58⟩
      · exact ⟨(fun q => by cases q), fun q => absurd q.1 h54⟩
end Go.Proofs.E

-- seat e
namespace Go.Proofs.E
open Go Go.Gp Go.RowKit

theorem refFormed_ok {w0 : World} {F : List HProp} {k i : Int} {s : List UInt8} {a : Option Addr} {c : Nat} {xs : List El} (hx : ∀ e ∈ xs, e.ok) (hn : xs.length ≤ 9223372036854775807) (hr : RdO w0 F (.slice a xs.length c) xs.length (xs.flatMap ecl)) :
    FnO Try.prog w0 27 [.agg (vcl k i s (.slice a xs.length c)).toArray] F (fun r l' => ∃ b, r = .bool b ∧ l' = F ∧ (b = true ↔ FormedP k i s xs)) := by
  have hlen : ∀ e ∈ xs, (ecl e).length = 4 := fun _ _ => rfl
  refine FnO.rdF (fun _ h => h) hr fun hr1 => ?_
  refine FnO.weak ?_
  refine FnO.intro (n := 79) Try.func27 rfl rfl rfl ?_
  refine J.seq ?_
  refine J.region ?_
  refine JL.mem rfl rfl (OpM.box rfl rfl) ?_; rintro _ _ ⟨b1, rfl, rfl⟩
  refine JL.pure rfl rfl (OpP.assign rfl) ?_
  refine JL.nil ?_
  refine J.seq ?_
  refine J.seq ?_
  refine J.region ?_
  refine JL.pure rfl rfl (OpP.fieldAddr rfl) ?_
  refine JL.read rfl rfl (OpR.load1 rfl (Cell.row .head rfl)) ?_
  refine JL.dec rfl rfl (OpP.neq rfl rfl) (fun h6 => ?_) (fun h6 => ?_)
  focus
    refine JL.nil ?_
    refine J.condT rfl ?_
    refine J.seq ?_
    refine J.region ?_
    refine JL.read rfl rfl (OpR.loadN rfl (Cells.full .head) rfl) ?_
    refine JL.step rfl rfl (OpW.call (first := []) (captured := []) inferInstance rfl rfl one_ok) ?_; rintro r8 _ ⟨rfl, rfl⟩
    refine JL.pure rfl rfl (OpP.assign rfl) ?_
    refine JL.nil ?_
    refine J.ret1 rfl rfl ?_
  rotate_left 1
  focus
    refine JL.nil ?_
    refine J.condF rfl ?_
    refine J.skip ?_
    refine J.seq ?_
    refine J.seq ?_
    refine J.region ?_
    refine JL.pure rfl rfl (OpP.fieldAddr rfl) ?_
    refine JL.read rfl rfl (OpR.load1 rfl (Cell.row .head rfl)) ?_
    refine JL.dec rfl rfl (OpP.neq rfl rfl) (fun h11 => ?_) (fun h11 => ?_)
    focus
      refine JL.pure rfl rfl (OpP.move rfl) ?_
      refine JL.skip rfl rfl ?_
      refine JL.skip rfl rfl ?_
      refine JL.skip rfl rfl ?_
      refine JL.pure rfl rfl (OpP.pickT rfl rfl) ?_
      refine JL.pure rfl rfl (OpP.move rfl) ?_
      refine JL.skip rfl rfl ?_
      refine JL.skip rfl rfl ?_
      refine JL.skip rfl rfl ?_
      refine JL.skip rfl rfl ?_
      refine JL.pure rfl rfl (OpP.pickT rfl rfl) ?_
      refine JL.nil ?_
      refine J.condT rfl ?_
      refine J.seq ?_
      refine J.region ?_
      refine JL.pure rfl rfl (OpP.assign rfl) ?_
      refine JL.nil ?_
      refine J.ret1 rfl rfl ?_
    rotate_left 1
    focus
      refine JL.pure rfl rfl (OpP.move rfl) ?_
      refine JL.pure rfl rfl (OpP.fieldAddr rfl) ?_
      refine JL.read rfl rfl (OpR.load1 rfl (Cell.row .head rfl)) ?_
      refine JL.dec rfl rfl (OpP.neStr rfl rfl) (fun h15 => ?_) (fun h15 => ?_)
      focus
        refine JL.pure rfl rfl (OpP.pickF rfl rfl) ?_
        refine JL.pure rfl rfl (OpP.move rfl) ?_
        refine JL.skip rfl rfl ?_
        refine JL.skip rfl rfl ?_
        refine JL.skip rfl rfl ?_
        refine JL.skip rfl rfl ?_
        refine JL.pure rfl rfl (OpP.pickT rfl rfl) ?_
        refine JL.nil ?_
        refine J.condT rfl ?_
        refine J.seq ?_
        refine J.region ?_
        refine JL.pure rfl rfl (OpP.assign rfl) ?_
        refine JL.nil ?_
        refine J.ret1 rfl rfl ?_
      rotate_left 1
      focus
        refine JL.pure rfl rfl (OpP.pickF rfl rfl) ?_
        refine JL.pure rfl rfl (OpP.move rfl) ?_
        refine JL.pure rfl rfl (OpP.fieldAddr rfl) ?_
        refine JL.read rfl rfl (OpR.load1 rfl (Cell.row .head rfl)) ?_
        refine JL.pure rfl rfl (OpP.len rfl rfl) ?_
        refine JL.dec rfl rfl (OpP.gtr rfl rfl) (fun h21 => ?_) (fun h21 => ?_)
        focus
          refine JL.pure rfl rfl (OpP.pickF rfl rfl) ?_
          refine JL.nil ?_
          refine J.condT rfl ?_
          refine J.seq ?_
          refine J.region ?_
          refine JL.pure rfl rfl (OpP.assign rfl) ?_
          refine JL.nil ?_
          refine J.ret1 rfl rfl ?_
        rotate_left 1
        focus
          refine JL.pure rfl rfl (OpP.pickF rfl rfl) ?_
          refine JL.nil ?_
          refine J.condF rfl ?_
          refine J.skip ?_
          refine J.seq ?_
          refine J.seq ?_
          refine J.region ?_
          refine JL.pure rfl rfl (OpP.assign rfl) ?_
          refine JL.nil ?_
          refine J.block ?_
        rotate_left 1
      rotate_left 2
    rotate_left 3
  rotate_left 4
  · exact ⟨_, ⟨_, rfl, rfl, by rw [FormedP, if_pos h6]; exact decide_eq_true_iff⟩, fun _ h => h.tail⟩
  · refine ⟨_, ⟨_, rfl, rfl, ?_⟩, fun _ h => h.tail⟩
    rw [FormedP, if_neg h6]
    exact ⟨(fun q => by cases q), fun q => absurd q.1 h11⟩
  · refine ⟨_, ⟨_, rfl, rfl, ?_⟩, fun _ h => h.tail⟩
    rw [FormedP, if_neg h6]
    exact ⟨(fun q => by cases q), fun q => absurd (strB_nil.2 q.2.1) h15⟩
  · refine ⟨_, ⟨_, rfl, rfl, ?_⟩, fun _ h => h.tail⟩
    rw [FormedP, if_neg h6]
    exact ⟨(fun q => by cases q), fun q => absurd q.2.2.1 (by omega)⟩
  · obtain rfl : k = 5 := by omega
    refine J.loopI (fun j : Nat => xs.length - j) (fun j => j ≤ xs.length ∧ ∀ m e, m < j → xs[m]? = some e → Good xs m e) (fun j => [(3, .int .i64 (j : Nat)), (1, .pointer (some ⟨b1, 0, none⟩))])
      (fun _ => row b1 29 (vcl 5 i s (.slice a xs.length c)) :: F) 0 ⟨Nat.zero_le _, fun _ _ h => absurd h (Nat.not_lt_zero _)⟩ (by repeat (first | exact SubEnv.nil | refine SubEnv.cons (by first | rfl | exact congrArg (fun z => some (Value.int .i64 z)) (by omega) | (simp; done)) ?_)) (fun _ h => h) (fun j hi back => ?_)
    dsimp only at hi back ⊢
    obtain ⟨hj, hg⟩ := hi
    by_cases hlt : j < xs.length
    · obtain ⟨e, he⟩ : ∃ e, xs[j]? = some e := ⟨_, List.getElem?_eq_getElem hlt⟩
      obtain ⟨z, hz⟩ : ∃ e, xs[0]? = some e := ⟨_, List.getElem?_eq_getElem (show 0 < xs.length by omega)⟩
      obtain ⟨ga, pa, qa, ea', ka, hcs⟩ := hr1.pos (by omega)
      cases ea'
      have hes := hx _ (List.mem_of_getElem? he)
      unfold El.ok at hes
      by_cases hj0 : j = 0
      · subst hj0
        obtain rfl : e = z := Option.some.inj (he.symm.trans hz)
        refine J.seq ?_
        refine J.seq ?_
        refine J.region ?_
        refine JL.pure rfl rfl (OpP.move rfl) ?_
        refine JL.pure rfl rfl (OpP.fieldAddr rfl) ?_
        refine JL.read rfl rfl (OpR.load1 rfl (Cell.row .head rfl)) ?_
        refine JL.pure rfl rfl (OpP.len rfl rfl) ?_
        refine JL.decT rfl rfl (OpP.lss rfl rfl) (by omega) ?_
        refine JL.nil ?_
        refine J.condT rfl ?_
        refine J.skip ?_
        refine J.seq ?_
        refine J.block ?_
        refine J.seq ?_
        refine J.regionD [1, 4, 9, 13, 18, 22, 24, 27, 35, 39, 41, 44] (by kernel_rfl) ?_
        refine DL.pure (i := 0) (by kernel_rfl) (by kernel_rfl) rfl rfl rfl (OpP.fieldAddr rfl) ?_
        refine DL.read (i := 1) (by kernel_rfl) (by kernel_rfl) rfl rfl rfl (fun _ h => h) (OpR.load1 rfl (Cell.row .head rfl)) ?_
        refine DL.pure (i := 2) (by kernel_rfl) (by kernel_rfl) rfl rfl rfl (OpP.move rfl) ?_
        refine DL.pure (i := 3) (by kernel_rfl) (by kernel_rfl) rfl rfl rfl (OpP.indexAddr rfl rfl (by omega) (by omega)) ?_
        refine DL.read (i := 4) (by kernel_rfl) (by kernel_rfl) rfl rfl rfl (fun _ h => h) (OpR.loadN rfl (by apply Cells.conv (fun _ h => Own.pick (pre := [_]) [] rfl h); apply Cells.chunkAt hcs; (case' h => assumption); (case' hi => assumption); done) (by first | rfl | assumption)) ?_
        refine DL.only (i := 5) (by kernel_rfl) ?_
        refine DL1.stepK rfl rfl rfl (by exact OpW.call (first := []) (captured := []) inferInstance rfl rfl one_ok) (by rintro _ _ ⟨rfl, rfl⟩ _ h; exact Own.pick (pre := [_]) [0] rfl h) ?_; rintro r35 _ ⟨rfl, rfl⟩
        refine DL.pure (i := 6) (by kernel_rfl) (by kernel_rfl) rfl rfl rfl (OpP.notB rfl) ?_
        refine DL.pure (i := 7) (by kernel_rfl) (by kernel_rfl) rfl rfl rfl (OpP.move rfl) ?_
        refine DL.splitAt 37 rfl (fun h37 => ?_) (fun h37 => ?_)
        focus
          refine DL.skip (i := 8) (by kernel_rfl) (by kernel_rfl) rfl rfl rfl ?_
          refine DL.skip (i := 9) (by kernel_rfl) (by kernel_rfl) rfl rfl rfl ?_
          refine DL.skip (i := 10) (by kernel_rfl) (by kernel_rfl) rfl rfl rfl ?_
          refine DL.skip (i := 11) (by kernel_rfl) (by kernel_rfl) rfl rfl rfl ?_
          refine DL.skip (i := 12) (by kernel_rfl) (by kernel_rfl) rfl rfl rfl ?_
          refine DL.skip (i := 13) (by kernel_rfl) (by kernel_rfl) rfl rfl rfl ?_
          refine DL.skip (i := 14) (by kernel_rfl) (by kernel_rfl) rfl rfl rfl ?_
          refine DL.pure (i := 15) (by kernel_rfl) (by kernel_rfl) rfl rfl rfl (OpP.pickT rfl rfl) ?_
          refine DL.pure (i := 16) (by kernel_rfl) (by kernel_rfl) rfl rfl rfl (OpP.move rfl) ?_
          refine DL.skip (i := 17) (by kernel_rfl) (by kernel_rfl) rfl rfl rfl ?_
          refine DL.skip (i := 18) (by kernel_rfl) (by kernel_rfl) rfl rfl rfl ?_
          refine DL.skip (i := 19) (by kernel_rfl) (by kernel_rfl) rfl rfl rfl ?_
          refine DL.skip (i := 20) (by kernel_rfl) (by kernel_rfl) rfl rfl rfl ?_
          refine DL.skip (i := 21) (by kernel_rfl) (by kernel_rfl) rfl rfl rfl ?_
          refine DL.skip (i := 22) (by kernel_rfl) (by kernel_rfl) rfl rfl rfl ?_
          refine DL.skip (i := 23) (by kernel_rfl) (by kernel_rfl) rfl rfl rfl ?_
          refine DL.skip (i := 24) (by kernel_rfl) (by kernel_rfl) rfl rfl rfl ?_
          refine DL.skip (i := 25) (by kernel_rfl) (by kernel_rfl) rfl rfl rfl ?_
          refine DL.skip (i := 26) (by kernel_rfl) (by kernel_rfl) rfl rfl rfl ?_
          refine DL.skip (i := 27) (by kernel_rfl) (by kernel_rfl) rfl rfl rfl ?_
          refine DL.skip (i := 28) (by kernel_rfl) (by kernel_rfl) rfl rfl rfl ?_
          refine DL.pure (i := 29) (by kernel_rfl) (by kernel_rfl) rfl rfl rfl (OpP.pickT rfl rfl) ?_
          refine DL.pure (i := 30) (by kernel_rfl) (by kernel_rfl) rfl rfl rfl (OpP.move rfl) ?_
          refine DL.skip (i := 31) (by kernel_rfl) (by kernel_rfl) rfl rfl rfl ?_
          refine DL.skip (i := 32) (by kernel_rfl) (by kernel_rfl) rfl rfl rfl ?_
          refine DL.skip (i := 33) (by kernel_rfl) (by kernel_rfl) rfl rfl rfl ?_
          refine DL.skip (i := 34) (by kernel_rfl) (by kernel_rfl) rfl rfl rfl ?_
          refine DL.skip (i := 35) (by kernel_rfl) (by kernel_rfl) rfl rfl rfl ?_
          refine DL.skip (i := 36) (by kernel_rfl) (by kernel_rfl) rfl rfl rfl ?_
          refine DL.skip (i := 37) (by kernel_rfl) (by kernel_rfl) rfl rfl rfl ?_
          refine DL.skip (i := 38) (by kernel_rfl) (by kernel_rfl) rfl rfl rfl ?_
          refine DL.skip (i := 39) (by kernel_rfl) (by kernel_rfl) rfl rfl rfl ?_
          refine DL.skip (i := 40) (by kernel_rfl) (by kernel_rfl) rfl rfl rfl ?_
          refine DL.skip (i := 41) (by kernel_rfl) (by kernel_rfl) rfl rfl rfl ?_
          refine DL.skip (i := 42) (by kernel_rfl) (by kernel_rfl) rfl rfl rfl ?_
          refine DL.skip (i := 43) (by kernel_rfl) (by kernel_rfl) rfl rfl rfl ?_
          refine DL.skip (i := 44) (by kernel_rfl) (by kernel_rfl) rfl rfl rfl ?_
          refine DL.skip (i := 45) (by kernel_rfl) (by kernel_rfl) rfl rfl rfl ?_
          refine DL.skip (i := 46) (by kernel_rfl) (by kernel_rfl) rfl rfl rfl ?_
          refine DL.skip (i := 47) (by kernel_rfl) (by kernel_rfl) rfl rfl rfl ?_
          refine DL.pure (i := 48) (by kernel_rfl) (by kernel_rfl) rfl rfl rfl (OpP.pickT rfl rfl) ?_
          refine DL.done (by kernel_rfl) ?_
          refine J.condT rfl ?_
          refine J.seq ?_
          refine J.region ?_
          refine JL.pure rfl rfl (OpP.assign rfl) ?_
          refine JL.nil ?_
          refine J.ret1 rfl rfl ?_
        rotate_left 1
        focus
          refine DL.pure (i := 8) (by kernel_rfl) (by kernel_rfl) rfl rfl rfl (OpP.fieldAddr rfl) ?_
          refine DL.read (i := 9) (by kernel_rfl) (by kernel_rfl) rfl rfl rfl (fun _ h => h) (OpR.load1 rfl (Cell.row .head rfl)) ?_
          refine DL.pure (i := 10) (by kernel_rfl) (by kernel_rfl) rfl rfl rfl (OpP.move rfl) ?_
          refine DL.pure (i := 11) (by kernel_rfl) (by kernel_rfl) rfl rfl rfl (OpP.indexAddr rfl rfl (by omega) (by omega)) ?_
          refine DL.pure (i := 12) (by kernel_rfl) (by kernel_rfl) rfl rfl rfl (OpP.fieldAddr rfl) ?_
          refine DL.read (i := 13) (by kernel_rfl) (by kernel_rfl) rfl rfl rfl (fun _ h => h) (OpR.load1 rfl (by apply Cells.cellChunk (j := 0) hcs (fun _ h => Own.pick (pre := [_]) [] rfl h); (case' h => assumption); (case' hi => assumption); (case' hv => rfl); (case' ho => omega); done)) ?_
          refine DL.dec (i := 14) (by kernel_rfl) (by kernel_rfl) rfl rfl rfl (OpP.eql rfl rfl) (fun h44 => ?_) (fun h44 => ?_)
          focus
            refine DL.pure (i := 15) (by kernel_rfl) (by kernel_rfl) rfl rfl rfl (OpP.pickF rfl rfl) ?_
            refine DL.pure (i := 16) (by kernel_rfl) (by kernel_rfl) rfl rfl rfl (OpP.move rfl) ?_
            refine DL.skip (i := 17) (by kernel_rfl) (by kernel_rfl) rfl rfl rfl ?_
            refine DL.skip (i := 18) (by kernel_rfl) (by kernel_rfl) rfl rfl rfl ?_
            refine DL.skip (i := 19) (by kernel_rfl) (by kernel_rfl) rfl rfl rfl ?_
            refine DL.skip (i := 20) (by kernel_rfl) (by kernel_rfl) rfl rfl rfl ?_
            refine DL.skip (i := 21) (by kernel_rfl) (by kernel_rfl) rfl rfl rfl ?_
            refine DL.skip (i := 22) (by kernel_rfl) (by kernel_rfl) rfl rfl rfl ?_
            refine DL.skip (i := 23) (by kernel_rfl) (by kernel_rfl) rfl rfl rfl ?_
            refine DL.skip (i := 24) (by kernel_rfl) (by kernel_rfl) rfl rfl rfl ?_
            refine DL.skip (i := 25) (by kernel_rfl) (by kernel_rfl) rfl rfl rfl ?_
            refine DL.skip (i := 26) (by kernel_rfl) (by kernel_rfl) rfl rfl rfl ?_
            refine DL.skip (i := 27) (by kernel_rfl) (by kernel_rfl) rfl rfl rfl ?_
            refine DL.skip (i := 28) (by kernel_rfl) (by kernel_rfl) rfl rfl rfl ?_
            refine DL.pure (i := 29) (by kernel_rfl) (by kernel_rfl) rfl rfl rfl (OpP.pickT rfl rfl) ?_
            refine DL.pure (i := 30) (by kernel_rfl) (by kernel_rfl) rfl rfl rfl (OpP.move rfl) ?_
            refine DL.skip (i := 31) (by kernel_rfl) (by kernel_rfl) rfl rfl rfl ?_
            refine DL.skip (i := 32) (by kernel_rfl) (by kernel_rfl) rfl rfl rfl ?_
            refine DL.skip (i := 33) (by kernel_rfl) (by kernel_rfl) rfl rfl rfl ?_
            refine DL.skip (i := 34) (by kernel_rfl) (by kernel_rfl) rfl rfl rfl ?_
            refine DL.skip (i := 35) (by kernel_rfl) (by kernel_rfl) rfl rfl rfl ?_
            refine DL.skip (i := 36) (by kernel_rfl) (by kernel_rfl) rfl rfl rfl ?_
            refine DL.skip (i := 37) (by kernel_rfl) (by kernel_rfl) rfl rfl rfl ?_
            refine DL.skip (i := 38) (by kernel_rfl) (by kernel_rfl) rfl rfl rfl ?_
            refine DL.skip (i := 39) (by kernel_rfl) (by kernel_rfl) rfl rfl rfl ?_
            refine DL.skip (i := 40) (by kernel_rfl) (by kernel_rfl) rfl rfl rfl ?_
            refine DL.skip (i := 41) (by kernel_rfl) (by kernel_rfl) rfl rfl rfl ?_
            refine DL.skip (i := 42) (by kernel_rfl) (by kernel_rfl) rfl rfl rfl ?_
            refine DL.skip (i := 43) (by kernel_rfl) (by kernel_rfl) rfl rfl rfl ?_
            refine DL.skip (i := 44) (by kernel_rfl) (by kernel_rfl) rfl rfl rfl ?_
            refine DL.skip (i := 45) (by kernel_rfl) (by kernel_rfl) rfl rfl rfl ?_
            refine DL.skip (i := 46) (by kernel_rfl) (by kernel_rfl) rfl rfl rfl ?_
            refine DL.skip (i := 47) (by kernel_rfl) (by kernel_rfl) rfl rfl rfl ?_
            refine DL.pure (i := 48) (by kernel_rfl) (by kernel_rfl) rfl rfl rfl (OpP.pickT rfl rfl) ?_
            refine DL.done (by kernel_rfl) ?_
            refine J.condT rfl ?_
            refine J.seq ?_
            refine J.region ?_
            refine JL.pure rfl rfl (OpP.assign rfl) ?_
            refine JL.nil ?_
            refine J.ret1 rfl rfl ?_
          rotate_left 1
          focus
            refine DL.pure (i := 15) (by kernel_rfl) (by kernel_rfl) rfl rfl rfl (OpP.pickF rfl rfl) ?_
            refine DL.pure (i := 16) (by kernel_rfl) (by kernel_rfl) rfl rfl rfl (OpP.move rfl) ?_
            refine DL.pure (i := 17) (by kernel_rfl) (by kernel_rfl) rfl rfl rfl (OpP.fieldAddr rfl) ?_
            refine DL.read (i := 18) (by kernel_rfl) (by kernel_rfl) rfl rfl rfl (fun _ h => h) (OpR.load1 rfl (Cell.row .head rfl)) ?_
            refine DL.pure (i := 19) (by kernel_rfl) (by kernel_rfl) rfl rfl rfl (OpP.move rfl) ?_
            refine DL.pure (i := 20) (by kernel_rfl) (by kernel_rfl) rfl rfl rfl (OpP.indexAddr rfl rfl (by omega) (by omega)) ?_
            refine DL.pure (i := 21) (by kernel_rfl) (by kernel_rfl) rfl rfl rfl (OpP.fieldAddr rfl) ?_
            refine DL.read (i := 22) (by kernel_rfl) (by kernel_rfl) rfl rfl rfl (fun _ h => h) (OpR.load1 rfl (by apply Cells.cellChunk (j := 0) hcs (fun _ h => Own.pick (pre := [_]) [] rfl h); (case' h => assumption); (case' hi => assumption); (case' hv => rfl); (case' ho => omega); done)) ?_
            refine DL.pure (i := 23) (by kernel_rfl) (by kernel_rfl) rfl rfl rfl (OpP.fieldAddr rfl) ?_
            refine DL.read (i := 24) (by kernel_rfl) (by kernel_rfl) rfl rfl rfl (fun _ h => h) (OpR.load1 rfl (Cell.row .head rfl)) ?_
            refine DL.pure (i := 25) (by kernel_rfl) (by kernel_rfl) rfl rfl rfl (OpP.indexAddr rfl rfl (by omega) (by omega)) ?_
            refine DL.pure (i := 26) (by kernel_rfl) (by kernel_rfl) rfl rfl rfl (OpP.fieldAddr rfl) ?_
            refine DL.read (i := 27) (by kernel_rfl) (by kernel_rfl) rfl rfl rfl (fun _ h => h) (OpR.load1 rfl (by apply Cells.cellChunk (j := 0) hcs (fun _ h => Own.pick (pre := [_]) [] rfl h); (case' h => assumption); (case' hi => assumption); (case' hv => rfl); (case' ho => omega); done)) ?_
            refine DL.decF (i := 28) (by kernel_rfl) (by kernel_rfl) rfl rfl rfl (OpP.neq rfl rfl) (by omega) ?_
            refine DL.pure (i := 29) (by kernel_rfl) (by kernel_rfl) rfl rfl rfl (OpP.pickF rfl rfl) ?_
            refine DL.pure (i := 30) (by kernel_rfl) (by kernel_rfl) rfl rfl rfl (OpP.move rfl) ?_
            refine DL.pure (i := 31) (by kernel_rfl) (by kernel_rfl) rfl rfl rfl (OpP.move rfl) ?_
            refine DL.decF (i := 32) (by kernel_rfl) (by kernel_rfl) rfl rfl rfl (OpP.gtr rfl rfl) (by omega) ?_
            refine DL.pure (i := 33) (by kernel_rfl) (by kernel_rfl) rfl rfl rfl (OpP.move rfl) ?_
            refine DL.skip (i := 34) (by kernel_rfl) (by kernel_rfl) rfl rfl rfl ?_
            refine DL.skip (i := 35) (by kernel_rfl) (by kernel_rfl) rfl rfl rfl ?_
            refine DL.skip (i := 36) (by kernel_rfl) (by kernel_rfl) rfl rfl rfl ?_
            refine DL.skip (i := 37) (by kernel_rfl) (by kernel_rfl) rfl rfl rfl ?_
            refine DL.skip (i := 38) (by kernel_rfl) (by kernel_rfl) rfl rfl rfl ?_
            refine DL.skip (i := 39) (by kernel_rfl) (by kernel_rfl) rfl rfl rfl ?_
            refine DL.skip (i := 40) (by kernel_rfl) (by kernel_rfl) rfl rfl rfl ?_
            refine DL.skip (i := 41) (by kernel_rfl) (by kernel_rfl) rfl rfl rfl ?_
            refine DL.skip (i := 42) (by kernel_rfl) (by kernel_rfl) rfl rfl rfl ?_
            refine DL.skip (i := 43) (by kernel_rfl) (by kernel_rfl) rfl rfl rfl ?_
            refine DL.skip (i := 44) (by kernel_rfl) (by kernel_rfl) rfl rfl rfl ?_
            refine DL.skip (i := 45) (by kernel_rfl) (by kernel_rfl) rfl rfl rfl ?_
            refine DL.skip (i := 46) (by kernel_rfl) (by kernel_rfl) rfl rfl rfl ?_
            refine DL.pure (i := 47) (by kernel_rfl) (by kernel_rfl) rfl rfl rfl (OpP.pickF rfl rfl) ?_
            refine DL.pure (i := 48) (by kernel_rfl) (by kernel_rfl) rfl rfl rfl (OpP.pickF rfl rfl) ?_
            refine DL.done (by kernel_rfl) ?_
            refine J.condF rfl ?_
            refine J.skip ?_
            refine J.inBlock ?_
            refine J.region ?_
            refine JL.pure rfl rfl (OpP.move rfl) ?_
            refine JL.pure rfl rfl (OpP.addI rfl rfl (by omega) (by omega)) ?_
            refine JL.pure rfl rfl (OpP.assign rfl) ?_
            refine JL.nil ?_
          rotate_left 1
        rotate_left 2
        · refine ⟨_, ⟨_, rfl, rfl, ?_⟩, fun _ h => h.tail⟩
          rw [FormedP, if_neg (by decide)]
          exact ⟨(fun q => by cases q), fun q => absurd (q.2.2.2 0 e he).1 (nd' h37)⟩
        · refine ⟨_, ⟨_, rfl, rfl, ?_⟩, fun _ h => h.tail⟩
          rw [FormedP, if_neg (by decide)]
          exact ⟨(fun q => by cases q), fun q => absurd h44 (q.2.2.2 0 e he).2.1⟩
        · refine back 1 ⟨by omega, fun m e' hm hm' => ?_⟩ (by omega) (by repeat (first | exact SubEnv.nil | refine SubEnv.cons (by first | rfl | exact congrArg (fun z => some (Value.int .i64 z)) (by omega) | (simp; done)) ?_)) (fun _ h => h)
          obtain rfl : m = 0 := by omega
          obtain rfl : e' = e := Option.some.inj (hm'.symm.trans he)
          exact ⟨nd h37, h44, fun e0 h0 => by rw [Option.some.inj (hz.symm.trans h0)], fun p h => absurd h (Nat.lt_irrefl _)⟩
      · obtain ⟨p, hp⟩ : ∃ e, xs[j - 1]? = some e := ⟨_, List.getElem?_eq_getElem (show j - 1 < xs.length by omega)⟩
        have gp := hg (j - 1) _ (by omega) hp
        have hps := hx _ (List.mem_of_getElem? hp)
        unfold El.ok at hps
        refine J.seq ?_
        refine J.seq ?_
        refine J.region ?_
        refine JL.pure rfl rfl (OpP.move rfl) ?_
        refine JL.pure rfl rfl (OpP.fieldAddr rfl) ?_
        refine JL.read rfl rfl (OpR.load1 rfl (Cell.row .head rfl)) ?_
        refine JL.pure rfl rfl (OpP.len rfl rfl) ?_
        refine JL.decT rfl rfl (OpP.lss rfl rfl) (by omega) ?_
        refine JL.nil ?_
        refine J.condT rfl ?_
        refine J.skip ?_
        refine J.seq ?_
        refine J.block ?_
        refine J.seq ?_
        refine J.regionD [1, 4, 9, 13, 18, 22, 24, 27, 35, 39, 41, 44] (by kernel_rfl) ?_
        refine DL.pure (i := 0) (by kernel_rfl) (by kernel_rfl) rfl rfl rfl (OpP.fieldAddr rfl) ?_
        refine DL.read (i := 1) (by kernel_rfl) (by kernel_rfl) rfl rfl rfl (fun _ h => h) (OpR.load1 rfl (Cell.row .head rfl)) ?_
        refine DL.pure (i := 2) (by kernel_rfl) (by kernel_rfl) rfl rfl rfl (OpP.move rfl) ?_
        refine DL.pure (i := 3) (by kernel_rfl) (by kernel_rfl) rfl rfl rfl (OpP.indexAddr rfl rfl (by omega) (by omega)) ?_
        refine DL.read (i := 4) (by kernel_rfl) (by kernel_rfl) rfl rfl rfl (fun _ h => h) (OpR.loadN rfl (by apply Cells.conv (fun _ h => Own.pick (pre := [_]) [] rfl h); apply Cells.chunkAt hcs; (case' h => assumption); (case' hi => assumption); done) (by first | rfl | assumption)) ?_
        refine DL.only (i := 5) (by kernel_rfl) ?_
        refine DL1.stepK rfl rfl rfl (by exact OpW.call (first := []) (captured := []) inferInstance rfl rfl one_ok) (by rintro _ _ ⟨rfl, rfl⟩ _ h; exact Own.pick (pre := [_]) [0] rfl h) ?_; rintro r35 _ ⟨rfl, rfl⟩
        refine DL.pure (i := 6) (by kernel_rfl) (by kernel_rfl) rfl rfl rfl (OpP.notB rfl) ?_
        refine DL.pure (i := 7) (by kernel_rfl) (by kernel_rfl) rfl rfl rfl (OpP.move rfl) ?_
        refine DL.splitAt 37 rfl (fun h37 => ?_) (fun h37 => ?_)
        focus
          refine DL.skip (i := 8) (by kernel_rfl) (by kernel_rfl) rfl rfl rfl ?_
          refine DL.skip (i := 9) (by kernel_rfl) (by kernel_rfl) rfl rfl rfl ?_
          refine DL.skip (i := 10) (by kernel_rfl) (by kernel_rfl) rfl rfl rfl ?_
          refine DL.skip (i := 11) (by kernel_rfl) (by kernel_rfl) rfl rfl rfl ?_
          refine DL.skip (i := 12) (by kernel_rfl) (by kernel_rfl) rfl rfl rfl ?_
          refine DL.skip (i := 13) (by kernel_rfl) (by kernel_rfl) rfl rfl rfl ?_
          refine DL.skip (i := 14) (by kernel_rfl) (by kernel_rfl) rfl rfl rfl ?_
          refine DL.pure (i := 15) (by kernel_rfl) (by kernel_rfl) rfl rfl rfl (OpP.pickT rfl rfl) ?_
          refine DL.pure (i := 16) (by kernel_rfl) (by kernel_rfl) rfl rfl rfl (OpP.move rfl) ?_
          refine DL.skip (i := 17) (by kernel_rfl) (by kernel_rfl) rfl rfl rfl ?_
          refine DL.skip (i := 18) (by kernel_rfl) (by kernel_rfl) rfl rfl rfl ?_
          refine DL.skip (i := 19) (by kernel_rfl) (by kernel_rfl) rfl rfl rfl ?_
          refine DL.skip (i := 20) (by kernel_rfl) (by kernel_rfl) rfl rfl rfl ?_
          refine DL.skip (i := 21) (by kernel_rfl) (by kernel_rfl) rfl rfl rfl ?_
          refine DL.skip (i := 22) (by kernel_rfl) (by kernel_rfl) rfl rfl rfl ?_
          refine DL.skip (i := 23) (by kernel_rfl) (by kernel_rfl) rfl rfl rfl ?_
          refine DL.skip (i := 24) (by kernel_rfl) (by kernel_rfl) rfl rfl rfl ?_
          refine DL.skip (i := 25) (by kernel_rfl) (by kernel_rfl) rfl rfl rfl ?_
          refine DL.skip (i := 26) (by kernel_rfl) (by kernel_rfl) rfl rfl rfl ?_
          refine DL.skip (i := 27) (by kernel_rfl) (by kernel_rfl) rfl rfl rfl ?_
          refine DL.skip (i := 28) (by kernel_rfl) (by kernel_rfl) rfl rfl rfl ?_
          refine DL.pure (i := 29) (by kernel_rfl) (by kernel_rfl) rfl rfl rfl (OpP.pickT rfl rfl) ?_
          refine DL.pure (i := 30) (by kernel_rfl) (by kernel_rfl) rfl rfl rfl (OpP.move rfl) ?_
          refine DL.skip (i := 31) (by kernel_rfl) (by kernel_rfl) rfl rfl rfl ?_
          refine DL.skip (i := 32) (by kernel_rfl) (by kernel_rfl) rfl rfl rfl ?_
          refine DL.skip (i := 33) (by kernel_rfl) (by kernel_rfl) rfl rfl rfl ?_
          refine DL.skip (i := 34) (by kernel_rfl) (by kernel_rfl) rfl rfl rfl ?_
          refine DL.skip (i := 35) (by kernel_rfl) (by kernel_rfl) rfl rfl rfl ?_
          refine DL.skip (i := 36) (by kernel_rfl) (by kernel_rfl) rfl rfl rfl ?_
          refine DL.skip (i := 37) (by kernel_rfl) (by kernel_rfl) rfl rfl rfl ?_
          refine DL.skip (i := 38) (by kernel_rfl) (by kernel_rfl) rfl rfl rfl ?_
          refine DL.skip (i := 39) (by kernel_rfl) (by kernel_rfl) rfl rfl rfl ?_
          refine DL.skip (i := 40) (by kernel_rfl) (by kernel_rfl) rfl rfl rfl ?_
          refine DL.skip (i := 41) (by kernel_rfl) (by kernel_rfl) rfl rfl rfl ?_
          refine DL.skip (i := 42) (by kernel_rfl) (by kernel_rfl) rfl rfl rfl ?_
          refine DL.skip (i := 43) (by kernel_rfl) (by kernel_rfl) rfl rfl rfl ?_
          refine DL.skip (i := 44) (by kernel_rfl) (by kernel_rfl) rfl rfl rfl ?_
          refine DL.skip (i := 45) (by kernel_rfl) (by kernel_rfl) rfl rfl rfl ?_
          refine DL.skip (i := 46) (by kernel_rfl) (by kernel_rfl) rfl rfl rfl ?_
          refine DL.skip (i := 47) (by kernel_rfl) (by kernel_rfl) rfl rfl rfl ?_
          refine DL.pure (i := 48) (by kernel_rfl) (by kernel_rfl) rfl rfl rfl (OpP.pickT rfl rfl) ?_
          refine DL.done (by kernel_rfl) ?_
          refine J.condT rfl ?_
          refine J.seq ?_
          refine J.region ?_
          refine JL.pure rfl rfl (OpP.assign rfl) ?_
          refine JL.nil ?_
          refine J.ret1 rfl rfl ?_
        rotate_left 1
        focus
          refine DL.pure (i := 8) (by kernel_rfl) (by kernel_rfl) rfl rfl rfl (OpP.fieldAddr rfl) ?_
          refine DL.read (i := 9) (by kernel_rfl) (by kernel_rfl) rfl rfl rfl (fun _ h => h) (OpR.load1 rfl (Cell.row .head rfl)) ?_
          refine DL.pure (i := 10) (by kernel_rfl) (by kernel_rfl) rfl rfl rfl (OpP.move rfl) ?_
          refine DL.pure (i := 11) (by kernel_rfl) (by kernel_rfl) rfl rfl rfl (OpP.indexAddr rfl rfl (by omega) (by omega)) ?_
          refine DL.pure (i := 12) (by kernel_rfl) (by kernel_rfl) rfl rfl rfl (OpP.fieldAddr rfl) ?_
          refine DL.read (i := 13) (by kernel_rfl) (by kernel_rfl) rfl rfl rfl (fun _ h => h) (OpR.load1 rfl (by apply Cells.cellChunk (j := 0) hcs (fun _ h => Own.pick (pre := [_]) [] rfl h); (case' h => assumption); (case' hi => exact he); (case' hv => rfl); (case' ho => omega); done)) ?_
          refine DL.dec (i := 14) (by kernel_rfl) (by kernel_rfl) rfl rfl rfl (OpP.eql rfl rfl) (fun h44 => ?_) (fun h44 => ?_)
          focus
            refine DL.pure (i := 15) (by kernel_rfl) (by kernel_rfl) rfl rfl rfl (OpP.pickF rfl rfl) ?_
            refine DL.pure (i := 16) (by kernel_rfl) (by kernel_rfl) rfl rfl rfl (OpP.move rfl) ?_
            refine DL.skip (i := 17) (by kernel_rfl) (by kernel_rfl) rfl rfl rfl ?_
            refine DL.skip (i := 18) (by kernel_rfl) (by kernel_rfl) rfl rfl rfl ?_
            refine DL.skip (i := 19) (by kernel_rfl) (by kernel_rfl) rfl rfl rfl ?_
            refine DL.skip (i := 20) (by kernel_rfl) (by kernel_rfl) rfl rfl rfl ?_
            refine DL.skip (i := 21) (by kernel_rfl) (by kernel_rfl) rfl rfl rfl ?_
            refine DL.skip (i := 22) (by kernel_rfl) (by kernel_rfl) rfl rfl rfl ?_
            refine DL.skip (i := 23) (by kernel_rfl) (by kernel_rfl) rfl rfl rfl ?_
            refine DL.skip (i := 24) (by kernel_rfl) (by kernel_rfl) rfl rfl rfl ?_
            refine DL.skip (i := 25) (by kernel_rfl) (by kernel_rfl) rfl rfl rfl ?_
            refine DL.skip (i := 26) (by kernel_rfl) (by kernel_rfl) rfl rfl rfl ?_
            refine DL.skip (i := 27) (by kernel_rfl) (by kernel_rfl) rfl rfl rfl ?_
            refine DL.skip (i := 28) (by kernel_rfl) (by kernel_rfl) rfl rfl rfl ?_
            refine DL.pure (i := 29) (by kernel_rfl) (by kernel_rfl) rfl rfl rfl (OpP.pickT rfl rfl) ?_
            refine DL.pure (i := 30) (by kernel_rfl) (by kernel_rfl) rfl rfl rfl (OpP.move rfl) ?_
            refine DL.skip (i := 31) (by kernel_rfl) (by kernel_rfl) rfl rfl rfl ?_
            refine DL.skip (i := 32) (by kernel_rfl) (by kernel_rfl) rfl rfl rfl ?_
            refine DL.skip (i := 33) (by kernel_rfl) (by kernel_rfl) rfl rfl rfl ?_
            refine DL.skip (i := 34) (by kernel_rfl) (by kernel_rfl) rfl rfl rfl ?_
            refine DL.skip (i := 35) (by kernel_rfl) (by kernel_rfl) rfl rfl rfl ?_
            refine DL.skip (i := 36) (by kernel_rfl) (by kernel_rfl) rfl rfl rfl ?_
            refine DL.skip (i := 37) (by kernel_rfl) (by kernel_rfl) rfl rfl rfl ?_
            refine DL.skip (i := 38) (by kernel_rfl) (by kernel_rfl) rfl rfl rfl ?_
            refine DL.skip (i := 39) (by kernel_rfl) (by kernel_rfl) rfl rfl rfl ?_
            refine DL.skip (i := 40) (by kernel_rfl) (by kernel_rfl) rfl rfl rfl ?_
            refine DL.skip (i := 41) (by kernel_rfl) (by kernel_rfl) rfl rfl rfl ?_
            refine DL.skip (i := 42) (by kernel_rfl) (by kernel_rfl) rfl rfl rfl ?_
            refine DL.skip (i := 43) (by kernel_rfl) (by kernel_rfl) rfl rfl rfl ?_
            refine DL.skip (i := 44) (by kernel_rfl) (by kernel_rfl) rfl rfl rfl ?_
            refine DL.skip (i := 45) (by kernel_rfl) (by kernel_rfl) rfl rfl rfl ?_
            refine DL.skip (i := 46) (by kernel_rfl) (by kernel_rfl) rfl rfl rfl ?_
            refine DL.skip (i := 47) (by kernel_rfl) (by kernel_rfl) rfl rfl rfl ?_
            refine DL.pure (i := 48) (by kernel_rfl) (by kernel_rfl) rfl rfl rfl (OpP.pickT rfl rfl) ?_
            refine DL.done (by kernel_rfl) ?_
            refine J.condT rfl ?_
            refine J.seq ?_
            refine J.region ?_
            refine JL.pure rfl rfl (OpP.assign rfl) ?_
            refine JL.nil ?_
            refine J.ret1 rfl rfl ?_
          rotate_left 1
          focus
            refine DL.pure (i := 15) (by kernel_rfl) (by kernel_rfl) rfl rfl rfl (OpP.pickF rfl rfl) ?_
            refine DL.pure (i := 16) (by kernel_rfl) (by kernel_rfl) rfl rfl rfl (OpP.move rfl) ?_
            refine DL.pure (i := 17) (by kernel_rfl) (by kernel_rfl) rfl rfl rfl (OpP.fieldAddr rfl) ?_
            refine DL.read (i := 18) (by kernel_rfl) (by kernel_rfl) rfl rfl rfl (fun _ h => h) (OpR.load1 rfl (Cell.row .head rfl)) ?_
            refine DL.pure (i := 19) (by kernel_rfl) (by kernel_rfl) rfl rfl rfl (OpP.move rfl) ?_
            refine DL.pure (i := 20) (by kernel_rfl) (by kernel_rfl) rfl rfl rfl (OpP.indexAddr rfl rfl (by omega) (by omega)) ?_
            refine DL.pure (i := 21) (by kernel_rfl) (by kernel_rfl) rfl rfl rfl (OpP.fieldAddr rfl) ?_
            refine DL.read (i := 22) (by kernel_rfl) (by kernel_rfl) rfl rfl rfl (fun _ h => h) (OpR.load1 rfl (by apply Cells.cellChunk (j := 0) hcs (fun _ h => Own.pick (pre := [_]) [] rfl h); (case' h => assumption); (case' hi => exact he); (case' hv => rfl); (case' ho => omega); done)) ?_
            refine DL.pure (i := 23) (by kernel_rfl) (by kernel_rfl) rfl rfl rfl (OpP.fieldAddr rfl) ?_
            refine DL.read (i := 24) (by kernel_rfl) (by kernel_rfl) rfl rfl rfl (fun _ h => h) (OpR.load1 rfl (Cell.row .head rfl)) ?_
            refine DL.pure (i := 25) (by kernel_rfl) (by kernel_rfl) rfl rfl rfl (OpP.indexAddr rfl rfl (by omega) (by omega)) ?_
            refine DL.pure (i := 26) (by kernel_rfl) (by kernel_rfl) rfl rfl rfl (OpP.fieldAddr rfl) ?_
            refine DL.read (i := 27) (by kernel_rfl) (by kernel_rfl) rfl rfl rfl (fun _ h => h) (OpR.load1 rfl (by apply Cells.cellChunk (j := 0) hcs (fun _ h => Own.pick (pre := [_]) [] rfl h); (case' h => assumption); (case' hi => exact hz); (case' hv => rfl); (case' ho => omega); done)) ?_
            refine DL.dec (i := 28) (by kernel_rfl) (by kernel_rfl) rfl rfl rfl (OpP.neq rfl rfl) (fun h58 => ?_) (fun h58 => ?_)
            focus
              refine DL.pure (i := 29) (by kernel_rfl) (by kernel_rfl) rfl rfl rfl (OpP.pickF rfl rfl) ?_
              refine DL.pure (i := 30) (by kernel_rfl) (by kernel_rfl) rfl rfl rfl (OpP.move rfl) ?_
              refine DL.skip (i := 31) (by kernel_rfl) (by kernel_rfl) rfl rfl rfl ?_
              refine DL.skip (i := 32) (by kernel_rfl) (by kernel_rfl) rfl rfl rfl ?_
              refine DL.skip (i := 33) (by kernel_rfl) (by kernel_rfl) rfl rfl rfl ?_
              refine DL.skip (i := 34) (by kernel_rfl) (by kernel_rfl) rfl rfl rfl ?_
              refine DL.skip (i := 35) (by kernel_rfl) (by kernel_rfl) rfl rfl rfl ?_
              refine DL.skip (i := 36) (by kernel_rfl) (by kernel_rfl) rfl rfl rfl ?_
              refine DL.skip (i := 37) (by kernel_rfl) (by kernel_rfl) rfl rfl rfl ?_
              refine DL.skip (i := 38) (by kernel_rfl) (by kernel_rfl) rfl rfl rfl ?_
              refine DL.skip (i := 39) (by kernel_rfl) (by kernel_rfl) rfl rfl rfl ?_
              refine DL.skip (i := 40) (by kernel_rfl) (by kernel_rfl) rfl rfl rfl ?_
              refine DL.skip (i := 41) (by kernel_rfl) (by kernel_rfl) rfl rfl rfl ?_
              refine DL.skip (i := 42) (by kernel_rfl) (by kernel_rfl) rfl rfl rfl ?_
              refine DL.skip (i := 43) (by kernel_rfl) (by kernel_rfl) rfl rfl rfl ?_
              refine DL.skip (i := 44) (by kernel_rfl) (by kernel_rfl) rfl rfl rfl ?_
              refine DL.skip (i := 45) (by kernel_rfl) (by kernel_rfl) rfl rfl rfl ?_
              refine DL.skip (i := 46) (by kernel_rfl) (by kernel_rfl) rfl rfl rfl ?_
              refine DL.skip (i := 47) (by kernel_rfl) (by kernel_rfl) rfl rfl rfl ?_
              refine DL.pure (i := 48) (by kernel_rfl) (by kernel_rfl) rfl rfl rfl (OpP.pickT rfl rfl) ?_
              refine DL.done (by kernel_rfl) ?_
              refine J.condT rfl ?_
              refine J.seq ?_
              refine J.region ?_
              refine JL.pure rfl rfl (OpP.assign rfl) ?_
              refine JL.nil ?_
              refine J.ret1 rfl rfl ?_
            rotate_left 1
            focus
              refine DL.pure (i := 29) (by kernel_rfl) (by kernel_rfl) rfl rfl rfl (OpP.pickF rfl rfl) ?_
              refine DL.pure (i := 30) (by kernel_rfl) (by kernel_rfl) rfl rfl rfl (OpP.move rfl) ?_
              refine DL.pure (i := 31) (by kernel_rfl) (by kernel_rfl) rfl rfl rfl (OpP.move rfl) ?_
              refine DL.decT (i := 32) (by kernel_rfl) (by kernel_rfl) rfl rfl rfl (OpP.gtr rfl rfl) (by omega) ?_
              refine DL.pure (i := 33) (by kernel_rfl) (by kernel_rfl) rfl rfl rfl (OpP.move rfl) ?_
              refine DL.pure (i := 34) (by kernel_rfl) (by kernel_rfl) rfl rfl rfl (OpP.fieldAddr rfl) ?_
              refine DL.read (i := 35) (by kernel_rfl) (by kernel_rfl) rfl rfl rfl (fun _ h => h) (OpR.load1 rfl (Cell.row .head rfl)) ?_
              refine DL.pure (i := 36) (by kernel_rfl) (by kernel_rfl) rfl rfl rfl (OpP.move rfl) ?_
              refine DL.pure (i := 37) (by kernel_rfl) (by kernel_rfl) rfl rfl rfl (OpP.subI rfl rfl (by omega) (by omega)) ?_
              refine DL.pure (i := 38) (by kernel_rfl) (by kernel_rfl) rfl rfl rfl (OpP.indexAddr rfl rfl (by omega) (by omega)) ?_
              refine DL.read (i := 39) (by kernel_rfl) (by kernel_rfl) rfl rfl rfl (fun _ h => h) (OpR.loadN rfl (by apply Cells.conv (fun _ h => Own.pick (pre := [_]) [] rfl h); apply Cells.chunkAtE hcs; (case' h => assumption); (case' hi => exact hp); (case' ho => omega); done) (by first | rfl | assumption)) ?_
              refine DL.pure (i := 40) (by kernel_rfl) (by kernel_rfl) rfl rfl rfl (OpP.fieldAddr rfl) ?_
              refine DL.read (i := 41) (by kernel_rfl) (by kernel_rfl) rfl rfl rfl (fun _ h => h) (OpR.load1 rfl (Cell.row .head rfl)) ?_
              refine DL.pure (i := 42) (by kernel_rfl) (by kernel_rfl) rfl rfl rfl (OpP.move rfl) ?_
              refine DL.pure (i := 43) (by kernel_rfl) (by kernel_rfl) rfl rfl rfl (OpP.indexAddr rfl rfl (by omega) (by omega)) ?_
              refine DL.read (i := 44) (by kernel_rfl) (by kernel_rfl) rfl rfl rfl (fun _ h => h) (OpR.loadN rfl (by apply Cells.conv (fun _ h => Own.pick (pre := [_]) [] rfl h); apply Cells.chunkAt hcs; (case' h => assumption); (case' hi => assumption); done) (by first | rfl | assumption)) ?_
              refine DL.only (i := 45) (by kernel_rfl) ?_
              refine DL1.stepF rfl rfl rfl (by kernel_rfl) (by exact OpW.call (first := []) (captured := []) inferInstance rfl rfl (single_ok hps hes)) ?_; rintro r75 _ ⟨rfl, rfl⟩
              refine DL.dec (i := 46) (by kernel_rfl) (by kernel_rfl) rfl rfl rfl (OpP.geq rfl rfl) (fun h76 => ?_) (fun h76 => ?_)
              focus
                refine DL.pure (i := 47) (by kernel_rfl) (by kernel_rfl) rfl rfl rfl (OpP.pickT rfl rfl) ?_
                refine DL.pure (i := 48) (by kernel_rfl) (by kernel_rfl) rfl rfl rfl (OpP.pickF rfl rfl) ?_
                refine DL.done (by kernel_rfl) ?_
                refine J.condT rfl ?_
                refine J.seq ?_
                refine J.region ?_
                refine JL.pure rfl rfl (OpP.assign rfl) ?_
                refine JL.nil ?_
                refine J.ret1 rfl rfl ?_
              rotate_left 1
              focus
                refine DL.pure (i := 47) (by kernel_rfl) (by kernel_rfl) rfl rfl rfl (OpP.pickT rfl rfl) ?_
                refine DL.pure (i := 48) (by kernel_rfl) (by kernel_rfl) rfl rfl rfl (OpP.pickF rfl rfl) ?_
                refine DL.done (by kernel_rfl) ?_
                refine J.condF rfl ?_
                refine J.skip ?_
                refine J.inBlock ?_
                refine J.region ?_
                refine JL.pure rfl rfl (OpP.move rfl) ?_
                refine JL.pure rfl rfl (OpP.addI rfl rfl (by omega) (by omega)) ?_
                refine JL.pure rfl rfl (OpP.assign rfl) ?_
                refine JL.nil ?_
              rotate_left 1
            rotate_left 2
          rotate_left 3
        rotate_left 4
        · refine ⟨_, ⟨_, rfl, rfl, ?_⟩, fun _ h => h.tail⟩
          rw [FormedP, if_neg (by decide)]
          exact ⟨(fun q => by cases q), fun q => absurd (q.2.2.2 j e he).1 (nd' h37)⟩
        · refine ⟨_, ⟨_, rfl, rfl, ?_⟩, fun _ h => h.tail⟩
          rw [FormedP, if_neg (by decide)]
          exact ⟨(fun q => by cases q), fun q => absurd h44 (q.2.2.2 j e he).2.1⟩
        · refine ⟨_, ⟨_, rfl, rfl, ?_⟩, fun _ h => h.tail⟩
          rw [FormedP, if_neg (by decide)]
          exact ⟨(fun q => by cases q), fun q => absurd ((q.2.2.2 j e he).2.2.1 z hz) h58⟩
        · refine ⟨_, ⟨_, rfl, rfl, ?_⟩, fun _ h => h.tail⟩
          rw [FormedP, if_neg (by decide)]
          refine ⟨(fun q => by cases q), fun q => ?_⟩
          have h1 := (q.2.2.2 j e he).2.2.2 p (by omega) hp
          unfold Behind at h1
          omega
        · refine back (j + 1) ⟨by omega, fun m e' hm hm' => ?_⟩ (by omega) (by repeat (first | exact SubEnv.nil | refine SubEnv.cons (by first | rfl | exact congrArg (fun z => some (Value.int .i64 z)) (by omega) | (simp; done)) ?_)) (fun _ h => h)
          by_cases hmj : m < j
          · exact hg m e' hmj hm'
          · obtain rfl : m = j := by omega
            obtain rfl : e' = e := Option.some.inj (hm'.symm.trans he)
            refine ⟨nd h37, h44, fun e0 h0 => ?_, fun p' _ h => ?_⟩
            · rw [← Option.some.inj (hz.symm.trans h0)]; exact Decidable.not_not.1 h58
            · obtain rfl : p' = p := Option.some.inj (h.symm.trans hp)
              unfold Behind
              omega
    · have : j = xs.length := by omega
      subst this
      refine J.seq ?_
      refine J.seq ?_
      refine J.region ?_
      refine JL.pure rfl rfl (OpP.move rfl) ?_
      refine JL.pure rfl rfl (OpP.fieldAddr rfl) ?_
      refine JL.read rfl rfl (OpR.load1 rfl (Cell.row .head rfl)) ?_
      refine JL.pure rfl rfl (OpP.len rfl rfl) ?_
      refine JL.decF rfl rfl (OpP.lss rfl rfl) (by omega) ?_
      refine JL.nil ?_
      refine J.condF rfl ?_
      refine J.exit rfl ?_
      refine J.seq ?_
      refine J.region ?_
      refine JL.pure rfl rfl (OpP.assign rfl) ?_
      refine JL.nil ?_
      refine J.ret1 rfl rfl ?_
      refine ⟨_, ⟨_, rfl, rfl, ?_⟩, fun _ h => h.tail⟩
      rw [FormedP, if_neg (by decide)]
      exact ⟨fun _ => ⟨by omega, strB_nil.1 (Decidable.not_not.1 h15), by omega, fun j e h => hg j e (List.getElem?_eq_some_iff.1 h).1 h⟩, fun _ => rfl⟩
end Go.Proofs.E

-- seat e
namespace Go.Proofs.E
open Go Go.Gp Go.RowKit

/-! What is written: bytes, or bad. -/
def putO (o : Option (List UInt8)) (bs : List UInt8) : Option (List UInt8) := o.bind fun L => if L.length + bs.length ≤ 4096 then some (L ++ bs) else none
theorem putO_append {o : Option (List UInt8)} {a b : List UInt8} : putO (putO o a) b = putO o (a ++ b) := by
  cases o with
  | none => rfl
  | some L =>
    simp only [putO, Option.bind_some]
    by_cases h : L.length + a.length ≤ 4096
    · rw [if_pos h, Option.bind_some, List.length_append, List.length_append, List.append_assoc]
      simp only [Nat.add_assoc]
    · rw [if_neg h, if_neg (by rw [List.length_append]; omega)]; rfl
theorem putO_nil {o : Option (List UInt8)} (h : ∀ L, o = some L → L.length ≤ 4096) : putO o [] = o := by
  cases o with
  | none => rfl
  | some L => simp only [putO, Option.bind_some, List.length_nil, Nat.add_zero, List.append_nil]; rw [if_pos (h L rfl)]
/-- What a bad mark, and bytes, say. -/
def absO (bad : Bool) (L : List UInt8) : Option (List UInt8) := if bad then none else some L
abbrev outL (oe g : Nat) (bad : Bool) (v : Value) (L : List UInt8) (F : List HProp) : List HProp := row g oe [.bool bad, v] :: own 5 1 v L.length (bcells L) :: F
theorem spoil_ok {w0 : World} {F : List HProp} {oe g : Nat} {bad : Bool} {v : Value} :
    FnO Try.prog w0 51 [.pointer (some ⟨g, 0, none⟩)] (row g oe [.bool bad, v] :: F) (fun r l' => r = .tuple #[] ∧ l' = row g oe [.bool true, v] :: F) := by
  refine FnO.intro (n := 5) Try.func51 rfl rfl rfl ?_
  refine J.region ?_
  refine JL.pure rfl rfl (OpP.move rfl) ?_
  refine JL.pure rfl rfl (OpP.nilCheck rfl) ?_
  refine JL.pure rfl rfl (OpP.fieldAddr rfl) ?_
  refine JL.mem0 rfl (by apply OpM.store1 rfl rfl rfl; (case' hu => exact .head); (case' hs => exact (.here .nil)); done) ?_; rintro _ _ ⟨rfl, rfl⟩
  refine JL.nil ?_
  refine J.fin0 rfl ?_
  exact ⟨rfl, rfl⟩
theorem put_ok {w0 : World} {F : List HProp} {oe g : Nat} {bad : Bool} {v u : Value} {L bs : List UInt8} (hL : L.length ≤ 4096) (hb : bs.length ≤ 1000000000) (hr : RdO w0 F u bs.length (bcells bs)) :
    FnO Try.prog w0 87 [.pointer (some ⟨g, 0, none⟩), u] (outL oe g bad v L F) (fun r l' => r = .tuple #[] ∧ ∃ bad' v' L', L'.length ≤ 4096 ∧ absO bad' L' = putO (absO bad L) bs ∧ l' = outL oe g bad' v' L' F) := by
  refine FnO.rdF (fun _ h => h.tail.tail) hr fun hr1 => ?_
  obtain ⟨ua, uc, rfl⟩ := hr1.lit
  have hbl : (bcells bs).length = bs.length * 1 := by rw [bcells_length]; omega
  refine FnO.weak ?_
  refine FnO.intro (n := 33) Try.func87 rfl rfl rfl ?_
  refine J.lit (.tail .head) fun av cv ev => ?_; subst ev
  refine J.seq ?_
  refine J.seq ?_
  refine J.region ?_
  refine JL.pure rfl rfl (OpP.move rfl) ?_
  refine JL.pure rfl rfl (OpP.nilCheck rfl) ?_
  refine JL.pure rfl rfl (OpP.fieldAddr rfl) ?_
  refine JL.pure rfl rfl (OpP.fieldAddr rfl) ?_
  refine JL.read rfl rfl (OpR.load1 rfl (Cell.row .head rfl)) ?_
  refine JL.pure rfl rfl (OpP.move rfl) ?_
  refine JL.splitAt 9 rfl (fun h9 => ?_) (fun h9 => ?_)
  focus
    refine JL.skip rfl rfl ?_
    refine JL.skip rfl rfl ?_
    refine JL.skip rfl rfl ?_
    refine JL.skip rfl rfl ?_
    refine JL.skip rfl rfl ?_
    refine JL.skip rfl rfl ?_
    refine JL.skip rfl rfl ?_
    refine JL.skip rfl rfl ?_
    refine JL.skip rfl rfl ?_
    refine JL.pure rfl rfl (OpP.pickT rfl rfl) ?_
    refine JL.nil ?_
    refine J.condT rfl ?_
    refine J.seq ?_
    refine J.region ?_
    refine JL.pure rfl rfl (OpP.move rfl) ?_
    refine JL.pure rfl rfl (OpP.nilCheck rfl) ?_
    refine JL.pure rfl rfl (OpP.fieldAddr rfl) ?_
    refine JL.step rfl rfl (OpW.call (first := []) (captured := []) inferInstance rfl rfl spoil_ok) ?_; rintro r23 _ ⟨rfl, rfl⟩
    refine JL.nil ?_
    refine J.ret0 rfl ?_
  rotate_left 1
  focus
    refine JL.pure rfl rfl (OpP.move rfl) ?_
    refine JL.pure rfl rfl (OpP.nilCheck rfl) ?_
    refine JL.pure rfl rfl (OpP.fieldAddr rfl) ?_
    refine JL.read rfl rfl (OpR.load1 rfl (Cell.row .head rfl)) ?_
    refine JL.pure rfl rfl (OpP.len rfl rfl) ?_
    refine JL.pure rfl rfl (OpP.move rfl) ?_
    refine JL.pure rfl rfl (OpP.len rfl rfl) ?_
    refine JL.pure rfl rfl (OpP.addI rfl rfl (by omega) (by omega)) ?_
    refine JL.dec rfl rfl (OpP.gtr rfl rfl) (fun h18 => ?_) (fun h18 => ?_)
    focus
      refine JL.pure rfl rfl (OpP.pickF rfl rfl) ?_
      refine JL.nil ?_
      refine J.condT rfl ?_
      refine J.seq ?_
      refine J.region ?_
      refine JL.pure rfl rfl (OpP.move rfl) ?_
      refine JL.pure rfl rfl (OpP.nilCheck rfl) ?_
      refine JL.pure rfl rfl (OpP.fieldAddr rfl) ?_
      refine JL.step rfl rfl (OpW.call (first := []) (captured := []) inferInstance rfl rfl spoil_ok) ?_; rintro r23 _ ⟨rfl, rfl⟩
      refine JL.nil ?_
      refine J.ret0 rfl ?_
    rotate_left 1
    focus
      refine JL.pure rfl rfl (OpP.pickF rfl rfl) ?_
      refine JL.nil ?_
      refine J.condF rfl ?_
      refine J.skip ?_
      refine J.region ?_
      refine JL.pure rfl rfl (OpP.move rfl) ?_
      refine JL.pure rfl rfl (OpP.move rfl) ?_
      refine JL.pure rfl rfl (OpP.nilCheck rfl) ?_
      refine JL.pure rfl rfl (OpP.fieldAddr rfl) ?_
      refine JL.read rfl rfl (OpR.load1 rfl (Cell.row .head rfl)) ?_
      refine JL.pure rfl rfl (OpP.move rfl) ?_
      refine JL.f1 ?_; refine JL.mem rfl rfl (OpM.appendH rfl (.inl ⟨_, Sl.und inferInstance⟩) (by rfl) rfl rfl (RdO.src (hr.conv fun _ h => Own.pick (pre := [_, _]) [] rfl h) (by first | assumption | exact fc_length _ _ | (simp; done) | (simp; omega))) (by first | exact bcells_one _ | exact scells_one _ | exact icells_one _ | assumption | exact fc_one fun _ => rfl) (by simp only [maxLen]; omega) (by omega)) ?_; rintro _ _ ⟨⟨a30, c30, rfl⟩, rfl⟩
      refine JL.pure rfl rfl (OpP.nilCheck rfl) ?_
      refine JL.pure rfl rfl (OpP.fieldAddr rfl) ?_
      refine JL.mem0 rfl (by apply OpM.store1 rfl rfl rfl; (case' hu => exact (.tail .head)); (case' hs => exact (.there (.here .nil))); done) ?_; rintro _ _ ⟨rfl, rfl⟩
      refine JL.nil ?_
      refine J.fin0 rfl ?_
    rotate_left 1
  rotate_left 2
  · subst h9
    exact ⟨_, ⟨rfl, true, _, L, hL, rfl, rfl⟩, fun _ h => h⟩
  · subst h9
    exact ⟨_, ⟨rfl, true, _, L, hL, by simp only [absO, putO, Option.bind_some, if_false, if_true, Bool.false_eq_true]; rw [if_neg (by omega)], rfl⟩, fun _ h => h⟩
  · subst h9
    refine ⟨_, ⟨rfl, false, .slice a30 (L.length + bs.length) c30, L ++ bs, by rw [List.length_append]; omega, by simp only [absO, putO, Option.bind_some, if_false, Bool.false_eq_true]; rw [if_pos (by omega)], rfl⟩, fun _ h => ?_⟩
    rw [outL, List.length_append, show bcells (L ++ bs) = bcells L ++ bcells bs from List.map_append]
    exact Own.f1 h
/-- A number's bytes, the great ones ahead. -/
def be (n : Nat) : Nat → List UInt8
  | 0 => []
  | k + 1 => UInt8.ofNat (n / 256 ^ k) :: be n k
theorem be_length {n : Nat} : ∀ k, (be n k).length = k
  | 0 => rfl
  | k + 1 => by rw [be, List.length_cons, be_length k]
theorem wrap_u8 (a : Int) : IntKind.u8.wrap a = a % 256 := by
  simp [IntKind.wrap, IntKind.signed, IntKind.bits]
theorem wrapB (k : Nat) : Value.int .u8 (IntKind.u8.wrap (k : Int)) = u8c (UInt8.ofNat k) := by
  rw [wrap_u8, u8c, UInt8.toNat_ofNat']; rfl
theorem wide_ok {w0 : World} {F : List HProp} {oe g n size : Nat} {bad : Bool} {v : Value} {L : List UInt8} (hL : L.length ≤ 4096) (hn : n < 18446744073709551616) (hs : size ≤ 8) :
    FnO Try.prog w0 86 [.pointer (some ⟨g, 0, none⟩), .int .u64 (n : Nat), .int .i64 (size : Nat)] (outL oe g bad v L F) (fun r l' => r = .tuple #[] ∧ ∃ bad' v' L', L'.length ≤ 4096 ∧ absO bad' L' = putO (absO bad L) (be n size) ∧ l' = outL oe g bad' v' L' F) := by
  refine FnO.weak ?_
  refine FnO.intro (n := 21) Try.func86 rfl rfl rfl ?_
  refine J.lit (.tail .head) fun av cv ev => ?_; subst ev
  refine J.seq ?_
  refine J.region ?_
  refine JL.pure rfl rfl (OpP.move rfl) ?_
  refine JL.pure rfl rfl (OpP.subI rfl rfl (by omega) (by omega)) ?_
  refine JL.pure rfl rfl (OpP.mulI rfl rfl (by omega) (by omega)) ?_
  refine JL.pure rfl rfl (OpP.assign rfl) ?_
  refine JL.nil ?_
  refine J.block ?_
  refine J.loopI (fun x : Nat × Bool × Value × List UInt8 => x.1) (fun x => x.1 ≤ size ∧ x.2.2.2.length ≤ 4096 ∧ putO (absO x.2.1 x.2.2.2) (be n x.1) = putO (absO bad L) (be n size)) (fun x => [(6, .int .i64 (8 * ((x.1 : Nat) - 1 : Int))), (0, .pointer (some ⟨g, 0, none⟩)), (1, .int .u64 (n : Nat))])
    (fun x => outL oe g x.2.1 x.2.2.1 x.2.2.2 F) (size, bad, .slice av L.length cv, L) ⟨Nat.le_refl _, hL, rfl⟩ (by repeat (first | exact SubEnv.nil | refine SubEnv.cons (by first | rfl | exact congrArg (fun z => some (Value.int .i64 z)) (by omega) | (simp; done)) ?_)) (fun _ h => h) (fun ⟨k, bd, z, M⟩ hi back => ?_)
  dsimp only at hi back ⊢
  obtain ⟨hk, hM, he⟩ := hi
  cases k with
  | zero =>
    refine J.lit (.tail .head) fun az cz ez => ?_; subst ez
    refine J.seq ?_
    refine J.seq ?_
    refine J.region ?_
    refine JL.pure rfl rfl (OpP.move rfl) ?_
    refine JL.decF rfl rfl (OpP.geq rfl rfl) (by omega) ?_
    refine JL.nil ?_
    refine J.condF rfl ?_
    refine J.exit rfl ?_
    refine J.fin0 rfl ?_
    exact ⟨_, ⟨rfl, bd, _, M, hM, by rw [← he, be, putO_nil]; intro L' h; unfold absO at h; split at h <;> simp at h; subst h; exact hM, rfl⟩, fun _ h => h⟩
  | succ m =>
    rw [show (8 * (((m + 1 : Nat) : Int) - 1)) = ((8 * m : Nat) : Int) by omega]
    refine J.lit (.tail .head) fun az cz ez => ?_; subst ez
    refine J.seq ?_
    refine J.seq ?_
    refine J.region ?_
    refine JL.pure rfl rfl (OpP.move rfl) ?_
    refine JL.decT rfl rfl (OpP.geq rfl rfl) (by omega) ?_
    refine JL.nil ?_
    refine J.condT rfl ?_
    refine J.skip ?_
    refine J.seq ?_
    refine J.block ?_
    refine J.region ?_
    refine JL.pure rfl rfl (OpP.move rfl) ?_
    refine JL.pure rfl rfl (OpP.move rfl) ?_
    refine JL.pure rfl rfl (OpP.move rfl) ?_
    refine JL.pure rfl rfl (OpP.shrN rfl rfl (by omega) (by first | decide | (simp only [IntKind.bits]; omega))) ?_
    refine JL.pure rfl rfl (OpP.conv rfl) ?_
    refine JL.mem rfl rfl (by apply OpM.buildSlice (by rfl) rfl (by rfl); (repeat (first | exact Fills.nil | (apply Fills.cons rfl rfl rfl; (case' hs => ((repeat (first | exact Spl.nil | apply Spl.here | apply Spl.there)); done)))))) ?_; rintro _ _ ⟨b19, rfl, rfl⟩
    have e : n / 2 ^ ((8 * m : Nat) : Int).toNat = n / 256 ^ m := by rw [Int.toNat_natCast, Nat.pow_mul]
    rw [wrapB, e]
    refine JL.f2 ?_; refine JL.f2 ?_; refine JL.step rfl rfl (OpW.call (first := []) (captured := []) inferInstance rfl rfl (put_ok (bs := [UInt8.ofNat (n / 256 ^ m)]) hM (by exact Nat.le_of_ble_eq_true rfl) (RdO.ofRow .head (by first | exact Nat.le_refl _ | decide | omega)))) ?_; rintro r20 _ ⟨rfl, ⟨bad', ⟨v', ⟨L', ⟨h20, ⟨h201, rfl⟩⟩⟩⟩⟩⟩
    refine JL.lit (.tail .head) fun av' cv' ev' => ?_; subst ev'
    refine JL.nil ?_
    refine J.inBlock ?_
    refine J.region ?_
    refine JL.pure rfl rfl (OpP.move rfl) ?_
    refine JL.pure rfl rfl (OpP.subI rfl rfl (by omega) (by omega)) ?_
    refine JL.pure rfl rfl (OpP.assign rfl) ?_
    refine JL.nil ?_
    rw [show (((8 * m : Nat) : Int) - 8) = 8 * (((m : Nat) : Int) - 1) by omega]
    refine back (m, bad', .slice av' L'.length cv', L') ⟨by dsimp only; omega, h20, ?_⟩ (Nat.lt_succ_self m) (by repeat (first | exact SubEnv.nil | refine SubEnv.cons (by first | rfl | exact congrArg (fun z => some (Value.int .i64 z)) (by omega) | (simp; done)) ?_)) (fun _ h => Own.pick (pre := [_, _, _]) [0, 1] rfl h)
    dsimp only
    rw [h201, putO_append, ← he]; rfl
end Go.Proofs.E

-- seat e
namespace Go.Proofs.E
open Go Go.Gp Go.RowKit

/-- What a function that writes does. -/
abbrev Wrote (w0 : World) (f : FuncId) (args : List Value) (oe g : Nat) (bad : Bool) (v : Value) (L : List UInt8) (F : List HProp) (o : Option (List UInt8)) : Prop :=
  FnO Try.prog w0 f args (outL oe g bad v L F) (fun r l' => r = .tuple #[] ∧ ∃ bad' v' L', L'.length ≤ 4096 ∧ absO bad' L' = o ∧ l' = outL oe g bad' v' L' F)
def smallO (o : Option (List UInt8)) (n : Int) (size : Nat) : Option (List UInt8) := if n < 0 ∨ 256 ^ size ≤ n then none else putO o (be n.toNat size)
theorem small_ok {w0 : World} {F : List HProp} {oe g size : Nat} {n : Int} {bad : Bool} {v : Value} {L : List UInt8} (hL : L.length ≤ 4096) (hs : size = 1 ∨ size = 2 ∨ size = 4) :
    Wrote w0 65 [.pointer (some ⟨g, 0, none⟩), .int .i64 n, .int .i64 (size : Nat)] oe g bad v L F (smallO (absO bad L) n size) := by
  refine FnO.weak ?_
  by_cases hn : n < 0
  · refine FnO.intro (n := 24) Try.func65 rfl rfl rfl ?_
    refine J.lit (.tail .head) fun av cv ev => ?_; subst ev
    refine J.seq ?_
    refine J.seq ?_
    refine J.region ?_
    refine JL.pure rfl rfl (OpP.move rfl) ?_
    refine JL.decT rfl rfl (OpP.lss rfl rfl) (by omega) ?_
    refine JL.pure rfl rfl (OpP.move rfl) ?_
    refine JL.skip rfl rfl ?_
    refine JL.skip rfl rfl ?_
    refine JL.skip rfl rfl ?_
    refine JL.skip rfl rfl ?_
    refine JL.skip rfl rfl ?_
    refine JL.pure rfl rfl (OpP.pickT rfl rfl) ?_
    refine JL.nil ?_
    refine J.condT rfl ?_
    refine J.seq ?_
    refine J.region ?_
    refine JL.pure rfl rfl (OpP.move rfl) ?_
    refine JL.pure rfl rfl (OpP.nilCheck rfl) ?_
    refine JL.pure rfl rfl (OpP.fieldAddr rfl) ?_
    refine JL.step rfl rfl (OpW.call (first := []) (captured := []) inferInstance rfl rfl spoil_ok) ?_; rintro r18 _ ⟨rfl, rfl⟩
    refine JL.nil ?_
    refine J.ret0 rfl ?_
    exact ⟨_, ⟨rfl, true, _, L, hL, by rw [smallO, if_pos (.inl hn)]; rfl, rfl⟩, fun _ h => h⟩
  · obtain ⟨m, rfl⟩ := Int.eq_ofNat_of_zero_le (show 0 ≤ n by omega)
    rcases hs with rfl | rfl | rfl
    · refine FnO.intro (n := 24) Try.func65 rfl rfl rfl ?_
      refine J.lit (.tail .head) fun av cv ev => ?_; subst ev
      refine J.seq ?_
      refine J.seq ?_
      refine J.region ?_
      refine JL.pure rfl rfl (OpP.move rfl) ?_
      refine JL.decF rfl rfl (OpP.lss rfl rfl) (by omega) ?_
      refine JL.pure rfl rfl (OpP.move rfl) ?_
      refine JL.pure rfl rfl (OpP.move rfl) ?_
      refine JL.pure rfl rfl (OpP.move rfl) ?_
      refine JL.pure rfl rfl (OpP.mulI rfl rfl (by omega) (by omega)) ?_
      refine JL.pure rfl rfl (OpP.shlC 256 rfl rfl (by decide) (by decide)) ?_
      refine JL.dec rfl rfl (OpP.geq rfl rfl) (fun h13 => ?_) (fun h13 => ?_)
      focus
        refine JL.pure rfl rfl (OpP.pickF rfl rfl) ?_
        refine JL.nil ?_
        refine J.condT rfl ?_
        refine J.seq ?_
        refine J.region ?_
        refine JL.pure rfl rfl (OpP.move rfl) ?_
        refine JL.pure rfl rfl (OpP.nilCheck rfl) ?_
        refine JL.pure rfl rfl (OpP.fieldAddr rfl) ?_
        refine JL.step rfl rfl (OpW.call (first := []) (captured := []) inferInstance rfl rfl spoil_ok) ?_; rintro r18 _ ⟨rfl, rfl⟩
        refine JL.nil ?_
        refine J.ret0 rfl ?_
      rotate_left 1
      focus
        refine JL.pure rfl rfl (OpP.pickF rfl rfl) ?_
        refine JL.nil ?_
        refine J.condF rfl ?_
        refine J.skip ?_
        refine J.region ?_
        refine JL.pure rfl rfl (OpP.move rfl) ?_
        refine JL.pure rfl rfl (OpP.move rfl) ?_
        refine JL.pure rfl rfl (OpP.convI rfl (by simp [IntKind.min, IntKind.max, IntKind.signed, IntKind.bits] <;> omega) (by simp [IntKind.min, IntKind.max, IntKind.signed, IntKind.bits] <;> omega)) ?_
        refine JL.pure rfl rfl (OpP.move rfl) ?_
        refine JL.step rfl rfl (OpW.call (first := []) (captured := []) inferInstance rfl rfl (wide_ok (n := m) (size := 1) hL (by omega) (by omega))) ?_; rintro r23 _ ⟨rfl, ⟨bad', ⟨v', ⟨L', ⟨h23, ⟨h231, rfl⟩⟩⟩⟩⟩⟩
        refine JL.lit (.tail .head) fun av' cv' ev' => ?_; subst ev'
        refine JL.nil ?_
        refine J.fin0 rfl ?_
      rotate_left 1
      · exact ⟨_, ⟨rfl, true, _, L, hL, by rw [smallO, if_pos (.inr (by omega))]; rfl, rfl⟩, fun _ h => h⟩
      · exact ⟨_, ⟨rfl, bad', _, L', h23, by rw [smallO, if_neg (by omega)]; exact h231, rfl⟩, fun _ h => h⟩
    · refine FnO.intro (n := 24) Try.func65 rfl rfl rfl ?_
      refine J.lit (.tail .head) fun av cv ev => ?_; subst ev
      refine J.seq ?_
      refine J.seq ?_
      refine J.region ?_
      refine JL.pure rfl rfl (OpP.move rfl) ?_
      refine JL.decF rfl rfl (OpP.lss rfl rfl) (by omega) ?_
      refine JL.pure rfl rfl (OpP.move rfl) ?_
      refine JL.pure rfl rfl (OpP.move rfl) ?_
      refine JL.pure rfl rfl (OpP.move rfl) ?_
      refine JL.pure rfl rfl (OpP.mulI rfl rfl (by omega) (by omega)) ?_
      refine JL.pure rfl rfl (OpP.shlC 65536 rfl rfl (by decide) (by decide)) ?_
      refine JL.dec rfl rfl (OpP.geq rfl rfl) (fun h13 => ?_) (fun h13 => ?_)
      focus
        refine JL.pure rfl rfl (OpP.pickF rfl rfl) ?_
        refine JL.nil ?_
        refine J.condT rfl ?_
        refine J.seq ?_
        refine J.region ?_
        refine JL.pure rfl rfl (OpP.move rfl) ?_
        refine JL.pure rfl rfl (OpP.nilCheck rfl) ?_
        refine JL.pure rfl rfl (OpP.fieldAddr rfl) ?_
        refine JL.step rfl rfl (OpW.call (first := []) (captured := []) inferInstance rfl rfl spoil_ok) ?_; rintro r18 _ ⟨rfl, rfl⟩
        refine JL.nil ?_
        refine J.ret0 rfl ?_
      rotate_left 1
      focus
        refine JL.pure rfl rfl (OpP.pickF rfl rfl) ?_
        refine JL.nil ?_
        refine J.condF rfl ?_
        refine J.skip ?_
        refine J.region ?_
        refine JL.pure rfl rfl (OpP.move rfl) ?_
        refine JL.pure rfl rfl (OpP.move rfl) ?_
        refine JL.pure rfl rfl (OpP.convI rfl (by simp [IntKind.min, IntKind.max, IntKind.signed, IntKind.bits] <;> omega) (by simp [IntKind.min, IntKind.max, IntKind.signed, IntKind.bits] <;> omega)) ?_
        refine JL.pure rfl rfl (OpP.move rfl) ?_
        refine JL.step rfl rfl (OpW.call (first := []) (captured := []) inferInstance rfl rfl (wide_ok (n := m) (size := 2) hL (by omega) (by omega))) ?_; rintro r23 _ ⟨rfl, ⟨bad', ⟨v', ⟨L', ⟨h23, ⟨h231, rfl⟩⟩⟩⟩⟩⟩
        refine JL.lit (.tail .head) fun av' cv' ev' => ?_; subst ev'
        refine JL.nil ?_
        refine J.fin0 rfl ?_
      rotate_left 1
      · exact ⟨_, ⟨rfl, true, _, L, hL, by rw [smallO, if_pos (.inr (by omega))]; rfl, rfl⟩, fun _ h => h⟩
      · exact ⟨_, ⟨rfl, bad', _, L', h23, by rw [smallO, if_neg (by omega)]; exact h231, rfl⟩, fun _ h => h⟩
    · refine FnO.intro (n := 24) Try.func65 rfl rfl rfl ?_
      refine J.lit (.tail .head) fun av cv ev => ?_; subst ev
      refine J.seq ?_
      refine J.seq ?_
      refine J.region ?_
      refine JL.pure rfl rfl (OpP.move rfl) ?_
      refine JL.decF rfl rfl (OpP.lss rfl rfl) (by omega) ?_
      refine JL.pure rfl rfl (OpP.move rfl) ?_
      refine JL.pure rfl rfl (OpP.move rfl) ?_
      refine JL.pure rfl rfl (OpP.move rfl) ?_
      refine JL.pure rfl rfl (OpP.mulI rfl rfl (by omega) (by omega)) ?_
      refine JL.pure rfl rfl (OpP.shlC 4294967296 rfl rfl (by decide) (by decide)) ?_
      refine JL.dec rfl rfl (OpP.geq rfl rfl) (fun h13 => ?_) (fun h13 => ?_)
      focus
        refine JL.pure rfl rfl (OpP.pickF rfl rfl) ?_
        refine JL.nil ?_
        refine J.condT rfl ?_
        refine J.seq ?_
        refine J.region ?_
        refine JL.pure rfl rfl (OpP.move rfl) ?_
        refine JL.pure rfl rfl (OpP.nilCheck rfl) ?_
        refine JL.pure rfl rfl (OpP.fieldAddr rfl) ?_
        refine JL.step rfl rfl (OpW.call (first := []) (captured := []) inferInstance rfl rfl spoil_ok) ?_; rintro r18 _ ⟨rfl, rfl⟩
        refine JL.nil ?_
        refine J.ret0 rfl ?_
      rotate_left 1
      focus
        refine JL.pure rfl rfl (OpP.pickF rfl rfl) ?_
        refine JL.nil ?_
        refine J.condF rfl ?_
        refine J.skip ?_
        refine J.region ?_
        refine JL.pure rfl rfl (OpP.move rfl) ?_
        refine JL.pure rfl rfl (OpP.move rfl) ?_
        refine JL.pure rfl rfl (OpP.convI rfl (by simp [IntKind.min, IntKind.max, IntKind.signed, IntKind.bits] <;> omega) (by simp [IntKind.min, IntKind.max, IntKind.signed, IntKind.bits] <;> omega)) ?_
        refine JL.pure rfl rfl (OpP.move rfl) ?_
        refine JL.step rfl rfl (OpW.call (first := []) (captured := []) inferInstance rfl rfl (wide_ok (n := m) (size := 4) hL (by omega) (by omega))) ?_; rintro r23 _ ⟨rfl, ⟨bad', ⟨v', ⟨L', ⟨h23, ⟨h231, rfl⟩⟩⟩⟩⟩⟩
        refine JL.lit (.tail .head) fun av' cv' ev' => ?_; subst ev'
        refine JL.nil ?_
        refine J.fin0 rfl ?_
      rotate_left 1
      · exact ⟨_, ⟨rfl, true, _, L, hL, by rw [smallO, if_pos (.inr (by omega))]; rfl, rfl⟩, fun _ h => h⟩
      · exact ⟨_, ⟨rfl, bad', _, L', h23, by rw [smallO, if_neg (by omega)]; exact h231, rfl⟩, fun _ h => h⟩
theorem small1_ok {w0 : World} {F : List HProp} {oe g : Nat} {n : Int} {bad : Bool} {v : Value} {L : List UInt8} (hL : L.length ≤ 4096) :
    Wrote w0 65 [.pointer (some ⟨g, 0, none⟩), .int .i64 n, .int .i64 1] oe g bad v L F (smallO (absO bad L) n 1) := small_ok (size := 1) hL (.inl rfl)
theorem small2_ok {w0 : World} {F : List HProp} {oe g : Nat} {n : Int} {bad : Bool} {v : Value} {L : List UInt8} (hL : L.length ≤ 4096) :
    Wrote w0 65 [.pointer (some ⟨g, 0, none⟩), .int .i64 n, .int .i64 2] oe g bad v L F (smallO (absO bad L) n 2) := small_ok (size := 2) hL (.inr (.inl rfl))
theorem wide8_ok {w0 : World} {F : List HProp} {oe g n : Nat} {bad : Bool} {v : Value} {L : List UInt8} (hL : L.length ≤ 4096) (hn : n < 18446744073709551616) :
    Wrote w0 86 [.pointer (some ⟨g, 0, none⟩), .int .u64 (n : Nat), .int .i64 8] oe g bad v L F (putO (absO bad L) (be n 8)) := wide_ok (size := 8) hL hn (Nat.le_refl _)
theorem outU8_ok {w0 : World} {F : List HProp} {oe g : Nat} {n : Int} {bad : Bool} {v : Value} {L : List UInt8} (hL : L.length ≤ 4096) : Wrote w0 35 [.pointer (some ⟨g, 0, none⟩), .int .i64 n] oe g bad v L F (smallO (absO bad L) n 1) := by
  refine FnO.intro (n := 7) Try.func35 rfl rfl rfl ?_
  refine J.lit (.tail .head) fun av cv ev => ?_; subst ev
  refine J.region ?_
  refine JL.pure rfl rfl (OpP.move rfl) ?_
  refine JL.pure rfl rfl (OpP.move rfl) ?_
  refine JL.step rfl rfl (OpW.call (first := []) (captured := []) inferInstance rfl rfl (small1_ok hL)) ?_; rintro r6 _ ⟨rfl, ⟨bad', ⟨v', ⟨L', ⟨h6, ⟨h61, rfl⟩⟩⟩⟩⟩⟩
  refine JL.lit (.tail .head) fun av' cv' ev' => ?_; subst ev'
  refine JL.nil ?_
  refine J.fin0 rfl ?_
  exact ⟨rfl, bad', _, L', h6, h61, rfl⟩
theorem outU16_ok {w0 : World} {F : List HProp} {oe g : Nat} {n : Int} {bad : Bool} {v : Value} {L : List UInt8} (hL : L.length ≤ 4096) : Wrote w0 59 [.pointer (some ⟨g, 0, none⟩), .int .i64 n] oe g bad v L F (smallO (absO bad L) n 2) := by
  refine FnO.intro (n := 7) Try.func59 rfl rfl rfl ?_
  refine J.lit (.tail .head) fun av cv ev => ?_; subst ev
  refine J.region ?_
  refine JL.pure rfl rfl (OpP.move rfl) ?_
  refine JL.pure rfl rfl (OpP.move rfl) ?_
  refine JL.step rfl rfl (OpW.call (first := []) (captured := []) inferInstance rfl rfl (small2_ok hL)) ?_; rintro r6 _ ⟨rfl, ⟨bad', ⟨v', ⟨L', ⟨h6, ⟨h61, rfl⟩⟩⟩⟩⟩⟩
  refine JL.lit (.tail .head) fun av' cv' ev' => ?_; subst ev'
  refine JL.nil ?_
  refine J.fin0 rfl ?_
  exact ⟨rfl, bad', _, L', h6, h61, rfl⟩
/-- A number with a sign, as one without. -/
def u64 (n : Int) : Nat := (n % 18446744073709551616).toNat
theorem u64_lt (n : Int) : u64 n < 18446744073709551616 := by unfold u64; omega
theorem u64_wrap (n : Int) : IntKind.u64.wrap n = (u64 n : Nat) := by
  have : IntKind.u64.wrap n = n % 18446744073709551616 := by simp [IntKind.wrap, IntKind.signed, IntKind.bits]
  rw [this, u64]; omega
theorem outI64_ok {w0 : World} {F : List HProp} {oe g : Nat} {n : Int} {bad : Bool} {v : Value} {L : List UInt8} (hL : L.length ≤ 4096) : Wrote w0 61 [.pointer (some ⟨g, 0, none⟩), .int .i64 n] oe g bad v L F (putO (absO bad L) (be (u64 n) 8)) := by
  have hu := u64_lt n
  refine FnO.intro (n := 8) Try.func61 rfl rfl rfl ?_
  refine J.lit (.tail .head) fun av cv ev => ?_; subst ev
  refine J.region ?_
  refine JL.pure rfl rfl (OpP.move rfl) ?_
  refine JL.pure rfl rfl (OpP.move rfl) ?_
  refine JL.pure rfl rfl (OpP.conv rfl) ?_
  rw [u64_wrap]
  refine JL.step rfl rfl (OpW.call (first := []) (captured := []) inferInstance rfl rfl (wide8_ok hL hu)) ?_; rintro r7 _ ⟨rfl, ⟨bad', ⟨v', ⟨L', ⟨h7, ⟨h71, rfl⟩⟩⟩⟩⟩⟩
  refine JL.lit (.tail .head) fun av' cv' ev' => ?_; subst ev'
  refine JL.nil ?_
  refine J.fin0 rfl ?_
  exact ⟨rfl, bad', _, L', h7, h71, rfl⟩
end Go.Proofs.E

-- seat e
namespace Go.Proofs.E
open Go Go.Gp Go.RowKit

theorem smallO_in {o : Option (List UInt8)} {n size : Nat} (h : n < 256 ^ size) : smallO o (n : Nat) size = putO o (be n size) := by
  have e : (256 : Int) ^ size = ((256 ^ size : Nat) : Int) := (Int.natCast_pow 256 size).symm
  rw [smallO, if_neg]
  · rfl
  · intro q
    rcases q with q | q
    · omega
    · rw [e] at q
      exact absurd (Int.ofNat_le.1 q) (Nat.not_le.2 h)
def textO (o : Option (List UInt8)) (s : List UInt8) : Option (List UInt8) := if 4096 < s.length then none else putO o (be s.length 2 ++ s)
theorem outText_ok {w0 : World} {F : List HProp} {oe g : Nat} {bad : Bool} {v : Value} {L s : List UInt8} (hL : L.length ≤ 4096) (hs : s.length ≤ 1000000000) : Wrote w0 63 [.pointer (some ⟨g, 0, none⟩), .string (strB s)] oe g bad v L F (textO (absO bad L) s) := by
  have es := strB_size s
  refine FnO.weak ?_
  refine FnO.intro (n := 19) Try.func63 rfl rfl rfl ?_
  refine J.lit (.tail .head) fun av cv ev => ?_; subst ev
  refine J.seq ?_
  refine J.seq ?_
  refine J.region ?_
  refine JL.pure rfl rfl (OpP.move rfl) ?_
  refine JL.pure rfl rfl (OpP.lenStr rfl rfl) ?_
  refine JL.dec rfl rfl (OpP.gtr rfl rfl) (fun h6 => ?_) (fun h6 => ?_)
  focus
    refine JL.nil ?_
    refine J.condT rfl ?_
    refine J.seq ?_
    refine J.region ?_
    refine JL.pure rfl rfl (OpP.move rfl) ?_
    refine JL.pure rfl rfl (OpP.nilCheck rfl) ?_
    refine JL.pure rfl rfl (OpP.fieldAddr rfl) ?_
    refine JL.step rfl rfl (OpW.call (first := []) (captured := []) inferInstance rfl rfl spoil_ok) ?_; rintro r10 _ ⟨rfl, rfl⟩
    refine JL.nil ?_
    refine J.ret0 rfl ?_
  rotate_left 1
  focus
    refine JL.nil ?_
    refine J.condF rfl ?_
    refine J.skip ?_
    refine J.seq ?_
    refine J.region ?_
    refine JL.pure rfl rfl (OpP.move rfl) ?_
    refine JL.pure rfl rfl (OpP.move rfl) ?_
    refine JL.pure rfl rfl (OpP.lenStr rfl rfl) ?_
    refine JL.step rfl rfl (OpW.call (first := []) (captured := []) inferInstance rfl rfl (outU16_ok (by assumption))) ?_; rintro r14 _ ⟨rfl, ⟨bad', ⟨v', ⟨L', ⟨h14, ⟨h141, rfl⟩⟩⟩⟩⟩⟩
    refine JL.lit (.tail .head) fun av' cv' ev' => ?_; subst ev'
    refine JL.nil ?_
    refine J.region ?_
    refine JL.pure rfl rfl (OpP.move rfl) ?_
    refine JL.pure rfl rfl (OpP.move rfl) ?_
    refine JL.mem rfl rfl (OpM.strToBytesC rfl) ?_; rintro _ _ ⟨b17, c17, rfl, k17, rfl⟩
    refine JL.f2 ?_; refine JL.f2 ?_; refine JL.step rfl rfl (OpW.call (first := []) (captured := []) inferInstance rfl rfl (put_ok (bs := s) (by assumption) hs (RdO.ofRdo .head (by first | exact Nat.le_refl _ | decide | omega)))) ?_; rintro r18 _ ⟨rfl, ⟨bad'1, ⟨v', ⟨L'1, ⟨h18, ⟨h181, rfl⟩⟩⟩⟩⟩⟩
    refine JL.lit (.tail .head) fun av' cv' ev' => ?_; subst ev'
    refine JL.nil ?_
    refine J.fin0 rfl ?_
  rotate_left 1
  · exact ⟨_, ⟨rfl, true, _, L, hL, by rw [textO, if_pos (by omega)]; rfl, rfl⟩, fun _ h => h⟩
  · exact ⟨_, ⟨rfl, bad'1, _, L'1, h18, by rw [h181, h141, strB_size, smallO_in (by omega), putO_append, textO, if_neg (by omega)], rfl⟩, fun _ h => Own.pick (pre := [_, _, _]) [0, 1] rfl h⟩
/-! A value's bytes. -/
def bodyP (k i : Int) (s : List UInt8) : List UInt8 := if k = 1 then be i.toNat 1 else if k = 2 ∨ k = 4 then be (u64 i) 8 else if k = 3 then be s.length 2 ++ s else []
def valP (k i : Int) (s : List UInt8) : List UInt8 := be k.toNat 1 ++ bodyP k i s
def valB (k i : Int) (s : List UInt8) (xs : List El) : List UInt8 := if k = 5 then be 5 1 ++ (be xs.length 1 ++ xs.flatMap fun e => valP e.k e.i e.s) else valP k i s
theorem sm1 {o : Option (List UInt8)} {n : Int} (h0 : 0 ≤ n) (h : n < 256) : smallO o n 1 = putO o (be n.toNat 1) := by rw [smallO, if_neg (by omega)]
theorem body1 {i : Int} {s : List UInt8} : bodyP 1 i s = be i.toNat 1 := by simp [bodyP]
theorem body2 {i : Int} {s : List UInt8} : bodyP 2 i s = be (u64 i) 8 := by simp [bodyP]
theorem body3 {i : Int} {s : List UInt8} : bodyP 3 i s = be s.length 2 ++ s := by simp [bodyP]
theorem body4 {i : Int} {s : List UInt8} : bodyP 4 i s = be (u64 i) 8 := by simp [bodyP]
theorem body0 {i : Int} {s : List UInt8} : bodyP 0 i s = [] := by simp [bodyP]
theorem formedT {w0 : World} {F : List HProp} {k i : Int} {s : List UInt8} {a : Option Addr} {c : Nat} {xs : List El} (hx : ∀ e ∈ xs, e.ok) (hn : xs.length ≤ 9223372036854775807) (hf : FormedP k i s xs) (hr : RdO w0 F (.slice a xs.length c) xs.length (xs.flatMap ecl)) :
    FnO Try.prog w0 53 [.agg (vcl k i s (.slice a xs.length c)).toArray] F (fun r l' => r = .bool true ∧ l' = F) :=
  (formed_ok hx hn hr).mono fun r l' ⟨b, h1, h2, h3⟩ => ⟨by rw [h1, h3.2 hf], h2⟩
theorem formedF {w0 : World} {F : List HProp} {k i : Int} {s : List UInt8} {a : Option Addr} {c : Nat} {xs : List El} (hx : ∀ e ∈ xs, e.ok) (hn : xs.length ≤ 9223372036854775807) (hf : ¬ FormedP k i s xs) (hr : RdO w0 F (.slice a xs.length c) xs.length (xs.flatMap ecl)) :
    FnO Try.prog w0 53 [.agg (vcl k i s (.slice a xs.length c)).toArray] F (fun r l' => r = .bool false ∧ l' = F) :=
  (formed_ok hx hn hr).mono fun r l' ⟨b, h1, h2, h3⟩ => ⟨by rw [h1]; cases b; rfl; exact absurd (h3.1 rfl) hf, h2⟩
theorem formed0 {w0 : World} {F : List HProp} {k i : Int} {s : List UInt8} {a : Option Addr} {c n : Nat} (hf : Plain k i s n) :
    FnO Try.prog w0 53 [.agg (vcl k i s (.slice a n c)).toArray] F (fun r l' => r = .bool true ∧ l' = F) := by
  obtain rfl : n = 0 := hf.1
  exact formedT (xs := []) (by simp) (by simp) (by rw [FormedP, if_pos (by omega)]; exact hf) RdO.nil0
theorem outValP_ok {w0 : World} {F : List HProp} {oe g : Nat} {bad : Bool} {v : Value} {L s : List UInt8} {k i : Int} {a : Option Addr} {n c : Nat} (hL : L.length ≤ 4096) (hf : Plain k i s n) : Wrote w0 55 [.pointer (some ⟨g, 0, none⟩), .agg (vcl k i s (.slice a n c)).toArray] oe g bad v L F (putO (absO bad L) (valP k i s)) := by
  have hs : s.length ≤ 1000000000 := by omega
  refine FnO.weak ?_
  have hf2 := hf
  rcases hf.2.2 with ⟨rfl, rfl⟩ | ⟨rfl, hi⟩ | rfl | ⟨rfl, rfl, hs2⟩ | ⟨rfl, hi⟩
  · refine FnO.intro (n := 56) Try.func55 rfl rfl rfl ?_
    refine J.lit (.tail .head) fun av cv ev => ?_; subst ev
    refine J.seq ?_
    refine J.region ?_
    refine JL.mem rfl rfl (OpM.box rfl rfl) ?_; rintro _ _ ⟨b3, rfl, rfl⟩
    refine JL.nil ?_
    refine J.seq ?_
    refine J.seq ?_
    refine J.region ?_
    refine JL.read rfl rfl (OpR.loadN rfl (Cells.full .head) rfl) ?_
    refine JL.step rfl rfl (OpW.call (first := []) (captured := []) inferInstance rfl rfl (formed0 hf)) ?_; rintro r7 _ ⟨rfl, rfl⟩
    refine JL.pure rfl rfl (OpP.notB rfl) ?_
    refine JL.nil ?_
    refine J.condF rfl ?_
    refine J.skip ?_
    refine J.seq ?_
    refine J.region ?_
    refine JL.pure rfl rfl (OpP.move rfl) ?_
    refine JL.pure rfl rfl (OpP.fieldAddr rfl) ?_
    refine JL.read rfl rfl (OpR.load1 rfl (Cell.row .head rfl)) ?_
    refine JL.f2 ?_; refine JL.f2 ?_; refine JL.step rfl rfl (OpW.call (first := []) (captured := []) inferInstance rfl rfl (outU8_ok (by assumption))) ?_; rintro r16 _ ⟨rfl, ⟨bad', ⟨v', ⟨L', ⟨h16, ⟨h161, rfl⟩⟩⟩⟩⟩⟩
    refine JL.lit (.tail .head) fun av' cv' ev' => ?_; subst ev'
    refine JL.nil ?_
    refine J.seq ?_
    refine J.region ?_
    refine JL.pure rfl rfl (OpP.fieldAddr rfl) ?_
    refine JL.read rfl rfl (OpR.load1 rfl (Cell.row (.tail (.tail .head)) rfl)) ?_
    refine JL.nil ?_
    refine J.block ?_
    refine J.seq ?_
    refine J.region ?_
    refine JL.decF rfl rfl (OpP.eql rfl rfl) (by omega) ?_
    refine JL.pure rfl rfl (OpP.assign rfl) ?_
    refine JL.nil ?_
    refine J.condF rfl ?_
    refine J.seq ?_
    refine J.seq ?_
    refine J.region ?_
    refine JL.decF rfl rfl (OpP.eql rfl rfl) (by omega) ?_
    refine JL.pure rfl rfl (OpP.assign rfl) ?_
    refine JL.nil ?_
    refine J.condF rfl ?_
    refine J.region ?_
    refine JL.decF rfl rfl (OpP.eql rfl rfl) (by omega) ?_
    refine JL.pure rfl rfl (OpP.assign rfl) ?_
    refine JL.nil ?_
    refine J.condF rfl ?_
    refine J.seq ?_
    refine J.region ?_
    refine JL.decF rfl rfl (OpP.eql rfl rfl) (by omega) ?_
    refine JL.pure rfl rfl (OpP.assign rfl) ?_
    refine JL.nil ?_
    refine J.condF rfl ?_
    refine J.seq ?_
    refine J.region ?_
    refine JL.decF rfl rfl (OpP.eql rfl rfl) (by omega) ?_
    refine JL.pure rfl rfl (OpP.assign rfl) ?_
    refine JL.nil ?_
    refine J.condF rfl ?_
    refine J.skip ?_
    refine J.inBlock ?_
    refine J.fin0 rfl ?_
    exact ⟨_, ⟨rfl, bad', _, L', h16, by rw [h161, sm1 (by omega) (by omega), valP, body0, List.append_nil], rfl⟩, fun _ h => Own.pick (pre := [_, _, _]) [0, 1] rfl h⟩
  · refine FnO.intro (n := 56) Try.func55 rfl rfl rfl ?_
    refine J.lit (.tail .head) fun av cv ev => ?_; subst ev
    refine J.seq ?_
    refine J.region ?_
    refine JL.mem rfl rfl (OpM.box rfl rfl) ?_; rintro _ _ ⟨b3, rfl, rfl⟩
    refine JL.nil ?_
    refine J.seq ?_
    refine J.seq ?_
    refine J.region ?_
    refine JL.read rfl rfl (OpR.loadN rfl (Cells.full .head) rfl) ?_
    refine JL.step rfl rfl (OpW.call (first := []) (captured := []) inferInstance rfl rfl (formed0 hf)) ?_; rintro r7 _ ⟨rfl, rfl⟩
    refine JL.pure rfl rfl (OpP.notB rfl) ?_
    refine JL.nil ?_
    refine J.condF rfl ?_
    refine J.skip ?_
    refine J.seq ?_
    refine J.region ?_
    refine JL.pure rfl rfl (OpP.move rfl) ?_
    refine JL.pure rfl rfl (OpP.fieldAddr rfl) ?_
    refine JL.read rfl rfl (OpR.load1 rfl (Cell.row .head rfl)) ?_
    refine JL.f2 ?_; refine JL.f2 ?_; refine JL.step rfl rfl (OpW.call (first := []) (captured := []) inferInstance rfl rfl (outU8_ok (by assumption))) ?_; rintro r16 _ ⟨rfl, ⟨bad', ⟨v', ⟨L', ⟨h16, ⟨h161, rfl⟩⟩⟩⟩⟩⟩
    refine JL.lit (.tail .head) fun av' cv' ev' => ?_; subst ev'
    refine JL.nil ?_
    refine J.seq ?_
    refine J.region ?_
    refine JL.pure rfl rfl (OpP.fieldAddr rfl) ?_
    refine JL.read rfl rfl (OpR.load1 rfl (Cell.row (.tail (.tail .head)) rfl)) ?_
    refine JL.nil ?_
    refine J.block ?_
    refine J.seq ?_
    refine J.region ?_
    refine JL.decT rfl rfl (OpP.eql rfl rfl) (by omega) ?_
    refine JL.pure rfl rfl (OpP.assign rfl) ?_
    refine JL.nil ?_
    refine J.condT rfl ?_
    refine J.region ?_
    refine JL.pure rfl rfl (OpP.move rfl) ?_
    refine JL.pure rfl rfl (OpP.fieldAddr rfl) ?_
    refine JL.read rfl rfl (OpR.load1 rfl (Cell.row (.tail (.tail .head)) rfl)) ?_
    refine JL.step rfl rfl (OpW.call (first := []) (captured := []) inferInstance rfl rfl (outU8_ok (by assumption))) ?_; rintro r24 _ ⟨rfl, ⟨bad'1, ⟨v', ⟨L'1, ⟨h24, ⟨h241, rfl⟩⟩⟩⟩⟩⟩
    refine JL.lit (.tail .head) fun av' cv' ev' => ?_; subst ev'
    refine JL.nil ?_
    refine J.inBlock ?_
    refine J.fin0 rfl ?_
    exact ⟨_, ⟨rfl, bad'1, _, L'1, h24, by rw [h241, h161, sm1 (by omega) (by omega), sm1 (by omega) (by omega), putO_append, valP, body1], rfl⟩, fun _ h => Own.pick (pre := [_, _, _]) [0, 1] rfl h⟩
  · refine FnO.intro (n := 56) Try.func55 rfl rfl rfl ?_
    refine J.lit (.tail .head) fun av cv ev => ?_; subst ev
    refine J.seq ?_
    refine J.region ?_
    refine JL.mem rfl rfl (OpM.box rfl rfl) ?_; rintro _ _ ⟨b3, rfl, rfl⟩
    refine JL.nil ?_
    refine J.seq ?_
    refine J.seq ?_
    refine J.region ?_
    refine JL.read rfl rfl (OpR.loadN rfl (Cells.full .head) rfl) ?_
    refine JL.step rfl rfl (OpW.call (first := []) (captured := []) inferInstance rfl rfl (formed0 hf)) ?_; rintro r7 _ ⟨rfl, rfl⟩
    refine JL.pure rfl rfl (OpP.notB rfl) ?_
    refine JL.nil ?_
    refine J.condF rfl ?_
    refine J.skip ?_
    refine J.seq ?_
    refine J.region ?_
    refine JL.pure rfl rfl (OpP.move rfl) ?_
    refine JL.pure rfl rfl (OpP.fieldAddr rfl) ?_
    refine JL.read rfl rfl (OpR.load1 rfl (Cell.row .head rfl)) ?_
    refine JL.f2 ?_; refine JL.f2 ?_; refine JL.step rfl rfl (OpW.call (first := []) (captured := []) inferInstance rfl rfl (outU8_ok (by assumption))) ?_; rintro r16 _ ⟨rfl, ⟨bad', ⟨v', ⟨L', ⟨h16, ⟨h161, rfl⟩⟩⟩⟩⟩⟩
    refine JL.lit (.tail .head) fun av' cv' ev' => ?_; subst ev'
    refine JL.nil ?_
    refine J.seq ?_
    refine J.region ?_
    refine JL.pure rfl rfl (OpP.fieldAddr rfl) ?_
    refine JL.read rfl rfl (OpR.load1 rfl (Cell.row (.tail (.tail .head)) rfl)) ?_
    refine JL.nil ?_
    refine J.block ?_
    refine J.seq ?_
    refine J.region ?_
    refine JL.decF rfl rfl (OpP.eql rfl rfl) (by omega) ?_
    refine JL.pure rfl rfl (OpP.assign rfl) ?_
    refine JL.nil ?_
    refine J.condF rfl ?_
    refine J.seq ?_
    refine J.seq ?_
    refine J.region ?_
    refine JL.decT rfl rfl (OpP.eql rfl rfl) (by omega) ?_
    refine JL.pure rfl rfl (OpP.assign rfl) ?_
    refine JL.nil ?_
    refine J.condT rfl ?_
    refine J.skip ?_
    refine J.condT rfl ?_
    refine J.region ?_
    refine JL.pure rfl rfl (OpP.move rfl) ?_
    refine JL.pure rfl rfl (OpP.fieldAddr rfl) ?_
    refine JL.read rfl rfl (OpR.load1 rfl (Cell.row (.tail (.tail .head)) rfl)) ?_
    refine JL.step rfl rfl (OpW.call (first := []) (captured := []) inferInstance rfl rfl (outI64_ok (by assumption))) ?_; rintro r31 _ ⟨rfl, ⟨bad'1, ⟨v', ⟨L'1, ⟨h31, ⟨h311, rfl⟩⟩⟩⟩⟩⟩
    refine JL.lit (.tail .head) fun av' cv' ev' => ?_; subst ev'
    refine JL.nil ?_
    refine J.inBlock ?_
    refine J.fin0 rfl ?_
    exact ⟨_, ⟨rfl, bad'1, _, L'1, h31, by rw [h311, h161, sm1 (by omega) (by omega), putO_append, valP, body2], rfl⟩, fun _ h => Own.pick (pre := [_, _, _]) [0, 1] rfl h⟩
  · refine FnO.intro (n := 56) Try.func55 rfl rfl rfl ?_
    refine J.lit (.tail .head) fun av cv ev => ?_; subst ev
    refine J.seq ?_
    refine J.region ?_
    refine JL.mem rfl rfl (OpM.box rfl rfl) ?_; rintro _ _ ⟨b3, rfl, rfl⟩
    refine JL.nil ?_
    refine J.seq ?_
    refine J.seq ?_
    refine J.region ?_
    refine JL.read rfl rfl (OpR.loadN rfl (Cells.full .head) rfl) ?_
    refine JL.step rfl rfl (OpW.call (first := []) (captured := []) inferInstance rfl rfl (formed0 hf)) ?_; rintro r7 _ ⟨rfl, rfl⟩
    refine JL.pure rfl rfl (OpP.notB rfl) ?_
    refine JL.nil ?_
    refine J.condF rfl ?_
    refine J.skip ?_
    refine J.seq ?_
    refine J.region ?_
    refine JL.pure rfl rfl (OpP.move rfl) ?_
    refine JL.pure rfl rfl (OpP.fieldAddr rfl) ?_
    refine JL.read rfl rfl (OpR.load1 rfl (Cell.row .head rfl)) ?_
    refine JL.f2 ?_; refine JL.f2 ?_; refine JL.step rfl rfl (OpW.call (first := []) (captured := []) inferInstance rfl rfl (outU8_ok (by assumption))) ?_; rintro r16 _ ⟨rfl, ⟨bad', ⟨v', ⟨L', ⟨h16, ⟨h161, rfl⟩⟩⟩⟩⟩⟩
    refine JL.lit (.tail .head) fun av' cv' ev' => ?_; subst ev'
    refine JL.nil ?_
    refine J.seq ?_
    refine J.region ?_
    refine JL.pure rfl rfl (OpP.fieldAddr rfl) ?_
    refine JL.read rfl rfl (OpR.load1 rfl (Cell.row (.tail (.tail .head)) rfl)) ?_
    refine JL.nil ?_
    refine J.block ?_
    refine J.seq ?_
    refine J.region ?_
    refine JL.decF rfl rfl (OpP.eql rfl rfl) (by omega) ?_
    refine JL.pure rfl rfl (OpP.assign rfl) ?_
    refine JL.nil ?_
    refine J.condF rfl ?_
    refine J.seq ?_
    refine J.seq ?_
    refine J.region ?_
    refine JL.decF rfl rfl (OpP.eql rfl rfl) (by omega) ?_
    refine JL.pure rfl rfl (OpP.assign rfl) ?_
    refine JL.nil ?_
    refine J.condF rfl ?_
    refine J.region ?_
    refine JL.decF rfl rfl (OpP.eql rfl rfl) (by omega) ?_
    refine JL.pure rfl rfl (OpP.assign rfl) ?_
    refine JL.nil ?_
    refine J.condF rfl ?_
    refine J.seq ?_
    refine J.region ?_
    refine JL.decT rfl rfl (OpP.eql rfl rfl) (by omega) ?_
    refine JL.pure rfl rfl (OpP.assign rfl) ?_
    refine JL.nil ?_
    refine J.condT rfl ?_
    refine J.region ?_
    refine JL.pure rfl rfl (OpP.move rfl) ?_
    refine JL.pure rfl rfl (OpP.fieldAddr rfl) ?_
    refine JL.read rfl rfl (OpR.load1 rfl (Cell.row (.tail (.tail .head)) rfl)) ?_
    refine JL.step rfl rfl (OpW.call (first := []) (captured := []) inferInstance rfl rfl (outText_ok (by assumption) hs)) ?_; rintro r37 _ ⟨rfl, ⟨bad'1, ⟨v', ⟨L'1, ⟨h37, ⟨h371, rfl⟩⟩⟩⟩⟩⟩
    refine JL.lit (.tail .head) fun av' cv' ev' => ?_; subst ev'
    refine JL.nil ?_
    refine J.inBlock ?_
    refine J.fin0 rfl ?_
    exact ⟨_, ⟨rfl, bad'1, _, L'1, h37, by rw [h371, h161, sm1 (by omega) (by omega), textO, if_neg (by omega), putO_append, valP, body3], rfl⟩, fun _ h => Own.pick (pre := [_, _, _]) [0, 1] rfl h⟩
  · refine FnO.intro (n := 56) Try.func55 rfl rfl rfl ?_
    refine J.lit (.tail .head) fun av cv ev => ?_; subst ev
    refine J.seq ?_
    refine J.region ?_
    refine JL.mem rfl rfl (OpM.box rfl rfl) ?_; rintro _ _ ⟨b3, rfl, rfl⟩
    refine JL.nil ?_
    refine J.seq ?_
    refine J.seq ?_
    refine J.region ?_
    refine JL.read rfl rfl (OpR.loadN rfl (Cells.full .head) rfl) ?_
    refine JL.step rfl rfl (OpW.call (first := []) (captured := []) inferInstance rfl rfl (formed0 hf)) ?_; rintro r7 _ ⟨rfl, rfl⟩
    refine JL.pure rfl rfl (OpP.notB rfl) ?_
    refine JL.nil ?_
    refine J.condF rfl ?_
    refine J.skip ?_
    refine J.seq ?_
    refine J.region ?_
    refine JL.pure rfl rfl (OpP.move rfl) ?_
    refine JL.pure rfl rfl (OpP.fieldAddr rfl) ?_
    refine JL.read rfl rfl (OpR.load1 rfl (Cell.row .head rfl)) ?_
    refine JL.f2 ?_; refine JL.f2 ?_; refine JL.step rfl rfl (OpW.call (first := []) (captured := []) inferInstance rfl rfl (outU8_ok (by assumption))) ?_; rintro r16 _ ⟨rfl, ⟨bad', ⟨v', ⟨L', ⟨h16, ⟨h161, rfl⟩⟩⟩⟩⟩⟩
    refine JL.lit (.tail .head) fun av' cv' ev' => ?_; subst ev'
    refine JL.nil ?_
    refine J.seq ?_
    refine J.region ?_
    refine JL.pure rfl rfl (OpP.fieldAddr rfl) ?_
    refine JL.read rfl rfl (OpR.load1 rfl (Cell.row (.tail (.tail .head)) rfl)) ?_
    refine JL.nil ?_
    refine J.block ?_
    refine J.seq ?_
    refine J.region ?_
    refine JL.decF rfl rfl (OpP.eql rfl rfl) (by omega) ?_
    refine JL.pure rfl rfl (OpP.assign rfl) ?_
    refine JL.nil ?_
    refine J.condF rfl ?_
    refine J.seq ?_
    refine J.seq ?_
    refine J.region ?_
    refine JL.decF rfl rfl (OpP.eql rfl rfl) (by omega) ?_
    refine JL.pure rfl rfl (OpP.assign rfl) ?_
    refine JL.nil ?_
    refine J.condF rfl ?_
    refine J.region ?_
    refine JL.decT rfl rfl (OpP.eql rfl rfl) (by omega) ?_
    refine JL.pure rfl rfl (OpP.assign rfl) ?_
    refine JL.nil ?_
    refine J.condT rfl ?_
    refine J.region ?_
    refine JL.pure rfl rfl (OpP.move rfl) ?_
    refine JL.pure rfl rfl (OpP.fieldAddr rfl) ?_
    refine JL.read rfl rfl (OpR.load1 rfl (Cell.row (.tail (.tail .head)) rfl)) ?_
    refine JL.step rfl rfl (OpW.call (first := []) (captured := []) inferInstance rfl rfl (outI64_ok (by assumption))) ?_; rintro r31 _ ⟨rfl, ⟨bad'1, ⟨v', ⟨L'1, ⟨h31, ⟨h311, rfl⟩⟩⟩⟩⟩⟩
    refine JL.lit (.tail .head) fun av' cv' ev' => ?_; subst ev'
    refine JL.nil ?_
    refine J.inBlock ?_
    refine J.fin0 rfl ?_
    exact ⟨_, ⟨rfl, bad'1, _, L'1, h31, by rw [h311, h161, sm1 (by omega) (by omega), putO_append, valP, body4], rfl⟩, fun _ h => Own.pick (pre := [_, _, _]) [0, 1] rfl h⟩
end Go.Proofs.E

-- seat e
namespace Go.Proofs.E
open Go Go.Gp Go.RowKit

theorem outVal_ok {w0 : World} {F : List HProp} {oe g : Nat} {bad : Bool} {v : Value} {L s : List UInt8} {k i : Int} {a : Option Addr} {c : Nat} {xs : List El} (hL : L.length ≤ 4096) (hx : ∀ e ∈ xs, e.ok) (hn : xs.length ≤ 9223372036854775807) (hf : FormedP k i s xs) (hr : RdO w0 F (.slice a xs.length c) xs.length (xs.flatMap ecl)) : Wrote w0 55 [.pointer (some ⟨g, 0, none⟩), .agg (vcl k i s (.slice a xs.length c)).toArray] oe g bad v L F (putO (absO bad L) (valB k i s xs)) := by
  by_cases hk : k = 5
  · subst hk
    have hf2 := hf
    rw [FormedP, if_neg (by decide)] at hf2
    obtain ⟨hi0, hs0, hn16, hg⟩ := hf2
    have hlen : ∀ e ∈ xs, (ecl e).length = 4 := fun _ _ => rfl
    refine FnO.rdF (fun _ h => h.tail.tail) hr fun hr1 => ?_
    refine FnO.weak ?_
    refine FnO.intro (n := 56) Try.func55 rfl rfl rfl ?_
    refine J.lit (.tail .head) fun av cv ev => ?_; subst ev
    refine J.seq ?_
    refine J.region ?_
    refine JL.mem rfl rfl (OpM.box rfl rfl) ?_; rintro _ _ ⟨b3, rfl, rfl⟩
    refine JL.nil ?_
    refine J.seq ?_
    refine J.seq ?_
    refine J.region ?_
    refine JL.read rfl rfl (OpR.loadN rfl (Cells.full .head) rfl) ?_
    refine JL.step rfl rfl (OpW.call (first := []) (captured := []) inferInstance rfl rfl (formedT hx hn hf (hr.conv fun _ h => Own.pick (pre := [_, _, _]) [] rfl h))) ?_; rintro r7 _ ⟨rfl, rfl⟩
    refine JL.pure rfl rfl (OpP.notB rfl) ?_
    refine JL.nil ?_
    refine J.condF rfl ?_
    refine J.skip ?_
    refine J.seq ?_
    refine J.region ?_
    refine JL.pure rfl rfl (OpP.move rfl) ?_
    refine JL.pure rfl rfl (OpP.fieldAddr rfl) ?_
    refine JL.read rfl rfl (OpR.load1 rfl (Cell.row .head rfl)) ?_
    refine JL.f2 ?_; refine JL.f2 ?_; refine JL.step rfl rfl (OpW.call (first := []) (captured := []) inferInstance rfl rfl (outU8_ok (by assumption))) ?_; rintro r16 _ ⟨rfl, ⟨bad', ⟨v', ⟨L', ⟨h16, ⟨h161, rfl⟩⟩⟩⟩⟩⟩
    refine JL.lit (.tail .head) fun av' cv' ev' => ?_; subst ev'
    refine JL.nil ?_
    refine J.seq ?_
    refine J.region ?_
    refine JL.pure rfl rfl (OpP.fieldAddr rfl) ?_
    refine JL.read rfl rfl (OpR.load1 rfl (Cell.row (.tail (.tail .head)) rfl)) ?_
    refine JL.nil ?_
    refine J.block ?_
    refine J.seq ?_
    refine J.region ?_
    refine JL.decF rfl rfl (OpP.eql rfl rfl) (by omega) ?_
    refine JL.pure rfl rfl (OpP.assign rfl) ?_
    refine JL.nil ?_
    refine J.condF rfl ?_
    refine J.seq ?_
    refine J.seq ?_
    refine J.region ?_
    refine JL.decF rfl rfl (OpP.eql rfl rfl) (by omega) ?_
    refine JL.pure rfl rfl (OpP.assign rfl) ?_
    refine JL.nil ?_
    refine J.condF rfl ?_
    refine J.region ?_
    refine JL.decF rfl rfl (OpP.eql rfl rfl) (by omega) ?_
    refine JL.pure rfl rfl (OpP.assign rfl) ?_
    refine JL.nil ?_
    refine J.condF rfl ?_
    refine J.seq ?_
    refine J.region ?_
    refine JL.decF rfl rfl (OpP.eql rfl rfl) (by omega) ?_
    refine JL.pure rfl rfl (OpP.assign rfl) ?_
    refine JL.nil ?_
    refine J.condF rfl ?_
    refine J.seq ?_
    refine J.region ?_
    refine JL.decT rfl rfl (OpP.eql rfl rfl) (by omega) ?_
    refine JL.pure rfl rfl (OpP.assign rfl) ?_
    refine JL.nil ?_
    refine J.condT rfl ?_
    refine J.seq ?_
    refine J.region ?_
    refine JL.pure rfl rfl (OpP.move rfl) ?_
    refine JL.pure rfl rfl (OpP.fieldAddr rfl) ?_
    refine JL.read rfl rfl (OpR.load1 rfl (Cell.row (.tail (.tail .head)) rfl)) ?_
    refine JL.pure rfl rfl (OpP.len rfl rfl) ?_
    refine JL.step rfl rfl (OpW.call (first := []) (captured := []) inferInstance rfl rfl (outU8_ok (by assumption))) ?_; rintro r44 _ ⟨rfl, ⟨bad'1, ⟨v', ⟨L'1, ⟨h44, ⟨h441, rfl⟩⟩⟩⟩⟩⟩
    refine JL.lit (.tail .head) fun av' cv' ev' => ?_; subst ev'
    refine JL.nil ?_
    refine J.seq ?_
    refine J.region ?_
    refine JL.pure rfl rfl (OpP.fieldAddr rfl) ?_
    refine JL.read rfl rfl (OpR.load1 rfl (Cell.row (.tail (.tail .head)) rfl)) ?_
    refine JL.pure rfl rfl (OpP.len rfl rfl) ?_
    refine JL.pure rfl rfl (OpP.move rfl) ?_
    refine JL.nil ?_
    refine J.block ?_
    refine J.loopI (fun x : Nat × Bool × Value × List UInt8 => xs.length - x.1) (fun x => x.1 ≤ xs.length ∧ x.2.2.2.length ≤ 4096 ∧ absO x.2.1 x.2.2.2 = putO (absO bad L) (be 5 1 ++ (be xs.length 1 ++ (xs.take x.1).flatMap fun e => valP e.k e.i e.s))) (fun x => [(48, .int .i64 (x.1 : Nat)), (47, .int .i64 (xs.length : Nat)), (46, .slice a xs.length c), (0, .pointer (some ⟨g, 0, none⟩))])
      (fun x => outL oe g x.2.1 x.2.2.1 x.2.2.2 (row b3 29 (vcl 5 i s (.slice a xs.length c)) :: F)) (0, bad'1, .slice av' L'1.length cv', L'1) ⟨Nat.zero_le _, h44, by dsimp only; rw [h441, h161, sm1 (by omega) (by omega), sm1 (by omega) (by omega), putO_append]; rfl⟩ (by repeat (first | exact SubEnv.nil | refine SubEnv.cons (by first | rfl | exact congrArg (fun z => some (Value.int .i64 z)) (by omega) | (simp; done)) ?_)) (fun _ h => h) (fun ⟨j, bd, z, M⟩ hi back => ?_)
    dsimp only at hi back ⊢
    obtain ⟨hj, hM, he⟩ := hi
    by_cases hlt : j < xs.length
    · obtain ⟨e, hej⟩ : ∃ e, xs[j]? = some e := ⟨_, List.getElem?_eq_getElem hlt⟩
      have hpe := (hg j e hej).1
      refine J.lit (.tail .head) fun az cz ez => ?_; subst ez
      refine J.seq ?_
      refine J.region ?_
      refine JL.decT rfl rfl (OpP.lss rfl rfl) (by omega) ?_
      refine JL.nil ?_
      refine J.seq ?_
      refine J.condT rfl ?_
      refine J.skip ?_
      refine J.seq ?_
      refine J.block ?_
      refine J.seq ?_
      refine J.region ?_
      obtain ⟨ga, pa, qa, ea, ka, ca⟩ := hr1.pos (by omega); cases ea
      refine JL.pure rfl rfl (OpP.indexAddr rfl rfl (by omega) (by omega)) ?_
      refine JL.read rfl rfl (OpR.loadN rfl (by apply Cells.conv (fun _ h => Own.pick (pre := [_, _, _]) [] rfl h); apply Cells.chunkAt ca; (case' h => assumption); (case' hi => assumption); done) (by first | rfl | assumption)) ?_
      refine JL.mem rfl rfl OpM.alloc ?_; rintro _ _ ⟨b5, rfl, rfl⟩
      refine JL.mem0 rfl (by apply OpM.storeN rfl rfl (by rfl) (oneC rfl (oneC rfl (oneC rfl (one1 rfl)))); (case' hu => exact .head); (case' hs => exact (.here (.here (.here (.here .nil))))); done) ?_; rintro _ _ ⟨rfl, rfl⟩
      refine JL.nil ?_
      refine J.region ?_
      refine JL.pure rfl rfl (OpP.move rfl) ?_
      refine JL.read rfl rfl (OpR.loadN rfl (Cells.full .head) rfl) ?_
      refine JL.f2 ?_; refine JL.f2 ?_; refine JL.step rfl rfl (OpW.call (first := []) (captured := []) inferInstance rfl rfl (outValP_ok hM hpe)) ?_; rintro r54 _ ⟨rfl, ⟨bad'2, ⟨v', ⟨L'2, ⟨h54, ⟨h541, rfl⟩⟩⟩⟩⟩⟩
      refine JL.lit (.tail .head) fun av' cv' ev' => ?_; subst ev'
      refine JL.nil ?_
      refine J.inBlock ?_
      refine J.region ?_
      refine JL.pure rfl rfl (OpP.addI rfl rfl (by omega) (by omega)) ?_
      refine JL.pure rfl rfl (OpP.move rfl) ?_
      refine JL.nil ?_
      refine back (j + 1, bad'2, .slice av' L'2.length cv', L'2) ⟨by dsimp only; omega, h54, ?_⟩ (by dsimp only; omega) (by repeat (first | exact SubEnv.nil | refine SubEnv.cons (by first | rfl | exact congrArg (fun z => some (Value.int .i64 z)) (by omega) | (simp; done)) ?_)) (fun _ h => Own.pick (pre := [_, _, _, _]) [0, 1, 3] rfl h)
      dsimp only
      rw [h541, he, putO_append, List.take_add_one, hej, List.flatMap_append, List.append_assoc, List.append_assoc]
      simp only [Option.toList_some, List.flatMap_cons, List.flatMap_nil, List.append_nil]
    · have : j = xs.length := by omega
      subst this
      rw [List.take_length] at he
      refine J.lit (.tail .head) fun az cz ez => ?_; subst ez
      refine J.seq ?_
      refine J.region ?_
      refine JL.decF rfl rfl (OpP.lss rfl rfl) (by omega) ?_
      refine JL.nil ?_
      refine J.seq ?_
      refine J.condF rfl ?_
      refine J.exit rfl ?_
      refine J.inBlock ?_
      refine J.fin0 rfl ?_
      exact ⟨_, ⟨rfl, bd, _, M, hM, by rw [he, valB, if_pos rfl], rfl⟩, fun _ h => Own.pick (pre := [_, _, _]) [0, 1] rfl h⟩
  · have hp : Plain k i s xs.length := by rw [FormedP, if_pos hk] at hf; exact hf
    have h := outValP_ok (w0 := w0) (F := F) (oe := oe) (g := g) (bad := bad) (v := v) (a := a) (c := c) hL hp
    rw [valB, if_neg hk]
    exact h
theorem clone_ok {w0 : World} {F : List HProp} {v : Value} {l : List UInt8} (hl : l.length ≤ 1000000000) (hr : RdO w0 F v l.length (bcells l)) :
    FnO Try.prog w0 49 [v] F (fun r l' => (∃ a c, r = .slice a l.length c) ∧ l' = own 5 1 r l.length (bcells l) :: F) := by
  refine FnO.rdF (fun _ h => h) hr fun hr1 => ?_
  obtain ⟨a1, c1, rfl⟩ := hr1.lit
  have hbl : (bcells l).length = l.length * 1 := by rw [bcells_length]; omega
  refine FnO.weak ?_
  cases a1 with
  | none =>
    have h0 : l = [] := by
      rcases hr1 with ⟨a, c, h1, h2, _⟩ | ⟨b, o, c, h1, _⟩
      · exact List.eq_nil_of_length_eq_zero h2
      · cases h1
    subst h0
    refine FnO.intro (n := 8) Try.func49 rfl rfl rfl ?_
    refine J.seq ?_
    refine J.region ?_
    refine JL.pure rfl rfl (OpP.assign rfl) ?_
    refine JL.nil ?_
    refine J.seq ?_
    refine J.seq ?_
    refine J.region ?_
    refine JL.pure rfl rfl (OpP.move rfl) ?_
    refine JL.pure rfl rfl (OpP.eqSlNil rfl rfl) ?_
    refine JL.nil ?_
    refine J.condT rfl ?_
    refine J.seq ?_
    refine J.region ?_
    refine JL.pure rfl rfl (OpP.assign rfl) ?_
    refine JL.nil ?_
    refine J.ret1 rfl rfl ?_
    exact ⟨_, ⟨⟨none, 0, rfl⟩, rfl⟩, fun _ h => h.own_nil⟩
  | some a1 =>
    refine FnO.intro (n := 8) Try.func49 rfl rfl rfl ?_
    refine J.seq ?_
    refine J.region ?_
    refine JL.pure rfl rfl (OpP.assign rfl) ?_
    refine JL.nil ?_
    refine J.seq ?_
    refine J.seq ?_
    refine J.region ?_
    refine JL.pure rfl rfl (OpP.move rfl) ?_
    refine JL.pure rfl rfl (OpP.eqSlNil rfl rfl) ?_
    refine JL.nil ?_
    refine J.condF rfl ?_
    refine J.skip ?_
    refine J.seq ?_
    refine J.region ?_
    refine JL.mem rfl rfl (by apply OpM.buildSlice (by rfl) rfl (by rfl); (repeat (first | exact Fills.nil | (apply Fills.cons rfl rfl rfl; (case' hs => ((repeat (first | exact Spl.nil | apply Spl.here | apply Spl.there)); done)))))) ?_; rintro _ _ ⟨b5, rfl, rfl⟩
    refine JL.pure rfl rfl (OpP.move rfl) ?_
    refine JL.ownRow (n := 0) (sz := 1) (by decide) rfl ?_
    refine JL.mem rfl rfl (OpM.appendH0 rfl rfl (.inl ⟨_, Sl.und inferInstance⟩) (by rfl) rfl rfl (RdO.src (hr.conv fun _ h => Own.pick (pre := [_]) [] rfl h) (by first | assumption | exact fc_length _ _ | (simp; done) | (simp; omega))) (by first | exact bcells_one _ | exact scells_one _ | exact icells_one _ | assumption | exact fc_one fun _ => rfl) (by simp only [maxLen]; omega) (by omega)) ?_; rintro _ _ ⟨⟨a7, c7, rfl⟩, rfl⟩
    refine JL.pure rfl rfl (OpP.assign rfl) ?_
    refine JL.nil ?_
    refine J.ret1 rfl rfl ?_
    exact ⟨_, ⟨⟨_, _, rfl⟩, rfl⟩, fun _ h => h⟩
/-- What is told at the end. -/
theorem end_ok {w0 : World} {F : List HProp} {oe g : Nat} {bad : Bool} {v : Value} {L : List UInt8} (hL : L.length ≤ 4096) :
    FnO Try.prog w0 33 [.pointer (some ⟨g, 0, none⟩)] (outL oe g bad v L F) (fun r l' => (bad = true ∧ r = .tuple #[.slice none 0 0, .int .i64 3] ∧ l' = outL oe g bad v L F) ∨ (bad = false ∧ ∃ a c, r = .tuple #[.slice a L.length c, .int .i64 0] ∧ l' = own 5 1 (.slice a L.length c) L.length (bcells L) :: outL oe g bad v L F)) := by
  refine FnO.weak ?_
  cases bad
  · refine FnO.intro (n := 14) Try.func33 rfl rfl rfl ?_
    refine J.lit (.tail .head) fun av cv ev => ?_; subst ev
    refine J.seq ?_
    refine J.region ?_
    refine JL.pure rfl rfl (OpP.assign rfl) ?_
    refine JL.pure rfl rfl (OpP.assign rfl) ?_
    refine JL.nil ?_
    refine J.seq ?_
    refine J.seq ?_
    refine J.region ?_
    refine JL.pure rfl rfl (OpP.move rfl) ?_
    refine JL.pure rfl rfl (OpP.nilCheck rfl) ?_
    refine JL.pure rfl rfl (OpP.fieldAddr rfl) ?_
    refine JL.pure rfl rfl (OpP.fieldAddr rfl) ?_
    refine JL.read rfl rfl (OpR.load1 rfl (Cell.row .head rfl)) ?_
    refine JL.nil ?_
    refine J.condF rfl ?_
    refine J.skip ?_
    refine J.seq ?_
    refine J.region ?_
    refine JL.pure rfl rfl (OpP.move rfl) ?_
    refine JL.pure rfl rfl (OpP.nilCheck rfl) ?_
    refine JL.pure rfl rfl (OpP.fieldAddr rfl) ?_
    refine JL.read rfl rfl (OpR.load1 rfl (Cell.row .head rfl)) ?_
    refine JL.step rfl rfl (OpW.call (first := []) (captured := []) inferInstance rfl rfl (clone_ok (l := L) (by omega) (RdO.own (.tail .head)))) ?_; rintro r13 _ ⟨⟨a, ⟨c, rfl⟩⟩, rfl⟩
    refine JL.pure rfl rfl (OpP.assign rfl) ?_
    refine JL.pure rfl rfl (OpP.assign rfl) ?_
    refine JL.nil ?_
    refine J.ret2 rfl rfl rfl ?_
    exact ⟨_, .inr ⟨rfl, a, c, rfl, rfl⟩, fun _ h => h⟩
  · refine FnO.intro (n := 14) Try.func33 rfl rfl rfl ?_
    refine J.lit (.tail .head) fun av cv ev => ?_; subst ev
    refine J.seq ?_
    refine J.region ?_
    refine JL.pure rfl rfl (OpP.assign rfl) ?_
    refine JL.pure rfl rfl (OpP.assign rfl) ?_
    refine JL.nil ?_
    refine J.seq ?_
    refine J.seq ?_
    refine J.region ?_
    refine JL.pure rfl rfl (OpP.move rfl) ?_
    refine JL.pure rfl rfl (OpP.nilCheck rfl) ?_
    refine JL.pure rfl rfl (OpP.fieldAddr rfl) ?_
    refine JL.pure rfl rfl (OpP.fieldAddr rfl) ?_
    refine JL.read rfl rfl (OpR.load1 rfl (Cell.row .head rfl)) ?_
    refine JL.nil ?_
    refine J.condT rfl ?_
    refine J.seq ?_
    refine J.region ?_
    refine JL.pure rfl rfl (OpP.assign rfl) ?_
    refine JL.pure rfl rfl (OpP.assign rfl) ?_
    refine JL.nil ?_
    refine J.ret2 rfl rfl rfl ?_
    exact ⟨_, .inl ⟨rfl, rfl, rfl⟩, fun _ h => h⟩
end Go.Proofs.E

-- seat e
namespace Go.Proofs.E
open Go Go.Gp Go.RowKit

theorem flat_le {α : Type} {f : α → List UInt8} {B : Nat} : ∀ {xs : List α}, (∀ e ∈ xs, (f e).length ≤ B) → (xs.flatMap f).length ≤ xs.length * B
  | [], _ => by simp
  | x :: xs, h => by
    rw [List.flatMap_cons, List.length_append, List.length_cons, Nat.add_mul]
    have := flat_le (xs := xs) fun e he => h e (by simp [he])
    have := h x (by simp)
    omega
theorem valP_le {k i : Int} {s : List UInt8} {n : Nat} (h : Plain k i s n) : (valP k i s).length ≤ 67 := by
  rw [valP, List.length_append, be_length]
  have h1 := h.2.1
  have h2 := h.2.2
  have : s.length ≤ 64 := by omega
  unfold bodyP
  repeat' split
  all_goals simp only [be_length, List.length_append, List.length_nil]
  all_goals omega
theorem valB_le {k i : Int} {s : List UInt8} {xs : List El} (h : FormedP k i s xs) : (valB k i s xs).length ≤ 2000 := by
  unfold valB
  unfold FormedP at h
  by_cases hk : k = 5
  · rw [if_pos hk]
    rw [if_neg (by simpa using hk)] at h
    have := flat_le (xs := xs) (f := fun e => valP e.k e.i e.s) (B := 67) fun e he => by
      obtain ⟨j, hj⟩ := List.getElem?_of_mem he
      exact valP_le (h.2.2.2 j e hj).1
    simp only [List.length_append, be_length]
    omega
  · rw [if_neg hk]
    rw [if_pos hk] at h
    have := valP_le h
    omega
end Go.Proofs.E
