/- A text of the proof of a statement about the given program: its part CComb. No person has read it. -/
import Derived.Test.YtaodplndajeckaaCInst
import Derived.Test.YtaodplndajeckaaJ19
-- seat c
namespace Go.Proofs.C
open Go Go.Gp Go.RowKit

def turnI (a : Int) : Int := if a = 1 then 2 else if a = 2 then 1 else if a = 3 then 4 else if a = 4 then 3 else a
theorem Turned_ok {w0 : World} {a : Int} {F : List HProp} : FnO Try.prog w0 19 [.int .i64 a] F (fun v l' => v = .int .i64 (turnI a) ∧ l' = F) := by
  refine FnO.intro (n := 13) Try.func19 rfl rfl rfl ?_
  refine J.seq ?_
  refine J.region ?_
  refine JL.pure rfl rfl (OpP.assign rfl) ?_
  refine JL.nil ?_
  refine J.seq ?_
  refine J.seq ?_
  refine J.region ?_
  refine JL.pure rfl rfl (OpP.move rfl) ?_
  refine JL.nil ?_
  refine J.block ?_
  refine J.seq ?_
  refine J.region ?_
  refine JL.dec rfl rfl (OpP.eql rfl rfl) (fun h5 => ?_) (fun h5 => ?_)
  focus
    refine JL.pure rfl rfl (OpP.assign rfl) ?_
    refine JL.nil ?_
    refine J.condT rfl ?_
    refine J.seq ?_
    refine J.region ?_
    refine JL.pure rfl rfl (OpP.assign rfl) ?_
    refine JL.nil ?_
    refine J.ret1 rfl rfl ?_
  rotate_left 1
  focus
    refine JL.pure rfl rfl (OpP.assign rfl) ?_
    refine JL.nil ?_
    refine J.condF rfl ?_
    refine J.seq ?_
    refine J.region ?_
    refine JL.dec rfl rfl (OpP.eql rfl rfl) (fun h7 => ?_) (fun h7 => ?_)
    focus
      refine JL.pure rfl rfl (OpP.assign rfl) ?_
      refine JL.nil ?_
      refine J.condT rfl ?_
      refine J.seq ?_
      refine J.region ?_
      refine JL.pure rfl rfl (OpP.assign rfl) ?_
      refine JL.nil ?_
      refine J.ret1 rfl rfl ?_
    rotate_left 1
    focus
      refine JL.pure rfl rfl (OpP.assign rfl) ?_
      refine JL.nil ?_
      refine J.condF rfl ?_
      refine J.seq ?_
      refine J.region ?_
      refine JL.dec rfl rfl (OpP.eql rfl rfl) (fun h9 => ?_) (fun h9 => ?_)
      focus
        refine JL.pure rfl rfl (OpP.assign rfl) ?_
        refine JL.nil ?_
        refine J.condT rfl ?_
        refine J.seq ?_
        refine J.region ?_
        refine JL.pure rfl rfl (OpP.assign rfl) ?_
        refine JL.nil ?_
        refine J.ret1 rfl rfl ?_
      rotate_left 1
      focus
        refine JL.pure rfl rfl (OpP.assign rfl) ?_
        refine JL.nil ?_
        refine J.condF rfl ?_
        refine J.seq ?_
        refine J.region ?_
        refine JL.dec rfl rfl (OpP.eql rfl rfl) (fun h11 => ?_) (fun h11 => ?_)
        focus
          refine JL.pure rfl rfl (OpP.assign rfl) ?_
          refine JL.nil ?_
          refine J.condT rfl ?_
          refine J.seq ?_
          refine J.region ?_
          refine JL.pure rfl rfl (OpP.assign rfl) ?_
          refine JL.nil ?_
          refine J.ret1 rfl rfl ?_
        rotate_left 1
        focus
          refine JL.pure rfl rfl (OpP.assign rfl) ?_
          refine JL.nil ?_
          refine J.condF rfl ?_
          refine J.skip ?_
          refine J.inBlock ?_
          refine J.seq ?_
          refine J.region ?_
          refine JL.pure rfl rfl (OpP.move rfl) ?_
          refine JL.pure rfl rfl (OpP.assign rfl) ?_
          refine JL.nil ?_
          refine J.ret1 rfl rfl ?_
        rotate_left 1
      rotate_left 2
    rotate_left 3
  rotate_left 4
  all_goals exact ⟨congrArg (Value.int .i64) (by simp only [turnI]; repeat' split; all_goals omega), rfl⟩

theorem TurnC_ok (a c : Int) (h : turnI a = c) {w0 : World} {F : List HProp} : FnO Try.prog w0 19 [.int .i64 a] F (fun v l' => v = .int .i64 c ∧ l' = F) := by
  subst h; exact Turned_ok
structure Sn where
  b0 : Bool
  b1 : Bool
  b2 : Bool
  b3 : Bool
  b4 : Bool
  b5 : Bool
def scl (s : Sn) : List Value := [.bool s.b0, .bool s.b1, .bool s.b2, .bool s.b3, .bool s.b4, .bool s.b5]
def denies (s : Sn) : Int := if s.b2 then 2 else if s.b5 || (s.b4 && (s.b3 || s.b1)) then 5 else if s.b4 then 4 else if s.b1 then 1 else if s.b3 then 3 else 0
def turnS (s : Sn) : Sn := ⟨s.b0, s.b2, s.b1, s.b4, s.b3, s.b5⟩
theorem denies_ok {w0 : World} {s : Sn} {F : List HProp} : FnO Try.prog w0 37 [.agg (scl s).toArray] F (fun v l' => v = .int .i64 (denies s) ∧ l' = F) := by
  refine FnO.weak ?_
  refine FnO.intro (n := 28) Try.func37 rfl rfl rfl ?_
  obtain ⟨b0, b1, b2, b3, b4, b5⟩ := s
  refine J.seq ?_
  refine J.region ?_
  refine JL.mem rfl rfl (OpM.box rfl rfl) ?_; rintro _ _ ⟨b1, rfl, rfl⟩
  refine JL.pure rfl rfl (OpP.assign rfl) ?_
  refine JL.nil ?_
  refine J.seq ?_
  refine J.block ?_
  refine J.seq ?_
  refine J.region ?_
  refine JL.pure rfl rfl (OpP.indexAddrA rfl rfl (by omega) (by omega)) ?_
  refine JL.read rfl rfl (OpR.load1 rfl (Cell.row .head rfl)) ?_
  refine JL.pure rfl rfl (OpP.assign rfl) ?_
  refine JL.nil ?_
  refine J.splitAt 3 rfl (fun h3 => ?_) (fun h3 => ?_)
  focus
    refine J.condT rfl ?_
    refine J.seq ?_
    refine J.region ?_
    refine JL.pure rfl rfl (OpP.assign rfl) ?_
    refine JL.nil ?_
    refine J.ret1 rfl rfl ?_
  rotate_left 1
  focus
    refine J.condF rfl ?_
    refine J.seq ?_
    refine J.seq ?_
    refine J.region ?_
    refine JL.pure rfl rfl (OpP.indexAddrA rfl rfl (by omega) (by omega)) ?_
    refine JL.read rfl rfl (OpR.load1 rfl (Cell.row .head rfl)) ?_
    refine JL.pure rfl rfl (OpP.assign rfl) ?_
    refine JL.nil ?_
    refine J.splitAt 6 rfl (fun h6 => ?_) (fun h6 => ?_)
    focus
      refine J.condT rfl ?_
      refine J.skip ?_
      refine J.condT rfl ?_
      refine J.seq ?_
      refine J.region ?_
      refine JL.pure rfl rfl (OpP.assign rfl) ?_
      refine JL.nil ?_
      refine J.ret1 rfl rfl ?_
    rotate_left 1
    focus
      refine J.condF rfl ?_
      refine J.region ?_
      refine JL.pure rfl rfl (OpP.indexAddrA rfl rfl (by omega) (by omega)) ?_
      refine JL.read rfl rfl (OpR.load1 rfl (Cell.row .head rfl)) ?_
      refine JL.pure rfl rfl (OpP.move rfl) ?_
      refine JL.splitAt 11 rfl (fun h11 => ?_) (fun h11 => ?_)
      focus
        refine JL.pure rfl rfl (OpP.indexAddrA rfl rfl (by omega) (by omega)) ?_
        refine JL.read rfl rfl (OpR.load1 rfl (Cell.row .head rfl)) ?_
        refine JL.pure rfl rfl (OpP.move rfl) ?_
        refine JL.splitAt 14 rfl (fun h14 => ?_) (fun h14 => ?_)
        focus
          refine JL.skip rfl rfl ?_
          refine JL.skip rfl rfl ?_
          refine JL.pure rfl rfl (OpP.pickT rfl rfl) ?_
          refine JL.pure rfl rfl (OpP.pickT rfl rfl) ?_
          refine JL.pure rfl rfl (OpP.assign rfl) ?_
          refine JL.nil ?_
          refine J.condT rfl ?_
          refine J.seq ?_
          refine J.region ?_
          refine JL.pure rfl rfl (OpP.assign rfl) ?_
          refine JL.nil ?_
          refine J.ret1 rfl rfl ?_
        rotate_left 1
        focus
          refine JL.pure rfl rfl (OpP.indexAddrA rfl rfl (by omega) (by omega)) ?_
          refine JL.read rfl rfl (OpR.load1 rfl (Cell.row .head rfl)) ?_
          refine JL.pure rfl rfl (OpP.pickF rfl rfl) ?_
          refine JL.pure rfl rfl (OpP.pickT rfl rfl) ?_
          refine JL.pure rfl rfl (OpP.assign rfl) ?_
          refine JL.nil ?_
          refine J.splitAt 6 rfl (fun h6 => ?_) (fun h6 => ?_)
          focus
            refine J.condT rfl ?_
            refine J.seq ?_
            refine J.region ?_
            refine JL.pure rfl rfl (OpP.assign rfl) ?_
            refine JL.nil ?_
            refine J.ret1 rfl rfl ?_
          rotate_left 1
          focus
            refine J.condF rfl ?_
            refine J.seq ?_
            refine J.region ?_
            refine JL.pure rfl rfl (OpP.indexAddrA rfl rfl (by omega) (by omega)) ?_
            refine JL.read rfl rfl (OpR.load1 rfl (Cell.row .head rfl)) ?_
            refine JL.pure rfl rfl (OpP.assign rfl) ?_
            refine JL.nil ?_
            refine J.splitAt 19 rfl (fun h19 => ?_) (fun h19 => ?_)
            focus
              refine J.condT rfl ?_
              refine J.seq ?_
              refine J.region ?_
              refine JL.pure rfl rfl (OpP.assign rfl) ?_
              refine JL.nil ?_
              refine J.ret1 rfl rfl ?_
            rotate_left 1
            focus
              refine J.condF rfl ?_
              refine J.seq ?_
              refine J.region ?_
              refine JL.pure rfl rfl (OpP.indexAddrA rfl rfl (by omega) (by omega)) ?_
              refine JL.read rfl rfl (OpR.load1 rfl (Cell.row .head rfl)) ?_
              refine JL.pure rfl rfl (OpP.assign rfl) ?_
              refine JL.nil ?_
              refine J.splitAt 22 rfl (fun h22 => ?_) (fun h22 => ?_)
              focus
                refine J.condT rfl ?_
                refine J.seq ?_
                refine J.region ?_
                refine JL.pure rfl rfl (OpP.assign rfl) ?_
                refine JL.nil ?_
                refine J.ret1 rfl rfl ?_
              rotate_left 1
              focus
                refine J.condF rfl ?_
                refine J.seq ?_
                refine J.region ?_
                refine JL.pure rfl rfl (OpP.indexAddrA rfl rfl (by omega) (by omega)) ?_
                refine JL.read rfl rfl (OpR.load1 rfl (Cell.row .head rfl)) ?_
                refine JL.pure rfl rfl (OpP.assign rfl) ?_
                refine JL.nil ?_
                refine J.splitAt 25 rfl (fun h25 => ?_) (fun h25 => ?_)
                focus
                  refine J.condT rfl ?_
                  refine J.seq ?_
                  refine J.region ?_
                  refine JL.pure rfl rfl (OpP.assign rfl) ?_
                  refine JL.nil ?_
                  refine J.ret1 rfl rfl ?_
                rotate_left 1
                focus
                  refine J.condF rfl ?_
                  refine J.skip ?_
                  refine J.inBlock ?_
                  refine J.seq ?_
                  refine J.region ?_
                  refine JL.pure rfl rfl (OpP.assign rfl) ?_
                  refine JL.nil ?_
                  refine J.ret1 rfl rfl ?_
                rotate_left 1
              rotate_left 2
            rotate_left 3
          rotate_left 4
        rotate_left 5
      rotate_left 6
      focus
        refine JL.skip rfl rfl ?_
        refine JL.skip rfl rfl ?_
        refine JL.skip rfl rfl ?_
        refine JL.skip rfl rfl ?_
        refine JL.skip rfl rfl ?_
        refine JL.skip rfl rfl ?_
        refine JL.pure rfl rfl (OpP.pickF rfl rfl) ?_
        refine JL.pure rfl rfl (OpP.assign rfl) ?_
        refine JL.nil ?_
        refine J.condF rfl ?_
        refine J.seq ?_
        refine J.region ?_
        refine JL.pure rfl rfl (OpP.indexAddrA rfl rfl (by omega) (by omega)) ?_
        refine JL.read rfl rfl (OpR.load1 rfl (Cell.row .head rfl)) ?_
        refine JL.pure rfl rfl (OpP.assign rfl) ?_
        refine JL.nil ?_
        refine J.splitAt 19 rfl (fun h19 => ?_) (fun h19 => ?_)
        focus
          refine J.condT rfl ?_
          refine J.seq ?_
          refine J.region ?_
          refine JL.pure rfl rfl (OpP.assign rfl) ?_
          refine JL.nil ?_
          refine J.ret1 rfl rfl ?_
        rotate_left 1
        focus
          refine J.condF rfl ?_
          refine J.seq ?_
          refine J.region ?_
          refine JL.pure rfl rfl (OpP.indexAddrA rfl rfl (by omega) (by omega)) ?_
          refine JL.read rfl rfl (OpR.load1 rfl (Cell.row .head rfl)) ?_
          refine JL.pure rfl rfl (OpP.assign rfl) ?_
          refine JL.nil ?_
          refine J.splitAt 22 rfl (fun h22 => ?_) (fun h22 => ?_)
          focus
            refine J.condT rfl ?_
            refine J.seq ?_
            refine J.region ?_
            refine JL.pure rfl rfl (OpP.assign rfl) ?_
            refine JL.nil ?_
            refine J.ret1 rfl rfl ?_
          rotate_left 1
          focus
            refine J.condF rfl ?_
            refine J.seq ?_
            refine J.region ?_
            refine JL.pure rfl rfl (OpP.indexAddrA rfl rfl (by omega) (by omega)) ?_
            refine JL.read rfl rfl (OpR.load1 rfl (Cell.row .head rfl)) ?_
            refine JL.pure rfl rfl (OpP.assign rfl) ?_
            refine JL.nil ?_
            refine J.splitAt 25 rfl (fun h25 => ?_) (fun h25 => ?_)
            focus
              refine J.condT rfl ?_
              refine J.seq ?_
              refine J.region ?_
              refine JL.pure rfl rfl (OpP.assign rfl) ?_
              refine JL.nil ?_
              refine J.ret1 rfl rfl ?_
            rotate_left 1
            focus
              refine J.condF rfl ?_
              refine J.skip ?_
              refine J.inBlock ?_
              refine J.seq ?_
              refine J.region ?_
              refine JL.pure rfl rfl (OpP.assign rfl) ?_
              refine JL.nil ?_
              refine J.ret1 rfl rfl ?_
            rotate_left 1
          rotate_left 2
        rotate_left 3
      rotate_left 4
    rotate_left 10
  rotate_left 11
  all_goals exact ⟨_, ⟨congrArg (Value.int .i64) (by simp_all [denies]), rfl⟩, fun _ h => h.tail⟩
theorem turnS_ok {w0 : World} {s : Sn} {F : List HProp} : FnO Try.prog w0 38 [.agg (scl s).toArray] F (fun v l' => v = .agg (scl (turnS s)).toArray ∧ l' = F) := by
  refine FnO.weak ?_
  refine FnO.intro (n := 17) Try.func38 rfl rfl rfl ?_
  refine J.seq ?_
  refine J.region ?_
  refine JL.mem rfl rfl (OpM.box rfl rfl) ?_; rintro _ _ ⟨b1, rfl, rfl⟩
  refine JL.mem rfl rfl OpM.alloc ?_; rintro _ _ ⟨b2, rfl, rfl⟩
  refine JL.nil ?_
  refine J.seq ?_
  refine J.region ?_
  refine JL.mem rfl rfl OpM.alloc ?_; rintro _ _ ⟨b3, rfl, rfl⟩
  refine JL.nil ?_
  refine J.seq ?_
  refine J.seq ?_
  refine J.region ?_
  refine JL.read rfl rfl (OpR.loadN rfl (Cells.full (.tail (.tail .head))) rfl) ?_
  refine JL.pure rfl rfl (OpP.move rfl) ?_
  refine JL.nil ?_
  refine J.block ?_
  refine J.loop ?_
  refine J.seq ?_
  refine J.region ?_
  refine JL.decT rfl rfl (OpP.lss rfl rfl) (by omega) ?_
  refine JL.nil ?_
  refine J.seq ?_
  refine J.condT rfl ?_
  refine J.skip ?_
  refine J.seq ?_
  refine J.block ?_
  refine J.seq ?_
  refine J.region ?_
  refine JL.pure rfl rfl (OpP.move rfl) ?_
  refine JL.pure rfl rfl (OpP.indexArr1 rfl rfl (by omega) (by omega) rfl) ?_
  refine JL.pure rfl rfl (OpP.assign rfl) ?_
  refine JL.pure rfl rfl (OpP.assign rfl) ?_
  refine JL.nil ?_
  refine J.region ?_
  refine JL.pure rfl rfl (OpP.move rfl) ?_
  refine JL.step rfl rfl (OpW.call (first := []) (captured := []) inferInstance rfl rfl (TurnC_ok 0 0 rfl)) ?_; rintro r12 _ ⟨rfl, rfl⟩
  refine JL.pure rfl rfl (OpP.move rfl) ?_
  refine JL.pure rfl rfl (OpP.indexAddrA rfl rfl (by omega) (by omega)) ?_
  refine JL.mem0 rfl (by apply OpM.store1 rfl rfl rfl; (case' hu => exact .head); (case' hs => exact (.here .nil)); done) ?_; rintro _ _ ⟨rfl, rfl⟩
  refine JL.nil ?_
  refine J.inBlock ?_
  refine J.region ?_
  refine JL.pure rfl rfl (OpP.addI rfl rfl (by omega) (by omega)) ?_
  refine JL.pure rfl rfl (OpP.move rfl) ?_
  refine JL.nil ?_
  refine J.inLoop ?_
  refine J.seq ?_
  refine J.region ?_
  refine JL.decT rfl rfl (OpP.lss rfl rfl) (by omega) ?_
  refine JL.nil ?_
  refine J.seq ?_
  refine J.condT rfl ?_
  refine J.skip ?_
  refine J.seq ?_
  refine J.block ?_
  refine J.seq ?_
  refine J.region ?_
  refine JL.pure rfl rfl (OpP.move rfl) ?_
  refine JL.pure rfl rfl (OpP.indexArr1 rfl rfl (by omega) (by omega) rfl) ?_
  refine JL.pure rfl rfl (OpP.assign rfl) ?_
  refine JL.pure rfl rfl (OpP.assign rfl) ?_
  refine JL.nil ?_
  refine J.region ?_
  refine JL.pure rfl rfl (OpP.move rfl) ?_
  refine JL.step rfl rfl (OpW.call (first := []) (captured := []) inferInstance rfl rfl (TurnC_ok 1 2 rfl)) ?_; rintro r12 _ ⟨rfl, rfl⟩
  refine JL.pure rfl rfl (OpP.move rfl) ?_
  refine JL.pure rfl rfl (OpP.indexAddrA rfl rfl (by omega) (by omega)) ?_
  refine JL.mem0 rfl (by apply OpM.store1 rfl rfl rfl; (case' hu => exact .head); (case' hs => exact (.there (.there (.here .nil)))); done) ?_; rintro _ _ ⟨rfl, rfl⟩
  refine JL.nil ?_
  refine J.inBlock ?_
  refine J.region ?_
  refine JL.pure rfl rfl (OpP.addI rfl rfl (by omega) (by omega)) ?_
  refine JL.pure rfl rfl (OpP.move rfl) ?_
  refine JL.nil ?_
  refine J.inLoop ?_
  refine J.seq ?_
  refine J.region ?_
  refine JL.decT rfl rfl (OpP.lss rfl rfl) (by omega) ?_
  refine JL.nil ?_
  refine J.seq ?_
  refine J.condT rfl ?_
  refine J.skip ?_
  refine J.seq ?_
  refine J.block ?_
  refine J.seq ?_
  refine J.region ?_
  refine JL.pure rfl rfl (OpP.move rfl) ?_
  refine JL.pure rfl rfl (OpP.indexArr1 rfl rfl (by omega) (by omega) rfl) ?_
  refine JL.pure rfl rfl (OpP.assign rfl) ?_
  refine JL.pure rfl rfl (OpP.assign rfl) ?_
  refine JL.nil ?_
  refine J.region ?_
  refine JL.pure rfl rfl (OpP.move rfl) ?_
  refine JL.step rfl rfl (OpW.call (first := []) (captured := []) inferInstance rfl rfl (TurnC_ok 2 1 rfl)) ?_; rintro r12 _ ⟨rfl, rfl⟩
  refine JL.pure rfl rfl (OpP.move rfl) ?_
  refine JL.pure rfl rfl (OpP.indexAddrA rfl rfl (by omega) (by omega)) ?_
  refine JL.mem0 rfl (by apply OpM.store1 rfl rfl rfl; (case' hu => exact .head); (case' hs => exact (.there (.here .nil))); done) ?_; rintro _ _ ⟨rfl, rfl⟩
  refine JL.nil ?_
  refine J.inBlock ?_
  refine J.region ?_
  refine JL.pure rfl rfl (OpP.addI rfl rfl (by omega) (by omega)) ?_
  refine JL.pure rfl rfl (OpP.move rfl) ?_
  refine JL.nil ?_
  refine J.inLoop ?_
  refine J.seq ?_
  refine J.region ?_
  refine JL.decT rfl rfl (OpP.lss rfl rfl) (by omega) ?_
  refine JL.nil ?_
  refine J.seq ?_
  refine J.condT rfl ?_
  refine J.skip ?_
  refine J.seq ?_
  refine J.block ?_
  refine J.seq ?_
  refine J.region ?_
  refine JL.pure rfl rfl (OpP.move rfl) ?_
  refine JL.pure rfl rfl (OpP.indexArr1 rfl rfl (by omega) (by omega) rfl) ?_
  refine JL.pure rfl rfl (OpP.assign rfl) ?_
  refine JL.pure rfl rfl (OpP.assign rfl) ?_
  refine JL.nil ?_
  refine J.region ?_
  refine JL.pure rfl rfl (OpP.move rfl) ?_
  refine JL.step rfl rfl (OpW.call (first := []) (captured := []) inferInstance rfl rfl (TurnC_ok 3 4 rfl)) ?_; rintro r12 _ ⟨rfl, rfl⟩
  refine JL.pure rfl rfl (OpP.move rfl) ?_
  refine JL.pure rfl rfl (OpP.indexAddrA rfl rfl (by omega) (by omega)) ?_
  refine JL.mem0 rfl (by apply OpM.store1 rfl rfl rfl; (case' hu => exact .head); (case' hs => exact (.there (.there (.there (.there (.here .nil)))))); done) ?_; rintro _ _ ⟨rfl, rfl⟩
  refine JL.nil ?_
  refine J.inBlock ?_
  refine J.region ?_
  refine JL.pure rfl rfl (OpP.addI rfl rfl (by omega) (by omega)) ?_
  refine JL.pure rfl rfl (OpP.move rfl) ?_
  refine JL.nil ?_
  refine J.inLoop ?_
  refine J.seq ?_
  refine J.region ?_
  refine JL.decT rfl rfl (OpP.lss rfl rfl) (by omega) ?_
  refine JL.nil ?_
  refine J.seq ?_
  refine J.condT rfl ?_
  refine J.skip ?_
  refine J.seq ?_
  refine J.block ?_
  refine J.seq ?_
  refine J.region ?_
  refine JL.pure rfl rfl (OpP.move rfl) ?_
  refine JL.pure rfl rfl (OpP.indexArr1 rfl rfl (by omega) (by omega) rfl) ?_
  refine JL.pure rfl rfl (OpP.assign rfl) ?_
  refine JL.pure rfl rfl (OpP.assign rfl) ?_
  refine JL.nil ?_
  refine J.region ?_
  refine JL.pure rfl rfl (OpP.move rfl) ?_
  refine JL.step rfl rfl (OpW.call (first := []) (captured := []) inferInstance rfl rfl (TurnC_ok 4 3 rfl)) ?_; rintro r12 _ ⟨rfl, rfl⟩
  refine JL.pure rfl rfl (OpP.move rfl) ?_
  refine JL.pure rfl rfl (OpP.indexAddrA rfl rfl (by omega) (by omega)) ?_
  refine JL.mem0 rfl (by apply OpM.store1 rfl rfl rfl; (case' hu => exact .head); (case' hs => exact (.there (.there (.there (.here .nil))))); done) ?_; rintro _ _ ⟨rfl, rfl⟩
  refine JL.nil ?_
  refine J.inBlock ?_
  refine J.region ?_
  refine JL.pure rfl rfl (OpP.addI rfl rfl (by omega) (by omega)) ?_
  refine JL.pure rfl rfl (OpP.move rfl) ?_
  refine JL.nil ?_
  refine J.inLoop ?_
  refine J.seq ?_
  refine J.region ?_
  refine JL.decT rfl rfl (OpP.lss rfl rfl) (by omega) ?_
  refine JL.nil ?_
  refine J.seq ?_
  refine J.condT rfl ?_
  refine J.skip ?_
  refine J.seq ?_
  refine J.block ?_
  refine J.seq ?_
  refine J.region ?_
  refine JL.pure rfl rfl (OpP.move rfl) ?_
  refine JL.pure rfl rfl (OpP.indexArr1 rfl rfl (by omega) (by omega) rfl) ?_
  refine JL.pure rfl rfl (OpP.assign rfl) ?_
  refine JL.pure rfl rfl (OpP.assign rfl) ?_
  refine JL.nil ?_
  refine J.region ?_
  refine JL.pure rfl rfl (OpP.move rfl) ?_
  refine JL.step rfl rfl (OpW.call (first := []) (captured := []) inferInstance rfl rfl (TurnC_ok 5 5 rfl)) ?_; rintro r12 _ ⟨rfl, rfl⟩
  refine JL.pure rfl rfl (OpP.move rfl) ?_
  refine JL.pure rfl rfl (OpP.indexAddrA rfl rfl (by omega) (by omega)) ?_
  refine JL.mem0 rfl (by apply OpM.store1 rfl rfl rfl; (case' hu => exact .head); (case' hs => exact (.there (.there (.there (.there (.there (.here .nil))))))); done) ?_; rintro _ _ ⟨rfl, rfl⟩
  refine JL.nil ?_
  refine J.inBlock ?_
  refine J.region ?_
  refine JL.pure rfl rfl (OpP.addI rfl rfl (by omega) (by omega)) ?_
  refine JL.pure rfl rfl (OpP.move rfl) ?_
  refine JL.nil ?_
  refine J.inLoop ?_
  refine J.seq ?_
  refine J.region ?_
  refine JL.decF rfl rfl (OpP.lss rfl rfl) (by omega) ?_
  refine JL.nil ?_
  refine J.seq ?_
  refine J.condF rfl ?_
  refine J.exit rfl ?_
  refine J.seq ?_
  refine J.region ?_
  refine JL.read rfl rfl (OpR.loadN rfl (Cells.full .head) rfl) ?_
  refine JL.mem0 rfl (by apply OpM.storeN rfl rfl (by rfl) (oneC rfl (oneC rfl (oneC rfl (oneC rfl (oneC rfl (one1 rfl)))))); (case' hu => exact (.tail .head)); (case' hs => exact (.here (.here (.here (.here (.here (.here .nil))))))); done) ?_; rintro _ _ ⟨rfl, rfl⟩
  refine JL.nil ?_
  refine J.retC rfl rfl (by apply Cells.full; (with_reducible repeat (first | exact .head | apply Has.tail))) (by rfl) ?_
  exact ⟨_, ⟨rfl, rfl⟩, fun _ h => Own.pick (pre := [_, _, _]) [] rfl h⟩
theorem unless_ok {w0 : World} {s : Sn} {a b : Int} {c : Bool} {F : List HProp} (h0 : 0 ≤ a) (h5 : a ≤ 5) (hc : (scl s)[a.toNat]? = some (.bool c)) : FnO Try.prog w0 41 [.agg (scl s).toArray, .int .i64 a, .int .i64 b] F (fun v l' => v = .int .i64 (if c then a else b) ∧ l' = F) := by
  refine FnO.weak ?_
  refine FnO.intro (n := 12) Try.func41 rfl rfl rfl ?_
  refine J.seq ?_
  refine J.region ?_
  refine JL.mem rfl rfl (OpM.box rfl rfl) ?_; rintro _ _ ⟨b3, rfl, rfl⟩
  refine JL.pure rfl rfl (OpP.assign rfl) ?_
  refine JL.nil ?_
  refine J.seq ?_
  refine J.seq ?_
  refine J.region ?_
  refine JL.pure rfl rfl (OpP.move rfl) ?_
  refine JL.pure rfl rfl (OpP.indexAddrA rfl rfl (by omega) (by omega)) ?_
  refine JL.read rfl rfl (OpR.load1 rfl (by apply Cell.rowAt .head; (case' hv => assumption); (case' ho => omega); done)) ?_
  refine JL.nil ?_
  refine J.splitAt 9 rfl (fun h9 => ?_) (fun h9 => ?_)
  focus
    refine J.condT rfl ?_
    refine J.seq ?_
    refine J.region ?_
    refine JL.pure rfl rfl (OpP.move rfl) ?_
    refine JL.pure rfl rfl (OpP.assign rfl) ?_
    refine JL.nil ?_
    refine J.ret1 rfl rfl ?_
  rotate_left 1
  focus
    refine J.condF rfl ?_
    refine J.skip ?_
    refine J.seq ?_
    refine J.region ?_
    refine JL.pure rfl rfl (OpP.move rfl) ?_
    refine JL.pure rfl rfl (OpP.assign rfl) ?_
    refine JL.nil ?_
    refine J.ret1 rfl rfl ?_
  rotate_left 1
  all_goals exact ⟨_, ⟨congrArg (Value.int .i64) (by simp_all), rfl⟩, fun _ h => h.tail⟩

/-! Lists of answers. -/
theorem CloneI_ok {w0 : World} {F : List HProp} {v : Value} {xs : List Int} (hr : RdO w0 F v xs.length (icells xs)) (hl : xs.length ≤ 1000000) :
    FnO Try.prog w0 53 [v] F (fun u l' => l' = own 3 1 u xs.length (icells xs) :: F) := by
  refine FnO.rd hr fun hr' => ?_
  obtain ⟨a, c, rfl⟩ := hr'.lit
  refine FnO.weak ?_
  refine FnO.intro (n := 8) Try.func53 rfl rfl rfl ?_
  cases a with
  | none =>
    have hn : xs = [] := by
      rcases hr' with ⟨_, _, h, h2, _⟩ | ⟨_, _, _, h, _⟩
      · exact List.eq_nil_of_length_eq_zero h2
      · cases h
    subst hn
    refine J.seq ?_
    refine J.region ?_
    refine JL.pure rfl rfl (OpP.assign rfl) ?_
    refine JL.nil ?_
    refine J.seq ?_
    refine J.seq ?_
    refine J.region ?_
    refine JL.pure rfl rfl (OpP.move rfl) ?_
    refine JL.pure rfl rfl (OpP.eqSlNil rfl rfl) ?_
    refine JL.nil ?_
    refine J.condT rfl ?_
    refine J.seq ?_
    refine J.region ?_
    refine JL.pure rfl rfl (OpP.assign rfl) ?_
    refine JL.nil ?_
    refine J.ret1 rfl rfl ?_
    exact ⟨_, rfl, fun _ h => Own.own_nil h⟩
  | some a =>
    refine J.seq ?_
    refine J.region ?_
    refine JL.pure rfl rfl (OpP.assign rfl) ?_
    refine JL.nil ?_
    refine J.seq ?_
    refine J.seq ?_
    refine J.region ?_
    refine JL.pure rfl rfl (OpP.move rfl) ?_
    refine JL.pure rfl rfl (OpP.eqSlNil rfl rfl) ?_
    refine JL.nil ?_
    refine J.condF rfl ?_
    refine J.skip ?_
    refine J.seq ?_
    refine J.region ?_
    refine JL.mem rfl rfl (by apply OpM.buildSlice (by rfl) rfl (by rfl); (repeat (first | exact Fills.nil | (apply Fills.cons rfl rfl rfl; (case' hs => ((repeat (first | exact Spl.nil | apply Spl.here | apply Spl.there)); done)))))) ?_; rintro _ _ ⟨b5, rfl, rfl⟩
    refine JL.pure rfl rfl (OpP.move rfl) ?_
    refine JL.ownRow (n := 0) (sz := 1) (by decide) rfl ?_
    refine JL.mem rfl rfl (OpM.appendH0 rfl rfl (.inl ⟨_, Sl.und inferInstance⟩) (by rfl) rfl rfl (RdO.src (hr.conv fun _ h => Own.pick (pre := [_]) [] rfl h) (by first | (simp; done) | (simp; omega))) (by first | exact bcells_one _ | exact scells_one _ | exact icells_one _ | assumption) (by simp only [maxLen]; omega) (by omega)) ?_; rintro _ _ ⟨⟨a7, c7, rfl⟩, rfl⟩
    refine JL.pure rfl rfl (OpP.assign rfl) ?_
    refine JL.nil ?_
    refine J.ret1 rfl rfl ?_
    exact ⟨_, rfl, fun _ h => h⟩
theorem said1_ok {w0 : World} {x : Int} {F : List HProp} : FnO Try.prog w0 54 [.int .i64 x] F (fun v l' => v = .bool (decide (x = 0)) ∧ l' = F) := by
  refine FnO.intro (n := 5) Try.func54 rfl rfl rfl ?_
  refine J.seq ?_
  refine J.region ?_
  refine JL.pure rfl rfl (OpP.assign rfl) ?_
  refine JL.nil ?_
  refine J.seq ?_
  refine J.region ?_
  refine JL.pure rfl rfl (OpP.move rfl) ?_
  refine JL.dec rfl rfl (OpP.eql rfl rfl) (fun h4 => ?_) (fun h4 => ?_)
  focus
    refine JL.pure rfl rfl (OpP.assign rfl) ?_
    refine JL.nil ?_
    refine J.ret1 rfl rfl ?_
  rotate_left 1
  focus
    refine JL.pure rfl rfl (OpP.assign rfl) ?_
    refine JL.nil ?_
    refine J.ret1 rfl rfl ?_
  rotate_left 1
  · exact ⟨congrArg Value.bool (decide_eq_true (by assumption)).symm, rfl⟩
  · exact ⟨congrArg Value.bool (decide_eq_false (by assumption)).symm, rfl⟩

def FirstZ (xs : List Int) (v : Int) : Prop := (∃ i : Nat, v = i ∧ xs[i]? = some 0 ∧ ∀ j y, j < i → xs[j]? = some y → y ≠ 0) ∨ (v = -1 ∧ ∀ y ∈ xs, y ≠ 0)
theorem IndexI_ok {w0 : World} {F : List HProp} {v : Value} {xs : List Int} (hr : RdO w0 F v xs.length (icells xs)) (hl : xs.length ≤ 1000000) :
    FnO Try.prog w0 60 [v, .func (.func 54) #[] #[]] F (fun u l' => (∃ x, u = .int .i64 x ∧ FirstZ xs x) ∧ l' = F) := by
  refine FnO.rd hr fun hr' => ?_
  obtain ⟨a, c, rfl⟩ := hr'.lit
  refine FnO.intro (n := 19) Try.func60 rfl rfl rfl ?_
  refine J.seq ?_
  refine J.region ?_
  refine JL.pure rfl rfl (OpP.assign rfl) ?_
  refine JL.nil ?_
  refine J.seq ?_
  refine J.seq ?_
  refine J.region ?_
  refine JL.pure rfl rfl (OpP.move rfl) ?_
  refine JL.pure rfl rfl (OpP.len rfl rfl) ?_
  refine JL.pure rfl rfl (OpP.move rfl) ?_
  refine JL.nil ?_
  refine J.block ?_
  refine J.loopI (fun i : Nat => xs.length - i) (fun i => i ≤ xs.length ∧ ∀ j y, j < i → xs[j]? = some y → y ≠ 0) (fun i => [(8, .int .i64 (i : Nat)), (7, .int .i64 xs.length), (0, .slice a xs.length c), (1, .func (.func 54) #[] #[])]) (fun _ => F) 0 ⟨Nat.zero_le _, fun _ _ h => by omega⟩ (by repeat (first | exact SubEnv.nil | refine SubEnv.cons (by first | rfl | exact congrArg (fun z => some (Value.int .i64 z)) (by omega) | (simp; done)) ?_)) (fun _ h => h) (fun i ⟨hi, hf⟩ back => ?_)
  by_cases hlt : i < xs.length
  · obtain ⟨x, hx⟩ : ∃ x, xs[i]? = some x := ⟨_, List.getElem?_eq_getElem hlt⟩
    have hx' := icells_get hx
    refine J.seq ?_
    refine J.region ?_
    refine JL.decT rfl rfl (OpP.lss rfl rfl) (by omega) ?_
    refine JL.nil ?_
    refine J.seq ?_
    refine J.condT rfl ?_
    refine J.skip ?_
    refine J.seq ?_
    refine J.block ?_
    refine J.seq ?_
    refine J.region ?_
    refine JL.pure rfl rfl (OpP.move rfl) ?_
    refine JL.pure rfl rfl (OpP.assign rfl) ?_
    refine JL.nil ?_
    refine J.seq ?_
    refine J.region ?_
    refine JL.pure rfl rfl (OpP.move rfl) ?_
    refine JL.pure rfl rfl (OpP.move rfl) ?_
    refine JL.pure rfl rfl (OpP.move rfl) ?_
    obtain ⟨ga, pa, qa, ea, ka, ca⟩ := hr'.pos (by omega); cases ea
    refine JL.pure rfl rfl (OpP.indexAddr rfl rfl (by omega) (by omega)) ?_
    refine JL.read rfl rfl (OpR.load1 rfl (by apply Cells.cell ca (fun _ h => h); (case' hv => assumption); (case' ho => omega); done)) ?_
    refine JL.step rfl rfl (OpW.call (first := []) (captured := []) inferInstance rfl rfl said1_ok) ?_; rintro r16 _ ⟨rfl, rfl⟩
    refine JL.nil ?_
    refine J.decAt 16 rfl (fun h16 => ?_) (fun h16 => ?_)
    focus
      refine J.condT rfl ?_
      refine J.seq ?_
      refine J.region ?_
      refine JL.pure rfl rfl (OpP.move rfl) ?_
      refine JL.pure rfl rfl (OpP.assign rfl) ?_
      refine JL.nil ?_
      refine J.ret1 rfl rfl ?_
    rotate_left 1
    focus
      refine J.condF rfl ?_
      refine J.skip ?_
      refine J.inBlock ?_
      refine J.region ?_
      refine JL.pure rfl rfl (OpP.addI rfl rfl (by omega) (by omega)) ?_
      refine JL.pure rfl rfl (OpP.move rfl) ?_
      refine JL.nil ?_
    rotate_left 1
    · exact ⟨⟨_, rfl, .inl ⟨i, rfl, by rw [hx, h16], hf⟩⟩, rfl⟩
    · refine back (i + 1) ⟨by omega, fun j y hj hy => ?_⟩ (by omega) (by repeat (first | exact SubEnv.nil | refine SubEnv.cons (by first | rfl | exact congrArg (fun z => some (Value.int .i64 z)) (by omega) | (simp; done)) ?_)) (fun _ h => h)
      by_cases hji : j < i
      · exact hf j y hji hy
      · obtain rfl : j = i := by omega
        rw [hx] at hy; cases hy; exact h16
  · refine J.seq ?_
    refine J.region ?_
    refine JL.decF rfl rfl (OpP.lss rfl rfl) (by omega) ?_
    refine JL.nil ?_
    refine J.seq ?_
    refine J.condF rfl ?_
    refine J.exit rfl ?_
    refine J.seq ?_
    refine J.region ?_
    refine JL.pure rfl rfl (OpP.assign rfl) ?_
    refine JL.nil ?_
    refine J.ret1 rfl rfl ?_
    refine ⟨⟨_, rfl, .inr ⟨rfl, fun y hy => ?_⟩⟩, rfl⟩
    obtain ⟨j, hj⟩ := List.getElem?_of_mem hy
    exact hf j y (by have := (List.getElem?_eq_some_iff.1 hj).1; omega) hj

def nz (l : List Int) : List Int := l.filter fun x => decide (x ≠ 0)
theorem DeleteI_ok {w0 : World} {F : List HProp} {v : Value} {xs : List Int} (hl : xs.length ≤ 1000000) :
    FnO Try.prog w0 52 [v, .func (.func 54) #[] #[]] (own 3 1 v xs.length (icells xs) :: F) (fun u l' => l' = own 3 1 u (nz xs).length (icells (nz xs)) :: F) := by
  refine FnO.rd (RdO.own .head) fun hr => ?_
  obtain ⟨a, c, rfl⟩ := hr.lit
  refine FnO.weak ?_
  refine FnO.intro (n := 42) Try.func52 rfl rfl rfl ?_
  refine J.seq ?_
  refine J.region ?_
  refine JL.pure rfl rfl (OpP.assign rfl) ?_
  refine JL.nil ?_
  refine J.seq ?_
  refine J.region ?_
  refine JL.pure rfl rfl (OpP.move rfl) ?_
  refine JL.pure rfl rfl (OpP.move rfl) ?_
  refine JL.step rfl rfl (OpW.call (first := []) (captured := []) inferInstance rfl rfl (IndexI_ok (F := own 3 1 (.slice a xs.length c) xs.length (icells xs) :: F) (RdO.own .head) hl)) ?_; rintro r10 _ ⟨⟨x, ⟨rfl, h10⟩⟩, rfl⟩
  refine JL.pure rfl rfl (OpP.assign rfl) ?_
  refine JL.nil ?_
  refine J.seq ?_
  rcases h10 with ⟨i, rfl, hi, hbef⟩ | ⟨rfl, hall⟩
  · have hlt : i < xs.length := (List.getElem?_eq_some_iff.1 hi).1
    refine J.ownSome .head (by omega) fun g p ea hcap => ?_
    subst ea
    refine J.seq ?_
    refine J.region ?_
    refine JL.pure rfl rfl (OpP.move rfl) ?_
    refine JL.decF rfl rfl (OpP.eql rfl rfl) (by omega) ?_
    refine JL.nil ?_
    refine J.condF rfl ?_
    refine J.skip ?_
    refine J.seq ?_
    refine J.seq ?_
    refine J.region ?_
    refine JL.pure rfl rfl (OpP.move rfl) ?_
    refine JL.pure rfl rfl (OpP.addI rfl rfl (by omega) (by omega)) ?_
    refine JL.pure rfl rfl (OpP.assign rfl) ?_
    refine JL.nil ?_
    refine J.block ?_
    have hK0 : nz (xs.take (i + 1)) = xs.take i := by
      unfold nz
      rw [filter_take_succ' hi]
      simp only [ne_eq, not_true_eq_false, decide_false, Bool.false_eq_true, if_false, List.append_nil]
      rw [List.filter_eq_self]
      intro f hf
      obtain ⟨j, hj⟩ := List.getElem?_of_mem hf
      have hji : j < i := by have := (List.getElem?_eq_some_iff.1 hj).1; simp at this; omega
      rw [List.getElem?_take, if_pos hji] at hj
      simpa using hbef j f hji hj
    refine J.loopI (fun x : Nat × List Int × List Int => xs.length - x.1) (fun x => x.1 ≤ xs.length ∧ x.2.1 = nz (xs.take x.1) ∧ x.2.1.length + x.2.2.length = x.1 ∧ 0 < x.2.2.length)
      (fun x => [(6, .int .i64 (x.1 : Nat)), (5, .int .i64 (x.2.1.length : Nat)), (0, .slice (some ⟨g, p, none⟩) xs.length c), (1, .func (.func 54) #[] #[])])
      (fun x => own 3 1 (.slice (some ⟨g, p, none⟩) xs.length c) xs.length (icells (x.2.1 ++ x.2.2 ++ xs.drop x.1)) :: F) (i + 1, xs.take i, [0]) ⟨by dsimp only; omega, hK0.symm, by simp; omega, by simp⟩ ?_ (fun w h => ?_) (fun ⟨j, K, G⟩ ⟨hj, hK, hKG, hG⟩ back => ?_)
    · dsimp only
      rw [List.length_take, Nat.min_eq_left (by omega)]
      exact (by repeat (first | exact SubEnv.nil | refine SubEnv.cons (by first | rfl | exact congrArg (fun z => some (Value.int .i64 z)) (by omega) | (simp; done)) ?_))
    · dsimp only
      have : xs.take i ++ [0] ++ xs.drop (i + 1) = xs := by
        rw [List.append_assoc, List.singleton_append]
        have hd : xs.drop i = 0 :: xs.drop (i + 1) := by
          rw [List.drop_eq_getElem_cons hlt]
          congr 1
          exact (List.getElem?_eq_some_iff.1 hi).2
        rw [← hd, List.take_append_drop]
      rw [this]; exact h
    dsimp only at hj hK hKG hG back ⊢
    by_cases hjn : j < xs.length
    · obtain ⟨f, hf⟩ : ∃ f, xs[j]? = some f := ⟨_, List.getElem?_eq_getElem hjn⟩
      have hzf : (K ++ G ++ xs.drop j)[j]? = some f := by
        rw [List.getElem?_append_right (by simp; omega), List.length_append, hKG, Nat.sub_self, List.getElem?_drop]
        exact hf
      have hzf' := icells_get hzf
      have hfil : nz (xs.take (j + 1)) = nz (xs.take j) ++ _ := filter_take_succ' hf
      rw [← hK] at hfil
      have hdj : xs.drop j = f :: xs.drop (j + 1) := by
        rw [List.drop_eq_getElem_cons hjn]
        congr 1
        exact (List.getElem?_eq_some_iff.1 hf).2
      have hlk : K.length < (icells (K ++ G ++ xs.drop j)).length := by simp; omega
      refine J.seq ?_
      refine J.seq ?_
      refine J.region ?_
      refine JL.pure rfl rfl (OpP.move rfl) ?_
      refine JL.pure rfl rfl (OpP.move rfl) ?_
      refine JL.pure rfl rfl (OpP.len rfl rfl) ?_
      refine JL.decT rfl rfl (OpP.lss rfl rfl) (by omega) ?_
      refine JL.nil ?_
      refine J.condT rfl ?_
      refine J.skip ?_
      refine J.seq ?_
      refine J.block ?_
      refine J.seq ?_
      refine J.region ?_
      refine JL.pure rfl rfl (OpP.move rfl) ?_
      refine JL.pure rfl rfl (OpP.move rfl) ?_
      refine JL.pure rfl rfl (OpP.indexAddr rfl rfl (by omega) (by omega)) ?_
      refine JL.read rfl rfl (OpR.load1 rfl (by apply Cells.cell (hv := hzf') (Cells.own .head) (fun _ h => h); omega)) ?_
      refine JL.pure rfl rfl (OpP.assign rfl) ?_
      refine JL.nil ?_
      refine J.seq ?_
      refine J.region ?_
      refine JL.pure rfl rfl (OpP.move rfl) ?_
      refine JL.pure rfl rfl (OpP.move rfl) ?_
      refine JL.step rfl rfl (OpW.call (first := []) (captured := []) inferInstance rfl rfl said1_ok) ?_; rintro r28 _ ⟨rfl, rfl⟩
      refine JL.pure rfl rfl (OpP.notB rfl) ?_
      refine JL.nil ?_
      refine J.splitAt 29 rfl (fun h29 => ?_) (fun h29 => ?_)
      focus
        refine J.condT rfl ?_
        refine J.seq ?_
        refine J.region ?_
        refine JL.pure rfl rfl (OpP.move rfl) ?_
        refine JL.pure rfl rfl (OpP.move rfl) ?_
        refine JL.pure rfl rfl (OpP.move rfl) ?_
        refine JL.pure rfl rfl (OpP.indexAddr rfl rfl (by omega) (by omega)) ?_
        refine JL.mem0 rfl (OpM.storeOwn rfl rfl rfl (by first | rfl | (simp only [Int.toNat_natCast, Nat.mul_one])) (by first | assumption | omega)) ?_; rintro _ _ ⟨rfl, rfl⟩
        refine JL.nil ?_
        refine J.region ?_
        refine JL.pure rfl rfl (OpP.move rfl) ?_
        refine JL.pure rfl rfl (OpP.addI rfl rfl (by omega) (by omega)) ?_
        refine JL.pure rfl rfl (OpP.assign rfl) ?_
        refine JL.nil ?_
        refine J.inBlock ?_
        refine J.region ?_
        refine JL.pure rfl rfl (OpP.move rfl) ?_
        refine JL.pure rfl rfl (OpP.addI rfl rfl (by omega) (by omega)) ?_
        refine JL.pure rfl rfl (OpP.assign rfl) ?_
        refine JL.nil ?_
      rotate_left 1
      focus
        refine J.condF rfl ?_
        refine J.skip ?_
        refine J.inBlock ?_
        refine J.region ?_
        refine JL.pure rfl rfl (OpP.move rfl) ?_
        refine JL.pure rfl rfl (OpP.addI rfl rfl (by omega) (by omega)) ?_
        refine JL.pure rfl rfl (OpP.assign rfl) ?_
        refine JL.nil ?_
      rotate_left 1
      · obtain ⟨g0, G', rfl⟩ : ∃ g0 G', G = g0 :: G' := by cases G with | nil => simp at hG | cons a l => exact ⟨a, l, rfl⟩
        have hset : (K ++ (g0 :: G') ++ xs.drop j).set K.length f = (K ++ [f]) ++ (G' ++ [f]) ++ xs.drop (j + 1) := by
          rw [List.append_assoc, List.set_append_right _ _ (Nat.le_refl _), Nat.sub_self, hdj]
          simp
        have hf0 : f ≠ 0 := by simpa using h29
        simp only [ne_eq, hf0, not_false_eq_true, decide_true, if_true] at hfil
        refine back (j + 1, K ++ [f], G' ++ [f]) ⟨by dsimp only; omega, hfil.symm, by simp at hKG ⊢; omega, by simp⟩ (by dsimp only; omega) ?_ (fun w h => ?_)
        · dsimp only
          rw [List.length_append, List.length_singleton]
          exact (by repeat (first | exact SubEnv.nil | refine SubEnv.cons (by first | rfl | exact congrArg (fun z => some (Value.int .i64 z)) (by omega) | (simp; done)) ?_))
        · dsimp only
          rw [← hset]
          simp only [Int.toNat_natCast, Nat.mul_one] at h
          rw [icells, List.map_set]
          exact h
      · have hf0 : f = 0 := by simpa using h29
        simp only [hf0, ne_eq, not_true_eq_false, decide_false, Bool.false_eq_true, if_false, List.append_nil] at hfil
        refine back (j + 1, K, G ++ [f]) ⟨by dsimp only; omega, hfil.symm, by simp; omega, by simp⟩ (by dsimp only; omega) (by repeat (first | exact SubEnv.nil | refine SubEnv.cons (by first | rfl | exact congrArg (fun z => some (Value.int .i64 z)) (by omega) | (simp; done)) ?_)) (fun w h => ?_)
        dsimp only
        rw [hdj] at h
        have e2 : K ++ (G ++ [f]) ++ xs.drop (j + 1) = K ++ G ++ f :: xs.drop (j + 1) := by simp
        rw [e2]
        exact h
    · have hjl : j = xs.length := by omega
      subst hjl
      rw [List.take_length] at hK
      refine J.seq ?_
      refine J.seq ?_
      refine J.region ?_
      refine JL.pure rfl rfl (OpP.move rfl) ?_
      refine JL.pure rfl rfl (OpP.move rfl) ?_
      refine JL.pure rfl rfl (OpP.len rfl rfl) ?_
      refine JL.decF rfl rfl (OpP.lss rfl rfl) (by omega) ?_
      refine JL.nil ?_
      refine J.condF rfl ?_
      refine J.exit rfl ?_
      refine J.seq ?_
      refine J.region ?_
      refine JL.pure rfl rfl (OpP.move rfl) ?_
      refine JL.pure rfl rfl (OpP.move rfl) ?_
      refine JL.pure rfl rfl (OpP.sliceFrom _ rfl rfl rfl (by omega) (by omega)) ?_
      rw [if_neg (show ¬ c = K.length by omega)]
      refine JL.mem0 rfl (OpM.clearOwn (k := K.length) rfl rfl (by decide) rfl (one1 rfl) rfl (by omega)) ?_; rintro _ _ ⟨rfl, rfl⟩
      refine JL.nil ?_
      refine J.seq ?_
      refine J.region ?_
      refine JL.pure rfl rfl (OpP.move rfl) ?_
      refine JL.pure rfl rfl (OpP.move rfl) ?_
      refine JL.pure rfl rfl (OpP.sliceTo _ rfl rfl rfl (by omega)) ?_
      refine JL.pure rfl rfl (OpP.assign rfl) ?_
      refine JL.nil ?_
      refine J.ret1 rfl rfl ?_
      refine ⟨_, rfl, fun w h => ?_⟩
      have h := Own.shrink (k := K.length) (by omega) h
      have e1 : List.take (K.length * 1) (List.take (K.length * 1) (icells (K ++ G ++ xs.drop xs.length)) ++ rep (xs.length - K.length) [Value.int .i64 0]) = icells K := by
        rw [Nat.mul_one, List.take_append_of_le_length (by first | (simp; done) | (simp; omega)), List.take_take, Nat.min_self, List.append_assoc, icells_append, List.take_append_of_le_length (by simp), List.take_of_length_le (by simp)]
      rw [e1] at h
      rw [← hK]
      exact h
  · refine J.seq ?_
    refine J.region ?_
    refine JL.pure rfl rfl (OpP.move rfl) ?_
    refine JL.decT rfl rfl (OpP.eql rfl rfl) (by omega) ?_
    refine JL.nil ?_
    refine J.condT rfl ?_
    refine J.seq ?_
    refine J.region ?_
    refine JL.pure rfl rfl (OpP.move rfl) ?_
    refine JL.pure rfl rfl (OpP.assign rfl) ?_
    refine JL.nil ?_
    refine J.ret1 rfl rfl ?_
    have : nz xs = xs := List.filter_eq_self.2 fun x hx => by simpa using hall x hx
    rw [this]
    exact ⟨_, rfl, fun _ h => h⟩
end Go.Proofs.C
