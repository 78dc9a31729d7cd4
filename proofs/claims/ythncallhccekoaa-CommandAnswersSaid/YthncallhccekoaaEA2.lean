/- A text of the proof of a statement about the given program: its part EA2. No person has read it. -/
import Derived.Test.YthncallhccekoaaEA1
import Derived.Test.YthncallhccekoaaEJ2
-- seat e
namespace Go.Proofs.E
open Go Go.Gp Go.RowKit

/-! What is read: the rest, or bad. -/
abbrev inL (g : Nat) (bad : Bool) (v : Value) (M : List UInt8) (F : List HProp) : List HProp := row g 85 [.bool bad, v] :: own 5 1 v M.length (bcells M) :: F
def restO (o : Option (List UInt8)) (n : Int) : Option (List UInt8) := o.bind fun M => if 0 ≤ n ∧ n ≤ M.length then some (M.drop n.toNat) else none
def gotO (o : Option (List UInt8)) (n : Int) : List UInt8 := match o with
  | none => []
  | some M => if 0 ≤ n ∧ n ≤ M.length then M.take n.toNat else []
theorem spoilI_ok {w0 : World} {F : List HProp} {g : Nat} {bad : Bool} {v : Value} :
    FnO Try.prog w0 51 [.pointer (some ⟨g, 0, none⟩)] (row g 85 [.bool bad, v] :: F) (fun r l' => r = .tuple #[] ∧ l' = row g 85 [.bool true, v] :: F) := by
  refine FnO.intro (n := 5) Try.func51 rfl rfl rfl ?_
  refine J.region ?_
  refine JL.pure rfl rfl (OpP.move rfl) ?_
  refine JL.pure rfl rfl (OpP.nilCheck rfl) ?_
  refine JL.pure rfl rfl (OpP.fieldAddr rfl) ?_
  refine JL.mem0 rfl (by apply OpM.store1 rfl rfl rfl; (case' hu => exact .head); (case' hs => exact (.here .nil)); done) ?_; rintro _ _ ⟨rfl, rfl⟩
  refine JL.nil ?_
  refine J.fin0 rfl ?_
  exact ⟨rfl, rfl⟩
theorem read_ok {w0 : World} {F : List HProp} {v : Value} {l : List UInt8} (hl : l.length ≤ 1000000000) (hr : RdO w0 F v l.length (bcells l)) :
    FnO Try.prog w0 14 [v] F (fun r l' => ∃ g v', r = .pointer (some ⟨g, 0, none⟩) ∧ l' = inL g false v' l F) := by
  refine FnO.rdF (fun _ h => h) hr fun hr1 => ?_
  obtain ⟨a1, c1, rfl⟩ := hr1.lit
  refine FnO.weak ?_
  refine FnO.intro (n := 7) Try.func14 rfl rfl rfl ?_
  refine J.seq ?_
  refine J.region ?_
  refine JL.pure rfl rfl (OpP.assign rfl) ?_
  refine JL.nil ?_
  refine J.seq ?_
  refine J.region ?_
  refine JL.pure rfl rfl (OpP.move rfl) ?_
  refine JL.step rfl rfl (OpW.call (first := []) (captured := []) inferInstance rfl rfl (clone_ok hl hr)) ?_; rintro r4 _ ⟨⟨a, ⟨c, rfl⟩⟩, rfl⟩
  refine JL.pure rfl rfl (OpP.build rfl (by (repeat (first | exact Fills.nil | (apply Fills.cons rfl rfl rfl; (case' hs => ((repeat (first | exact Spl.nil | apply Spl.here | apply Spl.there)); done))))))) ?_
  refine JL.mem rfl rfl (OpM.box rfl rfl) ?_; rintro _ _ ⟨b6, rfl, rfl⟩
  refine JL.pure rfl rfl (OpP.assign rfl) ?_
  refine JL.nil ?_
  refine J.ret1 rfl rfl ?_
  exact ⟨_, ⟨b6, _, rfl, rfl⟩, fun _ h => h⟩
theorem over_ok {w0 : World} {F : List HProp} {g : Nat} {bad : Bool} {v : Value} {M : List UInt8} :
    FnO Try.prog w0 23 [.pointer (some ⟨g, 0, none⟩)] (inL g bad v M F) (fun r l' => r = .bool (decide (bad = false ∧ M = [])) ∧ l' = inL g bad v M F) := by
  refine FnO.intro (n := 17) Try.func23 rfl rfl rfl ?_
  refine J.lit (.tail .head) fun av cv ev => ?_; subst ev
  refine J.seq ?_
  refine J.region ?_
  refine JL.pure rfl rfl (OpP.assign rfl) ?_
  refine JL.nil ?_
  refine J.seq ?_
  refine J.region ?_
  refine JL.pure rfl rfl (OpP.move rfl) ?_
  refine JL.pure rfl rfl (OpP.nilCheck rfl) ?_
  refine JL.pure rfl rfl (OpP.fieldAddr rfl) ?_
  refine JL.pure rfl rfl (OpP.fieldAddr rfl) ?_
  refine JL.read rfl rfl (OpR.load1 rfl (Cell.row .head rfl)) ?_
  refine JL.pure rfl rfl (OpP.notB rfl) ?_
  refine JL.pure rfl rfl (OpP.move rfl) ?_
  refine JL.splitAt 9 rfl (fun h9 => ?_) (fun h9 => ?_)
  focus
    refine JL.pure rfl rfl (OpP.move rfl) ?_
    refine JL.pure rfl rfl (OpP.nilCheck rfl) ?_
    refine JL.pure rfl rfl (OpP.fieldAddr rfl) ?_
    refine JL.read rfl rfl (OpR.load1 rfl (Cell.row .head rfl)) ?_
    refine JL.pure rfl rfl (OpP.len rfl rfl) ?_
    refine JL.dec rfl rfl (OpP.eql rfl rfl) (fun h15 => ?_) (fun h15 => ?_)
    focus
      refine JL.pure rfl rfl (OpP.pickT rfl rfl) ?_
      refine JL.pure rfl rfl (OpP.assign rfl) ?_
      refine JL.nil ?_
      refine J.ret1 rfl rfl ?_
    rotate_left 1
    focus
      refine JL.pure rfl rfl (OpP.pickT rfl rfl) ?_
      refine JL.pure rfl rfl (OpP.assign rfl) ?_
      refine JL.nil ?_
      refine J.ret1 rfl rfl ?_
    rotate_left 1
  rotate_left 2
  focus
    refine JL.skip rfl rfl ?_
    refine JL.skip rfl rfl ?_
    refine JL.skip rfl rfl ?_
    refine JL.skip rfl rfl ?_
    refine JL.skip rfl rfl ?_
    refine JL.skip rfl rfl ?_
    refine JL.pure rfl rfl (OpP.pickF rfl rfl) ?_
    refine JL.pure rfl rfl (OpP.assign rfl) ?_
    refine JL.nil ?_
    refine J.ret1 rfl rfl ?_
  rotate_left 1
  · exact ⟨congrArg Value.bool (decide_eq_true ⟨by simpa using h9, List.eq_nil_of_length_eq_zero (by omega)⟩).symm, rfl⟩
  · exact ⟨congrArg Value.bool (decide_eq_false fun q => h15 (by rw [q.2]; rfl)).symm, rfl⟩
  · exact ⟨congrArg Value.bool (decide_eq_false fun q => by rw [q.1] at h9; cases h9).symm, rfl⟩
theorem raw_ok {w0 : World} {F : List HProp} {g : Nat} {n : Int} {bad : Bool} {v : Value} {M : List UInt8} (hM : M.length ≤ 1000000000) :
    FnO Try.prog w0 21 [.pointer (some ⟨g, 0, none⟩), .int .i64 n] (inL g bad v M F) (fun r l' => ∃ bad' v' M', (∃ a c, r = .slice a (gotO (absO bad M) n).length c) ∧ M'.length ≤ 1000000000 ∧ absO bad' M' = restO (absO bad M) n ∧ l' = own 5 1 r (gotO (absO bad M) n).length (bcells (gotO (absO bad M) n)) :: inL g bad' v' M' F) := by
  refine FnO.weak ?_
  refine FnO.intro (n := 45) Try.func21 rfl rfl rfl ?_
  refine J.lit (.tail .head) fun av cv ev => ?_; subst ev
  by_cases hb : bad = true
  · subst hb
    refine J.seq ?_
    refine J.region ?_
    refine JL.pure rfl rfl (OpP.assign rfl) ?_
    refine JL.nil ?_
    refine J.seq ?_
    refine J.seq ?_
    refine J.region ?_
    refine JL.pure rfl rfl (OpP.move rfl) ?_
    refine JL.pure rfl rfl (OpP.nilCheck rfl) ?_
    refine JL.pure rfl rfl (OpP.fieldAddr rfl) ?_
    refine JL.pure rfl rfl (OpP.fieldAddr rfl) ?_
    refine JL.read rfl rfl (OpR.load1 rfl (Cell.row .head rfl)) ?_
    refine JL.pure rfl rfl (OpP.move rfl) ?_
    refine JL.skip rfl rfl ?_
    refine JL.skip rfl rfl ?_
    refine JL.pure rfl rfl (OpP.pickT rfl rfl) ?_
    refine JL.pure rfl rfl (OpP.move rfl) ?_
    refine JL.skip rfl rfl ?_
    refine JL.skip rfl rfl ?_
    refine JL.skip rfl rfl ?_
    refine JL.skip rfl rfl ?_
    refine JL.skip rfl rfl ?_
    refine JL.skip rfl rfl ?_
    refine JL.skip rfl rfl ?_
    refine JL.pure rfl rfl (OpP.pickT rfl rfl) ?_
    refine JL.nil ?_
    refine J.condT rfl ?_
    refine J.seq ?_
    refine J.region ?_
    refine JL.pure rfl rfl (OpP.move rfl) ?_
    refine JL.pure rfl rfl (OpP.nilCheck rfl) ?_
    refine JL.pure rfl rfl (OpP.fieldAddr rfl) ?_
    refine JL.step rfl rfl (OpW.call (first := []) (captured := []) inferInstance rfl rfl spoilI_ok) ?_; rintro r27 _ ⟨rfl, rfl⟩
    refine JL.nil ?_
    refine J.seq ?_
    refine J.region ?_
    refine JL.pure rfl rfl (OpP.assign rfl) ?_
    refine JL.nil ?_
    refine J.ret1 rfl rfl ?_
    exact ⟨_, ⟨true, _, M, ⟨none, 0, rfl⟩, hM, rfl, rfl⟩, fun _ h => h.own_nil⟩
  · obtain rfl : bad = false := by simpa using hb
    by_cases hn : 0 ≤ n ∧ n ≤ M.length
    · obtain ⟨k, rfl⟩ := Int.eq_ofNat_of_zero_le hn.1
      have hk : k ≤ M.length := by omega
      have e1 : restO (absO false M) (k : Nat) = some (M.drop k) := by simp only [restO, absO, Option.bind_some, if_false, Bool.false_eq_true]; rw [if_pos hn]; rfl
      have e2 : gotO (absO false M) (k : Nat) = M.take k := by simp only [gotO, absO, if_false, Bool.false_eq_true]; rw [if_pos hn]; rfl
      have e3 : (M.take k).length = k := by rw [List.length_take]; omega
      rw [e1, e2]
      refine J.ownCases (.tail .head) (fun ea en ec => ?_) (fun gg pp ea kk => ?_)
      · subst ea ec
        obtain rfl : M = [] := List.eq_nil_of_length_eq_zero en
        obtain rfl : k = 0 := by simpa using hk
        refine J.seq ?_
        refine J.region ?_
        refine JL.pure rfl rfl (OpP.assign rfl) ?_
        refine JL.nil ?_
        refine J.seq ?_
        refine J.seq ?_
        refine J.region ?_
        refine JL.pure rfl rfl (OpP.move rfl) ?_
        refine JL.pure rfl rfl (OpP.nilCheck rfl) ?_
        refine JL.pure rfl rfl (OpP.fieldAddr rfl) ?_
        refine JL.pure rfl rfl (OpP.fieldAddr rfl) ?_
        refine JL.read rfl rfl (OpR.load1 rfl (Cell.row .head rfl)) ?_
        refine JL.pure rfl rfl (OpP.move rfl) ?_
        refine JL.pure rfl rfl (OpP.move rfl) ?_
        refine JL.decF rfl rfl (OpP.lss rfl rfl) (by omega) ?_
        refine JL.pure rfl rfl (OpP.pickF rfl rfl) ?_
        refine JL.pure rfl rfl (OpP.move rfl) ?_
        refine JL.pure rfl rfl (OpP.move rfl) ?_
        refine JL.pure rfl rfl (OpP.move rfl) ?_
        refine JL.pure rfl rfl (OpP.nilCheck rfl) ?_
        refine JL.pure rfl rfl (OpP.fieldAddr rfl) ?_
        refine JL.read rfl rfl (OpR.load1 rfl (Cell.row .head rfl)) ?_
        refine JL.pure rfl rfl (OpP.len rfl rfl) ?_
        refine JL.decF rfl rfl (OpP.gtr rfl rfl) (by omega) ?_
        refine JL.pure rfl rfl (OpP.pickF rfl rfl) ?_
        refine JL.nil ?_
        refine J.condF rfl ?_
        refine J.skip ?_
        refine J.seq ?_
        refine J.region ?_
        refine JL.pure rfl rfl (OpP.move rfl) ?_
        refine JL.pure rfl rfl (OpP.nilCheck rfl) ?_
        refine JL.pure rfl rfl (OpP.fieldAddr rfl) ?_
        refine JL.read rfl rfl (OpR.load1 rfl (Cell.row .head rfl)) ?_
        refine JL.pure rfl rfl (OpP.move rfl) ?_
        refine JL.pure rfl rfl (OpP.sliceNilTo rfl rfl (by omega)) ?_
        refine JL.step rfl rfl (OpW.call (first := []) (captured := []) inferInstance rfl rfl (clone_ok (l := []) (by exact Nat.zero_le _) RdO.nilB)) ?_; rintro r34 _ ⟨⟨a, ⟨c, rfl⟩⟩, rfl⟩
        refine JL.pure rfl rfl (OpP.assign rfl) ?_
        refine JL.nil ?_
        refine J.seq ?_
        refine J.region ?_
        refine JL.pure rfl rfl (OpP.move rfl) ?_
        refine JL.pure rfl rfl (OpP.move rfl) ?_
        refine JL.pure rfl rfl (OpP.nilCheck rfl) ?_
        refine JL.pure rfl rfl (OpP.fieldAddr rfl) ?_
        refine JL.read rfl rfl (OpR.load1 rfl (Cell.row (.tail .head) rfl)) ?_
        refine JL.pure rfl rfl (OpP.move rfl) ?_
        refine JL.pure rfl rfl (OpP.sliceNilFrom rfl rfl (by omega)) ?_
        refine JL.pure rfl rfl (OpP.nilCheck rfl) ?_
        refine JL.pure rfl rfl (OpP.fieldAddr rfl) ?_
        refine JL.mem0 rfl (by apply OpM.store1 rfl rfl rfl; (case' hu => exact (.tail .head)); (case' hs => exact (.there (.here .nil))); done) ?_; rintro _ _ ⟨rfl, rfl⟩
        refine JL.nil ?_
        refine J.seq ?_
        refine J.region ?_
        refine JL.pure rfl rfl (OpP.move rfl) ?_
        refine JL.pure rfl rfl (OpP.assign rfl) ?_
        refine JL.nil ?_
        refine J.ret1 rfl rfl ?_
        exact ⟨_, ⟨false, .slice none 0 0, [], ⟨a, c, rfl⟩, Nat.zero_le _, rfl, rfl⟩, fun _ h => h⟩
      · subst ea
        have hto : RdO w0 [own 5 1 (.slice (some ⟨gg, pp, none⟩) M.length cv) M.length (bcells M)] (.slice (some ⟨gg, pp, none⟩) k cv) (M.take k).length (bcells (M.take k)) := by
          have := (RdO.own (w0 := w0) (l := [own 5 1 (.slice (some ⟨gg, pp, none⟩) M.length cv) M.length (bcells M)]) .head).to 1 hk
          rw [Nat.mul_one, show (bcells M).take k = bcells (M.take k) from List.map_take.symm] at this
          rw [e3]; exact this
        refine J.seq ?_
        refine J.region ?_
        refine JL.pure rfl rfl (OpP.assign rfl) ?_
        refine JL.nil ?_
        refine J.seq ?_
        refine J.seq ?_
        refine J.region ?_
        refine JL.pure rfl rfl (OpP.move rfl) ?_
        refine JL.pure rfl rfl (OpP.nilCheck rfl) ?_
        refine JL.pure rfl rfl (OpP.fieldAddr rfl) ?_
        refine JL.pure rfl rfl (OpP.fieldAddr rfl) ?_
        refine JL.read rfl rfl (OpR.load1 rfl (Cell.row .head rfl)) ?_
        refine JL.pure rfl rfl (OpP.move rfl) ?_
        refine JL.pure rfl rfl (OpP.move rfl) ?_
        refine JL.decF rfl rfl (OpP.lss rfl rfl) (by omega) ?_
        refine JL.pure rfl rfl (OpP.pickF rfl rfl) ?_
        refine JL.pure rfl rfl (OpP.move rfl) ?_
        refine JL.pure rfl rfl (OpP.move rfl) ?_
        refine JL.pure rfl rfl (OpP.move rfl) ?_
        refine JL.pure rfl rfl (OpP.nilCheck rfl) ?_
        refine JL.pure rfl rfl (OpP.fieldAddr rfl) ?_
        refine JL.read rfl rfl (OpR.load1 rfl (Cell.row .head rfl)) ?_
        refine JL.pure rfl rfl (OpP.len rfl rfl) ?_
        refine JL.decF rfl rfl (OpP.gtr rfl rfl) (by omega) ?_
        refine JL.pure rfl rfl (OpP.pickF rfl rfl) ?_
        refine JL.nil ?_
        refine J.condF rfl ?_
        refine J.skip ?_
        refine J.seq ?_
        refine J.region ?_
        refine JL.pure rfl rfl (OpP.move rfl) ?_
        refine JL.pure rfl rfl (OpP.nilCheck rfl) ?_
        refine JL.pure rfl rfl (OpP.fieldAddr rfl) ?_
        refine JL.read rfl rfl (OpR.load1 rfl (Cell.row .head rfl)) ?_
        refine JL.pure rfl rfl (OpP.move rfl) ?_
        refine JL.pure rfl rfl (OpP.sliceTo _ rfl rfl rfl (by omega)) ?_
        refine JL.step rfl rfl (OpW.call (first := []) (captured := []) inferInstance rfl rfl (clone_ok (l := M.take k) (by omega) (hto.conv (fun _ h => Own.left (ks := [_]) (Own.pick (pre := [_, _]) [1] rfl h))))) ?_; rintro r34 _ ⟨⟨a, ⟨c, rfl⟩⟩, rfl⟩
        refine JL.pure rfl rfl (OpP.assign rfl) ?_
        refine JL.nil ?_
        refine J.seq ?_
        refine J.region ?_
        refine JL.pure rfl rfl (OpP.move rfl) ?_
        refine JL.pure rfl rfl (OpP.move rfl) ?_
        refine JL.pure rfl rfl (OpP.nilCheck rfl) ?_
        refine JL.pure rfl rfl (OpP.fieldAddr rfl) ?_
        refine JL.read rfl rfl (OpR.load1 rfl (Cell.row (.tail .head) rfl)) ?_
        refine JL.pure rfl rfl (OpP.move rfl) ?_
        refine JL.pure rfl rfl (OpP.sliceFrom _ rfl rfl rfl (by omega) (by omega)) ?_
        refine JL.pure rfl rfl (OpP.nilCheck rfl) ?_
        refine JL.pure rfl rfl (OpP.fieldAddr rfl) ?_
        refine JL.mem0 rfl (by apply OpM.store1 rfl rfl rfl; (case' hu => exact (.tail .head)); (case' hs => exact (.there (.here .nil))); done) ?_; rintro _ _ ⟨rfl, rfl⟩
        refine JL.nil ?_
        refine J.seq ?_
        refine J.region ?_
        refine JL.pure rfl rfl (OpP.move rfl) ?_
        refine JL.pure rfl rfl (OpP.assign rfl) ?_
        refine JL.nil ?_
        refine J.ret1 rfl rfl ?_
        refine ⟨_, ⟨false, .slice (some ⟨gg, if cv = k then pp else pp + k * 1, none⟩) (M.length - k) (cv - k), M.drop k, ⟨a, c, rfl⟩, by rw [List.length_drop]; omega, rfl, rfl⟩, fun _ h => ?_⟩
        have h := Own.fromK hk (Own.pick (pre := [_, _, _]) [2, 0, 1] rfl h)
        rw [show (bcells M).drop (k * 1) = bcells (M.drop k) by rw [Nat.mul_one]; exact List.map_drop.symm] at h
        rw [inL, List.length_drop]
        exact Own.pick (pre := [_, _, _]) [1, 2, 0] rfl h
    · have e1 : restO (absO false M) n = none := by simp only [restO, absO, Option.bind_some, if_false, Bool.false_eq_true]; rw [if_neg hn]
      have e2 : gotO (absO false M) n = [] := by simp only [gotO, absO, if_false, Bool.false_eq_true]; rw [if_neg hn]
      rw [e1, e2]
      by_cases h0 : n < 0
      · refine J.seq ?_
        refine J.region ?_
        refine JL.pure rfl rfl (OpP.assign rfl) ?_
        refine JL.nil ?_
        refine J.seq ?_
        refine J.seq ?_
        refine J.region ?_
        refine JL.pure rfl rfl (OpP.move rfl) ?_
        refine JL.pure rfl rfl (OpP.nilCheck rfl) ?_
        refine JL.pure rfl rfl (OpP.fieldAddr rfl) ?_
        refine JL.pure rfl rfl (OpP.fieldAddr rfl) ?_
        refine JL.read rfl rfl (OpR.load1 rfl (Cell.row .head rfl)) ?_
        refine JL.pure rfl rfl (OpP.move rfl) ?_
        refine JL.pure rfl rfl (OpP.move rfl) ?_
        refine JL.decT rfl rfl (OpP.lss rfl rfl) (by omega) ?_
        refine JL.pure rfl rfl (OpP.pickF rfl rfl) ?_
        refine JL.pure rfl rfl (OpP.move rfl) ?_
        refine JL.skip rfl rfl ?_
        refine JL.skip rfl rfl ?_
        refine JL.skip rfl rfl ?_
        refine JL.skip rfl rfl ?_
        refine JL.skip rfl rfl ?_
        refine JL.skip rfl rfl ?_
        refine JL.skip rfl rfl ?_
        refine JL.pure rfl rfl (OpP.pickT rfl rfl) ?_
        refine JL.nil ?_
        refine J.condT rfl ?_
        refine J.seq ?_
        refine J.region ?_
        refine JL.pure rfl rfl (OpP.move rfl) ?_
        refine JL.pure rfl rfl (OpP.nilCheck rfl) ?_
        refine JL.pure rfl rfl (OpP.fieldAddr rfl) ?_
        refine JL.step rfl rfl (OpW.call (first := []) (captured := []) inferInstance rfl rfl spoilI_ok) ?_; rintro r27 _ ⟨rfl, rfl⟩
        refine JL.nil ?_
        refine J.seq ?_
        refine J.region ?_
        refine JL.pure rfl rfl (OpP.assign rfl) ?_
        refine JL.nil ?_
        refine J.ret1 rfl rfl ?_
        exact ⟨_, ⟨true, _, M, ⟨none, 0, rfl⟩, hM, rfl, rfl⟩, fun _ h => h.own_nil⟩
      · refine J.seq ?_
        refine J.region ?_
        refine JL.pure rfl rfl (OpP.assign rfl) ?_
        refine JL.nil ?_
        refine J.seq ?_
        refine J.seq ?_
        refine J.region ?_
        refine JL.pure rfl rfl (OpP.move rfl) ?_
        refine JL.pure rfl rfl (OpP.nilCheck rfl) ?_
        refine JL.pure rfl rfl (OpP.fieldAddr rfl) ?_
        refine JL.pure rfl rfl (OpP.fieldAddr rfl) ?_
        refine JL.read rfl rfl (OpR.load1 rfl (Cell.row .head rfl)) ?_
        refine JL.pure rfl rfl (OpP.move rfl) ?_
        refine JL.pure rfl rfl (OpP.move rfl) ?_
        refine JL.decF rfl rfl (OpP.lss rfl rfl) (by omega) ?_
        refine JL.pure rfl rfl (OpP.pickF rfl rfl) ?_
        refine JL.pure rfl rfl (OpP.move rfl) ?_
        refine JL.pure rfl rfl (OpP.move rfl) ?_
        refine JL.pure rfl rfl (OpP.move rfl) ?_
        refine JL.pure rfl rfl (OpP.nilCheck rfl) ?_
        refine JL.pure rfl rfl (OpP.fieldAddr rfl) ?_
        refine JL.read rfl rfl (OpR.load1 rfl (Cell.row .head rfl)) ?_
        refine JL.pure rfl rfl (OpP.len rfl rfl) ?_
        refine JL.decT rfl rfl (OpP.gtr rfl rfl) (by omega) ?_
        refine JL.pure rfl rfl (OpP.pickF rfl rfl) ?_
        refine JL.nil ?_
        refine J.condT rfl ?_
        refine J.seq ?_
        refine J.region ?_
        refine JL.pure rfl rfl (OpP.move rfl) ?_
        refine JL.pure rfl rfl (OpP.nilCheck rfl) ?_
        refine JL.pure rfl rfl (OpP.fieldAddr rfl) ?_
        refine JL.step rfl rfl (OpW.call (first := []) (captured := []) inferInstance rfl rfl spoilI_ok) ?_; rintro r27 _ ⟨rfl, rfl⟩
        refine JL.nil ?_
        refine J.seq ?_
        refine J.region ?_
        refine JL.pure rfl rfl (OpP.assign rfl) ?_
        refine JL.nil ?_
        refine J.ret1 rfl rfl ?_
        exact ⟨_, ⟨true, _, M, ⟨none, 0, rfl⟩, hM, rfl, rfl⟩, fun _ h => h.own_nil⟩
/-- Bytes as a number. -/
def nat8 (bs : List UInt8) : Nat := bs.foldl (fun n b => n * 256 + b.toNat) 0
theorem nat8_snoc (bs : List UInt8) (b : UInt8) : nat8 (bs ++ [b]) = nat8 bs * 256 + b.toNat := by rw [nat8, List.foldl_append]; rfl
theorem nat8_lt (bs : List UInt8) : nat8 bs < 256 ^ bs.length := by
  have key : ∀ (bs : List UInt8) (n : Nat), bs.foldl (fun n b => n * 256 + b.toNat) n < (n + 1) * 256 ^ bs.length := by
    intro bs
    induction bs with
    | nil => intro n; simp
    | cons b bs ih =>
      intro n
      have h1 := ih (n * 256 + b.toNat)
      have h2 := b.toNat_lt
      rw [List.foldl_cons, List.length_cons, Nat.pow_succ]
      refine Nat.lt_of_lt_of_le h1 ?_
      rw [Nat.mul_comm (256 ^ bs.length) 256, ← Nat.mul_assoc]
      exact Nat.mul_le_mul_right _ (by omega)
  have := key bs 0
  simpa [nat8] using this
theorem wideI_ok {w0 : World} {F : List HProp} {g size : Nat} {bad : Bool} {v : Value} {M : List UInt8} (hM : M.length ≤ 1000000000) (hs : size ≤ 8) :
    FnO Try.prog w0 50 [.pointer (some ⟨g, 0, none⟩), .int .i64 (size : Nat)] (inL g bad v M F) (fun r l' => ∃ bad' v' M', M'.length ≤ 1000000000 ∧ absO bad' M' = restO (absO bad M) (size : Nat) ∧ r = .int .u64 (nat8 (gotO (absO bad M) (size : Nat)) : Nat) ∧ l' = inL g bad' v' M' F) := by
  refine FnO.weak ?_
  refine FnO.intro (n := 23) Try.func50 rfl rfl rfl ?_
  refine J.lit (.tail .head) fun av cv ev => ?_; subst ev
  refine J.seq ?_
  refine J.region ?_
  refine JL.pure rfl rfl (OpP.assign rfl) ?_
  refine JL.nil ?_
  refine J.seq ?_
  refine J.region ?_
  refine JL.pure rfl rfl (OpP.assign rfl) ?_
  refine JL.nil ?_
  refine J.seq ?_
  refine J.seq ?_
  refine J.region ?_
  refine JL.pure rfl rfl (OpP.move rfl) ?_
  refine JL.pure rfl rfl (OpP.move rfl) ?_
  refine JL.step rfl rfl (OpW.call (first := []) (captured := []) inferInstance rfl rfl (raw_ok hM)) ?_; rintro r10 _ ⟨bad', ⟨v', ⟨M', ⟨⟨a, ⟨c, rfl⟩⟩, ⟨h10, ⟨h101, rfl⟩⟩⟩⟩⟩⟩
  refine JL.lit (.tail (.tail .head)) fun av' cv' ev' => ?_; subst ev'
  refine JL.pure rfl rfl (OpP.len rfl rfl) ?_
  refine JL.pure rfl rfl (OpP.move rfl) ?_
  refine JL.nil ?_
  refine J.block ?_
  have hG : (gotO (absO bad M) (size : Nat)).length ≤ 8 := by
    unfold gotO
    split
    · exact Nat.zero_le _
    · split
      · rw [List.length_take]; omega
      · exact Nat.zero_le _
  generalize gotO (absO bad M) (size : Nat) = G at hG
  refine J.loopI (fun i : Nat => G.length - i) (fun i => i ≤ G.length) (fun i => [(12, .int .i64 (i : Nat)), (11, .int .i64 (G.length : Nat)), (10, .slice a G.length c), (5, .int .u64 (nat8 (G.take i) : Nat))])
    (fun _ => own 5 1 (.slice a G.length c) G.length (bcells G) :: inL g bad' (.slice av' M'.length cv') M' F) 0 (Nat.zero_le _) (by repeat (first | exact SubEnv.nil | refine SubEnv.cons (by first | rfl | exact congrArg (fun z => some (Value.int .i64 z)) (by omega) | (simp; done)) ?_)) (fun _ h => h) (fun i hi back => ?_)
  dsimp only at hi back ⊢
  by_cases hlt : i < G.length
  · obtain ⟨x, hx⟩ : ∃ x, G[i]? = some x := ⟨_, List.getElem?_eq_getElem hlt⟩
    have hbi : (bcells G)[i]? = some (u8c x) := by rw [bcells_get, hx]; rfl
    have hxb := x.toNat_lt
    have hnl := nat8_lt (G.take i)
    rw [List.length_take, Nat.min_eq_left hi] at hnl
    have hn7 : nat8 (G.take i) < 72057594037927936 := Nat.lt_of_lt_of_le hnl (by rw [show (72057594037927936 : Nat) = 256 ^ 7 from rfl]; exact Nat.pow_le_pow_right (by omega) (by omega))
    have hsn := nat8_snoc (G.take i) x
    rw [show G.take i ++ [x] = G.take (i + 1) by rw [List.take_add_one, hx]; rfl] at hsn
    generalize nat8 (G.take i) = N at hn7 hsn
    refine J.seq ?_
    refine J.region ?_
    refine JL.decT rfl rfl (OpP.lss rfl rfl) (by omega) ?_
    refine JL.nil ?_
    refine J.seq ?_
    refine J.condT rfl ?_
    refine J.skip ?_
    refine J.seq ?_
    refine J.block ?_
    refine J.seq ?_
    refine J.region ?_
    refine JL.ownSome .head (by omega) fun ga pa ea ka => ?_; subst ea
    refine JL.pure rfl rfl (OpP.indexAddr rfl rfl (by omega) (by omega)) ?_
    refine JL.read rfl rfl (OpR.load1 rfl (by apply Cells.cell (hv := hbi) (Cells.own .head) (fun _ h => h); omega)) ?_
    refine JL.pure rfl rfl (OpP.assign rfl) ?_
    refine JL.nil ?_
    refine J.region ?_
    refine JL.pure rfl rfl (OpP.move rfl) ?_
    refine JL.pure rfl rfl (OpP.shl8 rfl rfl (by omega)) ?_
    refine JL.pure rfl rfl (OpP.move rfl) ?_
    refine JL.pure rfl rfl (OpP.convI rfl (by simp [IntKind.min, IntKind.max, IntKind.signed, IntKind.bits] <;> omega) (by simp [IntKind.min, IntKind.max, IntKind.signed, IntKind.bits] <;> omega)) ?_
    refine JL.pure rfl rfl (OpP.or8 rfl rfl (by omega) (by omega)) ?_
    refine JL.pure rfl rfl (OpP.assign rfl) ?_
    refine JL.nil ?_
    refine J.inBlock ?_
    refine J.region ?_
    refine JL.pure rfl rfl (OpP.addI rfl rfl (by omega) (by omega)) ?_
    refine JL.pure rfl rfl (OpP.move rfl) ?_
    refine JL.nil ?_
    rw [← hsn]
    exact back (i + 1) (by omega) (by omega) (by repeat (first | exact SubEnv.nil | refine SubEnv.cons (by first | rfl | exact congrArg (fun z => some (Value.int .i64 z)) (by omega) | (simp; done)) ?_)) (fun _ h => h)
  · have : i = G.length := by omega
    subst this
    rw [List.take_length]
    refine J.seq ?_
    refine J.region ?_
    refine JL.decF rfl rfl (OpP.lss rfl rfl) (by omega) ?_
    refine JL.nil ?_
    refine J.seq ?_
    refine J.condF rfl ?_
    refine J.exit rfl ?_
    refine J.seq ?_
    refine J.region ?_
    refine JL.pure rfl rfl (OpP.move rfl) ?_
    refine JL.pure rfl rfl (OpP.assign rfl) ?_
    refine JL.nil ?_
    refine J.ret1 rfl rfl ?_
    exact ⟨_, ⟨bad', _, M', h10, h101, rfl, rfl⟩, fun _ h => h.tail⟩
end Go.Proofs.E

-- seat e
namespace Go.Proofs.E
open Go Go.Gp Go.RowKit

/-- What a function that reads does: the rest, and what is told. -/
abbrev Took (w0 : World) (f : FuncId) (args : List Value) (g : Nat) (bad : Bool) (v : Value) (M : List UInt8) (F : List HProp) (o : Option (List UInt8)) (u : Value) : Prop :=
  FnO Try.prog w0 f args (inL g bad v M F) (fun r l' => ∃ bad' v' M', M'.length ≤ 1000000000 ∧ absO bad' M' = o ∧ r = u ∧ l' = inL g bad' v' M' F)
def numI (o : Option (List UInt8)) (size : Nat) : Nat := nat8 (gotO o (size : Nat))
theorem gotO_le {o : Option (List UInt8)} {n : Nat} : (gotO o (n : Nat)).length ≤ n := by
  unfold gotO
  split
  · exact Nat.zero_le _
  · split
    · rw [List.length_take]; omega
    · exact Nat.zero_le _
theorem numI_lt {o : Option (List UInt8)} {n : Nat} : numI o n < 256 ^ n := Nat.lt_of_lt_of_le (nat8_lt _) (Nat.pow_le_pow_right (by omega) gotO_le)
theorem wide1_ok {w0 : World} {F : List HProp} {g : Nat} {bad : Bool} {v : Value} {M : List UInt8} (hM : M.length ≤ 1000000000) : Took w0 50 [.pointer (some ⟨g, 0, none⟩), .int .i64 1] g bad v M F (restO (absO bad M) 1) (.int .u64 (numI (absO bad M) 1 : Nat)) := wideI_ok (size := 1) hM (by omega)
theorem wide2_ok {w0 : World} {F : List HProp} {g : Nat} {bad : Bool} {v : Value} {M : List UInt8} (hM : M.length ≤ 1000000000) : Took w0 50 [.pointer (some ⟨g, 0, none⟩), .int .i64 2] g bad v M F (restO (absO bad M) 2) (.int .u64 (numI (absO bad M) 2 : Nat)) := wideI_ok (size := 2) hM (by omega)
theorem inU8_ok {w0 : World} {F : List HProp} {g : Nat} {bad : Bool} {v : Value} {M : List UInt8} (hM : M.length ≤ 1000000000) : Took w0 15 [.pointer (some ⟨g, 0, none⟩)] g bad v M F (restO (absO bad M) 1) (.int .i64 (numI (absO bad M) 1 : Nat)) := by
  have hb : numI (absO bad M) 1 < 256 := numI_lt
  refine FnO.intro (n := 6) Try.func15 rfl rfl rfl ?_
  refine J.lit (.tail .head) fun av cv ev => ?_; subst ev
  refine J.seq ?_
  refine J.region ?_
  refine JL.pure rfl rfl (OpP.assign rfl) ?_
  refine JL.nil ?_
  refine J.seq ?_
  refine J.region ?_
  refine JL.pure rfl rfl (OpP.move rfl) ?_
  refine JL.step rfl rfl (OpW.call (first := []) (captured := []) inferInstance rfl rfl (wide1_ok hM)) ?_; rintro r4 _ ⟨bad', ⟨v', ⟨M', ⟨h4, ⟨h41, ⟨rfl, rfl⟩⟩⟩⟩⟩⟩
  refine JL.lit (.tail .head) fun av' cv' ev' => ?_; subst ev'
  refine JL.pure rfl rfl (OpP.convI64 rfl (by omega) (by omega)) ?_
  refine JL.pure rfl rfl (OpP.assign rfl) ?_
  refine JL.nil ?_
  refine J.ret1 rfl rfl ?_
  exact ⟨bad', _, M', h4, h41, rfl, rfl⟩
theorem inU16_ok {w0 : World} {F : List HProp} {g : Nat} {bad : Bool} {v : Value} {M : List UInt8} (hM : M.length ≤ 1000000000) : Took w0 16 [.pointer (some ⟨g, 0, none⟩)] g bad v M F (restO (absO bad M) 2) (.int .i64 (numI (absO bad M) 2 : Nat)) := by
  have hb : numI (absO bad M) 2 < 65536 := numI_lt
  refine FnO.intro (n := 6) Try.func16 rfl rfl rfl ?_
  refine J.lit (.tail .head) fun av cv ev => ?_; subst ev
  refine J.seq ?_
  refine J.region ?_
  refine JL.pure rfl rfl (OpP.assign rfl) ?_
  refine JL.nil ?_
  refine J.seq ?_
  refine J.region ?_
  refine JL.pure rfl rfl (OpP.move rfl) ?_
  refine JL.step rfl rfl (OpW.call (first := []) (captured := []) inferInstance rfl rfl (wide2_ok hM)) ?_; rintro r4 _ ⟨bad', ⟨v', ⟨M', ⟨h4, ⟨h41, ⟨rfl, rfl⟩⟩⟩⟩⟩⟩
  refine JL.lit (.tail .head) fun av' cv' ev' => ?_; subst ev'
  refine JL.pure rfl rfl (OpP.convI64 rfl (by omega) (by omega)) ?_
  refine JL.pure rfl rfl (OpP.assign rfl) ?_
  refine JL.nil ?_
  refine J.ret1 rfl rfl ?_
  exact ⟨bad', _, M', h4, h41, rfl, rfl⟩
def i64 (n : Nat) : Int := IntKind.i64.wrap (n : Nat)
def textR (o : Option (List UInt8)) (most : Int) : Option (List UInt8) := if most < (numI o 2 : Nat) ∨ 4096 < numI o 2 then none else restO (restO o 2) (numI o 2 : Nat)
def textV (o : Option (List UInt8)) (most : Int) : List UInt8 := if most < (numI o 2 : Nat) ∨ 4096 < numI o 2 then [] else gotO (restO o 2) (numI o 2 : Nat)
theorem inText_ok {w0 : World} {F : List HProp} {g : Nat} {most : Int} {bad : Bool} {v : Value} {M : List UInt8} (hM : M.length ≤ 1000000000) : Took w0 20 [.pointer (some ⟨g, 0, none⟩), .int .i64 most] g bad v M F (textR (absO bad M) most) (.string (strB (textV (absO bad M) most))) := by
  refine FnO.weak ?_
  refine FnO.intro (n := 23) Try.func20 rfl rfl rfl ?_
  refine J.lit (.tail .head) fun av cv ev => ?_; subst ev
  refine J.seq ?_
  refine J.region ?_
  refine JL.pure rfl rfl (OpP.assign rfl) ?_
  refine JL.nil ?_
  refine J.seq ?_
  refine J.region ?_
  refine JL.pure rfl rfl (OpP.move rfl) ?_
  refine JL.step rfl rfl (OpW.call (first := []) (captured := []) inferInstance rfl rfl (inU16_ok hM)) ?_; rintro r7 _ ⟨bad', ⟨v', ⟨M', ⟨h7, ⟨h71, ⟨rfl, rfl⟩⟩⟩⟩⟩⟩
  refine JL.lit (.tail .head) fun av' cv' ev' => ?_; subst ev'
  refine JL.pure rfl rfl (OpP.assign rfl) ?_
  refine JL.nil ?_
  refine J.seq ?_
  refine J.seq ?_
  refine J.region ?_
  refine JL.pure rfl rfl (OpP.move rfl) ?_
  refine JL.pure rfl rfl (OpP.move rfl) ?_
  refine JL.dec rfl rfl (OpP.gtr rfl rfl) (fun h10 => ?_) (fun h10 => ?_)
  focus
    refine JL.pure rfl rfl (OpP.move rfl) ?_
    refine JL.skip rfl rfl ?_
    refine JL.skip rfl rfl ?_
    refine JL.pure rfl rfl (OpP.pickT rfl rfl) ?_
    refine JL.nil ?_
    refine J.condT rfl ?_
    refine J.seq ?_
    refine J.region ?_
    refine JL.pure rfl rfl (OpP.move rfl) ?_
    refine JL.pure rfl rfl (OpP.nilCheck rfl) ?_
    refine JL.pure rfl rfl (OpP.fieldAddr rfl) ?_
    refine JL.step rfl rfl (OpW.call (first := []) (captured := []) inferInstance rfl rfl spoilI_ok) ?_; rintro r18 _ ⟨rfl, rfl⟩
    refine JL.nil ?_
    refine J.seq ?_
    refine J.region ?_
    refine JL.pure rfl rfl (OpP.assign rfl) ?_
    refine JL.nil ?_
    refine J.ret1 rfl rfl ?_
  rotate_left 1
  focus
    refine JL.pure rfl rfl (OpP.move rfl) ?_
    refine JL.pure rfl rfl (OpP.move rfl) ?_
    refine JL.dec rfl rfl (OpP.gtr rfl rfl) (fun h13 => ?_) (fun h13 => ?_)
    focus
      refine JL.pure rfl rfl (OpP.pickF rfl rfl) ?_
      refine JL.nil ?_
      refine J.condT rfl ?_
      refine J.seq ?_
      refine J.region ?_
      refine JL.pure rfl rfl (OpP.move rfl) ?_
      refine JL.pure rfl rfl (OpP.nilCheck rfl) ?_
      refine JL.pure rfl rfl (OpP.fieldAddr rfl) ?_
      refine JL.step rfl rfl (OpW.call (first := []) (captured := []) inferInstance rfl rfl spoilI_ok) ?_; rintro r18 _ ⟨rfl, rfl⟩
      refine JL.nil ?_
      refine J.seq ?_
      refine J.region ?_
      refine JL.pure rfl rfl (OpP.assign rfl) ?_
      refine JL.nil ?_
      refine J.ret1 rfl rfl ?_
    rotate_left 1
    focus
      refine JL.pure rfl rfl (OpP.pickF rfl rfl) ?_
      refine JL.nil ?_
      refine J.condF rfl ?_
      refine J.skip ?_
      refine J.seq ?_
      refine J.region ?_
      refine JL.pure rfl rfl (OpP.move rfl) ?_
      refine JL.pure rfl rfl (OpP.move rfl) ?_
      refine JL.step rfl rfl (OpW.call (first := []) (captured := []) inferInstance rfl rfl (raw_ok (by assumption))) ?_; rintro r21 _ ⟨bad'1, ⟨v', ⟨M'1, ⟨⟨a, ⟨c, rfl⟩⟩, ⟨h21, ⟨h211, rfl⟩⟩⟩⟩⟩⟩
      refine JL.lit (.tail (.tail .head)) fun av' cv' ev' => ?_; subst ev'
      refine JL.read rfl rfl (OpR.rdStr (by rfl) (RdO.own .head) (by rfl)) ?_
      refine JL.pure rfl rfl (OpP.assign rfl) ?_
      refine JL.nil ?_
      refine J.ret1 rfl rfl ?_
    rotate_left 1
  rotate_left 2
  · exact ⟨_, ⟨true, _, M', h7, by rw [textR, if_pos (.inl h10)]; rfl, by rw [textV, if_pos (.inl h10)]; rfl, rfl⟩, fun _ h => h⟩
  · exact ⟨_, ⟨true, _, M', h7, by rw [textR, if_pos (.inr (by omega))]; rfl, by rw [textV, if_pos (.inr (by omega))]; rfl, rfl⟩, fun _ h => h⟩
  · exact ⟨_, ⟨bad'1, _, M'1, h21, by rw [textR, if_neg (by omega), h211, h71], by rw [textV, if_neg (by omega), h71], rfl⟩, fun _ h => h.tail⟩
/-! A value that is read, of a kind that is no bag. -/
end Go.Proofs.E

-- seat e
namespace Go.Proofs.E
open Go Go.Gp Go.RowKit

/-! A value that is read, by definition. -/
abbrev Pl := Int × Int × List UInt8
end Go.Proofs.E

-- seat e
namespace Go.Proofs.E
open Go Go.Gp Go.RowKit

end Go.Proofs.E

-- seat e
namespace Go.Proofs.E
open Go Go.Gp Go.RowKit

/-- A value, told by its parts. -/
structure Vv where
  k : Int
  i : Int
  s : List UInt8
  xs : List El
abbrev Vv.cells (V : Vv) (l : Value) : List Value := vcl V.k V.i V.s l
end Go.Proofs.E

-- seat e
namespace Go.Proofs.E
open Go Go.Gp Go.RowKit

theorem set_rep {m : Nat} {x z : Value} {L : List Value} : (List.replicate (m + 1) z ++ L).set m x = List.replicate m z ++ (x :: L) := by
  rw [List.replicate_succ', List.append_assoc, List.set_append_right _ _ (by simp), List.length_replicate, Nat.sub_self]; rfl
theorem number_ok {w0 : World} {F : List HProp} {n size : Nat} (hn : n < 18446744073709551616) (hs : size ≤ 8) :
    FnO Try.prog w0 58 [.int .u64 (n : Nat), .int .i64 (size : Nat)] F (fun r l' => (∃ a c, r = .slice a size c) ∧ l' = own 5 1 r size (bcells (be n size)) :: F) := by
  refine FnO.weak ?_
  refine FnO.intro (n := 24) Try.func58 rfl rfl rfl ?_
  refine J.seq ?_
  refine J.region ?_
  refine JL.pure rfl rfl (OpP.assign rfl) ?_
  refine JL.nil ?_
  refine J.seq ?_
  refine J.region ?_
  refine JL.pure rfl rfl (OpP.move rfl) ?_
  refine JL.mem rfl rfl (by apply OpM.make (by rfl) rfl rfl <;> omega) ?_; rintro _ _ ⟨b8, rfl, rfl⟩
  refine JL.pure rfl rfl (OpP.assign rfl) ?_
  refine JL.nil ?_
  refine J.seq ?_
  refine J.seq ?_
  refine J.region ?_
  refine JL.pure rfl rfl (OpP.move rfl) ?_
  refine JL.pure rfl rfl (OpP.subI rfl rfl (by omega) (by omega)) ?_
  refine JL.pure rfl rfl (OpP.assign rfl) ?_
  refine JL.nil ?_
  refine J.block ?_
  refine J.loopI (fun x : Nat × Nat => x.1) (fun x => x.1 ≤ size ∧ x.2 = n / 256 ^ (size - x.1)) (fun x => [(6, .int .i64 ((x.1 : Nat) - 1 : Int)), (0, .int .u64 (x.2 : Nat)), (5, .slice (some ⟨b8, 0, none⟩) size size)])
    (fun x => row b8 5 (List.replicate x.1 (.int .u8 0) ++ bcells (be n (size - x.1))) :: F) (size, n) ⟨Nat.le_refl _, by dsimp only; rw [Nat.sub_self, Nat.pow_zero, Nat.div_one]⟩ (by repeat (first | exact SubEnv.nil | refine SubEnv.cons (by first | rfl | exact congrArg (fun z => some (Value.int .i64 z)) (by omega) | (simp; done)) ?_)) (fun _ h => ?_) (fun ⟨k, N⟩ hi back => ?_)
  · dsimp only
    rw [Nat.sub_self, be, show bcells [] = [] from rfl, List.append_nil, ← rep_one]
    exact h
  dsimp only at hi back ⊢
  obtain ⟨hk, hN⟩ := hi
  cases k with
  | zero =>
    refine J.seq ?_
    refine J.seq ?_
    refine J.region ?_
    refine JL.pure rfl rfl (OpP.move rfl) ?_
    refine JL.decF rfl rfl (OpP.geq rfl rfl) (by omega) ?_
    refine JL.nil ?_
    refine J.condF rfl ?_
    refine J.exit rfl ?_
    refine J.seq ?_
    refine J.region ?_
    refine JL.pure rfl rfl (OpP.move rfl) ?_
    refine JL.pure rfl rfl (OpP.assign rfl) ?_
    refine JL.nil ?_
    refine J.ret1 rfl rfl ?_
    exact ⟨_, ⟨⟨_, _, rfl⟩, rfl⟩, fun _ h => Own.own_whole (by simp only [maxLen]; omega) (by rw [bcells_length, be_length]; omega) h⟩
  | succ m =>
    rw [show (((m + 1 : Nat) : Int) - 1) = (m : Nat) by omega]
    have hNb : N < 18446744073709551616 := by rw [hN]; exact Nat.lt_of_le_of_lt (Nat.div_le_self _ _) hn
    have hlen : m < (List.replicate (m + 1) (Value.int .u8 0) ++ bcells (be n (size - (m + 1)))).length := by rw [List.length_append, List.length_replicate]; omega
    refine J.seq ?_
    refine J.seq ?_
    refine J.region ?_
    refine JL.pure rfl rfl (OpP.move rfl) ?_
    refine JL.decT rfl rfl (OpP.geq rfl rfl) (by omega) ?_
    refine JL.nil ?_
    refine J.condT rfl ?_
    refine J.skip ?_
    refine J.seq ?_
    refine J.block ?_
    refine J.seq ?_
    refine J.region ?_
    refine JL.pure rfl rfl (OpP.move rfl) ?_
    refine JL.pure rfl rfl (OpP.move rfl) ?_
    refine JL.pure rfl rfl (OpP.move rfl) ?_
    refine JL.pure rfl rfl (OpP.remI rfl rfl (by first | omega | exact Int.natCast_nonneg _) (by omega)) ?_
    refine JL.pure rfl rfl (OpP.convI rfl (by simp [IntKind.min, IntKind.max, IntKind.signed, IntKind.bits] <;> omega) (by simp [IntKind.min, IntKind.max, IntKind.signed, IntKind.bits] <;> omega)) ?_
    refine JL.pure rfl rfl (OpP.indexAddr rfl rfl (by omega) (by omega)) ?_
    refine JL.mem0 rfl (by apply OpM.store1 rfl rfl rfl; (case' hu => exact .head); (case' hs => exact spl_at rfl (by first | assumption | omega)); done) ?_; rintro _ _ ⟨rfl, rfl⟩
    refine JL.nil ?_
    refine J.region ?_
    refine JL.pure rfl rfl (OpP.move rfl) ?_
    refine JL.pure rfl rfl (OpP.quoI rfl rfl (by omega) (by omega) (by first | decide | (simp only [IntKind.max]; omega) | (simp [IntKind.max, IntKind.signed, IntKind.bits]; omega))) ?_
    refine JL.pure rfl rfl (OpP.assign rfl) ?_
    refine JL.nil ?_
    refine J.inBlock ?_
    refine J.region ?_
    refine JL.pure rfl rfl (OpP.move rfl) ?_
    refine JL.pure rfl rfl (OpP.subI rfl rfl (by omega) (by omega)) ?_
    refine JL.pure rfl rfl (OpP.assign rfl) ?_
    refine JL.nil ?_
    refine back (m, N / 256) ⟨by dsimp only; omega, by dsimp only; rw [hN, Nat.div_div_eq_div_mul, ← Nat.pow_succ, show (size - (m + 1)).succ = size - m by omega]⟩ (Nat.lt_succ_self m) (by repeat (first | exact SubEnv.nil | refine SubEnv.cons (by first | rfl | exact congrArg (fun z => some (Value.int .i64 z)) (by omega) | (simp; done)) ?_)) (fun _ h => ?_)
    dsimp only
    rw [show size - m = size - (m + 1) + 1 by omega, be, ← hN]
    rw [show (0 + ((m : Nat) : Int).toNat * 1) = m by omega, set_rep] at h
    have e : Value.int .u8 ((N : Int) % 256) = u8c (UInt8.ofNat N) := by rw [← wrapB, wrap_u8]
    rw [e] at h
    exact h
end Go.Proofs.E

-- seat e
namespace Go.Proofs.E
open Go Go.Gp Go.RowKit

theorem number8_ok {w0 : World} {F : List HProp} {i : Int} :
    FnO Try.prog w0 58 [.int .u64 (IntKind.u64.wrap i), .int .i64 8] F (fun r l' => (∃ a c, r = .slice a 8 c) ∧ l' = own 5 1 r 8 (bcells (be (u64 i) 8)) :: F) := by
  rw [u64_wrap]
  exact number_ok (size := 8) (u64_lt i) (Nat.le_refl _)
theorem number8p_ok {w0 : World} {F : List HProp} {i : Int} (h0 : 0 ≤ i) (h1 : i ≤ 1099511627776) :
    FnO Try.prog w0 58 [.int .u64 i, .int .i64 8] F (fun r l' => (∃ a c, r = .slice a 8 c) ∧ l' = own 5 1 r 8 (bcells (be (u64 i) 8)) :: F) := by
  obtain ⟨m, rfl⟩ := Int.eq_ofNat_of_zero_le h0
  have e : u64 (m : Nat) = m := by unfold u64; omega
  rw [e]
  exact number_ok (size := 8) (by omega) (Nat.le_refl _)
theorem number2_ok {w0 : World} {F : List HProp} {n : Nat} (hn : n < 18446744073709551616) :
    FnO Try.prog w0 58 [.int .u64 (n : Nat), .int .i64 2] F (fun r l' => (∃ a c, r = .slice a 2 c) ∧ l' = own 5 1 r 2 (bcells (be n 2)) :: F) :=
  number_ok (size := 2) hn (by omega)
theorem bcells_app {a b : List UInt8} : bcells (a ++ b) = bcells a ++ bcells b := List.map_append
/-- Some bytes of its own. -/
abbrev Told (w0 : World) (f : FuncId) (args : List Value) (F : List HProp) (L : List UInt8) : Prop :=
  FnO Try.prog w0 f args F (fun r l' => (∃ a c, r = .slice a L.length c) ∧ l' = own 5 1 r L.length (bcells L) :: F)
theorem refValP_ok {w0 : World} {F : List HProp} {s : List UInt8} {k i : Int} {a : Option Addr} {n c : Nat} (hf : Plain k i s n) : Told w0 29 [.agg (vcl k i s (.slice a n c)).toArray] F (valP k i s) := by
  have es := strB_size s
  have hs : s.length ≤ 64 := by omega
  have hb2 : (bcells (be s.length 2)).length = 2 * 1 := by rw [bcells_length, be_length]
  have hb8 : (bcells (be (u64 i) 8)).length = 8 * 1 := by rw [bcells_length, be_length]
  refine FnO.weak ?_
  rcases hf.2.2 with ⟨rfl, rfl⟩ | ⟨rfl, hi⟩ | rfl | ⟨rfl, rfl, hs2⟩ | ⟨rfl, hi⟩
  · refine FnO.intro (n := 66) Try.func29 rfl rfl rfl ?_
    refine J.seq ?_
    refine J.region ?_
    refine JL.mem rfl rfl (OpM.box rfl rfl) ?_; rintro _ _ ⟨b1, rfl, rfl⟩
    refine JL.pure rfl rfl (OpP.assign rfl) ?_
    refine JL.nil ?_
    refine J.seq ?_
    refine J.region ?_
    refine JL.pure rfl rfl (OpP.fieldAddr rfl) ?_
    refine JL.read rfl rfl (OpR.load1 rfl (Cell.row .head rfl)) ?_
    refine JL.pure rfl rfl (OpP.convI rfl (by decide) (by decide)) ?_
    refine JL.mem rfl rfl (by apply OpM.buildSlice (by rfl) rfl (by rfl); (repeat (first | exact Fills.nil | (apply Fills.cons rfl rfl rfl; (case' hs => ((repeat (first | exact Spl.nil | apply Spl.here | apply Spl.there)); done)))))) ?_; rintro _ _ ⟨b8, rfl, rfl⟩
    refine JL.pure rfl rfl (OpP.assign rfl) ?_
    refine JL.nil ?_
    refine J.seq ?_
    refine J.seq ?_
    refine J.region ?_
    refine JL.pure rfl rfl (OpP.fieldAddr rfl) ?_
    refine JL.read rfl rfl (OpR.load1 rfl (Cell.row (.tail .head) rfl)) ?_
    refine JL.nil ?_
    refine J.block ?_
    refine J.seq ?_
    refine J.region ?_
    refine JL.decF rfl rfl (OpP.eql rfl rfl) (by omega) ?_
    refine JL.pure rfl rfl (OpP.assign rfl) ?_
    refine JL.nil ?_
    refine J.condF rfl ?_
    refine J.seq ?_
    refine J.seq ?_
    refine J.region ?_
    refine JL.decF rfl rfl (OpP.eql rfl rfl) (by omega) ?_
    refine JL.pure rfl rfl (OpP.assign rfl) ?_
    refine JL.nil ?_
    refine J.condF rfl ?_
    refine J.region ?_
    refine JL.decF rfl rfl (OpP.eql rfl rfl) (by omega) ?_
    refine JL.pure rfl rfl (OpP.assign rfl) ?_
    refine JL.nil ?_
    refine J.condF rfl ?_
    refine J.seq ?_
    refine J.region ?_
    refine JL.decF rfl rfl (OpP.eql rfl rfl) (by omega) ?_
    refine JL.pure rfl rfl (OpP.assign rfl) ?_
    refine JL.nil ?_
    refine J.condF rfl ?_
    refine J.seq ?_
    refine J.region ?_
    refine JL.decF rfl rfl (OpP.eql rfl rfl) (by omega) ?_
    refine JL.pure rfl rfl (OpP.assign rfl) ?_
    refine JL.nil ?_
    refine J.condF rfl ?_
    refine J.skip ?_
    refine J.inBlock ?_
    refine J.seq ?_
    refine J.region ?_
    refine JL.pure rfl rfl (OpP.move rfl) ?_
    refine JL.pure rfl rfl (OpP.assign rfl) ?_
    refine JL.nil ?_
    refine J.ret1 rfl rfl ?_
    rw [show valP 0 0 s = [0] by rw [valP, body0]; rfl]
    exact ⟨_, ⟨⟨_, _, rfl⟩, rfl⟩, fun _ h => Own.own_whole (n := 1) (by decide) rfl (Own.pick (pre := [_, _]) [0] rfl h)⟩
  · refine FnO.intro (n := 66) Try.func29 rfl rfl rfl ?_
    refine J.seq ?_
    refine J.region ?_
    refine JL.mem rfl rfl (OpM.box rfl rfl) ?_; rintro _ _ ⟨b1, rfl, rfl⟩
    refine JL.pure rfl rfl (OpP.assign rfl) ?_
    refine JL.nil ?_
    refine J.seq ?_
    refine J.region ?_
    refine JL.pure rfl rfl (OpP.fieldAddr rfl) ?_
    refine JL.read rfl rfl (OpR.load1 rfl (Cell.row .head rfl)) ?_
    refine JL.pure rfl rfl (OpP.convI rfl (by decide) (by decide)) ?_
    refine JL.mem rfl rfl (by apply OpM.buildSlice (by rfl) rfl (by rfl); (repeat (first | exact Fills.nil | (apply Fills.cons rfl rfl rfl; (case' hs => ((repeat (first | exact Spl.nil | apply Spl.here | apply Spl.there)); done)))))) ?_; rintro _ _ ⟨b8, rfl, rfl⟩
    refine JL.pure rfl rfl (OpP.assign rfl) ?_
    refine JL.nil ?_
    refine J.seq ?_
    refine J.seq ?_
    refine J.region ?_
    refine JL.pure rfl rfl (OpP.fieldAddr rfl) ?_
    refine JL.read rfl rfl (OpR.load1 rfl (Cell.row (.tail .head) rfl)) ?_
    refine JL.nil ?_
    refine J.block ?_
    refine J.seq ?_
    refine J.region ?_
    refine JL.decT rfl rfl (OpP.eql rfl rfl) (by omega) ?_
    refine JL.pure rfl rfl (OpP.assign rfl) ?_
    refine JL.nil ?_
    refine J.condT rfl ?_
    refine J.region ?_
    refine JL.pure rfl rfl (OpP.move rfl) ?_
    refine JL.pure rfl rfl (OpP.fieldAddr rfl) ?_
    refine JL.read rfl rfl (OpR.load1 rfl (Cell.row (.tail .head) rfl)) ?_
    refine JL.pure rfl rfl (OpP.convI rfl (by simp [IntKind.min, IntKind.max, IntKind.signed, IntKind.bits] <;> omega) (by simp [IntKind.min, IntKind.max, IntKind.signed, IntKind.bits] <;> omega)) ?_
    refine JL.mem rfl rfl (by apply OpM.buildSlice (by rfl) rfl (by rfl); (repeat (first | exact Fills.nil | (apply Fills.cons rfl rfl rfl; (case' hs => ((repeat (first | exact Spl.nil | apply Spl.here | apply Spl.there)); done)))))) ?_; rintro _ _ ⟨b17, rfl, rfl⟩
    refine JL.f1 ?_; refine JL.ownRow (n := 1) (sz := 1) (by decide) rfl ?_
    refine JL.mem rfl rfl (OpM.appendH rfl (.inl ⟨_, Sl.und inferInstance⟩) (by rfl) rfl rfl (RdO.src (RdO.ofRow (.tail .head) (by first | exact Nat.le_refl _ | decide | omega)) (by first | assumption | exact fc_length _ _ | (simp; done) | (simp; omega))) (one1 rfl) (by simp only [maxLen]; omega) (by omega)) ?_; rintro _ _ ⟨⟨a18, c18, rfl⟩, rfl⟩
    refine JL.pure rfl rfl (OpP.assign rfl) ?_
    refine JL.nil ?_
    refine J.inBlock ?_
    refine J.seq ?_
    refine J.region ?_
    refine JL.pure rfl rfl (OpP.move rfl) ?_
    refine JL.pure rfl rfl (OpP.assign rfl) ?_
    refine JL.nil ?_
    refine J.ret1 rfl rfl ?_
    rcases hi with rfl | rfl
    · rw [show valP 1 0 s = [1, 0] by rw [valP, body1]; rfl]
      exact ⟨_, ⟨⟨_, _, rfl⟩, rfl⟩, fun _ h => Own.pick (pre := [_, _, _]) [0] rfl h⟩
    · rw [show valP 1 1 s = [1, 1] by rw [valP, body1]; rfl]
      exact ⟨_, ⟨⟨_, _, rfl⟩, rfl⟩, fun _ h => Own.pick (pre := [_, _, _]) [0] rfl h⟩
  · refine FnO.intro (n := 66) Try.func29 rfl rfl rfl ?_
    refine J.seq ?_
    refine J.region ?_
    refine JL.mem rfl rfl (OpM.box rfl rfl) ?_; rintro _ _ ⟨b1, rfl, rfl⟩
    refine JL.pure rfl rfl (OpP.assign rfl) ?_
    refine JL.nil ?_
    refine J.seq ?_
    refine J.region ?_
    refine JL.pure rfl rfl (OpP.fieldAddr rfl) ?_
    refine JL.read rfl rfl (OpR.load1 rfl (Cell.row .head rfl)) ?_
    refine JL.pure rfl rfl (OpP.convI rfl (by decide) (by decide)) ?_
    refine JL.mem rfl rfl (by apply OpM.buildSlice (by rfl) rfl (by rfl); (repeat (first | exact Fills.nil | (apply Fills.cons rfl rfl rfl; (case' hs => ((repeat (first | exact Spl.nil | apply Spl.here | apply Spl.there)); done)))))) ?_; rintro _ _ ⟨b8, rfl, rfl⟩
    refine JL.pure rfl rfl (OpP.assign rfl) ?_
    refine JL.nil ?_
    refine J.seq ?_
    refine J.seq ?_
    refine J.region ?_
    refine JL.pure rfl rfl (OpP.fieldAddr rfl) ?_
    refine JL.read rfl rfl (OpR.load1 rfl (Cell.row (.tail .head) rfl)) ?_
    refine JL.nil ?_
    refine J.block ?_
    refine J.seq ?_
    refine J.region ?_
    refine JL.decF rfl rfl (OpP.eql rfl rfl) (by omega) ?_
    refine JL.pure rfl rfl (OpP.assign rfl) ?_
    refine JL.nil ?_
    refine J.condF rfl ?_
    refine J.seq ?_
    refine J.seq ?_
    refine J.region ?_
    refine JL.decT rfl rfl (OpP.eql rfl rfl) (by omega) ?_
    refine JL.pure rfl rfl (OpP.assign rfl) ?_
    refine JL.nil ?_
    refine J.condT rfl ?_
    refine J.skip ?_
    refine J.condT rfl ?_
    refine J.region ?_
    refine JL.pure rfl rfl (OpP.move rfl) ?_
    refine JL.pure rfl rfl (OpP.fieldAddr rfl) ?_
    refine JL.read rfl rfl (OpR.load1 rfl (Cell.row (.tail .head) rfl)) ?_
    refine JL.pure rfl rfl (OpP.conv rfl) ?_
    refine JL.step rfl rfl (OpW.call (first := []) (captured := []) inferInstance rfl rfl number8_ok) ?_; rintro r26 _ ⟨⟨a1, ⟨c1, rfl⟩⟩, rfl⟩
    refine JL.f1 ?_; refine JL.ownRow (n := 1) (sz := 1) (by decide) rfl ?_
    refine JL.mem rfl rfl (OpM.appendH rfl (.inl ⟨_, Sl.und inferInstance⟩) (by rfl) rfl rfl (RdO.src (RdO.own (.tail .head)) (by first | assumption | exact fc_length _ _ | (simp; done) | (simp; omega))) (by first | exact bcells_one _ | exact scells_one _ | exact icells_one _ | assumption | exact fc_one fun _ => rfl) (by simp only [maxLen]; omega) (by omega)) ?_; rintro _ _ ⟨⟨a27, c27, rfl⟩, rfl⟩
    refine JL.pure rfl rfl (OpP.assign rfl) ?_
    refine JL.nil ?_
    refine J.inBlock ?_
    refine J.seq ?_
    refine J.region ?_
    refine JL.pure rfl rfl (OpP.move rfl) ?_
    refine JL.pure rfl rfl (OpP.assign rfl) ?_
    refine JL.nil ?_
    refine J.ret1 rfl rfl ?_
    rw [show valP 2 i s = 2 :: be (u64 i) 8 by rw [valP, body2]; rfl]
    exact ⟨_, ⟨⟨_, _, rfl⟩, rfl⟩, fun _ h => Own.pick (pre := [_, _, _]) [0] rfl h⟩
  · refine FnO.intro (n := 66) Try.func29 rfl rfl rfl ?_
    refine J.seq ?_
    refine J.region ?_
    refine JL.mem rfl rfl (OpM.box rfl rfl) ?_; rintro _ _ ⟨b1, rfl, rfl⟩
    refine JL.pure rfl rfl (OpP.assign rfl) ?_
    refine JL.nil ?_
    refine J.seq ?_
    refine J.region ?_
    refine JL.pure rfl rfl (OpP.fieldAddr rfl) ?_
    refine JL.read rfl rfl (OpR.load1 rfl (Cell.row .head rfl)) ?_
    refine JL.pure rfl rfl (OpP.convI rfl (by decide) (by decide)) ?_
    refine JL.mem rfl rfl (by apply OpM.buildSlice (by rfl) rfl (by rfl); (repeat (first | exact Fills.nil | (apply Fills.cons rfl rfl rfl; (case' hs => ((repeat (first | exact Spl.nil | apply Spl.here | apply Spl.there)); done)))))) ?_; rintro _ _ ⟨b8, rfl, rfl⟩
    refine JL.pure rfl rfl (OpP.assign rfl) ?_
    refine JL.nil ?_
    refine J.seq ?_
    refine J.seq ?_
    refine J.region ?_
    refine JL.pure rfl rfl (OpP.fieldAddr rfl) ?_
    refine JL.read rfl rfl (OpR.load1 rfl (Cell.row (.tail .head) rfl)) ?_
    refine JL.nil ?_
    refine J.block ?_
    refine J.seq ?_
    refine J.region ?_
    refine JL.decF rfl rfl (OpP.eql rfl rfl) (by omega) ?_
    refine JL.pure rfl rfl (OpP.assign rfl) ?_
    refine JL.nil ?_
    refine J.condF rfl ?_
    refine J.seq ?_
    refine J.seq ?_
    refine J.region ?_
    refine JL.decF rfl rfl (OpP.eql rfl rfl) (by omega) ?_
    refine JL.pure rfl rfl (OpP.assign rfl) ?_
    refine JL.nil ?_
    refine J.condF rfl ?_
    refine J.region ?_
    refine JL.decF rfl rfl (OpP.eql rfl rfl) (by omega) ?_
    refine JL.pure rfl rfl (OpP.assign rfl) ?_
    refine JL.nil ?_
    refine J.condF rfl ?_
    refine J.seq ?_
    refine J.region ?_
    refine JL.decT rfl rfl (OpP.eql rfl rfl) (by omega) ?_
    refine JL.pure rfl rfl (OpP.assign rfl) ?_
    refine JL.nil ?_
    refine J.condT rfl ?_
    refine J.seq ?_
    refine J.region ?_
    refine JL.pure rfl rfl (OpP.move rfl) ?_
    refine JL.pure rfl rfl (OpP.fieldAddr rfl) ?_
    refine JL.read rfl rfl (OpR.load1 rfl (Cell.row (.tail .head) rfl)) ?_
    refine JL.pure rfl rfl (OpP.lenStr rfl rfl) ?_
    refine JL.pure rfl rfl (OpP.convI rfl (by simp [IntKind.min, IntKind.max, IntKind.signed, IntKind.bits] <;> omega) (by simp [IntKind.min, IntKind.max, IntKind.signed, IntKind.bits] <;> omega)) ?_
    refine JL.step rfl rfl (OpW.call (first := []) (captured := []) inferInstance rfl rfl (number2_ok (by omega))) ?_; rintro r35 _ ⟨⟨a1, ⟨c1, rfl⟩⟩, rfl⟩
    refine JL.f1 ?_; refine JL.ownRow (n := 1) (sz := 1) (by decide) rfl ?_
    refine JL.mem rfl rfl (OpM.appendH rfl (.inl ⟨_, Sl.und inferInstance⟩) (by rfl) rfl rfl (RdO.src (RdO.own (.tail .head)) (by first | assumption | exact fc_length _ _ | (simp; done) | (simp; omega))) (by first | exact bcells_one _ | exact scells_one _ | exact icells_one _ | assumption | exact fc_one fun _ => rfl) (by simp only [maxLen]; omega) (by omega)) ?_; rintro _ _ ⟨⟨a36, c36, rfl⟩, rfl⟩
    refine JL.pure rfl rfl (OpP.assign rfl) ?_
    refine JL.nil ?_
    refine J.region ?_
    refine JL.pure rfl rfl (OpP.move rfl) ?_
    refine JL.pure rfl rfl (OpP.fieldAddr rfl) ?_
    refine JL.read rfl rfl (OpR.load1 rfl (Cell.row (.tail (.tail .head)) rfl)) ?_
    refine JL.mem rfl rfl (OpM.appendH rfl (.inr StrT.h) (by rfl) rfl rfl Src.str (bcells_one _) (by simp only [maxLen]; omega) (by omega)) ?_; rintro _ _ ⟨⟨a40, c40, rfl⟩, rfl⟩
    refine JL.pure rfl rfl (OpP.assign rfl) ?_
    refine JL.nil ?_
    refine J.inBlock ?_
    refine J.seq ?_
    refine J.region ?_
    refine JL.pure rfl rfl (OpP.move rfl) ?_
    refine JL.pure rfl rfl (OpP.assign rfl) ?_
    refine JL.nil ?_
    refine J.ret1 rfl rfl ?_
    have hv : valP 3 0 s = 3 :: (be s.length 2 ++ s) := by rw [valP, body3]; rfl
    have hl : (valP 3 0 s).length = 1 + 2 + (strB s).size := by rw [hv, List.length_cons, List.length_append, be_length]; omega
    have hc : bcells (valP 3 0 s) = [Value.int .u8 3] ++ bcells (be (strB s).size 2) ++ bcells (strB s).data.toList := by rw [hv, es, strB_data, List.append_assoc, ← bcells_app]; rfl
    rw [hl, hc]
    exact ⟨_, ⟨⟨_, _, rfl⟩, rfl⟩, fun _ h => Own.pick (pre := [_, _, _]) [0] rfl h⟩
  · refine FnO.intro (n := 66) Try.func29 rfl rfl rfl ?_
    refine J.seq ?_
    refine J.region ?_
    refine JL.mem rfl rfl (OpM.box rfl rfl) ?_; rintro _ _ ⟨b1, rfl, rfl⟩
    refine JL.pure rfl rfl (OpP.assign rfl) ?_
    refine JL.nil ?_
    refine J.seq ?_
    refine J.region ?_
    refine JL.pure rfl rfl (OpP.fieldAddr rfl) ?_
    refine JL.read rfl rfl (OpR.load1 rfl (Cell.row .head rfl)) ?_
    refine JL.pure rfl rfl (OpP.convI rfl (by decide) (by decide)) ?_
    refine JL.mem rfl rfl (by apply OpM.buildSlice (by rfl) rfl (by rfl); (repeat (first | exact Fills.nil | (apply Fills.cons rfl rfl rfl; (case' hs => ((repeat (first | exact Spl.nil | apply Spl.here | apply Spl.there)); done)))))) ?_; rintro _ _ ⟨b8, rfl, rfl⟩
    refine JL.pure rfl rfl (OpP.assign rfl) ?_
    refine JL.nil ?_
    refine J.seq ?_
    refine J.seq ?_
    refine J.region ?_
    refine JL.pure rfl rfl (OpP.fieldAddr rfl) ?_
    refine JL.read rfl rfl (OpR.load1 rfl (Cell.row (.tail .head) rfl)) ?_
    refine JL.nil ?_
    refine J.block ?_
    refine J.seq ?_
    refine J.region ?_
    refine JL.decF rfl rfl (OpP.eql rfl rfl) (by omega) ?_
    refine JL.pure rfl rfl (OpP.assign rfl) ?_
    refine JL.nil ?_
    refine J.condF rfl ?_
    refine J.seq ?_
    refine J.seq ?_
    refine J.region ?_
    refine JL.decF rfl rfl (OpP.eql rfl rfl) (by omega) ?_
    refine JL.pure rfl rfl (OpP.assign rfl) ?_
    refine JL.nil ?_
    refine J.condF rfl ?_
    refine J.region ?_
    refine JL.decT rfl rfl (OpP.eql rfl rfl) (by omega) ?_
    refine JL.pure rfl rfl (OpP.assign rfl) ?_
    refine JL.nil ?_
    refine J.condT rfl ?_
    refine J.region ?_
    refine JL.pure rfl rfl (OpP.move rfl) ?_
    refine JL.pure rfl rfl (OpP.fieldAddr rfl) ?_
    refine JL.read rfl rfl (OpR.load1 rfl (Cell.row (.tail .head) rfl)) ?_
    refine JL.pure rfl rfl (OpP.convI rfl (by simp [IntKind.min, IntKind.max, IntKind.signed, IntKind.bits] <;> omega) (by simp [IntKind.min, IntKind.max, IntKind.signed, IntKind.bits] <;> omega)) ?_
    refine JL.step rfl rfl (OpW.call (first := []) (captured := []) inferInstance rfl rfl (number8p_ok hi.1 hi.2)) ?_; rintro r26 _ ⟨⟨a1, ⟨c1, rfl⟩⟩, rfl⟩
    refine JL.f1 ?_; refine JL.ownRow (n := 1) (sz := 1) (by decide) rfl ?_
    refine JL.mem rfl rfl (OpM.appendH rfl (.inl ⟨_, Sl.und inferInstance⟩) (by rfl) rfl rfl (RdO.src (RdO.own (.tail .head)) (by first | assumption | exact fc_length _ _ | (simp; done) | (simp; omega))) (by first | exact bcells_one _ | exact scells_one _ | exact icells_one _ | assumption | exact fc_one fun _ => rfl) (by simp only [maxLen]; omega) (by omega)) ?_; rintro _ _ ⟨⟨a27, c27, rfl⟩, rfl⟩
    refine JL.pure rfl rfl (OpP.assign rfl) ?_
    refine JL.nil ?_
    refine J.inBlock ?_
    refine J.seq ?_
    refine J.region ?_
    refine JL.pure rfl rfl (OpP.move rfl) ?_
    refine JL.pure rfl rfl (OpP.assign rfl) ?_
    refine JL.nil ?_
    refine J.ret1 rfl rfl ?_
    rw [show valP 4 i s = 4 :: be (u64 i) 8 by rw [valP, body4]; rfl]
    exact ⟨_, ⟨⟨_, _, rfl⟩, rfl⟩, fun _ h => Own.pick (pre := [_, _, _]) [0] rfl h⟩
end Go.Proofs.E

-- seat e
namespace Go.Proofs.E
open Go Go.Gp Go.RowKit

theorem refVal_ok {w0 : World} {F : List HProp} {s : List UInt8} {k i : Int} {a : Option Addr} {c : Nat} {xs : List El} (hn : xs.length ≤ 9223372036854775807) (hf : FormedP k i s xs) (hr : RdO w0 F (.slice a xs.length c) xs.length (xs.flatMap ecl)) : Told w0 29 [.agg (vcl k i s (.slice a xs.length c)).toArray] F (valB k i s xs) := by
  by_cases hk : k = 5
  · subst hk
    have hf2 := hf
    rw [FormedP, if_neg (by decide)] at hf2
    obtain ⟨hi0, hs0, hn16, hg⟩ := hf2
    have hlen : ∀ e ∈ xs, (ecl e).length = 4 := fun _ _ => rfl
    have hle := valB_le hf
    rw [valB, if_pos rfl] at hle ⊢
    refine FnO.rdF (fun _ h => h) hr fun hr1 => ?_
    refine FnO.weak ?_
    refine FnO.intro (n := 66) Try.func29 rfl rfl rfl ?_
    refine J.seq ?_
    refine J.region ?_
    refine JL.mem rfl rfl (OpM.box rfl rfl) ?_; rintro _ _ ⟨b1, rfl, rfl⟩
    refine JL.pure rfl rfl (OpP.assign rfl) ?_
    refine JL.nil ?_
    refine J.seq ?_
    refine J.region ?_
    refine JL.pure rfl rfl (OpP.fieldAddr rfl) ?_
    refine JL.read rfl rfl (OpR.load1 rfl (Cell.row .head rfl)) ?_
    refine JL.pure rfl rfl (OpP.convI rfl (by decide) (by decide)) ?_
    refine JL.mem rfl rfl (by apply OpM.buildSlice (by rfl) rfl (by rfl); (repeat (first | exact Fills.nil | (apply Fills.cons rfl rfl rfl; (case' hs => ((repeat (first | exact Spl.nil | apply Spl.here | apply Spl.there)); done)))))) ?_; rintro _ _ ⟨b8, rfl, rfl⟩
    refine JL.pure rfl rfl (OpP.assign rfl) ?_
    refine JL.nil ?_
    refine J.seq ?_
    refine J.seq ?_
    refine J.region ?_
    refine JL.pure rfl rfl (OpP.fieldAddr rfl) ?_
    refine JL.read rfl rfl (OpR.load1 rfl (Cell.row (.tail .head) rfl)) ?_
    refine JL.nil ?_
    refine J.block ?_
    refine J.seq ?_
    refine J.region ?_
    refine JL.decF rfl rfl (OpP.eql rfl rfl) (by omega) ?_
    refine JL.pure rfl rfl (OpP.assign rfl) ?_
    refine JL.nil ?_
    refine J.condF rfl ?_
    refine J.seq ?_
    refine J.seq ?_
    refine J.region ?_
    refine JL.decF rfl rfl (OpP.eql rfl rfl) (by omega) ?_
    refine JL.pure rfl rfl (OpP.assign rfl) ?_
    refine JL.nil ?_
    refine J.condF rfl ?_
    refine J.region ?_
    refine JL.decF rfl rfl (OpP.eql rfl rfl) (by omega) ?_
    refine JL.pure rfl rfl (OpP.assign rfl) ?_
    refine JL.nil ?_
    refine J.condF rfl ?_
    refine J.seq ?_
    refine J.region ?_
    refine JL.decF rfl rfl (OpP.eql rfl rfl) (by omega) ?_
    refine JL.pure rfl rfl (OpP.assign rfl) ?_
    refine JL.nil ?_
    refine J.condF rfl ?_
    refine J.seq ?_
    refine J.region ?_
    refine JL.decT rfl rfl (OpP.eql rfl rfl) (by omega) ?_
    refine JL.pure rfl rfl (OpP.assign rfl) ?_
    refine JL.nil ?_
    refine J.condT rfl ?_
    refine J.seq ?_
    refine J.region ?_
    refine JL.pure rfl rfl (OpP.move rfl) ?_
    refine JL.pure rfl rfl (OpP.fieldAddr rfl) ?_
    refine JL.read rfl rfl (OpR.load1 rfl (Cell.row (.tail .head) rfl)) ?_
    refine JL.pure rfl rfl (OpP.len rfl rfl) ?_
    refine JL.pure rfl rfl (OpP.convI rfl (by simp [IntKind.min, IntKind.max, IntKind.signed, IntKind.bits] <;> omega) (by simp [IntKind.min, IntKind.max, IntKind.signed, IntKind.bits] <;> omega)) ?_
    refine JL.mem rfl rfl (by apply OpM.buildSlice (by rfl) rfl (by rfl); (repeat (first | exact Fills.nil | (apply Fills.cons rfl rfl rfl; (case' hs => ((repeat (first | exact Spl.nil | apply Spl.here | apply Spl.there)); done)))))) ?_; rintro _ _ ⟨b48, rfl, rfl⟩
    refine JL.f1 ?_; refine JL.ownRow (n := 1) (sz := 1) (by decide) rfl ?_
    refine JL.mem rfl rfl (OpM.appendH rfl (.inl ⟨_, Sl.und inferInstance⟩) (by rfl) rfl rfl (RdO.src (RdO.ofRow (.tail .head) (by first | exact Nat.le_refl _ | decide | omega)) (by first | assumption | exact fc_length _ _ | (simp; done) | (simp; omega))) (one1 rfl) (by simp only [maxLen]; omega) (by omega)) ?_; rintro _ _ ⟨⟨a49, c49, rfl⟩, rfl⟩
    refine JL.pure rfl rfl (OpP.assign rfl) ?_
    refine JL.nil ?_
    refine J.seq ?_
    refine J.region ?_
    refine JL.pure rfl rfl (OpP.assign rfl) ?_
    refine JL.nil ?_
    refine J.block ?_
    refine J.loopI (fun x : Nat × Value × List UInt8 => xs.length - x.1) (fun x => x.1 ≤ xs.length ∧ x.2.2 = be 5 1 ++ (be xs.length 1 ++ (xs.take x.1).flatMap fun e => valP e.k e.i e.s)) (fun x => [(4, .int .i64 (x.1 : Nat)), (3, x.2.1), (1, .pointer (some ⟨b1, 0, none⟩))])
      (fun x => own 5 1 x.2.1 x.2.2.length (bcells x.2.2) :: row b1 29 (vcl 5 i s (.slice a xs.length c)) :: F) (0, .slice a49 (1 + 1) c49, be 5 1 ++ be xs.length 1) ⟨Nat.zero_le _, by dsimp only; rw [List.take_zero, List.flatMap_nil, List.append_nil]⟩ (by repeat (first | exact SubEnv.nil | refine SubEnv.cons (by first | rfl | exact congrArg (fun z => some (Value.int .i64 z)) (by omega) | (simp; done)) ?_)) (fun _ h => ?_) (fun ⟨j, u, L⟩ hi back => ?_)
    · have e : Value.int .u8 ((xs.length : Nat) : Int) = u8c (UInt8.ofNat (xs.length / 256 ^ 0)) := by
        rw [Nat.pow_zero, Nat.div_one, ← wrapB, wrap_u8]
        congr 1
        omega
      rw [e] at h
      exact Own.pick (pre := [_, _, _]) [0, 2] rfl h
    dsimp only at hi back ⊢
    obtain ⟨hj, hL⟩ := hi
    by_cases hlt : j < xs.length
    · obtain ⟨e, he⟩ : ∃ e, xs[j]? = some e := ⟨_, List.getElem?_eq_getElem hlt⟩
      have hpe := (hg j e he).1
      have hbe : (bcells (valP e.k e.i e.s)).length = (valP e.k e.i e.s).length * 1 := by rw [bcells_length]; omega
      have hpl := valP_le hpe
      have hLl : L.length ≤ 2000 := by
        have h1 : xs.flatMap (fun e => valP e.k e.i e.s) = (xs.take j).flatMap (fun e => valP e.k e.i e.s) ++ (xs.drop j).flatMap (fun e => valP e.k e.i e.s) := by rw [← List.flatMap_append, List.take_append_drop]
        rw [h1] at hle
        rw [hL]
        simp only [List.length_append] at hle ⊢
        omega
      refine J.lit .head fun au cu eu => ?_; subst eu
      refine J.seq ?_
      refine J.seq ?_
      refine J.region ?_
      refine JL.pure rfl rfl (OpP.move rfl) ?_
      refine JL.pure rfl rfl (OpP.fieldAddr rfl) ?_
      refine JL.read rfl rfl (OpR.load1 rfl (Cell.row (.tail .head) rfl)) ?_
      refine JL.pure rfl rfl (OpP.len rfl rfl) ?_
      refine JL.decT rfl rfl (OpP.lss rfl rfl) (by omega) ?_
      refine JL.nil ?_
      refine J.condT rfl ?_
      refine J.skip ?_
      refine J.seq ?_
      refine J.block ?_
      refine J.region ?_
      refine JL.pure rfl rfl (OpP.move rfl) ?_
      refine JL.pure rfl rfl (OpP.fieldAddr rfl) ?_
      refine JL.read rfl rfl (OpR.load1 rfl (Cell.row (.tail .head) rfl)) ?_
      refine JL.pure rfl rfl (OpP.move rfl) ?_
      obtain ⟨ga, pa, qa, ea, ka, ca⟩ := hr1.pos (by omega); cases ea
      refine JL.pure rfl rfl (OpP.indexAddr rfl rfl (by omega) (by omega)) ?_
      refine JL.read rfl rfl (OpR.loadN rfl (by apply Cells.conv (fun _ h => Own.pick (pre := [_, _]) [] rfl h); apply Cells.chunkAt ca; (case' h => assumption); (case' hi => assumption); done) (by first | rfl | assumption)) ?_
      refine JL.step rfl rfl (OpW.call (first := []) (captured := []) inferInstance rfl rfl (refValP_ok hpe)) ?_; rintro r63 _ ⟨⟨a, ⟨c1, rfl⟩⟩, rfl⟩
      refine JL.f1 ?_; refine JL.mem rfl rfl (OpM.appendH rfl (.inl ⟨_, Sl.und inferInstance⟩) (by rfl) rfl rfl (RdO.src (RdO.own (.tail .head)) (by first | assumption | exact fc_length _ _ | (simp; done) | (simp; omega))) (by first | exact bcells_one _ | exact scells_one _ | exact icells_one _ | assumption | exact fc_one fun _ => rfl) (by simp only [maxLen]; omega) (by omega)) ?_; rintro _ _ ⟨⟨a64, c64, rfl⟩, rfl⟩
      refine JL.pure rfl rfl (OpP.assign rfl) ?_
      refine JL.nil ?_
      refine J.inBlock ?_
      refine J.region ?_
      refine JL.pure rfl rfl (OpP.move rfl) ?_
      refine JL.pure rfl rfl (OpP.addI rfl rfl (by omega) (by omega)) ?_
      refine JL.pure rfl rfl (OpP.assign rfl) ?_
      refine JL.nil ?_
      refine back (j + 1, .slice a64 (L.length + (valP e.k e.i e.s).length) c64, L ++ valP e.k e.i e.s) ⟨by dsimp only; omega, ?_⟩ (by dsimp only; omega) (by repeat (first | exact SubEnv.nil | refine SubEnv.cons (by first | rfl | exact congrArg (fun z => some (Value.int .i64 z)) (by omega) | (simp; done)) ?_)) (fun _ h => ?_)
      · dsimp only
        rw [hL, List.take_add_one, he, List.flatMap_append, List.append_assoc, List.append_assoc]
        simp only [Option.toList_some, List.flatMap_cons, List.flatMap_nil, List.append_nil]
      · dsimp only
        rw [List.length_append, bcells_app]
        exact Own.pick (pre := [_, _, _]) [0, 2] rfl h
    · have : j = xs.length := by omega
      subst this
      rw [List.take_length] at hL
      refine J.lit .head fun au cu eu => ?_; subst eu
      refine J.seq ?_
      refine J.seq ?_
      refine J.region ?_
      refine JL.pure rfl rfl (OpP.move rfl) ?_
      refine JL.pure rfl rfl (OpP.fieldAddr rfl) ?_
      refine JL.read rfl rfl (OpR.load1 rfl (Cell.row (.tail .head) rfl)) ?_
      refine JL.pure rfl rfl (OpP.len rfl rfl) ?_
      refine JL.decF rfl rfl (OpP.lss rfl rfl) (by omega) ?_
      refine JL.nil ?_
      refine J.condF rfl ?_
      refine J.exit rfl ?_
      refine J.inBlock ?_
      refine J.seq ?_
      refine J.region ?_
      refine JL.pure rfl rfl (OpP.move rfl) ?_
      refine JL.pure rfl rfl (OpP.assign rfl) ?_
      refine JL.nil ?_
      refine J.ret1 rfl rfl ?_
      rw [← hL]
      exact ⟨_, ⟨⟨_, _, rfl⟩, rfl⟩, fun _ h => Own.pick (pre := [_, _]) [0] rfl h⟩
  · have hp : Plain k i s xs.length := by rw [FormedP, if_pos hk] at hf; exact hf
    rw [valB, if_neg hk]
    exact refValP_ok hp
end Go.Proofs.E

-- seat e
namespace Go.Proofs.E
open Go Go.Gp Go.RowKit

end Go.Proofs.E

-- seat e
namespace Go.Proofs.E
open Go Go.Gp Go.RowKit

theorem be_snoc (n k : Nat) : be n (k + 1) = be (n / 256) k ++ [UInt8.ofNat n] := by
  induction k with
  | zero => simp [be]
  | succ k ih =>
    rw [be, ih, be, List.cons_append, Nat.div_div_eq_div_mul, Nat.mul_comm 256, ← Nat.pow_succ]
end Go.Proofs.E

-- seat e
namespace Go.Proofs.E
open Go Go.Gp Go.RowKit

theorem refFormedT {w0 : World} {F : List HProp} {k i : Int} {s : List UInt8} {a : Option Addr} {c : Nat} {xs : List El} (hx : ∀ e ∈ xs, e.ok) (hn : xs.length ≤ 9223372036854775807) (hf : FormedP k i s xs) (hr : RdO w0 F (.slice a xs.length c) xs.length (xs.flatMap ecl)) :
    FnO Try.prog w0 27 [.agg (vcl k i s (.slice a xs.length c)).toArray] F (fun r l' => r = .bool true ∧ l' = F) :=
  (refFormed_ok hx hn hr).mono fun r l' ⟨b, h1, h2, h3⟩ => ⟨by rw [h1, h3.2 hf], h2⟩
end Go.Proofs.E

-- seat e
namespace Go.Proofs.E
open Go Go.Gp Go.RowKit

theorem nat8_be {n k : Nat} (h : n < 256 ^ k) : nat8 (be n k) = n := by
  induction k generalizing n with
  | zero => simp at h; subst h; rfl
  | succ k ih =>
    rw [be_snoc, nat8_snoc, ih (by rw [Nat.pow_succ] at h; omega), UInt8.toNat_ofNat']
    omega
theorem rest_app {L R : List UInt8} : restO (some (L ++ R)) (L.length : Nat) = some R ∧ gotO (some (L ++ R)) (L.length : Nat) = L := by
  have h : (0 : Int) ≤ (L.length : Nat) ∧ ((L.length : Nat) : Int) ≤ (L ++ R).length := by rw [List.length_append]; omega
  refine ⟨?_, ?_⟩
  · simp only [restO, Option.bind_some]
    rw [if_pos h]
    simp
  · simp only [gotO]
    rw [if_pos h]
    simp
theorem num_be {n k : Nat} {R : List UInt8} (h : n < 256 ^ k) : numI (some (be n k ++ R)) k = n ∧ restO (some (be n k ++ R)) (k : Nat) = some R := by
  have h1 := rest_app (L := be n k) (R := R)
  rw [be_length] at h1
  exact ⟨by rw [numI, h1.2, nat8_be h], h1.1⟩
/-- Numbers are in range. -/
def InR (i : Int) (xs : List El) : Prop := (-9223372036854775808 ≤ i ∧ i ≤ 9223372036854775807) ∧ ∀ e ∈ xs, -9223372036854775808 ≤ e.i ∧ e.i ≤ 9223372036854775807
def pl (e : El) : Pl := (e.k, e.i, e.s)
end Go.Proofs.E

-- seat e
namespace Go.Proofs.E
open Go Go.Gp Go.RowKit

/-- A value in a list. -/
structure Va where
  k : Int
  i : Int
  s : List UInt8
  xs : List El
  a : Option Addr
  c : Nat
abbrev vac (u : Va) : List Value := vcl u.k u.i u.s (.slice u.a u.xs.length u.c)
def FewE (e : El) : Prop := e.s.length ≤ 200 ∧ e.n = 0
def FewU (u : Va) : Prop := u.s.length ≤ 200 ∧ u.xs.length ≤ 30 ∧ ∀ (j : Nat) (e : El), u.xs[j]? = some e → FewE e
end Go.Proofs.E

-- seat e
namespace Go.Proofs.E
open Go Go.Gp Go.RowKit

theorem few_okE {k i : Int} {s : List UInt8} {xs : List El} {a : Option Addr} {c : Nat} (h : FewU ⟨k, i, s, xs, a, c⟩) : (∀ e ∈ xs, e.ok) ∧ xs.length ≤ 30 ∧ ∀ e ∈ xs, e.n = 0 := by
  obtain ⟨_, h2, h3⟩ := h
  refine ⟨fun e he => ?_, h2, fun e he => ?_⟩
  · obtain ⟨j, hj⟩ := List.getElem?_of_mem he
    have := (h3 j e hj).1
    unfold El.ok
    omega
  · obtain ⟨j, hj⟩ := List.getElem?_of_mem he
    exact (h3 j e hj).2
theorem refFormedF {w0 : World} {F : List HProp} {k i : Int} {s : List UInt8} {a : Option Addr} {c : Nat} {xs : List El} (hx : ∀ e ∈ xs, e.ok) (hn : xs.length ≤ 9223372036854775807) (hf : ¬ FormedP k i s xs) (hr : RdO w0 F (.slice a xs.length c) xs.length (xs.flatMap ecl)) :
    FnO Try.prog w0 27 [.agg (vcl k i s (.slice a xs.length c)).toArray] F (fun r l' => r = .bool false ∧ l' = F) :=
  (refFormed_ok hx hn hr).mono fun r l' ⟨b, h1, h2, h3⟩ => ⟨by rw [h1]; cases b; rfl; exact absurd (h3.1 rfl) hf, h2⟩
end Go.Proofs.E

-- seat e
namespace Go.Proofs.E
open Go Go.Gp Go.RowKit

end Go.Proofs.E

-- seat e
namespace Go.Proofs.E
open Go Go.Gp Go.RowKit

theorem Fm.val {w0 : World} {cs : List Value} (h : Fm Try.prog w0 29 cs) : ∃ k i s a c, ∃ xs : List El, InR i xs ∧ cs = vcl k i s (.slice a xs.length c) ∧ ∀ l, Rd w0 l (.slice a xs.length c) xs.length (xs.flatMap ecl) := by
  have h := h.fields (l := [(3, 1), (2, 1), (9, 1), (27, 1)]) (by kernel_rfl)
  obtain ⟨c0, cs, rfl, f0, h⟩ := h.one
  obtain ⟨c1, cs, rfl, f1, h⟩ := h.one
  obtain ⟨c2, cs, rfl, f2, h⟩ := h.one
  obtain ⟨c3, cs, rfl, f3, h⟩ := h.one
  cases h
  obtain ⟨k, e0, _⟩ := f0.int (k := .i64) (by kernel_rfl)
  obtain ⟨i, e1, k1⟩ := f1.int (k := .i64) (by kernel_rfl)
  obtain ⟨s, e2, _⟩ := f2.str (by kernel_rfl)
  simp [Lit.wf, IntKind.min, IntKind.max, IntKind.signed, IntKind.bits] at k1
  cases e0; cases e1; cases e2
  obtain ⟨xs, hl, _, hr⟩ := Fm.rows (f := ecl) (Q := fun e => -9223372036854775808 ≤ e.i ∧ e.i ≤ 9223372036854775807) (e := 29) (by kernel_rfl) (sz := 4) (by kernel_rfl) (by decide) f3 fun cs _ hf => by
    have h := hf.fields (l := [(3, 1), (2, 1), (9, 1), (27, 1)]) (by kernel_rfl)
    obtain ⟨c0, cs, rfl, f0, h⟩ := h.one
    obtain ⟨c1, cs, rfl, f1, h⟩ := h.one
    obtain ⟨c2, cs, rfl, f2, h⟩ := h.one
    obtain ⟨c4, cs, rfl, f4, h⟩ := h.one
    cases h
    obtain ⟨k, e0, _⟩ := f0.int (k := .i64) (by kernel_rfl)
    obtain ⟨i, e1, k1⟩ := f1.int (k := .i64) (by kernel_rfl)
    obtain ⟨s, e2, _⟩ := f2.str (by kernel_rfl)
    simp [Lit.wf, IntKind.min, IntKind.max, IntKind.signed, IntKind.bits] at k1
    cases e0; cases e1; cases e2
    obtain ⟨p, a, n, c, e4⟩ : ∃ (_ : Unit) (a : Option Addr) (n c : Nat), c4 = .slice a n c := by
      rcases f4.slice (e := 29) (by kernel_rfl) with h0 | ⟨a, n, c, h0, _⟩
      · simp at h0; exact ⟨(), _, _, _, h0⟩
      · simp at h0; exact ⟨(), _, _, _, h0⟩
    subst e4
    exact ⟨⟨k, i, s.data.toList, a, n, c⟩, k1, by simp [ecl, vcl, strB]⟩
  obtain ⟨a, c, e⟩ := (hr []).lit
  cases e
  exact ⟨k, i, s.data.toList, a, c, xs, ⟨k1, fun e he => (hl e he).1⟩, by simp [vcl, strB], hr⟩
end Go.Proofs.E
