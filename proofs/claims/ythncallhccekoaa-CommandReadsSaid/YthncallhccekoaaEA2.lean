/- A text of the proof of a statement about the given program: its part EA2. No person has read it. -/
import Derived.Test.YthncallhccekoaaEA1
import Derived.Test.YthncallhccekoaaEJ2
-- seat e
namespace Go.Proofs.E
open Go Go.Gp Go.RowKit

/-! What is read: the rest, or bad. -/
abbrev inL (g : Nat) (bad : Bool) (v : Value) (M : List UInt8) (F : List HProp) : List HProp := row g 85 [.bool bad, v] :: own 5 1 v M.length (bcells M) :: F
def restO (o : Option (List UInt8)) (n : Int) : Option (List UInt8) := o.bind fun M => if 0 ≤ n ∧ n ≤ M.length then some (M.drop n.toNat) else none
def gotO (o : Option (List UInt8)) (n : Int) : List UInt8 := match o with
  | none => []
  | some M => if 0 ≤ n ∧ n ≤ M.length then M.take n.toNat else []
theorem spoilI_ok {w0 : World} {F : List HProp} {g : Nat} {bad : Bool} {v : Value} :
    FnO Try.prog w0 51 [.pointer (some ⟨g, 0, none⟩)] (row g 85 [.bool bad, v] :: F) (fun r l' => r = .tuple #[] ∧ l' = row g 85 [.bool true, v] :: F) := by
  refine FnO.intro (n := 5) Try.func51 rfl rfl rfl ?_
  refine J.region ?_
  refine JL.pure rfl rfl (OpP.move rfl) ?_
  refine JL.pure rfl rfl (OpP.nilCheck rfl) ?_
  refine JL.pure rfl rfl (OpP.fieldAddr rfl) ?_
  refine JL.mem0 rfl (by apply OpM.store1 rfl rfl rfl; (case' hu => exact .head); (case' hs => exact (.here .nil)); done) ?_; rintro _ _ ⟨rfl, rfl⟩
  refine JL.nil ?_
  refine J.fin0 rfl ?_
  exact ⟨rfl, rfl⟩
theorem read_ok {w0 : World} {F : List HProp} {v : Value} {l : List UInt8} (hl : l.length ≤ 1000000000) (hr : RdO w0 F v l.length (bcells l)) :
    FnO Try.prog w0 14 [v] F (fun r l' => ∃ g v', r = .pointer (some ⟨g, 0, none⟩) ∧ l' = inL g false v' l F) := by
  refine FnO.rdF (fun _ h => h) hr fun hr1 => ?_
  obtain ⟨a1, c1, rfl⟩ := hr1.lit
  refine FnO.weak ?_
  refine FnO.intro (n := 7) Try.func14 rfl rfl rfl ?_
  refine J.seq ?_
  refine J.region ?_
  refine JL.pure rfl rfl (OpP.assign rfl) ?_
  refine JL.nil ?_
  refine J.seq ?_
  refine J.region ?_
  refine JL.pure rfl rfl (OpP.move rfl) ?_
  refine JL.step rfl rfl (OpW.call (first := []) (captured := []) inferInstance rfl rfl (clone_ok hl hr)) ?_; rintro r4 _ ⟨⟨a, ⟨c, rfl⟩⟩, rfl⟩
  refine JL.pure rfl rfl (OpP.build rfl (by (repeat (first | exact Fills.nil | (apply Fills.cons rfl rfl rfl; (case' hs => ((repeat (first | exact Spl.nil | apply Spl.here | apply Spl.there)); done))))))) ?_
  refine JL.mem rfl rfl (OpM.box rfl rfl) ?_; rintro _ _ ⟨b6, rfl, rfl⟩
  refine JL.pure rfl rfl (OpP.assign rfl) ?_
  refine JL.nil ?_
  refine J.ret1 rfl rfl ?_
  exact ⟨_, ⟨b6, _, rfl, rfl⟩, fun _ h => h⟩
theorem over_ok {w0 : World} {F : List HProp} {g : Nat} {bad : Bool} {v : Value} {M : List UInt8} :
    FnO Try.prog w0 23 [.pointer (some ⟨g, 0, none⟩)] (inL g bad v M F) (fun r l' => r = .bool (decide (bad = false ∧ M = [])) ∧ l' = inL g bad v M F) := by
  refine FnO.intro (n := 17) Try.func23 rfl rfl rfl ?_
  refine J.lit (.tail .head) fun av cv ev => ?_; subst ev
  refine J.seq ?_
  refine J.region ?_
  refine JL.pure rfl rfl (OpP.assign rfl) ?_
  refine JL.nil ?_
  refine J.seq ?_
  refine J.region ?_
  refine JL.pure rfl rfl (OpP.move rfl) ?_
  refine JL.pure rfl rfl (OpP.nilCheck rfl) ?_
  refine JL.pure rfl rfl (OpP.fieldAddr rfl) ?_
  refine JL.pure rfl rfl (OpP.fieldAddr rfl) ?_
  refine JL.read rfl rfl (OpR.load1 rfl (Cell.row .head rfl)) ?_
  refine JL.pure rfl rfl (OpP.notB rfl) ?_
  refine JL.pure rfl rfl (OpP.move rfl) ?_
  refine JL.splitAt 9 rfl (fun h9 => ?_) (fun h9 => ?_)
  focus
    refine JL.pure rfl rfl (OpP.move rfl) ?_
    refine JL.pure rfl rfl (OpP.nilCheck rfl) ?_
    refine JL.pure rfl rfl (OpP.fieldAddr rfl) ?_
    refine JL.read rfl rfl (OpR.load1 rfl (Cell.row .head rfl)) ?_
    refine JL.pure rfl rfl (OpP.len rfl rfl) ?_
    refine JL.dec rfl rfl (OpP.eql rfl rfl) (fun h15 => ?_) (fun h15 => ?_)
    focus
      refine JL.pure rfl rfl (OpP.pickT rfl rfl) ?_
      refine JL.pure rfl rfl (OpP.assign rfl) ?_
      refine JL.nil ?_
      refine J.ret1 rfl rfl ?_
    rotate_left 1
    focus
      refine JL.pure rfl rfl (OpP.pickT rfl rfl) ?_
      refine JL.pure rfl rfl (OpP.assign rfl) ?_
      refine JL.nil ?_
      refine J.ret1 rfl rfl ?_
    rotate_left 1
  rotate_left 2
  focus
    refine JL.skip rfl rfl ?_
    refine JL.skip rfl rfl ?_
    refine JL.skip rfl rfl ?_
    refine JL.skip rfl rfl ?_
    refine JL.skip rfl rfl ?_
    refine JL.skip rfl rfl ?_
    refine JL.pure rfl rfl (OpP.pickF rfl rfl) ?_
    refine JL.pure rfl rfl (OpP.assign rfl) ?_
    refine JL.nil ?_
    refine J.ret1 rfl rfl ?_
  rotate_left 1
  · exact ⟨congrArg Value.bool (decide_eq_true ⟨by simpa using h9, List.eq_nil_of_length_eq_zero (by omega)⟩).symm, rfl⟩
  · exact ⟨congrArg Value.bool (decide_eq_false fun q => h15 (by rw [q.2]; rfl)).symm, rfl⟩
  · exact ⟨congrArg Value.bool (decide_eq_false fun q => by rw [q.1] at h9; cases h9).symm, rfl⟩
theorem raw_ok {w0 : World} {F : List HProp} {g : Nat} {n : Int} {bad : Bool} {v : Value} {M : List UInt8} (hM : M.length ≤ 1000000000) :
    FnO Try.prog w0 21 [.pointer (some ⟨g, 0, none⟩), .int .i64 n] (inL g bad v M F) (fun r l' => ∃ bad' v' M', (∃ a c, r = .slice a (gotO (absO bad M) n).length c) ∧ M'.length ≤ 1000000000 ∧ absO bad' M' = restO (absO bad M) n ∧ l' = own 5 1 r (gotO (absO bad M) n).length (bcells (gotO (absO bad M) n)) :: inL g bad' v' M' F) := by
  refine FnO.weak ?_
  refine FnO.intro (n := 45) Try.func21 rfl rfl rfl ?_
  refine J.lit (.tail .head) fun av cv ev => ?_; subst ev
  by_cases hb : bad = true
  · subst hb
    refine J.seq ?_
    refine J.region ?_
    refine JL.pure rfl rfl (OpP.assign rfl) ?_
    refine JL.nil ?_
    refine J.seq ?_
    refine J.seq ?_
    refine J.region ?_
    refine JL.pure rfl rfl (OpP.move rfl) ?_
    refine JL.pure rfl rfl (OpP.nilCheck rfl) ?_
    refine JL.pure rfl rfl (OpP.fieldAddr rfl) ?_
    refine JL.pure rfl rfl (OpP.fieldAddr rfl) ?_
    refine JL.read rfl rfl (OpR.load1 rfl (Cell.row .head rfl)) ?_
    refine JL.pure rfl rfl (OpP.move rfl) ?_
    refine JL.skip rfl rfl ?_
    refine JL.skip rfl rfl ?_
    refine JL.pure rfl rfl (OpP.pickT rfl rfl) ?_
    refine JL.pure rfl rfl (OpP.move rfl) ?_
    refine JL.skip rfl rfl ?_
    refine JL.skip rfl rfl ?_
    refine JL.skip rfl rfl ?_
    refine JL.skip rfl rfl ?_
    refine JL.skip rfl rfl ?_
    refine JL.skip rfl rfl ?_
    refine JL.skip rfl rfl ?_
    refine JL.pure rfl rfl (OpP.pickT rfl rfl) ?_
    refine JL.nil ?_
    refine J.condT rfl ?_
    refine J.seq ?_
    refine J.region ?_
    refine JL.pure rfl rfl (OpP.move rfl) ?_
    refine JL.pure rfl rfl (OpP.nilCheck rfl) ?_
    refine JL.pure rfl rfl (OpP.fieldAddr rfl) ?_
    refine JL.step rfl rfl (OpW.call (first := []) (captured := []) inferInstance rfl rfl spoilI_ok) ?_; rintro r27 _ ⟨rfl, rfl⟩
    refine JL.nil ?_
    refine J.seq ?_
    refine J.region ?_
    refine JL.pure rfl rfl (OpP.assign rfl) ?_
    refine JL.nil ?_
    refine J.ret1 rfl rfl ?_
    exact ⟨_, ⟨true, _, M, ⟨none, 0, rfl⟩, hM, rfl, rfl⟩, fun _ h => h.own_nil⟩
  · obtain rfl : bad = false := by simpa using hb
    by_cases hn : 0 ≤ n ∧ n ≤ M.length
    · obtain ⟨k, rfl⟩ := Int.eq_ofNat_of_zero_le hn.1
      have hk : k ≤ M.length := by omega
      have e1 : restO (absO false M) (k : Nat) = some (M.drop k) := by simp only [restO, absO, Option.bind_some, if_false, Bool.false_eq_true]; rw [if_pos hn]; rfl
      have e2 : gotO (absO false M) (k : Nat) = M.take k := by simp only [gotO, absO, if_false, Bool.false_eq_true]; rw [if_pos hn]; rfl
      have e3 : (M.take k).length = k := by rw [List.length_take]; omega
      rw [e1, e2]
      refine J.ownCases (.tail .head) (fun ea en ec => ?_) (fun gg pp ea kk => ?_)
      · subst ea ec
        obtain rfl : M = [] := List.eq_nil_of_length_eq_zero en
        obtain rfl : k = 0 := by simpa using hk
        refine J.seq ?_
        refine J.region ?_
        refine JL.pure rfl rfl (OpP.assign rfl) ?_
        refine JL.nil ?_
        refine J.seq ?_
        refine J.seq ?_
        refine J.region ?_
        refine JL.pure rfl rfl (OpP.move rfl) ?_
        refine JL.pure rfl rfl (OpP.nilCheck rfl) ?_
        refine JL.pure rfl rfl (OpP.fieldAddr rfl) ?_
        refine JL.pure rfl rfl (OpP.fieldAddr rfl) ?_
        refine JL.read rfl rfl (OpR.load1 rfl (Cell.row .head rfl)) ?_
        refine JL.pure rfl rfl (OpP.move rfl) ?_
        refine JL.pure rfl rfl (OpP.move rfl) ?_
        refine JL.decF rfl rfl (OpP.lss rfl rfl) (by omega) ?_
        refine JL.pure rfl rfl (OpP.pickF rfl rfl) ?_
        refine JL.pure rfl rfl (OpP.move rfl) ?_
        refine JL.pure rfl rfl (OpP.move rfl) ?_
        refine JL.pure rfl rfl (OpP.move rfl) ?_
        refine JL.pure rfl rfl (OpP.nilCheck rfl) ?_
        refine JL.pure rfl rfl (OpP.fieldAddr rfl) ?_
        refine JL.read rfl rfl (OpR.load1 rfl (Cell.row .head rfl)) ?_
        refine JL.pure rfl rfl (OpP.len rfl rfl) ?_
        refine JL.decF rfl rfl (OpP.gtr rfl rfl) (by omega) ?_
        refine JL.pure rfl rfl (OpP.pickF rfl rfl) ?_
        refine JL.nil ?_
        refine J.condF rfl ?_
        refine J.skip ?_
        refine J.seq ?_
        refine J.region ?_
        refine JL.pure rfl rfl (OpP.move rfl) ?_
        refine JL.pure rfl rfl (OpP.nilCheck rfl) ?_
        refine JL.pure rfl rfl (OpP.fieldAddr rfl) ?_
        refine JL.read rfl rfl (OpR.load1 rfl (Cell.row .head rfl)) ?_
        refine JL.pure rfl rfl (OpP.move rfl) ?_
        refine JL.pure rfl rfl (OpP.sliceNilTo rfl rfl (by omega)) ?_
        refine JL.step rfl rfl (OpW.call (first := []) (captured := []) inferInstance rfl rfl (clone_ok (l := []) (by exact Nat.zero_le _) RdO.nilB)) ?_; rintro r34 _ ⟨⟨a, ⟨c, rfl⟩⟩, rfl⟩
        refine JL.pure rfl rfl (OpP.assign rfl) ?_
        refine JL.nil ?_
        refine J.seq ?_
        refine J.region ?_
        refine JL.pure rfl rfl (OpP.move rfl) ?_
        refine JL.pure rfl rfl (OpP.move rfl) ?_
        refine JL.pure rfl rfl (OpP.nilCheck rfl) ?_
        refine JL.pure rfl rfl (OpP.fieldAddr rfl) ?_
        refine JL.read rfl rfl (OpR.load1 rfl (Cell.row (.tail .head) rfl)) ?_
        refine JL.pure rfl rfl (OpP.move rfl) ?_
        refine JL.pure rfl rfl (OpP.sliceNilFrom rfl rfl (by omega)) ?_
        refine JL.pure rfl rfl (OpP.nilCheck rfl) ?_
        refine JL.pure rfl rfl (OpP.fieldAddr rfl) ?_
        refine JL.mem0 rfl (by apply OpM.store1 rfl rfl rfl; (case' hu => exact (.tail .head)); (case' hs => exact (.there (.here .nil))); done) ?_; rintro _ _ ⟨rfl, rfl⟩
        refine JL.nil ?_
        refine J.seq ?_
        refine J.region ?_
        refine JL.pure rfl rfl (OpP.move rfl) ?_
        refine JL.pure rfl rfl (OpP.assign rfl) ?_
        refine JL.nil ?_
        refine J.ret1 rfl rfl ?_
        exact ⟨_, ⟨false, .slice none 0 0, [], ⟨a, c, rfl⟩, Nat.zero_le _, rfl, rfl⟩, fun _ h => h⟩
      · subst ea
        have hto : RdO w0 [own 5 1 (.slice (some ⟨gg, pp, none⟩) M.length cv) M.length (bcells M)] (.slice (some ⟨gg, pp, none⟩) k cv) (M.take k).length (bcells (M.take k)) := by
          have := (RdO.own (w0 := w0) (l := [own 5 1 (.slice (some ⟨gg, pp, none⟩) M.length cv) M.length (bcells M)]) .head).to 1 hk
          rw [Nat.mul_one, show (bcells M).take k = bcells (M.take k) from List.map_take.symm] at this
          rw [e3]; exact this
        refine J.seq ?_
        refine J.region ?_
        refine JL.pure rfl rfl (OpP.assign rfl) ?_
        refine JL.nil ?_
        refine J.seq ?_
        refine J.seq ?_
        refine J.region ?_
        refine JL.pure rfl rfl (OpP.move rfl) ?_
        refine JL.pure rfl rfl (OpP.nilCheck rfl) ?_
        refine JL.pure rfl rfl (OpP.fieldAddr rfl) ?_
        refine JL.pure rfl rfl (OpP.fieldAddr rfl) ?_
        refine JL.read rfl rfl (OpR.load1 rfl (Cell.row .head rfl)) ?_
        refine JL.pure rfl rfl (OpP.move rfl) ?_
        refine JL.pure rfl rfl (OpP.move rfl) ?_
        refine JL.decF rfl rfl (OpP.lss rfl rfl) (by omega) ?_
        refine JL.pure rfl rfl (OpP.pickF rfl rfl) ?_
        refine JL.pure rfl rfl (OpP.move rfl) ?_
        refine JL.pure rfl rfl (OpP.move rfl) ?_
        refine JL.pure rfl rfl (OpP.move rfl) ?_
        refine JL.pure rfl rfl (OpP.nilCheck rfl) ?_
        refine JL.pure rfl rfl (OpP.fieldAddr rfl) ?_
        refine JL.read rfl rfl (OpR.load1 rfl (Cell.row .head rfl)) ?_
        refine JL.pure rfl rfl (OpP.len rfl rfl) ?_
        refine JL.decF rfl rfl (OpP.gtr rfl rfl) (by omega) ?_
        refine JL.pure rfl rfl (OpP.pickF rfl rfl) ?_
        refine JL.nil ?_
        refine J.condF rfl ?_
        refine J.skip ?_
        refine J.seq ?_
        refine J.region ?_
        refine JL.pure rfl rfl (OpP.move rfl) ?_
        refine JL.pure rfl rfl (OpP.nilCheck rfl) ?_
        refine JL.pure rfl rfl (OpP.fieldAddr rfl) ?_
        refine JL.read rfl rfl (OpR.load1 rfl (Cell.row .head rfl)) ?_
        refine JL.pure rfl rfl (OpP.move rfl) ?_
        refine JL.pure rfl rfl (OpP.sliceTo _ rfl rfl rfl (by omega)) ?_
        refine JL.step rfl rfl (OpW.call (first := []) (captured := []) inferInstance rfl rfl (clone_ok (l := M.take k) (by omega) (hto.conv (fun _ h => Own.left (ks := [_]) (Own.pick (pre := [_, _]) [1] rfl h))))) ?_; rintro r34 _ ⟨⟨a, ⟨c, rfl⟩⟩, rfl⟩
        refine JL.pure rfl rfl (OpP.assign rfl) ?_
        refine JL.nil ?_
        refine J.seq ?_
        refine J.region ?_
        refine JL.pure rfl rfl (OpP.move rfl) ?_
        refine JL.pure rfl rfl (OpP.move rfl) ?_
        refine JL.pure rfl rfl (OpP.nilCheck rfl) ?_
        refine JL.pure rfl rfl (OpP.fieldAddr rfl) ?_
        refine JL.read rfl rfl (OpR.load1 rfl (Cell.row (.tail .head) rfl)) ?_
        refine JL.pure rfl rfl (OpP.move rfl) ?_
        refine JL.pure rfl rfl (OpP.sliceFrom _ rfl rfl rfl (by omega) (by omega)) ?_
        refine JL.pure rfl rfl (OpP.nilCheck rfl) ?_
        refine JL.pure rfl rfl (OpP.fieldAddr rfl) ?_
        refine JL.mem0 rfl (by apply OpM.store1 rfl rfl rfl; (case' hu => exact (.tail .head)); (case' hs => exact (.there (.here .nil))); done) ?_; rintro _ _ ⟨rfl, rfl⟩
        refine JL.nil ?_
        refine J.seq ?_
        refine J.region ?_
        refine JL.pure rfl rfl (OpP.move rfl) ?_
        refine JL.pure rfl rfl (OpP.assign rfl) ?_
        refine JL.nil ?_
        refine J.ret1 rfl rfl ?_
        refine ⟨_, ⟨false, .slice (some ⟨gg, if cv = k then pp else pp + k * 1, none⟩) (M.length - k) (cv - k), M.drop k, ⟨a, c, rfl⟩, by rw [List.length_drop]; omega, rfl, rfl⟩, fun _ h => ?_⟩
        have h := Own.fromK hk (Own.pick (pre := [_, _, _]) [2, 0, 1] rfl h)
        rw [show (bcells M).drop (k * 1) = bcells (M.drop k) by rw [Nat.mul_one]; exact List.map_drop.symm] at h
        rw [inL, List.length_drop]
        exact Own.pick (pre := [_, _, _]) [1, 2, 0] rfl h
    · have e1 : restO (absO false M) n = none := by simp only [restO, absO, Option.bind_some, if_false, Bool.false_eq_true]; rw [if_neg hn]
      have e2 : gotO (absO false M) n = [] := by simp only [gotO, absO, if_false, Bool.false_eq_true]; rw [if_neg hn]
      rw [e1, e2]
      by_cases h0 : n < 0
      · refine J.seq ?_
        refine J.region ?_
        refine JL.pure rfl rfl (OpP.assign rfl) ?_
        refine JL.nil ?_
        refine J.seq ?_
        refine J.seq ?_
        refine J.region ?_
        refine JL.pure rfl rfl (OpP.move rfl) ?_
        refine JL.pure rfl rfl (OpP.nilCheck rfl) ?_
        refine JL.pure rfl rfl (OpP.fieldAddr rfl) ?_
        refine JL.pure rfl rfl (OpP.fieldAddr rfl) ?_
        refine JL.read rfl rfl (OpR.load1 rfl (Cell.row .head rfl)) ?_
        refine JL.pure rfl rfl (OpP.move rfl) ?_
        refine JL.pure rfl rfl (OpP.move rfl) ?_
        refine JL.decT rfl rfl (OpP.lss rfl rfl) (by omega) ?_
        refine JL.pure rfl rfl (OpP.pickF rfl rfl) ?_
        refine JL.pure rfl rfl (OpP.move rfl) ?_
        refine JL.skip rfl rfl ?_
        refine JL.skip rfl rfl ?_
        refine JL.skip rfl rfl ?_
        refine JL.skip rfl rfl ?_
        refine JL.skip rfl rfl ?_
        refine JL.skip rfl rfl ?_
        refine JL.skip rfl rfl ?_
        refine JL.pure rfl rfl (OpP.pickT rfl rfl) ?_
        refine JL.nil ?_
        refine J.condT rfl ?_
        refine J.seq ?_
        refine J.region ?_
        refine JL.pure rfl rfl (OpP.move rfl) ?_
        refine JL.pure rfl rfl (OpP.nilCheck rfl) ?_
        refine JL.pure rfl rfl (OpP.fieldAddr rfl) ?_
        refine JL.step rfl rfl (OpW.call (first := []) (captured := []) inferInstance rfl rfl spoilI_ok) ?_; rintro r27 _ ⟨rfl, rfl⟩
        refine JL.nil ?_
        refine J.seq ?_
        refine J.region ?_
        refine JL.pure rfl rfl (OpP.assign rfl) ?_
        refine JL.nil ?_
        refine J.ret1 rfl rfl ?_
        exact ⟨_, ⟨true, _, M, ⟨none, 0, rfl⟩, hM, rfl, rfl⟩, fun _ h => h.own_nil⟩
      · refine J.seq ?_
        refine J.region ?_
        refine JL.pure rfl rfl (OpP.assign rfl) ?_
        refine JL.nil ?_
        refine J.seq ?_
        refine J.seq ?_
        refine J.region ?_
        refine JL.pure rfl rfl (OpP.move rfl) ?_
        refine JL.pure rfl rfl (OpP.nilCheck rfl) ?_
        refine JL.pure rfl rfl (OpP.fieldAddr rfl) ?_
        refine JL.pure rfl rfl (OpP.fieldAddr rfl) ?_
        refine JL.read rfl rfl (OpR.load1 rfl (Cell.row .head rfl)) ?_
        refine JL.pure rfl rfl (OpP.move rfl) ?_
        refine JL.pure rfl rfl (OpP.move rfl) ?_
        refine JL.decF rfl rfl (OpP.lss rfl rfl) (by omega) ?_
        refine JL.pure rfl rfl (OpP.pickF rfl rfl) ?_
        refine JL.pure rfl rfl (OpP.move rfl) ?_
        refine JL.pure rfl rfl (OpP.move rfl) ?_
        refine JL.pure rfl rfl (OpP.move rfl) ?_
        refine JL.pure rfl rfl (OpP.nilCheck rfl) ?_
        refine JL.pure rfl rfl (OpP.fieldAddr rfl) ?_
        refine JL.read rfl rfl (OpR.load1 rfl (Cell.row .head rfl)) ?_
        refine JL.pure rfl rfl (OpP.len rfl rfl) ?_
        refine JL.decT rfl rfl (OpP.gtr rfl rfl) (by omega) ?_
        refine JL.pure rfl rfl (OpP.pickF rfl rfl) ?_
        refine JL.nil ?_
        refine J.condT rfl ?_
        refine J.seq ?_
        refine J.region ?_
        refine JL.pure rfl rfl (OpP.move rfl) ?_
        refine JL.pure rfl rfl (OpP.nilCheck rfl) ?_
        refine JL.pure rfl rfl (OpP.fieldAddr rfl) ?_
        refine JL.step rfl rfl (OpW.call (first := []) (captured := []) inferInstance rfl rfl spoilI_ok) ?_; rintro r27 _ ⟨rfl, rfl⟩
        refine JL.nil ?_
        refine J.seq ?_
        refine J.region ?_
        refine JL.pure rfl rfl (OpP.assign rfl) ?_
        refine JL.nil ?_
        refine J.ret1 rfl rfl ?_
        exact ⟨_, ⟨true, _, M, ⟨none, 0, rfl⟩, hM, rfl, rfl⟩, fun _ h => h.own_nil⟩
/-- Bytes as a number. -/
def nat8 (bs : List UInt8) : Nat := bs.foldl (fun n b => n * 256 + b.toNat) 0
theorem nat8_snoc (bs : List UInt8) (b : UInt8) : nat8 (bs ++ [b]) = nat8 bs * 256 + b.toNat := by rw [nat8, List.foldl_append]; rfl
theorem nat8_lt (bs : List UInt8) : nat8 bs < 256 ^ bs.length := by
  have key : ∀ (bs : List UInt8) (n : Nat), bs.foldl (fun n b => n * 256 + b.toNat) n < (n + 1) * 256 ^ bs.length := by
    intro bs
    induction bs with
    | nil => intro n; simp
    | cons b bs ih =>
      intro n
      have h1 := ih (n * 256 + b.toNat)
      have h2 := b.toNat_lt
      rw [List.foldl_cons, List.length_cons, Nat.pow_succ]
      refine Nat.lt_of_lt_of_le h1 ?_
      rw [Nat.mul_comm (256 ^ bs.length) 256, ← Nat.mul_assoc]
      exact Nat.mul_le_mul_right _ (by omega)
  have := key bs 0
  simpa [nat8] using this
theorem wideI_ok {w0 : World} {F : List HProp} {g size : Nat} {bad : Bool} {v : Value} {M : List UInt8} (hM : M.length ≤ 1000000000) (hs : size ≤ 8) :
    FnO Try.prog w0 50 [.pointer (some ⟨g, 0, none⟩), .int .i64 (size : Nat)] (inL g bad v M F) (fun r l' => ∃ bad' v' M', M'.length ≤ 1000000000 ∧ absO bad' M' = restO (absO bad M) (size : Nat) ∧ r = .int .u64 (nat8 (gotO (absO bad M) (size : Nat)) : Nat) ∧ l' = inL g bad' v' M' F) := by
  refine FnO.weak ?_
  refine FnO.intro (n := 23) Try.func50 rfl rfl rfl ?_
  refine J.lit (.tail .head) fun av cv ev => ?_; subst ev
  refine J.seq ?_
  refine J.region ?_
  refine JL.pure rfl rfl (OpP.assign rfl) ?_
  refine JL.nil ?_
  refine J.seq ?_
  refine J.region ?_
  refine JL.pure rfl rfl (OpP.assign rfl) ?_
  refine JL.nil ?_
  refine J.seq ?_
  refine J.seq ?_
  refine J.region ?_
  refine JL.pure rfl rfl (OpP.move rfl) ?_
  refine JL.pure rfl rfl (OpP.move rfl) ?_
  refine JL.step rfl rfl (OpW.call (first := []) (captured := []) inferInstance rfl rfl (raw_ok hM)) ?_; rintro r10 _ ⟨bad', ⟨v', ⟨M', ⟨⟨a, ⟨c, rfl⟩⟩, ⟨h10, ⟨h101, rfl⟩⟩⟩⟩⟩⟩
  refine JL.lit (.tail (.tail .head)) fun av' cv' ev' => ?_; subst ev'
  refine JL.pure rfl rfl (OpP.len rfl rfl) ?_
  refine JL.pure rfl rfl (OpP.move rfl) ?_
  refine JL.nil ?_
  refine J.block ?_
  have hG : (gotO (absO bad M) (size : Nat)).length ≤ 8 := by
    unfold gotO
    split
    · exact Nat.zero_le _
    · split
      · rw [List.length_take]; omega
      · exact Nat.zero_le _
  generalize gotO (absO bad M) (size : Nat) = G at hG
  refine J.loopI (fun i : Nat => G.length - i) (fun i => i ≤ G.length) (fun i => [(12, .int .i64 (i : Nat)), (11, .int .i64 (G.length : Nat)), (10, .slice a G.length c), (5, .int .u64 (nat8 (G.take i) : Nat))])
    (fun _ => own 5 1 (.slice a G.length c) G.length (bcells G) :: inL g bad' (.slice av' M'.length cv') M' F) 0 (Nat.zero_le _) (by repeat (first | exact SubEnv.nil | refine SubEnv.cons (by first | rfl | exact congrArg (fun z => some (Value.int .i64 z)) (by omega) | (simp; done)) ?_)) (fun _ h => h) (fun i hi back => ?_)
  dsimp only at hi back ⊢
  by_cases hlt : i < G.length
  · obtain ⟨x, hx⟩ : ∃ x, G[i]? = some x := ⟨_, List.getElem?_eq_getElem hlt⟩
    have hbi : (bcells G)[i]? = some (u8c x) := by rw [bcells_get, hx]; rfl
    have hxb := x.toNat_lt
    have hnl := nat8_lt (G.take i)
    rw [List.length_take, Nat.min_eq_left hi] at hnl
    have hn7 : nat8 (G.take i) < 72057594037927936 := Nat.lt_of_lt_of_le hnl (by rw [show (72057594037927936 : Nat) = 256 ^ 7 from rfl]; exact Nat.pow_le_pow_right (by omega) (by omega))
    have hsn := nat8_snoc (G.take i) x
    rw [show G.take i ++ [x] = G.take (i + 1) by rw [List.take_add_one, hx]; rfl] at hsn
    generalize nat8 (G.take i) = N at hn7 hsn
    refine J.seq ?_
    refine J.region ?_
    refine JL.decT rfl rfl (OpP.lss rfl rfl) (by omega) ?_
    refine JL.nil ?_
    refine J.seq ?_
    refine J.condT rfl ?_
    refine J.skip ?_
    refine J.seq ?_
    refine J.block ?_
    refine J.seq ?_
    refine J.region ?_
    refine JL.ownSome .head (by omega) fun ga pa ea ka => ?_; subst ea
    refine JL.pure rfl rfl (OpP.indexAddr rfl rfl (by omega) (by omega)) ?_
    refine JL.read rfl rfl (OpR.load1 rfl (by apply Cells.cell (hv := hbi) (Cells.own .head) (fun _ h => h); omega)) ?_
    refine JL.pure rfl rfl (OpP.assign rfl) ?_
    refine JL.nil ?_
    refine J.region ?_
    refine JL.pure rfl rfl (OpP.move rfl) ?_
    refine JL.pure rfl rfl (OpP.shl8 rfl rfl (by omega)) ?_
    refine JL.pure rfl rfl (OpP.move rfl) ?_
    refine JL.pure rfl rfl (OpP.convI rfl (by simp [IntKind.min, IntKind.max, IntKind.signed, IntKind.bits] <;> omega) (by simp [IntKind.min, IntKind.max, IntKind.signed, IntKind.bits] <;> omega)) ?_
    refine JL.pure rfl rfl (OpP.or8 rfl rfl (by omega) (by omega)) ?_
    refine JL.pure rfl rfl (OpP.assign rfl) ?_
    refine JL.nil ?_
    refine J.inBlock ?_
    refine J.region ?_
    refine JL.pure rfl rfl (OpP.addI rfl rfl (by omega) (by omega)) ?_
    refine JL.pure rfl rfl (OpP.move rfl) ?_
    refine JL.nil ?_
    rw [← hsn]
    exact back (i + 1) (by omega) (by omega) (by repeat (first | exact SubEnv.nil | refine SubEnv.cons (by first | rfl | exact congrArg (fun z => some (Value.int .i64 z)) (by omega) | (simp; done)) ?_)) (fun _ h => h)
  · have : i = G.length := by omega
    subst this
    rw [List.take_length]
    refine J.seq ?_
    refine J.region ?_
    refine JL.decF rfl rfl (OpP.lss rfl rfl) (by omega) ?_
    refine JL.nil ?_
    refine J.seq ?_
    refine J.condF rfl ?_
    refine J.exit rfl ?_
    refine J.seq ?_
    refine J.region ?_
    refine JL.pure rfl rfl (OpP.move rfl) ?_
    refine JL.pure rfl rfl (OpP.assign rfl) ?_
    refine JL.nil ?_
    refine J.ret1 rfl rfl ?_
    exact ⟨_, ⟨bad', _, M', h10, h101, rfl, rfl⟩, fun _ h => h.tail⟩
end Go.Proofs.E

-- seat e
namespace Go.Proofs.E
open Go Go.Gp Go.RowKit

/-- What a function that reads does: the rest, and what is told. -/
abbrev Took (w0 : World) (f : FuncId) (args : List Value) (g : Nat) (bad : Bool) (v : Value) (M : List UInt8) (F : List HProp) (o : Option (List UInt8)) (u : Value) : Prop :=
  FnO Try.prog w0 f args (inL g bad v M F) (fun r l' => ∃ bad' v' M', M'.length ≤ 1000000000 ∧ absO bad' M' = o ∧ r = u ∧ l' = inL g bad' v' M' F)
def numI (o : Option (List UInt8)) (size : Nat) : Nat := nat8 (gotO o (size : Nat))
theorem gotO_le {o : Option (List UInt8)} {n : Nat} : (gotO o (n : Nat)).length ≤ n := by
  unfold gotO
  split
  · exact Nat.zero_le _
  · split
    · rw [List.length_take]; omega
    · exact Nat.zero_le _
theorem numI_lt {o : Option (List UInt8)} {n : Nat} : numI o n < 256 ^ n := Nat.lt_of_lt_of_le (nat8_lt _) (Nat.pow_le_pow_right (by omega) gotO_le)
theorem wide1_ok {w0 : World} {F : List HProp} {g : Nat} {bad : Bool} {v : Value} {M : List UInt8} (hM : M.length ≤ 1000000000) : Took w0 50 [.pointer (some ⟨g, 0, none⟩), .int .i64 1] g bad v M F (restO (absO bad M) 1) (.int .u64 (numI (absO bad M) 1 : Nat)) := wideI_ok (size := 1) hM (by omega)
theorem wide2_ok {w0 : World} {F : List HProp} {g : Nat} {bad : Bool} {v : Value} {M : List UInt8} (hM : M.length ≤ 1000000000) : Took w0 50 [.pointer (some ⟨g, 0, none⟩), .int .i64 2] g bad v M F (restO (absO bad M) 2) (.int .u64 (numI (absO bad M) 2 : Nat)) := wideI_ok (size := 2) hM (by omega)
theorem wide8I_ok {w0 : World} {F : List HProp} {g : Nat} {bad : Bool} {v : Value} {M : List UInt8} (hM : M.length ≤ 1000000000) : Took w0 50 [.pointer (some ⟨g, 0, none⟩), .int .i64 8] g bad v M F (restO (absO bad M) 8) (.int .u64 (numI (absO bad M) 8 : Nat)) := wideI_ok (size := 8) hM (by omega)
theorem inU8_ok {w0 : World} {F : List HProp} {g : Nat} {bad : Bool} {v : Value} {M : List UInt8} (hM : M.length ≤ 1000000000) : Took w0 15 [.pointer (some ⟨g, 0, none⟩)] g bad v M F (restO (absO bad M) 1) (.int .i64 (numI (absO bad M) 1 : Nat)) := by
  have hb : numI (absO bad M) 1 < 256 := numI_lt
  refine FnO.intro (n := 6) Try.func15 rfl rfl rfl ?_
  refine J.lit (.tail .head) fun av cv ev => ?_; subst ev
  refine J.seq ?_
  refine J.region ?_
  refine JL.pure rfl rfl (OpP.assign rfl) ?_
  refine JL.nil ?_
  refine J.seq ?_
  refine J.region ?_
  refine JL.pure rfl rfl (OpP.move rfl) ?_
  refine JL.step rfl rfl (OpW.call (first := []) (captured := []) inferInstance rfl rfl (wide1_ok hM)) ?_; rintro r4 _ ⟨bad', ⟨v', ⟨M', ⟨h4, ⟨h41, ⟨rfl, rfl⟩⟩⟩⟩⟩⟩
  refine JL.lit (.tail .head) fun av' cv' ev' => ?_; subst ev'
  refine JL.pure rfl rfl (OpP.convI64 rfl (by omega) (by omega)) ?_
  refine JL.pure rfl rfl (OpP.assign rfl) ?_
  refine JL.nil ?_
  refine J.ret1 rfl rfl ?_
  exact ⟨bad', _, M', h4, h41, rfl, rfl⟩
theorem inU16_ok {w0 : World} {F : List HProp} {g : Nat} {bad : Bool} {v : Value} {M : List UInt8} (hM : M.length ≤ 1000000000) : Took w0 16 [.pointer (some ⟨g, 0, none⟩)] g bad v M F (restO (absO bad M) 2) (.int .i64 (numI (absO bad M) 2 : Nat)) := by
  have hb : numI (absO bad M) 2 < 65536 := numI_lt
  refine FnO.intro (n := 6) Try.func16 rfl rfl rfl ?_
  refine J.lit (.tail .head) fun av cv ev => ?_; subst ev
  refine J.seq ?_
  refine J.region ?_
  refine JL.pure rfl rfl (OpP.assign rfl) ?_
  refine JL.nil ?_
  refine J.seq ?_
  refine J.region ?_
  refine JL.pure rfl rfl (OpP.move rfl) ?_
  refine JL.step rfl rfl (OpW.call (first := []) (captured := []) inferInstance rfl rfl (wide2_ok hM)) ?_; rintro r4 _ ⟨bad', ⟨v', ⟨M', ⟨h4, ⟨h41, ⟨rfl, rfl⟩⟩⟩⟩⟩⟩
  refine JL.lit (.tail .head) fun av' cv' ev' => ?_; subst ev'
  refine JL.pure rfl rfl (OpP.convI64 rfl (by omega) (by omega)) ?_
  refine JL.pure rfl rfl (OpP.assign rfl) ?_
  refine JL.nil ?_
  refine J.ret1 rfl rfl ?_
  exact ⟨bad', _, M', h4, h41, rfl, rfl⟩
def i64 (n : Nat) : Int := IntKind.i64.wrap (n : Nat)
theorem inI64_ok {w0 : World} {F : List HProp} {g : Nat} {bad : Bool} {v : Value} {M : List UInt8} (hM : M.length ≤ 1000000000) : Took w0 18 [.pointer (some ⟨g, 0, none⟩)] g bad v M F (restO (absO bad M) 8) (.int .i64 (i64 (numI (absO bad M) 8))) := by
  refine FnO.intro (n := 6) Try.func18 rfl rfl rfl ?_
  refine J.lit (.tail .head) fun av cv ev => ?_; subst ev
  refine J.seq ?_
  refine J.region ?_
  refine JL.pure rfl rfl (OpP.assign rfl) ?_
  refine JL.nil ?_
  refine J.seq ?_
  refine J.region ?_
  refine JL.pure rfl rfl (OpP.move rfl) ?_
  refine JL.step rfl rfl (OpW.call (first := []) (captured := []) inferInstance rfl rfl (wide8I_ok hM)) ?_; rintro r4 _ ⟨bad', ⟨v', ⟨M', ⟨h4, ⟨h41, ⟨rfl, rfl⟩⟩⟩⟩⟩⟩
  refine JL.lit (.tail .head) fun av' cv' ev' => ?_; subst ev'
  refine JL.pure rfl rfl (OpP.conv rfl) ?_
  refine JL.pure rfl rfl (OpP.assign rfl) ?_
  refine JL.nil ?_
  refine J.ret1 rfl rfl ?_
  exact ⟨bad', _, M', h4, h41, rfl, rfl⟩
def textR (o : Option (List UInt8)) (most : Int) : Option (List UInt8) := if most < (numI o 2 : Nat) ∨ 4096 < numI o 2 then none else restO (restO o 2) (numI o 2 : Nat)
def textV (o : Option (List UInt8)) (most : Int) : List UInt8 := if most < (numI o 2 : Nat) ∨ 4096 < numI o 2 then [] else gotO (restO o 2) (numI o 2 : Nat)
theorem inText_ok {w0 : World} {F : List HProp} {g : Nat} {most : Int} {bad : Bool} {v : Value} {M : List UInt8} (hM : M.length ≤ 1000000000) : Took w0 20 [.pointer (some ⟨g, 0, none⟩), .int .i64 most] g bad v M F (textR (absO bad M) most) (.string (strB (textV (absO bad M) most))) := by
  refine FnO.weak ?_
  refine FnO.intro (n := 23) Try.func20 rfl rfl rfl ?_
  refine J.lit (.tail .head) fun av cv ev => ?_; subst ev
  refine J.seq ?_
  refine J.region ?_
  refine JL.pure rfl rfl (OpP.assign rfl) ?_
  refine JL.nil ?_
  refine J.seq ?_
  refine J.region ?_
  refine JL.pure rfl rfl (OpP.move rfl) ?_
  refine JL.step rfl rfl (OpW.call (first := []) (captured := []) inferInstance rfl rfl (inU16_ok hM)) ?_; rintro r7 _ ⟨bad', ⟨v', ⟨M', ⟨h7, ⟨h71, ⟨rfl, rfl⟩⟩⟩⟩⟩⟩
  refine JL.lit (.tail .head) fun av' cv' ev' => ?_; subst ev'
  refine JL.pure rfl rfl (OpP.assign rfl) ?_
  refine JL.nil ?_
  refine J.seq ?_
  refine J.seq ?_
  refine J.region ?_
  refine JL.pure rfl rfl (OpP.move rfl) ?_
  refine JL.pure rfl rfl (OpP.move rfl) ?_
  refine JL.dec rfl rfl (OpP.gtr rfl rfl) (fun h10 => ?_) (fun h10 => ?_)
  focus
    refine JL.pure rfl rfl (OpP.move rfl) ?_
    refine JL.skip rfl rfl ?_
    refine JL.skip rfl rfl ?_
    refine JL.pure rfl rfl (OpP.pickT rfl rfl) ?_
    refine JL.nil ?_
    refine J.condT rfl ?_
    refine J.seq ?_
    refine J.region ?_
    refine JL.pure rfl rfl (OpP.move rfl) ?_
    refine JL.pure rfl rfl (OpP.nilCheck rfl) ?_
    refine JL.pure rfl rfl (OpP.fieldAddr rfl) ?_
    refine JL.step rfl rfl (OpW.call (first := []) (captured := []) inferInstance rfl rfl spoilI_ok) ?_; rintro r18 _ ⟨rfl, rfl⟩
    refine JL.nil ?_
    refine J.seq ?_
    refine J.region ?_
    refine JL.pure rfl rfl (OpP.assign rfl) ?_
    refine JL.nil ?_
    refine J.ret1 rfl rfl ?_
  rotate_left 1
  focus
    refine JL.pure rfl rfl (OpP.move rfl) ?_
    refine JL.pure rfl rfl (OpP.move rfl) ?_
    refine JL.dec rfl rfl (OpP.gtr rfl rfl) (fun h13 => ?_) (fun h13 => ?_)
    focus
      refine JL.pure rfl rfl (OpP.pickF rfl rfl) ?_
      refine JL.nil ?_
      refine J.condT rfl ?_
      refine J.seq ?_
      refine J.region ?_
      refine JL.pure rfl rfl (OpP.move rfl) ?_
      refine JL.pure rfl rfl (OpP.nilCheck rfl) ?_
      refine JL.pure rfl rfl (OpP.fieldAddr rfl) ?_
      refine JL.step rfl rfl (OpW.call (first := []) (captured := []) inferInstance rfl rfl spoilI_ok) ?_; rintro r18 _ ⟨rfl, rfl⟩
      refine JL.nil ?_
      refine J.seq ?_
      refine J.region ?_
      refine JL.pure rfl rfl (OpP.assign rfl) ?_
      refine JL.nil ?_
      refine J.ret1 rfl rfl ?_
    rotate_left 1
    focus
      refine JL.pure rfl rfl (OpP.pickF rfl rfl) ?_
      refine JL.nil ?_
      refine J.condF rfl ?_
      refine J.skip ?_
      refine J.seq ?_
      refine J.region ?_
      refine JL.pure rfl rfl (OpP.move rfl) ?_
      refine JL.pure rfl rfl (OpP.move rfl) ?_
      refine JL.step rfl rfl (OpW.call (first := []) (captured := []) inferInstance rfl rfl (raw_ok (by assumption))) ?_; rintro r21 _ ⟨bad'1, ⟨v', ⟨M'1, ⟨⟨a, ⟨c, rfl⟩⟩, ⟨h21, ⟨h211, rfl⟩⟩⟩⟩⟩⟩
      refine JL.lit (.tail (.tail .head)) fun av' cv' ev' => ?_; subst ev'
      refine JL.read rfl rfl (OpR.rdStr (by rfl) (RdO.own .head) (by rfl)) ?_
      refine JL.pure rfl rfl (OpP.assign rfl) ?_
      refine JL.nil ?_
      refine J.ret1 rfl rfl ?_
    rotate_left 1
  rotate_left 2
  · exact ⟨_, ⟨true, _, M', h7, by rw [textR, if_pos (.inl h10)]; rfl, by rw [textV, if_pos (.inl h10)]; rfl, rfl⟩, fun _ h => h⟩
  · exact ⟨_, ⟨true, _, M', h7, by rw [textR, if_pos (.inr (by omega))]; rfl, by rw [textV, if_pos (.inr (by omega))]; rfl, rfl⟩, fun _ h => h⟩
  · exact ⟨_, ⟨bad'1, _, M'1, h21, by rw [textR, if_neg (by omega), h211, h71], by rw [textV, if_neg (by omega), h71], rfl⟩, fun _ h => h.tail⟩
/-! A value that is read, of a kind that is no bag. -/
def plainR (o : Option (List UInt8)) (k : Int) : Option (List UInt8) := if k = 0 then o else if k = 1 then restO o 1 else if k = 2 ∨ k = 4 then restO o 8 else if k = 3 then textR o 64 else none
def plainI (o : Option (List UInt8)) (k : Int) : Int := if k = 1 then (numI o 1 : Nat) else if k = 2 ∨ k = 4 then i64 (numI o 8) else 0
def plainS (o : Option (List UInt8)) (k : Int) : List UInt8 := if k = 3 then textV o 64 else []
theorem inPlain_ok {w0 : World} {F : List HProp} {g : Nat} {k : Int} {bad : Bool} {v : Value} {M : List UInt8} (hM : M.length ≤ 1000000000) : Took w0 52 [.pointer (some ⟨g, 0, none⟩), .int .i64 k] g bad v M F (plainR (absO bad M) k) (.agg (vcl k (plainI (absO bad M) k) (plainS (absO bad M) k) (.slice none 0 0)).toArray) := by
  refine FnO.weak ?_
  refine FnO.intro (n := 32) Try.func52 rfl rfl rfl ?_
  refine J.lit (.tail .head) fun av cv ev => ?_; subst ev
  refine J.seq ?_
  refine J.region ?_
  refine JL.mem rfl rfl OpM.alloc ?_; rintro _ _ ⟨b4, rfl, rfl⟩
  refine JL.nil ?_
  refine J.seq ?_
  refine J.region ?_
  refine JL.pure rfl rfl (OpP.move rfl) ?_
  refine JL.pure rfl rfl (OpP.build rfl (by (repeat (first | exact Fills.nil | (apply Fills.cons rfl rfl rfl; (case' hs => ((repeat (first | exact Spl.nil | apply Spl.here | apply Spl.there)); done))))))) ?_
  refine JL.mem rfl rfl OpM.alloc ?_; rintro _ _ ⟨b5, rfl, rfl⟩
  refine JL.mem0 rfl (by apply OpM.storeN rfl rfl (by rfl) (oneC rfl (oneC rfl (oneC rfl (one1 rfl)))); (case' hu => exact .head); (case' hs => exact (.here (.here (.here (.here .nil))))); done) ?_; rintro _ _ ⟨rfl, rfl⟩
  refine JL.nil ?_
  refine J.seq ?_
  refine J.seq ?_
  refine J.region ?_
  refine JL.pure rfl rfl (OpP.move rfl) ?_
  refine JL.nil ?_
  refine J.block ?_
  refine J.seq ?_
  refine J.region ?_
  refine JL.dec rfl rfl (OpP.eql rfl rfl) (fun h14 => ?_) (fun h14 => ?_)
  focus
    refine JL.pure rfl rfl (OpP.assign rfl) ?_
    refine JL.nil ?_
    refine J.condT rfl ?_
    refine J.skip ?_
    refine J.inBlock ?_
    refine J.seq ?_
    refine J.region ?_
    refine JL.read rfl rfl (OpR.loadN rfl (Cells.full .head) rfl) ?_
    refine JL.mem0 rfl (by apply OpM.storeN rfl rfl (by rfl) (oneC rfl (oneC rfl (oneC rfl (one1 rfl)))); (case' hu => exact (.tail .head)); (case' hs => exact (.here (.here (.here (.here .nil))))); done) ?_; rintro _ _ ⟨rfl, rfl⟩
    refine JL.nil ?_
    refine J.retC rfl rfl (by apply Cells.full; (with_reducible repeat (first | exact .head | apply Has.tail))) (by first | (rw [List.length_append, hdC_len (by first | assumption | exact Go.Proofs.B.shaB_length _ _ | solve_by_elim)]; rfl) | exact hdC_len (by first | assumption | exact Go.Proofs.B.shaB_length _ _ | solve_by_elim) | (rw [bcells_length]; first | assumption | exact Go.Proofs.B.shaB_length _ _ | solve_by_elim) | exact fc_length _ _ | exact fB_length _ _ | rfl) ?_
  rotate_left 1
  focus
    refine JL.pure rfl rfl (OpP.assign rfl) ?_
    refine JL.nil ?_
    refine J.condF rfl ?_
    refine J.seq ?_
    refine J.region ?_
    refine JL.dec rfl rfl (OpP.eql rfl rfl) (fun h16 => ?_) (fun h16 => ?_)
    focus
      refine JL.pure rfl rfl (OpP.assign rfl) ?_
      refine JL.nil ?_
      refine J.condT rfl ?_
      refine J.region ?_
      refine JL.pure rfl rfl (OpP.move rfl) ?_
      refine JL.f3 ?_; refine JL.f3 ?_; refine JL.step rfl rfl (OpW.call (first := []) (captured := []) inferInstance rfl rfl (inU8_ok hM)) ?_; rintro r18 _ ⟨bad', ⟨v', ⟨M', ⟨h18, ⟨h181, ⟨rfl, rfl⟩⟩⟩⟩⟩⟩
      refine JL.lit (.tail .head) fun av' cv' ev' => ?_; subst ev'
      refine JL.pure rfl rfl (OpP.fieldAddr rfl) ?_
      refine JL.mem0 rfl (by apply OpM.store1 rfl rfl rfl; (case' hu => exact (.tail (.tail .head))); (case' hs => exact (.there (.here .nil))); done) ?_; rintro _ _ ⟨rfl, rfl⟩
      refine JL.nil ?_
      refine J.inBlock ?_
      refine J.seq ?_
      refine J.region ?_
      refine JL.read rfl rfl (OpR.loadN rfl (Cells.full (.tail (.tail .head))) rfl) ?_
      refine JL.mem0 rfl (by apply OpM.storeN rfl rfl (by rfl) (oneC rfl (oneC rfl (oneC rfl (one1 rfl)))); (case' hu => exact (.tail (.tail (.tail .head)))); (case' hs => exact (.here (.here (.here (.here .nil))))); done) ?_; rintro _ _ ⟨rfl, rfl⟩
      refine JL.nil ?_
      refine J.retC rfl rfl (by apply Cells.full; (with_reducible repeat (first | exact .head | apply Has.tail))) (by first | (rw [List.length_append, hdC_len (by first | assumption | exact Go.Proofs.B.shaB_length _ _ | solve_by_elim)]; rfl) | exact hdC_len (by first | assumption | exact Go.Proofs.B.shaB_length _ _ | solve_by_elim) | (rw [bcells_length]; first | assumption | exact Go.Proofs.B.shaB_length _ _ | solve_by_elim) | exact fc_length _ _ | exact fB_length _ _ | rfl) ?_
    rotate_left 1
    focus
      refine JL.pure rfl rfl (OpP.assign rfl) ?_
      refine JL.nil ?_
      refine J.condF rfl ?_
      refine J.seq ?_
      refine J.seq ?_
      refine J.region ?_
      refine JL.dec rfl rfl (OpP.eql rfl rfl) (fun h21 => ?_) (fun h21 => ?_)
      focus
        refine JL.pure rfl rfl (OpP.assign rfl) ?_
        refine JL.nil ?_
        refine J.condT rfl ?_
        refine J.skip ?_
        refine J.condT rfl ?_
        refine J.region ?_
        refine JL.pure rfl rfl (OpP.move rfl) ?_
        refine JL.f3 ?_; refine JL.f3 ?_; refine JL.step rfl rfl (OpW.call (first := []) (captured := []) inferInstance rfl rfl (inI64_ok hM)) ?_; rintro r24 _ ⟨bad', ⟨v', ⟨M', ⟨h24, ⟨h241, ⟨rfl, rfl⟩⟩⟩⟩⟩⟩
        refine JL.lit (.tail .head) fun av' cv' ev' => ?_; subst ev'
        refine JL.pure rfl rfl (OpP.fieldAddr rfl) ?_
        refine JL.mem0 rfl (by apply OpM.store1 rfl rfl rfl; (case' hu => exact (.tail (.tail .head))); (case' hs => exact (.there (.here .nil))); done) ?_; rintro _ _ ⟨rfl, rfl⟩
        refine JL.nil ?_
        refine J.inBlock ?_
        refine J.seq ?_
        refine J.region ?_
        refine JL.read rfl rfl (OpR.loadN rfl (Cells.full (.tail (.tail .head))) rfl) ?_
        refine JL.mem0 rfl (by apply OpM.storeN rfl rfl (by rfl) (oneC rfl (oneC rfl (oneC rfl (one1 rfl)))); (case' hu => exact (.tail (.tail (.tail .head)))); (case' hs => exact (.here (.here (.here (.here .nil))))); done) ?_; rintro _ _ ⟨rfl, rfl⟩
        refine JL.nil ?_
        refine J.retC rfl rfl (by apply Cells.full; (with_reducible repeat (first | exact .head | apply Has.tail))) (by first | (rw [List.length_append, hdC_len (by first | assumption | exact Go.Proofs.B.shaB_length _ _ | solve_by_elim)]; rfl) | exact hdC_len (by first | assumption | exact Go.Proofs.B.shaB_length _ _ | solve_by_elim) | (rw [bcells_length]; first | assumption | exact Go.Proofs.B.shaB_length _ _ | solve_by_elim) | exact fc_length _ _ | exact fB_length _ _ | rfl) ?_
      rotate_left 1
      focus
        refine JL.pure rfl rfl (OpP.assign rfl) ?_
        refine JL.nil ?_
        refine J.condF rfl ?_
        refine J.region ?_
        refine JL.dec rfl rfl (OpP.eql rfl rfl) (fun h22 => ?_) (fun h22 => ?_)
        focus
          refine JL.pure rfl rfl (OpP.assign rfl) ?_
          refine JL.nil ?_
          refine J.condT rfl ?_
          refine J.region ?_
          refine JL.pure rfl rfl (OpP.move rfl) ?_
          refine JL.f3 ?_; refine JL.f3 ?_; refine JL.step rfl rfl (OpW.call (first := []) (captured := []) inferInstance rfl rfl (inI64_ok hM)) ?_; rintro r24 _ ⟨bad', ⟨v', ⟨M', ⟨h24, ⟨h241, ⟨rfl, rfl⟩⟩⟩⟩⟩⟩
          refine JL.lit (.tail .head) fun av' cv' ev' => ?_; subst ev'
          refine JL.pure rfl rfl (OpP.fieldAddr rfl) ?_
          refine JL.mem0 rfl (by apply OpM.store1 rfl rfl rfl; (case' hu => exact (.tail (.tail .head))); (case' hs => exact (.there (.here .nil))); done) ?_; rintro _ _ ⟨rfl, rfl⟩
          refine JL.nil ?_
          refine J.inBlock ?_
          refine J.seq ?_
          refine J.region ?_
          refine JL.read rfl rfl (OpR.loadN rfl (Cells.full (.tail (.tail .head))) rfl) ?_
          refine JL.mem0 rfl (by apply OpM.storeN rfl rfl (by rfl) (oneC rfl (oneC rfl (oneC rfl (one1 rfl)))); (case' hu => exact (.tail (.tail (.tail .head)))); (case' hs => exact (.here (.here (.here (.here .nil))))); done) ?_; rintro _ _ ⟨rfl, rfl⟩
          refine JL.nil ?_
          refine J.retC rfl rfl (by apply Cells.full; (with_reducible repeat (first | exact .head | apply Has.tail))) (by first | (rw [List.length_append, hdC_len (by first | assumption | exact Go.Proofs.B.shaB_length _ _ | solve_by_elim)]; rfl) | exact hdC_len (by first | assumption | exact Go.Proofs.B.shaB_length _ _ | solve_by_elim) | (rw [bcells_length]; first | assumption | exact Go.Proofs.B.shaB_length _ _ | solve_by_elim) | exact fc_length _ _ | exact fB_length _ _ | rfl) ?_
        rotate_left 1
        focus
          refine JL.pure rfl rfl (OpP.assign rfl) ?_
          refine JL.nil ?_
          refine J.condF rfl ?_
          refine J.seq ?_
          refine J.region ?_
          refine JL.dec rfl rfl (OpP.eql rfl rfl) (fun h27 => ?_) (fun h27 => ?_)
          focus
            refine JL.pure rfl rfl (OpP.assign rfl) ?_
            refine JL.nil ?_
            refine J.condT rfl ?_
            refine J.region ?_
            refine JL.pure rfl rfl (OpP.move rfl) ?_
            refine JL.f3 ?_; refine JL.f3 ?_; refine JL.step rfl rfl (OpW.call (first := []) (captured := []) inferInstance rfl rfl (inText_ok hM)) ?_; rintro r29 _ ⟨bad', ⟨v', ⟨M', ⟨h29, ⟨h291, ⟨rfl, rfl⟩⟩⟩⟩⟩⟩
            refine JL.lit (.tail .head) fun av' cv' ev' => ?_; subst ev'
            refine JL.pure rfl rfl (OpP.fieldAddr rfl) ?_
            refine JL.mem0 rfl (by apply OpM.store1 rfl rfl rfl; (case' hu => exact (.tail (.tail .head))); (case' hs => exact (.there (.there (.here .nil)))); done) ?_; rintro _ _ ⟨rfl, rfl⟩
            refine JL.nil ?_
            refine J.inBlock ?_
            refine J.seq ?_
            refine J.region ?_
            refine JL.read rfl rfl (OpR.loadN rfl (Cells.full (.tail (.tail .head))) rfl) ?_
            refine JL.mem0 rfl (by apply OpM.storeN rfl rfl (by rfl) (oneC rfl (oneC rfl (oneC rfl (one1 rfl)))); (case' hu => exact (.tail (.tail (.tail .head)))); (case' hs => exact (.here (.here (.here (.here .nil))))); done) ?_; rintro _ _ ⟨rfl, rfl⟩
            refine JL.nil ?_
            refine J.retC rfl rfl (by apply Cells.full; (with_reducible repeat (first | exact .head | apply Has.tail))) (by first | (rw [List.length_append, hdC_len (by first | assumption | exact Go.Proofs.B.shaB_length _ _ | solve_by_elim)]; rfl) | exact hdC_len (by first | assumption | exact Go.Proofs.B.shaB_length _ _ | solve_by_elim) | (rw [bcells_length]; first | assumption | exact Go.Proofs.B.shaB_length _ _ | solve_by_elim) | exact fc_length _ _ | exact fB_length _ _ | rfl) ?_
          rotate_left 1
          focus
            refine JL.pure rfl rfl (OpP.assign rfl) ?_
            refine JL.nil ?_
            refine J.condF rfl ?_
            refine J.region ?_
            refine JL.pure rfl rfl (OpP.move rfl) ?_
            refine JL.pure rfl rfl (OpP.nilCheck rfl) ?_
            refine JL.pure rfl rfl (OpP.fieldAddr rfl) ?_
            refine JL.f2 ?_; refine JL.step rfl rfl (OpW.call (first := []) (captured := []) inferInstance rfl rfl spoilI_ok) ?_; rintro r12 _ ⟨rfl, rfl⟩
            refine JL.nil ?_
            refine J.inBlock ?_
            refine J.seq ?_
            refine J.region ?_
            refine JL.read rfl rfl (OpR.loadN rfl (Cells.full (.tail .head)) rfl) ?_
            refine JL.mem0 rfl (by apply OpM.storeN rfl rfl (by rfl) (oneC rfl (oneC rfl (oneC rfl (one1 rfl)))); (case' hu => exact (.tail (.tail .head))); (case' hs => exact (.here (.here (.here (.here .nil))))); done) ?_; rintro _ _ ⟨rfl, rfl⟩
            refine JL.nil ?_
            refine J.retC rfl rfl (by apply Cells.full; (with_reducible repeat (first | exact .head | apply Has.tail))) (by first | (rw [List.length_append, hdC_len (by first | assumption | exact Go.Proofs.B.shaB_length _ _ | solve_by_elim)]; rfl) | exact hdC_len (by first | assumption | exact Go.Proofs.B.shaB_length _ _ | solve_by_elim) | (rw [bcells_length]; first | assumption | exact Go.Proofs.B.shaB_length _ _ | solve_by_elim) | exact fc_length _ _ | exact fB_length _ _ | rfl) ?_
          rotate_left 1
        rotate_left 2
      rotate_left 3
    rotate_left 4
  rotate_left 5
  · subst h14
    exact ⟨_, ⟨bad, _, M, hM, by rw [show plainR (absO bad M) _ = absO bad M by simp [plainR]], by rw [show plainI (absO bad M) _ = 0 by simp [plainI], show plainS (absO bad M) _ = [] by simp [plainS]]; rfl, rfl⟩, fun _ h => Own.pick (pre := [_, _, _, _]) [2, 3] rfl h⟩
  · subst h16
    exact ⟨_, ⟨bad', _, M', h18, by rw [show plainR (absO bad M) _ = restO (absO bad M) 1 by simp [plainR]]; exact h181, by rw [show plainI (absO bad M) _ = ((numI (absO bad M) 1 : Nat) : Int) by simp [plainI], show plainS (absO bad M) _ = [] by simp [plainS]]; rfl, rfl⟩, fun _ h => Own.pick (pre := [_, _, _, _]) [0, 1] rfl h⟩
  · subst h21
    exact ⟨_, ⟨bad', _, M', h24, by rw [show plainR (absO bad M) _ = restO (absO bad M) 8 by simp [plainR]]; exact h241, by rw [show plainI (absO bad M) _ = i64 (numI (absO bad M) 8) by simp [plainI], show plainS (absO bad M) _ = [] by simp [plainS]]; rfl, rfl⟩, fun _ h => Own.pick (pre := [_, _, _, _]) [0, 1] rfl h⟩
  · subst h22
    exact ⟨_, ⟨bad', _, M', h24, by rw [show plainR (absO bad M) _ = restO (absO bad M) 8 by simp [plainR]]; exact h241, by rw [show plainI (absO bad M) _ = i64 (numI (absO bad M) 8) by simp [plainI], show plainS (absO bad M) _ = [] by simp [plainS]]; rfl, rfl⟩, fun _ h => Own.pick (pre := [_, _, _, _]) [0, 1] rfl h⟩
  · subst h27
    exact ⟨_, ⟨bad', _, M', h29, by rw [show plainR (absO bad M) _ = textR (absO bad M) 64 by simp [plainR]]; exact h291, by rw [show plainI (absO bad M) _ = 0 by simp [plainI], show plainS (absO bad M) _ = textV (absO bad M) 64 by simp [plainS]], rfl⟩, fun _ h => Own.pick (pre := [_, _, _, _]) [0, 1] rfl h⟩
  · exact ⟨_, ⟨true, _, M, hM, by rw [plainR, if_neg h14, if_neg h16, if_neg (by omega), if_neg h27]; rfl, by rw [plainI, if_neg h16, if_neg (by omega), plainS, if_neg h27]; rfl, rfl⟩, fun _ h => Own.pick (pre := [_, _, _, _]) [0, 3] rfl h⟩
end Go.Proofs.E

-- seat e
namespace Go.Proofs.E
open Go Go.Gp Go.RowKit

/-! A value that is read, by definition. -/
abbrev Pl := Int × Int × List UInt8
def elR (o : Option (List UInt8)) : Option (List UInt8) := plainR (restO o 1) (numI o 1 : Nat)
def elV (o : Option (List UInt8)) : Pl := ((numI o 1 : Nat), plainI (restO o 1) (numI o 1 : Nat), plainS (restO o 1) (numI o 1 : Nat))
def lp : Nat → Option (List UInt8) → Option (List UInt8) × List Pl
  | 0, o => (o, [])
  | _ + 1, none => (none, [])
  | m + 1, some M => ((lp m (elR (some M))).1, elV (some M) :: (lp m (elR (some M))).2)
theorem lp_none : ∀ m, lp m none = (none, [])
  | 0 => rfl
  | _ + 1 => rfl
def elP (p : Pl) : El := ⟨p.1, p.2.1, p.2.2, none, 0, 0⟩
theorem textV_le {o : Option (List UInt8)} {n : Int} : (textV o n).length ≤ 1000000000 := by
  unfold textV
  split
  · exact Nat.zero_le _
  · have := gotO_le (o := restO o 2) (n := numI o 2)
    omega
theorem plainS_le {o : Option (List UInt8)} {k : Int} : (plainS o k).length ≤ 1000000000 := by
  unfold plainS
  split
  · exact textV_le
  · exact Nat.zero_le _
theorem lp_ok : ∀ (m : Nat) (o : Option (List UInt8)), ∀ p ∈ (lp m o).2, p.2.2.length ≤ 1000000000
  | 0, _, _, h => nomatch h
  | _ + 1, none, _, h => nomatch h
  | m + 1, some M, p, h => by
    rcases List.mem_cons.1 h with rfl | h
    · exact plainS_le
    · exact lp_ok m _ p h
def zeroV : Value := .agg #[.int .i64 0, .int .i64 0, .string ByteArray.empty, .slice none 0 0]
/-- What reading a bag comes to: its elements, and the rest; or bad. -/
def BagPost (g : Nat) (F : List HProp) (o : Option (List UInt8)) (xs : List El) (r : Value) (l' : List HProp) : Prop :=
  (∃ bad' v' M' a c, M'.length ≤ 1000000000 ∧ absO bad' M' = o ∧ bad' = false ∧ FormedP 5 0 [] xs ∧ r = .agg (vcl 5 0 [] (.slice a xs.length c)).toArray ∧ l' = own 29 4 (.slice a xs.length c) xs.length (xs.flatMap ecl) :: inL g bad' v' M' F) ∨
  ((o = none ∨ ¬ FormedP 5 0 [] xs) ∧ ∃ v' M', M'.length ≤ 1000000000 ∧ r = zeroV ∧ l' = inL g true v' M' F)
theorem formedT0 {w0 : World} {F : List HProp} {a : Option Addr} {c n : Nat} {xs : List El} (hx : ∀ e ∈ xs, e.ok) (hn : xs.length = n) (hm : n ≤ 9223372036854775807) (hf : FormedP 5 0 [] xs) (hr : RdO w0 F (.slice a n c) n (xs.flatMap ecl)) :
    FnO Try.prog w0 53 [.agg #[.int .i64 5, .int .i64 0, .string ByteArray.empty, .slice a n c]] F (fun r l' => r = .bool true ∧ l' = F) := by
  subst hn; exact formedT (s := []) hx hm hf hr
theorem formedF0 {w0 : World} {F : List HProp} {a : Option Addr} {c n : Nat} {xs : List El} (hx : ∀ e ∈ xs, e.ok) (hn : xs.length = n) (hm : n ≤ 9223372036854775807) (hf : ¬ FormedP 5 0 [] xs) (hr : RdO w0 F (.slice a n c) n (xs.flatMap ecl)) :
    FnO Try.prog w0 53 [.agg #[.int .i64 5, .int .i64 0, .string ByteArray.empty, .slice a n c]] F (fun r l' => r = .bool false ∧ l' = F) := by
  subst hn; exact formedF (s := []) hx hm hf hr
theorem inValBag {w0 : World} {F : List HProp} {g : Nat} {bad : Bool} {v : Value} {M : List UInt8} (hM : M.length ≤ 1000000000) (hk : numI (absO bad M) 1 = 5) :
    FnO Try.prog w0 22 [.pointer (some ⟨g, 0, none⟩)] (inL g bad v M F) (BagPost g F (lp (numI (restO (absO bad M) 1) 1) (restO (restO (absO bad M) 1) 1)).1 ((lp (numI (restO (absO bad M) 1) 1) (restO (restO (absO bad M) 1) 1)).2.map elP)) := by
  have hb2 : numI (restO (absO bad M) 1) 1 < 256 := numI_lt
  refine FnO.weak ?_
  refine FnO.intro (n := 56) Try.func22 rfl rfl rfl ?_
  refine J.lit (.tail .head) fun av cv ev => ?_; subst ev
  refine J.seq ?_
  refine J.region ?_
  refine JL.mem rfl rfl OpM.alloc ?_; rintro _ _ ⟨b2, rfl, rfl⟩
  refine JL.nil ?_
  refine J.seq ?_
  refine J.region ?_
  refine JL.pure rfl rfl (OpP.move rfl) ?_
  refine JL.f2 ?_; refine JL.f2 ?_; refine JL.step rfl rfl (OpW.call (first := []) (captured := []) inferInstance rfl rfl (inU8_ok hM)) ?_; rintro r8 _ ⟨bad', ⟨v', ⟨M', ⟨h8, ⟨h81, ⟨rfl, rfl⟩⟩⟩⟩⟩⟩
  refine JL.lit (.tail .head) fun av' cv' ev' => ?_; subst ev'
  refine JL.pure rfl rfl (OpP.assign rfl) ?_
  refine JL.nil ?_
  refine J.seq ?_
  refine J.region ?_
  refine JL.pure rfl rfl (OpP.move rfl) ?_
  refine JL.pure rfl rfl (OpP.build rfl (by (repeat (first | exact Fills.nil | (apply Fills.cons rfl rfl rfl; (case' hs => ((repeat (first | exact Spl.nil | apply Spl.here | apply Spl.there)); done))))))) ?_
  refine JL.mem rfl rfl OpM.alloc ?_; rintro _ _ ⟨b4, rfl, rfl⟩
  refine JL.mem0 rfl (by apply OpM.storeN rfl rfl (by rfl) (oneC rfl (oneC rfl (oneC rfl (one1 rfl)))); (case' hu => exact .head); (case' hs => exact (.here (.here (.here (.here .nil))))); done) ?_; rintro _ _ ⟨rfl, rfl⟩
  refine JL.nil ?_
  refine J.seq ?_
  rw [hk]
  refine J.seq ?_
  refine J.region ?_
  refine JL.pure rfl rfl (OpP.move rfl) ?_
  refine JL.decT rfl rfl (OpP.eql rfl rfl) (by omega) ?_
  refine JL.nil ?_
  refine J.condT rfl ?_
  refine J.seq ?_
  refine J.region ?_
  refine JL.pure rfl rfl (OpP.move rfl) ?_
  refine JL.f2 ?_; refine JL.f2 ?_; refine JL.step rfl rfl (OpW.call (first := []) (captured := []) inferInstance rfl rfl (inU8_ok (by assumption))) ?_; rintro r14 _ ⟨bad'1, ⟨v', ⟨M'1, ⟨h14, ⟨h141, ⟨rfl, rfl⟩⟩⟩⟩⟩⟩
  refine JL.lit (.tail .head) fun av' cv' ev' => ?_; subst ev'
  refine JL.pure rfl rfl (OpP.assign rfl) ?_
  refine JL.nil ?_
  refine J.seq ?_
  refine J.region ?_
  refine JL.pure rfl rfl (OpP.assign rfl) ?_
  refine JL.nil ?_
  refine J.block ?_
  rw [h81]
  rw [h81] at h141
  generalize hN : numI (restO (absO bad M) 1) 1 = N at hb2
  generalize hO : restO (restO (absO bad M) 1) 1 = O at h141
  refine J.loopI (fun x : Nat × Bool × Value × List UInt8 × Value × List Pl => N - x.1) (fun x => x.1 ≤ N ∧ x.2.2.2.1.length ≤ 1000000000 ∧ x.2.2.2.2.2.length = x.1 ∧ lp N O = ((lp (N - x.1) (absO x.2.1 x.2.2.2.1)).1, x.2.2.2.2.2 ++ (lp (N - x.1) (absO x.2.1 x.2.2.2.1)).2)) (fun x => [(6, .int .i64 (x.1 : Nat)), (5, .int .i64 (N : Nat)), (4, .pointer (some ⟨b4, 0, none⟩)), (2, .pointer (some ⟨b2, 0, none⟩)), (0, .pointer (some ⟨g, 0, none⟩))])
    (fun x => own 29 4 x.2.2.2.2.1 x.1 ((x.2.2.2.2.2.map elP).flatMap ecl) :: inL g x.2.1 x.2.2.1 x.2.2.2.1 (row b4 29 [.int .i64 5, .int .i64 0, .string ByteArray.empty, x.2.2.2.2.1] :: row b2 29 [.int .i64 0, .int .i64 0, .string ByteArray.empty, .slice none 0 0] :: F))
    (0, bad'1, .slice av' M'1.length cv', M'1, .slice none 0 0, []) ⟨Nat.zero_le _, h14, rfl, by dsimp only; rw [h141]; rfl⟩ (by repeat (first | exact SubEnv.nil | refine SubEnv.cons (by first | rfl | exact congrArg (fun z => some (Value.int .i64 z)) (by omega) | (simp; done)) ?_)) (fun _ h => h.own_nil) (fun ⟨j, bd, z, Q, u, ps⟩ hi back => ?_)
  dsimp only at hi back ⊢
  obtain ⟨hj, hQ, hps, he⟩ := hi
  by_cases hb : bd = true
  · subst hb
    rw [show absO true Q = none from rfl, lp_none, List.append_nil] at he
    subst hps
    rw [he]
    by_cases hlt : ps.length < N
    · refine J.lit .head fun au cu eu => ?_; subst eu
      refine J.lit (.tail (.tail .head)) fun az cz ez => ?_; subst ez
      refine J.seq ?_
      refine J.seq ?_
      refine J.region ?_
      refine JL.pure rfl rfl (OpP.move rfl) ?_
      refine JL.pure rfl rfl (OpP.move rfl) ?_
      refine JL.decT rfl rfl (OpP.lss rfl rfl) (by omega) ?_
      refine JL.pure rfl rfl (OpP.move rfl) ?_
      refine JL.pure rfl rfl (OpP.move rfl) ?_
      refine JL.pure rfl rfl (OpP.nilCheck rfl) ?_
      refine JL.pure rfl rfl (OpP.fieldAddr rfl) ?_
      refine JL.pure rfl rfl (OpP.fieldAddr rfl) ?_
      refine JL.read rfl rfl (OpR.load1 rfl (Cell.row (.tail .head) rfl)) ?_
      refine JL.pure rfl rfl (OpP.notB rfl) ?_
      refine JL.pure rfl rfl (OpP.pickT rfl rfl) ?_
      refine JL.nil ?_
      refine J.condF rfl ?_
      refine J.exit rfl ?_
      refine J.seq ?_
      refine J.seq ?_
      refine J.region ?_
      refine JL.pure rfl rfl (OpP.move rfl) ?_
      refine JL.pure rfl rfl (OpP.nilCheck rfl) ?_
      refine JL.pure rfl rfl (OpP.fieldAddr rfl) ?_
      refine JL.pure rfl rfl (OpP.fieldAddr rfl) ?_
      refine JL.read rfl rfl (OpR.load1 rfl (Cell.row (.tail .head) rfl)) ?_
      refine JL.pure rfl rfl (OpP.move rfl) ?_
      refine JL.skip rfl rfl ?_
      refine JL.skip rfl rfl ?_
      refine JL.skip rfl rfl ?_
      refine JL.pure rfl rfl (OpP.pickT rfl rfl) ?_
      refine JL.nil ?_
      refine J.condT rfl ?_
      refine J.seq ?_
      refine J.region ?_
      refine JL.pure rfl rfl (OpP.move rfl) ?_
      refine JL.pure rfl rfl (OpP.nilCheck rfl) ?_
      refine JL.pure rfl rfl (OpP.fieldAddr rfl) ?_
      refine JL.f1 ?_; refine JL.step rfl rfl (OpW.call (first := []) (captured := []) inferInstance rfl rfl spoilI_ok) ?_; rintro r53 _ ⟨rfl, rfl⟩
      refine JL.nil ?_
      refine J.seq ?_
      refine J.region ?_
      refine JL.pure rfl rfl (OpP.build rfl (by (repeat (first | exact Fills.nil | (apply Fills.cons rfl rfl rfl; (case' hs => ((repeat (first | exact Spl.nil | apply Spl.here | apply Spl.there)); done))))))) ?_
      refine JL.mem0 rfl (by apply OpM.storeN rfl rfl (by rfl) (oneC rfl (oneC rfl (oneC rfl (one1 rfl)))); (case' hu => exact (.tail (.tail (.tail (.tail .head))))); (case' hs => exact (.here (.here (.here (.here .nil))))); done) ?_; rintro _ _ ⟨rfl, rfl⟩
      refine JL.nil ?_
      refine J.retC rfl rfl (by apply Cells.full; (with_reducible repeat (first | exact .head | apply Has.tail))) (by first | (rw [List.length_append, hdC_len (by first | assumption | exact Go.Proofs.B.shaB_length _ _ | solve_by_elim)]; rfl) | exact hdC_len (by first | assumption | exact Go.Proofs.B.shaB_length _ _ | solve_by_elim) | (rw [bcells_length]; first | assumption | exact Go.Proofs.B.shaB_length _ _ | solve_by_elim) | exact fc_length _ _ | exact fB_length _ _ | rfl) ?_
      exact ⟨_, .inr ⟨.inl rfl, _, Q, hQ, rfl, rfl⟩, fun _ h => Own.pick (pre := [_, _, _, _, _]) [0, 2] rfl h⟩
    · refine J.lit .head fun au cu eu => ?_; subst eu
      refine J.lit (.tail (.tail .head)) fun az cz ez => ?_; subst ez
      refine J.seq ?_
      refine J.seq ?_
      refine J.region ?_
      refine JL.pure rfl rfl (OpP.move rfl) ?_
      refine JL.pure rfl rfl (OpP.move rfl) ?_
      refine JL.decF rfl rfl (OpP.lss rfl rfl) (by omega) ?_
      refine JL.pure rfl rfl (OpP.move rfl) ?_
      refine JL.skip rfl rfl ?_
      refine JL.skip rfl rfl ?_
      refine JL.skip rfl rfl ?_
      refine JL.skip rfl rfl ?_
      refine JL.skip rfl rfl ?_
      refine JL.skip rfl rfl ?_
      refine JL.pure rfl rfl (OpP.pickF rfl rfl) ?_
      refine JL.nil ?_
      refine J.condF rfl ?_
      refine J.exit rfl ?_
      refine J.seq ?_
      refine J.seq ?_
      refine J.region ?_
      refine JL.pure rfl rfl (OpP.move rfl) ?_
      refine JL.pure rfl rfl (OpP.nilCheck rfl) ?_
      refine JL.pure rfl rfl (OpP.fieldAddr rfl) ?_
      refine JL.pure rfl rfl (OpP.fieldAddr rfl) ?_
      refine JL.read rfl rfl (OpR.load1 rfl (Cell.row (.tail .head) rfl)) ?_
      refine JL.pure rfl rfl (OpP.move rfl) ?_
      refine JL.skip rfl rfl ?_
      refine JL.skip rfl rfl ?_
      refine JL.skip rfl rfl ?_
      refine JL.pure rfl rfl (OpP.pickT rfl rfl) ?_
      refine JL.nil ?_
      refine J.condT rfl ?_
      refine J.seq ?_
      refine J.region ?_
      refine JL.pure rfl rfl (OpP.move rfl) ?_
      refine JL.pure rfl rfl (OpP.nilCheck rfl) ?_
      refine JL.pure rfl rfl (OpP.fieldAddr rfl) ?_
      refine JL.f1 ?_; refine JL.step rfl rfl (OpW.call (first := []) (captured := []) inferInstance rfl rfl spoilI_ok) ?_; rintro r53 _ ⟨rfl, rfl⟩
      refine JL.nil ?_
      refine J.seq ?_
      refine J.region ?_
      refine JL.pure rfl rfl (OpP.build rfl (by (repeat (first | exact Fills.nil | (apply Fills.cons rfl rfl rfl; (case' hs => ((repeat (first | exact Spl.nil | apply Spl.here | apply Spl.there)); done))))))) ?_
      refine JL.mem0 rfl (by apply OpM.storeN rfl rfl (by rfl) (oneC rfl (oneC rfl (oneC rfl (one1 rfl)))); (case' hu => exact (.tail (.tail (.tail (.tail .head))))); (case' hs => exact (.here (.here (.here (.here .nil))))); done) ?_; rintro _ _ ⟨rfl, rfl⟩
      refine JL.nil ?_
      refine J.retC rfl rfl (by apply Cells.full; (with_reducible repeat (first | exact .head | apply Has.tail))) (by first | (rw [List.length_append, hdC_len (by first | assumption | exact Go.Proofs.B.shaB_length _ _ | solve_by_elim)]; rfl) | exact hdC_len (by first | assumption | exact Go.Proofs.B.shaB_length _ _ | solve_by_elim) | (rw [bcells_length]; first | assumption | exact Go.Proofs.B.shaB_length _ _ | solve_by_elim) | exact fc_length _ _ | exact fB_length _ _ | rfl) ?_
      exact ⟨_, .inr ⟨.inl rfl, _, Q, hQ, rfl, rfl⟩, fun _ h => Own.pick (pre := [_, _, _, _, _]) [0, 2] rfl h⟩
  · obtain rfl : bd = false := by simpa using hb
    by_cases hlt : j < N
    · obtain ⟨m, hm⟩ : ∃ m, N - j = m + 1 := ⟨N - j - 1, by omega⟩
      refine J.lit .head fun au cu eu => ?_; subst eu
      refine J.lit (.tail (.tail .head)) fun az cz ez => ?_; subst ez
      refine J.seq ?_
      refine J.seq ?_
      refine J.region ?_
      refine JL.pure rfl rfl (OpP.move rfl) ?_
      refine JL.pure rfl rfl (OpP.move rfl) ?_
      refine JL.decT rfl rfl (OpP.lss rfl rfl) (by omega) ?_
      refine JL.pure rfl rfl (OpP.move rfl) ?_
      refine JL.pure rfl rfl (OpP.move rfl) ?_
      refine JL.pure rfl rfl (OpP.nilCheck rfl) ?_
      refine JL.pure rfl rfl (OpP.fieldAddr rfl) ?_
      refine JL.pure rfl rfl (OpP.fieldAddr rfl) ?_
      refine JL.read rfl rfl (OpR.load1 rfl (Cell.row (.tail .head) rfl)) ?_
      refine JL.pure rfl rfl (OpP.notB rfl) ?_
      refine JL.pure rfl rfl (OpP.pickT rfl rfl) ?_
      refine JL.nil ?_
      refine J.condT rfl ?_
      refine J.skip ?_
      refine J.seq ?_
      refine J.block ?_
      refine J.regionDC (cl := row b4 29 [.int .i64 5, .int .i64 0, .string ByteArray.empty, .slice au j cu] :: F) [1] (by kernel_rfl) ?_
      refine DL.pure (i := 0) (by kernel_rfl) (by kernel_rfl) rfl rfl rfl (OpP.fieldAddr rfl) ?_
      refine DL.read (i := 1) (by kernel_rfl) (by kernel_rfl) rfl rfl rfl (fun _ h => Own.pick (pre := [_, _, _, _, _]) [3] rfl h) (OpR.load1 rfl (Cell.row .head rfl)) ?_
      refine DL.pure (i := 2) (by kernel_rfl) (by kernel_rfl) rfl rfl rfl (OpP.move rfl) ?_
      refine DL.pure (i := 3) (by kernel_rfl) (by kernel_rfl) rfl rfl rfl (OpP.move rfl) ?_
      refine DL.only (i := 4) (by kernel_rfl) ?_
      refine DL1.f2 ?_; refine DL1.f2 ?_; refine DL1.stepK rfl rfl rfl (by exact OpW.call (first := []) (captured := []) inferInstance rfl rfl (inU8_ok hQ)) (by rintro _ _ ⟨bad'2, ⟨v', ⟨M'2, ⟨h32, ⟨h321, ⟨rfl, rfl⟩⟩⟩⟩⟩⟩ _ h; exact Own.pick (pre := [_, _, _, _, _]) [3] rfl h) ?_; rintro r32 _ ⟨bad'2, ⟨v', ⟨M'2, ⟨h32, ⟨h321, ⟨rfl, rfl⟩⟩⟩⟩⟩⟩
      refine DL.lit (.tail .head) fun av' cv' ev' => ?_; subst ev'
      refine DL.only (i := 5) (by kernel_rfl) ?_
      refine DL1.stepK rfl rfl rfl (by exact OpW.call (first := []) (captured := []) inferInstance rfl rfl (inPlain_ok (by assumption))) (by rintro _ _ ⟨bad'3, ⟨v', ⟨M'3, ⟨h33, ⟨h331, ⟨rfl, rfl⟩⟩⟩⟩⟩⟩ _ h; exact Own.pick (pre := [_, _, _, _, _]) [3] rfl h) ?_; rintro r33 _ ⟨bad'3, ⟨v', ⟨M'3, ⟨h33, ⟨h331, ⟨rfl, rfl⟩⟩⟩⟩⟩⟩
      refine DL.lit (.tail .head) fun av' cv' ev' => ?_; subst ev'
      refine DL.only (i := 6) (by kernel_rfl) ?_
      refine DL1.stepK rfl rfl rfl (OpM.w (by apply OpM.buildSlice (by rfl) rfl (by rfl); (repeat (first | exact Fills.nil | (apply Fills.cons rfl rfl rfl; (case' hs => ((repeat (first | exact Spl.nil | apply Spl.here | apply Spl.there)); done))))))) (by rintro _ _ ⟨b34, rfl, rfl⟩ _ h; exact Own.pick (pre := [_, _, _, _, _, _]) [4] rfl h) ?_; rintro _ _ ⟨b34, rfl, rfl⟩
      refine DL.only (i := 7) (by kernel_rfl) ?_
      refine DL1.f3 ?_; refine DL1.stepF rfl rfl rfl (by kernel_rfl) (OpM.w (OpM.appendH rfl (.inl ⟨_, Sl.und inferInstance⟩) (by rfl) rfl rfl (RdO.src (RdO.ofRow (.tail .head) (by first | exact Nat.le_refl _ | decide | omega)) (by first | assumption | exact fc_length _ _ | (simp; done) | (simp; omega))) (oneC rfl (oneC rfl (oneC rfl (one1 rfl)))) (by simp only [maxLen]; omega) (by omega))) ?_; rintro _ _ ⟨⟨a35, c35, rfl⟩, rfl⟩
      refine DL.pure (i := 8) (by kernel_rfl) (by kernel_rfl) rfl rfl rfl (OpP.fieldAddr rfl) ?_
      refine DL.only (i := 9) (by kernel_rfl) ?_
      refine DL1.stepF0 rfl rfl (by kernel_rfl) (OpM.w (by apply OpM.store1 rfl rfl rfl; (case' hu => exact (.tail (.tail (.tail (.tail .head))))); (case' hs => exact (.there (.there (.there (.here .nil))))); done)) ?_; rintro _ _ ⟨rfl, rfl⟩
      refine DL.done (by kernel_rfl) ?_
      refine J.inBlock ?_
      refine J.region ?_
      refine JL.pure rfl rfl (OpP.move rfl) ?_
      refine JL.pure rfl rfl (OpP.addI rfl rfl (by omega) (by omega)) ?_
      refine JL.pure rfl rfl (OpP.assign rfl) ?_
      refine JL.nil ?_
      rw [h321] at h331
      refine back (j + 1, bad'3, .slice av' M'3.length cv', M'3, .slice a35 (j + 1) c35, ps ++ [elV (some Q)]) ⟨by dsimp only; omega, h33, by dsimp only; rw [List.length_append, hps]; rfl, ?_⟩ (by dsimp only; omega) (by repeat (first | exact SubEnv.nil | refine SubEnv.cons (by first | rfl | exact congrArg (fun z => some (Value.int .i64 z)) (by omega) | (simp; done)) ?_)) (fun _ h => ?_)
      · dsimp only
        rw [he, hm, show N - (j + 1) = m by omega, show absO false Q = some Q from rfl, lp, show absO bad'3 M'3 = elR (some Q) from h331, List.append_assoc]; rfl
      · dsimp only at h ⊢
        rw [h321] at h
        rw [List.map_append, List.flatMap_append]
        exact Own.pick (pre := [_, _, _, _, _, _]) [0, 2, 3, 4, 5] rfl h
    · obtain rfl : j = N := by omega
      rw [Nat.sub_self, show lp 0 (absO false Q) = (absO false Q, []) from rfl, List.append_nil] at he
      subst hps
      rw [he]
      have hxo : ∀ e ∈ ps.map elP, e.ok := by
        intro e he2
        obtain ⟨p, hp, rfl⟩ := List.mem_map.1 he2
        have := lp_ok ps.length O p
        rw [he] at this
        exact this hp
      have hxl : (ps.map elP).length = ps.length := List.length_map ..
      refine J.lit .head fun au cu eu => ?_; subst eu
      refine J.lit (.tail (.tail .head)) fun az cz ez => ?_; subst ez
      refine J.seq ?_
      refine J.seq ?_
      refine J.region ?_
      refine JL.pure rfl rfl (OpP.move rfl) ?_
      refine JL.pure rfl rfl (OpP.move rfl) ?_
      refine JL.decF rfl rfl (OpP.lss rfl rfl) (by omega) ?_
      refine JL.pure rfl rfl (OpP.move rfl) ?_
      refine JL.skip rfl rfl ?_
      refine JL.skip rfl rfl ?_
      refine JL.skip rfl rfl ?_
      refine JL.skip rfl rfl ?_
      refine JL.skip rfl rfl ?_
      refine JL.skip rfl rfl ?_
      refine JL.pure rfl rfl (OpP.pickF rfl rfl) ?_
      refine JL.nil ?_
      refine J.condF rfl ?_
      refine J.exit rfl ?_
      refine J.seq ?_
      by_cases hf : FormedP 5 0 [] (ps.map elP)
      · refine J.seq ?_
        refine J.region ?_
        refine JL.pure rfl rfl (OpP.move rfl) ?_
        refine JL.pure rfl rfl (OpP.nilCheck rfl) ?_
        refine JL.pure rfl rfl (OpP.fieldAddr rfl) ?_
        refine JL.pure rfl rfl (OpP.fieldAddr rfl) ?_
        refine JL.read rfl rfl (OpR.load1 rfl (Cell.row (.tail .head) rfl)) ?_
        refine JL.pure rfl rfl (OpP.move rfl) ?_
        refine JL.read rfl rfl (OpR.loadN rfl (Cells.full (.tail (.tail (.tail .head)))) rfl) ?_
        refine JL.step rfl rfl (OpW.call (first := []) (captured := []) inferInstance rfl rfl (formedT0 hxo hxl (by omega) hf (RdO.own .head))) ?_; rintro r47 _ ⟨rfl, rfl⟩
        refine JL.pure rfl rfl (OpP.notB rfl) ?_
        refine JL.pure rfl rfl (OpP.pickF rfl rfl) ?_
        refine JL.nil ?_
        refine J.condF rfl ?_
        refine J.skip ?_
        refine J.seq ?_
        refine J.region ?_
        refine JL.read rfl rfl (OpR.loadN rfl (Cells.full (.tail (.tail (.tail .head)))) rfl) ?_
        refine JL.mem0 rfl (by apply OpM.storeN rfl rfl (by rfl) (oneC rfl (oneC rfl (oneC rfl (one1 rfl)))); (case' hu => exact (.tail (.tail (.tail (.tail .head))))); (case' hs => exact (.here (.here (.here (.here .nil))))); done) ?_; rintro _ _ ⟨rfl, rfl⟩
        refine JL.nil ?_
        refine J.retC rfl rfl (by apply Cells.full; (with_reducible repeat (first | exact .head | apply Has.tail))) (by first | (rw [List.length_append, hdC_len (by first | assumption | exact Go.Proofs.B.shaB_length _ _ | solve_by_elim)]; rfl) | exact hdC_len (by first | assumption | exact Go.Proofs.B.shaB_length _ _ | solve_by_elim) | (rw [bcells_length]; first | assumption | exact Go.Proofs.B.shaB_length _ _ | solve_by_elim) | exact fc_length _ _ | exact fB_length _ _ | rfl) ?_
        exact ⟨_, .inl ⟨false, _, Q, au, cu, hQ, rfl, rfl, hf, by rw [hxl]; rfl, rfl⟩, fun _ h => by rw [hxl]; exact Own.pick (pre := [_, _, _, _, _]) [0, 1, 2] rfl h⟩
      · refine J.seq ?_
        refine J.region ?_
        refine JL.pure rfl rfl (OpP.move rfl) ?_
        refine JL.pure rfl rfl (OpP.nilCheck rfl) ?_
        refine JL.pure rfl rfl (OpP.fieldAddr rfl) ?_
        refine JL.pure rfl rfl (OpP.fieldAddr rfl) ?_
        refine JL.read rfl rfl (OpR.load1 rfl (Cell.row (.tail .head) rfl)) ?_
        refine JL.pure rfl rfl (OpP.move rfl) ?_
        refine JL.read rfl rfl (OpR.loadN rfl (Cells.full (.tail (.tail (.tail .head)))) rfl) ?_
        refine JL.step rfl rfl (OpW.call (first := []) (captured := []) inferInstance rfl rfl (formedF0 hxo hxl (by omega) hf (RdO.own .head))) ?_; rintro r47 _ ⟨rfl, rfl⟩
        refine JL.pure rfl rfl (OpP.notB rfl) ?_
        refine JL.pure rfl rfl (OpP.pickF rfl rfl) ?_
        refine JL.nil ?_
        refine J.condT rfl ?_
        refine J.seq ?_
        refine J.region ?_
        refine JL.pure rfl rfl (OpP.move rfl) ?_
        refine JL.pure rfl rfl (OpP.nilCheck rfl) ?_
        refine JL.pure rfl rfl (OpP.fieldAddr rfl) ?_
        refine JL.f1 ?_; refine JL.step rfl rfl (OpW.call (first := []) (captured := []) inferInstance rfl rfl spoilI_ok) ?_; rintro r53 _ ⟨rfl, rfl⟩
        refine JL.nil ?_
        refine J.seq ?_
        refine J.region ?_
        refine JL.pure rfl rfl (OpP.build rfl (by (repeat (first | exact Fills.nil | (apply Fills.cons rfl rfl rfl; (case' hs => ((repeat (first | exact Spl.nil | apply Spl.here | apply Spl.there)); done))))))) ?_
        refine JL.mem0 rfl (by apply OpM.storeN rfl rfl (by rfl) (oneC rfl (oneC rfl (oneC rfl (one1 rfl)))); (case' hu => exact (.tail (.tail (.tail (.tail .head))))); (case' hs => exact (.here (.here (.here (.here .nil))))); done) ?_; rintro _ _ ⟨rfl, rfl⟩
        refine JL.nil ?_
        refine J.retC rfl rfl (by apply Cells.full; (with_reducible repeat (first | exact .head | apply Has.tail))) (by first | (rw [List.length_append, hdC_len (by first | assumption | exact Go.Proofs.B.shaB_length _ _ | solve_by_elim)]; rfl) | exact hdC_len (by first | assumption | exact Go.Proofs.B.shaB_length _ _ | solve_by_elim) | (rw [bcells_length]; first | assumption | exact Go.Proofs.B.shaB_length _ _ | solve_by_elim) | exact fc_length _ _ | exact fB_length _ _ | rfl) ?_
        exact ⟨_, .inr ⟨.inr hf, _, Q, hQ, rfl, rfl⟩, fun _ h => Own.pick (pre := [_, _, _, _, _]) [0, 2] rfl h⟩
end Go.Proofs.E

-- seat e
namespace Go.Proofs.E
open Go Go.Gp Go.RowKit

/-- What reading what is no bag comes to. -/
def PlainPost (g : Nat) (F : List HProp) (o : Option (List UInt8)) (k i : Int) (s : List UInt8) (r : Value) (l' : List HProp) : Prop :=
  (∃ v' M', M'.length ≤ 1000000000 ∧ o = some M' ∧ FormedP k i s [] ∧ r = .agg (vcl k i s (.slice none 0 0)).toArray ∧ l' = inL g false v' M' F) ∨
  ((o = none ∨ ¬ FormedP k i s []) ∧ ∃ v' M', M'.length ≤ 1000000000 ∧ r = zeroV ∧ l' = inL g true v' M' F)
theorem inValPlain {w0 : World} {F : List HProp} {g : Nat} {bad : Bool} {v : Value} {M : List UInt8} (hM : M.length ≤ 1000000000) (hk : numI (absO bad M) 1 ≠ 5) :
    FnO Try.prog w0 22 [.pointer (some ⟨g, 0, none⟩)] (inL g bad v M F) (PlainPost g F (elR (absO bad M)) (elV (absO bad M)).1 (elV (absO bad M)).2.1 (elV (absO bad M)).2.2) := by
  refine FnO.weak ?_
  refine FnO.intro (n := 56) Try.func22 rfl rfl rfl ?_
  refine J.lit (.tail .head) fun av cv ev => ?_; subst ev
  refine J.seq ?_
  refine J.region ?_
  refine JL.mem rfl rfl OpM.alloc ?_; rintro _ _ ⟨b2, rfl, rfl⟩
  refine JL.nil ?_
  refine J.seq ?_
  refine J.region ?_
  refine JL.pure rfl rfl (OpP.move rfl) ?_
  refine JL.f2 ?_; refine JL.f2 ?_; refine JL.step rfl rfl (OpW.call (first := []) (captured := []) inferInstance rfl rfl (inU8_ok hM)) ?_; rintro r8 _ ⟨bad', ⟨v', ⟨M', ⟨h8, ⟨h81, ⟨rfl, rfl⟩⟩⟩⟩⟩⟩
  refine JL.lit (.tail .head) fun av' cv' ev' => ?_; subst ev'
  refine JL.pure rfl rfl (OpP.assign rfl) ?_
  refine JL.nil ?_
  refine J.seq ?_
  refine J.region ?_
  refine JL.pure rfl rfl (OpP.move rfl) ?_
  refine JL.pure rfl rfl (OpP.build rfl (by (repeat (first | exact Fills.nil | (apply Fills.cons rfl rfl rfl; (case' hs => ((repeat (first | exact Spl.nil | apply Spl.here | apply Spl.there)); done))))))) ?_
  refine JL.mem rfl rfl OpM.alloc ?_; rintro _ _ ⟨b4, rfl, rfl⟩
  refine JL.mem0 rfl (by apply OpM.storeN rfl rfl (by rfl) (oneC rfl (oneC rfl (oneC rfl (one1 rfl)))); (case' hu => exact .head); (case' hs => exact (.here (.here (.here (.here .nil))))); done) ?_; rintro _ _ ⟨rfl, rfl⟩
  refine JL.nil ?_
  refine J.seq ?_
  refine J.seq ?_
  refine J.region ?_
  refine JL.pure rfl rfl (OpP.move rfl) ?_
  refine JL.decF rfl rfl (OpP.eql rfl rfl) (by omega) ?_
  refine JL.nil ?_
  refine J.condF rfl ?_
  refine J.region ?_
  refine JL.pure rfl rfl (OpP.move rfl) ?_
  refine JL.pure rfl rfl (OpP.move rfl) ?_
  refine JL.f2 ?_; refine JL.f2 ?_; refine JL.step rfl rfl (OpW.call (first := []) (captured := []) inferInstance rfl rfl (inPlain_ok (by assumption))) ?_; rintro r39 _ ⟨bad'1, ⟨v', ⟨M'1, ⟨h39, ⟨h391, ⟨rfl, rfl⟩⟩⟩⟩⟩⟩
  refine JL.lit (.tail .head) fun av' cv' ev' => ?_; subst ev'
  refine JL.mem0 rfl (by apply OpM.storeN rfl rfl (by rfl) (oneC rfl (oneC rfl (oneC rfl (one1 rfl)))); (case' hu => exact (.tail (.tail .head))); (case' hs => exact (.here (.here (.here (.here .nil))))); done) ?_; rintro _ _ ⟨rfl, rfl⟩
  refine JL.nil ?_
  refine J.seq ?_
  rw [h81] at h391 ⊢
  have ho : elR (absO bad M) = absO bad'1 M'1 := h391.symm
  rw [ho, show (elV (absO bad M)).1 = (numI (absO bad M) 1 : Nat) from rfl, show (elV (absO bad M)).2.1 = plainI (restO (absO bad M) 1) (numI (absO bad M) 1 : Nat) from rfl, show (elV (absO bad M)).2.2 = plainS (restO (absO bad M) 1) (numI (absO bad M) 1 : Nat) from rfl]
  clear ho h391
  generalize plainI (restO (absO bad M) 1) (numI (absO bad M) 1 : Nat) = i
  generalize plainS (restO (absO bad M) 1) (numI (absO bad M) 1 : Nat) = s
  generalize ((numI (absO bad M) 1 : Nat) : Int) = k
  cases bad'1 with
  | true =>
    refine J.seq ?_
    refine J.region ?_
    refine JL.pure rfl rfl (OpP.move rfl) ?_
    refine JL.pure rfl rfl (OpP.nilCheck rfl) ?_
    refine JL.pure rfl rfl (OpP.fieldAddr rfl) ?_
    refine JL.pure rfl rfl (OpP.fieldAddr rfl) ?_
    refine JL.read rfl rfl (OpR.load1 rfl (Cell.row .head rfl)) ?_
    refine JL.pure rfl rfl (OpP.move rfl) ?_
    refine JL.skip rfl rfl ?_
    refine JL.skip rfl rfl ?_
    refine JL.skip rfl rfl ?_
    refine JL.pure rfl rfl (OpP.pickT rfl rfl) ?_
    refine JL.nil ?_
    refine J.condT rfl ?_
    refine J.seq ?_
    refine J.region ?_
    refine JL.pure rfl rfl (OpP.move rfl) ?_
    refine JL.pure rfl rfl (OpP.nilCheck rfl) ?_
    refine JL.pure rfl rfl (OpP.fieldAddr rfl) ?_
    refine JL.step rfl rfl (OpW.call (first := []) (captured := []) inferInstance rfl rfl spoilI_ok) ?_; rintro r53 _ ⟨rfl, rfl⟩
    refine JL.nil ?_
    refine J.seq ?_
    refine J.region ?_
    refine JL.pure rfl rfl (OpP.build rfl (by (repeat (first | exact Fills.nil | (apply Fills.cons rfl rfl rfl; (case' hs => ((repeat (first | exact Spl.nil | apply Spl.here | apply Spl.there)); done))))))) ?_
    refine JL.mem0 rfl (by apply OpM.storeN rfl rfl (by rfl) (oneC rfl (oneC rfl (oneC rfl (one1 rfl)))); (case' hu => exact (.tail (.tail (.tail .head)))); (case' hs => exact (.here (.here (.here (.here .nil))))); done) ?_; rintro _ _ ⟨rfl, rfl⟩
    refine JL.nil ?_
    refine J.retC rfl rfl (by apply Cells.full; (with_reducible repeat (first | exact .head | apply Has.tail))) (by first | (rw [List.length_append, hdC_len (by first | assumption | exact Go.Proofs.B.shaB_length _ _ | solve_by_elim)]; rfl) | exact hdC_len (by first | assumption | exact Go.Proofs.B.shaB_length _ _ | solve_by_elim) | (rw [bcells_length]; first | assumption | exact Go.Proofs.B.shaB_length _ _ | solve_by_elim) | exact fc_length _ _ | exact fB_length _ _ | rfl) ?_
    exact ⟨_, .inr ⟨.inl rfl, _, M'1, h39, rfl, rfl⟩, fun _ h => Own.pick (pre := [_, _, _, _]) [0, 1] rfl h⟩
  | false =>
    by_cases hf : FormedP k i s []
    · refine J.seq ?_
      refine J.region ?_
      refine JL.pure rfl rfl (OpP.move rfl) ?_
      refine JL.pure rfl rfl (OpP.nilCheck rfl) ?_
      refine JL.pure rfl rfl (OpP.fieldAddr rfl) ?_
      refine JL.pure rfl rfl (OpP.fieldAddr rfl) ?_
      refine JL.read rfl rfl (OpR.load1 rfl (Cell.row .head rfl)) ?_
      refine JL.pure rfl rfl (OpP.move rfl) ?_
      refine JL.read rfl rfl (OpR.loadN rfl (Cells.full (.tail (.tail .head))) rfl) ?_
      refine JL.step rfl rfl (OpW.call (first := []) (captured := []) inferInstance rfl rfl (formedT (xs := []) (a := none) (c := 0) (by simp) (by simp) hf RdO.nil0)) ?_; rintro r47 _ ⟨rfl, rfl⟩
      refine JL.pure rfl rfl (OpP.notB rfl) ?_
      refine JL.pure rfl rfl (OpP.pickF rfl rfl) ?_
      refine JL.nil ?_
      refine J.condF rfl ?_
      refine J.skip ?_
      refine J.seq ?_
      refine J.region ?_
      refine JL.read rfl rfl (OpR.loadN rfl (Cells.full (.tail (.tail .head))) rfl) ?_
      refine JL.mem0 rfl (by apply OpM.storeN rfl rfl (by rfl) (oneC rfl (oneC rfl (oneC rfl (one1 rfl)))); (case' hu => exact (.tail (.tail (.tail .head)))); (case' hs => exact (.here (.here (.here (.here .nil))))); done) ?_; rintro _ _ ⟨rfl, rfl⟩
      refine JL.nil ?_
      refine J.retC rfl rfl (by apply Cells.full; (with_reducible repeat (first | exact .head | apply Has.tail))) (by first | (rw [List.length_append, hdC_len (by first | assumption | exact Go.Proofs.B.shaB_length _ _ | solve_by_elim)]; rfl) | exact hdC_len (by first | assumption | exact Go.Proofs.B.shaB_length _ _ | solve_by_elim) | (rw [bcells_length]; first | assumption | exact Go.Proofs.B.shaB_length _ _ | solve_by_elim) | exact fc_length _ _ | exact fB_length _ _ | rfl) ?_
      exact ⟨_, .inl ⟨_, M'1, h39, rfl, hf, rfl, rfl⟩, fun _ h => Own.pick (pre := [_, _, _, _]) [0, 1] rfl h⟩
    · refine J.seq ?_
      refine J.region ?_
      refine JL.pure rfl rfl (OpP.move rfl) ?_
      refine JL.pure rfl rfl (OpP.nilCheck rfl) ?_
      refine JL.pure rfl rfl (OpP.fieldAddr rfl) ?_
      refine JL.pure rfl rfl (OpP.fieldAddr rfl) ?_
      refine JL.read rfl rfl (OpR.load1 rfl (Cell.row .head rfl)) ?_
      refine JL.pure rfl rfl (OpP.move rfl) ?_
      refine JL.read rfl rfl (OpR.loadN rfl (Cells.full (.tail (.tail .head))) rfl) ?_
      refine JL.step rfl rfl (OpW.call (first := []) (captured := []) inferInstance rfl rfl (formedF (xs := []) (a := none) (c := 0) (by simp) (by simp) hf RdO.nil0)) ?_; rintro r47 _ ⟨rfl, rfl⟩
      refine JL.pure rfl rfl (OpP.notB rfl) ?_
      refine JL.pure rfl rfl (OpP.pickF rfl rfl) ?_
      refine JL.nil ?_
      refine J.condT rfl ?_
      refine J.seq ?_
      refine J.region ?_
      refine JL.pure rfl rfl (OpP.move rfl) ?_
      refine JL.pure rfl rfl (OpP.nilCheck rfl) ?_
      refine JL.pure rfl rfl (OpP.fieldAddr rfl) ?_
      refine JL.step rfl rfl (OpW.call (first := []) (captured := []) inferInstance rfl rfl spoilI_ok) ?_; rintro r53 _ ⟨rfl, rfl⟩
      refine JL.nil ?_
      refine J.seq ?_
      refine J.region ?_
      refine JL.pure rfl rfl (OpP.build rfl (by (repeat (first | exact Fills.nil | (apply Fills.cons rfl rfl rfl; (case' hs => ((repeat (first | exact Spl.nil | apply Spl.here | apply Spl.there)); done))))))) ?_
      refine JL.mem0 rfl (by apply OpM.storeN rfl rfl (by rfl) (oneC rfl (oneC rfl (oneC rfl (one1 rfl)))); (case' hu => exact (.tail (.tail (.tail .head)))); (case' hs => exact (.here (.here (.here (.here .nil))))); done) ?_; rintro _ _ ⟨rfl, rfl⟩
      refine JL.nil ?_
      refine J.retC rfl rfl (by apply Cells.full; (with_reducible repeat (first | exact .head | apply Has.tail))) (by first | (rw [List.length_append, hdC_len (by first | assumption | exact Go.Proofs.B.shaB_length _ _ | solve_by_elim)]; rfl) | exact hdC_len (by first | assumption | exact Go.Proofs.B.shaB_length _ _ | solve_by_elim) | (rw [bcells_length]; first | assumption | exact Go.Proofs.B.shaB_length _ _ | solve_by_elim) | exact fc_length _ _ | exact fB_length _ _ | rfl) ?_
      exact ⟨_, .inr ⟨.inr hf, _, M'1, h39, rfl, rfl⟩, fun _ h => Own.pick (pre := [_, _, _, _]) [0, 1] rfl h⟩
end Go.Proofs.E

-- seat e
namespace Go.Proofs.E
open Go Go.Gp Go.RowKit

/-- A value, told by its parts. -/
structure Vv where
  k : Int
  i : Int
  s : List UInt8
  xs : List El
/-- What stands at the head of what is read: the rest, and the value. -/
def decO (o : Option (List UInt8)) : Option (List UInt8) := if numI o 1 = 5 then (lp (numI (restO o 1) 1) (restO (restO o 1) 1)).1 else elR o
def decV (o : Option (List UInt8)) : Vv := if numI o 1 = 5 then ⟨5, 0, [], (lp (numI (restO o 1) 1) (restO (restO o 1) 1)).2.map elP⟩ else ⟨(elV o).1, (elV o).2.1, (elV o).2.2, []⟩
abbrev Vv.Formed (V : Vv) : Prop := FormedP V.k V.i V.s V.xs
abbrev Vv.cells (V : Vv) (l : Value) : List Value := vcl V.k V.i V.s l
def InPost (g : Nat) (F : List HProp) (o : Option (List UInt8)) (V : Vv) (r : Value) (l' : List HProp) : Prop :=
  (∃ v' M' a c, M'.length ≤ 1000000000 ∧ o = some M' ∧ V.Formed ∧ r = .agg (V.cells (.slice a V.xs.length c)).toArray ∧ l' = own 29 4 (.slice a V.xs.length c) V.xs.length (V.xs.flatMap ecl) :: inL g false v' M' F) ∨
  ((o = none ∨ ¬ V.Formed) ∧ ∃ v' M', M'.length ≤ 1000000000 ∧ r = zeroV ∧ l' = inL g true v' M' F)
theorem inVal_ok {w0 : World} {F : List HProp} {g : Nat} {bad : Bool} {v : Value} {M : List UInt8} (hM : M.length ≤ 1000000000) :
    FnO Try.prog w0 22 [.pointer (some ⟨g, 0, none⟩)] (inL g bad v M F) (InPost g F (decO (absO bad M)) (decV (absO bad M))) := by
  by_cases hk : numI (absO bad M) 1 = 5
  · refine (inValBag hM hk).mono fun r l' h => ?_
    rw [decO, decV, if_pos hk, if_pos hk]
    rcases h with ⟨bad', v', M', a, c, h1, h2, h3, h4, h5, h6⟩ | h
    · subst h3
      exact .inl ⟨v', M', a, c, h1, h2.symm, h4, h5, h6⟩
    · exact .inr h
  · refine FnO.weak ((inValPlain hM hk).mono fun r l' h => ?_)
    rw [decO, decV, if_neg hk, if_neg hk]
    rcases h with ⟨v', M', h1, h2, h4, h5, h6⟩ | h
    · exact ⟨_, .inl ⟨v', M', none, 0, h1, h2, h4, h5, rfl⟩, fun w hw => by rw [h6] at hw; exact hw.own_nil⟩
    · exact ⟨_, .inr h, fun _ h => h⟩
theorem inVal_ok' {w0 : World} {F : List HProp} {g : Nat} {bad : Bool} {v : Value} {M : List UInt8} (hM : M.length ≤ 1000000000) :
    FnO Try.prog w0 22 [.pointer (some ⟨g, 0, none⟩)] (inL g bad v M F) (fun r l' => (∃ v' M' a c, M'.length ≤ 1000000000 ∧ decO (absO bad M) = some M' ∧ (decV (absO bad M)).Formed ∧ r = .agg #[.int .i64 (decV (absO bad M)).k, .int .i64 (decV (absO bad M)).i, .string (strB (decV (absO bad M)).s), .slice a (decV (absO bad M)).xs.length c] ∧ l' = own 29 4 (.slice a (decV (absO bad M)).xs.length c) (decV (absO bad M)).xs.length ((decV (absO bad M)).xs.flatMap ecl) :: inL g false v' M' F) ∨
      (∃ v' M', M'.length ≤ 1000000000 ∧ (decO (absO bad M) = none ∨ ¬ (decV (absO bad M)).Formed) ∧ r = .agg #[.int .i64 0, .int .i64 0, .string ByteArray.empty, .slice none 0 0] ∧ l' = inL g true v' M' F)) :=
  (inVal_ok hM).mono fun r l' h => by
    rcases h with ⟨v', M', a, c, h1, h2, h3, h4, h5⟩ | ⟨h1, v', M', h2, h3, h4⟩
    · exact .inl ⟨v', M', a, c, h1, h2, h3, h4, h5⟩
    · exact .inr ⟨v', M', h2, h1, h3, h4⟩
end Go.Proofs.E

-- seat e
namespace Go.Proofs.E
open Go Go.Gp Go.RowKit

theorem set_rep {m : Nat} {x z : Value} {L : List Value} : (List.replicate (m + 1) z ++ L).set m x = List.replicate m z ++ (x :: L) := by
  rw [List.replicate_succ', List.append_assoc, List.set_append_right _ _ (by simp), List.length_replicate, Nat.sub_self]; rfl
theorem number_ok {w0 : World} {F : List HProp} {n size : Nat} (hn : n < 18446744073709551616) (hs : size ≤ 8) :
    FnO Try.prog w0 58 [.int .u64 (n : Nat), .int .i64 (size : Nat)] F (fun r l' => (∃ a c, r = .slice a size c) ∧ l' = own 5 1 r size (bcells (be n size)) :: F) := by
  refine FnO.weak ?_
  refine FnO.intro (n := 24) Try.func58 rfl rfl rfl ?_
  refine J.seq ?_
  refine J.region ?_
  refine JL.pure rfl rfl (OpP.assign rfl) ?_
  refine JL.nil ?_
  refine J.seq ?_
  refine J.region ?_
  refine JL.pure rfl rfl (OpP.move rfl) ?_
  refine JL.mem rfl rfl (by apply OpM.make (by rfl) rfl rfl <;> omega) ?_; rintro _ _ ⟨b8, rfl, rfl⟩
  refine JL.pure rfl rfl (OpP.assign rfl) ?_
  refine JL.nil ?_
  refine J.seq ?_
  refine J.seq ?_
  refine J.region ?_
  refine JL.pure rfl rfl (OpP.move rfl) ?_
  refine JL.pure rfl rfl (OpP.subI rfl rfl (by omega) (by omega)) ?_
  refine JL.pure rfl rfl (OpP.assign rfl) ?_
  refine JL.nil ?_
  refine J.block ?_
  refine J.loopI (fun x : Nat × Nat => x.1) (fun x => x.1 ≤ size ∧ x.2 = n / 256 ^ (size - x.1)) (fun x => [(6, .int .i64 ((x.1 : Nat) - 1 : Int)), (0, .int .u64 (x.2 : Nat)), (5, .slice (some ⟨b8, 0, none⟩) size size)])
    (fun x => row b8 5 (List.replicate x.1 (.int .u8 0) ++ bcells (be n (size - x.1))) :: F) (size, n) ⟨Nat.le_refl _, by dsimp only; rw [Nat.sub_self, Nat.pow_zero, Nat.div_one]⟩ (by repeat (first | exact SubEnv.nil | refine SubEnv.cons (by first | rfl | exact congrArg (fun z => some (Value.int .i64 z)) (by omega) | (simp; done)) ?_)) (fun _ h => ?_) (fun ⟨k, N⟩ hi back => ?_)
  · dsimp only
    rw [Nat.sub_self, be, show bcells [] = [] from rfl, List.append_nil, ← rep_one]
    exact h
  dsimp only at hi back ⊢
  obtain ⟨hk, hN⟩ := hi
  cases k with
  | zero =>
    refine J.seq ?_
    refine J.seq ?_
    refine J.region ?_
    refine JL.pure rfl rfl (OpP.move rfl) ?_
    refine JL.decF rfl rfl (OpP.geq rfl rfl) (by omega) ?_
    refine JL.nil ?_
    refine J.condF rfl ?_
    refine J.exit rfl ?_
    refine J.seq ?_
    refine J.region ?_
    refine JL.pure rfl rfl (OpP.move rfl) ?_
    refine JL.pure rfl rfl (OpP.assign rfl) ?_
    refine JL.nil ?_
    refine J.ret1 rfl rfl ?_
    exact ⟨_, ⟨⟨_, _, rfl⟩, rfl⟩, fun _ h => Own.own_whole (by simp only [maxLen]; omega) (by rw [bcells_length, be_length]; omega) h⟩
  | succ m =>
    rw [show (((m + 1 : Nat) : Int) - 1) = (m : Nat) by omega]
    have hNb : N < 18446744073709551616 := by rw [hN]; exact Nat.lt_of_le_of_lt (Nat.div_le_self _ _) hn
    have hlen : m < (List.replicate (m + 1) (Value.int .u8 0) ++ bcells (be n (size - (m + 1)))).length := by rw [List.length_append, List.length_replicate]; omega
    refine J.seq ?_
    refine J.seq ?_
    refine J.region ?_
    refine JL.pure rfl rfl (OpP.move rfl) ?_
    refine JL.decT rfl rfl (OpP.geq rfl rfl) (by omega) ?_
    refine JL.nil ?_
    refine J.condT rfl ?_
    refine J.skip ?_
    refine J.seq ?_
    refine J.block ?_
    refine J.seq ?_
    refine J.region ?_
    refine JL.pure rfl rfl (OpP.move rfl) ?_
    refine JL.pure rfl rfl (OpP.move rfl) ?_
    refine JL.pure rfl rfl (OpP.move rfl) ?_
    refine JL.pure rfl rfl (OpP.remI rfl rfl (by first | omega | exact Int.natCast_nonneg _) (by omega)) ?_
    refine JL.pure rfl rfl (OpP.convI rfl (by simp [IntKind.min, IntKind.max, IntKind.signed, IntKind.bits] <;> omega) (by simp [IntKind.min, IntKind.max, IntKind.signed, IntKind.bits] <;> omega)) ?_
    refine JL.pure rfl rfl (OpP.indexAddr rfl rfl (by omega) (by omega)) ?_
    refine JL.mem0 rfl (by apply OpM.store1 rfl rfl rfl; (case' hu => exact .head); (case' hs => exact spl_at rfl (by first | assumption | omega)); done) ?_; rintro _ _ ⟨rfl, rfl⟩
    refine JL.nil ?_
    refine J.region ?_
    refine JL.pure rfl rfl (OpP.move rfl) ?_
    refine JL.pure rfl rfl (OpP.quoI rfl rfl (by omega) (by omega) (by first | decide | (simp only [IntKind.max]; omega) | (simp [IntKind.max, IntKind.signed, IntKind.bits]; omega))) ?_
    refine JL.pure rfl rfl (OpP.assign rfl) ?_
    refine JL.nil ?_
    refine J.inBlock ?_
    refine J.region ?_
    refine JL.pure rfl rfl (OpP.move rfl) ?_
    refine JL.pure rfl rfl (OpP.subI rfl rfl (by omega) (by omega)) ?_
    refine JL.pure rfl rfl (OpP.assign rfl) ?_
    refine JL.nil ?_
    refine back (m, N / 256) ⟨by dsimp only; omega, by dsimp only; rw [hN, Nat.div_div_eq_div_mul, ← Nat.pow_succ, show (size - (m + 1)).succ = size - m by omega]⟩ (Nat.lt_succ_self m) (by repeat (first | exact SubEnv.nil | refine SubEnv.cons (by first | rfl | exact congrArg (fun z => some (Value.int .i64 z)) (by omega) | (simp; done)) ?_)) (fun _ h => ?_)
    dsimp only
    rw [show size - m = size - (m + 1) + 1 by omega, be, ← hN]
    rw [show (0 + ((m : Nat) : Int).toNat * 1) = m by omega, set_rep] at h
    have e : Value.int .u8 ((N : Int) % 256) = u8c (UInt8.ofNat N) := by rw [← wrapB, wrap_u8]
    rw [e] at h
    exact h
end Go.Proofs.E

-- seat e
namespace Go.Proofs.E
open Go Go.Gp Go.RowKit

theorem number8_ok {w0 : World} {F : List HProp} {i : Int} :
    FnO Try.prog w0 58 [.int .u64 (IntKind.u64.wrap i), .int .i64 8] F (fun r l' => (∃ a c, r = .slice a 8 c) ∧ l' = own 5 1 r 8 (bcells (be (u64 i) 8)) :: F) := by
  rw [u64_wrap]
  exact number_ok (size := 8) (u64_lt i) (Nat.le_refl _)
theorem number8p_ok {w0 : World} {F : List HProp} {i : Int} (h0 : 0 ≤ i) (h1 : i ≤ 1099511627776) :
    FnO Try.prog w0 58 [.int .u64 i, .int .i64 8] F (fun r l' => (∃ a c, r = .slice a 8 c) ∧ l' = own 5 1 r 8 (bcells (be (u64 i) 8)) :: F) := by
  obtain ⟨m, rfl⟩ := Int.eq_ofNat_of_zero_le h0
  have e : u64 (m : Nat) = m := by unfold u64; omega
  rw [e]
  exact number_ok (size := 8) (by omega) (Nat.le_refl _)
theorem number2_ok {w0 : World} {F : List HProp} {n : Nat} (hn : n < 18446744073709551616) :
    FnO Try.prog w0 58 [.int .u64 (n : Nat), .int .i64 2] F (fun r l' => (∃ a c, r = .slice a 2 c) ∧ l' = own 5 1 r 2 (bcells (be n 2)) :: F) :=
  number_ok (size := 2) hn (by omega)
theorem bcells_app {a b : List UInt8} : bcells (a ++ b) = bcells a ++ bcells b := List.map_append
/-- Some bytes of its own. -/
abbrev Told (w0 : World) (f : FuncId) (args : List Value) (F : List HProp) (L : List UInt8) : Prop :=
  FnO Try.prog w0 f args F (fun r l' => (∃ a c, r = .slice a L.length c) ∧ l' = own 5 1 r L.length (bcells L) :: F)
theorem refValP_ok {w0 : World} {F : List HProp} {s : List UInt8} {k i : Int} {a : Option Addr} {n c : Nat} (hf : Plain k i s n) : Told w0 29 [.agg (vcl k i s (.slice a n c)).toArray] F (valP k i s) := by
  have es := strB_size s
  have hs : s.length ≤ 64 := by omega
  have hb2 : (bcells (be s.length 2)).length = 2 * 1 := by rw [bcells_length, be_length]
  have hb8 : (bcells (be (u64 i) 8)).length = 8 * 1 := by rw [bcells_length, be_length]
  refine FnO.weak ?_
  rcases hf.2.2 with ⟨rfl, rfl⟩ | ⟨rfl, hi⟩ | rfl | ⟨rfl, rfl, hs2⟩ | ⟨rfl, hi⟩
  · refine FnO.intro (n := 66) Try.func29 rfl rfl rfl ?_
    refine J.seq ?_
    refine J.region ?_
    refine JL.mem rfl rfl (OpM.box rfl rfl) ?_; rintro _ _ ⟨b1, rfl, rfl⟩
    refine JL.pure rfl rfl (OpP.assign rfl) ?_
    refine JL.nil ?_
    refine J.seq ?_
    refine J.region ?_
    refine JL.pure rfl rfl (OpP.fieldAddr rfl) ?_
    refine JL.read rfl rfl (OpR.load1 rfl (Cell.row .head rfl)) ?_
    refine JL.pure rfl rfl (OpP.convI rfl (by decide) (by decide)) ?_
    refine JL.mem rfl rfl (by apply OpM.buildSlice (by rfl) rfl (by rfl); (repeat (first | exact Fills.nil | (apply Fills.cons rfl rfl rfl; (case' hs => ((repeat (first | exact Spl.nil | apply Spl.here | apply Spl.there)); done)))))) ?_; rintro _ _ ⟨b8, rfl, rfl⟩
    refine JL.pure rfl rfl (OpP.assign rfl) ?_
    refine JL.nil ?_
    refine J.seq ?_
    refine J.seq ?_
    refine J.region ?_
    refine JL.pure rfl rfl (OpP.fieldAddr rfl) ?_
    refine JL.read rfl rfl (OpR.load1 rfl (Cell.row (.tail .head) rfl)) ?_
    refine JL.nil ?_
    refine J.block ?_
    refine J.seq ?_
    refine J.region ?_
    refine JL.decF rfl rfl (OpP.eql rfl rfl) (by omega) ?_
    refine JL.pure rfl rfl (OpP.assign rfl) ?_
    refine JL.nil ?_
    refine J.condF rfl ?_
    refine J.seq ?_
    refine J.seq ?_
    refine J.region ?_
    refine JL.decF rfl rfl (OpP.eql rfl rfl) (by omega) ?_
    refine JL.pure rfl rfl (OpP.assign rfl) ?_
    refine JL.nil ?_
    refine J.condF rfl ?_
    refine J.region ?_
    refine JL.decF rfl rfl (OpP.eql rfl rfl) (by omega) ?_
    refine JL.pure rfl rfl (OpP.assign rfl) ?_
    refine JL.nil ?_
    refine J.condF rfl ?_
    refine J.seq ?_
    refine J.region ?_
    refine JL.decF rfl rfl (OpP.eql rfl rfl) (by omega) ?_
    refine JL.pure rfl rfl (OpP.assign rfl) ?_
    refine JL.nil ?_
    refine J.condF rfl ?_
    refine J.seq ?_
    refine J.region ?_
    refine JL.decF rfl rfl (OpP.eql rfl rfl) (by omega) ?_
    refine JL.pure rfl rfl (OpP.assign rfl) ?_
    refine JL.nil ?_
    refine J.condF rfl ?_
    refine J.skip ?_
    refine J.inBlock ?_
    refine J.seq ?_
    refine J.region ?_
    refine JL.pure rfl rfl (OpP.move rfl) ?_
    refine JL.pure rfl rfl (OpP.assign rfl) ?_
    refine JL.nil ?_
    refine J.ret1 rfl rfl ?_
    rw [show valP 0 0 s = [0] by rw [valP, body0]; rfl]
    exact ⟨_, ⟨⟨_, _, rfl⟩, rfl⟩, fun _ h => Own.own_whole (n := 1) (by decide) rfl (Own.pick (pre := [_, _]) [0] rfl h)⟩
  · refine FnO.intro (n := 66) Try.func29 rfl rfl rfl ?_
    refine J.seq ?_
    refine J.region ?_
    refine JL.mem rfl rfl (OpM.box rfl rfl) ?_; rintro _ _ ⟨b1, rfl, rfl⟩
    refine JL.pure rfl rfl (OpP.assign rfl) ?_
    refine JL.nil ?_
    refine J.seq ?_
    refine J.region ?_
    refine JL.pure rfl rfl (OpP.fieldAddr rfl) ?_
    refine JL.read rfl rfl (OpR.load1 rfl (Cell.row .head rfl)) ?_
    refine JL.pure rfl rfl (OpP.convI rfl (by decide) (by decide)) ?_
    refine JL.mem rfl rfl (by apply OpM.buildSlice (by rfl) rfl (by rfl); (repeat (first | exact Fills.nil | (apply Fills.cons rfl rfl rfl; (case' hs => ((repeat (first | exact Spl.nil | apply Spl.here | apply Spl.there)); done)))))) ?_; rintro _ _ ⟨b8, rfl, rfl⟩
    refine JL.pure rfl rfl (OpP.assign rfl) ?_
    refine JL.nil ?_
    refine J.seq ?_
    refine J.seq ?_
    refine J.region ?_
    refine JL.pure rfl rfl (OpP.fieldAddr rfl) ?_
    refine JL.read rfl rfl (OpR.load1 rfl (Cell.row (.tail .head) rfl)) ?_
    refine JL.nil ?_
    refine J.block ?_
    refine J.seq ?_
    refine J.region ?_
    refine JL.decT rfl rfl (OpP.eql rfl rfl) (by omega) ?_
    refine JL.pure rfl rfl (OpP.assign rfl) ?_
    refine JL.nil ?_
    refine J.condT rfl ?_
    refine J.region ?_
    refine JL.pure rfl rfl (OpP.move rfl) ?_
    refine JL.pure rfl rfl (OpP.fieldAddr rfl) ?_
    refine JL.read rfl rfl (OpR.load1 rfl (Cell.row (.tail .head) rfl)) ?_
    refine JL.pure rfl rfl (OpP.convI rfl (by simp [IntKind.min, IntKind.max, IntKind.signed, IntKind.bits] <;> omega) (by simp [IntKind.min, IntKind.max, IntKind.signed, IntKind.bits] <;> omega)) ?_
    refine JL.mem rfl rfl (by apply OpM.buildSlice (by rfl) rfl (by rfl); (repeat (first | exact Fills.nil | (apply Fills.cons rfl rfl rfl; (case' hs => ((repeat (first | exact Spl.nil | apply Spl.here | apply Spl.there)); done)))))) ?_; rintro _ _ ⟨b17, rfl, rfl⟩
    refine JL.f1 ?_; refine JL.ownRow (n := 1) (sz := 1) (by decide) rfl ?_
    refine JL.mem rfl rfl (OpM.appendH rfl (.inl ⟨_, Sl.und inferInstance⟩) (by rfl) rfl rfl (RdO.src (RdO.ofRow (.tail .head) (by first | exact Nat.le_refl _ | decide | omega)) (by first | assumption | exact fc_length _ _ | (simp; done) | (simp; omega))) (one1 rfl) (by simp only [maxLen]; omega) (by omega)) ?_; rintro _ _ ⟨⟨a18, c18, rfl⟩, rfl⟩
    refine JL.pure rfl rfl (OpP.assign rfl) ?_
    refine JL.nil ?_
    refine J.inBlock ?_
    refine J.seq ?_
    refine J.region ?_
    refine JL.pure rfl rfl (OpP.move rfl) ?_
    refine JL.pure rfl rfl (OpP.assign rfl) ?_
    refine JL.nil ?_
    refine J.ret1 rfl rfl ?_
    rcases hi with rfl | rfl
    · rw [show valP 1 0 s = [1, 0] by rw [valP, body1]; rfl]
      exact ⟨_, ⟨⟨_, _, rfl⟩, rfl⟩, fun _ h => Own.pick (pre := [_, _, _]) [0] rfl h⟩
    · rw [show valP 1 1 s = [1, 1] by rw [valP, body1]; rfl]
      exact ⟨_, ⟨⟨_, _, rfl⟩, rfl⟩, fun _ h => Own.pick (pre := [_, _, _]) [0] rfl h⟩
  · refine FnO.intro (n := 66) Try.func29 rfl rfl rfl ?_
    refine J.seq ?_
    refine J.region ?_
    refine JL.mem rfl rfl (OpM.box rfl rfl) ?_; rintro _ _ ⟨b1, rfl, rfl⟩
    refine JL.pure rfl rfl (OpP.assign rfl) ?_
    refine JL.nil ?_
    refine J.seq ?_
    refine J.region ?_
    refine JL.pure rfl rfl (OpP.fieldAddr rfl) ?_
    refine JL.read rfl rfl (OpR.load1 rfl (Cell.row .head rfl)) ?_
    refine JL.pure rfl rfl (OpP.convI rfl (by decide) (by decide)) ?_
    refine JL.mem rfl rfl (by apply OpM.buildSlice (by rfl) rfl (by rfl); (repeat (first | exact Fills.nil | (apply Fills.cons rfl rfl rfl; (case' hs => ((repeat (first | exact Spl.nil | apply Spl.here | apply Spl.there)); done)))))) ?_; rintro _ _ ⟨b8, rfl, rfl⟩
    refine JL.pure rfl rfl (OpP.assign rfl) ?_
    refine JL.nil ?_
    refine J.seq ?_
    refine J.seq ?_
    refine J.region ?_
    refine JL.pure rfl rfl (OpP.fieldAddr rfl) ?_
    refine JL.read rfl rfl (OpR.load1 rfl (Cell.row (.tail .head) rfl)) ?_
    refine JL.nil ?_
    refine J.block ?_
    refine J.seq ?_
    refine J.region ?_
    refine JL.decF rfl rfl (OpP.eql rfl rfl) (by omega) ?_
    refine JL.pure rfl rfl (OpP.assign rfl) ?_
    refine JL.nil ?_
    refine J.condF rfl ?_
    refine J.seq ?_
    refine J.seq ?_
    refine J.region ?_
    refine JL.decT rfl rfl (OpP.eql rfl rfl) (by omega) ?_
    refine JL.pure rfl rfl (OpP.assign rfl) ?_
    refine JL.nil ?_
    refine J.condT rfl ?_
    refine J.skip ?_
    refine J.condT rfl ?_
    refine J.region ?_
    refine JL.pure rfl rfl (OpP.move rfl) ?_
    refine JL.pure rfl rfl (OpP.fieldAddr rfl) ?_
    refine JL.read rfl rfl (OpR.load1 rfl (Cell.row (.tail .head) rfl)) ?_
    refine JL.pure rfl rfl (OpP.conv rfl) ?_
    refine JL.step rfl rfl (OpW.call (first := []) (captured := []) inferInstance rfl rfl number8_ok) ?_; rintro r26 _ ⟨⟨a1, ⟨c1, rfl⟩⟩, rfl⟩
    refine JL.f1 ?_; refine JL.ownRow (n := 1) (sz := 1) (by decide) rfl ?_
    refine JL.mem rfl rfl (OpM.appendH rfl (.inl ⟨_, Sl.und inferInstance⟩) (by rfl) rfl rfl (RdO.src (RdO.own (.tail .head)) (by first | assumption | exact fc_length _ _ | (simp; done) | (simp; omega))) (by first | exact bcells_one _ | exact scells_one _ | exact icells_one _ | assumption | exact fc_one fun _ => rfl) (by simp only [maxLen]; omega) (by omega)) ?_; rintro _ _ ⟨⟨a27, c27, rfl⟩, rfl⟩
    refine JL.pure rfl rfl (OpP.assign rfl) ?_
    refine JL.nil ?_
    refine J.inBlock ?_
    refine J.seq ?_
    refine J.region ?_
    refine JL.pure rfl rfl (OpP.move rfl) ?_
    refine JL.pure rfl rfl (OpP.assign rfl) ?_
    refine JL.nil ?_
    refine J.ret1 rfl rfl ?_
    rw [show valP 2 i s = 2 :: be (u64 i) 8 by rw [valP, body2]; rfl]
    exact ⟨_, ⟨⟨_, _, rfl⟩, rfl⟩, fun _ h => Own.pick (pre := [_, _, _]) [0] rfl h⟩
  · refine FnO.intro (n := 66) Try.func29 rfl rfl rfl ?_
    refine J.seq ?_
    refine J.region ?_
    refine JL.mem rfl rfl (OpM.box rfl rfl) ?_; rintro _ _ ⟨b1, rfl, rfl⟩
    refine JL.pure rfl rfl (OpP.assign rfl) ?_
    refine JL.nil ?_
    refine J.seq ?_
    refine J.region ?_
    refine JL.pure rfl rfl (OpP.fieldAddr rfl) ?_
    refine JL.read rfl rfl (OpR.load1 rfl (Cell.row .head rfl)) ?_
    refine JL.pure rfl rfl (OpP.convI rfl (by decide) (by decide)) ?_
    refine JL.mem rfl rfl (by apply OpM.buildSlice (by rfl) rfl (by rfl); (repeat (first | exact Fills.nil | (apply Fills.cons rfl rfl rfl; (case' hs => ((repeat (first | exact Spl.nil | apply Spl.here | apply Spl.there)); done)))))) ?_; rintro _ _ ⟨b8, rfl, rfl⟩
    refine JL.pure rfl rfl (OpP.assign rfl) ?_
    refine JL.nil ?_
    refine J.seq ?_
    refine J.seq ?_
    refine J.region ?_
    refine JL.pure rfl rfl (OpP.fieldAddr rfl) ?_
    refine JL.read rfl rfl (OpR.load1 rfl (Cell.row (.tail .head) rfl)) ?_
    refine JL.nil ?_
    refine J.block ?_
    refine J.seq ?_
    refine J.region ?_
    refine JL.decF rfl rfl (OpP.eql rfl rfl) (by omega) ?_
    refine JL.pure rfl rfl (OpP.assign rfl) ?_
    refine JL.nil ?_
    refine J.condF rfl ?_
    refine J.seq ?_
    refine J.seq ?_
    refine J.region ?_
    refine JL.decF rfl rfl (OpP.eql rfl rfl) (by omega) ?_
    refine JL.pure rfl rfl (OpP.assign rfl) ?_
    refine JL.nil ?_
    refine J.condF rfl ?_
    refine J.region ?_
    refine JL.decF rfl rfl (OpP.eql rfl rfl) (by omega) ?_
    refine JL.pure rfl rfl (OpP.assign rfl) ?_
    refine JL.nil ?_
    refine J.condF rfl ?_
    refine J.seq ?_
    refine J.region ?_
    refine JL.decT rfl rfl (OpP.eql rfl rfl) (by omega) ?_
    refine JL.pure rfl rfl (OpP.assign rfl) ?_
    refine JL.nil ?_
    refine J.condT rfl ?_
    refine J.seq ?_
    refine J.region ?_
    refine JL.pure rfl rfl (OpP.move rfl) ?_
    refine JL.pure rfl rfl (OpP.fieldAddr rfl) ?_
    refine JL.read rfl rfl (OpR.load1 rfl (Cell.row (.tail .head) rfl)) ?_
    refine JL.pure rfl rfl (OpP.lenStr rfl rfl) ?_
    refine JL.pure rfl rfl (OpP.convI rfl (by simp [IntKind.min, IntKind.max, IntKind.signed, IntKind.bits] <;> omega) (by simp [IntKind.min, IntKind.max, IntKind.signed, IntKind.bits] <;> omega)) ?_
    refine JL.step rfl rfl (OpW.call (first := []) (captured := []) inferInstance rfl rfl (number2_ok (by omega))) ?_; rintro r35 _ ⟨⟨a1, ⟨c1, rfl⟩⟩, rfl⟩
    refine JL.f1 ?_; refine JL.ownRow (n := 1) (sz := 1) (by decide) rfl ?_
    refine JL.mem rfl rfl (OpM.appendH rfl (.inl ⟨_, Sl.und inferInstance⟩) (by rfl) rfl rfl (RdO.src (RdO.own (.tail .head)) (by first | assumption | exact fc_length _ _ | (simp; done) | (simp; omega))) (by first | exact bcells_one _ | exact scells_one _ | exact icells_one _ | assumption | exact fc_one fun _ => rfl) (by simp only [maxLen]; omega) (by omega)) ?_; rintro _ _ ⟨⟨a36, c36, rfl⟩, rfl⟩
    refine JL.pure rfl rfl (OpP.assign rfl) ?_
    refine JL.nil ?_
    refine J.region ?_
    refine JL.pure rfl rfl (OpP.move rfl) ?_
    refine JL.pure rfl rfl (OpP.fieldAddr rfl) ?_
    refine JL.read rfl rfl (OpR.load1 rfl (Cell.row (.tail (.tail .head)) rfl)) ?_
    refine JL.mem rfl rfl (OpM.appendH rfl (.inr StrT.h) (by rfl) rfl rfl Src.str (bcells_one _) (by simp only [maxLen]; omega) (by omega)) ?_; rintro _ _ ⟨⟨a40, c40, rfl⟩, rfl⟩
    refine JL.pure rfl rfl (OpP.assign rfl) ?_
    refine JL.nil ?_
    refine J.inBlock ?_
    refine J.seq ?_
    refine J.region ?_
    refine JL.pure rfl rfl (OpP.move rfl) ?_
    refine JL.pure rfl rfl (OpP.assign rfl) ?_
    refine JL.nil ?_
    refine J.ret1 rfl rfl ?_
    have hv : valP 3 0 s = 3 :: (be s.length 2 ++ s) := by rw [valP, body3]; rfl
    have hl : (valP 3 0 s).length = 1 + 2 + (strB s).size := by rw [hv, List.length_cons, List.length_append, be_length]; omega
    have hc : bcells (valP 3 0 s) = [Value.int .u8 3] ++ bcells (be (strB s).size 2) ++ bcells (strB s).data.toList := by rw [hv, es, strB_data, List.append_assoc, ← bcells_app]; rfl
    rw [hl, hc]
    exact ⟨_, ⟨⟨_, _, rfl⟩, rfl⟩, fun _ h => Own.pick (pre := [_, _, _]) [0] rfl h⟩
  · refine FnO.intro (n := 66) Try.func29 rfl rfl rfl ?_
    refine J.seq ?_
    refine J.region ?_
    refine JL.mem rfl rfl (OpM.box rfl rfl) ?_; rintro _ _ ⟨b1, rfl, rfl⟩
    refine JL.pure rfl rfl (OpP.assign rfl) ?_
    refine JL.nil ?_
    refine J.seq ?_
    refine J.region ?_
    refine JL.pure rfl rfl (OpP.fieldAddr rfl) ?_
    refine JL.read rfl rfl (OpR.load1 rfl (Cell.row .head rfl)) ?_
    refine JL.pure rfl rfl (OpP.convI rfl (by decide) (by decide)) ?_
    refine JL.mem rfl rfl (by apply OpM.buildSlice (by rfl) rfl (by rfl); (repeat (first | exact Fills.nil | (apply Fills.cons rfl rfl rfl; (case' hs => ((repeat (first | exact Spl.nil | apply Spl.here | apply Spl.there)); done)))))) ?_; rintro _ _ ⟨b8, rfl, rfl⟩
    refine JL.pure rfl rfl (OpP.assign rfl) ?_
    refine JL.nil ?_
    refine J.seq ?_
    refine J.seq ?_
    refine J.region ?_
    refine JL.pure rfl rfl (OpP.fieldAddr rfl) ?_
    refine JL.read rfl rfl (OpR.load1 rfl (Cell.row (.tail .head) rfl)) ?_
    refine JL.nil ?_
    refine J.block ?_
    refine J.seq ?_
    refine J.region ?_
    refine JL.decF rfl rfl (OpP.eql rfl rfl) (by omega) ?_
    refine JL.pure rfl rfl (OpP.assign rfl) ?_
    refine JL.nil ?_
    refine J.condF rfl ?_
    refine J.seq ?_
    refine J.seq ?_
    refine J.region ?_
    refine JL.decF rfl rfl (OpP.eql rfl rfl) (by omega) ?_
    refine JL.pure rfl rfl (OpP.assign rfl) ?_
    refine JL.nil ?_
    refine J.condF rfl ?_
    refine J.region ?_
    refine JL.decT rfl rfl (OpP.eql rfl rfl) (by omega) ?_
    refine JL.pure rfl rfl (OpP.assign rfl) ?_
    refine JL.nil ?_
    refine J.condT rfl ?_
    refine J.region ?_
    refine JL.pure rfl rfl (OpP.move rfl) ?_
    refine JL.pure rfl rfl (OpP.fieldAddr rfl) ?_
    refine JL.read rfl rfl (OpR.load1 rfl (Cell.row (.tail .head) rfl)) ?_
    refine JL.pure rfl rfl (OpP.convI rfl (by simp [IntKind.min, IntKind.max, IntKind.signed, IntKind.bits] <;> omega) (by simp [IntKind.min, IntKind.max, IntKind.signed, IntKind.bits] <;> omega)) ?_
    refine JL.step rfl rfl (OpW.call (first := []) (captured := []) inferInstance rfl rfl (number8p_ok hi.1 hi.2)) ?_; rintro r26 _ ⟨⟨a1, ⟨c1, rfl⟩⟩, rfl⟩
    refine JL.f1 ?_; refine JL.ownRow (n := 1) (sz := 1) (by decide) rfl ?_
    refine JL.mem rfl rfl (OpM.appendH rfl (.inl ⟨_, Sl.und inferInstance⟩) (by rfl) rfl rfl (RdO.src (RdO.own (.tail .head)) (by first | assumption | exact fc_length _ _ | (simp; done) | (simp; omega))) (by first | exact bcells_one _ | exact scells_one _ | exact icells_one _ | assumption | exact fc_one fun _ => rfl) (by simp only [maxLen]; omega) (by omega)) ?_; rintro _ _ ⟨⟨a27, c27, rfl⟩, rfl⟩
    refine JL.pure rfl rfl (OpP.assign rfl) ?_
    refine JL.nil ?_
    refine J.inBlock ?_
    refine J.seq ?_
    refine J.region ?_
    refine JL.pure rfl rfl (OpP.move rfl) ?_
    refine JL.pure rfl rfl (OpP.assign rfl) ?_
    refine JL.nil ?_
    refine J.ret1 rfl rfl ?_
    rw [show valP 4 i s = 4 :: be (u64 i) 8 by rw [valP, body4]; rfl]
    exact ⟨_, ⟨⟨_, _, rfl⟩, rfl⟩, fun _ h => Own.pick (pre := [_, _, _]) [0] rfl h⟩
end Go.Proofs.E

-- seat e
namespace Go.Proofs.E
open Go Go.Gp Go.RowKit

theorem refVal_ok {w0 : World} {F : List HProp} {s : List UInt8} {k i : Int} {a : Option Addr} {c : Nat} {xs : List El} (hn : xs.length ≤ 9223372036854775807) (hf : FormedP k i s xs) (hr : RdO w0 F (.slice a xs.length c) xs.length (xs.flatMap ecl)) : Told w0 29 [.agg (vcl k i s (.slice a xs.length c)).toArray] F (valB k i s xs) := by
  by_cases hk : k = 5
  · subst hk
    have hf2 := hf
    rw [FormedP, if_neg (by decide)] at hf2
    obtain ⟨hi0, hs0, hn16, hg⟩ := hf2
    have hlen : ∀ e ∈ xs, (ecl e).length = 4 := fun _ _ => rfl
    have hle := valB_le hf
    rw [valB, if_pos rfl] at hle ⊢
    refine FnO.rdF (fun _ h => h) hr fun hr1 => ?_
    refine FnO.weak ?_
    refine FnO.intro (n := 66) Try.func29 rfl rfl rfl ?_
    refine J.seq ?_
    refine J.region ?_
    refine JL.mem rfl rfl (OpM.box rfl rfl) ?_; rintro _ _ ⟨b1, rfl, rfl⟩
    refine JL.pure rfl rfl (OpP.assign rfl) ?_
    refine JL.nil ?_
    refine J.seq ?_
    refine J.region ?_
    refine JL.pure rfl rfl (OpP.fieldAddr rfl) ?_
    refine JL.read rfl rfl (OpR.load1 rfl (Cell.row .head rfl)) ?_
    refine JL.pure rfl rfl (OpP.convI rfl (by decide) (by decide)) ?_
    refine JL.mem rfl rfl (by apply OpM.buildSlice (by rfl) rfl (by rfl); (repeat (first | exact Fills.nil | (apply Fills.cons rfl rfl rfl; (case' hs => ((repeat (first | exact Spl.nil | apply Spl.here | apply Spl.there)); done)))))) ?_; rintro _ _ ⟨b8, rfl, rfl⟩
    refine JL.pure rfl rfl (OpP.assign rfl) ?_
    refine JL.nil ?_
    refine J.seq ?_
    refine J.seq ?_
    refine J.region ?_
    refine JL.pure rfl rfl (OpP.fieldAddr rfl) ?_
    refine JL.read rfl rfl (OpR.load1 rfl (Cell.row (.tail .head) rfl)) ?_
    refine JL.nil ?_
    refine J.block ?_
    refine J.seq ?_
    refine J.region ?_
    refine JL.decF rfl rfl (OpP.eql rfl rfl) (by omega) ?_
    refine JL.pure rfl rfl (OpP.assign rfl) ?_
    refine JL.nil ?_
    refine J.condF rfl ?_
    refine J.seq ?_
    refine J.seq ?_
    refine J.region ?_
    refine JL.decF rfl rfl (OpP.eql rfl rfl) (by omega) ?_
    refine JL.pure rfl rfl (OpP.assign rfl) ?_
    refine JL.nil ?_
    refine J.condF rfl ?_
    refine J.region ?_
    refine JL.decF rfl rfl (OpP.eql rfl rfl) (by omega) ?_
    refine JL.pure rfl rfl (OpP.assign rfl) ?_
    refine JL.nil ?_
    refine J.condF rfl ?_
    refine J.seq ?_
    refine J.region ?_
    refine JL.decF rfl rfl (OpP.eql rfl rfl) (by omega) ?_
    refine JL.pure rfl rfl (OpP.assign rfl) ?_
    refine JL.nil ?_
    refine J.condF rfl ?_
    refine J.seq ?_
    refine J.region ?_
    refine JL.decT rfl rfl (OpP.eql rfl rfl) (by omega) ?_
    refine JL.pure rfl rfl (OpP.assign rfl) ?_
    refine JL.nil ?_
    refine J.condT rfl ?_
    refine J.seq ?_
    refine J.region ?_
    refine JL.pure rfl rfl (OpP.move rfl) ?_
    refine JL.pure rfl rfl (OpP.fieldAddr rfl) ?_
    refine JL.read rfl rfl (OpR.load1 rfl (Cell.row (.tail .head) rfl)) ?_
    refine JL.pure rfl rfl (OpP.len rfl rfl) ?_
    refine JL.pure rfl rfl (OpP.convI rfl (by simp [IntKind.min, IntKind.max, IntKind.signed, IntKind.bits] <;> omega) (by simp [IntKind.min, IntKind.max, IntKind.signed, IntKind.bits] <;> omega)) ?_
    refine JL.mem rfl rfl (by apply OpM.buildSlice (by rfl) rfl (by rfl); (repeat (first | exact Fills.nil | (apply Fills.cons rfl rfl rfl; (case' hs => ((repeat (first | exact Spl.nil | apply Spl.here | apply Spl.there)); done)))))) ?_; rintro _ _ ⟨b48, rfl, rfl⟩
    refine JL.f1 ?_; refine JL.ownRow (n := 1) (sz := 1) (by decide) rfl ?_
    refine JL.mem rfl rfl (OpM.appendH rfl (.inl ⟨_, Sl.und inferInstance⟩) (by rfl) rfl rfl (RdO.src (RdO.ofRow (.tail .head) (by first | exact Nat.le_refl _ | decide | omega)) (by first | assumption | exact fc_length _ _ | (simp; done) | (simp; omega))) (one1 rfl) (by simp only [maxLen]; omega) (by omega)) ?_; rintro _ _ ⟨⟨a49, c49, rfl⟩, rfl⟩
    refine JL.pure rfl rfl (OpP.assign rfl) ?_
    refine JL.nil ?_
    refine J.seq ?_
    refine J.region ?_
    refine JL.pure rfl rfl (OpP.assign rfl) ?_
    refine JL.nil ?_
    refine J.block ?_
    refine J.loopI (fun x : Nat × Value × List UInt8 => xs.length - x.1) (fun x => x.1 ≤ xs.length ∧ x.2.2 = be 5 1 ++ (be xs.length 1 ++ (xs.take x.1).flatMap fun e => valP e.k e.i e.s)) (fun x => [(4, .int .i64 (x.1 : Nat)), (3, x.2.1), (1, .pointer (some ⟨b1, 0, none⟩))])
      (fun x => own 5 1 x.2.1 x.2.2.length (bcells x.2.2) :: row b1 29 (vcl 5 i s (.slice a xs.length c)) :: F) (0, .slice a49 (1 + 1) c49, be 5 1 ++ be xs.length 1) ⟨Nat.zero_le _, by dsimp only; rw [List.take_zero, List.flatMap_nil, List.append_nil]⟩ (by repeat (first | exact SubEnv.nil | refine SubEnv.cons (by first | rfl | exact congrArg (fun z => some (Value.int .i64 z)) (by omega) | (simp; done)) ?_)) (fun _ h => ?_) (fun ⟨j, u, L⟩ hi back => ?_)
    · have e : Value.int .u8 ((xs.length : Nat) : Int) = u8c (UInt8.ofNat (xs.length / 256 ^ 0)) := by
        rw [Nat.pow_zero, Nat.div_one, ← wrapB, wrap_u8]
        congr 1
        omega
      rw [e] at h
      exact Own.pick (pre := [_, _, _]) [0, 2] rfl h
    dsimp only at hi back ⊢
    obtain ⟨hj, hL⟩ := hi
    by_cases hlt : j < xs.length
    · obtain ⟨e, he⟩ : ∃ e, xs[j]? = some e := ⟨_, List.getElem?_eq_getElem hlt⟩
      have hpe := (hg j e he).1
      have hbe : (bcells (valP e.k e.i e.s)).length = (valP e.k e.i e.s).length * 1 := by rw [bcells_length]; omega
      have hpl := valP_le hpe
      have hLl : L.length ≤ 2000 := by
        have h1 : xs.flatMap (fun e => valP e.k e.i e.s) = (xs.take j).flatMap (fun e => valP e.k e.i e.s) ++ (xs.drop j).flatMap (fun e => valP e.k e.i e.s) := by rw [← List.flatMap_append, List.take_append_drop]
        rw [h1] at hle
        rw [hL]
        simp only [List.length_append] at hle ⊢
        omega
      refine J.lit .head fun au cu eu => ?_; subst eu
      refine J.seq ?_
      refine J.seq ?_
      refine J.region ?_
      refine JL.pure rfl rfl (OpP.move rfl) ?_
      refine JL.pure rfl rfl (OpP.fieldAddr rfl) ?_
      refine JL.read rfl rfl (OpR.load1 rfl (Cell.row (.tail .head) rfl)) ?_
      refine JL.pure rfl rfl (OpP.len rfl rfl) ?_
      refine JL.decT rfl rfl (OpP.lss rfl rfl) (by omega) ?_
      refine JL.nil ?_
      refine J.condT rfl ?_
      refine J.skip ?_
      refine J.seq ?_
      refine J.block ?_
      refine J.region ?_
      refine JL.pure rfl rfl (OpP.move rfl) ?_
      refine JL.pure rfl rfl (OpP.fieldAddr rfl) ?_
      refine JL.read rfl rfl (OpR.load1 rfl (Cell.row (.tail .head) rfl)) ?_
      refine JL.pure rfl rfl (OpP.move rfl) ?_
      obtain ⟨ga, pa, qa, ea, ka, ca⟩ := hr1.pos (by omega); cases ea
      refine JL.pure rfl rfl (OpP.indexAddr rfl rfl (by omega) (by omega)) ?_
      refine JL.read rfl rfl (OpR.loadN rfl (by apply Cells.conv (fun _ h => Own.pick (pre := [_, _]) [] rfl h); apply Cells.chunkAt ca; (case' h => assumption); (case' hi => assumption); done) (by first | rfl | assumption)) ?_
      refine JL.step rfl rfl (OpW.call (first := []) (captured := []) inferInstance rfl rfl (refValP_ok hpe)) ?_; rintro r63 _ ⟨⟨a, ⟨c1, rfl⟩⟩, rfl⟩
      refine JL.f1 ?_; refine JL.mem rfl rfl (OpM.appendH rfl (.inl ⟨_, Sl.und inferInstance⟩) (by rfl) rfl rfl (RdO.src (RdO.own (.tail .head)) (by first | assumption | exact fc_length _ _ | (simp; done) | (simp; omega))) (by first | exact bcells_one _ | exact scells_one _ | exact icells_one _ | assumption | exact fc_one fun _ => rfl) (by simp only [maxLen]; omega) (by omega)) ?_; rintro _ _ ⟨⟨a64, c64, rfl⟩, rfl⟩
      refine JL.pure rfl rfl (OpP.assign rfl) ?_
      refine JL.nil ?_
      refine J.inBlock ?_
      refine J.region ?_
      refine JL.pure rfl rfl (OpP.move rfl) ?_
      refine JL.pure rfl rfl (OpP.addI rfl rfl (by omega) (by omega)) ?_
      refine JL.pure rfl rfl (OpP.assign rfl) ?_
      refine JL.nil ?_
      refine back (j + 1, .slice a64 (L.length + (valP e.k e.i e.s).length) c64, L ++ valP e.k e.i e.s) ⟨by dsimp only; omega, ?_⟩ (by dsimp only; omega) (by repeat (first | exact SubEnv.nil | refine SubEnv.cons (by first | rfl | exact congrArg (fun z => some (Value.int .i64 z)) (by omega) | (simp; done)) ?_)) (fun _ h => ?_)
      · dsimp only
        rw [hL, List.take_add_one, he, List.flatMap_append, List.append_assoc, List.append_assoc]
        simp only [Option.toList_some, List.flatMap_cons, List.flatMap_nil, List.append_nil]
      · dsimp only
        rw [List.length_append, bcells_app]
        exact Own.pick (pre := [_, _, _]) [0, 2] rfl h
    · have : j = xs.length := by omega
      subst this
      rw [List.take_length] at hL
      refine J.lit .head fun au cu eu => ?_; subst eu
      refine J.seq ?_
      refine J.seq ?_
      refine J.region ?_
      refine JL.pure rfl rfl (OpP.move rfl) ?_
      refine JL.pure rfl rfl (OpP.fieldAddr rfl) ?_
      refine JL.read rfl rfl (OpR.load1 rfl (Cell.row (.tail .head) rfl)) ?_
      refine JL.pure rfl rfl (OpP.len rfl rfl) ?_
      refine JL.decF rfl rfl (OpP.lss rfl rfl) (by omega) ?_
      refine JL.nil ?_
      refine J.condF rfl ?_
      refine J.exit rfl ?_
      refine J.inBlock ?_
      refine J.seq ?_
      refine J.region ?_
      refine JL.pure rfl rfl (OpP.move rfl) ?_
      refine JL.pure rfl rfl (OpP.assign rfl) ?_
      refine JL.nil ?_
      refine J.ret1 rfl rfl ?_
      rw [← hL]
      exact ⟨_, ⟨⟨_, _, rfl⟩, rfl⟩, fun _ h => Own.pick (pre := [_, _]) [0] rfl h⟩
  · have hp : Plain k i s xs.length := by rw [FormedP, if_pos hk] at hf; exact hf
    rw [valB, if_neg hk]
    exact refValP_ok hp
end Go.Proofs.E

-- seat e
namespace Go.Proofs.E
open Go Go.Gp Go.RowKit

/-- Are two values the same, as the reference asks? -/
def SameP (k i : Int) (s : List UInt8) (xs : List El) (k' i' : Int) (s' : List UInt8) (ys : List El) : Prop :=
  k = k' ∧ i = i' ∧ s = s' ∧ xs.length = ys.length ∧ ∀ (j : Nat) (x y : El), xs[j]? = some x → ys[j]? = some y → x.k = y.k ∧ x.i = y.i ∧ x.s = y.s ∧ x.n = 0 ∧ y.n = 0
theorem same_ok {w0 : World} {F : List HProp} {s s' : List UInt8} {k i k' i' : Int} {a a' : Option Addr} {c c' : Nat} {xs ys : List El} (hn : xs.length ≤ 9223372036854775807) (hn' : ys.length ≤ 9223372036854775807) (hr : RdO w0 F (.slice a xs.length c) xs.length (xs.flatMap ecl)) (hr' : RdO w0 F (.slice a' ys.length c') ys.length (ys.flatMap ecl)) :
    FnO Try.prog w0 30 [.agg (vcl k i s (.slice a xs.length c)).toArray, .agg (vcl k' i' s' (.slice a' ys.length c')).toArray] F (fun r l' => ∃ b, r = .bool b ∧ l' = F ∧ (b = true ↔ SameP k i s xs k' i' s' ys)) := by
  have hlen : ∀ e ∈ xs, (ecl e).length = 4 := fun _ _ => rfl
  have hlen2 : ∀ e ∈ ys, (ecl e).length = 4 := fun _ _ => rfl
  refine FnO.rdF (fun _ h => h) hr fun hr1 => ?_
  refine FnO.rdF (fun _ h => h) hr' fun hr2 => ?_
  refine FnO.weak ?_
  refine FnO.intro (n := 84) Try.func30 rfl rfl rfl ?_
  refine J.seq ?_
  refine J.region ?_
  refine JL.mem rfl rfl (OpM.box rfl rfl) ?_; rintro _ _ ⟨b2, rfl, rfl⟩
  refine JL.mem rfl rfl (OpM.box rfl rfl) ?_; rintro _ _ ⟨b3, rfl, rfl⟩
  refine JL.pure rfl rfl (OpP.assign rfl) ?_
  refine JL.nil ?_
  refine J.seq ?_
  refine J.seq ?_
  refine J.region ?_
  refine JL.pure rfl rfl (OpP.fieldAddr rfl) ?_
  refine JL.read rfl rfl (OpR.load1 rfl (Cell.row (.tail .head) rfl)) ?_
  refine JL.pure rfl rfl (OpP.fieldAddr rfl) ?_
  refine JL.read rfl rfl (OpR.load1 rfl (Cell.row .head rfl)) ?_
  refine JL.dec rfl rfl (OpP.neq rfl rfl) (fun h12 => ?_) (fun h12 => ?_)
  focus
    refine JL.pure rfl rfl (OpP.move rfl) ?_
    refine JL.skip rfl rfl ?_
    refine JL.skip rfl rfl ?_
    refine JL.skip rfl rfl ?_
    refine JL.skip rfl rfl ?_
    refine JL.skip rfl rfl ?_
    refine JL.pure rfl rfl (OpP.pickT rfl rfl) ?_
    refine JL.pure rfl rfl (OpP.move rfl) ?_
    refine JL.skip rfl rfl ?_
    refine JL.skip rfl rfl ?_
    refine JL.skip rfl rfl ?_
    refine JL.skip rfl rfl ?_
    refine JL.skip rfl rfl ?_
    refine JL.pure rfl rfl (OpP.pickT rfl rfl) ?_
    refine JL.pure rfl rfl (OpP.move rfl) ?_
    refine JL.skip rfl rfl ?_
    refine JL.skip rfl rfl ?_
    refine JL.skip rfl rfl ?_
    refine JL.skip rfl rfl ?_
    refine JL.skip rfl rfl ?_
    refine JL.skip rfl rfl ?_
    refine JL.skip rfl rfl ?_
    refine JL.pure rfl rfl (OpP.pickT rfl rfl) ?_
    refine JL.nil ?_
    refine J.condT rfl ?_
    refine J.seq ?_
    refine J.region ?_
    refine JL.pure rfl rfl (OpP.assign rfl) ?_
    refine JL.nil ?_
    refine J.ret1 rfl rfl ?_
  rotate_left 1
  focus
    refine JL.pure rfl rfl (OpP.move rfl) ?_
    refine JL.pure rfl rfl (OpP.fieldAddr rfl) ?_
    refine JL.read rfl rfl (OpR.load1 rfl (Cell.row (.tail .head) rfl)) ?_
    refine JL.pure rfl rfl (OpP.fieldAddr rfl) ?_
    refine JL.read rfl rfl (OpR.load1 rfl (Cell.row .head rfl)) ?_
    refine JL.dec rfl rfl (OpP.neq rfl rfl) (fun h18 => ?_) (fun h18 => ?_)
    focus
      refine JL.pure rfl rfl (OpP.pickF rfl rfl) ?_
      refine JL.pure rfl rfl (OpP.move rfl) ?_
      refine JL.skip rfl rfl ?_
      refine JL.skip rfl rfl ?_
      refine JL.skip rfl rfl ?_
      refine JL.skip rfl rfl ?_
      refine JL.skip rfl rfl ?_
      refine JL.pure rfl rfl (OpP.pickT rfl rfl) ?_
      refine JL.pure rfl rfl (OpP.move rfl) ?_
      refine JL.skip rfl rfl ?_
      refine JL.skip rfl rfl ?_
      refine JL.skip rfl rfl ?_
      refine JL.skip rfl rfl ?_
      refine JL.skip rfl rfl ?_
      refine JL.skip rfl rfl ?_
      refine JL.skip rfl rfl ?_
      refine JL.pure rfl rfl (OpP.pickT rfl rfl) ?_
      refine JL.nil ?_
      refine J.condT rfl ?_
      refine J.seq ?_
      refine J.region ?_
      refine JL.pure rfl rfl (OpP.assign rfl) ?_
      refine JL.nil ?_
      refine J.ret1 rfl rfl ?_
    rotate_left 1
    focus
      refine JL.pure rfl rfl (OpP.pickF rfl rfl) ?_
      refine JL.pure rfl rfl (OpP.move rfl) ?_
      refine JL.pure rfl rfl (OpP.fieldAddr rfl) ?_
      refine JL.read rfl rfl (OpR.load1 rfl (Cell.row (.tail .head) rfl)) ?_
      refine JL.pure rfl rfl (OpP.fieldAddr rfl) ?_
      refine JL.read rfl rfl (OpR.load1 rfl (Cell.row .head rfl)) ?_
      refine JL.dec rfl rfl (OpP.neStr rfl rfl) (fun h25 => ?_) (fun h25 => ?_)
      focus
        refine JL.pure rfl rfl (OpP.pickF rfl rfl) ?_
        refine JL.pure rfl rfl (OpP.move rfl) ?_
        refine JL.skip rfl rfl ?_
        refine JL.skip rfl rfl ?_
        refine JL.skip rfl rfl ?_
        refine JL.skip rfl rfl ?_
        refine JL.skip rfl rfl ?_
        refine JL.skip rfl rfl ?_
        refine JL.skip rfl rfl ?_
        refine JL.pure rfl rfl (OpP.pickT rfl rfl) ?_
        refine JL.nil ?_
        refine J.condT rfl ?_
        refine J.seq ?_
        refine J.region ?_
        refine JL.pure rfl rfl (OpP.assign rfl) ?_
        refine JL.nil ?_
        refine J.ret1 rfl rfl ?_
      rotate_left 1
      focus
        refine JL.pure rfl rfl (OpP.pickF rfl rfl) ?_
        refine JL.pure rfl rfl (OpP.move rfl) ?_
        refine JL.pure rfl rfl (OpP.fieldAddr rfl) ?_
        refine JL.read rfl rfl (OpR.load1 rfl (Cell.row (.tail .head) rfl)) ?_
        refine JL.pure rfl rfl (OpP.len rfl rfl) ?_
        refine JL.pure rfl rfl (OpP.fieldAddr rfl) ?_
        refine JL.read rfl rfl (OpR.load1 rfl (Cell.row .head rfl)) ?_
        refine JL.pure rfl rfl (OpP.len rfl rfl) ?_
        refine JL.dec rfl rfl (OpP.neq rfl rfl) (fun h34 => ?_) (fun h34 => ?_)
        focus
          refine JL.pure rfl rfl (OpP.pickF rfl rfl) ?_
          refine JL.nil ?_
          refine J.condT rfl ?_
          refine J.seq ?_
          refine J.region ?_
          refine JL.pure rfl rfl (OpP.assign rfl) ?_
          refine JL.nil ?_
          refine J.ret1 rfl rfl ?_
        rotate_left 1
        focus
          refine JL.pure rfl rfl (OpP.pickF rfl rfl) ?_
          refine JL.nil ?_
          refine J.condF rfl ?_
          refine J.skip ?_
          refine J.seq ?_
          refine J.seq ?_
          refine J.region ?_
          refine JL.pure rfl rfl (OpP.assign rfl) ?_
          refine JL.nil ?_
          refine J.block ?_
        rotate_left 1
      rotate_left 2
    rotate_left 3
  rotate_left 4
  · refine ⟨_, ⟨_, rfl, rfl, (fun q => by cases q), fun q => absurd q.1 h12⟩, fun _ h => h.tail.tail⟩
  · refine ⟨_, ⟨_, rfl, rfl, (fun q => by cases q), fun q => absurd q.2.1 h18⟩, fun _ h => h.tail.tail⟩
  · refine ⟨_, ⟨_, rfl, rfl, (fun q => by cases q), fun q => absurd (strB_inj.2 q.2.2.1) h25⟩, fun _ h => h.tail.tail⟩
  · refine ⟨_, ⟨_, rfl, rfl, (fun q => by cases q), fun q => absurd q.2.2.2.1 (by omega)⟩, fun _ h => h.tail.tail⟩
  · refine J.loopI (fun j : Nat => xs.length - j) (fun j => j ≤ xs.length ∧ ∀ (m : Nat) (x y : El), m < j → xs[m]? = some x → ys[m]? = some y → x.k = y.k ∧ x.i = y.i ∧ x.s = y.s ∧ x.n = 0 ∧ y.n = 0) (fun j => [(5, .int .i64 (j : Nat)), (2, .pointer (some ⟨b2, 0, none⟩)), (3, .pointer (some ⟨b3, 0, none⟩))])
      (fun _ => row b3 29 (vcl k' i' s' (.slice a' ys.length c')) :: row b2 29 (vcl k i s (.slice a xs.length c)) :: F) 0 ⟨Nat.zero_le _, fun _ _ _ h => absurd h (Nat.not_lt_zero _)⟩ (by repeat (first | exact SubEnv.nil | refine SubEnv.cons (by first | rfl | exact congrArg (fun z => some (Value.int .i64 z)) (by omega) | (simp; done)) ?_)) (fun _ h => h) (fun j hi back => ?_)
    dsimp only at hi back ⊢
    obtain ⟨hj, hg⟩ := hi
    by_cases hlt : j < xs.length
    · obtain ⟨x, hx⟩ : ∃ e, xs[j]? = some e := ⟨_, List.getElem?_eq_getElem hlt⟩
      obtain ⟨y, hy⟩ : ∃ e, ys[j]? = some e := ⟨_, List.getElem?_eq_getElem (show j < ys.length by omega)⟩
      obtain ⟨ga, pa, qa, ea, ka, hcs⟩ := hr1.pos (by omega)
      cases ea
      obtain ⟨gb, pb, qb, eb, kb, hcs2⟩ := hr2.pos (by omega)
      cases eb
      refine J.seq ?_
      refine J.seq ?_
      refine J.region ?_
      refine JL.pure rfl rfl (OpP.move rfl) ?_
      refine JL.pure rfl rfl (OpP.fieldAddr rfl) ?_
      refine JL.read rfl rfl (OpR.load1 rfl (Cell.row (.tail .head) rfl)) ?_
      refine JL.pure rfl rfl (OpP.len rfl rfl) ?_
      refine JL.decT rfl rfl (OpP.lss rfl rfl) (by omega) ?_
      refine JL.nil ?_
      refine J.condT rfl ?_
      refine J.skip ?_
      refine J.seq ?_
      refine J.block ?_
      refine J.seq ?_
      refine J.regionD [1, 4, 6, 9] (by kernel_rfl) ?_
      refine DL.pure (i := 0) (by kernel_rfl) (by kernel_rfl) rfl rfl rfl (OpP.fieldAddr rfl) ?_
      refine DL.read (i := 1) (by kernel_rfl) (by kernel_rfl) rfl rfl rfl (fun _ h => h) (OpR.load1 rfl (Cell.row (.tail .head) rfl)) ?_
      refine DL.pure (i := 2) (by kernel_rfl) (by kernel_rfl) rfl rfl rfl (OpP.move rfl) ?_
      refine DL.pure (i := 3) (by kernel_rfl) (by kernel_rfl) rfl rfl rfl (OpP.indexAddr rfl rfl (by omega) (by omega)) ?_
      refine DL.read (i := 4) (by kernel_rfl) (by kernel_rfl) rfl rfl rfl (fun _ h => h) (OpR.loadN rfl (by apply Cells.conv (fun _ h => Own.pick (pre := [_, _]) [] rfl h); apply Cells.chunkAt hcs; (case' h => assumption); (case' hi => assumption); done) (by first | rfl | assumption)) ?_
      refine DL.pure (i := 5) (by kernel_rfl) (by kernel_rfl) rfl rfl rfl (OpP.fieldAddr rfl) ?_
      refine DL.read (i := 6) (by kernel_rfl) (by kernel_rfl) rfl rfl rfl (fun _ h => h) (OpR.load1 rfl (Cell.row .head rfl)) ?_
      refine DL.pure (i := 7) (by kernel_rfl) (by kernel_rfl) rfl rfl rfl (OpP.move rfl) ?_
      refine DL.pure (i := 8) (by kernel_rfl) (by kernel_rfl) rfl rfl rfl (OpP.indexAddr rfl rfl (by omega) (by omega)) ?_
      refine DL.read (i := 9) (by kernel_rfl) (by kernel_rfl) rfl rfl rfl (fun _ h => h) (OpR.loadN rfl (by apply Cells.conv (fun _ h => Own.pick (pre := [_, _]) [] rfl h); apply Cells.chunkAt hcs2; (case' h => assumption); (case' hi => assumption); done) (by first | rfl | assumption)) ?_
      refine DL.two (i := 10) (j := 11) (by kernel_rfl) ?_ ?_
      focus
        refine DL1.stepK rfl rfl rfl (OpM.w OpM.alloc) (by rintro _ _ ⟨b6, rfl, rfl⟩ _ h; exact Own.pick (pre := [_, _, _]) [1, 2] rfl h) ?_; rintro _ _ ⟨b6, rfl, rfl⟩
        refine DL.only (i := 11) (by kernel_rfl) ?_
        refine DL1.stepK rfl rfl rfl (OpM.w OpM.alloc) (by rintro _ _ ⟨b7, rfl, rfl⟩ _ h; exact Own.pick (pre := [_, _, _, _]) [2, 3] rfl h) ?_; rintro _ _ ⟨b7, rfl, rfl⟩
        refine DL.only (i := 12) (by kernel_rfl) ?_
        refine DL1.stepK0 rfl rfl (OpM.w (by apply OpM.storeN rfl rfl (by rfl) (oneC rfl (oneC rfl (oneC rfl (one1 rfl)))); (case' hu => exact (.tail .head)); (case' hs => exact (.here (.here (.here (.here .nil))))); done)) (by rintro _ _ ⟨rfl, rfl⟩ _ h; exact Own.pick (pre := [_, _, _, _]) [2, 3] rfl h) ?_; rintro _ _ ⟨rfl, rfl⟩
        refine DL.only (i := 13) (by kernel_rfl) ?_
        refine DL1.stepF0 rfl rfl (by kernel_rfl) (OpM.w (by apply OpM.storeN rfl rfl (by rfl) (oneC rfl (oneC rfl (oneC rfl (one1 rfl)))); (case' hu => exact .head); (case' hs => exact (.here (.here (.here (.here .nil))))); done)) ?_; rintro _ _ ⟨rfl, rfl⟩
        refine DL.done (by kernel_rfl) ?_
        refine J.seq ?_
        refine J.region ?_
        refine JL.pure rfl rfl (OpP.fieldAddr rfl) ?_
        refine JL.read rfl rfl (OpR.load1 rfl (Cell.row (.tail .head) rfl)) ?_
        refine JL.pure rfl rfl (OpP.fieldAddr rfl) ?_
        refine JL.read rfl rfl (OpR.load1 rfl (Cell.row .head rfl)) ?_
        refine JL.dec rfl rfl (OpP.neq rfl rfl) (fun h57 => ?_) (fun h57 => ?_)
        focus
          refine JL.pure rfl rfl (OpP.move rfl) ?_
          refine JL.skip rfl rfl ?_
          refine JL.skip rfl rfl ?_
          refine JL.skip rfl rfl ?_
          refine JL.skip rfl rfl ?_
          refine JL.skip rfl rfl ?_
          refine JL.pure rfl rfl (OpP.pickT rfl rfl) ?_
          refine JL.pure rfl rfl (OpP.move rfl) ?_
          refine JL.skip rfl rfl ?_
          refine JL.skip rfl rfl ?_
          refine JL.skip rfl rfl ?_
          refine JL.skip rfl rfl ?_
          refine JL.skip rfl rfl ?_
          refine JL.pure rfl rfl (OpP.pickT rfl rfl) ?_
          refine JL.pure rfl rfl (OpP.move rfl) ?_
          refine JL.skip rfl rfl ?_
          refine JL.skip rfl rfl ?_
          refine JL.skip rfl rfl ?_
          refine JL.skip rfl rfl ?_
          refine JL.pure rfl rfl (OpP.pickT rfl rfl) ?_
          refine JL.pure rfl rfl (OpP.move rfl) ?_
          refine JL.skip rfl rfl ?_
          refine JL.skip rfl rfl ?_
          refine JL.skip rfl rfl ?_
          refine JL.skip rfl rfl ?_
          refine JL.pure rfl rfl (OpP.pickT rfl rfl) ?_
          refine JL.nil ?_
          refine J.condT rfl ?_
          refine J.seq ?_
          refine J.region ?_
          refine JL.pure rfl rfl (OpP.assign rfl) ?_
          refine JL.nil ?_
          refine J.ret1 rfl rfl ?_
        rotate_left 1
        focus
          refine JL.pure rfl rfl (OpP.move rfl) ?_
          refine JL.pure rfl rfl (OpP.fieldAddr rfl) ?_
          refine JL.read rfl rfl (OpR.load1 rfl (Cell.row (.tail .head) rfl)) ?_
          refine JL.pure rfl rfl (OpP.fieldAddr rfl) ?_
          refine JL.read rfl rfl (OpR.load1 rfl (Cell.row .head rfl)) ?_
          refine JL.dec rfl rfl (OpP.neq rfl rfl) (fun h63 => ?_) (fun h63 => ?_)
          focus
            refine JL.pure rfl rfl (OpP.pickF rfl rfl) ?_
            refine JL.pure rfl rfl (OpP.move rfl) ?_
            refine JL.skip rfl rfl ?_
            refine JL.skip rfl rfl ?_
            refine JL.skip rfl rfl ?_
            refine JL.skip rfl rfl ?_
            refine JL.skip rfl rfl ?_
            refine JL.pure rfl rfl (OpP.pickT rfl rfl) ?_
            refine JL.pure rfl rfl (OpP.move rfl) ?_
            refine JL.skip rfl rfl ?_
            refine JL.skip rfl rfl ?_
            refine JL.skip rfl rfl ?_
            refine JL.skip rfl rfl ?_
            refine JL.pure rfl rfl (OpP.pickT rfl rfl) ?_
            refine JL.pure rfl rfl (OpP.move rfl) ?_
            refine JL.skip rfl rfl ?_
            refine JL.skip rfl rfl ?_
            refine JL.skip rfl rfl ?_
            refine JL.skip rfl rfl ?_
            refine JL.pure rfl rfl (OpP.pickT rfl rfl) ?_
            refine JL.nil ?_
            refine J.condT rfl ?_
            refine J.seq ?_
            refine J.region ?_
            refine JL.pure rfl rfl (OpP.assign rfl) ?_
            refine JL.nil ?_
            refine J.ret1 rfl rfl ?_
          rotate_left 1
          focus
            refine JL.pure rfl rfl (OpP.pickF rfl rfl) ?_
            refine JL.pure rfl rfl (OpP.move rfl) ?_
            refine JL.pure rfl rfl (OpP.fieldAddr rfl) ?_
            refine JL.read rfl rfl (OpR.load1 rfl (Cell.row (.tail .head) rfl)) ?_
            refine JL.pure rfl rfl (OpP.fieldAddr rfl) ?_
            refine JL.read rfl rfl (OpR.load1 rfl (Cell.row .head rfl)) ?_
            refine JL.dec rfl rfl (OpP.neStr rfl rfl) (fun h70 => ?_) (fun h70 => ?_)
            focus
              refine JL.pure rfl rfl (OpP.pickF rfl rfl) ?_
              refine JL.pure rfl rfl (OpP.move rfl) ?_
              refine JL.skip rfl rfl ?_
              refine JL.skip rfl rfl ?_
              refine JL.skip rfl rfl ?_
              refine JL.skip rfl rfl ?_
              refine JL.pure rfl rfl (OpP.pickT rfl rfl) ?_
              refine JL.pure rfl rfl (OpP.move rfl) ?_
              refine JL.skip rfl rfl ?_
              refine JL.skip rfl rfl ?_
              refine JL.skip rfl rfl ?_
              refine JL.skip rfl rfl ?_
              refine JL.pure rfl rfl (OpP.pickT rfl rfl) ?_
              refine JL.nil ?_
              refine J.condT rfl ?_
              refine J.seq ?_
              refine J.region ?_
              refine JL.pure rfl rfl (OpP.assign rfl) ?_
              refine JL.nil ?_
              refine J.ret1 rfl rfl ?_
            rotate_left 1
            focus
              refine JL.pure rfl rfl (OpP.pickF rfl rfl) ?_
              refine JL.pure rfl rfl (OpP.move rfl) ?_
              refine JL.pure rfl rfl (OpP.fieldAddr rfl) ?_
              refine JL.read rfl rfl (OpR.load1 rfl (Cell.row (.tail .head) rfl)) ?_
              refine JL.pure rfl rfl (OpP.len rfl rfl) ?_
              refine JL.dec rfl rfl (OpP.gtr rfl rfl) (fun h76 => ?_) (fun h76 => ?_)
              focus
                refine JL.pure rfl rfl (OpP.pickF rfl rfl) ?_
                refine JL.pure rfl rfl (OpP.move rfl) ?_
                refine JL.skip rfl rfl ?_
                refine JL.skip rfl rfl ?_
                refine JL.skip rfl rfl ?_
                refine JL.skip rfl rfl ?_
                refine JL.pure rfl rfl (OpP.pickT rfl rfl) ?_
                refine JL.nil ?_
                refine J.condT rfl ?_
                refine J.seq ?_
                refine J.region ?_
                refine JL.pure rfl rfl (OpP.assign rfl) ?_
                refine JL.nil ?_
                refine J.ret1 rfl rfl ?_
              rotate_left 1
              focus
                refine JL.pure rfl rfl (OpP.pickF rfl rfl) ?_
                refine JL.pure rfl rfl (OpP.move rfl) ?_
                refine JL.pure rfl rfl (OpP.fieldAddr rfl) ?_
                refine JL.read rfl rfl (OpR.load1 rfl (Cell.row .head rfl)) ?_
                refine JL.pure rfl rfl (OpP.len rfl rfl) ?_
                refine JL.dec rfl rfl (OpP.gtr rfl rfl) (fun h82 => ?_) (fun h82 => ?_)
                focus
                  refine JL.pure rfl rfl (OpP.pickF rfl rfl) ?_
                  refine JL.nil ?_
                  refine J.condT rfl ?_
                  refine J.seq ?_
                  refine J.region ?_
                  refine JL.pure rfl rfl (OpP.assign rfl) ?_
                  refine JL.nil ?_
                  refine J.ret1 rfl rfl ?_
                rotate_left 1
                focus
                  refine JL.pure rfl rfl (OpP.pickF rfl rfl) ?_
                  refine JL.nil ?_
                  refine J.condF rfl ?_
                  refine J.skip ?_
                  refine J.inBlock ?_
                  refine J.region ?_
                  refine JL.pure rfl rfl (OpP.move rfl) ?_
                  refine JL.pure rfl rfl (OpP.addI rfl rfl (by omega) (by omega)) ?_
                  refine JL.pure rfl rfl (OpP.assign rfl) ?_
                  refine JL.nil ?_
                rotate_left 1
              rotate_left 2
            rotate_left 3
          rotate_left 4
        rotate_left 5
      rotate_left 6
      focus
        refine DL1.stepK rfl rfl rfl (OpM.w OpM.alloc) (by rintro _ _ ⟨b7, rfl, rfl⟩ _ h; exact Own.pick (pre := [_, _, _]) [1, 2] rfl h) ?_; rintro _ _ ⟨b7, rfl, rfl⟩
        refine DL.only (i := 10) (by kernel_rfl) ?_
        refine DL1.stepK rfl rfl rfl (OpM.w OpM.alloc) (by rintro _ _ ⟨b6, rfl, rfl⟩ _ h; exact Own.pick (pre := [_, _, _, _]) [2, 3] rfl h) ?_; rintro _ _ ⟨b6, rfl, rfl⟩
        refine DL.only (i := 12) (by kernel_rfl) ?_
        refine DL1.stepK0 rfl rfl (OpM.w (by apply OpM.storeN rfl rfl (by rfl) (oneC rfl (oneC rfl (oneC rfl (one1 rfl)))); (case' hu => exact .head); (case' hs => exact (.here (.here (.here (.here .nil))))); done)) (by rintro _ _ ⟨rfl, rfl⟩ _ h; exact Own.pick (pre := [_, _, _, _]) [2, 3] rfl h) ?_; rintro _ _ ⟨rfl, rfl⟩
        refine DL.only (i := 13) (by kernel_rfl) ?_
        refine DL1.stepF0 rfl rfl (by kernel_rfl) (OpM.w (by apply OpM.storeN rfl rfl (by rfl) (oneC rfl (oneC rfl (oneC rfl (one1 rfl)))); (case' hu => exact (.tail .head)); (case' hs => exact (.here (.here (.here (.here .nil))))); done)) ?_; rintro _ _ ⟨rfl, rfl⟩
        refine DL.done (by kernel_rfl) ?_
        refine J.seq ?_
        refine J.region ?_
        refine JL.pure rfl rfl (OpP.fieldAddr rfl) ?_
        refine JL.read rfl rfl (OpR.load1 rfl (Cell.row .head rfl)) ?_
        refine JL.pure rfl rfl (OpP.fieldAddr rfl) ?_
        refine JL.read rfl rfl (OpR.load1 rfl (Cell.row (.tail .head) rfl)) ?_
        refine JL.dec rfl rfl (OpP.neq rfl rfl) (fun h57 => ?_) (fun h57 => ?_)
        focus
          refine JL.pure rfl rfl (OpP.move rfl) ?_
          refine JL.skip rfl rfl ?_
          refine JL.skip rfl rfl ?_
          refine JL.skip rfl rfl ?_
          refine JL.skip rfl rfl ?_
          refine JL.skip rfl rfl ?_
          refine JL.pure rfl rfl (OpP.pickT rfl rfl) ?_
          refine JL.pure rfl rfl (OpP.move rfl) ?_
          refine JL.skip rfl rfl ?_
          refine JL.skip rfl rfl ?_
          refine JL.skip rfl rfl ?_
          refine JL.skip rfl rfl ?_
          refine JL.skip rfl rfl ?_
          refine JL.pure rfl rfl (OpP.pickT rfl rfl) ?_
          refine JL.pure rfl rfl (OpP.move rfl) ?_
          refine JL.skip rfl rfl ?_
          refine JL.skip rfl rfl ?_
          refine JL.skip rfl rfl ?_
          refine JL.skip rfl rfl ?_
          refine JL.pure rfl rfl (OpP.pickT rfl rfl) ?_
          refine JL.pure rfl rfl (OpP.move rfl) ?_
          refine JL.skip rfl rfl ?_
          refine JL.skip rfl rfl ?_
          refine JL.skip rfl rfl ?_
          refine JL.skip rfl rfl ?_
          refine JL.pure rfl rfl (OpP.pickT rfl rfl) ?_
          refine JL.nil ?_
          refine J.condT rfl ?_
          refine J.seq ?_
          refine J.region ?_
          refine JL.pure rfl rfl (OpP.assign rfl) ?_
          refine JL.nil ?_
          refine J.ret1 rfl rfl ?_
        rotate_left 1
        focus
          refine JL.pure rfl rfl (OpP.move rfl) ?_
          refine JL.pure rfl rfl (OpP.fieldAddr rfl) ?_
          refine JL.read rfl rfl (OpR.load1 rfl (Cell.row .head rfl)) ?_
          refine JL.pure rfl rfl (OpP.fieldAddr rfl) ?_
          refine JL.read rfl rfl (OpR.load1 rfl (Cell.row (.tail .head) rfl)) ?_
          refine JL.dec rfl rfl (OpP.neq rfl rfl) (fun h63 => ?_) (fun h63 => ?_)
          focus
            refine JL.pure rfl rfl (OpP.pickF rfl rfl) ?_
            refine JL.pure rfl rfl (OpP.move rfl) ?_
            refine JL.skip rfl rfl ?_
            refine JL.skip rfl rfl ?_
            refine JL.skip rfl rfl ?_
            refine JL.skip rfl rfl ?_
            refine JL.skip rfl rfl ?_
            refine JL.pure rfl rfl (OpP.pickT rfl rfl) ?_
            refine JL.pure rfl rfl (OpP.move rfl) ?_
            refine JL.skip rfl rfl ?_
            refine JL.skip rfl rfl ?_
            refine JL.skip rfl rfl ?_
            refine JL.skip rfl rfl ?_
            refine JL.pure rfl rfl (OpP.pickT rfl rfl) ?_
            refine JL.pure rfl rfl (OpP.move rfl) ?_
            refine JL.skip rfl rfl ?_
            refine JL.skip rfl rfl ?_
            refine JL.skip rfl rfl ?_
            refine JL.skip rfl rfl ?_
            refine JL.pure rfl rfl (OpP.pickT rfl rfl) ?_
            refine JL.nil ?_
            refine J.condT rfl ?_
            refine J.seq ?_
            refine J.region ?_
            refine JL.pure rfl rfl (OpP.assign rfl) ?_
            refine JL.nil ?_
            refine J.ret1 rfl rfl ?_
          rotate_left 1
          focus
            refine JL.pure rfl rfl (OpP.pickF rfl rfl) ?_
            refine JL.pure rfl rfl (OpP.move rfl) ?_
            refine JL.pure rfl rfl (OpP.fieldAddr rfl) ?_
            refine JL.read rfl rfl (OpR.load1 rfl (Cell.row .head rfl)) ?_
            refine JL.pure rfl rfl (OpP.fieldAddr rfl) ?_
            refine JL.read rfl rfl (OpR.load1 rfl (Cell.row (.tail .head) rfl)) ?_
            refine JL.dec rfl rfl (OpP.neStr rfl rfl) (fun h70 => ?_) (fun h70 => ?_)
            focus
              refine JL.pure rfl rfl (OpP.pickF rfl rfl) ?_
              refine JL.pure rfl rfl (OpP.move rfl) ?_
              refine JL.skip rfl rfl ?_
              refine JL.skip rfl rfl ?_
              refine JL.skip rfl rfl ?_
              refine JL.skip rfl rfl ?_
              refine JL.pure rfl rfl (OpP.pickT rfl rfl) ?_
              refine JL.pure rfl rfl (OpP.move rfl) ?_
              refine JL.skip rfl rfl ?_
              refine JL.skip rfl rfl ?_
              refine JL.skip rfl rfl ?_
              refine JL.skip rfl rfl ?_
              refine JL.pure rfl rfl (OpP.pickT rfl rfl) ?_
              refine JL.nil ?_
              refine J.condT rfl ?_
              refine J.seq ?_
              refine J.region ?_
              refine JL.pure rfl rfl (OpP.assign rfl) ?_
              refine JL.nil ?_
              refine J.ret1 rfl rfl ?_
            rotate_left 1
            focus
              refine JL.pure rfl rfl (OpP.pickF rfl rfl) ?_
              refine JL.pure rfl rfl (OpP.move rfl) ?_
              refine JL.pure rfl rfl (OpP.fieldAddr rfl) ?_
              refine JL.read rfl rfl (OpR.load1 rfl (Cell.row .head rfl)) ?_
              refine JL.pure rfl rfl (OpP.len rfl rfl) ?_
              refine JL.dec rfl rfl (OpP.gtr rfl rfl) (fun h76 => ?_) (fun h76 => ?_)
              focus
                refine JL.pure rfl rfl (OpP.pickF rfl rfl) ?_
                refine JL.pure rfl rfl (OpP.move rfl) ?_
                refine JL.skip rfl rfl ?_
                refine JL.skip rfl rfl ?_
                refine JL.skip rfl rfl ?_
                refine JL.skip rfl rfl ?_
                refine JL.pure rfl rfl (OpP.pickT rfl rfl) ?_
                refine JL.nil ?_
                refine J.condT rfl ?_
                refine J.seq ?_
                refine J.region ?_
                refine JL.pure rfl rfl (OpP.assign rfl) ?_
                refine JL.nil ?_
                refine J.ret1 rfl rfl ?_
              rotate_left 1
              focus
                refine JL.pure rfl rfl (OpP.pickF rfl rfl) ?_
                refine JL.pure rfl rfl (OpP.move rfl) ?_
                refine JL.pure rfl rfl (OpP.fieldAddr rfl) ?_
                refine JL.read rfl rfl (OpR.load1 rfl (Cell.row (.tail .head) rfl)) ?_
                refine JL.pure rfl rfl (OpP.len rfl rfl) ?_
                refine JL.dec rfl rfl (OpP.gtr rfl rfl) (fun h82 => ?_) (fun h82 => ?_)
                focus
                  refine JL.pure rfl rfl (OpP.pickF rfl rfl) ?_
                  refine JL.nil ?_
                  refine J.condT rfl ?_
                  refine J.seq ?_
                  refine J.region ?_
                  refine JL.pure rfl rfl (OpP.assign rfl) ?_
                  refine JL.nil ?_
                  refine J.ret1 rfl rfl ?_
                rotate_left 1
                focus
                  refine JL.pure rfl rfl (OpP.pickF rfl rfl) ?_
                  refine JL.nil ?_
                  refine J.condF rfl ?_
                  refine J.skip ?_
                  refine J.inBlock ?_
                  refine J.region ?_
                  refine JL.pure rfl rfl (OpP.move rfl) ?_
                  refine JL.pure rfl rfl (OpP.addI rfl rfl (by omega) (by omega)) ?_
                  refine JL.pure rfl rfl (OpP.assign rfl) ?_
                  refine JL.nil ?_
                rotate_left 1
              rotate_left 2
            rotate_left 3
          rotate_left 4
        rotate_left 5
      rotate_left 6
      all_goals first
        | exact ⟨_, ⟨_, rfl, rfl, (fun q => by cases q), fun q => absurd (q.2.2.2.2 j x y hx hy).1 h57⟩, fun _ h => h.tail.tail.tail.tail⟩
        | exact ⟨_, ⟨_, rfl, rfl, (fun q => by cases q), fun q => absurd (q.2.2.2.2 j x y hx hy).2.1 h63⟩, fun _ h => h.tail.tail.tail.tail⟩
        | exact ⟨_, ⟨_, rfl, rfl, (fun q => by cases q), fun q => absurd (strB_inj.2 (q.2.2.2.2 j x y hx hy).2.2.1) h70⟩, fun _ h => h.tail.tail.tail.tail⟩
        | exact ⟨_, ⟨_, rfl, rfl, (fun q => by cases q), fun q => absurd (q.2.2.2.2 j x y hx hy).2.2.2.1 (by omega)⟩, fun _ h => h.tail.tail.tail.tail⟩
        | exact ⟨_, ⟨_, rfl, rfl, (fun q => by cases q), fun q => absurd (q.2.2.2.2 j x y hx hy).2.2.2.2 (by omega)⟩, fun _ h => h.tail.tail.tail.tail⟩
        | (refine back (j + 1) ⟨by omega, fun m u v hm hu hv => ?_⟩ (by omega) (by repeat (first | exact SubEnv.nil | refine SubEnv.cons (by first | rfl | exact congrArg (fun z => some (Value.int .i64 z)) (by omega) | (simp; done)) ?_)) (fun _ h => h.tail.tail)
           by_cases hmj : m < j
           · exact hg m u v hmj hu hv
           · obtain rfl : m = j := by omega
             obtain rfl : u = x := Option.some.inj (hu.symm.trans hx)
             obtain rfl : v = y := Option.some.inj (hv.symm.trans hy)
             exact ⟨by omega, by omega, strB_inj.1 (Decidable.not_not.1 h70), by omega, by omega⟩)
    · have : j = xs.length := by omega
      subst this
      refine J.seq ?_
      refine J.seq ?_
      refine J.region ?_
      refine JL.pure rfl rfl (OpP.move rfl) ?_
      refine JL.pure rfl rfl (OpP.fieldAddr rfl) ?_
      refine JL.read rfl rfl (OpR.load1 rfl (Cell.row (.tail .head) rfl)) ?_
      refine JL.pure rfl rfl (OpP.len rfl rfl) ?_
      refine JL.decF rfl rfl (OpP.lss rfl rfl) (by omega) ?_
      refine JL.nil ?_
      refine J.condF rfl ?_
      refine J.exit rfl ?_
      refine J.seq ?_
      refine J.region ?_
      refine JL.pure rfl rfl (OpP.assign rfl) ?_
      refine JL.nil ?_
      refine J.ret1 rfl rfl ?_
      exact ⟨_, ⟨_, rfl, rfl, fun _ => ⟨by omega, by omega, strB_inj.1 (Decidable.not_not.1 h25), by omega, fun j x y hx hy => hg j x y (List.getElem?_eq_some_iff.1 hx).1 hx hy⟩, fun _ => rfl⟩, fun _ h => h.tail.tail⟩
end Go.Proofs.E

-- seat e
namespace Go.Proofs.E
open Go Go.Gp Go.RowKit

theorem be_snoc (n k : Nat) : be n (k + 1) = be (n / 256) k ++ [UInt8.ofNat n] := by
  induction k with
  | zero => simp [be]
  | succ k ih =>
    rw [be, ih, be, List.cons_append, Nat.div_div_eq_div_mul, Nat.mul_comm 256, ← Nat.pow_succ]
end Go.Proofs.E

-- seat e
namespace Go.Proofs.E
open Go Go.Gp Go.RowKit

theorem refFormedT {w0 : World} {F : List HProp} {k i : Int} {s : List UInt8} {a : Option Addr} {c : Nat} {xs : List El} (hx : ∀ e ∈ xs, e.ok) (hn : xs.length ≤ 9223372036854775807) (hf : FormedP k i s xs) (hr : RdO w0 F (.slice a xs.length c) xs.length (xs.flatMap ecl)) :
    FnO Try.prog w0 27 [.agg (vcl k i s (.slice a xs.length c)).toArray] F (fun r l' => r = .bool true ∧ l' = F) :=
  (refFormed_ok hx hn hr).mono fun r l' ⟨b, h1, h2, h3⟩ => ⟨by rw [h1, h3.2 hf], h2⟩
end Go.Proofs.E

-- seat e
namespace Go.Proofs.E
open Go Go.Gp Go.RowKit

theorem nat8_be {n k : Nat} (h : n < 256 ^ k) : nat8 (be n k) = n := by
  induction k generalizing n with
  | zero => simp at h; subst h; rfl
  | succ k ih =>
    rw [be_snoc, nat8_snoc, ih (by rw [Nat.pow_succ] at h; omega), UInt8.toNat_ofNat']
    omega
theorem rest_app {L R : List UInt8} : restO (some (L ++ R)) (L.length : Nat) = some R ∧ gotO (some (L ++ R)) (L.length : Nat) = L := by
  have h : (0 : Int) ≤ (L.length : Nat) ∧ ((L.length : Nat) : Int) ≤ (L ++ R).length := by rw [List.length_append]; omega
  refine ⟨?_, ?_⟩
  · simp only [restO, Option.bind_some]
    rw [if_pos h]
    simp
  · simp only [gotO]
    rw [if_pos h]
    simp
theorem num_be {n k : Nat} {R : List UInt8} (h : n < 256 ^ k) : numI (some (be n k ++ R)) k = n ∧ restO (some (be n k ++ R)) (k : Nat) = some R := by
  have h1 := rest_app (L := be n k) (R := R)
  rw [be_length] at h1
  exact ⟨by rw [numI, h1.2, nat8_be h], h1.1⟩
theorem i64_u64 {i : Int} (h1 : -9223372036854775808 ≤ i) (h2 : i ≤ 9223372036854775807) : i64 (u64 i) = i := by
  have e : ∀ n : Nat, n < 18446744073709551616 → IntKind.i64.wrap (n : Int) = if n < 9223372036854775808 then (n : Int) else (n : Int) - 18446744073709551616 := by
    intro n h
    simp only [IntKind.wrap, IntKind.signed, IntKind.bits, Bool.true_and, decide_eq_true_eq, ge_iff_le]
    split <;> split <;> omega
  rw [i64, e _ (u64_lt i), u64]
  split <;> omega
theorem plain_complete {k i : Int} {s R : List UInt8} {n : Nat} (hp : Plain k i s n) (h1 : -9223372036854775808 ≤ i) (h2 : i ≤ 9223372036854775807) :
    plainR (some (bodyP k i s ++ R)) k = some R ∧ plainI (some (bodyP k i s ++ R)) k = i ∧ plainS (some (bodyP k i s ++ R)) k = s := by
  rcases hp.2.2 with ⟨rfl, rfl⟩ | ⟨rfl, hi⟩ | rfl | ⟨rfl, rfl, hs2⟩ | ⟨rfl, hi⟩
  · have hs : s = [] := List.eq_nil_of_length_eq_zero (by omega)
    subst hs
    rw [body0]
    exact ⟨by simp [plainR], by simp [plainI], by simp [plainS]⟩
  · have hs : s = [] := List.eq_nil_of_length_eq_zero (by omega)
    subst hs
    rw [body1]
    obtain ⟨g1, g2⟩ := num_be (n := i.toNat) (k := 1) (R := R) (by omega)
    refine ⟨by simpa [plainR] using g2, ?_, by simp [plainS]⟩
    rw [show plainI (some (be i.toNat 1 ++ R)) 1 = (numI (some (be i.toNat 1 ++ R)) 1 : Nat) by simp [plainI], g1]
    omega
  · have hs : s = [] := List.eq_nil_of_length_eq_zero (by omega)
    subst hs
    rw [body2]
    obtain ⟨g1, g2⟩ := num_be (n := u64 i) (k := 8) (R := R) (u64_lt i)
    refine ⟨by simpa [plainR] using g2, ?_, by simp [plainS]⟩
    rw [show plainI (some (be (u64 i) 8 ++ R)) 2 = i64 (numI (some (be (u64 i) 8 ++ R)) 8) by simp [plainI], g1, i64_u64 h1 h2]
  · rw [body3]
    obtain ⟨g1, g2⟩ := num_be (n := s.length) (k := 2) (R := s ++ R) (by omega)
    obtain ⟨g3, g4⟩ := rest_app (L := s) (R := R)
    rw [List.append_assoc]
    refine ⟨?_, by simp [plainI], ?_⟩
    · rw [show plainR (some (be s.length 2 ++ (s ++ R))) 3 = textR (some (be s.length 2 ++ (s ++ R))) 64 by simp [plainR], textR, g1, if_neg (by omega), show restO (some (be s.length 2 ++ (s ++ R))) 2 = some (s ++ R) from g2, g3]
    · rw [show plainS (some (be s.length 2 ++ (s ++ R))) 3 = textV (some (be s.length 2 ++ (s ++ R))) 64 by simp [plainS], textV, g1, if_neg (by omega), show restO (some (be s.length 2 ++ (s ++ R))) 2 = some (s ++ R) from g2, g4]
  · have hs : s = [] := List.eq_nil_of_length_eq_zero (by omega)
    subst hs
    rw [body4]
    obtain ⟨g1, g2⟩ := num_be (n := u64 i) (k := 8) (R := R) (u64_lt i)
    refine ⟨by simpa [plainR] using g2, ?_, by simp [plainS]⟩
    rw [show plainI (some (be (u64 i) 8 ++ R)) 4 = i64 (numI (some (be (u64 i) 8 ++ R)) 8) by simp [plainI], g1, i64_u64 h1 h2]
theorem el_complete {k i : Int} {s R : List UInt8} {n : Nat} (hp : Plain k i s n) (h1 : -9223372036854775808 ≤ i) (h2 : i ≤ 9223372036854775807) :
    elR (some (valP k i s ++ R)) = some R ∧ elV (some (valP k i s ++ R)) = (k, i, s) := by
  have hk : k.toNat < 256 ∧ ((k.toNat : Nat) : Int) = k := by omega
  rw [valP, List.append_assoc]
  obtain ⟨g1, g2⟩ := num_be (n := k.toNat) (k := 1) (R := bodyP k i s ++ R) (by omega)
  obtain ⟨p1, p2, p3⟩ := plain_complete (R := R) hp h1 h2
  have g3 : restO (some (be k.toNat 1 ++ (bodyP k i s ++ R))) 1 = some (bodyP k i s ++ R) := g2
  refine ⟨?_, ?_⟩
  · rw [elR, g1, g3, hk.2, p1]
  · rw [elV, g1, g3, hk.2, p2, p3]
theorem lp_complete : ∀ (es : List Pl) (R : List UInt8), (∀ p ∈ es, Plain p.1 p.2.1 p.2.2 0 ∧ -9223372036854775808 ≤ p.2.1 ∧ p.2.1 ≤ 9223372036854775807) → lp es.length (some (es.flatMap (fun p => valP p.1 p.2.1 p.2.2) ++ R)) = (some R, es)
  | [], _, _ => rfl
  | p :: es, R, h => by
    obtain ⟨a1, a2, a3⟩ := h p (by simp)
    rw [List.flatMap_cons, List.append_assoc, List.length_cons, lp]
    obtain ⟨e1, e2⟩ := el_complete (R := es.flatMap (fun p => valP p.1 p.2.1 p.2.2) ++ R) a1 a2 a3
    rw [e1, e2, lp_complete es R fun q hq => h q (by simp [hq])]
/-- Numbers are in range. -/
def InR (i : Int) (xs : List El) : Prop := (-9223372036854775808 ≤ i ∧ i ≤ 9223372036854775807) ∧ ∀ e ∈ xs, -9223372036854775808 ≤ e.i ∧ e.i ≤ 9223372036854775807
def pl (e : El) : Pl := (e.k, e.i, e.s)
theorem dec_complete {k i : Int} {s : List UInt8} {xs : List El} {R : List UInt8} (hf : FormedP k i s xs) (hr : InR i xs) :
    decO (some (valB k i s xs ++ R)) = some R ∧ (decV (some (valB k i s xs ++ R))).k = k ∧ (decV (some (valB k i s xs ++ R))).i = i ∧ (decV (some (valB k i s xs ++ R))).s = s ∧ (decV (some (valB k i s xs ++ R))).xs = xs.map fun e => elP (pl e) := by
  unfold FormedP at hf
  by_cases hk : k = 5
  · rw [if_neg (by simpa using hk)] at hf
    subst hk
    obtain ⟨rfl, hs, hn, hg⟩ := hf
    have hs : s = [] := List.eq_nil_of_length_eq_zero hs
    subst hs
    rw [valB, if_pos rfl, List.append_assoc, List.append_assoc]
    obtain ⟨g1, g2⟩ := num_be (n := 5) (k := 1) (R := be xs.length 1 ++ ((xs.flatMap fun e => valP e.k e.i e.s) ++ R)) (by omega)
    obtain ⟨g3, g4⟩ := num_be (n := xs.length) (k := 1) (R := (xs.flatMap fun e => valP e.k e.i e.s) ++ R) (by omega)
    have g2' : restO (some (be 5 1 ++ (be xs.length 1 ++ ((xs.flatMap fun e => valP e.k e.i e.s) ++ R)))) 1 = _ := g2
    have g4' : restO (some (be xs.length 1 ++ ((xs.flatMap fun e => valP e.k e.i e.s) ++ R))) 1 = _ := g4
    have hl := lp_complete (xs.map pl) R (by
      intro p hp
      obtain ⟨e, he, rfl⟩ := List.mem_map.1 hp
      obtain ⟨j, hj⟩ := List.getElem?_of_mem he
      have h0 := (hg j e hj).1
      have h1 : e.n = 0 := h0.1
      unfold PlainE at h0
      rw [h1] at h0
      exact ⟨h0, hr.2 e he⟩)
    rw [List.length_map, List.flatMap_map] at hl
    have hl' : lp xs.length (some ((xs.flatMap fun e => valP e.k e.i e.s) ++ R)) = (some R, xs.map pl) := hl
    rw [decO, decV, g1, if_pos rfl, if_pos rfl, g2', g3, g4', hl']
    exact ⟨rfl, rfl, rfl, rfl, by rw [List.map_map]; rfl⟩
  · rw [if_pos hk] at hf
    have hx : xs = [] := List.eq_nil_of_length_eq_zero hf.1
    subst hx
    rw [valB, if_neg hk]
    obtain ⟨e1, e2⟩ := el_complete (R := R) hf hr.1.1 hr.1.2
    have hn5 : numI (some (valP k i s ++ R)) 1 ≠ 5 := by
      have h1 : (elV (some (valP k i s ++ R))).1 = k := by rw [e2]
      have h2 : ((numI (some (valP k i s ++ R)) 1 : Nat) : Int) = k := h1
      omega
    rw [decO, decV, if_neg hn5, if_neg hn5, e1, e2]
    exact ⟨rfl, rfl, rfl, rfl, rfl⟩
end Go.Proofs.E

-- seat e
namespace Go.Proofs.E
open Go Go.Gp Go.RowKit

/-- A value in a list. -/
structure Va where
  k : Int
  i : Int
  s : List UInt8
  xs : List El
  a : Option Addr
  c : Nat
abbrev vac (u : Va) : List Value := vcl u.k u.i u.s (.slice u.a u.xs.length u.c)
def FewE (e : El) : Prop := e.s.length ≤ 200 ∧ e.n = 0
def FewU (u : Va) : Prop := u.s.length ≤ 200 ∧ u.xs.length ≤ 30 ∧ ∀ (j : Nat) (e : El), u.xs[j]? = some e → FewE e
theorem few_ok {w0 : World} {F : List HProp} {a : Option Addr} {c : Nat} {m : Int} {vs : List Va} (hn : vs.length ≤ 9223372036854775807) (hr : RdO w0 F (.slice a vs.length c) vs.length (vs.flatMap vac)) (hin : ∀ u ∈ vs, RdO w0 F (.slice u.a u.xs.length u.c) u.xs.length (u.xs.flatMap ecl)) :
    FnO Try.prog w0 25 [.slice a vs.length c, .int .i64 m] F (fun r l' => ∃ b, r = .bool b ∧ l' = F ∧ (b = true → (vs.length : Int) ≤ m ∧ ∀ (j : Nat) (u : Va), j < 100 → vs[j]? = some u → FewU u)) := by
  have hlen : ∀ u ∈ vs, (vac u).length = 4 := fun _ _ => rfl
  refine FnO.rdF (fun _ h => h) hr fun hr1 => ?_
  refine FnO.intro (n := 71) Try.func25 rfl rfl rfl ?_
  refine J.seq ?_
  refine J.region ?_
  refine JL.pure rfl rfl (OpP.assign rfl) ?_
  refine JL.nil ?_
  refine J.seq ?_
  refine J.seq ?_
  refine J.region ?_
  refine JL.pure rfl rfl (OpP.assign rfl) ?_
  refine JL.nil ?_
  refine J.block ?_
  refine J.loopI (fun j : Nat => vs.length - j) (fun j => j ≤ vs.length ∧ j ≤ 100 ∧ ∀ (q : Nat) (u : Va), q < j → vs[q]? = some u → FewU u) (fun j => [(5, .int .i64 (j : Nat)), (0, .slice a vs.length c), (1, .int .i64 m)])
    (fun _ => F) 0 ⟨Nat.zero_le _, Nat.zero_le _, fun _ _ h => absurd h (Nat.not_lt_zero _)⟩ (by repeat (first | exact SubEnv.nil | refine SubEnv.cons (by first | rfl | exact congrArg (fun z => some (Value.int .i64 z)) (by omega) | (simp; done)) ?_)) (fun _ h => h) (fun j hi back => ?_)
  dsimp only at hi back ⊢
  obtain ⟨hj, hj2, hg⟩ := hi
  by_cases hlt : j < vs.length
  · by_cases h100 : j < 100
    · obtain ⟨u, hu⟩ : ∃ e, vs[j]? = some e := ⟨_, List.getElem?_eq_getElem hlt⟩
      have hui := hin u (List.mem_of_getElem? hu)
      have es := strB_size u.s
      obtain ⟨ga, pa, qa, ea, ka, hcs⟩ := hr1.pos (by omega)
      cases ea
      refine J.seq ?_
      refine J.seq ?_
      refine J.region ?_
      refine JL.pure rfl rfl (OpP.move rfl) ?_
      refine JL.pure rfl rfl (OpP.move rfl) ?_
      refine JL.pure rfl rfl (OpP.len rfl rfl) ?_
      refine JL.decT rfl rfl (OpP.lss rfl rfl) (by omega) ?_
      refine JL.pure rfl rfl (OpP.move rfl) ?_
      refine JL.pure rfl rfl (OpP.move rfl) ?_
      refine JL.decT rfl rfl (OpP.lss rfl rfl) (by omega) ?_
      refine JL.pure rfl rfl (OpP.pickT rfl rfl) ?_
      refine JL.nil ?_
      refine J.condT rfl ?_
      refine J.skip ?_
      refine J.seq ?_
      refine J.block ?_
      refine J.seq ?_
      refine J.seq ?_
      refine J.region ?_
      refine JL.pure rfl rfl (OpP.move rfl) ?_
      refine JL.pure rfl rfl (OpP.move rfl) ?_
      refine JL.pure rfl rfl (OpP.indexAddr rfl rfl (by omega) (by omega)) ?_
      refine JL.pure rfl rfl (OpP.fieldAddr rfl) ?_
      refine JL.read rfl rfl (OpR.load1 rfl (by apply Cells.cellChunk (j := 2) hcs (fun _ h => h); (case' h => assumption); (case' hi => assumption); (case' hv => rfl); (case' ho => omega); done)) ?_
      refine JL.pure rfl rfl (OpP.lenStr rfl rfl) ?_
      refine JL.dec rfl rfl (OpP.gtr rfl rfl) (fun h23 => ?_) (fun h23 => ?_)
      focus
        refine JL.pure rfl rfl (OpP.move rfl) ?_
        refine JL.skip rfl rfl ?_
        refine JL.skip rfl rfl ?_
        refine JL.skip rfl rfl ?_
        refine JL.skip rfl rfl ?_
        refine JL.skip rfl rfl ?_
        refine JL.skip rfl rfl ?_
        refine JL.skip rfl rfl ?_
        refine JL.pure rfl rfl (OpP.pickT rfl rfl) ?_
        refine JL.nil ?_
        refine J.condT rfl ?_
        refine J.seq ?_
        refine J.region ?_
        refine JL.pure rfl rfl (OpP.assign rfl) ?_
        refine JL.nil ?_
        refine J.ret1 rfl rfl ?_
      rotate_left 1
      focus
        refine JL.pure rfl rfl (OpP.move rfl) ?_
        refine JL.pure rfl rfl (OpP.move rfl) ?_
        refine JL.pure rfl rfl (OpP.move rfl) ?_
        refine JL.pure rfl rfl (OpP.indexAddr rfl rfl (by omega) (by omega)) ?_
        refine JL.pure rfl rfl (OpP.fieldAddr rfl) ?_
        refine JL.read rfl rfl (OpR.load1 rfl (by apply Cells.cellChunk (j := 3) hcs (fun _ h => h); (case' h => assumption); (case' hi => assumption); (case' hv => rfl); (case' ho => omega); done)) ?_
        refine JL.pure rfl rfl (OpP.len rfl rfl) ?_
        refine JL.dec rfl rfl (OpP.gtr rfl rfl) (fun h31 => ?_) (fun h31 => ?_)
        focus
          refine JL.pure rfl rfl (OpP.pickF rfl rfl) ?_
          refine JL.nil ?_
          refine J.condT rfl ?_
          refine J.seq ?_
          refine J.region ?_
          refine JL.pure rfl rfl (OpP.assign rfl) ?_
          refine JL.nil ?_
          refine J.ret1 rfl rfl ?_
        rotate_left 1
        focus
          refine JL.pure rfl rfl (OpP.pickF rfl rfl) ?_
          refine JL.nil ?_
          refine J.condF rfl ?_
          refine J.skip ?_
          refine J.seq ?_
          refine J.region ?_
          refine JL.pure rfl rfl (OpP.assign rfl) ?_
          refine JL.nil ?_
          refine J.block ?_
        rotate_left 1
      rotate_left 2
      · exact ⟨_, rfl, rfl, fun q => by cases q⟩
      · exact ⟨_, rfl, rfl, fun q => by cases q⟩
      · refine J.loopI (fun q : Nat => u.xs.length - q) (fun q => q ≤ u.xs.length ∧ ∀ (p : Nat) (e : El), p < q → u.xs[p]? = some e → FewE e) (fun q => [(6, .int .i64 (q : Nat)), (5, .int .i64 (j : Nat)), (0, .slice (some ⟨ga, pa, none⟩) vs.length c), (1, .int .i64 m)])
          (fun _ => F) 0 ⟨Nat.zero_le _, fun _ _ h => absurd h (Nat.not_lt_zero _)⟩ (by repeat (first | exact SubEnv.nil | refine SubEnv.cons (by first | rfl | exact congrArg (fun z => some (Value.int .i64 z)) (by omega) | (simp; done)) ?_)) (fun _ h => h) (fun q hi back2 => ?_)
        dsimp only at hi back2 ⊢
        obtain ⟨hq, hg2⟩ := hi
        by_cases hlt2 : q < u.xs.length
        · obtain ⟨e, he⟩ : ∃ e, u.xs[q]? = some e := ⟨_, List.getElem?_eq_getElem hlt2⟩
          have ese := strB_size e.s
          have hlen2 : ∀ e ∈ u.xs, (ecl e).length = 4 := fun _ _ => rfl
          refine J.rd hui fun hu1 => ?_
          obtain ⟨gi, pi, qi, ei, ki, hci⟩ := hu1.pos (by omega)
          have hua : u.a = some ⟨gi, pi, none⟩ := by injection ei
          have hcL := Cells.cellChunk (j := 3) hcs (fun _ h => h) hlen hu rfl rfl
          rw [hua] at hcL
          have hcs' := hcs
          clear hcs
          refine J.seq ?_
          refine J.seq ?_
          refine J.region ?_
          refine JL.pure rfl rfl (OpP.move rfl) ?_
          refine JL.pure rfl rfl (OpP.move rfl) ?_
          refine JL.pure rfl rfl (OpP.move rfl) ?_
          refine JL.pure rfl rfl (OpP.indexAddr rfl rfl (by omega) (by omega)) ?_
          refine JL.pure rfl rfl (OpP.fieldAddr rfl) ?_
          refine JL.read rfl rfl (OpR.load1 rfl (hcL.conv (fun _ h => h))) ?_
          refine JL.pure rfl rfl (OpP.len rfl rfl) ?_
          refine JL.decT rfl rfl (OpP.lss rfl rfl) (by omega) ?_
          refine JL.nil ?_
          refine J.condT rfl ?_
          refine J.skip ?_
          refine J.seq ?_
          refine J.block ?_
          refine J.seq ?_
          refine J.region ?_
          refine JL.pure rfl rfl (OpP.move rfl) ?_
          refine JL.pure rfl rfl (OpP.move rfl) ?_
          refine JL.pure rfl rfl (OpP.indexAddr rfl rfl (by omega) (by omega)) ?_
          refine JL.pure rfl rfl (OpP.fieldAddr rfl) ?_
          refine JL.read rfl rfl (OpR.load1 rfl (hcL.conv (fun _ h => h))) ?_
          refine JL.pure rfl rfl (OpP.move rfl) ?_
          refine JL.pure rfl rfl (OpP.indexAddr rfl rfl (by omega) (by omega)) ?_
          refine JL.pure rfl rfl (OpP.fieldAddr rfl) ?_
          refine JL.read rfl rfl (OpR.load1 rfl (by apply Cells.cellChunk (j := 2) hci (fun _ h => h); (case' h => assumption); (case' hi => assumption); (case' hv => rfl); (case' ho => omega); done)) ?_
          refine JL.pure rfl rfl (OpP.lenStr rfl rfl) ?_
          refine JL.dec rfl rfl (OpP.gtr rfl rfl) (fun h53 => ?_) (fun h53 => ?_)
          focus
            refine JL.pure rfl rfl (OpP.move rfl) ?_
            refine JL.skip rfl rfl ?_
            refine JL.skip rfl rfl ?_
            refine JL.skip rfl rfl ?_
            refine JL.skip rfl rfl ?_
            refine JL.skip rfl rfl ?_
            refine JL.skip rfl rfl ?_
            refine JL.skip rfl rfl ?_
            refine JL.skip rfl rfl ?_
            refine JL.skip rfl rfl ?_
            refine JL.skip rfl rfl ?_
            refine JL.skip rfl rfl ?_
            refine JL.pure rfl rfl (OpP.pickT rfl rfl) ?_
            refine JL.nil ?_
            refine J.condT rfl ?_
            refine J.seq ?_
            refine J.region ?_
            refine JL.pure rfl rfl (OpP.assign rfl) ?_
            refine JL.nil ?_
            refine J.ret1 rfl rfl ?_
          rotate_left 1
          focus
            refine JL.pure rfl rfl (OpP.move rfl) ?_
            refine JL.pure rfl rfl (OpP.move rfl) ?_
            refine JL.pure rfl rfl (OpP.move rfl) ?_
            refine JL.pure rfl rfl (OpP.indexAddr rfl rfl (by omega) (by omega)) ?_
            refine JL.pure rfl rfl (OpP.fieldAddr rfl) ?_
            refine JL.read rfl rfl (OpR.load1 rfl (hcL.conv (fun _ h => h))) ?_
            refine JL.pure rfl rfl (OpP.move rfl) ?_
            refine JL.pure rfl rfl (OpP.indexAddr rfl rfl (by omega) (by omega)) ?_
            refine JL.pure rfl rfl (OpP.fieldAddr rfl) ?_
            refine JL.read rfl rfl (OpR.load1 rfl (by apply Cells.cellChunk (j := 3) hci (fun _ h => h); (case' h => assumption); (case' hi => assumption); (case' hv => rfl); (case' ho => omega); done)) ?_
            refine JL.pure rfl rfl (OpP.len rfl rfl) ?_
            refine JL.dec rfl rfl (OpP.gtr rfl rfl) (fun h65 => ?_) (fun h65 => ?_)
            focus
              refine JL.pure rfl rfl (OpP.pickF rfl rfl) ?_
              refine JL.nil ?_
              refine J.condT rfl ?_
              refine J.seq ?_
              refine J.region ?_
              refine JL.pure rfl rfl (OpP.assign rfl) ?_
              refine JL.nil ?_
              refine J.ret1 rfl rfl ?_
            rotate_left 1
            focus
              refine JL.pure rfl rfl (OpP.pickF rfl rfl) ?_
              refine JL.nil ?_
              refine J.condF rfl ?_
              refine J.skip ?_
              refine J.inBlock ?_
              refine J.region ?_
              refine JL.pure rfl rfl (OpP.move rfl) ?_
              refine JL.pure rfl rfl (OpP.addI rfl rfl (by omega) (by omega)) ?_
              refine JL.pure rfl rfl (OpP.assign rfl) ?_
              refine JL.nil ?_
            rotate_left 1
          rotate_left 2
          · exact ⟨_, rfl, rfl, fun q => by cases q⟩
          · exact ⟨_, rfl, rfl, fun q => by cases q⟩
          · refine back2 (q + 1) ⟨by omega, fun p e' hp he' => ?_⟩ (by omega) (by repeat (first | exact SubEnv.nil | refine SubEnv.cons (by first | rfl | exact congrArg (fun z => some (Value.int .i64 z)) (by omega) | (simp; done)) ?_)) (fun _ h => h)
            by_cases hpq : p < q
            · exact hg2 p e' hpq he'
            · obtain rfl : p = q := by omega
              obtain rfl : e' = e := Option.some.inj (he'.symm.trans he)
              exact ⟨by omega, by omega⟩
        · refine J.seq ?_
          refine J.seq ?_
          refine J.region ?_
          refine JL.pure rfl rfl (OpP.move rfl) ?_
          refine JL.pure rfl rfl (OpP.move rfl) ?_
          refine JL.pure rfl rfl (OpP.move rfl) ?_
          refine JL.pure rfl rfl (OpP.indexAddr rfl rfl (by omega) (by omega)) ?_
          refine JL.pure rfl rfl (OpP.fieldAddr rfl) ?_
          refine JL.read rfl rfl (OpR.load1 rfl (by apply Cells.cellChunk (j := 3) hcs (fun _ h => h); (case' h => assumption); (case' hi => assumption); (case' hv => rfl); (case' ho => omega); done)) ?_
          refine JL.pure rfl rfl (OpP.len rfl rfl) ?_
          refine JL.decF rfl rfl (OpP.lss rfl rfl) (by omega) ?_
          refine JL.nil ?_
          refine J.condF rfl ?_
          refine J.exit rfl ?_
          refine J.inBlock ?_
          refine J.region ?_
          refine JL.pure rfl rfl (OpP.move rfl) ?_
          refine JL.pure rfl rfl (OpP.addI rfl rfl (by omega) (by omega)) ?_
          refine JL.pure rfl rfl (OpP.assign rfl) ?_
          refine JL.nil ?_
          refine back (j + 1) ⟨by omega, by omega, fun p u' hp hu' => ?_⟩ (by omega) (by repeat (first | exact SubEnv.nil | refine SubEnv.cons (by first | rfl | exact congrArg (fun z => some (Value.int .i64 z)) (by omega) | (simp; done)) ?_)) (fun _ h => h)
          by_cases hpj : p < j
          · exact hg p u' hpj hu'
          · obtain rfl : p = j := by omega
            obtain rfl : u' = u := Option.some.inj (hu'.symm.trans hu)
            exact ⟨by omega, by omega, fun i e he => hg2 i e (by have := (List.getElem?_eq_some_iff.1 he).1; omega) he⟩
    · refine J.seq ?_
      refine J.seq ?_
      refine J.region ?_
      refine JL.pure rfl rfl (OpP.move rfl) ?_
      refine JL.pure rfl rfl (OpP.move rfl) ?_
      refine JL.pure rfl rfl (OpP.len rfl rfl) ?_
      refine JL.decT rfl rfl (OpP.lss rfl rfl) (by omega) ?_
      refine JL.pure rfl rfl (OpP.move rfl) ?_
      refine JL.pure rfl rfl (OpP.move rfl) ?_
      refine JL.decF rfl rfl (OpP.lss rfl rfl) (by omega) ?_
      refine JL.pure rfl rfl (OpP.pickT rfl rfl) ?_
      refine JL.nil ?_
      refine J.condF rfl ?_
      refine J.exit rfl ?_
      refine J.seq ?_
      refine J.region ?_
      refine JL.pure rfl rfl (OpP.move rfl) ?_
      refine JL.pure rfl rfl (OpP.len rfl rfl) ?_
      refine JL.pure rfl rfl (OpP.move rfl) ?_
      refine JL.dec rfl rfl (OpP.leq rfl rfl) (fun h70 => ?_) (fun h70 => ?_)
      focus
        refine JL.pure rfl rfl (OpP.assign rfl) ?_
        refine JL.nil ?_
        refine J.ret1 rfl rfl ?_
      rotate_left 1
      focus
        refine JL.pure rfl rfl (OpP.assign rfl) ?_
        refine JL.nil ?_
        refine J.ret1 rfl rfl ?_
      rotate_left 1
      · exact ⟨_, rfl, rfl, fun _ => ⟨by omega, fun q u hq hu => hg q u (by omega) hu⟩⟩
      · exact ⟨_, rfl, rfl, fun q => by cases q⟩
  · refine J.seq ?_
    refine J.seq ?_
    refine J.region ?_
    refine JL.pure rfl rfl (OpP.move rfl) ?_
    refine JL.pure rfl rfl (OpP.move rfl) ?_
    refine JL.pure rfl rfl (OpP.len rfl rfl) ?_
    refine JL.decF rfl rfl (OpP.lss rfl rfl) (by omega) ?_
    refine JL.pure rfl rfl (OpP.move rfl) ?_
    refine JL.skip rfl rfl ?_
    refine JL.skip rfl rfl ?_
    refine JL.pure rfl rfl (OpP.pickF rfl rfl) ?_
    refine JL.nil ?_
    refine J.condF rfl ?_
    refine J.exit rfl ?_
    refine J.seq ?_
    refine J.region ?_
    refine JL.pure rfl rfl (OpP.move rfl) ?_
    refine JL.pure rfl rfl (OpP.len rfl rfl) ?_
    refine JL.pure rfl rfl (OpP.move rfl) ?_
    refine JL.dec rfl rfl (OpP.leq rfl rfl) (fun h70 => ?_) (fun h70 => ?_)
    focus
      refine JL.pure rfl rfl (OpP.assign rfl) ?_
      refine JL.nil ?_
      refine J.ret1 rfl rfl ?_
    rotate_left 1
    focus
      refine JL.pure rfl rfl (OpP.assign rfl) ?_
      refine JL.nil ?_
      refine J.ret1 rfl rfl ?_
    rotate_left 1
    · exact ⟨_, rfl, rfl, fun _ => ⟨by omega, fun q u hq hu => hg q u (by have := (List.getElem?_eq_some_iff.1 hu).1; omega) hu⟩⟩
    · exact ⟨_, rfl, rfl, fun q => by cases q⟩
end Go.Proofs.E

-- seat e
namespace Go.Proofs.E
open Go Go.Gp Go.RowKit

theorem few_okE {k i : Int} {s : List UInt8} {xs : List El} {a : Option Addr} {c : Nat} (h : FewU ⟨k, i, s, xs, a, c⟩) : (∀ e ∈ xs, e.ok) ∧ xs.length ≤ 30 ∧ ∀ e ∈ xs, e.n = 0 := by
  obtain ⟨_, h2, h3⟩ := h
  refine ⟨fun e he => ?_, h2, fun e he => ?_⟩
  · obtain ⟨j, hj⟩ := List.getElem?_of_mem he
    have := (h3 j e hj).1
    unfold El.ok
    omega
  · obtain ⟨j, hj⟩ := List.getElem?_of_mem he
    exact (h3 j e hj).2
abbrev xs0 (xs : List El) : List El := xs.map fun e => elP (pl e)
theorem formed0_iff {k i : Int} {s : List UInt8} {xs : List El} (hz : ∀ e ∈ xs, e.n = 0) : FormedP k i s xs → FormedP k i s (xs0 xs) := by
  intro h
  unfold FormedP at h ⊢
  rw [List.length_map]
  split
  · rename_i hk; rw [if_pos hk] at h; exact h
  · rename_i hk
    rw [if_neg hk] at h
    obtain ⟨h1, h2, h3, h4⟩ := h
    refine ⟨h1, h2, h3, fun j e hj => ?_⟩
    rw [List.getElem?_map] at hj
    cases hx : xs[j]? with
    | none => rw [hx] at hj; cases hj
    | some x =>
      rw [hx] at hj
      obtain rfl := Option.some.inj hj
      obtain ⟨g1, g2, g3, g4⟩ := h4 j x hx
      have hn : x.n = 0 := hz x (List.mem_of_getElem? hx)
      refine ⟨by unfold PlainE at g1; rw [hn] at g1; exact g1, g2, fun e0 h0 => ?_, fun p hp h0 => ?_⟩
      · rw [List.getElem?_map] at h0
        cases hx0 : xs[0]? with
        | none => rw [hx0] at h0; cases h0
        | some x0 => rw [hx0] at h0; obtain rfl := Option.some.inj h0; exact g3 x0 hx0
      · rw [List.getElem?_map] at h0
        cases hx0 : xs[j - 1]? with
        | none => rw [hx0] at h0; cases h0
        | some x0 => rw [hx0] at h0; obtain rfl := Option.some.inj h0; exact g4 x0 hp hx0
theorem refFormedF {w0 : World} {F : List HProp} {k i : Int} {s : List UInt8} {a : Option Addr} {c : Nat} {xs : List El} (hx : ∀ e ∈ xs, e.ok) (hn : xs.length ≤ 9223372036854775807) (hf : ¬ FormedP k i s xs) (hr : RdO w0 F (.slice a xs.length c) xs.length (xs.flatMap ecl)) :
    FnO Try.prog w0 27 [.agg (vcl k i s (.slice a xs.length c)).toArray] F (fun r l' => r = .bool false ∧ l' = F) :=
  (refFormed_ok hx hn hr).mono fun r l' ⟨b, h1, h2, h3⟩ => ⟨by rw [h1]; cases b; rfl; exact absurd (h3.1 rfl) hf, h2⟩
end Go.Proofs.E

-- seat e
namespace Go.Proofs.E
open Go Go.Gp Go.RowKit

end Go.Proofs.E

-- seat e
namespace Go.Proofs.E
open Go Go.Gp Go.RowKit

theorem Fm.val {w0 : World} {cs : List Value} (h : Fm Try.prog w0 29 cs) : ∃ k i s a c, ∃ xs : List El, InR i xs ∧ cs = vcl k i s (.slice a xs.length c) ∧ ∀ l, Rd w0 l (.slice a xs.length c) xs.length (xs.flatMap ecl) := by
  have h := h.fields (l := [(3, 1), (2, 1), (9, 1), (27, 1)]) (by kernel_rfl)
  obtain ⟨c0, cs, rfl, f0, h⟩ := h.one
  obtain ⟨c1, cs, rfl, f1, h⟩ := h.one
  obtain ⟨c2, cs, rfl, f2, h⟩ := h.one
  obtain ⟨c3, cs, rfl, f3, h⟩ := h.one
  cases h
  obtain ⟨k, e0, _⟩ := f0.int (k := .i64) (by kernel_rfl)
  obtain ⟨i, e1, k1⟩ := f1.int (k := .i64) (by kernel_rfl)
  obtain ⟨s, e2, _⟩ := f2.str (by kernel_rfl)
  simp [Lit.wf, IntKind.min, IntKind.max, IntKind.signed, IntKind.bits] at k1
  cases e0; cases e1; cases e2
  obtain ⟨xs, hl, _, hr⟩ := Fm.rows (f := ecl) (Q := fun e => -9223372036854775808 ≤ e.i ∧ e.i ≤ 9223372036854775807) (e := 29) (by kernel_rfl) (sz := 4) (by kernel_rfl) (by decide) f3 fun cs _ hf => by
    have h := hf.fields (l := [(3, 1), (2, 1), (9, 1), (27, 1)]) (by kernel_rfl)
    obtain ⟨c0, cs, rfl, f0, h⟩ := h.one
    obtain ⟨c1, cs, rfl, f1, h⟩ := h.one
    obtain ⟨c2, cs, rfl, f2, h⟩ := h.one
    obtain ⟨c4, cs, rfl, f4, h⟩ := h.one
    cases h
    obtain ⟨k, e0, _⟩ := f0.int (k := .i64) (by kernel_rfl)
    obtain ⟨i, e1, k1⟩ := f1.int (k := .i64) (by kernel_rfl)
    obtain ⟨s, e2, _⟩ := f2.str (by kernel_rfl)
    simp [Lit.wf, IntKind.min, IntKind.max, IntKind.signed, IntKind.bits] at k1
    cases e0; cases e1; cases e2
    obtain ⟨p, a, n, c, e4⟩ : ∃ (_ : Unit) (a : Option Addr) (n c : Nat), c4 = .slice a n c := by
      rcases f4.slice (e := 29) (by kernel_rfl) with h0 | ⟨a, n, c, h0, _⟩
      · simp at h0; exact ⟨(), _, _, _, h0⟩
      · simp at h0; exact ⟨(), _, _, _, h0⟩
    subst e4
    exact ⟨⟨k, i, s.data.toList, a, n, c⟩, k1, by simp [ecl, vcl, strB]⟩
  obtain ⟨a, c, e⟩ := (hr []).lit
  cases e
  exact ⟨k, i, s.data.toList, a, c, xs, ⟨k1, fun e he => (hl e he).1⟩, by simp [vcl, strB], hr⟩
end Go.Proofs.E
