/- A text of the proof of a statement about the given program: its part ACacheOwn. No person has read it. -/
import Derived.Test.YtmfdjjbmckdmfaaACache8
import Derived.Test.YtmfdjjbmckdmfaaJ17
import Derived.Test.YtmfdjjbmckdmfaaJ17
-- seat a
namespace Go.Proofs.A
open Go Go.Gp Go.RowKit

theorem CacheOwn_ok {w0 : World} {xs : List Str} {v : Value} {key : Str} (hr : Rd w0 [] v xs.length (scells xs)) :
    FnO Try.prog w0 5 [v, .string key] [] (fun u _ => u = .bool true) := by
  obtain ⟨a, c, rfl⟩ := hr.lit
  refine FnO.intro (n := 80) Try.func5 rfl rfl rfl ?_
  refine J.seq ?_
  refine J.region ?_
  refine JL.pure rfl rfl (OpP.assign rfl) ?_
  refine JL.nil ?_
  refine J.seq ?_
  refine J.seq ?_
  refine J.region ?_
  refine JL.step rfl rfl (OpW.call (first := []) (captured := []) inferInstance rfl rfl Cawake_ok) ?_; rintro r13 _ ⟨rfl, rfl⟩
  refine JL.pure rfl rfl (OpP.notB rfl) ?_
  refine JL.pure rfl rfl (OpP.move rfl) ?_
  refine JL.pure rfl rfl (OpP.move rfl) ?_
  refine JL.pure rfl rfl (OpP.len rfl rfl) ?_
  refine JL.dec rfl rfl (OpP.gtr rfl rfl) (fun h18 => ?_) (fun h18 => ?_)
  focus
    refine JL.pure rfl rfl (OpP.pickF rfl rfl) ?_
    refine JL.pure rfl rfl (OpP.move rfl) ?_
    refine JL.skip rfl rfl ?_
    refine JL.skip rfl rfl ?_
    refine JL.skip rfl rfl ?_
    refine JL.pure rfl rfl (OpP.pickT rfl rfl) ?_
    refine JL.nil ?_
    refine J.condT rfl ?_
    refine J.seq ?_
    refine J.region ?_
    refine JL.step rfl rfl (OpW.call (first := []) (captured := []) inferInstance rfl rfl Cawake_ok) ?_; rintro r25 _ ⟨rfl, rfl⟩
    refine JL.pure rfl rfl (OpP.assign rfl) ?_
    refine JL.nil ?_
    refine J.ret1 rfl rfl ?_
  rotate_left 1
  focus
    refine JL.pure rfl rfl (OpP.pickF rfl rfl) ?_
    refine JL.pure rfl rfl (OpP.move rfl) ?_
    refine JL.pure rfl rfl (OpP.move rfl) ?_
    refine JL.pure rfl rfl (OpP.lenStr rfl rfl) ?_
    refine JL.dec rfl rfl (OpP.gtr rfl rfl) (fun h23 => ?_) (fun h23 => ?_)
    focus
      refine JL.pure rfl rfl (OpP.pickF rfl rfl) ?_
      refine JL.nil ?_
      refine J.condT rfl ?_
      refine J.seq ?_
      refine J.region ?_
      refine JL.step rfl rfl (OpW.call (first := []) (captured := []) inferInstance rfl rfl Cawake_ok) ?_; rintro r25 _ ⟨rfl, rfl⟩
      refine JL.pure rfl rfl (OpP.assign rfl) ?_
      refine JL.nil ?_
      refine J.ret1 rfl rfl ?_
    rotate_left 1
    focus
      refine JL.pure rfl rfl (OpP.pickF rfl rfl) ?_
      refine JL.nil ?_
      refine J.condF rfl ?_
      refine J.skip ?_
      refine J.seq ?_
      refine J.region ?_
      refine JL.step rfl rfl (OpW.call (first := []) (captured := []) inferInstance rfl rfl ENew_ok) ?_; rintro r26 _ ⟨g, ⟨rfl, rfl⟩⟩
      refine JL.pure rfl rfl (OpP.assign rfl) ?_
      refine JL.nil ?_
      refine J.seq ?_
      refine J.region ?_
      refine JL.mem rfl rfl (by apply OpM.buildSlice (by rfl) rfl (by rfl); (repeat (first | exact Fills.nil | (apply Fills.cons rfl rfl rfl; (case' hs => ((repeat (first | exact Spl.nil | apply Spl.here | apply Spl.there)); done)))))) ?_; rintro _ _ ⟨b27, rfl, rfl⟩
      refine JL.pure rfl rfl (OpP.move rfl) ?_
      refine JL.ownRow (n := 0) (sz := 1) (by decide) rfl ?_
      refine JL.mem rfl rfl (OpM.appendH0 rfl rfl (.inl ⟨_, Sl.und inferInstance⟩) (by rfl) rfl rfl (RdO.src hr.ao (by simp)) (by first | exact bcells_one _ | exact scells_one _ | exact icells_one _ | assumption) (by simp only [maxLen]; omega) (by omega)) ?_; rintro _ _ ⟨⟨a29, c29, rfl⟩, rfl⟩
      refine JL.pure rfl rfl (OpP.assign rfl) ?_
      refine JL.nil ?_
      refine J.seq ?_
      refine J.region ?_
      refine JL.pure rfl rfl (OpP.move rfl) ?_
      refine JL.pure rfl rfl (OpP.move rfl) ?_
      refine JL.pure rfl rfl (OpP.move rfl) ?_
      refine JL.pure rfl rfl (OpP.build rfl (by (repeat (first | exact Fills.nil | (apply Fills.cons rfl rfl rfl; (case' hs => ((repeat (first | exact Spl.nil | apply Spl.here | apply Spl.there)); done))))))) ?_
    rotate_left 1
  rotate_left 2
  · rfl
  · rfl
  refine JL.f1 ?_; refine JL.step rfl rfl (OpW.call (first := []) (captured := []) inferInstance rfl rfl (EPut_ok (d := ⟨1, .slice a29 xs.length c29, .slice none 0 0, xs, []⟩) ⟨RdO.own .head, Rd.o (.inl ⟨_, _, rfl, rfl, rfl⟩), (by show xs.length ≤ 1000; omega), Nat.zero_le _⟩ (by decide) (by decide))) ?_; rintro r34 _ ⟨rfl, rfl⟩
  refine JL.nil ?_
  refine J.seq ?_
  refine J.seq ?_
  refine J.region ?_
  refine JL.pure rfl rfl (OpP.assign rfl) ?_
  refine JL.nil ?_
  refine J.block ?_
  have hL : putE (capOf 3) [] ⟨key, ⟨#[97]⟩, ⟨#[98]⟩, 1, xs, []⟩ 0 = [⟨key, ⟨#[97]⟩, ⟨#[98]⟩, 1, xs, []⟩] := rfl
  have hf : List.find? (kE key) [(⟨key, ⟨#[97]⟩, ⟨#[98]⟩, 1, xs, []⟩ : E)] = some ⟨key, ⟨#[97]⟩, ⟨#[98]⟩, 1, xs, []⟩ := by simp [kE]
  refine J.loopI (fun x : Nat × List Value => xs.length - x.1) (fun x => x.1 ≤ xs.length ∧ x.2.length = xs.length) (fun x => [(7, .int .i64 (x.1 : Nat)), (6, .slice a29 xs.length c29), (5, .pointer (some ⟨g, 0, none⟩)), (0, .slice a xs.length c), (1, .string key)])
    (fun x => [cacheE g (capOf 3) [⟨key, ⟨#[97]⟩, ⟨#[98]⟩, 1, xs, []⟩], own 9 1 (.slice a29 xs.length c29) xs.length x.2]) (0, scells xs) ⟨Nat.zero_le _, scells_length _⟩ (by repeat (first | exact SubEnv.nil | refine SubEnv.cons (by first | rfl | exact congrArg (fun z => some (Value.int .i64 z)) (by omega) | (simp; done)) ?_)) (fun _ h => h) (fun ⟨i, ys⟩ ⟨hi, hy⟩ back => ?_)
  dsimp only at hi hy back ⊢
  by_cases hlt : i < xs.length
  · refine J.seq ?_
    refine J.seq ?_
    refine J.region ?_
    refine JL.pure rfl rfl (OpP.move rfl) ?_
    refine JL.pure rfl rfl (OpP.move rfl) ?_
    refine JL.pure rfl rfl (OpP.len rfl rfl) ?_
    refine JL.decT rfl rfl (OpP.lss rfl rfl) (by omega) ?_
    refine JL.nil ?_
    refine J.condT rfl ?_
    refine J.skip ?_
    refine J.seq ?_
    refine J.block ?_
    refine J.region ?_
    refine JL.pure rfl rfl (OpP.move rfl) ?_
    refine JL.pure rfl rfl (OpP.move rfl) ?_
    refine JL.ownSome (.tail .head) (by omega) fun ga29 pa29 ea29 => ?_; subst ea29
    refine JL.pure rfl rfl (OpP.indexAddr rfl rfl (by omega) (by omega)) ?_
    refine JL.f1 ?_; refine JL.mem0 rfl (OpM.storeOwn rfl rfl rfl (by first | rfl | (simp only [Int.toNat_natCast, Nat.mul_one])) (by first | assumption | omega)) ?_; rintro _ _ ⟨rfl, rfl⟩
    refine JL.nil ?_
    refine J.inBlock ?_
    refine J.region ?_
    refine JL.pure rfl rfl (OpP.move rfl) ?_
    refine JL.pure rfl rfl (OpP.addI rfl rfl (by omega) (by omega)) ?_
    refine JL.pure rfl rfl (OpP.assign rfl) ?_
    refine JL.nil ?_
    refine back (i + 1, _) ⟨by dsimp only; omega, by simpa using hy⟩ (by dsimp only; omega) (by repeat (first | exact SubEnv.nil | refine SubEnv.cons (by first | rfl | exact congrArg (fun z => some (Value.int .i64 z)) (by omega) | (simp; done)) ?_)) (fun _ h => Own.pick (pre := [_, _]) [1, 0] rfl h)
  · refine J.seq ?_
    refine J.seq ?_
    refine J.region ?_
    refine JL.pure rfl rfl (OpP.move rfl) ?_
    refine JL.pure rfl rfl (OpP.move rfl) ?_
    refine JL.pure rfl rfl (OpP.len rfl rfl) ?_
    refine JL.decF rfl rfl (OpP.lss rfl rfl) (by omega) ?_
    refine JL.nil ?_
    refine J.condF rfl ?_
    refine J.exit rfl ?_
    refine J.seq ?_
    refine J.region ?_
    refine JL.pure rfl rfl (OpP.move rfl) ?_
    refine JL.pure rfl rfl (OpP.move rfl) ?_
    refine JL.step rfl rfl (OpW.call (first := []) (captured := []) inferInstance rfl rfl (EGetS_ok hf)) ?_; rintro r47 _ ⟨u1, ⟨u2, ⟨h47, ⟨h471, ⟨rfl, rfl⟩⟩⟩⟩⟩
    refine JL.lit .head fun au1 cu1 eu1 => ?_; subst eu1
    refine JL.lit (.tail .head) fun au2 cu2 eu2 => ?_; subst eu2
    refine JL.pure rfl rfl (OpP.move rfl) ?_
    refine JL.pure rfl rfl (OpP.extract rfl rfl) ?_
    refine JL.pure rfl rfl (OpP.extract rfl rfl) ?_
    refine JL.mem rfl rfl OpM.alloc ?_; rintro _ _ ⟨b8, rfl, rfl⟩
    refine JL.mem0 rfl (by apply OpM.storeN rfl rfl (by rfl) (oneC rfl (oneC rfl (one1 rfl))); (case' hu => exact .head); (case' hs => exact (.here (.here (.here .nil)))); done) ?_; rintro _ _ ⟨rfl, rfl⟩
    refine JL.pure rfl rfl (OpP.assign rfl) ?_
    refine JL.nil ?_
    refine J.seq ?_
    refine J.seq ?_
    refine J.region ?_
    refine JL.pure rfl rfl (OpP.move rfl) ?_
    refine JL.pure rfl rfl (OpP.notB rfl) ?_
    refine JL.pure rfl rfl (OpP.move rfl) ?_
    refine JL.pure rfl rfl (OpP.fieldAddr rfl) ?_
    refine JL.read rfl rfl (OpR.load1 rfl (Cell.row .head rfl)) ?_
    refine JL.pure rfl rfl (OpP.move rfl) ?_
    refine JL.step rfl rfl (OpW.call (first := []) (captured := []) inferInstance rfl rfl (SameTexts_ok (xs := xs) (ys := xs) (RdO.own (.tail .head)) hr.ao (by omega))) ?_; rintro r56 _ ⟨rfl, rfl⟩
    refine JL.pure rfl rfl (OpP.notB rfl) ?_
    refine JL.pure rfl rfl (OpP.pickF rfl rfl) ?_
    refine JL.nil ?_
    refine J.splitAt 58 rfl (fun h58 => ?_) (fun h58 => ?_)
    focus
      refine J.condT rfl ?_
      refine J.seq ?_
      refine J.region ?_
      refine JL.pure rfl rfl (OpP.assign rfl) ?_
      refine JL.nil ?_
      refine J.ret1 rfl rfl ?_
    rotate_left 1
    focus
      refine J.condF rfl ?_
      refine J.skip ?_
      refine J.seq ?_
      refine J.seq ?_
      refine J.region ?_
      refine JL.pure rfl rfl (OpP.assign rfl) ?_
      refine JL.nil ?_
      refine J.block ?_
    rotate_left 1
    · simp at h58
    refine J.loopI (fun x : Nat × List Value => xs.length - x.1) (fun x => x.1 ≤ xs.length ∧ x.2.length = xs.length) (fun x => [(10, .int .i64 (x.1 : Nat)), (8, .pointer (some ⟨b8, 0, none⟩)), (5, .pointer (some ⟨g, 0, none⟩)), (0, .slice a xs.length c), (1, .string key)])
      (fun x => [row b8 43 [.int .i64 1, .slice au1 xs.length cu1, .slice au2 0 cu2], own 9 1 (.slice au1 xs.length cu1) xs.length x.2, cacheE g (capOf 3) [⟨key, ⟨#[97]⟩, ⟨#[98]⟩, 1, xs, []⟩]]) (0, scells xs) ⟨Nat.zero_le _, scells_length _⟩ (by repeat (first | exact SubEnv.nil | refine SubEnv.cons (by first | rfl | exact congrArg (fun z => some (Value.int .i64 z)) (by omega) | (simp; done)) ?_)) (fun _ h => Own.pick (pre := [_, _, _, _, _]) [0, 1, 3] rfl h) (fun ⟨i, ys⟩ ⟨hi, hy⟩ back => ?_)
    dsimp only at hi hy back ⊢
    by_cases hlt : i < xs.length
    · refine J.seq ?_
      refine J.seq ?_
      refine J.region ?_
      refine JL.pure rfl rfl (OpP.move rfl) ?_
      refine JL.pure rfl rfl (OpP.fieldAddr rfl) ?_
      refine JL.read rfl rfl (OpR.load1 rfl (Cell.row .head rfl)) ?_
      refine JL.pure rfl rfl (OpP.len rfl rfl) ?_
      refine JL.decT rfl rfl (OpP.lss rfl rfl) (by omega) ?_
      refine JL.nil ?_
      refine J.condT rfl ?_
      refine J.skip ?_
      refine J.seq ?_
      refine J.block ?_
      refine J.region ?_
      refine JL.pure rfl rfl (OpP.fieldAddr rfl) ?_
      refine JL.read rfl rfl (OpR.load1 rfl (Cell.row .head rfl)) ?_
      refine JL.pure rfl rfl (OpP.move rfl) ?_
      refine JL.ownSome (.tail .head) (by omega) fun gau1 pau1 eau1 => ?_; subst eau1
      refine JL.pure rfl rfl (OpP.indexAddr rfl rfl (by omega) (by omega)) ?_
      refine JL.f1 ?_; refine JL.mem0 rfl (OpM.storeOwn rfl rfl rfl (by first | rfl | (simp only [Int.toNat_natCast, Nat.mul_one])) (by first | assumption | omega)) ?_; rintro _ _ ⟨rfl, rfl⟩
      refine JL.nil ?_
      refine J.inBlock ?_
      refine J.region ?_
      refine JL.pure rfl rfl (OpP.move rfl) ?_
      refine JL.pure rfl rfl (OpP.addI rfl rfl (by omega) (by omega)) ?_
      refine JL.pure rfl rfl (OpP.assign rfl) ?_
      refine JL.nil ?_
      refine back (i + 1, _) ⟨by dsimp only; omega, by simpa using hy⟩ (by dsimp only; omega) (by repeat (first | exact SubEnv.nil | refine SubEnv.cons (by first | rfl | exact congrArg (fun z => some (Value.int .i64 z)) (by omega) | (simp; done)) ?_)) (fun _ h => Own.pick (pre := [_, _, _]) [1, 0, 2] rfl h)
    · refine J.seq ?_
      refine J.seq ?_
      refine J.region ?_
      refine JL.pure rfl rfl (OpP.move rfl) ?_
      refine JL.pure rfl rfl (OpP.fieldAddr rfl) ?_
      refine JL.read rfl rfl (OpR.load1 rfl (Cell.row .head rfl)) ?_
      refine JL.pure rfl rfl (OpP.len rfl rfl) ?_
      refine JL.decF rfl rfl (OpP.lss rfl rfl) (by omega) ?_
      refine JL.nil ?_
      refine J.condF rfl ?_
      refine J.exit rfl ?_
      refine J.seq ?_
      refine J.region ?_
      refine JL.pure rfl rfl (OpP.move rfl) ?_
      refine JL.pure rfl rfl (OpP.move rfl) ?_
      refine JL.f2 ?_; refine JL.step rfl rfl (OpW.call (first := []) (captured := []) inferInstance rfl rfl (EGetS_ok hf)) ?_; rintro r73 _ ⟨u1, ⟨u2, ⟨h73, ⟨h731, ⟨rfl, rfl⟩⟩⟩⟩⟩
      refine JL.lit .head fun au1 cu1 eu1 => ?_; subst eu1
      refine JL.lit (.tail .head) fun au2 cu2 eu2 => ?_; subst eu2
      refine JL.pure rfl rfl (OpP.move rfl) ?_
      refine JL.pure rfl rfl (OpP.extract rfl rfl) ?_
      refine JL.pure rfl rfl (OpP.extract rfl rfl) ?_
      refine JL.mem rfl rfl OpM.alloc ?_; rintro _ _ ⟨b11, rfl, rfl⟩
      refine JL.mem0 rfl (by apply OpM.storeN rfl rfl (by rfl) (oneC rfl (oneC rfl (one1 rfl))); (case' hu => exact .head); (case' hs => exact (.here (.here (.here .nil)))); done) ?_; rintro _ _ ⟨rfl, rfl⟩
      refine JL.pure rfl rfl (OpP.assign rfl) ?_
      refine JL.nil ?_
      refine J.seq ?_
      refine J.region ?_
      refine JL.pure rfl rfl (OpP.fieldAddr rfl) ?_
      refine JL.read rfl rfl (OpR.load1 rfl (Cell.row .head rfl)) ?_
      refine JL.pure rfl rfl (OpP.move rfl) ?_
      refine JL.step rfl rfl (OpW.call (first := []) (captured := []) inferInstance rfl rfl (SameTexts_ok (xs := xs) (ys := xs) (RdO.own (.tail .head)) hr.ao (by omega))) ?_; rintro r79 _ ⟨rfl, rfl⟩
      refine JL.pure rfl rfl (OpP.assign rfl) ?_
      refine JL.nil ?_
      refine J.ret1 rfl rfl ?_
      simp

theorem CacheOwn_law {W : World} {a : Option Addr} {n c : Nat} {key : Str} (h : Fm Try.prog W 38 [.slice a n c]) (_ : key.size ≤ 140737488351232) : Calls Try.prog 5 #[.slice a n c, .string key] W fun e w' => e = .returned (.bool true) ∧ Below W.heap.size W w' := by
  obtain ⟨ps, _, hr⟩ := h.strs Try.underlying38 Try.underlying9 (by kernel_rfl)
  exact FnO.law (args := [.slice a n c, .string key]) (CacheOwn_ok hr) (Own.nil W)
end Go.Proofs.A
