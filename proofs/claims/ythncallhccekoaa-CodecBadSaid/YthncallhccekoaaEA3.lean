/- A text of the proof of a statement about the given program: its part EA3. No person has read it. -/
import Derived.Test.YthncallhccekoaaEA2
import Derived.Test.YthncallhccekoaaEJ2
-- seat e
namespace Go.Proofs.E
open Go Go.Gp Go.RowKit

theorem few1_ok {w0 : World} {F : List HProp} {fa a : Option Addr} {fc c : Nat} {k i : Int} {s : List UInt8} {xs : List El} (hr : RdO w0 F (.slice fa 1 fc) 1 (vcl k i s (.slice a xs.length c))) (h1 : RdO w0 F (.slice a xs.length c) xs.length (xs.flatMap ecl)) :
    FnO Try.prog w0 25 [.slice fa 1 fc, .int .i64 1] F (fun r l' => ∃ b, r = .bool b ∧ l' = F ∧ (b = true → FewU ⟨k, i, s, xs, a, c⟩)) :=
  (few_ok (vs := [⟨k, i, s, xs, a, c⟩]) (m := 1) (by simp) hr (by
    intro u hu
    obtain rfl := List.mem_singleton.1 hu
    exact h1)).mono fun r l' ⟨b, q1, q2, q3⟩ => ⟨b, q1, q2, fun hb => (q3 hb).2 0 _ (by omega) rfl⟩
/-- A part in a list. -/
structure Pa where
  kd : Int
  n : Int
  t : List UInt8
  u : Va
abbrev pac (p : Pa) : List Value := [.int .u8 p.kd, .int .i64 p.n, .string (strB p.t), .int .i64 p.u.k, .int .i64 p.u.i, .string (strB p.u.s), .slice p.u.a p.u.xs.length p.u.c]
def FewP (p : Pa) : Prop := p.t.length ≤ 5000 ∧ FewU p.u
theorem few31_ok {w0 : World} {F : List HProp} {a : Option Addr} {c : Nat} {m : Int} {ps : List Pa} (hn : ps.length ≤ 9223372036854775807) (hr : RdO w0 F (.slice a ps.length c) ps.length (ps.flatMap pac)) (hin : ∀ p ∈ ps, RdO w0 F (.slice p.u.a p.u.xs.length p.u.c) p.u.xs.length (p.u.xs.flatMap ecl)) :
    FnO Try.prog w0 31 [.slice a ps.length c, .int .i64 m] F (fun r l' => ∃ b, r = .bool b ∧ l' = F ∧ (b = true → (ps.length : Int) ≤ m ∧ ∀ (j : Nat) (p : Pa), j < 100 → ps[j]? = some p → FewP p)) := by
  have hlen : ∀ p ∈ ps, (pac p).length = 7 := fun _ _ => rfl
  refine FnO.rdF (fun _ h => h) hr fun hr1 => ?_
  refine FnO.intro (n := 37) Try.func31 rfl rfl rfl ?_
  refine J.seq ?_
  refine J.region ?_
  refine JL.pure rfl rfl (OpP.assign rfl) ?_
  refine JL.nil ?_
  refine J.seq ?_
  refine J.seq ?_
  refine J.region ?_
  refine JL.pure rfl rfl (OpP.assign rfl) ?_
  refine JL.nil ?_
  refine J.block ?_
  refine J.loopI (fun j : Nat => ps.length - j) (fun j => j ≤ ps.length ∧ j ≤ 100 ∧ ∀ (q : Nat) (p : Pa), q < j → ps[q]? = some p → FewP p) (fun j => [(5, .int .i64 (j : Nat)), (0, .slice a ps.length c), (1, .int .i64 m)])
    (fun _ => F) 0 ⟨Nat.zero_le _, Nat.zero_le _, fun _ _ h => absurd h (Nat.not_lt_zero _)⟩ (by repeat (first | exact SubEnv.nil | refine SubEnv.cons (by first | rfl | exact congrArg (fun z => some (Value.int .i64 z)) (by omega) | (simp; done)) ?_)) (fun _ h => h) (fun j hi back => ?_)
  dsimp only at hi back ⊢
  obtain ⟨hj, hj2, hg⟩ := hi
  by_cases hlt : j < ps.length
  · by_cases h100 : j < 100
    · obtain ⟨u, hu⟩ : ∃ e, ps[j]? = some e := ⟨_, List.getElem?_eq_getElem hlt⟩
      have hui := hin u (List.mem_of_getElem? hu)
      have es := strB_size u.t
      obtain ⟨ga, pa, qa, ea, ka, hcs⟩ := hr1.pos (by omega)
      cases ea
      refine J.seq ?_
      refine J.seq ?_
      refine J.region ?_
      refine JL.pure rfl rfl (OpP.move rfl) ?_
      refine JL.pure rfl rfl (OpP.move rfl) ?_
      refine JL.pure rfl rfl (OpP.len rfl rfl) ?_
      refine JL.decT rfl rfl (OpP.lss rfl rfl) (by omega) ?_
      refine JL.pure rfl rfl (OpP.move rfl) ?_
      refine JL.pure rfl rfl (OpP.move rfl) ?_
      refine JL.decT rfl rfl (OpP.lss rfl rfl) (by omega) ?_
      refine JL.pure rfl rfl (OpP.pickT rfl rfl) ?_
      refine JL.nil ?_
      refine J.condT rfl ?_
      refine J.skip ?_
      refine J.seq ?_
      refine J.block ?_
      refine J.seq ?_
      refine J.region ?_
      refine JL.pure rfl rfl (OpP.move rfl) ?_
      refine JL.pure rfl rfl (OpP.move rfl) ?_
      refine JL.pure rfl rfl (OpP.indexAddr rfl rfl (by omega) (by omega)) ?_
      refine JL.pure rfl rfl (OpP.fieldAddr rfl) ?_
      refine JL.read rfl rfl (OpR.load1 rfl (by apply Cells.cellChunk (j := 2) hcs (fun _ h => h); (case' h => assumption); (case' hi => assumption); (case' hv => rfl); (case' ho => omega); done)) ?_
      refine JL.pure rfl rfl (OpP.lenStr rfl rfl) ?_
      refine JL.dec rfl rfl (OpP.gtr rfl rfl) (fun h22 => ?_) (fun h22 => ?_)
      focus
        refine JL.pure rfl rfl (OpP.move rfl) ?_
        refine JL.skip rfl rfl ?_
        refine JL.skip rfl rfl ?_
        refine JL.skip rfl rfl ?_
        refine JL.skip rfl rfl ?_
        refine JL.skip rfl rfl ?_
        refine JL.skip rfl rfl ?_
        refine JL.skip rfl rfl ?_
        refine JL.skip rfl rfl ?_
        refine JL.pure rfl rfl (OpP.pickT rfl rfl) ?_
        refine JL.nil ?_
        refine J.condT rfl ?_
      rotate_left 1
      focus
        refine JL.pure rfl rfl (OpP.move rfl) ?_
        refine JL.pure rfl rfl (OpP.move rfl) ?_
        refine JL.pure rfl rfl (OpP.move rfl) ?_
        refine JL.pure rfl rfl (OpP.indexAddr rfl rfl (by omega) (by omega)) ?_
        refine JL.pure rfl rfl (OpP.fieldAddr rfl) ?_
        refine JL.read rfl rfl (OpR.loadN rfl (by apply Cells.chunkSub (j := 3) (m := 4) hcs (fun _ h => h); (case' h => assumption); (case' hi => assumption); (case' hv => rfl); (case' ho => omega); done) (by rfl)) ?_
        refine JL.mem rfl rfl (by apply OpM.buildSlice (by rfl) rfl (by rfl); (repeat (first | exact Fills.nil | (apply Fills.cons rfl rfl rfl; (case' hs => ((repeat (first | exact Spl.nil | apply Spl.here | apply Spl.there)); done)))))) ?_; rintro _ _ ⟨b29, rfl, rfl⟩
        refine JL.step rfl rfl (OpW.call (first := []) (captured := []) inferInstance rfl rfl (few1_ok (k := u.u.k) (i := u.u.i) (s := u.u.s) (a := u.u.a) (c := u.u.c) (xs := u.u.xs) (RdO.ofRow .head (by first | exact Nat.le_refl _ | decide | omega)) (hui.conv fun _ h => Own.pick (pre := [_]) [] rfl h))) ?_; rintro r30 _ ⟨b, ⟨rfl, ⟨rfl, h30⟩⟩⟩
        refine JL.pure rfl rfl (OpP.notB rfl) ?_
        refine JL.pure rfl rfl (OpP.pickF rfl rfl) ?_
        refine JL.nil ?_
        refine J.splitAt 32 rfl (fun h32 => ?_) (fun h32 => ?_)
        focus
          refine J.condT rfl ?_
        rotate_left 1
        focus
          refine J.condF rfl ?_
          refine J.skip ?_
          refine J.inBlock ?_
          refine J.region ?_
          refine JL.pure rfl rfl (OpP.move rfl) ?_
          refine JL.pure rfl rfl (OpP.addI rfl rfl (by omega) (by omega)) ?_
          refine JL.pure rfl rfl (OpP.assign rfl) ?_
          refine JL.nil ?_
        rotate_left 1
      rotate_left 2
      · refine J.seq ?_
        refine J.region ?_
        refine JL.pure rfl rfl (OpP.assign rfl) ?_
        refine JL.nil ?_
        refine J.ret1 rfl rfl ?_
        exact ⟨_, rfl, rfl, fun q => by cases q⟩
      · refine J.conv (l' := F) (fun _ h => h.tail) ?_
        refine J.seq ?_
        refine J.region ?_
        refine JL.pure rfl rfl (OpP.assign rfl) ?_
        refine JL.nil ?_
        refine J.ret1 rfl rfl ?_
        exact ⟨_, rfl, rfl, fun q => by cases q⟩
      · refine J.conv (l' := F) (fun _ h => h.tail) ?_
        skip
        refine back (j + 1) ⟨by omega, by omega, fun p u' hp hu' => ?_⟩ (by omega) (by repeat (first | exact SubEnv.nil | refine SubEnv.cons (by first | rfl | exact congrArg (fun z => some (Value.int .i64 z)) (by omega) | (simp; done)) ?_)) (fun _ h => h)
        by_cases hpj : p < j
        · exact hg p u' hpj hu'
        · obtain rfl : p = j := by omega
          obtain rfl : u' = u := Option.some.inj (hu'.symm.trans hu)
          exact ⟨by omega, h30 (by cases b <;> first | rfl | cases h32)⟩
    · refine J.seq ?_
      refine J.seq ?_
      refine J.region ?_
      refine JL.pure rfl rfl (OpP.move rfl) ?_
      refine JL.pure rfl rfl (OpP.move rfl) ?_
      refine JL.pure rfl rfl (OpP.len rfl rfl) ?_
      refine JL.decT rfl rfl (OpP.lss rfl rfl) (by omega) ?_
      refine JL.pure rfl rfl (OpP.move rfl) ?_
      refine JL.pure rfl rfl (OpP.move rfl) ?_
      refine JL.decF rfl rfl (OpP.lss rfl rfl) (by omega) ?_
      refine JL.pure rfl rfl (OpP.pickT rfl rfl) ?_
      refine JL.nil ?_
      refine J.condF rfl ?_
      refine J.exit rfl ?_
      refine J.seq ?_
      refine J.region ?_
      refine JL.pure rfl rfl (OpP.move rfl) ?_
      refine JL.pure rfl rfl (OpP.len rfl rfl) ?_
      refine JL.pure rfl rfl (OpP.move rfl) ?_
      refine JL.dec rfl rfl (OpP.leq rfl rfl) (fun h36 => ?_) (fun h36 => ?_)
      focus
        refine JL.pure rfl rfl (OpP.assign rfl) ?_
        refine JL.nil ?_
        refine J.ret1 rfl rfl ?_
      rotate_left 1
      focus
        refine JL.pure rfl rfl (OpP.assign rfl) ?_
        refine JL.nil ?_
        refine J.ret1 rfl rfl ?_
      rotate_left 1
      · exact ⟨_, rfl, rfl, fun _ => ⟨by omega, fun q u hq hu => hg q u (by omega) hu⟩⟩
      · exact ⟨_, rfl, rfl, fun q => by cases q⟩
  · refine J.seq ?_
    refine J.seq ?_
    refine J.region ?_
    refine JL.pure rfl rfl (OpP.move rfl) ?_
    refine JL.pure rfl rfl (OpP.move rfl) ?_
    refine JL.pure rfl rfl (OpP.len rfl rfl) ?_
    refine JL.decF rfl rfl (OpP.lss rfl rfl) (by omega) ?_
    refine JL.pure rfl rfl (OpP.move rfl) ?_
    refine JL.skip rfl rfl ?_
    refine JL.skip rfl rfl ?_
    refine JL.pure rfl rfl (OpP.pickF rfl rfl) ?_
    refine JL.nil ?_
    refine J.condF rfl ?_
    refine J.exit rfl ?_
    refine J.seq ?_
    refine J.region ?_
    refine JL.pure rfl rfl (OpP.move rfl) ?_
    refine JL.pure rfl rfl (OpP.len rfl rfl) ?_
    refine JL.pure rfl rfl (OpP.move rfl) ?_
    refine JL.dec rfl rfl (OpP.leq rfl rfl) (fun h36 => ?_) (fun h36 => ?_)
    focus
      refine JL.pure rfl rfl (OpP.assign rfl) ?_
      refine JL.nil ?_
      refine J.ret1 rfl rfl ?_
    rotate_left 1
    focus
      refine JL.pure rfl rfl (OpP.assign rfl) ?_
      refine JL.nil ?_
      refine J.ret1 rfl rfl ?_
    rotate_left 1
    · exact ⟨_, rfl, rfl, fun _ => ⟨by omega, fun q u hq hu => hg q u (by have := (List.getElem?_eq_some_iff.1 hu).1; omega) hu⟩⟩
    · exact ⟨_, rfl, rfl, fun q => by cases q⟩
end Go.Proofs.E

-- seat e
namespace Go.Proofs.E
open Go Go.Gp Go.RowKit

/-- What is written when a part has been put. -/
def PartO (o : Option (List UInt8)) (p : Pa) (r : Option (List UInt8)) : Prop :=
  if p.kd % 8 = 0 then r = smallO o p.n 1 else if p.kd % 8 = 1 then r = smallO o p.n 2 else if p.kd % 8 = 2 then r = smallO o p.n 4 else if p.kd % 8 = 3 then r = putO o (be (u64 p.n) 8)
  else if p.kd % 8 = 4 then r = putO o [if u64 p.n % 2 = 1 then 1 else 0] else if p.kd % 8 = 5 then r = textO o p.t else if p.kd % 8 = 6 then r = putO o p.t
  else (FormedP p.u.k p.u.i p.u.s p.u.xs → r = putO o (valB p.u.k p.u.i p.u.s p.u.xs)) ∧ (¬ FormedP p.u.k p.u.i p.u.s p.u.xs → r = none)
theorem partO_none {p : Pa} {r : Option (List UInt8)} (h : PartO none p r) : r = none := by
  have hs : ∀ n k, smallO none n k = none := fun n k => by unfold smallO; split <;> rfl
  unfold PartO at h
  by_cases h0 : p.kd % 8 = 0
  · rw [if_pos h0] at h; exact h.trans (hs _ _)
  rw [if_neg h0] at h
  by_cases h0 : p.kd % 8 = 1
  · rw [if_pos h0] at h; exact h.trans (hs _ _)
  rw [if_neg h0] at h
  by_cases h0 : p.kd % 8 = 2
  · rw [if_pos h0] at h; exact h.trans (hs _ _)
  rw [if_neg h0] at h
  by_cases h0 : p.kd % 8 = 3
  · rw [if_pos h0] at h; exact h
  rw [if_neg h0] at h
  by_cases h0 : p.kd % 8 = 4
  · rw [if_pos h0] at h; exact h
  rw [if_neg h0] at h
  by_cases h0 : p.kd % 8 = 5
  · rw [if_pos h0] at h; rw [h]; unfold textO; split <;> rfl
  rw [if_neg h0] at h
  by_cases h0 : p.kd % 8 = 6
  · rw [if_pos h0] at h; exact h
  rw [if_neg h0] at h
  by_cases hf : FormedP p.u.k p.u.i p.u.s p.u.xs
  · exact h.1 hf
  · exact h.2 hf
theorem odd_iff {n : Int} : (IntKind.u64.wrap n).tmod 2 = 1 ↔ u64 n % 2 = 1 := by
  rw [u64_wrap, Int.tmod_eq_emod_of_nonneg (by omega)]
  omega
theorem part_ok {w0 : World} {F : List HProp} {g : Nat} {bad : Bool} {v : Value} {L : List UInt8} {p : Pa} (hL : L.length ≤ 4096) (hk : 0 ≤ p.kd ∧ p.kd ≤ 255) (ht : p.t.length ≤ 5000) (hx : ∀ e ∈ p.u.xs, e.ok) (hn : p.u.xs.length ≤ 9223372036854775807) (hr : RdO w0 F (.slice p.u.a p.u.xs.length p.u.c) p.u.xs.length (p.u.xs.flatMap ecl)) :
    FnO Try.prog w0 32 [.pointer (some ⟨g, 0, none⟩), .agg (pac p).toArray] (outL g bad v L F) (fun r l' => r = .tuple #[] ∧ ∃ bad' v' L', L'.length ≤ 4096 ∧ PartO (absO bad L) p (absO bad' L') ∧ l' = outL g bad' v' L' F) := by
  refine FnO.weak ?_
  refine FnO.intro (n := 57) Try.func32 rfl rfl rfl ?_
  refine J.lit (.tail .head) fun av cv ev => ?_; subst ev
  refine J.seq ?_
  refine J.region ?_
  refine JL.mem rfl rfl (OpM.box rfl rfl) ?_; rintro _ _ ⟨b3, rfl, rfl⟩
  refine JL.nil ?_
  refine J.conv (l' := outL g bad (.slice av L.length cv) L (row b3 31 (pac p) :: F)) (fun _ h => Own.pick (pre := [_, _, _]) [1, 2, 0] rfl h) ?_
  by_cases hf : FormedP p.u.k p.u.i p.u.s p.u.xs
  · refine J.seq ?_
    refine J.region ?_
    refine JL.pure rfl rfl (OpP.fieldAddr rfl) ?_
    refine JL.read rfl rfl (OpR.load1 rfl (Cell.row (.tail (.tail .head)) rfl)) ?_
    refine JL.pure rfl rfl (OpP.remI rfl rfl (by first | omega | exact Int.natCast_nonneg _) (by omega)) ?_
    refine JL.nil ?_
    refine J.block ?_
    refine J.seq ?_
    refine J.region ?_
    refine JL.dec rfl rfl (OpP.eql rfl rfl) (fun h12 => ?_) (fun h12 => ?_)
    focus
      refine JL.pure rfl rfl (OpP.assign rfl) ?_
      refine JL.nil ?_
      refine J.condT rfl ?_
      refine J.region ?_
      refine JL.pure rfl rfl (OpP.move rfl) ?_
      refine JL.pure rfl rfl (OpP.fieldAddr rfl) ?_
      refine JL.read rfl rfl (OpR.load1 rfl (Cell.row (.tail (.tail .head)) rfl)) ?_
      refine JL.step rfl rfl (OpW.call (first := []) (captured := []) inferInstance rfl rfl (outU8_ok hL)) ?_; rintro r16 _ ⟨rfl, ⟨bad', ⟨v', ⟨L', ⟨h16, ⟨h161, rfl⟩⟩⟩⟩⟩⟩
      refine JL.lit (.tail .head) fun av' cv' ev' => ?_; subst ev'
      refine JL.nil ?_
      refine J.inBlock ?_
      refine J.fin0 rfl ?_
    rotate_left 1
    focus
      refine JL.pure rfl rfl (OpP.assign rfl) ?_
      refine JL.nil ?_
      refine J.condF rfl ?_
      refine J.seq ?_
      refine J.region ?_
      refine JL.dec rfl rfl (OpP.eql rfl rfl) (fun h18 => ?_) (fun h18 => ?_)
      focus
        refine JL.pure rfl rfl (OpP.assign rfl) ?_
        refine JL.nil ?_
        refine J.condT rfl ?_
        refine J.region ?_
        refine JL.pure rfl rfl (OpP.move rfl) ?_
        refine JL.pure rfl rfl (OpP.fieldAddr rfl) ?_
        refine JL.read rfl rfl (OpR.load1 rfl (Cell.row (.tail (.tail .head)) rfl)) ?_
        refine JL.step rfl rfl (OpW.call (first := []) (captured := []) inferInstance rfl rfl (outU16_ok hL)) ?_; rintro r22 _ ⟨rfl, ⟨bad', ⟨v', ⟨L', ⟨h22, ⟨h221, rfl⟩⟩⟩⟩⟩⟩
        refine JL.lit (.tail .head) fun av' cv' ev' => ?_; subst ev'
        refine JL.nil ?_
        refine J.inBlock ?_
        refine J.fin0 rfl ?_
      rotate_left 1
      focus
        refine JL.pure rfl rfl (OpP.assign rfl) ?_
        refine JL.nil ?_
        refine J.condF rfl ?_
        refine J.seq ?_
        refine J.region ?_
        refine JL.dec rfl rfl (OpP.eql rfl rfl) (fun h24 => ?_) (fun h24 => ?_)
        focus
          refine JL.pure rfl rfl (OpP.assign rfl) ?_
          refine JL.nil ?_
          refine J.condT rfl ?_
          refine J.region ?_
          refine JL.pure rfl rfl (OpP.move rfl) ?_
          refine JL.pure rfl rfl (OpP.fieldAddr rfl) ?_
          refine JL.read rfl rfl (OpR.load1 rfl (Cell.row (.tail (.tail .head)) rfl)) ?_
          refine JL.step rfl rfl (OpW.call (first := []) (captured := []) inferInstance rfl rfl (outU32_ok hL)) ?_; rintro r28 _ ⟨rfl, ⟨bad', ⟨v', ⟨L', ⟨h28, ⟨h281, rfl⟩⟩⟩⟩⟩⟩
          refine JL.lit (.tail .head) fun av' cv' ev' => ?_; subst ev'
          refine JL.nil ?_
          refine J.inBlock ?_
          refine J.fin0 rfl ?_
        rotate_left 1
        focus
          refine JL.pure rfl rfl (OpP.assign rfl) ?_
          refine JL.nil ?_
          refine J.condF rfl ?_
          refine J.seq ?_
          refine J.region ?_
          refine JL.dec rfl rfl (OpP.eql rfl rfl) (fun h30 => ?_) (fun h30 => ?_)
          focus
            refine JL.pure rfl rfl (OpP.assign rfl) ?_
            refine JL.nil ?_
            refine J.condT rfl ?_
            refine J.region ?_
            refine JL.pure rfl rfl (OpP.move rfl) ?_
            refine JL.pure rfl rfl (OpP.fieldAddr rfl) ?_
            refine JL.read rfl rfl (OpR.load1 rfl (Cell.row (.tail (.tail .head)) rfl)) ?_
            refine JL.step rfl rfl (OpW.call (first := []) (captured := []) inferInstance rfl rfl (outI64_ok hL)) ?_; rintro r34 _ ⟨rfl, ⟨bad', ⟨v', ⟨L', ⟨h34, ⟨h341, rfl⟩⟩⟩⟩⟩⟩
            refine JL.lit (.tail .head) fun av' cv' ev' => ?_; subst ev'
            refine JL.nil ?_
            refine J.inBlock ?_
            refine J.fin0 rfl ?_
          rotate_left 1
          focus
            refine JL.pure rfl rfl (OpP.assign rfl) ?_
            refine JL.nil ?_
            refine J.condF rfl ?_
            refine J.seq ?_
            refine J.region ?_
            refine JL.dec rfl rfl (OpP.eql rfl rfl) (fun h36 => ?_) (fun h36 => ?_)
            focus
              refine JL.pure rfl rfl (OpP.assign rfl) ?_
              refine JL.nil ?_
              refine J.condT rfl ?_
              refine J.region ?_
              refine JL.pure rfl rfl (OpP.move rfl) ?_
              refine JL.pure rfl rfl (OpP.fieldAddr rfl) ?_
              refine JL.read rfl rfl (OpR.load1 rfl (Cell.row (.tail (.tail .head)) rfl)) ?_
              refine JL.pure rfl rfl (OpP.conv rfl) ?_
              refine JL.pure rfl rfl (OpP.rem rfl rfl (by omega)) ?_
              refine JL.dec rfl rfl (OpP.eql rfl rfl) (fun h42 => ?_) (fun h42 => ?_)
              focus
                refine JL.step rfl rfl (OpW.call (first := []) (captured := []) inferInstance rfl rfl (outFlag_ok hL)) ?_; rintro r43 _ ⟨rfl, ⟨bad', ⟨v', ⟨L', ⟨h43, ⟨h431, rfl⟩⟩⟩⟩⟩⟩
                refine JL.lit (.tail .head) fun av' cv' ev' => ?_; subst ev'
                refine JL.nil ?_
                refine J.inBlock ?_
                refine J.fin0 rfl ?_
              rotate_left 1
              focus
                refine JL.step rfl rfl (OpW.call (first := []) (captured := []) inferInstance rfl rfl (outFlag_ok hL)) ?_; rintro r43 _ ⟨rfl, ⟨bad', ⟨v', ⟨L', ⟨h43, ⟨h431, rfl⟩⟩⟩⟩⟩⟩
                refine JL.lit (.tail .head) fun av' cv' ev' => ?_; subst ev'
                refine JL.nil ?_
                refine J.inBlock ?_
                refine J.fin0 rfl ?_
              rotate_left 1
            rotate_left 2
            focus
              refine JL.pure rfl rfl (OpP.assign rfl) ?_
              refine JL.nil ?_
              refine J.condF rfl ?_
              refine J.seq ?_
              refine J.region ?_
              refine JL.dec rfl rfl (OpP.eql rfl rfl) (fun h45 => ?_) (fun h45 => ?_)
              focus
                refine JL.pure rfl rfl (OpP.assign rfl) ?_
                refine JL.nil ?_
                refine J.condT rfl ?_
                refine J.region ?_
                refine JL.pure rfl rfl (OpP.move rfl) ?_
                refine JL.pure rfl rfl (OpP.fieldAddr rfl) ?_
                refine JL.read rfl rfl (OpR.load1 rfl (Cell.row (.tail (.tail .head)) rfl)) ?_
                refine JL.step rfl rfl (OpW.call (first := []) (captured := []) inferInstance rfl rfl (outText_ok hL (by omega))) ?_; rintro r49 _ ⟨rfl, ⟨bad', ⟨v', ⟨L', ⟨h49, ⟨h491, rfl⟩⟩⟩⟩⟩⟩
                refine JL.lit (.tail .head) fun av' cv' ev' => ?_; subst ev'
                refine JL.nil ?_
                refine J.inBlock ?_
                refine J.fin0 rfl ?_
              rotate_left 1
              focus
                refine JL.pure rfl rfl (OpP.assign rfl) ?_
                refine JL.nil ?_
                refine J.condF rfl ?_
                refine J.seq ?_
                refine J.region ?_
                refine JL.dec rfl rfl (OpP.eql rfl rfl) (fun h51 => ?_) (fun h51 => ?_)
                focus
                  refine JL.pure rfl rfl (OpP.assign rfl) ?_
                  refine JL.nil ?_
                  refine J.condT rfl ?_
                  refine J.region ?_
                  refine JL.pure rfl rfl (OpP.move rfl) ?_
                  refine JL.pure rfl rfl (OpP.fieldAddr rfl) ?_
                  refine JL.read rfl rfl (OpR.load1 rfl (Cell.row (.tail (.tail .head)) rfl)) ?_
                  refine JL.mem rfl rfl (OpM.strToBytesC rfl) ?_; rintro _ _ ⟨b55, c55, rfl, k55, rfl⟩
                  refine JL.f2 ?_; refine JL.f2 ?_; refine JL.step rfl rfl (OpW.call (first := []) (captured := []) inferInstance rfl rfl (outRaw_ok (bs := p.t) hL (by omega) (RdO.ofRdo .head (by first | exact Nat.le_refl _ | decide | omega)))) ?_; rintro r56 _ ⟨rfl, ⟨bad', ⟨v', ⟨L', ⟨h56, ⟨h561, rfl⟩⟩⟩⟩⟩⟩
                  refine JL.lit (.tail .head) fun av' cv' ev' => ?_; subst ev'
                  refine JL.nil ?_
                  refine J.inBlock ?_
                  refine J.fin0 rfl ?_
                rotate_left 1
                focus
                  refine JL.pure rfl rfl (OpP.assign rfl) ?_
                  refine JL.nil ?_
                  refine J.condF rfl ?_
                  refine J.region ?_
                  refine JL.pure rfl rfl (OpP.move rfl) ?_
                  refine JL.pure rfl rfl (OpP.fieldAddr rfl) ?_
                  refine JL.read rfl rfl (OpR.loadN rfl (Cells.sub 4 (.tail (.tail .head)) rfl) rfl) ?_
                  refine JL.step rfl rfl (OpW.call (first := []) (captured := []) inferInstance rfl rfl (outVal_ok (k := p.u.k) (i := p.u.i) (s := p.u.s) (a := p.u.a) (c := p.u.c) (xs := p.u.xs) hL hx hn hf (hr.conv fun _ h => Own.pick (pre := [_]) [] rfl h))) ?_; rintro r10 _ ⟨rfl, ⟨bad', ⟨v', ⟨L', ⟨h10, ⟨h101, rfl⟩⟩⟩⟩⟩⟩
                  refine JL.lit (.tail .head) fun av' cv' ev' => ?_; subst ev'
                  refine JL.nil ?_
                  refine J.inBlock ?_
                  refine J.fin0 rfl ?_
                rotate_left 1
              rotate_left 2
            rotate_left 3
          rotate_left 5
        rotate_left 6
      rotate_left 7
    rotate_left 8
    · exact ⟨_, ⟨rfl, bad', _, L', h16, by simp [PartO, h12, h161], rfl⟩, fun _ h => Own.pick (pre := [_, _, _]) [0, 1] rfl h⟩
    · exact ⟨_, ⟨rfl, bad', _, L', h22, by simp [PartO, h18, h221], rfl⟩, fun _ h => Own.pick (pre := [_, _, _]) [0, 1] rfl h⟩
    · exact ⟨_, ⟨rfl, bad', _, L', h28, by simp [PartO, h24, h281], rfl⟩, fun _ h => Own.pick (pre := [_, _, _]) [0, 1] rfl h⟩
    · exact ⟨_, ⟨rfl, bad', _, L', h34, by simp [PartO, h30, h341], rfl⟩, fun _ h => Own.pick (pre := [_, _, _]) [0, 1] rfl h⟩
    · have h2 := odd_iff.1 h42
      exact ⟨_, ⟨rfl, bad', _, L', h43, by simp [PartO, h36, h431, h2], rfl⟩, fun _ h => Own.pick (pre := [_, _, _]) [0, 1] rfl h⟩
    · have h2 := fun h => h42 (odd_iff.2 h)
      exact ⟨_, ⟨rfl, bad', _, L', h43, by simp [PartO, h36, h431]; rw [if_neg h2], rfl⟩, fun _ h => Own.pick (pre := [_, _, _]) [0, 1] rfl h⟩
    · exact ⟨_, ⟨rfl, bad', _, L', h49, by simp [PartO, h45, h491], rfl⟩, fun _ h => Own.pick (pre := [_, _, _]) [0, 1] rfl h⟩
    · exact ⟨_, ⟨rfl, bad', _, L', h56, by simp [PartO, h51, h561], rfl⟩, fun _ h => Own.pick (pre := [_, _, _, _]) [0, 1] rfl h⟩
    · exact ⟨_, ⟨rfl, bad', _, L', h10, by simp [PartO, h12, h18, h24, h30, h36, h45, h51, hf, h101], rfl⟩, fun _ h => Own.pick (pre := [_, _, _]) [0, 1] rfl h⟩
  · refine J.seq ?_
    refine J.region ?_
    refine JL.pure rfl rfl (OpP.fieldAddr rfl) ?_
    refine JL.read rfl rfl (OpR.load1 rfl (Cell.row (.tail (.tail .head)) rfl)) ?_
    refine JL.pure rfl rfl (OpP.remI rfl rfl (by first | omega | exact Int.natCast_nonneg _) (by omega)) ?_
    refine JL.nil ?_
    refine J.block ?_
    refine J.seq ?_
    refine J.region ?_
    refine JL.dec rfl rfl (OpP.eql rfl rfl) (fun h12 => ?_) (fun h12 => ?_)
    focus
      refine JL.pure rfl rfl (OpP.assign rfl) ?_
      refine JL.nil ?_
      refine J.condT rfl ?_
      refine J.region ?_
      refine JL.pure rfl rfl (OpP.move rfl) ?_
      refine JL.pure rfl rfl (OpP.fieldAddr rfl) ?_
      refine JL.read rfl rfl (OpR.load1 rfl (Cell.row (.tail (.tail .head)) rfl)) ?_
      refine JL.step rfl rfl (OpW.call (first := []) (captured := []) inferInstance rfl rfl (outU8_ok hL)) ?_; rintro r16 _ ⟨rfl, ⟨bad', ⟨v', ⟨L', ⟨h16, ⟨h161, rfl⟩⟩⟩⟩⟩⟩
      refine JL.lit (.tail .head) fun av' cv' ev' => ?_; subst ev'
      refine JL.nil ?_
      refine J.inBlock ?_
      refine J.fin0 rfl ?_
    rotate_left 1
    focus
      refine JL.pure rfl rfl (OpP.assign rfl) ?_
      refine JL.nil ?_
      refine J.condF rfl ?_
      refine J.seq ?_
      refine J.region ?_
      refine JL.dec rfl rfl (OpP.eql rfl rfl) (fun h18 => ?_) (fun h18 => ?_)
      focus
        refine JL.pure rfl rfl (OpP.assign rfl) ?_
        refine JL.nil ?_
        refine J.condT rfl ?_
        refine J.region ?_
        refine JL.pure rfl rfl (OpP.move rfl) ?_
        refine JL.pure rfl rfl (OpP.fieldAddr rfl) ?_
        refine JL.read rfl rfl (OpR.load1 rfl (Cell.row (.tail (.tail .head)) rfl)) ?_
        refine JL.step rfl rfl (OpW.call (first := []) (captured := []) inferInstance rfl rfl (outU16_ok hL)) ?_; rintro r22 _ ⟨rfl, ⟨bad', ⟨v', ⟨L', ⟨h22, ⟨h221, rfl⟩⟩⟩⟩⟩⟩
        refine JL.lit (.tail .head) fun av' cv' ev' => ?_; subst ev'
        refine JL.nil ?_
        refine J.inBlock ?_
        refine J.fin0 rfl ?_
      rotate_left 1
      focus
        refine JL.pure rfl rfl (OpP.assign rfl) ?_
        refine JL.nil ?_
        refine J.condF rfl ?_
        refine J.seq ?_
        refine J.region ?_
        refine JL.dec rfl rfl (OpP.eql rfl rfl) (fun h24 => ?_) (fun h24 => ?_)
        focus
          refine JL.pure rfl rfl (OpP.assign rfl) ?_
          refine JL.nil ?_
          refine J.condT rfl ?_
          refine J.region ?_
          refine JL.pure rfl rfl (OpP.move rfl) ?_
          refine JL.pure rfl rfl (OpP.fieldAddr rfl) ?_
          refine JL.read rfl rfl (OpR.load1 rfl (Cell.row (.tail (.tail .head)) rfl)) ?_
          refine JL.step rfl rfl (OpW.call (first := []) (captured := []) inferInstance rfl rfl (outU32_ok hL)) ?_; rintro r28 _ ⟨rfl, ⟨bad', ⟨v', ⟨L', ⟨h28, ⟨h281, rfl⟩⟩⟩⟩⟩⟩
          refine JL.lit (.tail .head) fun av' cv' ev' => ?_; subst ev'
          refine JL.nil ?_
          refine J.inBlock ?_
          refine J.fin0 rfl ?_
        rotate_left 1
        focus
          refine JL.pure rfl rfl (OpP.assign rfl) ?_
          refine JL.nil ?_
          refine J.condF rfl ?_
          refine J.seq ?_
          refine J.region ?_
          refine JL.dec rfl rfl (OpP.eql rfl rfl) (fun h30 => ?_) (fun h30 => ?_)
          focus
            refine JL.pure rfl rfl (OpP.assign rfl) ?_
            refine JL.nil ?_
            refine J.condT rfl ?_
            refine J.region ?_
            refine JL.pure rfl rfl (OpP.move rfl) ?_
            refine JL.pure rfl rfl (OpP.fieldAddr rfl) ?_
            refine JL.read rfl rfl (OpR.load1 rfl (Cell.row (.tail (.tail .head)) rfl)) ?_
            refine JL.step rfl rfl (OpW.call (first := []) (captured := []) inferInstance rfl rfl (outI64_ok hL)) ?_; rintro r34 _ ⟨rfl, ⟨bad', ⟨v', ⟨L', ⟨h34, ⟨h341, rfl⟩⟩⟩⟩⟩⟩
            refine JL.lit (.tail .head) fun av' cv' ev' => ?_; subst ev'
            refine JL.nil ?_
            refine J.inBlock ?_
            refine J.fin0 rfl ?_
          rotate_left 1
          focus
            refine JL.pure rfl rfl (OpP.assign rfl) ?_
            refine JL.nil ?_
            refine J.condF rfl ?_
            refine J.seq ?_
            refine J.region ?_
            refine JL.dec rfl rfl (OpP.eql rfl rfl) (fun h36 => ?_) (fun h36 => ?_)
            focus
              refine JL.pure rfl rfl (OpP.assign rfl) ?_
              refine JL.nil ?_
              refine J.condT rfl ?_
              refine J.region ?_
              refine JL.pure rfl rfl (OpP.move rfl) ?_
              refine JL.pure rfl rfl (OpP.fieldAddr rfl) ?_
              refine JL.read rfl rfl (OpR.load1 rfl (Cell.row (.tail (.tail .head)) rfl)) ?_
              refine JL.pure rfl rfl (OpP.conv rfl) ?_
              refine JL.pure rfl rfl (OpP.rem rfl rfl (by omega)) ?_
              refine JL.dec rfl rfl (OpP.eql rfl rfl) (fun h42 => ?_) (fun h42 => ?_)
              focus
                refine JL.step rfl rfl (OpW.call (first := []) (captured := []) inferInstance rfl rfl (outFlag_ok hL)) ?_; rintro r43 _ ⟨rfl, ⟨bad', ⟨v', ⟨L', ⟨h43, ⟨h431, rfl⟩⟩⟩⟩⟩⟩
                refine JL.lit (.tail .head) fun av' cv' ev' => ?_; subst ev'
                refine JL.nil ?_
                refine J.inBlock ?_
                refine J.fin0 rfl ?_
              rotate_left 1
              focus
                refine JL.step rfl rfl (OpW.call (first := []) (captured := []) inferInstance rfl rfl (outFlag_ok hL)) ?_; rintro r43 _ ⟨rfl, ⟨bad', ⟨v', ⟨L', ⟨h43, ⟨h431, rfl⟩⟩⟩⟩⟩⟩
                refine JL.lit (.tail .head) fun av' cv' ev' => ?_; subst ev'
                refine JL.nil ?_
                refine J.inBlock ?_
                refine J.fin0 rfl ?_
              rotate_left 1
            rotate_left 2
            focus
              refine JL.pure rfl rfl (OpP.assign rfl) ?_
              refine JL.nil ?_
              refine J.condF rfl ?_
              refine J.seq ?_
              refine J.region ?_
              refine JL.dec rfl rfl (OpP.eql rfl rfl) (fun h45 => ?_) (fun h45 => ?_)
              focus
                refine JL.pure rfl rfl (OpP.assign rfl) ?_
                refine JL.nil ?_
                refine J.condT rfl ?_
                refine J.region ?_
                refine JL.pure rfl rfl (OpP.move rfl) ?_
                refine JL.pure rfl rfl (OpP.fieldAddr rfl) ?_
                refine JL.read rfl rfl (OpR.load1 rfl (Cell.row (.tail (.tail .head)) rfl)) ?_
                refine JL.step rfl rfl (OpW.call (first := []) (captured := []) inferInstance rfl rfl (outText_ok hL (by omega))) ?_; rintro r49 _ ⟨rfl, ⟨bad', ⟨v', ⟨L', ⟨h49, ⟨h491, rfl⟩⟩⟩⟩⟩⟩
                refine JL.lit (.tail .head) fun av' cv' ev' => ?_; subst ev'
                refine JL.nil ?_
                refine J.inBlock ?_
                refine J.fin0 rfl ?_
              rotate_left 1
              focus
                refine JL.pure rfl rfl (OpP.assign rfl) ?_
                refine JL.nil ?_
                refine J.condF rfl ?_
                refine J.seq ?_
                refine J.region ?_
                refine JL.dec rfl rfl (OpP.eql rfl rfl) (fun h51 => ?_) (fun h51 => ?_)
                focus
                  refine JL.pure rfl rfl (OpP.assign rfl) ?_
                  refine JL.nil ?_
                  refine J.condT rfl ?_
                  refine J.region ?_
                  refine JL.pure rfl rfl (OpP.move rfl) ?_
                  refine JL.pure rfl rfl (OpP.fieldAddr rfl) ?_
                  refine JL.read rfl rfl (OpR.load1 rfl (Cell.row (.tail (.tail .head)) rfl)) ?_
                  refine JL.mem rfl rfl (OpM.strToBytesC rfl) ?_; rintro _ _ ⟨b55, c55, rfl, k55, rfl⟩
                  refine JL.f2 ?_; refine JL.f2 ?_; refine JL.step rfl rfl (OpW.call (first := []) (captured := []) inferInstance rfl rfl (outRaw_ok (bs := p.t) hL (by omega) (RdO.ofRdo .head (by first | exact Nat.le_refl _ | decide | omega)))) ?_; rintro r56 _ ⟨rfl, ⟨bad', ⟨v', ⟨L', ⟨h56, ⟨h561, rfl⟩⟩⟩⟩⟩⟩
                  refine JL.lit (.tail .head) fun av' cv' ev' => ?_; subst ev'
                  refine JL.nil ?_
                  refine J.inBlock ?_
                  refine J.fin0 rfl ?_
                rotate_left 1
                focus
                  refine JL.pure rfl rfl (OpP.assign rfl) ?_
                  refine JL.nil ?_
                  refine J.condF rfl ?_
                  refine J.region ?_
                  refine JL.pure rfl rfl (OpP.move rfl) ?_
                  refine JL.pure rfl rfl (OpP.fieldAddr rfl) ?_
                  refine JL.read rfl rfl (OpR.loadN rfl (Cells.sub 4 (.tail (.tail .head)) rfl) rfl) ?_
                  refine JL.step rfl rfl (OpW.call (first := []) (captured := []) inferInstance rfl rfl (outValF_ok (k := p.u.k) (i := p.u.i) (s := p.u.s) (a := p.u.a) (c := p.u.c) (xs := p.u.xs) hL hx hn hf (hr.conv fun _ h => Own.pick (pre := [_]) [] rfl h))) ?_; rintro r10 _ ⟨rfl, ⟨bad', ⟨v', ⟨L', ⟨h10, ⟨h101, rfl⟩⟩⟩⟩⟩⟩
                  refine JL.lit (.tail .head) fun av' cv' ev' => ?_; subst ev'
                  refine JL.nil ?_
                  refine J.inBlock ?_
                  refine J.fin0 rfl ?_
                rotate_left 1
              rotate_left 2
            rotate_left 3
          rotate_left 5
        rotate_left 6
      rotate_left 7
    rotate_left 8
    · exact ⟨_, ⟨rfl, bad', _, L', h16, by simp [PartO, h12, h161], rfl⟩, fun _ h => Own.pick (pre := [_, _, _]) [0, 1] rfl h⟩
    · exact ⟨_, ⟨rfl, bad', _, L', h22, by simp [PartO, h18, h221], rfl⟩, fun _ h => Own.pick (pre := [_, _, _]) [0, 1] rfl h⟩
    · exact ⟨_, ⟨rfl, bad', _, L', h28, by simp [PartO, h24, h281], rfl⟩, fun _ h => Own.pick (pre := [_, _, _]) [0, 1] rfl h⟩
    · exact ⟨_, ⟨rfl, bad', _, L', h34, by simp [PartO, h30, h341], rfl⟩, fun _ h => Own.pick (pre := [_, _, _]) [0, 1] rfl h⟩
    · have h2 := odd_iff.1 h42
      exact ⟨_, ⟨rfl, bad', _, L', h43, by simp [PartO, h36, h431, h2], rfl⟩, fun _ h => Own.pick (pre := [_, _, _]) [0, 1] rfl h⟩
    · have h2 := fun h => h42 (odd_iff.2 h)
      exact ⟨_, ⟨rfl, bad', _, L', h43, by simp [PartO, h36, h431]; rw [if_neg h2], rfl⟩, fun _ h => Own.pick (pre := [_, _, _]) [0, 1] rfl h⟩
    · exact ⟨_, ⟨rfl, bad', _, L', h49, by simp [PartO, h45, h491], rfl⟩, fun _ h => Own.pick (pre := [_, _, _]) [0, 1] rfl h⟩
    · exact ⟨_, ⟨rfl, bad', _, L', h56, by simp [PartO, h51, h561], rfl⟩, fun _ h => Own.pick (pre := [_, _, _, _]) [0, 1] rfl h⟩
    · exact ⟨_, ⟨rfl, bad', _, L', h10, by simp [PartO, h12, h18, h24, h30, h36, h45, h51, hf, h101], rfl⟩, fun _ h => Own.pick (pre := [_, _, _]) [0, 1] rfl h⟩
end Go.Proofs.E

-- seat e
namespace Go.Proofs.E
open Go Go.Gp Go.RowKit

/-- A reader that is bad stays so, and tells nothing. -/
abbrev BadI (w0 : World) (f : FuncId) (args : List Value) (g : Nat) (v : Value) (M : List UInt8) (F : List HProp) (u : Value) : Prop :=
  FnO Try.prog w0 f args (inL g true v M F) (fun r l' => r = u ∧ ∃ v' M', M'.length ≤ 1000000000 ∧ l' = inL g true v' M' F)
theorem absO_none {b : Bool} {M : List UInt8} (h : absO b M = none) : b = true := by
  cases b
  · simp [absO] at h
  · rfl
theorem Took.bad {w0 : World} {f : FuncId} {args : List Value} {g : Nat} {v : Value} {M : List UInt8} {F : List HProp} {u : Value} (h : Took w0 f args g true v M F none u) : BadI w0 f args g v M F u :=
  h.mono fun r l' ⟨b, v', M', h1, h2, h3, h4⟩ => by
    obtain rfl := absO_none h2
    exact ⟨h3, v', M', h1, h4⟩
variable {w0 : World} {F : List HProp} {g : Nat} {v : Value} {M L : List UInt8}
theorem badU8 (hM : M.length ≤ 1000000000) : BadI w0 15 [.pointer (some ⟨g, 0, none⟩)] g v M F (.int .i64 0) := Took.bad (inU8_ok (bad := true) hM)
theorem badU32 (hM : M.length ≤ 1000000000) : BadI w0 17 [.pointer (some ⟨g, 0, none⟩)] g v M F (.int .i64 0) := Took.bad (inU32_ok (bad := true) hM)
theorem badI64 (hM : M.length ≤ 1000000000) : BadI w0 18 [.pointer (some ⟨g, 0, none⟩)] g v M F (.int .i64 0) := Took.bad (inI64_ok (bad := true) hM)
theorem badFlag (hM : M.length ≤ 1000000000) : BadI w0 19 [.pointer (some ⟨g, 0, none⟩)] g v M F (.bool false) := Took.bad (inFlag_ok (bad := true) hM)
theorem badText (hM : M.length ≤ 1000000000) : BadI w0 20 [.pointer (some ⟨g, 0, none⟩), .int .i64 9] g v M F (.string (strB [])) := Took.bad (inText_ok (bad := true) (most := 9) hM)
theorem badRaw (hM : M.length ≤ 1000000000) : FnO Try.prog w0 21 [.pointer (some ⟨g, 0, none⟩), .int .i64 0] (inL g true v M F) (fun r l' => (∃ a c, r = .slice a 0 c) ∧ ∃ v' M', M'.length ≤ 1000000000 ∧ l' = inL g true v' M' F) :=
  FnO.weak ((raw_ok (n := 0) (bad := true) hM).mono fun r l' ⟨b, v', M', ⟨a, c, h0⟩, h1, h2, h3⟩ => by
    obtain rfl := absO_none h2
    exact ⟨_, ⟨⟨a, c, h0⟩, v', M', h1, rfl⟩, fun _ h => by rw [h3] at h; exact h.tail⟩)
theorem rawL {n : Int} (hM : M.length ≤ 1000000000) (hn : (M.length : Int) < n) : FnO Try.prog w0 21 [.pointer (some ⟨g, 0, none⟩), .int .i64 n] (inL g false v M F) (fun r l' => (∃ a c, r = .slice a 0 c) ∧ ∃ v' M', M'.length ≤ 1000000000 ∧ l' = inL g true v' M' F) :=
  FnO.weak ((raw_ok (n := n) (bad := false) hM).mono fun r l' ⟨b, v', M', ⟨a, c, h0⟩, h1, h2, h3⟩ => by
    have e0 : absO false M = some M := rfl
    rw [show restO (absO false M) n = none by rw [e0]; simp only [restO, Option.bind_some]; rw [if_neg (by omega)]] at h2
    rw [show gotO (absO false M) n = [] by rw [e0]; simp only [gotO]; rw [if_neg (by omega)]] at h0
    obtain rfl := absO_none h2
    exact ⟨_, ⟨⟨a, c, h0⟩, v', M', h1, rfl⟩, fun _ h => by rw [h3] at h; exact h.tail⟩)
theorem badVal (hM : M.length ≤ 1000000000) : BadI w0 22 [.pointer (some ⟨g, 0, none⟩)] g v M F (.agg #[.int .i64 0, .int .i64 0, .string ByteArray.empty, .slice none 0 0]) :=
  (inVal_ok' (bad := true) hM).mono fun r l' h => by
    rcases h with ⟨v', M', a, c, h1, h2, _⟩ | ⟨v', M', h1, _, h2, h3⟩
    · exact absurd (show decO (absO true M) = none from rfl) (by rw [h2]; simp)
    · exact ⟨h2, v', M', h1, h3⟩
theorem badOver (hM : M.length ≤ 1000000000) : BadI w0 23 [.pointer (some ⟨g, 0, none⟩)] g v M F (.bool false) :=
  (over_ok (bad := true)).mono fun r l' ⟨h1, h2⟩ => ⟨by rw [h1]; simp, v, M, hM, h2⟩
theorem outBad : FnO Try.prog w0 35 [.pointer (some ⟨g, 0, none⟩), .int .i64 256] (outL g false v [] F) (fun r l' => r = .tuple #[] ∧ ∃ v' L', L'.length ≤ 4096 ∧ l' = outL g true v' L' F) :=
  (outU8_ok (L := []) (bad := false) (n := 256) (by exact Nat.zero_le _)).mono fun r l' ⟨h1, b, v', L', h2, h3, h4⟩ => by
    obtain rfl := absO_none (h3.trans rfl)
    exact ⟨h1, v', L', h2, h4⟩
theorem endBad (hL : L.length ≤ 4096) : FnO Try.prog w0 33 [.pointer (some ⟨g, 0, none⟩)] (outL g true v L F) (fun r l' => r = .tuple #[.slice none 0 0, .int .i64 3] ∧ l' = outL g true v L F) :=
  (end_ok (bad := true) hL).mono fun r l' h => by
    rcases h with ⟨_, h1, h2⟩ | ⟨h, _⟩
    · exact ⟨h1, h2⟩
    · cases h
theorem partBad {p : Pa} (hL : L.length ≤ 4096) (hk : 0 ≤ p.kd ∧ p.kd ≤ 255) (ht : p.t.length ≤ 5000) (hx : ∀ e ∈ p.u.xs, e.ok) (hn : p.u.xs.length ≤ 9223372036854775807) (hr : RdO w0 F (.slice p.u.a p.u.xs.length p.u.c) p.u.xs.length (p.u.xs.flatMap ecl)) :
    FnO Try.prog w0 32 [.pointer (some ⟨g, 0, none⟩), .agg (pac p).toArray] (outL g true v L F) (fun r l' => r = .tuple #[] ∧ ∃ v' L', L'.length ≤ 4096 ∧ l' = outL g true v' L' F) :=
  (part_ok (bad := true) hL hk ht hx hn hr).mono fun r l' ⟨h1, b, v', L', h2, h3, h4⟩ => by
    obtain rfl := absO_none (partO_none h3)
    exact ⟨h1, v', L', h2, h4⟩
end Go.Proofs.E

-- seat e
namespace Go.Proofs.E
open Go Go.Gp Go.RowKit

theorem CodecBad_ok {w0 : World} {a a2 : Option Addr} {c c2 : Nat} {ps : List Pa} {l : List UInt8} (hn : ps.length ≤ 9223372036854775807) (hl : l.length ≤ 9223372036854775807) (hk : ∀ p ∈ ps, 0 ≤ p.kd ∧ p.kd ≤ 255) (hr : RdO w0 [] (.slice a ps.length c) ps.length (ps.flatMap pac)) (hin : ∀ p ∈ ps, RdO w0 [] (.slice p.u.a p.u.xs.length p.u.c) p.u.xs.length (p.u.xs.flatMap ecl)) (hb : RdO w0 [] (.slice a2 l.length c2) l.length (bcells l)) :
    FnO Try.prog w0 7 [.slice a ps.length c, .slice a2 l.length c2] [] (fun v _ => v = .bool true) := by
  have hlen : ∀ p ∈ ps, (pac p).length = 7 := fun _ _ => rfl
  refine FnO.rdF (fun _ h => h) hr fun hr1 => ?_
  refine FnO.intro (n := 95) Try.func7 rfl rfl rfl ?_
  refine J.seq ?_
  refine J.region ?_
  refine JL.pure rfl rfl (OpP.assign rfl) ?_
  refine JL.nil ?_
  refine J.seq ?_
  refine J.seq ?_
  refine J.region ?_
  refine JL.step rfl rfl (OpW.call (first := []) (captured := []) inferInstance rfl rfl awake_ok) ?_; rintro r10 _ ⟨rfl, rfl⟩
  refine JL.pure rfl rfl (OpP.notB rfl) ?_
  refine JL.pure rfl rfl (OpP.move rfl) ?_
  refine JL.pure rfl rfl (OpP.move rfl) ?_
  refine JL.step rfl rfl (OpW.call (first := []) (captured := []) inferInstance rfl rfl (few31_ok hn hr hin)) ?_; rintro r14 _ ⟨b, ⟨rfl, ⟨rfl, h14⟩⟩⟩
  refine JL.pure rfl rfl (OpP.notB rfl) ?_
  refine JL.pure rfl rfl (OpP.pickF rfl rfl) ?_
  refine JL.pure rfl rfl (OpP.move rfl) ?_
  refine JL.splitAt 17 rfl (fun h17 => ?_) (fun h17 => ?_)
  focus
    refine JL.skip rfl rfl ?_
    refine JL.skip rfl rfl ?_
    refine JL.skip rfl rfl ?_
    refine JL.pure rfl rfl (OpP.pickT rfl rfl) ?_
    refine JL.nil ?_
    refine J.condT rfl ?_
    refine J.seq ?_
    refine J.region ?_
    refine JL.step rfl rfl (OpW.call (first := []) (captured := []) inferInstance rfl rfl awake_ok) ?_; rintro r22 _ ⟨rfl, rfl⟩
    refine JL.pure rfl rfl (OpP.assign rfl) ?_
    refine JL.nil ?_
    refine J.ret1 rfl rfl ?_
  rotate_left 1
  focus
    refine JL.pure rfl rfl (OpP.move rfl) ?_
    refine JL.pure rfl rfl (OpP.len rfl rfl) ?_
    refine JL.dec rfl rfl (OpP.gtr rfl rfl) (fun h20 => ?_) (fun h20 => ?_)
    focus
      refine JL.pure rfl rfl (OpP.pickF rfl rfl) ?_
      refine JL.nil ?_
      refine J.condT rfl ?_
      refine J.seq ?_
      refine J.region ?_
      refine JL.step rfl rfl (OpW.call (first := []) (captured := []) inferInstance rfl rfl awake_ok) ?_; rintro r22 _ ⟨rfl, rfl⟩
      refine JL.pure rfl rfl (OpP.assign rfl) ?_
      refine JL.nil ?_
      refine J.ret1 rfl rfl ?_
    rotate_left 1
    focus
      refine JL.pure rfl rfl (OpP.pickF rfl rfl) ?_
      refine JL.nil ?_
      refine J.condF rfl ?_
      refine J.skip ?_
      refine J.seq ?_
      refine J.region ?_
      refine JL.mem rfl rfl OpM.alloc ?_; rintro _ _ ⟨b5, rfl, rfl⟩
      refine JL.nil ?_
    rotate_left 1
  rotate_left 2
  · rfl
  · rfl
  · have hbb : b = true := by simp_all
    obtain ⟨hm, hfew⟩ := h14 hbb
    refine J.conv (l' := outL b5 false (.slice none 0 0) [] []) (fun _ h => Own.f1 (Own.own_nil h)) ?_
    refine J.seq ?_
    refine J.region ?_
    refine JL.step rfl rfl (OpW.call (first := []) (captured := []) inferInstance rfl rfl outBad) ?_; rintro r23 _ ⟨rfl, ⟨v', ⟨L', ⟨h23, rfl⟩⟩⟩⟩
    refine JL.lit (.tail .head) fun av' cv' ev' => ?_; subst ev'
    refine JL.nil ?_
    refine J.seq ?_
    refine J.region ?_
    refine JL.pure rfl rfl (OpP.move rfl) ?_
    refine JL.step rfl rfl (OpW.call (first := []) (captured := []) inferInstance rfl rfl (read_ok (by omega) (hb.conv fun _ h => h.none))) ?_; rintro r25 _ ⟨g, ⟨v', ⟨rfl, rfl⟩⟩⟩
    refine JL.lit (.tail .head) fun av' cv' ev' => ?_; subst ev'
    refine JL.pure rfl rfl (OpP.assign rfl) ?_
    refine JL.nil ?_
    refine J.seq ?_
    refine J.region ?_
    refine JL.pure rfl rfl (OpP.move rfl) ?_
    refine JL.pure rfl rfl (OpP.move rfl) ?_
    refine JL.pure rfl rfl (OpP.len rfl rfl) ?_
    refine JL.pure rfl rfl (OpP.addI rfl rfl (by omega) (by omega)) ?_
    refine JL.step rfl rfl (OpW.call (first := []) (captured := []) inferInstance rfl rfl (rawL (by omega) (by omega))) ?_; rintro r30 _ ⟨⟨a1, ⟨c1, rfl⟩⟩, ⟨v', ⟨M', ⟨h30, rfl⟩⟩⟩⟩
    refine JL.lit (.tail .head) fun av' cv' ev' => ?_; subst ev'
    refine JL.nil ?_
    refine J.seq ?_
    refine J.seq ?_
    refine J.region ?_
    refine JL.pure rfl rfl (OpP.assign rfl) ?_
    refine JL.nil ?_
    refine J.block ?_
    refine J.conv (l' := outL b5 true _ L' (inL g true (.slice av' M'.length cv') M' [])) (fun _ h => Own.pick (pre := [_, _, _, _]) [2, 3, 0, 1] rfl h) ?_
    refine J.loopI (fun x : Nat × Value × List UInt8 => ps.length - x.1) (fun x => x.1 ≤ ps.length ∧ x.2.2.length ≤ 4096) (fun x => [(7, .int .i64 (x.1 : Nat)), (6, .pointer (some ⟨g, 0, none⟩)), (5, .pointer (some ⟨b5, 0, none⟩)), (0, .slice a ps.length c)])
      (fun x => outL b5 true x.2.1 x.2.2 (inL g true (.slice av' M'.length cv') M' [])) (0, _, L') ⟨Nat.zero_le _, h23⟩ (by repeat (first | exact SubEnv.nil | refine SubEnv.cons (by first | rfl | exact congrArg (fun z => some (Value.int .i64 z)) (by omega) | (simp; done)) ?_)) (fun _ h => h) (fun ⟨j, z, Q⟩ hi back => ?_)
    dsimp only at hi back ⊢
    obtain ⟨hj, hQ⟩ := hi
    by_cases hlt : j < ps.length
    · obtain ⟨p, hp⟩ : ∃ e, ps[j]? = some e := ⟨_, List.getElem?_eq_getElem hlt⟩
      have hpm := List.mem_of_getElem? hp
      obtain ⟨hf1, hf2⟩ := hfew j p (by omega) hp
      obtain ⟨hx, hx2, _⟩ := few_okE hf2
      have hx3 : p.u.xs.length ≤ 9223372036854775807 := Nat.le_trans hx2 (by decide)
      have pb := fun v => partBad (w0 := w0) (F := inL g true (.slice av' M'.length cv') M' []) (g := b5) (v := v) (L := Q) (p := p) hQ (hk p hpm) hf1 hx hx3 ((hin p hpm).conv fun _ h => h.none)
      obtain ⟨ga, pa, qa, ea, ka, hcs⟩ := hr1.pos (by omega)
      cases ea
      refine J.lit (.tail .head) fun az cz ez => ?_; subst ez
      refine J.seq ?_
      refine J.seq ?_
      refine J.region ?_
      refine JL.pure rfl rfl (OpP.move rfl) ?_
      refine JL.pure rfl rfl (OpP.move rfl) ?_
      refine JL.pure rfl rfl (OpP.len rfl rfl) ?_
      refine JL.decT rfl rfl (OpP.lss rfl rfl) (by omega) ?_
      refine JL.nil ?_
      refine J.condT rfl ?_
      refine J.skip ?_
      refine J.seq ?_
      refine J.block ?_
      refine J.region ?_
      refine JL.pure rfl rfl (OpP.move rfl) ?_
      refine JL.pure rfl rfl (OpP.move rfl) ?_
      refine JL.pure rfl rfl (OpP.indexAddr rfl rfl (by omega) (by omega)) ?_
      refine JL.read rfl rfl (OpR.loadN rfl (by apply Cells.conv (fun _ h => h.none); apply Cells.chunkAt hcs; (case' h => assumption); (case' hi => assumption); done) (by first | rfl | assumption)) ?_
      refine JL.step rfl rfl (OpW.call (first := []) (captured := []) inferInstance rfl rfl (pb _)) ?_; rintro r41 _ ⟨rfl, ⟨v', ⟨L'1, ⟨h41, rfl⟩⟩⟩⟩
      refine JL.lit (.tail .head) fun av' cv' ev' => ?_; subst ev'
      refine JL.nil ?_
      refine J.inBlock ?_
      refine J.region ?_
      refine JL.pure rfl rfl (OpP.move rfl) ?_
      refine JL.pure rfl rfl (OpP.addI rfl rfl (by omega) (by omega)) ?_
      refine JL.pure rfl rfl (OpP.assign rfl) ?_
      refine JL.nil ?_
      refine back (j + 1, _, L'1) ⟨by dsimp only; omega, by assumption⟩ (by dsimp only; omega) (by repeat (first | exact SubEnv.nil | refine SubEnv.cons (by first | rfl | exact congrArg (fun z => some (Value.int .i64 z)) (by omega) | (simp; done)) ?_)) (fun _ h => h)
    · refine J.lit (.tail .head) fun az cz ez => ?_; subst ez
      refine J.seq ?_
      refine J.seq ?_
      refine J.region ?_
      refine JL.pure rfl rfl (OpP.move rfl) ?_
      refine JL.pure rfl rfl (OpP.move rfl) ?_
      refine JL.pure rfl rfl (OpP.len rfl rfl) ?_
      refine JL.decF rfl rfl (OpP.lss rfl rfl) (by omega) ?_
      refine JL.nil ?_
      refine J.condF rfl ?_
      refine J.exit rfl ?_
      refine J.seq ?_
      refine J.region ?_
      refine JL.step rfl rfl (OpW.call (first := []) (captured := []) inferInstance rfl rfl (endBad hQ)) ?_; rintro r43 _ ⟨rfl, rfl⟩
      refine JL.pure rfl rfl (OpP.move rfl) ?_
      refine JL.pure rfl rfl (OpP.extract rfl rfl) ?_
      refine JL.pure rfl rfl (OpP.extract rfl rfl) ?_
      refine JL.pure rfl rfl (OpP.assign rfl) ?_
      refine JL.pure rfl rfl (OpP.assign rfl) ?_
      refine JL.nil ?_
      refine J.conv (l' := inL g true (.slice av' M'.length cv') M' []) (fun _ h => Own.pick (pre := [_, _, _, _]) [2, 3] rfl h) ?_
      refine J.seq ?_
      refine J.region ?_
      refine JL.pure rfl rfl (OpP.move rfl) ?_
      refine JL.decT rfl rfl (OpP.eql rfl rfl) (by omega) ?_
      refine JL.pure rfl rfl (OpP.move rfl) ?_
      refine JL.pure rfl rfl (OpP.move rfl) ?_
      refine JL.pure rfl rfl (OpP.len rfl rfl) ?_
      refine JL.decT rfl rfl (OpP.eql rfl rfl) (by omega) ?_
      refine JL.pure rfl rfl (OpP.pickT rfl rfl) ?_
      refine JL.pure rfl rfl (OpP.move rfl) ?_
      refine JL.pure rfl rfl (OpP.move rfl) ?_
      refine JL.step rfl rfl (OpW.call (first := []) (captured := []) inferInstance rfl rfl (badU8 (by assumption))) ?_; rintro r55 _ ⟨rfl, ⟨v', ⟨M'1, ⟨h55, rfl⟩⟩⟩⟩
      refine JL.lit (.tail .head) fun av' cv' ev' => ?_; subst ev'
      refine JL.decT rfl rfl (OpP.eql rfl rfl) (by omega) ?_
      refine JL.pure rfl rfl (OpP.pickT rfl rfl) ?_
      refine JL.pure rfl rfl (OpP.move rfl) ?_
      refine JL.pure rfl rfl (OpP.move rfl) ?_
      refine JL.step rfl rfl (OpW.call (first := []) (captured := []) inferInstance rfl rfl (badU32 (by assumption))) ?_; rintro r60 _ ⟨rfl, ⟨v', ⟨M'2, ⟨h60, rfl⟩⟩⟩⟩
      refine JL.lit (.tail .head) fun av' cv' ev' => ?_; subst ev'
      refine JL.decT rfl rfl (OpP.eql rfl rfl) (by omega) ?_
      refine JL.pure rfl rfl (OpP.pickT rfl rfl) ?_
      refine JL.pure rfl rfl (OpP.move rfl) ?_
      refine JL.pure rfl rfl (OpP.move rfl) ?_
      refine JL.step rfl rfl (OpW.call (first := []) (captured := []) inferInstance rfl rfl (badI64 (by assumption))) ?_; rintro r65 _ ⟨rfl, ⟨v', ⟨M'3, ⟨h65, rfl⟩⟩⟩⟩
      refine JL.lit (.tail .head) fun av' cv' ev' => ?_; subst ev'
      refine JL.decT rfl rfl (OpP.eql rfl rfl) (by omega) ?_
      refine JL.pure rfl rfl (OpP.pickT rfl rfl) ?_
      refine JL.pure rfl rfl (OpP.move rfl) ?_
      refine JL.pure rfl rfl (OpP.move rfl) ?_
      refine JL.step rfl rfl (OpW.call (first := []) (captured := []) inferInstance rfl rfl (badFlag (by assumption))) ?_; rintro r70 _ ⟨rfl, ⟨v', ⟨M'4, ⟨h70, rfl⟩⟩⟩⟩
      refine JL.lit (.tail .head) fun av' cv' ev' => ?_; subst ev'
      refine JL.pure rfl rfl (OpP.notB rfl) ?_
      refine JL.pure rfl rfl (OpP.pickT rfl rfl) ?_
      refine JL.pure rfl rfl (OpP.move rfl) ?_
      refine JL.pure rfl rfl (OpP.move rfl) ?_
      refine JL.step rfl rfl (OpW.call (first := []) (captured := []) inferInstance rfl rfl (badText (by assumption))) ?_; rintro r75 _ ⟨rfl, ⟨v', ⟨M'5, ⟨h75, rfl⟩⟩⟩⟩
      refine JL.lit (.tail .head) fun av' cv' ev' => ?_; subst ev'
      refine JL.decT rfl rfl (OpP.eqStr rfl rfl) (by decide) ?_
      refine JL.pure rfl rfl (OpP.pickT rfl rfl) ?_
      refine JL.pure rfl rfl (OpP.move rfl) ?_
      refine JL.pure rfl rfl (OpP.move rfl) ?_
      refine JL.step rfl rfl (OpW.call (first := []) (captured := []) inferInstance rfl rfl (badRaw (by assumption))) ?_; rintro r80 _ ⟨⟨a3, ⟨c3, rfl⟩⟩, ⟨v', ⟨M'6, ⟨h80, rfl⟩⟩⟩⟩
      refine JL.lit (.tail .head) fun av' cv' ev' => ?_; subst ev'
      refine JL.pure rfl rfl (OpP.len rfl rfl) ?_
      refine JL.decT rfl rfl (OpP.eql rfl rfl) (by omega) ?_
      refine JL.pure rfl rfl (OpP.pickT rfl rfl) ?_
      refine JL.pure rfl rfl (OpP.move rfl) ?_
      refine JL.pure rfl rfl (OpP.move rfl) ?_
      refine JL.step rfl rfl (OpW.call (first := []) (captured := []) inferInstance rfl rfl (badVal (by assumption))) ?_; rintro r86 _ ⟨rfl, ⟨v', ⟨M'7, ⟨h86, rfl⟩⟩⟩⟩
      refine JL.lit (.tail .head) fun av' cv' ev' => ?_; subst ev'
      refine JL.pure rfl rfl (OpP.build rfl (by (repeat (first | exact Fills.nil | (apply Fills.cons rfl rfl rfl; (case' hs => ((repeat (first | exact Spl.nil | apply Spl.here | apply Spl.there)); done))))))) ?_
      refine JL.step rfl rfl (OpW.call (first := []) (captured := []) inferInstance rfl rfl sameZ) ?_; rintro r88 _ ⟨rfl, rfl⟩
      refine JL.pure rfl rfl (OpP.pickT rfl rfl) ?_
      refine JL.pure rfl rfl (OpP.move rfl) ?_
      refine JL.pure rfl rfl (OpP.move rfl) ?_
      refine JL.step rfl rfl (OpW.call (first := []) (captured := []) inferInstance rfl rfl (badOver (by assumption))) ?_; rintro r92 _ ⟨rfl, ⟨v', ⟨M'8, ⟨h92, rfl⟩⟩⟩⟩
      refine JL.lit (.tail .head) fun av' cv' ev' => ?_; subst ev'
      refine JL.pure rfl rfl (OpP.notB rfl) ?_
      refine JL.pure rfl rfl (OpP.pickT rfl rfl) ?_
      refine JL.pure rfl rfl (OpP.assign rfl) ?_
      refine JL.nil ?_
      refine J.ret1 rfl rfl ?_
      rfl
end Go.Proofs.E

-- seat e
namespace Go.Proofs.E
open Go Go.Gp Go.RowKit

theorem Fm.part {w0 : World} {cs : List Value} (h : Fm Try.prog w0 31 cs) : ∃ p : Pa, ((0 ≤ p.kd ∧ p.kd ≤ 255) ∧ ∀ l, RdO w0 l (.slice p.u.a p.u.xs.length p.u.c) p.u.xs.length (p.u.xs.flatMap ecl)) ∧ cs = pac p := by
  have h := h.fields (l := [(5, 1), (2, 1), (9, 1), (29, 4)]) (by kernel_rfl)
  obtain ⟨c0, cs, rfl, f0, h⟩ := h.one
  obtain ⟨c1, cs, rfl, f1, h⟩ := h.one
  obtain ⟨c2, cs, rfl, f2, h⟩ := h.one
  obtain ⟨d, cs, rfl, _, f3, h⟩ := h.many
  cases h
  obtain ⟨kd, e0, k0⟩ := f0.int (k := .u8) (by kernel_rfl)
  obtain ⟨n, e1, _⟩ := f1.int (k := .i64) (by kernel_rfl)
  obtain ⟨t, e2, _⟩ := f2.str (by kernel_rfl)
  simp [Lit.wf, IntKind.min, IntKind.max, IntKind.signed, IntKind.bits] at k0
  cases e0; cases e1; cases e2
  obtain ⟨k, i, s, a, c, xs, _, e, hr⟩ := Fm.val f3
  subst e
  exact ⟨⟨kd, n, t.data.toList, ⟨k, i, s, xs, a, c⟩⟩, ⟨k0, fun l => (hr l).o⟩, by simp [pac, vcl, strB]⟩
theorem CodecBad_law {W : World} {a : Option Addr} {n c : Nat} {a2 : Option Addr} {n2 c2 : Nat} (h : Fm Try.prog W 26 [.slice a n c]) (h2 : Fm Try.prog W 22 [.slice a2 n2 c2]) :
    Calls Try.prog 7 #[.slice a n c, .slice a2 n2 c2] W fun e w' => e = .returned (.bool true) ∧ Below W.heap.size W w' := by
  obtain ⟨ps, hp, hm, hr⟩ := Fm.rows (f := pac) (Q := fun p => (0 ≤ p.kd ∧ p.kd ≤ 255) ∧ ∀ l, RdO W l (.slice p.u.a p.u.xs.length p.u.c) p.u.xs.length (p.u.xs.flatMap ecl)) (e := 31) (by kernel_rfl) (sz := 7) (by kernel_rfl) (by decide) h fun cs _ hf => Fm.part hf
  obtain ⟨b, hl, hb⟩ := h2.bytes Try.underlying22 Try.underlying5 (by kernel_rfl)
  obtain ⟨a', c', e⟩ := (hr []).lit
  cases e
  obtain ⟨a'', c'', e⟩ := hb.lit
  cases e
  have hm2 : maxLen ≤ 9223372036854775807 := by decide
  exact FnO.law (CodecBad_ok (by omega) hl (fun p hq => (hp p hq).1.1) (hr []).o (fun p hq => (hp p hq).1.2 []) hb.o) (Own.nil W)
end Go.Proofs.E
