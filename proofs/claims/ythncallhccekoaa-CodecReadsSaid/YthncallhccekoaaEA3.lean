/- A text of the proof of a statement about the given program: its part EA3. No person has read it. -/
import Derived.Test.YthncallhccekoaaEA2
import Derived.Test.YthncallhccekoaaEJ2
-- seat e
namespace Go.Proofs.E
open Go Go.Gp Go.RowKit

theorem few1_ok {w0 : World} {F : List HProp} {fa a : Option Addr} {fc c : Nat} {k i : Int} {s : List UInt8} {xs : List El} (hr : RdO w0 F (.slice fa 1 fc) 1 (vcl k i s (.slice a xs.length c))) (h1 : RdO w0 F (.slice a xs.length c) xs.length (xs.flatMap ecl)) :
    FnO Try.prog w0 25 [.slice fa 1 fc, .int .i64 1] F (fun r l' => ∃ b, r = .bool b ∧ l' = F ∧ (b = true → FewU ⟨k, i, s, xs, a, c⟩)) :=
  (few_ok (vs := [⟨k, i, s, xs, a, c⟩]) (m := 1) (by simp) hr (by
    intro u hu
    obtain rfl := List.mem_singleton.1 hu
    exact h1)).mono fun r l' ⟨b, q1, q2, q3⟩ => ⟨b, q1, q2, fun hb => (q3 hb).2 0 _ (by omega) rfl⟩
/-- A part in a list. -/
structure Pa where
  kd : Int
  n : Int
  t : List UInt8
  u : Va
abbrev pac (p : Pa) : List Value := [.int .u8 p.kd, .int .i64 p.n, .string (strB p.t), .int .i64 p.u.k, .int .i64 p.u.i, .string (strB p.u.s), .slice p.u.a p.u.xs.length p.u.c]
def FewP (p : Pa) : Prop := p.t.length ≤ 5000 ∧ FewU p.u
theorem few31_ok {w0 : World} {F : List HProp} {a : Option Addr} {c : Nat} {m : Int} {ps : List Pa} (hn : ps.length ≤ 9223372036854775807) (hr : RdO w0 F (.slice a ps.length c) ps.length (ps.flatMap pac)) (hin : ∀ p ∈ ps, RdO w0 F (.slice p.u.a p.u.xs.length p.u.c) p.u.xs.length (p.u.xs.flatMap ecl)) :
    FnO Try.prog w0 31 [.slice a ps.length c, .int .i64 m] F (fun r l' => ∃ b, r = .bool b ∧ l' = F ∧ (b = true → (ps.length : Int) ≤ m ∧ ∀ (j : Nat) (p : Pa), j < 100 → ps[j]? = some p → FewP p)) := by
  have hlen : ∀ p ∈ ps, (pac p).length = 7 := fun _ _ => rfl
  refine FnO.rdF (fun _ h => h) hr fun hr1 => ?_
  refine FnO.intro (n := 37) Try.func31 rfl rfl rfl ?_
  refine J.seq ?_
  refine J.region ?_
  refine JL.pure rfl rfl (OpP.assign rfl) ?_
  refine JL.nil ?_
  refine J.seq ?_
  refine J.seq ?_
  refine J.region ?_
  refine JL.pure rfl rfl (OpP.assign rfl) ?_
  refine JL.nil ?_
  refine J.block ?_
  refine J.loopI (fun j : Nat => ps.length - j) (fun j => j ≤ ps.length ∧ j ≤ 100 ∧ ∀ (q : Nat) (p : Pa), q < j → ps[q]? = some p → FewP p) (fun j => [(5, .int .i64 (j : Nat)), (0, .slice a ps.length c), (1, .int .i64 m)])
    (fun _ => F) 0 ⟨Nat.zero_le _, Nat.zero_le _, fun _ _ h => absurd h (Nat.not_lt_zero _)⟩ (by repeat (first | exact SubEnv.nil | refine SubEnv.cons (by first | rfl | exact congrArg (fun z => some (Value.int .i64 z)) (by omega) | (simp; done)) ?_)) (fun _ h => h) (fun j hi back => ?_)
  dsimp only at hi back ⊢
  obtain ⟨hj, hj2, hg⟩ := hi
  by_cases hlt : j < ps.length
  · by_cases h100 : j < 100
    · obtain ⟨u, hu⟩ : ∃ e, ps[j]? = some e := ⟨_, List.getElem?_eq_getElem hlt⟩
      have hui := hin u (List.mem_of_getElem? hu)
      have es := strB_size u.t
      obtain ⟨ga, pa, qa, ea, ka, hcs⟩ := hr1.pos (by omega)
      cases ea
      refine J.seq ?_
      refine J.seq ?_
      refine J.region ?_
      refine JL.pure rfl rfl (OpP.move rfl) ?_
      refine JL.pure rfl rfl (OpP.move rfl) ?_
      refine JL.pure rfl rfl (OpP.len rfl rfl) ?_
      refine JL.decT rfl rfl (OpP.lss rfl rfl) (by omega) ?_
      refine JL.pure rfl rfl (OpP.move rfl) ?_
      refine JL.pure rfl rfl (OpP.move rfl) ?_
      refine JL.decT rfl rfl (OpP.lss rfl rfl) (by omega) ?_
      refine JL.pure rfl rfl (OpP.pickT rfl rfl) ?_
      refine JL.nil ?_
      refine J.condT rfl ?_
      refine J.skip ?_
      refine J.seq ?_
      refine J.block ?_
      refine J.seq ?_
      refine J.region ?_
      refine JL.pure rfl rfl (OpP.move rfl) ?_
      refine JL.pure rfl rfl (OpP.move rfl) ?_
      refine JL.pure rfl rfl (OpP.indexAddr rfl rfl (by omega) (by omega)) ?_
      refine JL.pure rfl rfl (OpP.fieldAddr rfl) ?_
      refine JL.read rfl rfl (OpR.load1 rfl (by apply Cells.cellChunk (j := 2) hcs (fun _ h => h); (case' h => assumption); (case' hi => assumption); (case' hv => rfl); (case' ho => omega); done)) ?_
      refine JL.pure rfl rfl (OpP.lenStr rfl rfl) ?_
      refine JL.dec rfl rfl (OpP.gtr rfl rfl) (fun h22 => ?_) (fun h22 => ?_)
      focus
        refine JL.pure rfl rfl (OpP.move rfl) ?_
        refine JL.skip rfl rfl ?_
        refine JL.skip rfl rfl ?_
        refine JL.skip rfl rfl ?_
        refine JL.skip rfl rfl ?_
        refine JL.skip rfl rfl ?_
        refine JL.skip rfl rfl ?_
        refine JL.skip rfl rfl ?_
        refine JL.skip rfl rfl ?_
        refine JL.pure rfl rfl (OpP.pickT rfl rfl) ?_
        refine JL.nil ?_
        refine J.condT rfl ?_
      rotate_left 1
      focus
        refine JL.pure rfl rfl (OpP.move rfl) ?_
        refine JL.pure rfl rfl (OpP.move rfl) ?_
        refine JL.pure rfl rfl (OpP.move rfl) ?_
        refine JL.pure rfl rfl (OpP.indexAddr rfl rfl (by omega) (by omega)) ?_
        refine JL.pure rfl rfl (OpP.fieldAddr rfl) ?_
        refine JL.read rfl rfl (OpR.loadN rfl (by apply Cells.chunkSub (j := 3) (m := 4) hcs (fun _ h => h); (case' h => assumption); (case' hi => assumption); (case' hv => rfl); (case' ho => omega); done) (by rfl)) ?_
        refine JL.mem rfl rfl (by apply OpM.buildSlice (by rfl) rfl (by rfl); (repeat (first | exact Fills.nil | (apply Fills.cons rfl rfl rfl; (case' hs => ((repeat (first | exact Spl.nil | apply Spl.here | apply Spl.there)); done)))))) ?_; rintro _ _ ⟨b29, rfl, rfl⟩
        refine JL.step rfl rfl (OpW.call (first := []) (captured := []) inferInstance rfl rfl (few1_ok (k := u.u.k) (i := u.u.i) (s := u.u.s) (a := u.u.a) (c := u.u.c) (xs := u.u.xs) (RdO.ofRow .head (by first | exact Nat.le_refl _ | decide | omega)) (hui.conv fun _ h => Own.pick (pre := [_]) [] rfl h))) ?_; rintro r30 _ ⟨b, ⟨rfl, ⟨rfl, h30⟩⟩⟩
        refine JL.pure rfl rfl (OpP.notB rfl) ?_
        refine JL.pure rfl rfl (OpP.pickF rfl rfl) ?_
        refine JL.nil ?_
        refine J.splitAt 32 rfl (fun h32 => ?_) (fun h32 => ?_)
        focus
          refine J.condT rfl ?_
        rotate_left 1
        focus
          refine J.condF rfl ?_
          refine J.skip ?_
          refine J.inBlock ?_
          refine J.region ?_
          refine JL.pure rfl rfl (OpP.move rfl) ?_
          refine JL.pure rfl rfl (OpP.addI rfl rfl (by omega) (by omega)) ?_
          refine JL.pure rfl rfl (OpP.assign rfl) ?_
          refine JL.nil ?_
        rotate_left 1
      rotate_left 2
      · refine J.seq ?_
        refine J.region ?_
        refine JL.pure rfl rfl (OpP.assign rfl) ?_
        refine JL.nil ?_
        refine J.ret1 rfl rfl ?_
        exact ⟨_, rfl, rfl, fun q => by cases q⟩
      · refine J.conv (l' := F) (fun _ h => h.tail) ?_
        refine J.seq ?_
        refine J.region ?_
        refine JL.pure rfl rfl (OpP.assign rfl) ?_
        refine JL.nil ?_
        refine J.ret1 rfl rfl ?_
        exact ⟨_, rfl, rfl, fun q => by cases q⟩
      · refine J.conv (l' := F) (fun _ h => h.tail) ?_
        skip
        refine back (j + 1) ⟨by omega, by omega, fun p u' hp hu' => ?_⟩ (by omega) (by repeat (first | exact SubEnv.nil | refine SubEnv.cons (by first | rfl | exact congrArg (fun z => some (Value.int .i64 z)) (by omega) | (simp; done)) ?_)) (fun _ h => h)
        by_cases hpj : p < j
        · exact hg p u' hpj hu'
        · obtain rfl : p = j := by omega
          obtain rfl : u' = u := Option.some.inj (hu'.symm.trans hu)
          exact ⟨by omega, h30 (by cases b <;> first | rfl | cases h32)⟩
    · refine J.seq ?_
      refine J.seq ?_
      refine J.region ?_
      refine JL.pure rfl rfl (OpP.move rfl) ?_
      refine JL.pure rfl rfl (OpP.move rfl) ?_
      refine JL.pure rfl rfl (OpP.len rfl rfl) ?_
      refine JL.decT rfl rfl (OpP.lss rfl rfl) (by omega) ?_
      refine JL.pure rfl rfl (OpP.move rfl) ?_
      refine JL.pure rfl rfl (OpP.move rfl) ?_
      refine JL.decF rfl rfl (OpP.lss rfl rfl) (by omega) ?_
      refine JL.pure rfl rfl (OpP.pickT rfl rfl) ?_
      refine JL.nil ?_
      refine J.condF rfl ?_
      refine J.exit rfl ?_
      refine J.seq ?_
      refine J.region ?_
      refine JL.pure rfl rfl (OpP.move rfl) ?_
      refine JL.pure rfl rfl (OpP.len rfl rfl) ?_
      refine JL.pure rfl rfl (OpP.move rfl) ?_
      refine JL.dec rfl rfl (OpP.leq rfl rfl) (fun h36 => ?_) (fun h36 => ?_)
      focus
        refine JL.pure rfl rfl (OpP.assign rfl) ?_
        refine JL.nil ?_
        refine J.ret1 rfl rfl ?_
      rotate_left 1
      focus
        refine JL.pure rfl rfl (OpP.assign rfl) ?_
        refine JL.nil ?_
        refine J.ret1 rfl rfl ?_
      rotate_left 1
      · exact ⟨_, rfl, rfl, fun _ => ⟨by omega, fun q u hq hu => hg q u (by omega) hu⟩⟩
      · exact ⟨_, rfl, rfl, fun q => by cases q⟩
  · refine J.seq ?_
    refine J.seq ?_
    refine J.region ?_
    refine JL.pure rfl rfl (OpP.move rfl) ?_
    refine JL.pure rfl rfl (OpP.move rfl) ?_
    refine JL.pure rfl rfl (OpP.len rfl rfl) ?_
    refine JL.decF rfl rfl (OpP.lss rfl rfl) (by omega) ?_
    refine JL.pure rfl rfl (OpP.move rfl) ?_
    refine JL.skip rfl rfl ?_
    refine JL.skip rfl rfl ?_
    refine JL.pure rfl rfl (OpP.pickF rfl rfl) ?_
    refine JL.nil ?_
    refine J.condF rfl ?_
    refine J.exit rfl ?_
    refine J.seq ?_
    refine J.region ?_
    refine JL.pure rfl rfl (OpP.move rfl) ?_
    refine JL.pure rfl rfl (OpP.len rfl rfl) ?_
    refine JL.pure rfl rfl (OpP.move rfl) ?_
    refine JL.dec rfl rfl (OpP.leq rfl rfl) (fun h36 => ?_) (fun h36 => ?_)
    focus
      refine JL.pure rfl rfl (OpP.assign rfl) ?_
      refine JL.nil ?_
      refine J.ret1 rfl rfl ?_
    rotate_left 1
    focus
      refine JL.pure rfl rfl (OpP.assign rfl) ?_
      refine JL.nil ?_
      refine J.ret1 rfl rfl ?_
    rotate_left 1
    · exact ⟨_, rfl, rfl, fun _ => ⟨by omega, fun q u hq hu => hg q u (by have := (List.getElem?_eq_some_iff.1 hu).1; omega) hu⟩⟩
    · exact ⟨_, rfl, rfl, fun q => by cases q⟩
end Go.Proofs.E

-- seat e
namespace Go.Proofs.E
open Go Go.Gp Go.RowKit

/-- What is written when a part has been put. -/
def PartO (o : Option (List UInt8)) (p : Pa) (r : Option (List UInt8)) : Prop :=
  if p.kd % 8 = 0 then r = smallO o p.n 1 else if p.kd % 8 = 1 then r = smallO o p.n 2 else if p.kd % 8 = 2 then r = smallO o p.n 4 else if p.kd % 8 = 3 then r = putO o (be (u64 p.n) 8)
  else if p.kd % 8 = 4 then r = putO o [if u64 p.n % 2 = 1 then 1 else 0] else if p.kd % 8 = 5 then r = textO o p.t else if p.kd % 8 = 6 then r = putO o p.t
  else (FormedP p.u.k p.u.i p.u.s p.u.xs → r = putO o (valB p.u.k p.u.i p.u.s p.u.xs)) ∧ (¬ FormedP p.u.k p.u.i p.u.s p.u.xs → r = none)
theorem partO_none {p : Pa} {r : Option (List UInt8)} (h : PartO none p r) : r = none := by
  have hs : ∀ n k, smallO none n k = none := fun n k => by unfold smallO; split <;> rfl
  unfold PartO at h
  by_cases h0 : p.kd % 8 = 0
  · rw [if_pos h0] at h; exact h.trans (hs _ _)
  rw [if_neg h0] at h
  by_cases h0 : p.kd % 8 = 1
  · rw [if_pos h0] at h; exact h.trans (hs _ _)
  rw [if_neg h0] at h
  by_cases h0 : p.kd % 8 = 2
  · rw [if_pos h0] at h; exact h.trans (hs _ _)
  rw [if_neg h0] at h
  by_cases h0 : p.kd % 8 = 3
  · rw [if_pos h0] at h; exact h
  rw [if_neg h0] at h
  by_cases h0 : p.kd % 8 = 4
  · rw [if_pos h0] at h; exact h
  rw [if_neg h0] at h
  by_cases h0 : p.kd % 8 = 5
  · rw [if_pos h0] at h; rw [h]; unfold textO; split <;> rfl
  rw [if_neg h0] at h
  by_cases h0 : p.kd % 8 = 6
  · rw [if_pos h0] at h; exact h
  rw [if_neg h0] at h
  by_cases hf : FormedP p.u.k p.u.i p.u.s p.u.xs
  · exact h.1 hf
  · exact h.2 hf
theorem odd_iff {n : Int} : (IntKind.u64.wrap n).tmod 2 = 1 ↔ u64 n % 2 = 1 := by
  rw [u64_wrap, Int.tmod_eq_emod_of_nonneg (by omega)]
  omega
theorem part_ok {w0 : World} {F : List HProp} {g : Nat} {bad : Bool} {v : Value} {L : List UInt8} {p : Pa} (hL : L.length ≤ 4096) (hk : 0 ≤ p.kd ∧ p.kd ≤ 255) (ht : p.t.length ≤ 5000) (hx : ∀ e ∈ p.u.xs, e.ok) (hn : p.u.xs.length ≤ 9223372036854775807) (hr : RdO w0 F (.slice p.u.a p.u.xs.length p.u.c) p.u.xs.length (p.u.xs.flatMap ecl)) :
    FnO Try.prog w0 32 [.pointer (some ⟨g, 0, none⟩), .agg (pac p).toArray] (outL g bad v L F) (fun r l' => r = .tuple #[] ∧ ∃ bad' v' L', L'.length ≤ 4096 ∧ PartO (absO bad L) p (absO bad' L') ∧ l' = outL g bad' v' L' F) := by
  refine FnO.weak ?_
  refine FnO.intro (n := 57) Try.func32 rfl rfl rfl ?_
  refine J.lit (.tail .head) fun av cv ev => ?_; subst ev
  refine J.seq ?_
  refine J.region ?_
  refine JL.mem rfl rfl (OpM.box rfl rfl) ?_; rintro _ _ ⟨b3, rfl, rfl⟩
  refine JL.nil ?_
  refine J.conv (l' := outL g bad (.slice av L.length cv) L (row b3 31 (pac p) :: F)) (fun _ h => Own.pick (pre := [_, _, _]) [1, 2, 0] rfl h) ?_
  by_cases hf : FormedP p.u.k p.u.i p.u.s p.u.xs
  · refine J.seq ?_
    refine J.region ?_
    refine JL.pure rfl rfl (OpP.fieldAddr rfl) ?_
    refine JL.read rfl rfl (OpR.load1 rfl (Cell.row (.tail (.tail .head)) rfl)) ?_
    refine JL.pure rfl rfl (OpP.remI rfl rfl (by first | omega | exact Int.natCast_nonneg _) (by omega)) ?_
    refine JL.nil ?_
    refine J.block ?_
    refine J.seq ?_
    refine J.region ?_
    refine JL.dec rfl rfl (OpP.eql rfl rfl) (fun h12 => ?_) (fun h12 => ?_)
    focus
      refine JL.pure rfl rfl (OpP.assign rfl) ?_
      refine JL.nil ?_
      refine J.condT rfl ?_
      refine J.region ?_
      refine JL.pure rfl rfl (OpP.move rfl) ?_
      refine JL.pure rfl rfl (OpP.fieldAddr rfl) ?_
      refine JL.read rfl rfl (OpR.load1 rfl (Cell.row (.tail (.tail .head)) rfl)) ?_
      refine JL.step rfl rfl (OpW.call (first := []) (captured := []) inferInstance rfl rfl (outU8_ok hL)) ?_; rintro r16 _ ⟨rfl, ⟨bad', ⟨v', ⟨L', ⟨h16, ⟨h161, rfl⟩⟩⟩⟩⟩⟩
      refine JL.lit (.tail .head) fun av' cv' ev' => ?_; subst ev'
      refine JL.nil ?_
      refine J.inBlock ?_
      refine J.fin0 rfl ?_
    rotate_left 1
    focus
      refine JL.pure rfl rfl (OpP.assign rfl) ?_
      refine JL.nil ?_
      refine J.condF rfl ?_
      refine J.seq ?_
      refine J.region ?_
      refine JL.dec rfl rfl (OpP.eql rfl rfl) (fun h18 => ?_) (fun h18 => ?_)
      focus
        refine JL.pure rfl rfl (OpP.assign rfl) ?_
        refine JL.nil ?_
        refine J.condT rfl ?_
        refine J.region ?_
        refine JL.pure rfl rfl (OpP.move rfl) ?_
        refine JL.pure rfl rfl (OpP.fieldAddr rfl) ?_
        refine JL.read rfl rfl (OpR.load1 rfl (Cell.row (.tail (.tail .head)) rfl)) ?_
        refine JL.step rfl rfl (OpW.call (first := []) (captured := []) inferInstance rfl rfl (outU16_ok hL)) ?_; rintro r22 _ ⟨rfl, ⟨bad', ⟨v', ⟨L', ⟨h22, ⟨h221, rfl⟩⟩⟩⟩⟩⟩
        refine JL.lit (.tail .head) fun av' cv' ev' => ?_; subst ev'
        refine JL.nil ?_
        refine J.inBlock ?_
        refine J.fin0 rfl ?_
      rotate_left 1
      focus
        refine JL.pure rfl rfl (OpP.assign rfl) ?_
        refine JL.nil ?_
        refine J.condF rfl ?_
        refine J.seq ?_
        refine J.region ?_
        refine JL.dec rfl rfl (OpP.eql rfl rfl) (fun h24 => ?_) (fun h24 => ?_)
        focus
          refine JL.pure rfl rfl (OpP.assign rfl) ?_
          refine JL.nil ?_
          refine J.condT rfl ?_
          refine J.region ?_
          refine JL.pure rfl rfl (OpP.move rfl) ?_
          refine JL.pure rfl rfl (OpP.fieldAddr rfl) ?_
          refine JL.read rfl rfl (OpR.load1 rfl (Cell.row (.tail (.tail .head)) rfl)) ?_
          refine JL.step rfl rfl (OpW.call (first := []) (captured := []) inferInstance rfl rfl (outU32_ok hL)) ?_; rintro r28 _ ⟨rfl, ⟨bad', ⟨v', ⟨L', ⟨h28, ⟨h281, rfl⟩⟩⟩⟩⟩⟩
          refine JL.lit (.tail .head) fun av' cv' ev' => ?_; subst ev'
          refine JL.nil ?_
          refine J.inBlock ?_
          refine J.fin0 rfl ?_
        rotate_left 1
        focus
          refine JL.pure rfl rfl (OpP.assign rfl) ?_
          refine JL.nil ?_
          refine J.condF rfl ?_
          refine J.seq ?_
          refine J.region ?_
          refine JL.dec rfl rfl (OpP.eql rfl rfl) (fun h30 => ?_) (fun h30 => ?_)
          focus
            refine JL.pure rfl rfl (OpP.assign rfl) ?_
            refine JL.nil ?_
            refine J.condT rfl ?_
            refine J.region ?_
            refine JL.pure rfl rfl (OpP.move rfl) ?_
            refine JL.pure rfl rfl (OpP.fieldAddr rfl) ?_
            refine JL.read rfl rfl (OpR.load1 rfl (Cell.row (.tail (.tail .head)) rfl)) ?_
            refine JL.step rfl rfl (OpW.call (first := []) (captured := []) inferInstance rfl rfl (outI64_ok hL)) ?_; rintro r34 _ ⟨rfl, ⟨bad', ⟨v', ⟨L', ⟨h34, ⟨h341, rfl⟩⟩⟩⟩⟩⟩
            refine JL.lit (.tail .head) fun av' cv' ev' => ?_; subst ev'
            refine JL.nil ?_
            refine J.inBlock ?_
            refine J.fin0 rfl ?_
          rotate_left 1
          focus
            refine JL.pure rfl rfl (OpP.assign rfl) ?_
            refine JL.nil ?_
            refine J.condF rfl ?_
            refine J.seq ?_
            refine J.region ?_
            refine JL.dec rfl rfl (OpP.eql rfl rfl) (fun h36 => ?_) (fun h36 => ?_)
            focus
              refine JL.pure rfl rfl (OpP.assign rfl) ?_
              refine JL.nil ?_
              refine J.condT rfl ?_
              refine J.region ?_
              refine JL.pure rfl rfl (OpP.move rfl) ?_
              refine JL.pure rfl rfl (OpP.fieldAddr rfl) ?_
              refine JL.read rfl rfl (OpR.load1 rfl (Cell.row (.tail (.tail .head)) rfl)) ?_
              refine JL.pure rfl rfl (OpP.conv rfl) ?_
              refine JL.pure rfl rfl (OpP.rem rfl rfl (by omega)) ?_
              refine JL.dec rfl rfl (OpP.eql rfl rfl) (fun h42 => ?_) (fun h42 => ?_)
              focus
                refine JL.step rfl rfl (OpW.call (first := []) (captured := []) inferInstance rfl rfl (outFlag_ok hL)) ?_; rintro r43 _ ⟨rfl, ⟨bad', ⟨v', ⟨L', ⟨h43, ⟨h431, rfl⟩⟩⟩⟩⟩⟩
                refine JL.lit (.tail .head) fun av' cv' ev' => ?_; subst ev'
                refine JL.nil ?_
                refine J.inBlock ?_
                refine J.fin0 rfl ?_
              rotate_left 1
              focus
                refine JL.step rfl rfl (OpW.call (first := []) (captured := []) inferInstance rfl rfl (outFlag_ok hL)) ?_; rintro r43 _ ⟨rfl, ⟨bad', ⟨v', ⟨L', ⟨h43, ⟨h431, rfl⟩⟩⟩⟩⟩⟩
                refine JL.lit (.tail .head) fun av' cv' ev' => ?_; subst ev'
                refine JL.nil ?_
                refine J.inBlock ?_
                refine J.fin0 rfl ?_
              rotate_left 1
            rotate_left 2
            focus
              refine JL.pure rfl rfl (OpP.assign rfl) ?_
              refine JL.nil ?_
              refine J.condF rfl ?_
              refine J.seq ?_
              refine J.region ?_
              refine JL.dec rfl rfl (OpP.eql rfl rfl) (fun h45 => ?_) (fun h45 => ?_)
              focus
                refine JL.pure rfl rfl (OpP.assign rfl) ?_
                refine JL.nil ?_
                refine J.condT rfl ?_
                refine J.region ?_
                refine JL.pure rfl rfl (OpP.move rfl) ?_
                refine JL.pure rfl rfl (OpP.fieldAddr rfl) ?_
                refine JL.read rfl rfl (OpR.load1 rfl (Cell.row (.tail (.tail .head)) rfl)) ?_
                refine JL.step rfl rfl (OpW.call (first := []) (captured := []) inferInstance rfl rfl (outText_ok hL (by omega))) ?_; rintro r49 _ ⟨rfl, ⟨bad', ⟨v', ⟨L', ⟨h49, ⟨h491, rfl⟩⟩⟩⟩⟩⟩
                refine JL.lit (.tail .head) fun av' cv' ev' => ?_; subst ev'
                refine JL.nil ?_
                refine J.inBlock ?_
                refine J.fin0 rfl ?_
              rotate_left 1
              focus
                refine JL.pure rfl rfl (OpP.assign rfl) ?_
                refine JL.nil ?_
                refine J.condF rfl ?_
                refine J.seq ?_
                refine J.region ?_
                refine JL.dec rfl rfl (OpP.eql rfl rfl) (fun h51 => ?_) (fun h51 => ?_)
                focus
                  refine JL.pure rfl rfl (OpP.assign rfl) ?_
                  refine JL.nil ?_
                  refine J.condT rfl ?_
                  refine J.region ?_
                  refine JL.pure rfl rfl (OpP.move rfl) ?_
                  refine JL.pure rfl rfl (OpP.fieldAddr rfl) ?_
                  refine JL.read rfl rfl (OpR.load1 rfl (Cell.row (.tail (.tail .head)) rfl)) ?_
                  refine JL.mem rfl rfl (OpM.strToBytesC rfl) ?_; rintro _ _ ⟨b55, c55, rfl, k55, rfl⟩
                  refine JL.f2 ?_; refine JL.f2 ?_; refine JL.step rfl rfl (OpW.call (first := []) (captured := []) inferInstance rfl rfl (outRaw_ok (bs := p.t) hL (by omega) (RdO.ofRdo .head (by first | exact Nat.le_refl _ | decide | omega)))) ?_; rintro r56 _ ⟨rfl, ⟨bad', ⟨v', ⟨L', ⟨h56, ⟨h561, rfl⟩⟩⟩⟩⟩⟩
                  refine JL.lit (.tail .head) fun av' cv' ev' => ?_; subst ev'
                  refine JL.nil ?_
                  refine J.inBlock ?_
                  refine J.fin0 rfl ?_
                rotate_left 1
                focus
                  refine JL.pure rfl rfl (OpP.assign rfl) ?_
                  refine JL.nil ?_
                  refine J.condF rfl ?_
                  refine J.region ?_
                  refine JL.pure rfl rfl (OpP.move rfl) ?_
                  refine JL.pure rfl rfl (OpP.fieldAddr rfl) ?_
                  refine JL.read rfl rfl (OpR.loadN rfl (Cells.sub 4 (.tail (.tail .head)) rfl) rfl) ?_
                  refine JL.step rfl rfl (OpW.call (first := []) (captured := []) inferInstance rfl rfl (outVal_ok (k := p.u.k) (i := p.u.i) (s := p.u.s) (a := p.u.a) (c := p.u.c) (xs := p.u.xs) hL hx hn hf (hr.conv fun _ h => Own.pick (pre := [_]) [] rfl h))) ?_; rintro r10 _ ⟨rfl, ⟨bad', ⟨v', ⟨L', ⟨h10, ⟨h101, rfl⟩⟩⟩⟩⟩⟩
                  refine JL.lit (.tail .head) fun av' cv' ev' => ?_; subst ev'
                  refine JL.nil ?_
                  refine J.inBlock ?_
                  refine J.fin0 rfl ?_
                rotate_left 1
              rotate_left 2
            rotate_left 3
          rotate_left 5
        rotate_left 6
      rotate_left 7
    rotate_left 8
    · exact ⟨_, ⟨rfl, bad', _, L', h16, by simp [PartO, h12, h161], rfl⟩, fun _ h => Own.pick (pre := [_, _, _]) [0, 1] rfl h⟩
    · exact ⟨_, ⟨rfl, bad', _, L', h22, by simp [PartO, h18, h221], rfl⟩, fun _ h => Own.pick (pre := [_, _, _]) [0, 1] rfl h⟩
    · exact ⟨_, ⟨rfl, bad', _, L', h28, by simp [PartO, h24, h281], rfl⟩, fun _ h => Own.pick (pre := [_, _, _]) [0, 1] rfl h⟩
    · exact ⟨_, ⟨rfl, bad', _, L', h34, by simp [PartO, h30, h341], rfl⟩, fun _ h => Own.pick (pre := [_, _, _]) [0, 1] rfl h⟩
    · have h2 := odd_iff.1 h42
      exact ⟨_, ⟨rfl, bad', _, L', h43, by simp [PartO, h36, h431, h2], rfl⟩, fun _ h => Own.pick (pre := [_, _, _]) [0, 1] rfl h⟩
    · have h2 := fun h => h42 (odd_iff.2 h)
      exact ⟨_, ⟨rfl, bad', _, L', h43, by simp [PartO, h36, h431]; rw [if_neg h2], rfl⟩, fun _ h => Own.pick (pre := [_, _, _]) [0, 1] rfl h⟩
    · exact ⟨_, ⟨rfl, bad', _, L', h49, by simp [PartO, h45, h491], rfl⟩, fun _ h => Own.pick (pre := [_, _, _]) [0, 1] rfl h⟩
    · exact ⟨_, ⟨rfl, bad', _, L', h56, by simp [PartO, h51, h561], rfl⟩, fun _ h => Own.pick (pre := [_, _, _, _]) [0, 1] rfl h⟩
    · exact ⟨_, ⟨rfl, bad', _, L', h10, by simp [PartO, h12, h18, h24, h30, h36, h45, h51, hf, h101], rfl⟩, fun _ h => Own.pick (pre := [_, _, _]) [0, 1] rfl h⟩
  · refine J.seq ?_
    refine J.region ?_
    refine JL.pure rfl rfl (OpP.fieldAddr rfl) ?_
    refine JL.read rfl rfl (OpR.load1 rfl (Cell.row (.tail (.tail .head)) rfl)) ?_
    refine JL.pure rfl rfl (OpP.remI rfl rfl (by first | omega | exact Int.natCast_nonneg _) (by omega)) ?_
    refine JL.nil ?_
    refine J.block ?_
    refine J.seq ?_
    refine J.region ?_
    refine JL.dec rfl rfl (OpP.eql rfl rfl) (fun h12 => ?_) (fun h12 => ?_)
    focus
      refine JL.pure rfl rfl (OpP.assign rfl) ?_
      refine JL.nil ?_
      refine J.condT rfl ?_
      refine J.region ?_
      refine JL.pure rfl rfl (OpP.move rfl) ?_
      refine JL.pure rfl rfl (OpP.fieldAddr rfl) ?_
      refine JL.read rfl rfl (OpR.load1 rfl (Cell.row (.tail (.tail .head)) rfl)) ?_
      refine JL.step rfl rfl (OpW.call (first := []) (captured := []) inferInstance rfl rfl (outU8_ok hL)) ?_; rintro r16 _ ⟨rfl, ⟨bad', ⟨v', ⟨L', ⟨h16, ⟨h161, rfl⟩⟩⟩⟩⟩⟩
      refine JL.lit (.tail .head) fun av' cv' ev' => ?_; subst ev'
      refine JL.nil ?_
      refine J.inBlock ?_
      refine J.fin0 rfl ?_
    rotate_left 1
    focus
      refine JL.pure rfl rfl (OpP.assign rfl) ?_
      refine JL.nil ?_
      refine J.condF rfl ?_
      refine J.seq ?_
      refine J.region ?_
      refine JL.dec rfl rfl (OpP.eql rfl rfl) (fun h18 => ?_) (fun h18 => ?_)
      focus
        refine JL.pure rfl rfl (OpP.assign rfl) ?_
        refine JL.nil ?_
        refine J.condT rfl ?_
        refine J.region ?_
        refine JL.pure rfl rfl (OpP.move rfl) ?_
        refine JL.pure rfl rfl (OpP.fieldAddr rfl) ?_
        refine JL.read rfl rfl (OpR.load1 rfl (Cell.row (.tail (.tail .head)) rfl)) ?_
        refine JL.step rfl rfl (OpW.call (first := []) (captured := []) inferInstance rfl rfl (outU16_ok hL)) ?_; rintro r22 _ ⟨rfl, ⟨bad', ⟨v', ⟨L', ⟨h22, ⟨h221, rfl⟩⟩⟩⟩⟩⟩
        refine JL.lit (.tail .head) fun av' cv' ev' => ?_; subst ev'
        refine JL.nil ?_
        refine J.inBlock ?_
        refine J.fin0 rfl ?_
      rotate_left 1
      focus
        refine JL.pure rfl rfl (OpP.assign rfl) ?_
        refine JL.nil ?_
        refine J.condF rfl ?_
        refine J.seq ?_
        refine J.region ?_
        refine JL.dec rfl rfl (OpP.eql rfl rfl) (fun h24 => ?_) (fun h24 => ?_)
        focus
          refine JL.pure rfl rfl (OpP.assign rfl) ?_
          refine JL.nil ?_
          refine J.condT rfl ?_
          refine J.region ?_
          refine JL.pure rfl rfl (OpP.move rfl) ?_
          refine JL.pure rfl rfl (OpP.fieldAddr rfl) ?_
          refine JL.read rfl rfl (OpR.load1 rfl (Cell.row (.tail (.tail .head)) rfl)) ?_
          refine JL.step rfl rfl (OpW.call (first := []) (captured := []) inferInstance rfl rfl (outU32_ok hL)) ?_; rintro r28 _ ⟨rfl, ⟨bad', ⟨v', ⟨L', ⟨h28, ⟨h281, rfl⟩⟩⟩⟩⟩⟩
          refine JL.lit (.tail .head) fun av' cv' ev' => ?_; subst ev'
          refine JL.nil ?_
          refine J.inBlock ?_
          refine J.fin0 rfl ?_
        rotate_left 1
        focus
          refine JL.pure rfl rfl (OpP.assign rfl) ?_
          refine JL.nil ?_
          refine J.condF rfl ?_
          refine J.seq ?_
          refine J.region ?_
          refine JL.dec rfl rfl (OpP.eql rfl rfl) (fun h30 => ?_) (fun h30 => ?_)
          focus
            refine JL.pure rfl rfl (OpP.assign rfl) ?_
            refine JL.nil ?_
            refine J.condT rfl ?_
            refine J.region ?_
            refine JL.pure rfl rfl (OpP.move rfl) ?_
            refine JL.pure rfl rfl (OpP.fieldAddr rfl) ?_
            refine JL.read rfl rfl (OpR.load1 rfl (Cell.row (.tail (.tail .head)) rfl)) ?_
            refine JL.step rfl rfl (OpW.call (first := []) (captured := []) inferInstance rfl rfl (outI64_ok hL)) ?_; rintro r34 _ ⟨rfl, ⟨bad', ⟨v', ⟨L', ⟨h34, ⟨h341, rfl⟩⟩⟩⟩⟩⟩
            refine JL.lit (.tail .head) fun av' cv' ev' => ?_; subst ev'
            refine JL.nil ?_
            refine J.inBlock ?_
            refine J.fin0 rfl ?_
          rotate_left 1
          focus
            refine JL.pure rfl rfl (OpP.assign rfl) ?_
            refine JL.nil ?_
            refine J.condF rfl ?_
            refine J.seq ?_
            refine J.region ?_
            refine JL.dec rfl rfl (OpP.eql rfl rfl) (fun h36 => ?_) (fun h36 => ?_)
            focus
              refine JL.pure rfl rfl (OpP.assign rfl) ?_
              refine JL.nil ?_
              refine J.condT rfl ?_
              refine J.region ?_
              refine JL.pure rfl rfl (OpP.move rfl) ?_
              refine JL.pure rfl rfl (OpP.fieldAddr rfl) ?_
              refine JL.read rfl rfl (OpR.load1 rfl (Cell.row (.tail (.tail .head)) rfl)) ?_
              refine JL.pure rfl rfl (OpP.conv rfl) ?_
              refine JL.pure rfl rfl (OpP.rem rfl rfl (by omega)) ?_
              refine JL.dec rfl rfl (OpP.eql rfl rfl) (fun h42 => ?_) (fun h42 => ?_)
              focus
                refine JL.step rfl rfl (OpW.call (first := []) (captured := []) inferInstance rfl rfl (outFlag_ok hL)) ?_; rintro r43 _ ⟨rfl, ⟨bad', ⟨v', ⟨L', ⟨h43, ⟨h431, rfl⟩⟩⟩⟩⟩⟩
                refine JL.lit (.tail .head) fun av' cv' ev' => ?_; subst ev'
                refine JL.nil ?_
                refine J.inBlock ?_
                refine J.fin0 rfl ?_
              rotate_left 1
              focus
                refine JL.step rfl rfl (OpW.call (first := []) (captured := []) inferInstance rfl rfl (outFlag_ok hL)) ?_; rintro r43 _ ⟨rfl, ⟨bad', ⟨v', ⟨L', ⟨h43, ⟨h431, rfl⟩⟩⟩⟩⟩⟩
                refine JL.lit (.tail .head) fun av' cv' ev' => ?_; subst ev'
                refine JL.nil ?_
                refine J.inBlock ?_
                refine J.fin0 rfl ?_
              rotate_left 1
            rotate_left 2
            focus
              refine JL.pure rfl rfl (OpP.assign rfl) ?_
              refine JL.nil ?_
              refine J.condF rfl ?_
              refine J.seq ?_
              refine J.region ?_
              refine JL.dec rfl rfl (OpP.eql rfl rfl) (fun h45 => ?_) (fun h45 => ?_)
              focus
                refine JL.pure rfl rfl (OpP.assign rfl) ?_
                refine JL.nil ?_
                refine J.condT rfl ?_
                refine J.region ?_
                refine JL.pure rfl rfl (OpP.move rfl) ?_
                refine JL.pure rfl rfl (OpP.fieldAddr rfl) ?_
                refine JL.read rfl rfl (OpR.load1 rfl (Cell.row (.tail (.tail .head)) rfl)) ?_
                refine JL.step rfl rfl (OpW.call (first := []) (captured := []) inferInstance rfl rfl (outText_ok hL (by omega))) ?_; rintro r49 _ ⟨rfl, ⟨bad', ⟨v', ⟨L', ⟨h49, ⟨h491, rfl⟩⟩⟩⟩⟩⟩
                refine JL.lit (.tail .head) fun av' cv' ev' => ?_; subst ev'
                refine JL.nil ?_
                refine J.inBlock ?_
                refine J.fin0 rfl ?_
              rotate_left 1
              focus
                refine JL.pure rfl rfl (OpP.assign rfl) ?_
                refine JL.nil ?_
                refine J.condF rfl ?_
                refine J.seq ?_
                refine J.region ?_
                refine JL.dec rfl rfl (OpP.eql rfl rfl) (fun h51 => ?_) (fun h51 => ?_)
                focus
                  refine JL.pure rfl rfl (OpP.assign rfl) ?_
                  refine JL.nil ?_
                  refine J.condT rfl ?_
                  refine J.region ?_
                  refine JL.pure rfl rfl (OpP.move rfl) ?_
                  refine JL.pure rfl rfl (OpP.fieldAddr rfl) ?_
                  refine JL.read rfl rfl (OpR.load1 rfl (Cell.row (.tail (.tail .head)) rfl)) ?_
                  refine JL.mem rfl rfl (OpM.strToBytesC rfl) ?_; rintro _ _ ⟨b55, c55, rfl, k55, rfl⟩
                  refine JL.f2 ?_; refine JL.f2 ?_; refine JL.step rfl rfl (OpW.call (first := []) (captured := []) inferInstance rfl rfl (outRaw_ok (bs := p.t) hL (by omega) (RdO.ofRdo .head (by first | exact Nat.le_refl _ | decide | omega)))) ?_; rintro r56 _ ⟨rfl, ⟨bad', ⟨v', ⟨L', ⟨h56, ⟨h561, rfl⟩⟩⟩⟩⟩⟩
                  refine JL.lit (.tail .head) fun av' cv' ev' => ?_; subst ev'
                  refine JL.nil ?_
                  refine J.inBlock ?_
                  refine J.fin0 rfl ?_
                rotate_left 1
                focus
                  refine JL.pure rfl rfl (OpP.assign rfl) ?_
                  refine JL.nil ?_
                  refine J.condF rfl ?_
                  refine J.region ?_
                  refine JL.pure rfl rfl (OpP.move rfl) ?_
                  refine JL.pure rfl rfl (OpP.fieldAddr rfl) ?_
                  refine JL.read rfl rfl (OpR.loadN rfl (Cells.sub 4 (.tail (.tail .head)) rfl) rfl) ?_
                  refine JL.step rfl rfl (OpW.call (first := []) (captured := []) inferInstance rfl rfl (outValF_ok (k := p.u.k) (i := p.u.i) (s := p.u.s) (a := p.u.a) (c := p.u.c) (xs := p.u.xs) hL hx hn hf (hr.conv fun _ h => Own.pick (pre := [_]) [] rfl h))) ?_; rintro r10 _ ⟨rfl, ⟨bad', ⟨v', ⟨L', ⟨h10, ⟨h101, rfl⟩⟩⟩⟩⟩⟩
                  refine JL.lit (.tail .head) fun av' cv' ev' => ?_; subst ev'
                  refine JL.nil ?_
                  refine J.inBlock ?_
                  refine J.fin0 rfl ?_
                rotate_left 1
              rotate_left 2
            rotate_left 3
          rotate_left 5
        rotate_left 6
      rotate_left 7
    rotate_left 8
    · exact ⟨_, ⟨rfl, bad', _, L', h16, by simp [PartO, h12, h161], rfl⟩, fun _ h => Own.pick (pre := [_, _, _]) [0, 1] rfl h⟩
    · exact ⟨_, ⟨rfl, bad', _, L', h22, by simp [PartO, h18, h221], rfl⟩, fun _ h => Own.pick (pre := [_, _, _]) [0, 1] rfl h⟩
    · exact ⟨_, ⟨rfl, bad', _, L', h28, by simp [PartO, h24, h281], rfl⟩, fun _ h => Own.pick (pre := [_, _, _]) [0, 1] rfl h⟩
    · exact ⟨_, ⟨rfl, bad', _, L', h34, by simp [PartO, h30, h341], rfl⟩, fun _ h => Own.pick (pre := [_, _, _]) [0, 1] rfl h⟩
    · have h2 := odd_iff.1 h42
      exact ⟨_, ⟨rfl, bad', _, L', h43, by simp [PartO, h36, h431, h2], rfl⟩, fun _ h => Own.pick (pre := [_, _, _]) [0, 1] rfl h⟩
    · have h2 := fun h => h42 (odd_iff.2 h)
      exact ⟨_, ⟨rfl, bad', _, L', h43, by simp [PartO, h36, h431]; rw [if_neg h2], rfl⟩, fun _ h => Own.pick (pre := [_, _, _]) [0, 1] rfl h⟩
    · exact ⟨_, ⟨rfl, bad', _, L', h49, by simp [PartO, h45, h491], rfl⟩, fun _ h => Own.pick (pre := [_, _, _]) [0, 1] rfl h⟩
    · exact ⟨_, ⟨rfl, bad', _, L', h56, by simp [PartO, h51, h561], rfl⟩, fun _ h => Own.pick (pre := [_, _, _, _]) [0, 1] rfl h⟩
    · exact ⟨_, ⟨rfl, bad', _, L', h10, by simp [PartO, h12, h18, h24, h30, h36, h45, h51, hf, h101], rfl⟩, fun _ h => Own.pick (pre := [_, _, _]) [0, 1] rfl h⟩
end Go.Proofs.E

-- seat e
namespace Go.Proofs.E
open Go Go.Gp Go.RowKit

/-- A reader that is bad stays so, and tells nothing. -/
abbrev BadI (w0 : World) (f : FuncId) (args : List Value) (g : Nat) (v : Value) (M : List UInt8) (F : List HProp) (u : Value) : Prop :=
  FnO Try.prog w0 f args (inL g true v M F) (fun r l' => r = u ∧ ∃ v' M', M'.length ≤ 1000000000 ∧ l' = inL g true v' M' F)
theorem absO_none {b : Bool} {M : List UInt8} (h : absO b M = none) : b = true := by
  cases b
  · simp [absO] at h
  · rfl
theorem Took.bad {w0 : World} {f : FuncId} {args : List Value} {g : Nat} {v : Value} {M : List UInt8} {F : List HProp} {u : Value} (h : Took w0 f args g true v M F none u) : BadI w0 f args g v M F u :=
  h.mono fun r l' ⟨b, v', M', h1, h2, h3, h4⟩ => by
    obtain rfl := absO_none h2
    exact ⟨h3, v', M', h1, h4⟩
variable {w0 : World} {F : List HProp} {g : Nat} {v : Value} {M L : List UInt8}
theorem badU8 (hM : M.length ≤ 1000000000) : BadI w0 15 [.pointer (some ⟨g, 0, none⟩)] g v M F (.int .i64 0) := Took.bad (inU8_ok (bad := true) hM)
theorem badU32 (hM : M.length ≤ 1000000000) : BadI w0 17 [.pointer (some ⟨g, 0, none⟩)] g v M F (.int .i64 0) := Took.bad (inU32_ok (bad := true) hM)
theorem badI64 (hM : M.length ≤ 1000000000) : BadI w0 18 [.pointer (some ⟨g, 0, none⟩)] g v M F (.int .i64 0) := Took.bad (inI64_ok (bad := true) hM)
theorem badFlag (hM : M.length ≤ 1000000000) : BadI w0 19 [.pointer (some ⟨g, 0, none⟩)] g v M F (.bool false) := Took.bad (inFlag_ok (bad := true) hM)
theorem badText (hM : M.length ≤ 1000000000) : BadI w0 20 [.pointer (some ⟨g, 0, none⟩), .int .i64 9] g v M F (.string (strB [])) := Took.bad (inText_ok (bad := true) (most := 9) hM)
theorem badRaw (hM : M.length ≤ 1000000000) : FnO Try.prog w0 21 [.pointer (some ⟨g, 0, none⟩), .int .i64 0] (inL g true v M F) (fun r l' => (∃ a c, r = .slice a 0 c) ∧ ∃ v' M', M'.length ≤ 1000000000 ∧ l' = inL g true v' M' F) :=
  FnO.weak ((raw_ok (n := 0) (bad := true) hM).mono fun r l' ⟨b, v', M', ⟨a, c, h0⟩, h1, h2, h3⟩ => by
    obtain rfl := absO_none h2
    exact ⟨_, ⟨⟨a, c, h0⟩, v', M', h1, rfl⟩, fun _ h => by rw [h3] at h; exact h.tail⟩)
theorem rawL {n : Int} (hM : M.length ≤ 1000000000) (hn : (M.length : Int) < n) : FnO Try.prog w0 21 [.pointer (some ⟨g, 0, none⟩), .int .i64 n] (inL g false v M F) (fun r l' => (∃ a c, r = .slice a 0 c) ∧ ∃ v' M', M'.length ≤ 1000000000 ∧ l' = inL g true v' M' F) :=
  FnO.weak ((raw_ok (n := n) (bad := false) hM).mono fun r l' ⟨b, v', M', ⟨a, c, h0⟩, h1, h2, h3⟩ => by
    have e0 : absO false M = some M := rfl
    rw [show restO (absO false M) n = none by rw [e0]; simp only [restO, Option.bind_some]; rw [if_neg (by omega)]] at h2
    rw [show gotO (absO false M) n = [] by rw [e0]; simp only [gotO]; rw [if_neg (by omega)]] at h0
    obtain rfl := absO_none h2
    exact ⟨_, ⟨⟨a, c, h0⟩, v', M', h1, rfl⟩, fun _ h => by rw [h3] at h; exact h.tail⟩)
theorem badVal (hM : M.length ≤ 1000000000) : BadI w0 22 [.pointer (some ⟨g, 0, none⟩)] g v M F (.agg #[.int .i64 0, .int .i64 0, .string ByteArray.empty, .slice none 0 0]) :=
  (inVal_ok' (bad := true) hM).mono fun r l' h => by
    rcases h with ⟨v', M', a, c, h1, h2, _⟩ | ⟨v', M', h1, _, h2, h3⟩
    · exact absurd (show decO (absO true M) = none from rfl) (by rw [h2]; simp)
    · exact ⟨h2, v', M', h1, h3⟩
theorem badOver (hM : M.length ≤ 1000000000) : BadI w0 23 [.pointer (some ⟨g, 0, none⟩)] g v M F (.bool false) :=
  (over_ok (bad := true)).mono fun r l' ⟨h1, h2⟩ => ⟨by rw [h1]; simp, v, M, hM, h2⟩
theorem outBad : FnO Try.prog w0 35 [.pointer (some ⟨g, 0, none⟩), .int .i64 256] (outL g false v [] F) (fun r l' => r = .tuple #[] ∧ ∃ v' L', L'.length ≤ 4096 ∧ l' = outL g true v' L' F) :=
  (outU8_ok (L := []) (bad := false) (n := 256) (by exact Nat.zero_le _)).mono fun r l' ⟨h1, b, v', L', h2, h3, h4⟩ => by
    obtain rfl := absO_none (h3.trans rfl)
    exact ⟨h1, v', L', h2, h4⟩
theorem endBad (hL : L.length ≤ 4096) : FnO Try.prog w0 33 [.pointer (some ⟨g, 0, none⟩)] (outL g true v L F) (fun r l' => r = .tuple #[.slice none 0 0, .int .i64 3] ∧ l' = outL g true v L F) :=
  (end_ok (bad := true) hL).mono fun r l' h => by
    rcases h with ⟨_, h1, h2⟩ | ⟨h, _⟩
    · exact ⟨h1, h2⟩
    · cases h
theorem partBad {p : Pa} (hL : L.length ≤ 4096) (hk : 0 ≤ p.kd ∧ p.kd ≤ 255) (ht : p.t.length ≤ 5000) (hx : ∀ e ∈ p.u.xs, e.ok) (hn : p.u.xs.length ≤ 9223372036854775807) (hr : RdO w0 F (.slice p.u.a p.u.xs.length p.u.c) p.u.xs.length (p.u.xs.flatMap ecl)) :
    FnO Try.prog w0 32 [.pointer (some ⟨g, 0, none⟩), .agg (pac p).toArray] (outL g true v L F) (fun r l' => r = .tuple #[] ∧ ∃ v' L', L'.length ≤ 4096 ∧ l' = outL g true v' L' F) :=
  (part_ok (bad := true) hL hk ht hx hn hr).mono fun r l' ⟨h1, b, v', L', h2, h3, h4⟩ => by
    obtain rfl := absO_none (partO_none h3)
    exact ⟨h1, v', L', h2, h4⟩
end Go.Proofs.E

-- seat e
namespace Go.Proofs.E
open Go Go.Gp Go.RowKit

theorem CodecBad_ok {w0 : World} {a a2 : Option Addr} {c c2 : Nat} {ps : List Pa} {l : List UInt8} (hn : ps.length ≤ 9223372036854775807) (hl : l.length ≤ 9223372036854775807) (hk : ∀ p ∈ ps, 0 ≤ p.kd ∧ p.kd ≤ 255) (hr : RdO w0 [] (.slice a ps.length c) ps.length (ps.flatMap pac)) (hin : ∀ p ∈ ps, RdO w0 [] (.slice p.u.a p.u.xs.length p.u.c) p.u.xs.length (p.u.xs.flatMap ecl)) (hb : RdO w0 [] (.slice a2 l.length c2) l.length (bcells l)) :
    FnO Try.prog w0 7 [.slice a ps.length c, .slice a2 l.length c2] [] (fun v _ => v = .bool true) := by
  have hlen : ∀ p ∈ ps, (pac p).length = 7 := fun _ _ => rfl
  refine FnO.rdF (fun _ h => h) hr fun hr1 => ?_
  refine FnO.intro (n := 95) Try.func7 rfl rfl rfl ?_
  refine J.seq ?_
  refine J.region ?_
  refine JL.pure rfl rfl (OpP.assign rfl) ?_
  refine JL.nil ?_
  refine J.seq ?_
  refine J.seq ?_
  refine J.region ?_
  refine JL.step rfl rfl (OpW.call (first := []) (captured := []) inferInstance rfl rfl awake_ok) ?_; rintro r10 _ ⟨rfl, rfl⟩
  refine JL.pure rfl rfl (OpP.notB rfl) ?_
  refine JL.pure rfl rfl (OpP.move rfl) ?_
  refine JL.pure rfl rfl (OpP.move rfl) ?_
  refine JL.step rfl rfl (OpW.call (first := []) (captured := []) inferInstance rfl rfl (few31_ok hn hr hin)) ?_; rintro r14 _ ⟨b, ⟨rfl, ⟨rfl, h14⟩⟩⟩
  refine JL.pure rfl rfl (OpP.notB rfl) ?_
  refine JL.pure rfl rfl (OpP.pickF rfl rfl) ?_
  refine JL.pure rfl rfl (OpP.move rfl) ?_
  refine JL.splitAt 17 rfl (fun h17 => ?_) (fun h17 => ?_)
  focus
    refine JL.skip rfl rfl ?_
    refine JL.skip rfl rfl ?_
    refine JL.skip rfl rfl ?_
    refine JL.pure rfl rfl (OpP.pickT rfl rfl) ?_
    refine JL.nil ?_
    refine J.condT rfl ?_
    refine J.seq ?_
    refine J.region ?_
    refine JL.step rfl rfl (OpW.call (first := []) (captured := []) inferInstance rfl rfl awake_ok) ?_; rintro r22 _ ⟨rfl, rfl⟩
    refine JL.pure rfl rfl (OpP.assign rfl) ?_
    refine JL.nil ?_
    refine J.ret1 rfl rfl ?_
  rotate_left 1
  focus
    refine JL.pure rfl rfl (OpP.move rfl) ?_
    refine JL.pure rfl rfl (OpP.len rfl rfl) ?_
    refine JL.dec rfl rfl (OpP.gtr rfl rfl) (fun h20 => ?_) (fun h20 => ?_)
    focus
      refine JL.pure rfl rfl (OpP.pickF rfl rfl) ?_
      refine JL.nil ?_
      refine J.condT rfl ?_
      refine J.seq ?_
      refine J.region ?_
      refine JL.step rfl rfl (OpW.call (first := []) (captured := []) inferInstance rfl rfl awake_ok) ?_; rintro r22 _ ⟨rfl, rfl⟩
      refine JL.pure rfl rfl (OpP.assign rfl) ?_
      refine JL.nil ?_
      refine J.ret1 rfl rfl ?_
    rotate_left 1
    focus
      refine JL.pure rfl rfl (OpP.pickF rfl rfl) ?_
      refine JL.nil ?_
      refine J.condF rfl ?_
      refine J.skip ?_
      refine J.seq ?_
      refine J.region ?_
      refine JL.mem rfl rfl OpM.alloc ?_; rintro _ _ ⟨b5, rfl, rfl⟩
      refine JL.nil ?_
    rotate_left 1
  rotate_left 2
  · rfl
  · rfl
  · have hbb : b = true := by simp_all
    obtain ⟨hm, hfew⟩ := h14 hbb
    refine J.conv (l' := outL b5 false (.slice none 0 0) [] []) (fun _ h => Own.f1 (Own.own_nil h)) ?_
    refine J.seq ?_
    refine J.region ?_
    refine JL.step rfl rfl (OpW.call (first := []) (captured := []) inferInstance rfl rfl outBad) ?_; rintro r23 _ ⟨rfl, ⟨v', ⟨L', ⟨h23, rfl⟩⟩⟩⟩
    refine JL.lit (.tail .head) fun av' cv' ev' => ?_; subst ev'
    refine JL.nil ?_
    refine J.seq ?_
    refine J.region ?_
    refine JL.pure rfl rfl (OpP.move rfl) ?_
    refine JL.step rfl rfl (OpW.call (first := []) (captured := []) inferInstance rfl rfl (read_ok (by omega) (hb.conv fun _ h => h.none))) ?_; rintro r25 _ ⟨g, ⟨v', ⟨rfl, rfl⟩⟩⟩
    refine JL.lit (.tail .head) fun av' cv' ev' => ?_; subst ev'
    refine JL.pure rfl rfl (OpP.assign rfl) ?_
    refine JL.nil ?_
    refine J.seq ?_
    refine J.region ?_
    refine JL.pure rfl rfl (OpP.move rfl) ?_
    refine JL.pure rfl rfl (OpP.move rfl) ?_
    refine JL.pure rfl rfl (OpP.len rfl rfl) ?_
    refine JL.pure rfl rfl (OpP.addI rfl rfl (by omega) (by omega)) ?_
    refine JL.step rfl rfl (OpW.call (first := []) (captured := []) inferInstance rfl rfl (rawL (by omega) (by omega))) ?_; rintro r30 _ ⟨⟨a1, ⟨c1, rfl⟩⟩, ⟨v', ⟨M', ⟨h30, rfl⟩⟩⟩⟩
    refine JL.lit (.tail .head) fun av' cv' ev' => ?_; subst ev'
    refine JL.nil ?_
    refine J.seq ?_
    refine J.seq ?_
    refine J.region ?_
    refine JL.pure rfl rfl (OpP.assign rfl) ?_
    refine JL.nil ?_
    refine J.block ?_
    refine J.conv (l' := outL b5 true _ L' (inL g true (.slice av' M'.length cv') M' [])) (fun _ h => Own.pick (pre := [_, _, _, _]) [2, 3, 0, 1] rfl h) ?_
    refine J.loopI (fun x : Nat × Value × List UInt8 => ps.length - x.1) (fun x => x.1 ≤ ps.length ∧ x.2.2.length ≤ 4096) (fun x => [(7, .int .i64 (x.1 : Nat)), (6, .pointer (some ⟨g, 0, none⟩)), (5, .pointer (some ⟨b5, 0, none⟩)), (0, .slice a ps.length c)])
      (fun x => outL b5 true x.2.1 x.2.2 (inL g true (.slice av' M'.length cv') M' [])) (0, _, L') ⟨Nat.zero_le _, h23⟩ (by repeat (first | exact SubEnv.nil | refine SubEnv.cons (by first | rfl | exact congrArg (fun z => some (Value.int .i64 z)) (by omega) | (simp; done)) ?_)) (fun _ h => h) (fun ⟨j, z, Q⟩ hi back => ?_)
    dsimp only at hi back ⊢
    obtain ⟨hj, hQ⟩ := hi
    by_cases hlt : j < ps.length
    · obtain ⟨p, hp⟩ : ∃ e, ps[j]? = some e := ⟨_, List.getElem?_eq_getElem hlt⟩
      have hpm := List.mem_of_getElem? hp
      obtain ⟨hf1, hf2⟩ := hfew j p (by omega) hp
      obtain ⟨hx, hx2, _⟩ := few_okE hf2
      have hx3 : p.u.xs.length ≤ 9223372036854775807 := Nat.le_trans hx2 (by decide)
      have pb := fun v => partBad (w0 := w0) (F := inL g true (.slice av' M'.length cv') M' []) (g := b5) (v := v) (L := Q) (p := p) hQ (hk p hpm) hf1 hx hx3 ((hin p hpm).conv fun _ h => h.none)
      obtain ⟨ga, pa, qa, ea, ka, hcs⟩ := hr1.pos (by omega)
      cases ea
      refine J.lit (.tail .head) fun az cz ez => ?_; subst ez
      refine J.seq ?_
      refine J.seq ?_
      refine J.region ?_
      refine JL.pure rfl rfl (OpP.move rfl) ?_
      refine JL.pure rfl rfl (OpP.move rfl) ?_
      refine JL.pure rfl rfl (OpP.len rfl rfl) ?_
      refine JL.decT rfl rfl (OpP.lss rfl rfl) (by omega) ?_
      refine JL.nil ?_
      refine J.condT rfl ?_
      refine J.skip ?_
      refine J.seq ?_
      refine J.block ?_
      refine J.region ?_
      refine JL.pure rfl rfl (OpP.move rfl) ?_
      refine JL.pure rfl rfl (OpP.move rfl) ?_
      refine JL.pure rfl rfl (OpP.indexAddr rfl rfl (by omega) (by omega)) ?_
      refine JL.read rfl rfl (OpR.loadN rfl (by apply Cells.conv (fun _ h => h.none); apply Cells.chunkAt hcs; (case' h => assumption); (case' hi => assumption); done) (by first | rfl | assumption)) ?_
      refine JL.step rfl rfl (OpW.call (first := []) (captured := []) inferInstance rfl rfl (pb _)) ?_; rintro r41 _ ⟨rfl, ⟨v', ⟨L'1, ⟨h41, rfl⟩⟩⟩⟩
      refine JL.lit (.tail .head) fun av' cv' ev' => ?_; subst ev'
      refine JL.nil ?_
      refine J.inBlock ?_
      refine J.region ?_
      refine JL.pure rfl rfl (OpP.move rfl) ?_
      refine JL.pure rfl rfl (OpP.addI rfl rfl (by omega) (by omega)) ?_
      refine JL.pure rfl rfl (OpP.assign rfl) ?_
      refine JL.nil ?_
      refine back (j + 1, _, L'1) ⟨by dsimp only; omega, by assumption⟩ (by dsimp only; omega) (by repeat (first | exact SubEnv.nil | refine SubEnv.cons (by first | rfl | exact congrArg (fun z => some (Value.int .i64 z)) (by omega) | (simp; done)) ?_)) (fun _ h => h)
    · refine J.lit (.tail .head) fun az cz ez => ?_; subst ez
      refine J.seq ?_
      refine J.seq ?_
      refine J.region ?_
      refine JL.pure rfl rfl (OpP.move rfl) ?_
      refine JL.pure rfl rfl (OpP.move rfl) ?_
      refine JL.pure rfl rfl (OpP.len rfl rfl) ?_
      refine JL.decF rfl rfl (OpP.lss rfl rfl) (by omega) ?_
      refine JL.nil ?_
      refine J.condF rfl ?_
      refine J.exit rfl ?_
      refine J.seq ?_
      refine J.region ?_
      refine JL.step rfl rfl (OpW.call (first := []) (captured := []) inferInstance rfl rfl (endBad hQ)) ?_; rintro r43 _ ⟨rfl, rfl⟩
      refine JL.pure rfl rfl (OpP.move rfl) ?_
      refine JL.pure rfl rfl (OpP.extract rfl rfl) ?_
      refine JL.pure rfl rfl (OpP.extract rfl rfl) ?_
      refine JL.pure rfl rfl (OpP.assign rfl) ?_
      refine JL.pure rfl rfl (OpP.assign rfl) ?_
      refine JL.nil ?_
      refine J.conv (l' := inL g true (.slice av' M'.length cv') M' []) (fun _ h => Own.pick (pre := [_, _, _, _]) [2, 3] rfl h) ?_
      refine J.seq ?_
      refine J.region ?_
      refine JL.pure rfl rfl (OpP.move rfl) ?_
      refine JL.decT rfl rfl (OpP.eql rfl rfl) (by omega) ?_
      refine JL.pure rfl rfl (OpP.move rfl) ?_
      refine JL.pure rfl rfl (OpP.move rfl) ?_
      refine JL.pure rfl rfl (OpP.len rfl rfl) ?_
      refine JL.decT rfl rfl (OpP.eql rfl rfl) (by omega) ?_
      refine JL.pure rfl rfl (OpP.pickT rfl rfl) ?_
      refine JL.pure rfl rfl (OpP.move rfl) ?_
      refine JL.pure rfl rfl (OpP.move rfl) ?_
      refine JL.step rfl rfl (OpW.call (first := []) (captured := []) inferInstance rfl rfl (badU8 (by assumption))) ?_; rintro r55 _ ⟨rfl, ⟨v', ⟨M'1, ⟨h55, rfl⟩⟩⟩⟩
      refine JL.lit (.tail .head) fun av' cv' ev' => ?_; subst ev'
      refine JL.decT rfl rfl (OpP.eql rfl rfl) (by omega) ?_
      refine JL.pure rfl rfl (OpP.pickT rfl rfl) ?_
      refine JL.pure rfl rfl (OpP.move rfl) ?_
      refine JL.pure rfl rfl (OpP.move rfl) ?_
      refine JL.step rfl rfl (OpW.call (first := []) (captured := []) inferInstance rfl rfl (badU32 (by assumption))) ?_; rintro r60 _ ⟨rfl, ⟨v', ⟨M'2, ⟨h60, rfl⟩⟩⟩⟩
      refine JL.lit (.tail .head) fun av' cv' ev' => ?_; subst ev'
      refine JL.decT rfl rfl (OpP.eql rfl rfl) (by omega) ?_
      refine JL.pure rfl rfl (OpP.pickT rfl rfl) ?_
      refine JL.pure rfl rfl (OpP.move rfl) ?_
      refine JL.pure rfl rfl (OpP.move rfl) ?_
      refine JL.step rfl rfl (OpW.call (first := []) (captured := []) inferInstance rfl rfl (badI64 (by assumption))) ?_; rintro r65 _ ⟨rfl, ⟨v', ⟨M'3, ⟨h65, rfl⟩⟩⟩⟩
      refine JL.lit (.tail .head) fun av' cv' ev' => ?_; subst ev'
      refine JL.decT rfl rfl (OpP.eql rfl rfl) (by omega) ?_
      refine JL.pure rfl rfl (OpP.pickT rfl rfl) ?_
      refine JL.pure rfl rfl (OpP.move rfl) ?_
      refine JL.pure rfl rfl (OpP.move rfl) ?_
      refine JL.step rfl rfl (OpW.call (first := []) (captured := []) inferInstance rfl rfl (badFlag (by assumption))) ?_; rintro r70 _ ⟨rfl, ⟨v', ⟨M'4, ⟨h70, rfl⟩⟩⟩⟩
      refine JL.lit (.tail .head) fun av' cv' ev' => ?_; subst ev'
      refine JL.pure rfl rfl (OpP.notB rfl) ?_
      refine JL.pure rfl rfl (OpP.pickT rfl rfl) ?_
      refine JL.pure rfl rfl (OpP.move rfl) ?_
      refine JL.pure rfl rfl (OpP.move rfl) ?_
      refine JL.step rfl rfl (OpW.call (first := []) (captured := []) inferInstance rfl rfl (badText (by assumption))) ?_; rintro r75 _ ⟨rfl, ⟨v', ⟨M'5, ⟨h75, rfl⟩⟩⟩⟩
      refine JL.lit (.tail .head) fun av' cv' ev' => ?_; subst ev'
      refine JL.decT rfl rfl (OpP.eqStr rfl rfl) (by decide) ?_
      refine JL.pure rfl rfl (OpP.pickT rfl rfl) ?_
      refine JL.pure rfl rfl (OpP.move rfl) ?_
      refine JL.pure rfl rfl (OpP.move rfl) ?_
      refine JL.step rfl rfl (OpW.call (first := []) (captured := []) inferInstance rfl rfl (badRaw (by assumption))) ?_; rintro r80 _ ⟨⟨a3, ⟨c3, rfl⟩⟩, ⟨v', ⟨M'6, ⟨h80, rfl⟩⟩⟩⟩
      refine JL.lit (.tail .head) fun av' cv' ev' => ?_; subst ev'
      refine JL.pure rfl rfl (OpP.len rfl rfl) ?_
      refine JL.decT rfl rfl (OpP.eql rfl rfl) (by omega) ?_
      refine JL.pure rfl rfl (OpP.pickT rfl rfl) ?_
      refine JL.pure rfl rfl (OpP.move rfl) ?_
      refine JL.pure rfl rfl (OpP.move rfl) ?_
      refine JL.step rfl rfl (OpW.call (first := []) (captured := []) inferInstance rfl rfl (badVal (by assumption))) ?_; rintro r86 _ ⟨rfl, ⟨v', ⟨M'7, ⟨h86, rfl⟩⟩⟩⟩
      refine JL.lit (.tail .head) fun av' cv' ev' => ?_; subst ev'
      refine JL.pure rfl rfl (OpP.build rfl (by (repeat (first | exact Fills.nil | (apply Fills.cons rfl rfl rfl; (case' hs => ((repeat (first | exact Spl.nil | apply Spl.here | apply Spl.there)); done))))))) ?_
      refine JL.step rfl rfl (OpW.call (first := []) (captured := []) inferInstance rfl rfl sameZ) ?_; rintro r88 _ ⟨rfl, rfl⟩
      refine JL.pure rfl rfl (OpP.pickT rfl rfl) ?_
      refine JL.pure rfl rfl (OpP.move rfl) ?_
      refine JL.pure rfl rfl (OpP.move rfl) ?_
      refine JL.step rfl rfl (OpW.call (first := []) (captured := []) inferInstance rfl rfl (badOver (by assumption))) ?_; rintro r92 _ ⟨rfl, ⟨v', ⟨M'8, ⟨h92, rfl⟩⟩⟩⟩
      refine JL.lit (.tail .head) fun av' cv' ev' => ?_; subst ev'
      refine JL.pure rfl rfl (OpP.notB rfl) ?_
      refine JL.pure rfl rfl (OpP.pickT rfl rfl) ?_
      refine JL.pure rfl rfl (OpP.assign rfl) ?_
      refine JL.nil ?_
      refine J.ret1 rfl rfl ?_
      rfl
end Go.Proofs.E

-- seat e
namespace Go.Proofs.E
open Go Go.Gp Go.RowKit

theorem Fm.part {w0 : World} {cs : List Value} (h : Fm Try.prog w0 31 cs) : ∃ p : Pa, ((0 ≤ p.kd ∧ p.kd ≤ 255) ∧ ∀ l, RdO w0 l (.slice p.u.a p.u.xs.length p.u.c) p.u.xs.length (p.u.xs.flatMap ecl)) ∧ cs = pac p := by
  have h := h.fields (l := [(5, 1), (2, 1), (9, 1), (29, 4)]) (by kernel_rfl)
  obtain ⟨c0, cs, rfl, f0, h⟩ := h.one
  obtain ⟨c1, cs, rfl, f1, h⟩ := h.one
  obtain ⟨c2, cs, rfl, f2, h⟩ := h.one
  obtain ⟨d, cs, rfl, _, f3, h⟩ := h.many
  cases h
  obtain ⟨kd, e0, k0⟩ := f0.int (k := .u8) (by kernel_rfl)
  obtain ⟨n, e1, _⟩ := f1.int (k := .i64) (by kernel_rfl)
  obtain ⟨t, e2, _⟩ := f2.str (by kernel_rfl)
  simp [Lit.wf, IntKind.min, IntKind.max, IntKind.signed, IntKind.bits] at k0
  cases e0; cases e1; cases e2
  obtain ⟨k, i, s, a, c, xs, _, e, hr⟩ := Fm.val f3
  subst e
  exact ⟨⟨kd, n, t.data.toList, ⟨k, i, s, xs, a, c⟩⟩, ⟨k0, fun l => (hr l).o⟩, by simp [pac, vcl, strB]⟩
theorem CodecBad_law {W : World} {a : Option Addr} {n c : Nat} {a2 : Option Addr} {n2 c2 : Nat} (h : Fm Try.prog W 26 [.slice a n c]) (h2 : Fm Try.prog W 22 [.slice a2 n2 c2]) :
    Calls Try.prog 7 #[.slice a n c, .slice a2 n2 c2] W fun e w' => e = .returned (.bool true) ∧ Below W.heap.size W w' := by
  obtain ⟨ps, hp, hm, hr⟩ := Fm.rows (f := pac) (Q := fun p => (0 ≤ p.kd ∧ p.kd ≤ 255) ∧ ∀ l, RdO W l (.slice p.u.a p.u.xs.length p.u.c) p.u.xs.length (p.u.xs.flatMap ecl)) (e := 31) (by kernel_rfl) (sz := 7) (by kernel_rfl) (by decide) h fun cs _ hf => Fm.part hf
  obtain ⟨b, hl, hb⟩ := h2.bytes Try.underlying22 Try.underlying5 (by kernel_rfl)
  obtain ⟨a', c', e⟩ := (hr []).lit
  cases e
  obtain ⟨a'', c'', e⟩ := hb.lit
  cases e
  have hm2 : maxLen ≤ 9223372036854775807 := by decide
  exact FnO.law (CodecBad_ok (by omega) hl (fun p hq => (hp p hq).1.1) (hr []).o (fun p hq => (hp p hq).1.2 []) hb.o) (Own.nil W)
end Go.Proofs.E

-- seat e
namespace Go.Proofs.E
open Go Go.Gp Go.RowKit

open Classical in
/-- The bytes of a part, if it can be. -/
noncomputable def partB (p : Pa) : Option (List UInt8) :=
  if p.kd % 8 = 0 then (if p.n < 0 ∨ 256 ^ 1 ≤ p.n then none else some (be p.n.toNat 1)) else if p.kd % 8 = 1 then (if p.n < 0 ∨ 256 ^ 2 ≤ p.n then none else some (be p.n.toNat 2)) else if p.kd % 8 = 2 then (if p.n < 0 ∨ 256 ^ 4 ≤ p.n then none else some (be p.n.toNat 4)) else if p.kd % 8 = 3 then some (be (u64 p.n) 8)
  else if p.kd % 8 = 4 then some [if u64 p.n % 2 = 1 then 1 else 0] else if p.kd % 8 = 5 then (if 4096 < p.t.length then none else some (be p.t.length 2 ++ p.t)) else if p.kd % 8 = 6 then some p.t
  else if FormedP p.u.k p.u.i p.u.s p.u.xs then some (valB p.u.k p.u.i p.u.s p.u.xs) else none
theorem partO_eq {o r : Option (List UInt8)} {p : Pa} (h : PartO o p r) : r = (partB p).bind (putO o) := by
  have hs : ∀ n k, smallO o n k = (if n < 0 ∨ 256 ^ k ≤ n then none else some (be n.toNat k) : Option (List UInt8)).bind (putO o) := fun n k => by unfold smallO; split <;> rfl
  have ht : textO o p.t = (if 4096 < p.t.length then none else some (be p.t.length 2 ++ p.t) : Option (List UInt8)).bind (putO o) := by unfold textO; split <;> rfl
  unfold PartO at h
  unfold partB
  split at h
  · rw [if_pos (by assumption)]; exact h.trans (hs _ _)
  rw [if_neg (by assumption)]
  split at h
  · rw [if_pos (by assumption)]; exact h.trans (hs _ _)
  rw [if_neg (by assumption)]
  split at h
  · rw [if_pos (by assumption)]; exact h.trans (hs _ _)
  rw [if_neg (by assumption)]
  split at h
  · rw [if_pos (by assumption)]; exact h
  rw [if_neg (by assumption)]
  split at h
  · rw [if_pos (by assumption)]; exact h
  rw [if_neg (by assumption)]
  split at h
  · rw [if_pos (by assumption)]; exact h.trans ht
  rw [if_neg (by assumption)]
  split at h
  · rw [if_pos (by assumption)]; exact h
  rw [if_neg (by assumption)]
  by_cases hf : FormedP p.u.k p.u.i p.u.s p.u.xs
  · rw [if_pos hf]; exact h.1 hf
  · rw [if_neg hf]; exact h.2 hf
end Go.Proofs.E

-- seat e
namespace Go.Proofs.E
open Go Go.Gp Go.RowKit

theorem numberI_ok {w0 : World} {F : List HProp} {n : Int} (k : Nat) (h0 : 0 ≤ n) (h1 : n < 18446744073709551616) (hs : k ≤ 8) :
    FnO Try.prog w0 58 [.int .u64 n, .int .i64 (k : Nat)] F (fun r l' => ∃ a c, r = .slice a k c ∧ l' = own 5 1 (.slice a k c) k (bcells (be n.toNat k)) :: F) := by
  obtain ⟨m, rfl⟩ := Int.eq_ofNat_of_zero_le h0
  exact (number_ok (by omega) hs).mono fun r l' ⟨⟨a, c, h1⟩, h2⟩ => ⟨a, c, h1, by rw [h2, h1]; rfl⟩
theorem numberB1_ok {w0 : World} {F : List HProp} {n : Int} (h0 : 0 ≤ n) (h1 : n < 18446744073709551616) :
    FnO Try.prog w0 58 [.int .u64 n, .int .i64 1] F (fun r l' => ∃ a c, r = .slice a 1 c ∧ l' = own 5 1 (.slice a 1 c) 1 (bcells (be n.toNat 1)) :: F) := numberI_ok 1 h0 h1 (by omega)
theorem numberB2_ok {w0 : World} {F : List HProp} {n : Int} (h0 : 0 ≤ n) (h1 : n < 18446744073709551616) :
    FnO Try.prog w0 58 [.int .u64 n, .int .i64 2] F (fun r l' => ∃ a c, r = .slice a 2 c ∧ l' = own 5 1 (.slice a 2 c) 2 (bcells (be n.toNat 2)) :: F) := numberI_ok 2 h0 h1 (by omega)
theorem numberB4_ok {w0 : World} {F : List HProp} {n : Int} (h0 : 0 ≤ n) (h1 : n < 18446744073709551616) :
    FnO Try.prog w0 58 [.int .u64 n, .int .i64 4] F (fun r l' => ∃ a c, r = .slice a 4 c ∧ l' = own 5 1 (.slice a 4 c) 4 (bcells (be n.toNat 4)) :: F) := numberI_ok 4 h0 h1 (by omega)
theorem bytes_ok {w0 : World} {F : List HProp} {p : Pa} (hk : 0 ≤ p.kd ∧ p.kd ≤ 255) (ht : p.t.length ≤ 5000) (hx : ∀ e ∈ p.u.xs, e.ok) (hn : p.u.xs.length ≤ 9223372036854775807) (hN : -9223372036854775808 ≤ p.n ∧ p.n ≤ 9223372036854775807) (hr : RdO w0 F (.slice p.u.a p.u.xs.length p.u.c) p.u.xs.length (p.u.xs.flatMap ecl)) :
    FnO Try.prog w0 54 [.agg (pac p).toArray] F (fun r l' => (∃ bs a c H, partB p = some bs ∧ r = .tuple #[.slice a bs.length c, .bool true] ∧ l' = H :: F ∧ ∀ l, RdO w0 (H :: l) (.slice a bs.length c) bs.length (bcells bs)) ∨ (partB p = none ∧ ∃ v, r = .tuple #[v, .bool false] ∧ l' = F)) := by
  have es := strB_size p.t
  refine FnO.weak ?_
  refine FnO.intro (n := 77) Try.func54 rfl rfl rfl ?_
  refine J.seq ?_
  refine J.region ?_
  refine JL.mem rfl rfl (OpM.box rfl rfl) ?_; rintro _ _ ⟨b1, rfl, rfl⟩
  refine JL.pure rfl rfl (OpP.assign rfl) ?_
  refine JL.pure rfl rfl (OpP.assign rfl) ?_
  refine JL.nil ?_
  refine J.seq ?_
  refine J.seq ?_
  refine J.region ?_
  refine JL.pure rfl rfl (OpP.fieldAddr rfl) ?_
  refine JL.read rfl rfl (OpR.load1 rfl (Cell.row .head rfl)) ?_
  refine JL.pure rfl rfl (OpP.remI rfl rfl (by first | omega | exact Int.natCast_nonneg _) (by omega)) ?_
  refine JL.nil ?_
  refine J.block ?_
  refine J.seq ?_
  by_cases h0 : p.kd % 8 = 0
  · have hv0 : (#[Value.int .i64 1, .int .i64 2, .int .i64 4] : Array Value).toList[(p.kd % 8).toNat]? = some (.int .i64 1) := by rw [h0]; rfl
    have hv1 : (#[Value.int .i64 256, .int .i64 65536, .int .i64 4294967296] : Array Value).toList[(p.kd % 8).toNat]? = some (.int .i64 256) := by rw [h0]; rfl
    have hb : partB p = (if p.n < 0 ∨ 256 ^ 1 ≤ p.n then none else some (be p.n.toNat 1)) := by rw [partB, if_pos h0]
    clear hr
    refine J.seq ?_
    refine J.region ?_
    refine JL.decT rfl rfl (OpP.eql rfl rfl) (by omega) ?_
    refine JL.pure rfl rfl (OpP.assign rfl) ?_
    refine JL.nil ?_
    refine J.condT rfl ?_
    refine J.skip ?_
    refine J.condT rfl ?_
    refine J.seq ?_
    refine J.region ?_
    refine JL.pure rfl rfl (OpP.buildA rfl (by (repeat (first | exact Fills.nil | (apply Fills.cons rfl rfl rfl; (case' hs => ((repeat (first | exact Spl.nil | apply Spl.here | apply Spl.there)); done))))))) ?_
    refine JL.pure rfl rfl (OpP.fieldAddr rfl) ?_
    refine JL.read rfl rfl (OpR.load1 rfl (Cell.row .head rfl)) ?_
    refine JL.pure rfl rfl (OpP.remI rfl rfl (by first | omega | exact Int.natCast_nonneg _) (by omega)) ?_
    refine JL.pure rfl rfl (OpP.indexArr1 rfl rfl (by omega) (by omega) (by assumption)) ?_
    refine JL.pure rfl rfl (OpP.assign rfl) ?_
    refine JL.nil ?_
    refine J.seq ?_
    refine J.region ?_
    refine JL.pure rfl rfl (OpP.buildA rfl (by (repeat (first | exact Fills.nil | (apply Fills.cons rfl rfl rfl; (case' hs => ((repeat (first | exact Spl.nil | apply Spl.here | apply Spl.there)); done))))))) ?_
    refine JL.pure rfl rfl (OpP.fieldAddr rfl) ?_
    refine JL.read rfl rfl (OpR.load1 rfl (Cell.row .head rfl)) ?_
    refine JL.pure rfl rfl (OpP.remI rfl rfl (by first | omega | exact Int.natCast_nonneg _) (by omega)) ?_
    refine JL.pure rfl rfl (OpP.indexArr1 rfl rfl (by omega) (by omega) (by assumption)) ?_
    refine JL.pure rfl rfl (OpP.assign rfl) ?_
    refine JL.nil ?_
    refine J.seq ?_
    refine J.seq ?_
    refine J.region ?_
    refine JL.pure rfl rfl (OpP.fieldAddr rfl) ?_
    refine JL.read rfl rfl (OpR.load1 rfl (Cell.row .head rfl)) ?_
    refine JL.dec rfl rfl (OpP.lss rfl rfl) (fun h25 => ?_) (fun h25 => ?_)
    focus
      refine JL.pure rfl rfl (OpP.move rfl) ?_
      refine JL.skip rfl rfl ?_
      refine JL.skip rfl rfl ?_
      refine JL.skip rfl rfl ?_
      refine JL.skip rfl rfl ?_
      refine JL.pure rfl rfl (OpP.pickT rfl rfl) ?_
      refine JL.nil ?_
      refine J.condT rfl ?_
      refine J.seq ?_
      refine J.region ?_
      refine JL.pure rfl rfl (OpP.assign rfl) ?_
      refine JL.pure rfl rfl (OpP.assign rfl) ?_
      refine JL.nil ?_
      refine J.ret2 rfl rfl rfl ?_
    rotate_left 1
    focus
      refine JL.pure rfl rfl (OpP.move rfl) ?_
      refine JL.pure rfl rfl (OpP.fieldAddr rfl) ?_
      refine JL.read rfl rfl (OpR.load1 rfl (Cell.row .head rfl)) ?_
      refine JL.pure rfl rfl (OpP.move rfl) ?_
      refine JL.dec rfl rfl (OpP.geq rfl rfl) (fun h30 => ?_) (fun h30 => ?_)
      focus
        refine JL.pure rfl rfl (OpP.pickF rfl rfl) ?_
        refine JL.nil ?_
        refine J.condT rfl ?_
        refine J.seq ?_
        refine J.region ?_
        refine JL.pure rfl rfl (OpP.assign rfl) ?_
        refine JL.pure rfl rfl (OpP.assign rfl) ?_
        refine JL.nil ?_
        refine J.ret2 rfl rfl rfl ?_
      rotate_left 1
      focus
        refine JL.pure rfl rfl (OpP.pickF rfl rfl) ?_
        refine JL.nil ?_
        refine J.condF rfl ?_
        refine J.skip ?_
        refine J.seq ?_
        refine J.region ?_
        refine JL.pure rfl rfl (OpP.fieldAddr rfl) ?_
        refine JL.read rfl rfl (OpR.load1 rfl (Cell.row .head rfl)) ?_
        refine JL.pure rfl rfl (OpP.convI rfl (by simp [IntKind.min, IntKind.max, IntKind.signed, IntKind.bits] <;> omega) (by simp [IntKind.min, IntKind.max, IntKind.signed, IntKind.bits] <;> omega)) ?_
        refine JL.pure rfl rfl (OpP.move rfl) ?_
        refine JL.step rfl rfl (OpW.call (first := []) (captured := []) inferInstance rfl rfl (numberB1_ok (by omega) (by omega))) ?_; rintro r36 _ ⟨a, ⟨c, ⟨rfl, rfl⟩⟩⟩
        refine JL.pure rfl rfl (OpP.assign rfl) ?_
        refine JL.pure rfl rfl (OpP.assign rfl) ?_
        refine JL.nil ?_
        refine J.ret2 rfl rfl rfl ?_
      rotate_left 1
    rotate_left 2
    · exact ⟨_, .inr ⟨by rw [hb, if_pos (by omega)], _, rfl, rfl⟩, fun _ h => h.tail⟩
    · exact ⟨_, .inr ⟨by rw [hb, if_pos (by omega)], _, rfl, rfl⟩, fun _ h => h.tail⟩
    · exact ⟨_, .inl ⟨be p.n.toNat 1, _, _, _, by rw [hb, if_neg (by omega)], by rw [be_length], rfl, fun l => RdO.own (by rw [be_length]; exact .head)⟩, fun _ h => Own.pick (pre := [_, _]) [0] rfl h⟩
  by_cases h1 : p.kd % 8 = 1
  · have hv0 : (#[Value.int .i64 1, .int .i64 2, .int .i64 4] : Array Value).toList[(p.kd % 8).toNat]? = some (.int .i64 2) := by rw [h1]; rfl
    have hv1 : (#[Value.int .i64 256, .int .i64 65536, .int .i64 4294967296] : Array Value).toList[(p.kd % 8).toNat]? = some (.int .i64 65536) := by rw [h1]; rfl
    have hb : partB p = (if p.n < 0 ∨ 256 ^ 2 ≤ p.n then none else some (be p.n.toNat 2)) := by rw [partB, if_neg h0, if_pos h1]
    clear hr
    refine J.seq ?_
    refine J.region ?_
    refine JL.decF rfl rfl (OpP.eql rfl rfl) (by omega) ?_
    refine JL.pure rfl rfl (OpP.assign rfl) ?_
    refine JL.nil ?_
    refine J.condF rfl ?_
    refine J.seq ?_
    refine J.region ?_
    refine JL.decT rfl rfl (OpP.eql rfl rfl) (by omega) ?_
    refine JL.pure rfl rfl (OpP.assign rfl) ?_
    refine JL.nil ?_
    refine J.condT rfl ?_
    refine J.skip ?_
    refine J.condT rfl ?_
    refine J.seq ?_
    refine J.region ?_
    refine JL.pure rfl rfl (OpP.buildA rfl (by (repeat (first | exact Fills.nil | (apply Fills.cons rfl rfl rfl; (case' hs => ((repeat (first | exact Spl.nil | apply Spl.here | apply Spl.there)); done))))))) ?_
    refine JL.pure rfl rfl (OpP.fieldAddr rfl) ?_
    refine JL.read rfl rfl (OpR.load1 rfl (Cell.row .head rfl)) ?_
    refine JL.pure rfl rfl (OpP.remI rfl rfl (by first | omega | exact Int.natCast_nonneg _) (by omega)) ?_
    refine JL.pure rfl rfl (OpP.indexArr1 rfl rfl (by omega) (by omega) (by assumption)) ?_
    refine JL.pure rfl rfl (OpP.assign rfl) ?_
    refine JL.nil ?_
    refine J.seq ?_
    refine J.region ?_
    refine JL.pure rfl rfl (OpP.buildA rfl (by (repeat (first | exact Fills.nil | (apply Fills.cons rfl rfl rfl; (case' hs => ((repeat (first | exact Spl.nil | apply Spl.here | apply Spl.there)); done))))))) ?_
    refine JL.pure rfl rfl (OpP.fieldAddr rfl) ?_
    refine JL.read rfl rfl (OpR.load1 rfl (Cell.row .head rfl)) ?_
    refine JL.pure rfl rfl (OpP.remI rfl rfl (by first | omega | exact Int.natCast_nonneg _) (by omega)) ?_
    refine JL.pure rfl rfl (OpP.indexArr1 rfl rfl (by omega) (by omega) (by assumption)) ?_
    refine JL.pure rfl rfl (OpP.assign rfl) ?_
    refine JL.nil ?_
    refine J.seq ?_
    refine J.seq ?_
    refine J.region ?_
    refine JL.pure rfl rfl (OpP.fieldAddr rfl) ?_
    refine JL.read rfl rfl (OpR.load1 rfl (Cell.row .head rfl)) ?_
    refine JL.dec rfl rfl (OpP.lss rfl rfl) (fun h25 => ?_) (fun h25 => ?_)
    focus
      refine JL.pure rfl rfl (OpP.move rfl) ?_
      refine JL.skip rfl rfl ?_
      refine JL.skip rfl rfl ?_
      refine JL.skip rfl rfl ?_
      refine JL.skip rfl rfl ?_
      refine JL.pure rfl rfl (OpP.pickT rfl rfl) ?_
      refine JL.nil ?_
      refine J.condT rfl ?_
      refine J.seq ?_
      refine J.region ?_
      refine JL.pure rfl rfl (OpP.assign rfl) ?_
      refine JL.pure rfl rfl (OpP.assign rfl) ?_
      refine JL.nil ?_
      refine J.ret2 rfl rfl rfl ?_
    rotate_left 1
    focus
      refine JL.pure rfl rfl (OpP.move rfl) ?_
      refine JL.pure rfl rfl (OpP.fieldAddr rfl) ?_
      refine JL.read rfl rfl (OpR.load1 rfl (Cell.row .head rfl)) ?_
      refine JL.pure rfl rfl (OpP.move rfl) ?_
      refine JL.dec rfl rfl (OpP.geq rfl rfl) (fun h30 => ?_) (fun h30 => ?_)
      focus
        refine JL.pure rfl rfl (OpP.pickF rfl rfl) ?_
        refine JL.nil ?_
        refine J.condT rfl ?_
        refine J.seq ?_
        refine J.region ?_
        refine JL.pure rfl rfl (OpP.assign rfl) ?_
        refine JL.pure rfl rfl (OpP.assign rfl) ?_
        refine JL.nil ?_
        refine J.ret2 rfl rfl rfl ?_
      rotate_left 1
      focus
        refine JL.pure rfl rfl (OpP.pickF rfl rfl) ?_
        refine JL.nil ?_
        refine J.condF rfl ?_
        refine J.skip ?_
        refine J.seq ?_
        refine J.region ?_
        refine JL.pure rfl rfl (OpP.fieldAddr rfl) ?_
        refine JL.read rfl rfl (OpR.load1 rfl (Cell.row .head rfl)) ?_
        refine JL.pure rfl rfl (OpP.convI rfl (by simp [IntKind.min, IntKind.max, IntKind.signed, IntKind.bits] <;> omega) (by simp [IntKind.min, IntKind.max, IntKind.signed, IntKind.bits] <;> omega)) ?_
        refine JL.pure rfl rfl (OpP.move rfl) ?_
        refine JL.step rfl rfl (OpW.call (first := []) (captured := []) inferInstance rfl rfl (numberB2_ok (by omega) (by omega))) ?_; rintro r36 _ ⟨a, ⟨c, ⟨rfl, rfl⟩⟩⟩
        refine JL.pure rfl rfl (OpP.assign rfl) ?_
        refine JL.pure rfl rfl (OpP.assign rfl) ?_
        refine JL.nil ?_
        refine J.ret2 rfl rfl rfl ?_
      rotate_left 1
    rotate_left 2
    · exact ⟨_, .inr ⟨by rw [hb, if_pos (by omega)], _, rfl, rfl⟩, fun _ h => h.tail⟩
    · exact ⟨_, .inr ⟨by rw [hb, if_pos (by omega)], _, rfl, rfl⟩, fun _ h => h.tail⟩
    · exact ⟨_, .inl ⟨be p.n.toNat 2, _, _, _, by rw [hb, if_neg (by omega)], by rw [be_length], rfl, fun l => RdO.own (by rw [be_length]; exact .head)⟩, fun _ h => Own.pick (pre := [_, _]) [0] rfl h⟩
  by_cases h2 : p.kd % 8 = 2
  · have hv0 : (#[Value.int .i64 1, .int .i64 2, .int .i64 4] : Array Value).toList[(p.kd % 8).toNat]? = some (.int .i64 4) := by rw [h2]; rfl
    have hv1 : (#[Value.int .i64 256, .int .i64 65536, .int .i64 4294967296] : Array Value).toList[(p.kd % 8).toNat]? = some (.int .i64 4294967296) := by rw [h2]; rfl
    have hb : partB p = (if p.n < 0 ∨ 256 ^ 4 ≤ p.n then none else some (be p.n.toNat 4)) := by rw [partB, if_neg h0, if_neg h1, if_pos h2]
    clear hr
    refine J.seq ?_
    refine J.region ?_
    refine JL.decF rfl rfl (OpP.eql rfl rfl) (by omega) ?_
    refine JL.pure rfl rfl (OpP.assign rfl) ?_
    refine JL.nil ?_
    refine J.condF rfl ?_
    refine J.seq ?_
    refine J.region ?_
    refine JL.decF rfl rfl (OpP.eql rfl rfl) (by omega) ?_
    refine JL.pure rfl rfl (OpP.assign rfl) ?_
    refine JL.nil ?_
    refine J.condF rfl ?_
    refine J.region ?_
    refine JL.decT rfl rfl (OpP.eql rfl rfl) (by omega) ?_
    refine JL.pure rfl rfl (OpP.assign rfl) ?_
    refine JL.nil ?_
    refine J.condT rfl ?_
    refine J.seq ?_
    refine J.region ?_
    refine JL.pure rfl rfl (OpP.buildA rfl (by (repeat (first | exact Fills.nil | (apply Fills.cons rfl rfl rfl; (case' hs => ((repeat (first | exact Spl.nil | apply Spl.here | apply Spl.there)); done))))))) ?_
    refine JL.pure rfl rfl (OpP.fieldAddr rfl) ?_
    refine JL.read rfl rfl (OpR.load1 rfl (Cell.row .head rfl)) ?_
    refine JL.pure rfl rfl (OpP.remI rfl rfl (by first | omega | exact Int.natCast_nonneg _) (by omega)) ?_
    refine JL.pure rfl rfl (OpP.indexArr1 rfl rfl (by omega) (by omega) (by assumption)) ?_
    refine JL.pure rfl rfl (OpP.assign rfl) ?_
    refine JL.nil ?_
    refine J.seq ?_
    refine J.region ?_
    refine JL.pure rfl rfl (OpP.buildA rfl (by (repeat (first | exact Fills.nil | (apply Fills.cons rfl rfl rfl; (case' hs => ((repeat (first | exact Spl.nil | apply Spl.here | apply Spl.there)); done))))))) ?_
    refine JL.pure rfl rfl (OpP.fieldAddr rfl) ?_
    refine JL.read rfl rfl (OpR.load1 rfl (Cell.row .head rfl)) ?_
    refine JL.pure rfl rfl (OpP.remI rfl rfl (by first | omega | exact Int.natCast_nonneg _) (by omega)) ?_
    refine JL.pure rfl rfl (OpP.indexArr1 rfl rfl (by omega) (by omega) (by assumption)) ?_
    refine JL.pure rfl rfl (OpP.assign rfl) ?_
    refine JL.nil ?_
    refine J.seq ?_
    refine J.seq ?_
    refine J.region ?_
    refine JL.pure rfl rfl (OpP.fieldAddr rfl) ?_
    refine JL.read rfl rfl (OpR.load1 rfl (Cell.row .head rfl)) ?_
    refine JL.dec rfl rfl (OpP.lss rfl rfl) (fun h25 => ?_) (fun h25 => ?_)
    focus
      refine JL.pure rfl rfl (OpP.move rfl) ?_
      refine JL.skip rfl rfl ?_
      refine JL.skip rfl rfl ?_
      refine JL.skip rfl rfl ?_
      refine JL.skip rfl rfl ?_
      refine JL.pure rfl rfl (OpP.pickT rfl rfl) ?_
      refine JL.nil ?_
      refine J.condT rfl ?_
      refine J.seq ?_
      refine J.region ?_
      refine JL.pure rfl rfl (OpP.assign rfl) ?_
      refine JL.pure rfl rfl (OpP.assign rfl) ?_
      refine JL.nil ?_
      refine J.ret2 rfl rfl rfl ?_
    rotate_left 1
    focus
      refine JL.pure rfl rfl (OpP.move rfl) ?_
      refine JL.pure rfl rfl (OpP.fieldAddr rfl) ?_
      refine JL.read rfl rfl (OpR.load1 rfl (Cell.row .head rfl)) ?_
      refine JL.pure rfl rfl (OpP.move rfl) ?_
      refine JL.dec rfl rfl (OpP.geq rfl rfl) (fun h30 => ?_) (fun h30 => ?_)
      focus
        refine JL.pure rfl rfl (OpP.pickF rfl rfl) ?_
        refine JL.nil ?_
        refine J.condT rfl ?_
        refine J.seq ?_
        refine J.region ?_
        refine JL.pure rfl rfl (OpP.assign rfl) ?_
        refine JL.pure rfl rfl (OpP.assign rfl) ?_
        refine JL.nil ?_
        refine J.ret2 rfl rfl rfl ?_
      rotate_left 1
      focus
        refine JL.pure rfl rfl (OpP.pickF rfl rfl) ?_
        refine JL.nil ?_
        refine J.condF rfl ?_
        refine J.skip ?_
        refine J.seq ?_
        refine J.region ?_
        refine JL.pure rfl rfl (OpP.fieldAddr rfl) ?_
        refine JL.read rfl rfl (OpR.load1 rfl (Cell.row .head rfl)) ?_
        refine JL.pure rfl rfl (OpP.convI rfl (by simp [IntKind.min, IntKind.max, IntKind.signed, IntKind.bits] <;> omega) (by simp [IntKind.min, IntKind.max, IntKind.signed, IntKind.bits] <;> omega)) ?_
        refine JL.pure rfl rfl (OpP.move rfl) ?_
        refine JL.step rfl rfl (OpW.call (first := []) (captured := []) inferInstance rfl rfl (numberB4_ok (by omega) (by omega))) ?_; rintro r36 _ ⟨a, ⟨c, ⟨rfl, rfl⟩⟩⟩
        refine JL.pure rfl rfl (OpP.assign rfl) ?_
        refine JL.pure rfl rfl (OpP.assign rfl) ?_
        refine JL.nil ?_
        refine J.ret2 rfl rfl rfl ?_
      rotate_left 1
    rotate_left 2
    · exact ⟨_, .inr ⟨by rw [hb, if_pos (by omega)], _, rfl, rfl⟩, fun _ h => h.tail⟩
    · exact ⟨_, .inr ⟨by rw [hb, if_pos (by omega)], _, rfl, rfl⟩, fun _ h => h.tail⟩
    · exact ⟨_, .inl ⟨be p.n.toNat 4, _, _, _, by rw [hb, if_neg (by omega)], by rw [be_length], rfl, fun l => RdO.own (by rw [be_length]; exact .head)⟩, fun _ h => Own.pick (pre := [_, _]) [0] rfl h⟩
  by_cases h3 : p.kd % 8 = 3
  · have hb : partB p = some (be (u64 p.n) 8) := by rw [partB, if_neg h0, if_neg h1, if_neg h2, if_pos h3]
    clear hr
    refine J.seq ?_
    refine J.region ?_
    refine JL.decF rfl rfl (OpP.eql rfl rfl) (by omega) ?_
    refine JL.pure rfl rfl (OpP.assign rfl) ?_
    refine JL.nil ?_
    refine J.condF rfl ?_
    refine J.seq ?_
    refine J.region ?_
    refine JL.decF rfl rfl (OpP.eql rfl rfl) (by omega) ?_
    refine JL.pure rfl rfl (OpP.assign rfl) ?_
    refine JL.nil ?_
    refine J.condF rfl ?_
    refine J.region ?_
    refine JL.decF rfl rfl (OpP.eql rfl rfl) (by omega) ?_
    refine JL.pure rfl rfl (OpP.assign rfl) ?_
    refine JL.nil ?_
    refine J.condF rfl ?_
    refine J.seq ?_
    refine J.region ?_
    refine JL.decT rfl rfl (OpP.eql rfl rfl) (by omega) ?_
    refine JL.pure rfl rfl (OpP.assign rfl) ?_
    refine JL.nil ?_
    refine J.condT rfl ?_
    refine J.seq ?_
    refine J.region ?_
    refine JL.pure rfl rfl (OpP.fieldAddr rfl) ?_
    refine JL.read rfl rfl (OpR.load1 rfl (Cell.row .head rfl)) ?_
    refine JL.pure rfl rfl (OpP.conv rfl) ?_
    refine JL.step rfl rfl (OpW.call (first := []) (captured := []) inferInstance rfl rfl number8_ok) ?_; rintro r42 _ ⟨⟨a, ⟨c, rfl⟩⟩, rfl⟩
    refine JL.pure rfl rfl (OpP.assign rfl) ?_
    refine JL.pure rfl rfl (OpP.assign rfl) ?_
    refine JL.nil ?_
    refine J.ret2 rfl rfl rfl ?_
    exact ⟨_, .inl ⟨be (u64 p.n) 8, _, _, _, hb, by rw [be_length], rfl, fun l => RdO.own (by rw [be_length]; exact .head)⟩, fun _ h => Own.pick (pre := [_, _]) [0] rfl h⟩
  by_cases h4 : p.kd % 8 = 4
  · have hb : partB p = some [if u64 p.n % 2 = 1 then 1 else 0] := by rw [partB, if_neg h0, if_neg h1, if_neg h2, if_neg h3, if_pos h4]
    clear hr
    refine J.seq ?_
    refine J.region ?_
    refine JL.decF rfl rfl (OpP.eql rfl rfl) (by omega) ?_
    refine JL.pure rfl rfl (OpP.assign rfl) ?_
    refine JL.nil ?_
    refine J.condF rfl ?_
    refine J.seq ?_
    refine J.region ?_
    refine JL.decF rfl rfl (OpP.eql rfl rfl) (by omega) ?_
    refine JL.pure rfl rfl (OpP.assign rfl) ?_
    refine JL.nil ?_
    refine J.condF rfl ?_
    refine J.region ?_
    refine JL.decF rfl rfl (OpP.eql rfl rfl) (by omega) ?_
    refine JL.pure rfl rfl (OpP.assign rfl) ?_
    refine JL.nil ?_
    refine J.condF rfl ?_
    refine J.seq ?_
    refine J.region ?_
    refine JL.decF rfl rfl (OpP.eql rfl rfl) (by omega) ?_
    refine JL.pure rfl rfl (OpP.assign rfl) ?_
    refine JL.nil ?_
    refine J.condF rfl ?_
    refine J.seq ?_
    refine J.region ?_
    refine JL.decT rfl rfl (OpP.eql rfl rfl) (by omega) ?_
    refine JL.pure rfl rfl (OpP.assign rfl) ?_
    refine JL.nil ?_
    refine J.condT rfl ?_
    refine J.seq ?_
    refine J.region ?_
    refine JL.pure rfl rfl (OpP.fieldAddr rfl) ?_
    refine JL.read rfl rfl (OpR.load1 rfl (Cell.row .head rfl)) ?_
    refine JL.pure rfl rfl (OpP.conv rfl) ?_
    refine JL.pure rfl rfl (OpP.rem rfl rfl (by omega)) ?_
    refine JL.pure rfl rfl (OpP.conv rfl) ?_
    refine JL.mem rfl rfl (by apply OpM.buildSlice (by rfl) rfl (by rfl); (repeat (first | exact Fills.nil | (apply Fills.cons rfl rfl rfl; (case' hs => ((repeat (first | exact Spl.nil | apply Spl.here | apply Spl.there)); done)))))) ?_; rintro _ _ ⟨b50, rfl, rfl⟩
    refine JL.pure rfl rfl (OpP.assign rfl) ?_
    refine JL.pure rfl rfl (OpP.assign rfl) ?_
    refine JL.nil ?_
    refine J.ret2 rfl rfl rfl ?_
    refine ⟨_, .inl ⟨_, _, 1, _, hb, rfl, rfl, fun l => ?_⟩, fun _ h => Own.pick (pre := [_, _]) [0] rfl h⟩
    have e : Value.int .u8 (IntKind.u8.wrap ((IntKind.u64.wrap p.n).tmod 2)) = u8c (if u64 p.n % 2 = 1 then 1 else 0) := by
      rw [u64_wrap, Int.tmod_eq_emod_of_nonneg (by omega)]
      by_cases ho : u64 p.n % 2 = 1
      · rw [if_pos ho, show ((u64 p.n : Nat) : Int) % 2 = 1 by omega]; rfl
      · rw [if_neg ho, show ((u64 p.n : Nat) : Int) % 2 = 0 by omega]; rfl
    rw [e]
    exact RdO.ofRow .head (Nat.le_refl _)
  by_cases h5 : p.kd % 8 = 5
  · have hb : partB p = (if 4096 < p.t.length then none else some (be p.t.length 2 ++ p.t)) := by rw [partB, if_neg h0, if_neg h1, if_neg h2, if_neg h3, if_neg h4, if_pos h5]
    clear hr
    refine J.seq ?_
    refine J.region ?_
    refine JL.decF rfl rfl (OpP.eql rfl rfl) (by omega) ?_
    refine JL.pure rfl rfl (OpP.assign rfl) ?_
    refine JL.nil ?_
    refine J.condF rfl ?_
    refine J.seq ?_
    refine J.region ?_
    refine JL.decF rfl rfl (OpP.eql rfl rfl) (by omega) ?_
    refine JL.pure rfl rfl (OpP.assign rfl) ?_
    refine JL.nil ?_
    refine J.condF rfl ?_
    refine J.region ?_
    refine JL.decF rfl rfl (OpP.eql rfl rfl) (by omega) ?_
    refine JL.pure rfl rfl (OpP.assign rfl) ?_
    refine JL.nil ?_
    refine J.condF rfl ?_
    refine J.seq ?_
    refine J.region ?_
    refine JL.decF rfl rfl (OpP.eql rfl rfl) (by omega) ?_
    refine JL.pure rfl rfl (OpP.assign rfl) ?_
    refine JL.nil ?_
    refine J.condF rfl ?_
    refine J.seq ?_
    refine J.region ?_
    refine JL.decF rfl rfl (OpP.eql rfl rfl) (by omega) ?_
    refine JL.pure rfl rfl (OpP.assign rfl) ?_
    refine JL.nil ?_
    refine J.condF rfl ?_
    refine J.seq ?_
    refine J.region ?_
    refine JL.decT rfl rfl (OpP.eql rfl rfl) (by omega) ?_
    refine JL.pure rfl rfl (OpP.assign rfl) ?_
    refine JL.nil ?_
    refine J.condT rfl ?_
    refine J.seq ?_
    refine J.regionD [1, 6, 9] (by kernel_rfl) ?_
    refine DL.pure (i := 0) (by kernel_rfl) (by kernel_rfl) rfl rfl rfl (OpP.fieldAddr rfl) ?_
    refine DL.read (i := 1) (by kernel_rfl) (by kernel_rfl) rfl rfl rfl (fun _ h => h) (OpR.load1 rfl (Cell.row .head rfl)) ?_
    refine DL.pure (i := 2) (by kernel_rfl) (by kernel_rfl) rfl rfl rfl (OpP.lenStr rfl rfl) ?_
    refine DL.pure (i := 3) (by kernel_rfl) (by kernel_rfl) rfl rfl rfl (OpP.convI rfl (by simp [IntKind.min, IntKind.max, IntKind.signed, IntKind.bits] <;> omega) (by simp [IntKind.min, IntKind.max, IntKind.signed, IntKind.bits] <;> omega)) ?_
    refine DL.pure (i := 5) (by kernel_rfl) (by kernel_rfl) rfl rfl rfl (OpP.fieldAddr rfl) ?_
    refine DL.read (i := 6) (by kernel_rfl) (by kernel_rfl) rfl rfl rfl (fun _ h => h) (OpR.load1 rfl (Cell.row .head rfl)) ?_
    refine DL.pure (i := 8) (by kernel_rfl) (by kernel_rfl) rfl rfl rfl (OpP.fieldAddr rfl) ?_
    refine DL.read (i := 9) (by kernel_rfl) (by kernel_rfl) rfl rfl rfl (fun _ h => h) (OpR.load1 rfl (Cell.row .head rfl)) ?_
    refine DL.pure (i := 10) (by kernel_rfl) (by kernel_rfl) rfl rfl rfl (OpP.lenStr rfl rfl) ?_
    refine DL.dec (i := 11) (by kernel_rfl) (by kernel_rfl) rfl rfl rfl (OpP.leq rfl rfl) (fun h64 => ?_) (fun h64 => ?_)
    focus
      refine DL.only (i := 4) (by kernel_rfl) ?_
      refine DL1.stepK rfl rfl rfl (by exact OpW.call (first := []) (captured := []) inferInstance rfl rfl (number2_ok (by omega))) (by rintro _ _ ⟨⟨a, ⟨c, rfl⟩⟩, rfl⟩ _ h; exact Own.pick (pre := [_, _]) [1] rfl h) ?_; rintro r57 _ ⟨⟨a, ⟨c, rfl⟩⟩, rfl⟩
      refine DL.only (i := 7) (by kernel_rfl) ?_
      refine DL1.stepK rfl rfl rfl (OpM.w (OpM.appendH rfl (.inr StrT.h) (by rfl) rfl rfl Src.str (bcells_one _) (by simp only [maxLen]; omega) (by omega))) (by rintro _ _ ⟨⟨a60, c60, rfl⟩, rfl⟩ _ h; exact Own.pick (pre := [_, _]) [1] rfl h) ?_; rintro _ _ ⟨⟨a60, c60, rfl⟩, rfl⟩
      refine DL.pure (i := 12) (by kernel_rfl) (by kernel_rfl) rfl rfl rfl (OpP.assign rfl) ?_
      refine DL.pure (i := 13) (by kernel_rfl) (by kernel_rfl) rfl rfl rfl (OpP.assign rfl) ?_
      refine DL.done (by kernel_rfl) ?_
      refine J.ret2 rfl rfl rfl ?_
    rotate_left 1
    focus
      refine DL.only (i := 4) (by kernel_rfl) ?_
      refine DL1.stepK rfl rfl rfl (by exact OpW.call (first := []) (captured := []) inferInstance rfl rfl (number2_ok (by omega))) (by rintro _ _ ⟨⟨a, ⟨c, rfl⟩⟩, rfl⟩ _ h; exact Own.pick (pre := [_, _]) [1] rfl h) ?_; rintro r57 _ ⟨⟨a, ⟨c, rfl⟩⟩, rfl⟩
      refine DL.only (i := 7) (by kernel_rfl) ?_
      refine DL1.stepK rfl rfl rfl (OpM.w (OpM.appendH rfl (.inr StrT.h) (by rfl) rfl rfl Src.str (bcells_one _) (by simp only [maxLen]; omega) (by omega))) (by rintro _ _ ⟨⟨a60, c60, rfl⟩, rfl⟩ _ h; exact Own.pick (pre := [_, _]) [1] rfl h) ?_; rintro _ _ ⟨⟨a60, c60, rfl⟩, rfl⟩
      refine DL.pure (i := 12) (by kernel_rfl) (by kernel_rfl) rfl rfl rfl (OpP.assign rfl) ?_
      refine DL.pure (i := 13) (by kernel_rfl) (by kernel_rfl) rfl rfl rfl (OpP.assign rfl) ?_
      refine DL.done (by kernel_rfl) ?_
      refine J.ret2 rfl rfl rfl ?_
    rotate_left 1
    · refine ⟨_, .inl ⟨be p.t.length 2 ++ p.t, _, _, _, by rw [hb, if_neg (by omega)], by rw [List.length_append, be_length, ← es], rfl, fun l => RdO.own (e := 5) (sz := 1) ?_⟩, fun _ h => Own.pick (pre := [_, _]) [0] rfl h⟩
      rw [List.length_append, be_length, ← es, bcells_app, strB_data]
      exact .head
    · exact ⟨_, .inr ⟨by rw [hb, if_pos (by omega)], _, rfl, rfl⟩, fun _ h => h.tail.tail⟩
  by_cases h6 : p.kd % 8 = 6
  · have hb : partB p = some p.t := by rw [partB, if_neg h0, if_neg h1, if_neg h2, if_neg h3, if_neg h4, if_neg h5, if_pos h6]
    clear hr
    refine J.seq ?_
    refine J.region ?_
    refine JL.decF rfl rfl (OpP.eql rfl rfl) (by omega) ?_
    refine JL.pure rfl rfl (OpP.assign rfl) ?_
    refine JL.nil ?_
    refine J.condF rfl ?_
    refine J.seq ?_
    refine J.region ?_
    refine JL.decF rfl rfl (OpP.eql rfl rfl) (by omega) ?_
    refine JL.pure rfl rfl (OpP.assign rfl) ?_
    refine JL.nil ?_
    refine J.condF rfl ?_
    refine J.region ?_
    refine JL.decF rfl rfl (OpP.eql rfl rfl) (by omega) ?_
    refine JL.pure rfl rfl (OpP.assign rfl) ?_
    refine JL.nil ?_
    refine J.condF rfl ?_
    refine J.seq ?_
    refine J.region ?_
    refine JL.decF rfl rfl (OpP.eql rfl rfl) (by omega) ?_
    refine JL.pure rfl rfl (OpP.assign rfl) ?_
    refine JL.nil ?_
    refine J.condF rfl ?_
    refine J.seq ?_
    refine J.region ?_
    refine JL.decF rfl rfl (OpP.eql rfl rfl) (by omega) ?_
    refine JL.pure rfl rfl (OpP.assign rfl) ?_
    refine JL.nil ?_
    refine J.condF rfl ?_
    refine J.seq ?_
    refine J.region ?_
    refine JL.decF rfl rfl (OpP.eql rfl rfl) (by omega) ?_
    refine JL.pure rfl rfl (OpP.assign rfl) ?_
    refine JL.nil ?_
    refine J.condF rfl ?_
    refine J.seq ?_
    refine J.region ?_
    refine JL.decT rfl rfl (OpP.eql rfl rfl) (by omega) ?_
    refine JL.pure rfl rfl (OpP.assign rfl) ?_
    refine JL.nil ?_
    refine J.condT rfl ?_
    refine J.seq ?_
    refine J.region ?_
    refine JL.pure rfl rfl (OpP.fieldAddr rfl) ?_
    refine JL.read rfl rfl (OpR.load1 rfl (Cell.row .head rfl)) ?_
    refine JL.mem rfl rfl (OpM.strToBytesC rfl) ?_; rintro _ _ ⟨b69, c69, rfl, k69, rfl⟩
    refine JL.pure rfl rfl (OpP.assign rfl) ?_
    refine JL.pure rfl rfl (OpP.assign rfl) ?_
    refine JL.nil ?_
    refine J.ret2 rfl rfl rfl ?_
    refine ⟨_, .inl ⟨p.t, _, _, _, hb, by rw [es], rfl, fun l => RdO.ofRdo (by rw [strB_data]; exact .head) (by omega)⟩, fun _ h => Own.pick (pre := [_, _]) [0] rfl h⟩
  by_cases hf : FormedP p.u.k p.u.i p.u.s p.u.xs
  · have hb : partB p = some (valB p.u.k p.u.i p.u.s p.u.xs) := by rw [partB, if_neg h0, if_neg h1, if_neg h2, if_neg h3, if_neg h4, if_neg h5, if_neg h6, if_pos hf]
    refine J.seq ?_
    refine J.region ?_
    refine JL.decF rfl rfl (OpP.eql rfl rfl) (by omega) ?_
    refine JL.pure rfl rfl (OpP.assign rfl) ?_
    refine JL.nil ?_
    refine J.condF rfl ?_
    refine J.seq ?_
    refine J.region ?_
    refine JL.decF rfl rfl (OpP.eql rfl rfl) (by omega) ?_
    refine JL.pure rfl rfl (OpP.assign rfl) ?_
    refine JL.nil ?_
    refine J.condF rfl ?_
    refine J.region ?_
    refine JL.decF rfl rfl (OpP.eql rfl rfl) (by omega) ?_
    refine JL.pure rfl rfl (OpP.assign rfl) ?_
    refine JL.nil ?_
    refine J.condF rfl ?_
    refine J.seq ?_
    refine J.region ?_
    refine JL.decF rfl rfl (OpP.eql rfl rfl) (by omega) ?_
    refine JL.pure rfl rfl (OpP.assign rfl) ?_
    refine JL.nil ?_
    refine J.condF rfl ?_
    refine J.seq ?_
    refine J.region ?_
    refine JL.decF rfl rfl (OpP.eql rfl rfl) (by omega) ?_
    refine JL.pure rfl rfl (OpP.assign rfl) ?_
    refine JL.nil ?_
    refine J.condF rfl ?_
    refine J.seq ?_
    refine J.region ?_
    refine JL.decF rfl rfl (OpP.eql rfl rfl) (by omega) ?_
    refine JL.pure rfl rfl (OpP.assign rfl) ?_
    refine JL.nil ?_
    refine J.condF rfl ?_
    refine J.seq ?_
    refine J.region ?_
    refine JL.decF rfl rfl (OpP.eql rfl rfl) (by omega) ?_
    refine JL.pure rfl rfl (OpP.assign rfl) ?_
    refine JL.nil ?_
    refine J.condF rfl ?_
    refine J.skip ?_
    refine J.inBlock ?_
    refine J.seq ?_
    refine J.seq ?_
    refine J.region ?_
    refine JL.pure rfl rfl (OpP.fieldAddr rfl) ?_
    refine JL.read rfl rfl (OpR.loadN rfl (Cells.sub 4 .head rfl) rfl) ?_
    refine JL.step rfl rfl (OpW.call (first := []) (captured := []) inferInstance rfl rfl (refFormedT (k := p.u.k) (i := p.u.i) (s := p.u.s) (a := p.u.a) (c := p.u.c) (xs := p.u.xs) hx hn hf (hr.conv fun _ h => Own.pick (pre := [_]) [] rfl h))) ?_; rintro r72 _ ⟨rfl, rfl⟩
    refine JL.pure rfl rfl (OpP.notB rfl) ?_
    refine JL.nil ?_
    refine J.condF rfl ?_
    refine J.skip ?_
    refine J.seq ?_
    refine J.region ?_
    refine JL.pure rfl rfl (OpP.fieldAddr rfl) ?_
    refine JL.read rfl rfl (OpR.loadN rfl (Cells.sub 4 .head rfl) rfl) ?_
    refine JL.step rfl rfl (OpW.call (first := []) (captured := []) inferInstance rfl rfl (refVal_ok (k := p.u.k) (i := p.u.i) (s := p.u.s) (a := p.u.a) (c := p.u.c) (xs := p.u.xs) hn hf (hr.conv fun _ h => Own.pick (pre := [_]) [] rfl h))) ?_; rintro r76 _ ⟨⟨a, ⟨c, rfl⟩⟩, rfl⟩
    refine JL.pure rfl rfl (OpP.assign rfl) ?_
    refine JL.pure rfl rfl (OpP.assign rfl) ?_
    refine JL.nil ?_
    refine J.ret2 rfl rfl rfl ?_
    exact ⟨_, .inl ⟨_, _, _, _, hb, rfl, rfl, fun l => RdO.own .head⟩, fun _ h => Own.pick (pre := [_, _]) [0] rfl h⟩
  · have hb : partB p = none := by rw [partB, if_neg h0, if_neg h1, if_neg h2, if_neg h3, if_neg h4, if_neg h5, if_neg h6, if_neg hf]
    refine J.seq ?_
    refine J.region ?_
    refine JL.decF rfl rfl (OpP.eql rfl rfl) (by omega) ?_
    refine JL.pure rfl rfl (OpP.assign rfl) ?_
    refine JL.nil ?_
    refine J.condF rfl ?_
    refine J.seq ?_
    refine J.region ?_
    refine JL.decF rfl rfl (OpP.eql rfl rfl) (by omega) ?_
    refine JL.pure rfl rfl (OpP.assign rfl) ?_
    refine JL.nil ?_
    refine J.condF rfl ?_
    refine J.region ?_
    refine JL.decF rfl rfl (OpP.eql rfl rfl) (by omega) ?_
    refine JL.pure rfl rfl (OpP.assign rfl) ?_
    refine JL.nil ?_
    refine J.condF rfl ?_
    refine J.seq ?_
    refine J.region ?_
    refine JL.decF rfl rfl (OpP.eql rfl rfl) (by omega) ?_
    refine JL.pure rfl rfl (OpP.assign rfl) ?_
    refine JL.nil ?_
    refine J.condF rfl ?_
    refine J.seq ?_
    refine J.region ?_
    refine JL.decF rfl rfl (OpP.eql rfl rfl) (by omega) ?_
    refine JL.pure rfl rfl (OpP.assign rfl) ?_
    refine JL.nil ?_
    refine J.condF rfl ?_
    refine J.seq ?_
    refine J.region ?_
    refine JL.decF rfl rfl (OpP.eql rfl rfl) (by omega) ?_
    refine JL.pure rfl rfl (OpP.assign rfl) ?_
    refine JL.nil ?_
    refine J.condF rfl ?_
    refine J.seq ?_
    refine J.region ?_
    refine JL.decF rfl rfl (OpP.eql rfl rfl) (by omega) ?_
    refine JL.pure rfl rfl (OpP.assign rfl) ?_
    refine JL.nil ?_
    refine J.condF rfl ?_
    refine J.skip ?_
    refine J.inBlock ?_
    refine J.seq ?_
    refine J.seq ?_
    refine J.region ?_
    refine JL.pure rfl rfl (OpP.fieldAddr rfl) ?_
    refine JL.read rfl rfl (OpR.loadN rfl (Cells.sub 4 .head rfl) rfl) ?_
    refine JL.step rfl rfl (OpW.call (first := []) (captured := []) inferInstance rfl rfl (refFormedF (k := p.u.k) (i := p.u.i) (s := p.u.s) (a := p.u.a) (c := p.u.c) (xs := p.u.xs) hx hn hf (hr.conv fun _ h => Own.pick (pre := [_]) [] rfl h))) ?_; rintro r72 _ ⟨rfl, rfl⟩
    refine JL.pure rfl rfl (OpP.notB rfl) ?_
    refine JL.nil ?_
    refine J.condT rfl ?_
    refine J.seq ?_
    refine J.region ?_
    refine JL.pure rfl rfl (OpP.assign rfl) ?_
    refine JL.pure rfl rfl (OpP.assign rfl) ?_
    refine JL.nil ?_
    refine J.ret2 rfl rfl rfl ?_
    exact ⟨_, .inr ⟨hb, _, rfl, rfl⟩, fun _ h => h.tail⟩
end Go.Proofs.E

-- seat e
namespace Go.Proofs.E
open Go Go.Gp Go.RowKit

/-- A reader that tells u, and leaves R. -/
abbrev TookV (w0 : World) (f : FuncId) (args : List Value) (g : Nat) (v : Value) (M : List UInt8) (F : List HProp) (R : List UInt8) (u : Value) : Prop :=
  FnO Try.prog w0 f args (inL g false v M F) (fun r l' => r = u ∧ ∃ v', l' = inL g false v' R F)
theorem absO_some {b : Bool} {M R : List UInt8} (h : absO b M = some R) : b = false ∧ M = R := by
  cases b
  · exact ⟨rfl, Option.some.inj h⟩
  · cases h
theorem Took.val {w0 : World} {f : FuncId} {args : List Value} {g : Nat} {v : Value} {M R : List UInt8} {F : List HProp} {o : Option (List UInt8)} {u u' : Value} (h : Took w0 f args g false v M F o u) (ho : o = some R) (hu : u = u') : TookV w0 f args g v M F R u' :=
  h.mono fun r l' ⟨b, v', M', _, h2, h3, h4⟩ => by
    obtain ⟨rfl, rfl⟩ := absO_some (h2.trans ho)
    exact ⟨h3.trans hu, v', h4⟩
variable {w0 : World} {F : List HProp} {g : Nat} {v : Value} {M R : List UInt8}
theorem tkU8 {n : Int} (h0 : 0 ≤ n) (h1 : n < 256) (hM : (be n.toNat 1 ++ R).length ≤ 1000000000) : TookV w0 15 [.pointer (some ⟨g, 0, none⟩)] g v (be n.toNat 1 ++ R) F R (.int .i64 n) := by
  obtain ⟨g1, g2⟩ := num_be (n := n.toNat) (k := 1) (R := R) (by omega)
  exact Took.val (inU8_ok (bad := false) hM) g2 (by rw [show absO false (be n.toNat 1 ++ R) = some (be n.toNat 1 ++ R) from rfl, g1]; congr 1; omega)
theorem tkU16 {n : Int} (h0 : 0 ≤ n) (h1 : n < 65536) (hM : (be n.toNat 2 ++ R).length ≤ 1000000000) : TookV w0 16 [.pointer (some ⟨g, 0, none⟩)] g v (be n.toNat 2 ++ R) F R (.int .i64 n) := by
  obtain ⟨g1, g2⟩ := num_be (n := n.toNat) (k := 2) (R := R) (by omega)
  exact Took.val (inU16_ok (bad := false) hM) g2 (by rw [show absO false (be n.toNat 2 ++ R) = some (be n.toNat 2 ++ R) from rfl, g1]; congr 1; omega)
theorem tkU32 {n : Int} (h0 : 0 ≤ n) (h1 : n < 4294967296) (hM : (be n.toNat 4 ++ R).length ≤ 1000000000) : TookV w0 17 [.pointer (some ⟨g, 0, none⟩)] g v (be n.toNat 4 ++ R) F R (.int .i64 n) := by
  obtain ⟨g1, g2⟩ := num_be (n := n.toNat) (k := 4) (R := R) (by omega)
  exact Took.val (inU32_ok (bad := false) hM) g2 (by rw [show absO false (be n.toNat 4 ++ R) = some (be n.toNat 4 ++ R) from rfl, g1]; congr 1; omega)
theorem tkI64 {n : Int} (h0 : -9223372036854775808 ≤ n) (h1 : n ≤ 9223372036854775807) (hM : (be (u64 n) 8 ++ R).length ≤ 1000000000) : TookV w0 18 [.pointer (some ⟨g, 0, none⟩)] g v (be (u64 n) 8 ++ R) F R (.int .i64 n) := by
  obtain ⟨g1, g2⟩ := num_be (n := u64 n) (k := 8) (R := R) (u64_lt n)
  exact Took.val (inI64_ok (bad := false) hM) g2 (by rw [show absO false (be (u64 n) 8 ++ R) = some (be (u64 n) 8 ++ R) from rfl, g1, i64_u64 h0 h1])
theorem tkFlag {q : Prop} [Decidable q] (hM : ((if q then (1 : UInt8) else 0) :: R).length ≤ 1000000000) : TookV w0 19 [.pointer (some ⟨g, 0, none⟩)] g v ((if q then (1 : UInt8) else 0) :: R) F R (.bool (decide q)) := by
  have e : ((if q then (1 : UInt8) else 0) :: R) = be (if q then 1 else 0) 1 ++ R := by
    by_cases hq : q
    · rw [if_pos hq, if_pos hq]; rfl
    · rw [if_neg hq, if_neg hq]; rfl
  rw [e] at hM ⊢
  obtain ⟨g1, g2⟩ := num_be (n := if q then 1 else 0) (k := 1) (R := R) (by split <;> omega)
  refine Took.val (inFlag_ok (bad := false) hM) ?_ ?_
  · rw [show absO false (be (if q then 1 else 0) 1 ++ R) = some (be (if q then 1 else 0) 1 ++ R) from rfl, flagO, g1, if_neg (by split <;> omega)]
    exact g2
  · rw [show absO false (be (if q then 1 else 0) 1 ++ R) = some (be (if q then 1 else 0) 1 ++ R) from rfl, g1]
    by_cases hq : q
    · simp [hq]
    · simp [hq]
theorem tkText {most : Int} {t : List UInt8} (h0 : t.length ≤ 4096) (h1 : 4096 ≤ most) (hM : (be t.length 2 ++ (t ++ R)).length ≤ 1000000000) : TookV w0 20 [.pointer (some ⟨g, 0, none⟩), .int .i64 most] g v (be t.length 2 ++ (t ++ R)) F R (.string (strB t)) := by
  obtain ⟨g1, g2⟩ := num_be (n := t.length) (k := 2) (R := t ++ R) (by omega)
  obtain ⟨g3, g4⟩ := rest_app (L := t) (R := R)
  have g2' : restO (some (be t.length 2 ++ (t ++ R))) 2 = some (t ++ R) := g2
  refine Took.val (inText_ok (bad := false) (most := most) hM) ?_ ?_
  · rw [show absO false (be t.length 2 ++ (t ++ R)) = some (be t.length 2 ++ (t ++ R)) from rfl, textR, g1, if_neg (by omega), g2', g3]
  · rw [show absO false (be t.length 2 ++ (t ++ R)) = some (be t.length 2 ++ (t ++ R)) from rfl, textV, g1, if_neg (by omega), g2', g4]
theorem tkRaw {t : List UInt8} {n : Int} (hn : n = t.length) (hM : (t ++ R).length ≤ 1000000000) : FnO Try.prog w0 21 [.pointer (some ⟨g, 0, none⟩), .int .i64 n] (inL g false v (t ++ R) F) (fun r l' => ∃ v' a c, r = .slice a t.length c ∧ l' = own 5 1 r t.length (bcells t) :: inL g false v' R F) := by
  subst hn
  obtain ⟨g3, g4⟩ := rest_app (L := t) (R := R)
  refine (raw_ok (n := t.length) (bad := false) hM).mono fun r l' ⟨b, v', M', ⟨a, c, h0⟩, h1, h2, h3⟩ => ?_
  rw [show absO false (t ++ R) = some (t ++ R) from rfl] at h0 h2 h3
  rw [g3] at h2
  rw [g4] at h0 h3
  obtain ⟨rfl, rfl⟩ := absO_some h2
  exact ⟨v', a, c, h0, h3⟩
theorem tkVal {k i : Int} {s : List UInt8} {xs : List El} (hf : FormedP k i s xs) (hz : ∀ e ∈ xs, e.n = 0) (hI : InR i xs) (hM : (valB k i s xs ++ R).length ≤ 1000000000) :
    FnO Try.prog w0 22 [.pointer (some ⟨g, 0, none⟩)] (inL g false v (valB k i s xs ++ R) F) (fun r l' => ∃ v' a c, r = .agg #[.int .i64 k, .int .i64 i, .string (strB s), .slice a (xs0 xs).length c] ∧ l' = own 29 4 (.slice a (xs0 xs).length c) (xs0 xs).length ((xs0 xs).flatMap ecl) :: inL g false v' R F) := by
  obtain ⟨d1, d2, d3, d4, d5⟩ := dec_complete (R := R) hf hI
  refine (inVal_ok' (bad := false) hM).mono fun r l' h => ?_
  rw [show absO false (valB k i s xs ++ R) = some (valB k i s xs ++ R) from rfl] at h
  rcases h with ⟨v', M', a, c, h1, h2, h3, h4, h5⟩ | ⟨v', M', h1, h2, h3, h4⟩
  · rw [d1] at h2
    obtain rfl := Option.some.inj h2
    rw [d2, d3, d4, d5] at h4
    rw [d5] at h5
    exact ⟨v', a, c, h4, h5⟩
  · rcases h2 with h2 | h2
    · rw [d1] at h2; cases h2
    · exact absurd (by unfold Vv.Formed; rw [d2, d3, d4, d5]; exact formed0_iff hz hf) h2
end Go.Proofs.E

-- seat e
namespace Go.Proofs.E
open Go Go.Gp Go.RowKit

/-- The bytes of parts, if they can be. -/
noncomputable def allF (o : Option (List UInt8)) (ps : List Pa) : Option (List UInt8) := ps.foldl (fun o p => (partB p).bind (putO o)) o
theorem putO_le {o : Option (List UInt8)} {b r : List UInt8} (h : putO o b = some r) : r.length ≤ 4096 := by
  cases o with
  | none => cases h
  | some L =>
    simp only [putO, Option.bind_some] at h
    split at h
    · obtain rfl := Option.some.inj h
      rw [List.length_append]; omega
    · cases h
theorem allF_none {ps : List Pa} : allF none ps = none := by
  induction ps with
  | nil => rfl
  | cons p ps ih =>
    rw [allF, List.foldl_cons, show (partB p).bind (putO none) = none by cases partB p <;> rfl]
    exact ih
theorem allF_take {ps : List Pa} {j : Nat} {p : Pa} {o : Option (List UInt8)} (hp : ps[j]? = some p) : allF o (ps.take (j + 1)) = (partB p).bind (putO (allF o (ps.take j))) := by
  rw [List.take_add_one, hp, Option.toList_some, allF, List.foldl_append]; rfl
theorem allF_fail {ps : List Pa} {j : Nat} {o : Option (List UInt8)} (h : allF o (ps.take j) = none) : allF o ps = none := by
  rw [show ps = ps.take j ++ ps.drop j from (List.take_append_drop j ps).symm, allF, List.foldl_append]
  have h2 : List.foldl (fun o p => (partB p).bind (putO o)) o (ps.take j) = none := h
  rw [h2]
  exact allF_none
theorem partB_le {p : Pa} {bs : List UInt8} (ht : p.t.length ≤ 5000) (h : partB p = some bs) : bs.length ≤ 9000 := by
  unfold partB at h
  repeat' split at h
  all_goals first | (cases h; done) | obtain rfl := Option.some.inj h
  all_goals first | (rw [be_length]; omega) | (rw [List.length_append, be_length]; omega) | (simp; done) | omega | (have := valB_le (by assumption); omega)
theorem bytes_ok' {w0 : World} {F : List HProp} {p : Pa} (hk : 0 ≤ p.kd ∧ p.kd ≤ 255) (ht : p.t.length ≤ 5000) (hx : ∀ e ∈ p.u.xs, e.ok) (hn : p.u.xs.length ≤ 9223372036854775807) (hN : -9223372036854775808 ≤ p.n ∧ p.n ≤ 9223372036854775807) (hr : RdO w0 F (.slice p.u.a p.u.xs.length p.u.c) p.u.xs.length (p.u.xs.flatMap ecl)) :
    FnO Try.prog w0 54 [.agg (pac p).toArray] F (fun r l' => (∃ bs a c H, partB p = some bs ∧ bs.length ≤ 9000 ∧ r = .tuple #[.slice a bs.length c, .bool true] ∧ l' = H :: F ∧ ∀ l, RdO w0 (H :: l) (.slice a bs.length c) bs.length (bcells bs)) ∨ (partB p = none ∧ ∃ v, r = .tuple #[v, .bool false] ∧ l' = F)) :=
  (bytes_ok hk ht hx hn hN hr).mono fun r l' h => by
    rcases h with ⟨bs, a, c, H, h1, h2⟩ | h
    · exact .inl ⟨bs, a, c, H, h1, partB_le ht h1, h2⟩
    · exact .inr h
theorem all_ok {w0 : World} {F : List HProp} {a : Option Addr} {c : Nat} {ps : List Pa} (hn : ps.length ≤ 9223372036854775807) (hk : ∀ p ∈ ps, 0 ≤ p.kd ∧ p.kd ≤ 255) (hN : ∀ p ∈ ps, -9223372036854775808 ≤ p.n ∧ p.n ≤ 9223372036854775807) (hf : ∀ p ∈ ps, FewP p) (hr : RdO w0 F (.slice a ps.length c) ps.length (ps.flatMap pac)) (hin : ∀ p ∈ ps, RdO w0 F (.slice p.u.a p.u.xs.length p.u.c) p.u.xs.length (p.u.xs.flatMap ecl)) :
    FnO Try.prog w0 24 [.slice a ps.length c] F (fun r l' => (∃ bs a c, allF (some []) ps = some bs ∧ bs.length ≤ 4096 ∧ r = .tuple #[.slice a bs.length c, .bool true] ∧ l' = own 5 1 (.slice a bs.length c) bs.length (bcells bs) :: F) ∨ (allF (some []) ps = none ∧ r = .tuple #[.slice none 0 0, .bool false] ∧ l' = F)) := by
  have hlen : ∀ p ∈ ps, (pac p).length = 7 := fun _ _ => rfl
  refine FnO.rdF (fun _ h => h) hr fun hr1 => ?_
  refine FnO.weak ?_
  refine FnO.intro (n := 36) Try.func24 rfl rfl rfl ?_
  refine J.seq ?_
  refine J.region ?_
  refine JL.pure rfl rfl (OpP.assign rfl) ?_
  refine JL.pure rfl rfl (OpP.assign rfl) ?_
  refine JL.nil ?_
  refine J.seq ?_
  refine J.region ?_
  refine JL.pure rfl rfl (OpP.assign rfl) ?_
  refine JL.nil ?_
  refine J.seq ?_
  refine J.seq ?_
  refine J.region ?_
  refine JL.pure rfl rfl (OpP.assign rfl) ?_
  refine JL.nil ?_
  refine J.block ?_
  refine J.loopI (fun x : Nat × Value × List UInt8 => ps.length - x.1) (fun x => x.1 ≤ ps.length ∧ x.2.2.length ≤ 4096 ∧ allF (some []) (ps.take x.1) = some x.2.2 ∧ ∃ a c, x.2.1 = .slice a x.2.2.length c) (fun x => [(5, .int .i64 (x.1 : Nat)), (4, x.2.1), (0, .slice a ps.length c)])
    (fun x => own 5 1 x.2.1 x.2.2.length (bcells x.2.2) :: F) (0, .slice none 0 0, []) ⟨Nat.zero_le _, Nat.zero_le _, rfl, none, 0, rfl⟩ (by repeat (first | exact SubEnv.nil | refine SubEnv.cons (by first | rfl | exact congrArg (fun z => some (Value.int .i64 z)) (by omega) | (simp; done)) ?_)) (fun _ h => h.own_nil) (fun ⟨j, u, L⟩ hi back => ?_)
  dsimp only at hi back ⊢
  obtain ⟨hj, hL, hall, av, cv, rfl⟩ := hi
  by_cases hlt : j < ps.length
  · obtain ⟨p, hp⟩ : ∃ e, ps[j]? = some e := ⟨_, List.getElem?_eq_getElem hlt⟩
    have hpm := List.mem_of_getElem? hp
    obtain ⟨hf1, hf2⟩ := hf p hpm
    obtain ⟨hx, hx2, _⟩ := few_okE hf2
    have hx3 : p.u.xs.length ≤ 9223372036854775807 := Nat.le_trans hx2 (by decide)
    have hnext := allF_take (o := some []) hp
    rw [hall] at hnext
    have pb := bytes_ok' (w0 := w0) (F := own 5 1 (.slice av L.length cv) L.length (bcells L) :: F) (p := p) (hk p hpm) hf1 hx hx3 (hN p hpm) (hin p hpm).sub
    obtain ⟨ga, pa, qa, ea, ka, hcs⟩ := hr1.pos (by omega)
    cases ea
    refine J.seq ?_
    refine J.seq ?_
    refine J.region ?_
    refine JL.pure rfl rfl (OpP.move rfl) ?_
    refine JL.pure rfl rfl (OpP.move rfl) ?_
    refine JL.pure rfl rfl (OpP.len rfl rfl) ?_
    refine JL.decT rfl rfl (OpP.lss rfl rfl) (by omega) ?_
    refine JL.nil ?_
    refine J.condT rfl ?_
    refine J.skip ?_
    refine J.seq ?_
    refine J.block ?_
    refine J.seq ?_
    refine J.region ?_
    refine JL.pure rfl rfl (OpP.move rfl) ?_
    refine JL.pure rfl rfl (OpP.move rfl) ?_
    refine JL.pure rfl rfl (OpP.indexAddr rfl rfl (by omega) (by omega)) ?_
    refine JL.read rfl rfl (OpR.loadN rfl (by apply Cells.conv (fun _ h => Own.pick (pre := [_]) [] rfl h); apply Cells.chunkAt hcs; (case' h => assumption); (case' hi => assumption); done) (by first | rfl | assumption)) ?_
    refine JL.step rfl rfl (OpW.call (first := []) (captured := []) inferInstance rfl rfl pb) ?_; rintro r19 _ (⟨bs, ⟨a, ⟨c1, ⟨H, ⟨h19, ⟨h191, ⟨rfl, ⟨rfl, h192⟩⟩⟩⟩⟩⟩⟩⟩ | ⟨h193, ⟨v, ⟨rfl, rfl⟩⟩⟩)
    focus
      refine JL.pure rfl rfl (OpP.move rfl) ?_
      refine JL.pure rfl rfl (OpP.extract rfl rfl) ?_
      refine JL.pure rfl rfl (OpP.extract rfl rfl) ?_
      refine JL.pure rfl rfl (OpP.assign rfl) ?_
      refine JL.pure rfl rfl (OpP.assign rfl) ?_
      refine JL.nil ?_
      refine J.seq ?_
      refine J.seq ?_
      refine J.region ?_
      refine JL.pure rfl rfl (OpP.move rfl) ?_
      refine JL.pure rfl rfl (OpP.notB rfl) ?_
      refine JL.pure rfl rfl (OpP.move rfl) ?_
      refine JL.pure rfl rfl (OpP.move rfl) ?_
      refine JL.pure rfl rfl (OpP.len rfl rfl) ?_
      refine JL.pure rfl rfl (OpP.move rfl) ?_
      refine JL.pure rfl rfl (OpP.len rfl rfl) ?_
      refine JL.pure rfl rfl (OpP.addI rfl rfl (by omega) (by omega)) ?_
      refine JL.dec rfl rfl (OpP.gtr rfl rfl) (fun h30 => ?_) (fun h30 => ?_)
      focus
        refine JL.pure rfl rfl (OpP.pickF rfl rfl) ?_
        refine JL.nil ?_
        refine J.condT rfl ?_
        refine J.seq ?_
        refine J.region ?_
        refine JL.pure rfl rfl (OpP.assign rfl) ?_
        refine JL.pure rfl rfl (OpP.assign rfl) ?_
        refine JL.nil ?_
        refine J.ret2 rfl rfl rfl ?_
      rotate_left 1
      focus
        refine JL.pure rfl rfl (OpP.pickF rfl rfl) ?_
        refine JL.nil ?_
        refine J.condF rfl ?_
        refine J.skip ?_
      rotate_left 1
    rotate_left 2
    focus
      refine JL.pure rfl rfl (OpP.move rfl) ?_
      refine JL.pure rfl rfl (OpP.extract rfl rfl) ?_
      refine JL.pure rfl rfl (OpP.extract rfl rfl) ?_
      refine JL.pure rfl rfl (OpP.assign rfl) ?_
      refine JL.pure rfl rfl (OpP.assign rfl) ?_
      refine JL.nil ?_
      refine J.seq ?_
      refine J.seq ?_
      refine J.region ?_
      refine JL.pure rfl rfl (OpP.move rfl) ?_
      refine JL.pure rfl rfl (OpP.notB rfl) ?_
      refine JL.pure rfl rfl (OpP.move rfl) ?_
      refine JL.skip rfl rfl ?_
      refine JL.skip rfl rfl ?_
      refine JL.skip rfl rfl ?_
      refine JL.skip rfl rfl ?_
      refine JL.skip rfl rfl ?_
      refine JL.skip rfl rfl ?_
      refine JL.pure rfl rfl (OpP.pickT rfl rfl) ?_
      refine JL.nil ?_
      refine J.condT rfl ?_
      refine J.seq ?_
      refine J.region ?_
      refine JL.pure rfl rfl (OpP.assign rfl) ?_
      refine JL.pure rfl rfl (OpP.assign rfl) ?_
      refine JL.nil ?_
      refine J.ret2 rfl rfl rfl ?_
    rotate_left 1
    · rw [h19, show (some bs).bind (putO (some L)) = none by simp only [Option.bind_some, putO]; rw [if_neg (by omega)]] at hnext
      exact ⟨_, .inr ⟨allF_fail hnext, rfl, rfl⟩, fun _ h => h.tail.tail⟩
    · rw [h19, show (some bs).bind (putO (some L)) = some (L ++ bs) by simp only [Option.bind_some, putO]; rw [if_pos (by omega)]] at hnext
      refine J.conv (l' := own 5 1 (.slice av L.length cv) L.length (bcells L) :: H :: F) (fun _ h => Own.pick (pre := [_, _]) [1, 0] rfl h) ?_
      have hq := h192 F
      have hbl : (bcells bs).length = bs.length * 1 := by rw [bcells_length, Nat.mul_one]
      refine J.region ?_
      refine JL.pure rfl rfl (OpP.move rfl) ?_
      refine JL.pure rfl rfl (OpP.move rfl) ?_
      refine JL.mem rfl rfl (OpM.appendH rfl (.inl ⟨_, Sl.und inferInstance⟩) (by rfl) rfl rfl (RdO.src (hq.conv fun _ h => Own.pick (pre := [_, _]) [1] rfl h) (by first | assumption | exact fc_length _ _ | (simp; done) | (simp; omega))) (by first | exact bcells_one _ | exact scells_one _ | exact icells_one _ | assumption | exact fc_one fun _ => rfl) (by simp only [maxLen]; omega) (by omega)) ?_; rintro _ _ ⟨⟨a34, c34, rfl⟩, rfl⟩
      refine JL.pure rfl rfl (OpP.assign rfl) ?_
      refine JL.nil ?_
      refine J.inBlock ?_
      refine J.region ?_
      refine JL.pure rfl rfl (OpP.move rfl) ?_
      refine JL.pure rfl rfl (OpP.addI rfl rfl (by omega) (by omega)) ?_
      refine JL.pure rfl rfl (OpP.assign rfl) ?_
      refine JL.nil ?_
      refine back (j + 1, .slice a34 (L.length + bs.length) c34, L ++ bs) ⟨by dsimp only; omega, by dsimp only; rw [List.length_append]; omega, hnext, _, _, by dsimp only; rw [List.length_append]⟩ (by dsimp only; omega) (by repeat (first | exact SubEnv.nil | refine SubEnv.cons (by first | rfl | exact congrArg (fun z => some (Value.int .i64 z)) (by omega) | (simp; done)) ?_)) (fun _ h => ?_)
      dsimp only
      rw [List.length_append, bcells_app]
      exact Own.pick (pre := [_, _]) [0] rfl h
    · rw [h193, show (none : Option (List UInt8)).bind (putO (some L)) = none from rfl] at hnext
      exact ⟨_, .inr ⟨allF_fail hnext, rfl, rfl⟩, fun _ h => h.tail⟩
  · have : j = ps.length := by omega
    subst this
    rw [List.take_length] at hall
    refine J.seq ?_
    refine J.seq ?_
    refine J.region ?_
    refine JL.pure rfl rfl (OpP.move rfl) ?_
    refine JL.pure rfl rfl (OpP.move rfl) ?_
    refine JL.pure rfl rfl (OpP.len rfl rfl) ?_
    refine JL.decF rfl rfl (OpP.lss rfl rfl) (by omega) ?_
    refine JL.nil ?_
    refine J.condF rfl ?_
    refine J.exit rfl ?_
    refine J.seq ?_
    refine J.region ?_
    refine JL.pure rfl rfl (OpP.move rfl) ?_
    refine JL.pure rfl rfl (OpP.assign rfl) ?_
    refine JL.pure rfl rfl (OpP.assign rfl) ?_
    refine JL.nil ?_
    refine J.ret2 rfl rfl rfl ?_
    exact ⟨_, .inl ⟨L, av, cv, hall, hL, rfl, rfl⟩, fun _ h => h⟩
end Go.Proofs.E

-- seat e
namespace Go.Proofs.E
open Go Go.Gp Go.RowKit

theorem tkFlag1 {w0 : World} {F : List HProp} {g : Nat} {v : Value} {R : List UInt8} (hM : ([(1 : UInt8)] ++ R).length ≤ 1000000000) : TookV w0 19 [.pointer (some ⟨g, 0, none⟩)] g v ([(1 : UInt8)] ++ R) F R (.bool true) := tkFlag (q := True) hM
theorem tkFlag0 {w0 : World} {F : List HProp} {g : Nat} {v : Value} {R : List UInt8} (hM : ([(0 : UInt8)] ++ R).length ≤ 1000000000) : TookV w0 19 [.pointer (some ⟨g, 0, none⟩)] g v ([(0 : UInt8)] ++ R) F R (.bool false) := tkFlag (q := False) hM
theorem took_ok {w0 : World} {F : List HProp} {g : Nat} {v : Value} {p : Pa} {bs R : List UInt8} (hM : (bs ++ R).length ≤ 1000000000) (hb : partB p = some bs) (hk : 0 ≤ p.kd ∧ p.kd ≤ 255) (hN : -9223372036854775808 ≤ p.n ∧ p.n ≤ 9223372036854775807) (hI : InR p.u.i p.u.xs) (hx : ∀ e ∈ p.u.xs, e.ok) (hz : ∀ e ∈ p.u.xs, e.n = 0) (hn : p.u.xs.length ≤ 9223372036854775807) (hr : RdO w0 F (.slice p.u.a p.u.xs.length p.u.c) p.u.xs.length (p.u.xs.flatMap ecl)) :
    FnO Try.prog w0 34 [.pointer (some ⟨g, 0, none⟩), .agg (pac p).toArray] (inL g false v (bs ++ R) F) (fun r l' => r = .bool true ∧ ∃ v', l' = inL g false v' R F) := by
  have es := strB_size p.t
  refine FnO.weak ?_
  refine FnO.intro (n := 69) Try.func34 rfl rfl rfl ?_
  refine J.lit (.tail .head) fun av cv ev => ?_; subst ev
  refine J.seq ?_
  refine J.region ?_
  refine JL.mem rfl rfl (OpM.box rfl rfl) ?_; rintro _ _ ⟨b3, rfl, rfl⟩
  refine JL.pure rfl rfl (OpP.assign rfl) ?_
  refine JL.nil ?_
  refine J.seq ?_
  refine J.conv (l' := inL g false _ (bs ++ R) (row b3 31 (pac p) :: F)) (fun _ h => Own.pick (pre := [_, _, _]) [1, 2, 0] rfl h) ?_
  by_cases h0 : p.kd % 8 = 0
  · have hb' : partB p = (if p.n < 0 ∨ 256 ^ 1 ≤ p.n then none else some (be p.n.toNat 1)) := by rw [partB, if_pos h0]
    rw [hb'] at hb
    split at hb
    · cases hb
    obtain rfl := Option.some.inj hb
    clear hr
    refine J.seq ?_
    refine J.region ?_
    refine JL.pure rfl rfl (OpP.fieldAddr rfl) ?_
    refine JL.read rfl rfl (OpR.load1 rfl (Cell.row (.tail (.tail .head)) rfl)) ?_
    refine JL.pure rfl rfl (OpP.remI rfl rfl (by first | omega | exact Int.natCast_nonneg _) (by omega)) ?_
    refine JL.nil ?_
    refine J.block ?_
    refine J.seq ?_
    refine J.region ?_
    refine JL.decT rfl rfl (OpP.eql rfl rfl) (by omega) ?_
    refine JL.pure rfl rfl (OpP.assign rfl) ?_
    refine JL.nil ?_
    refine J.condT rfl ?_
    refine J.seq ?_
    refine J.regionDC (cl := row b3 31 (pac p) :: F) [3] (by kernel_rfl) ?_
    refine DL.pure (i := 0) (by kernel_rfl) (by kernel_rfl) rfl rfl rfl (OpP.move rfl) ?_
    refine DL.pure (i := 2) (by kernel_rfl) (by kernel_rfl) rfl rfl rfl (OpP.fieldAddr rfl) ?_
    refine DL.read (i := 3) (by kernel_rfl) (by kernel_rfl) rfl rfl rfl (fun _ h => Own.pick (pre := [_, _, _]) [2] rfl h) (OpR.load1 rfl (Cell.row .head rfl)) ?_
    refine DL.only (i := 1) (by kernel_rfl) ?_
    refine DL1.stepK rfl rfl rfl (by exact OpW.call (first := []) (captured := []) inferInstance rfl rfl (tkU8 (by omega) (by omega) hM)) (by rintro _ _ ⟨rfl, ⟨v', rfl⟩⟩ _ h; exact Own.pick (pre := [_, _, _]) [2] rfl h) ?_; rintro r11 _ ⟨rfl, ⟨v', rfl⟩⟩
    refine DL.lit (.tail .head) fun av' cv' ev' => ?_; subst ev'
    refine DL.decT (i := 4) (by kernel_rfl) (by kernel_rfl) rfl rfl rfl (OpP.eql rfl rfl) (by omega) ?_
    refine DL.pure (i := 5) (by kernel_rfl) (by kernel_rfl) rfl rfl rfl (OpP.assign rfl) ?_
    refine DL.done (by kernel_rfl) ?_
    refine J.ret1 rfl rfl ?_
    exact ⟨_, ⟨rfl, _, rfl⟩, fun _ h => Own.pick (pre := [_, _, _]) [0, 1] rfl h⟩
  by_cases h1 : p.kd % 8 = 1
  · have hb' : partB p = (if p.n < 0 ∨ 256 ^ 2 ≤ p.n then none else some (be p.n.toNat 2)) := by rw [partB, if_neg h0, if_pos h1]
    rw [hb'] at hb
    split at hb
    · cases hb
    obtain rfl := Option.some.inj hb
    clear hr
    refine J.seq ?_
    refine J.region ?_
    refine JL.pure rfl rfl (OpP.fieldAddr rfl) ?_
    refine JL.read rfl rfl (OpR.load1 rfl (Cell.row (.tail (.tail .head)) rfl)) ?_
    refine JL.pure rfl rfl (OpP.remI rfl rfl (by first | omega | exact Int.natCast_nonneg _) (by omega)) ?_
    refine JL.nil ?_
    refine J.block ?_
    refine J.seq ?_
    refine J.region ?_
    refine JL.decF rfl rfl (OpP.eql rfl rfl) (by omega) ?_
    refine JL.pure rfl rfl (OpP.assign rfl) ?_
    refine JL.nil ?_
    refine J.condF rfl ?_
    refine J.seq ?_
    refine J.region ?_
    refine JL.decT rfl rfl (OpP.eql rfl rfl) (by omega) ?_
    refine JL.pure rfl rfl (OpP.assign rfl) ?_
    refine JL.nil ?_
    refine J.condT rfl ?_
    refine J.seq ?_
    refine J.regionDC (cl := row b3 31 (pac p) :: F) [3] (by kernel_rfl) ?_
    refine DL.pure (i := 0) (by kernel_rfl) (by kernel_rfl) rfl rfl rfl (OpP.move rfl) ?_
    refine DL.pure (i := 2) (by kernel_rfl) (by kernel_rfl) rfl rfl rfl (OpP.fieldAddr rfl) ?_
    refine DL.read (i := 3) (by kernel_rfl) (by kernel_rfl) rfl rfl rfl (fun _ h => Own.pick (pre := [_, _, _]) [2] rfl h) (OpR.load1 rfl (Cell.row .head rfl)) ?_
    refine DL.only (i := 1) (by kernel_rfl) ?_
    refine DL1.stepK rfl rfl rfl (by exact OpW.call (first := []) (captured := []) inferInstance rfl rfl (tkU16 (by omega) (by omega) hM)) (by rintro _ _ ⟨rfl, ⟨v', rfl⟩⟩ _ h; exact Own.pick (pre := [_, _, _]) [2] rfl h) ?_; rintro r18 _ ⟨rfl, ⟨v', rfl⟩⟩
    refine DL.lit (.tail .head) fun av' cv' ev' => ?_; subst ev'
    refine DL.decT (i := 4) (by kernel_rfl) (by kernel_rfl) rfl rfl rfl (OpP.eql rfl rfl) (by omega) ?_
    refine DL.pure (i := 5) (by kernel_rfl) (by kernel_rfl) rfl rfl rfl (OpP.assign rfl) ?_
    refine DL.done (by kernel_rfl) ?_
    refine J.ret1 rfl rfl ?_
    exact ⟨_, ⟨rfl, _, rfl⟩, fun _ h => Own.pick (pre := [_, _, _]) [0, 1] rfl h⟩
  by_cases h2 : p.kd % 8 = 2
  · have hb' : partB p = (if p.n < 0 ∨ 256 ^ 4 ≤ p.n then none else some (be p.n.toNat 4)) := by rw [partB, if_neg h0, if_neg h1, if_pos h2]
    rw [hb'] at hb
    split at hb
    · cases hb
    obtain rfl := Option.some.inj hb
    clear hr
    refine J.seq ?_
    refine J.region ?_
    refine JL.pure rfl rfl (OpP.fieldAddr rfl) ?_
    refine JL.read rfl rfl (OpR.load1 rfl (Cell.row (.tail (.tail .head)) rfl)) ?_
    refine JL.pure rfl rfl (OpP.remI rfl rfl (by first | omega | exact Int.natCast_nonneg _) (by omega)) ?_
    refine JL.nil ?_
    refine J.block ?_
    refine J.seq ?_
    refine J.region ?_
    refine JL.decF rfl rfl (OpP.eql rfl rfl) (by omega) ?_
    refine JL.pure rfl rfl (OpP.assign rfl) ?_
    refine JL.nil ?_
    refine J.condF rfl ?_
    refine J.seq ?_
    refine J.region ?_
    refine JL.decF rfl rfl (OpP.eql rfl rfl) (by omega) ?_
    refine JL.pure rfl rfl (OpP.assign rfl) ?_
    refine JL.nil ?_
    refine J.condF rfl ?_
    refine J.seq ?_
    refine J.region ?_
    refine JL.decT rfl rfl (OpP.eql rfl rfl) (by omega) ?_
    refine JL.pure rfl rfl (OpP.assign rfl) ?_
    refine JL.nil ?_
    refine J.condT rfl ?_
    refine J.seq ?_
    refine J.regionDC (cl := row b3 31 (pac p) :: F) [3] (by kernel_rfl) ?_
    refine DL.pure (i := 0) (by kernel_rfl) (by kernel_rfl) rfl rfl rfl (OpP.move rfl) ?_
    refine DL.pure (i := 2) (by kernel_rfl) (by kernel_rfl) rfl rfl rfl (OpP.fieldAddr rfl) ?_
    refine DL.read (i := 3) (by kernel_rfl) (by kernel_rfl) rfl rfl rfl (fun _ h => Own.pick (pre := [_, _, _]) [2] rfl h) (OpR.load1 rfl (Cell.row .head rfl)) ?_
    refine DL.only (i := 1) (by kernel_rfl) ?_
    refine DL1.stepK rfl rfl rfl (by exact OpW.call (first := []) (captured := []) inferInstance rfl rfl (tkU32 (by omega) (by omega) hM)) (by rintro _ _ ⟨rfl, ⟨v', rfl⟩⟩ _ h; exact Own.pick (pre := [_, _, _]) [2] rfl h) ?_; rintro r25 _ ⟨rfl, ⟨v', rfl⟩⟩
    refine DL.lit (.tail .head) fun av' cv' ev' => ?_; subst ev'
    refine DL.decT (i := 4) (by kernel_rfl) (by kernel_rfl) rfl rfl rfl (OpP.eql rfl rfl) (by omega) ?_
    refine DL.pure (i := 5) (by kernel_rfl) (by kernel_rfl) rfl rfl rfl (OpP.assign rfl) ?_
    refine DL.done (by kernel_rfl) ?_
    refine J.ret1 rfl rfl ?_
    exact ⟨_, ⟨rfl, _, rfl⟩, fun _ h => Own.pick (pre := [_, _, _]) [0, 1] rfl h⟩
  by_cases h3 : p.kd % 8 = 3
  · have hb' : partB p = some (be (u64 p.n) 8) := by rw [partB, if_neg h0, if_neg h1, if_neg h2, if_pos h3]
    rw [hb'] at hb
    obtain rfl := Option.some.inj hb
    clear hr
    refine J.seq ?_
    refine J.region ?_
    refine JL.pure rfl rfl (OpP.fieldAddr rfl) ?_
    refine JL.read rfl rfl (OpR.load1 rfl (Cell.row (.tail (.tail .head)) rfl)) ?_
    refine JL.pure rfl rfl (OpP.remI rfl rfl (by first | omega | exact Int.natCast_nonneg _) (by omega)) ?_
    refine JL.nil ?_
    refine J.block ?_
    refine J.seq ?_
    refine J.region ?_
    refine JL.decF rfl rfl (OpP.eql rfl rfl) (by omega) ?_
    refine JL.pure rfl rfl (OpP.assign rfl) ?_
    refine JL.nil ?_
    refine J.condF rfl ?_
    refine J.seq ?_
    refine J.region ?_
    refine JL.decF rfl rfl (OpP.eql rfl rfl) (by omega) ?_
    refine JL.pure rfl rfl (OpP.assign rfl) ?_
    refine JL.nil ?_
    refine J.condF rfl ?_
    refine J.seq ?_
    refine J.region ?_
    refine JL.decF rfl rfl (OpP.eql rfl rfl) (by omega) ?_
    refine JL.pure rfl rfl (OpP.assign rfl) ?_
    refine JL.nil ?_
    refine J.condF rfl ?_
    refine J.seq ?_
    refine J.region ?_
    refine JL.decT rfl rfl (OpP.eql rfl rfl) (by omega) ?_
    refine JL.pure rfl rfl (OpP.assign rfl) ?_
    refine JL.nil ?_
    refine J.condT rfl ?_
    refine J.seq ?_
    refine J.regionDC (cl := row b3 31 (pac p) :: F) [3] (by kernel_rfl) ?_
    refine DL.pure (i := 0) (by kernel_rfl) (by kernel_rfl) rfl rfl rfl (OpP.move rfl) ?_
    refine DL.pure (i := 2) (by kernel_rfl) (by kernel_rfl) rfl rfl rfl (OpP.fieldAddr rfl) ?_
    refine DL.read (i := 3) (by kernel_rfl) (by kernel_rfl) rfl rfl rfl (fun _ h => Own.pick (pre := [_, _, _]) [2] rfl h) (OpR.load1 rfl (Cell.row .head rfl)) ?_
    refine DL.only (i := 1) (by kernel_rfl) ?_
    refine DL1.stepK rfl rfl rfl (by exact OpW.call (first := []) (captured := []) inferInstance rfl rfl (tkI64 (by omega) (by omega) hM)) (by rintro _ _ ⟨rfl, ⟨v', rfl⟩⟩ _ h; exact Own.pick (pre := [_, _, _]) [2] rfl h) ?_; rintro r32 _ ⟨rfl, ⟨v', rfl⟩⟩
    refine DL.lit (.tail .head) fun av' cv' ev' => ?_; subst ev'
    refine DL.decT (i := 4) (by kernel_rfl) (by kernel_rfl) rfl rfl rfl (OpP.eql rfl rfl) (by omega) ?_
    refine DL.pure (i := 5) (by kernel_rfl) (by kernel_rfl) rfl rfl rfl (OpP.assign rfl) ?_
    refine DL.done (by kernel_rfl) ?_
    refine J.ret1 rfl rfl ?_
    exact ⟨_, ⟨rfl, _, rfl⟩, fun _ h => Own.pick (pre := [_, _, _]) [0, 1] rfl h⟩
  by_cases h4 : p.kd % 8 = 4
  · have hb' : partB p = some [if u64 p.n % 2 = 1 then 1 else 0] := by rw [partB, if_neg h0, if_neg h1, if_neg h2, if_neg h3, if_pos h4]
    rw [hb'] at hb
    obtain rfl := Option.some.inj hb
    clear hr
    by_cases ho : u64 p.n % 2 = 1
    · rw [if_pos ho] at hM ⊢
      have pb := fun v => tkFlag1 (w0 := w0) (F := row b3 31 (pac p) :: F) (g := g) (v := v) hM
      refine J.seq ?_
      refine J.region ?_
      refine JL.pure rfl rfl (OpP.fieldAddr rfl) ?_
      refine JL.read rfl rfl (OpR.load1 rfl (Cell.row (.tail (.tail .head)) rfl)) ?_
      refine JL.pure rfl rfl (OpP.remI rfl rfl (by first | omega | exact Int.natCast_nonneg _) (by omega)) ?_
      refine JL.nil ?_
      refine J.block ?_
      refine J.seq ?_
      refine J.region ?_
      refine JL.decF rfl rfl (OpP.eql rfl rfl) (by omega) ?_
      refine JL.pure rfl rfl (OpP.assign rfl) ?_
      refine JL.nil ?_
      refine J.condF rfl ?_
      refine J.seq ?_
      refine J.region ?_
      refine JL.decF rfl rfl (OpP.eql rfl rfl) (by omega) ?_
      refine JL.pure rfl rfl (OpP.assign rfl) ?_
      refine JL.nil ?_
      refine J.condF rfl ?_
      refine J.seq ?_
      refine J.region ?_
      refine JL.decF rfl rfl (OpP.eql rfl rfl) (by omega) ?_
      refine JL.pure rfl rfl (OpP.assign rfl) ?_
      refine JL.nil ?_
      refine J.condF rfl ?_
      refine J.seq ?_
      refine J.region ?_
      refine JL.decF rfl rfl (OpP.eql rfl rfl) (by omega) ?_
      refine JL.pure rfl rfl (OpP.assign rfl) ?_
      refine JL.nil ?_
      refine J.condF rfl ?_
      refine J.seq ?_
      refine J.region ?_
      refine JL.decT rfl rfl (OpP.eql rfl rfl) (by omega) ?_
      refine JL.pure rfl rfl (OpP.assign rfl) ?_
      refine JL.nil ?_
      refine J.condT rfl ?_
      refine J.seq ?_
      refine J.regionDC (cl := row b3 31 (pac p) :: F) [3] (by kernel_rfl) ?_
      refine DL.pure (i := 0) (by kernel_rfl) (by kernel_rfl) rfl rfl rfl (OpP.move rfl) ?_
      refine DL.pure (i := 2) (by kernel_rfl) (by kernel_rfl) rfl rfl rfl (OpP.fieldAddr rfl) ?_
      refine DL.read (i := 3) (by kernel_rfl) (by kernel_rfl) rfl rfl rfl (fun _ h => Own.pick (pre := [_, _, _]) [2] rfl h) (OpR.load1 rfl (Cell.row .head rfl)) ?_
      refine DL.pure (i := 4) (by kernel_rfl) (by kernel_rfl) rfl rfl rfl (OpP.conv rfl) ?_
      refine DL.pure (i := 5) (by kernel_rfl) (by kernel_rfl) rfl rfl rfl (OpP.rem rfl rfl (by omega)) ?_
      refine DL.dec (i := 6) (by kernel_rfl) (by kernel_rfl) rfl rfl rfl (OpP.eql rfl rfl) (fun h44 => ?_) (fun h44 => ?_)
      focus
        refine DL.only (i := 1) (by kernel_rfl) ?_
        refine DL1.stepK rfl rfl rfl (by exact OpW.call (first := []) (captured := []) inferInstance rfl rfl (pb _)) (by rintro _ _ ⟨rfl, ⟨v', rfl⟩⟩ _ h; exact Own.pick (pre := [_, _, _]) [2] rfl h) ?_; rintro r39 _ ⟨rfl, ⟨v', rfl⟩⟩
        refine DL.lit (.tail .head) fun av' cv' ev' => ?_; subst ev'
        refine DL.decT (i := 7) (by kernel_rfl) (by kernel_rfl) rfl rfl rfl (OpP.eqBool rfl rfl) (by decide) ?_
        refine DL.pure (i := 8) (by kernel_rfl) (by kernel_rfl) rfl rfl rfl (OpP.assign rfl) ?_
        refine DL.done (by kernel_rfl) ?_
        refine J.ret1 rfl rfl ?_
      rotate_left 1
      focus
        refine DL.only (i := 1) (by kernel_rfl) ?_
        refine DL1.stepK rfl rfl rfl (by exact OpW.call (first := []) (captured := []) inferInstance rfl rfl (pb _)) (by rintro _ _ ⟨rfl, ⟨v', rfl⟩⟩ _ h; exact Own.pick (pre := [_, _, _]) [2] rfl h) ?_; rintro r39 _ ⟨rfl, ⟨v', rfl⟩⟩
        refine DL.lit (.tail .head) fun av' cv' ev' => ?_; subst ev'
        refine DL.decF (i := 7) (by kernel_rfl) (by kernel_rfl) rfl rfl rfl (OpP.eqBool rfl rfl) (by decide) ?_
        refine DL.pure (i := 8) (by kernel_rfl) (by kernel_rfl) rfl rfl rfl (OpP.assign rfl) ?_
        refine DL.done (by kernel_rfl) ?_
        refine J.ret1 rfl rfl ?_
      rotate_left 1
      · exact ⟨_, ⟨rfl, _, rfl⟩, fun _ h => Own.pick (pre := [_, _, _]) [0, 1] rfl h⟩
      · exact absurd (odd_iff.2 ho) h44
    · rw [if_neg ho] at hM ⊢
      have pb := fun v => tkFlag0 (w0 := w0) (F := row b3 31 (pac p) :: F) (g := g) (v := v) hM
      refine J.seq ?_
      refine J.region ?_
      refine JL.pure rfl rfl (OpP.fieldAddr rfl) ?_
      refine JL.read rfl rfl (OpR.load1 rfl (Cell.row (.tail (.tail .head)) rfl)) ?_
      refine JL.pure rfl rfl (OpP.remI rfl rfl (by first | omega | exact Int.natCast_nonneg _) (by omega)) ?_
      refine JL.nil ?_
      refine J.block ?_
      refine J.seq ?_
      refine J.region ?_
      refine JL.decF rfl rfl (OpP.eql rfl rfl) (by omega) ?_
      refine JL.pure rfl rfl (OpP.assign rfl) ?_
      refine JL.nil ?_
      refine J.condF rfl ?_
      refine J.seq ?_
      refine J.region ?_
      refine JL.decF rfl rfl (OpP.eql rfl rfl) (by omega) ?_
      refine JL.pure rfl rfl (OpP.assign rfl) ?_
      refine JL.nil ?_
      refine J.condF rfl ?_
      refine J.seq ?_
      refine J.region ?_
      refine JL.decF rfl rfl (OpP.eql rfl rfl) (by omega) ?_
      refine JL.pure rfl rfl (OpP.assign rfl) ?_
      refine JL.nil ?_
      refine J.condF rfl ?_
      refine J.seq ?_
      refine J.region ?_
      refine JL.decF rfl rfl (OpP.eql rfl rfl) (by omega) ?_
      refine JL.pure rfl rfl (OpP.assign rfl) ?_
      refine JL.nil ?_
      refine J.condF rfl ?_
      refine J.seq ?_
      refine J.region ?_
      refine JL.decT rfl rfl (OpP.eql rfl rfl) (by omega) ?_
      refine JL.pure rfl rfl (OpP.assign rfl) ?_
      refine JL.nil ?_
      refine J.condT rfl ?_
      refine J.seq ?_
      refine J.regionDC (cl := row b3 31 (pac p) :: F) [3] (by kernel_rfl) ?_
      refine DL.pure (i := 0) (by kernel_rfl) (by kernel_rfl) rfl rfl rfl (OpP.move rfl) ?_
      refine DL.pure (i := 2) (by kernel_rfl) (by kernel_rfl) rfl rfl rfl (OpP.fieldAddr rfl) ?_
      refine DL.read (i := 3) (by kernel_rfl) (by kernel_rfl) rfl rfl rfl (fun _ h => Own.pick (pre := [_, _, _]) [2] rfl h) (OpR.load1 rfl (Cell.row .head rfl)) ?_
      refine DL.pure (i := 4) (by kernel_rfl) (by kernel_rfl) rfl rfl rfl (OpP.conv rfl) ?_
      refine DL.pure (i := 5) (by kernel_rfl) (by kernel_rfl) rfl rfl rfl (OpP.rem rfl rfl (by omega)) ?_
      refine DL.dec (i := 6) (by kernel_rfl) (by kernel_rfl) rfl rfl rfl (OpP.eql rfl rfl) (fun h44 => ?_) (fun h44 => ?_)
      focus
        refine DL.only (i := 1) (by kernel_rfl) ?_
        refine DL1.stepK rfl rfl rfl (by exact OpW.call (first := []) (captured := []) inferInstance rfl rfl (pb _)) (by rintro _ _ ⟨rfl, ⟨v', rfl⟩⟩ _ h; exact Own.pick (pre := [_, _, _]) [2] rfl h) ?_; rintro r39 _ ⟨rfl, ⟨v', rfl⟩⟩
        refine DL.lit (.tail .head) fun av' cv' ev' => ?_; subst ev'
        refine DL.decF (i := 7) (by kernel_rfl) (by kernel_rfl) rfl rfl rfl (OpP.eqBool rfl rfl) (by decide) ?_
        refine DL.pure (i := 8) (by kernel_rfl) (by kernel_rfl) rfl rfl rfl (OpP.assign rfl) ?_
        refine DL.done (by kernel_rfl) ?_
        refine J.ret1 rfl rfl ?_
      rotate_left 1
      focus
        refine DL.only (i := 1) (by kernel_rfl) ?_
        refine DL1.stepK rfl rfl rfl (by exact OpW.call (first := []) (captured := []) inferInstance rfl rfl (pb _)) (by rintro _ _ ⟨rfl, ⟨v', rfl⟩⟩ _ h; exact Own.pick (pre := [_, _, _]) [2] rfl h) ?_; rintro r39 _ ⟨rfl, ⟨v', rfl⟩⟩
        refine DL.lit (.tail .head) fun av' cv' ev' => ?_; subst ev'
        refine DL.decT (i := 7) (by kernel_rfl) (by kernel_rfl) rfl rfl rfl (OpP.eqBool rfl rfl) (by decide) ?_
        refine DL.pure (i := 8) (by kernel_rfl) (by kernel_rfl) rfl rfl rfl (OpP.assign rfl) ?_
        refine DL.done (by kernel_rfl) ?_
        refine J.ret1 rfl rfl ?_
      rotate_left 1
      · exact absurd (odd_iff.1 h44) ho
      · exact ⟨_, ⟨rfl, _, rfl⟩, fun _ h => Own.pick (pre := [_, _, _]) [0, 1] rfl h⟩
  by_cases h5 : p.kd % 8 = 5
  · have hb' : partB p = (if 4096 < p.t.length then none else some (be p.t.length 2 ++ p.t)) := by rw [partB, if_neg h0, if_neg h1, if_neg h2, if_neg h3, if_neg h4, if_pos h5]
    rw [hb'] at hb
    split at hb
    · cases hb
    obtain rfl := Option.some.inj hb
    clear hr
    rw [List.append_assoc] at hM ⊢
    refine J.seq ?_
    refine J.region ?_
    refine JL.pure rfl rfl (OpP.fieldAddr rfl) ?_
    refine JL.read rfl rfl (OpR.load1 rfl (Cell.row (.tail (.tail .head)) rfl)) ?_
    refine JL.pure rfl rfl (OpP.remI rfl rfl (by first | omega | exact Int.natCast_nonneg _) (by omega)) ?_
    refine JL.nil ?_
    refine J.block ?_
    refine J.seq ?_
    refine J.region ?_
    refine JL.decF rfl rfl (OpP.eql rfl rfl) (by omega) ?_
    refine JL.pure rfl rfl (OpP.assign rfl) ?_
    refine JL.nil ?_
    refine J.condF rfl ?_
    refine J.seq ?_
    refine J.region ?_
    refine JL.decF rfl rfl (OpP.eql rfl rfl) (by omega) ?_
    refine JL.pure rfl rfl (OpP.assign rfl) ?_
    refine JL.nil ?_
    refine J.condF rfl ?_
    refine J.seq ?_
    refine J.region ?_
    refine JL.decF rfl rfl (OpP.eql rfl rfl) (by omega) ?_
    refine JL.pure rfl rfl (OpP.assign rfl) ?_
    refine JL.nil ?_
    refine J.condF rfl ?_
    refine J.seq ?_
    refine J.region ?_
    refine JL.decF rfl rfl (OpP.eql rfl rfl) (by omega) ?_
    refine JL.pure rfl rfl (OpP.assign rfl) ?_
    refine JL.nil ?_
    refine J.condF rfl ?_
    refine J.seq ?_
    refine J.region ?_
    refine JL.decF rfl rfl (OpP.eql rfl rfl) (by omega) ?_
    refine JL.pure rfl rfl (OpP.assign rfl) ?_
    refine JL.nil ?_
    refine J.condF rfl ?_
    refine J.seq ?_
    refine J.region ?_
    refine JL.decT rfl rfl (OpP.eql rfl rfl) (by omega) ?_
    refine JL.pure rfl rfl (OpP.assign rfl) ?_
    refine JL.nil ?_
    refine J.condT rfl ?_
    refine J.seq ?_
    refine J.regionDC (cl := row b3 31 (pac p) :: F) [3] (by kernel_rfl) ?_
    refine DL.pure (i := 0) (by kernel_rfl) (by kernel_rfl) rfl rfl rfl (OpP.move rfl) ?_
    refine DL.pure (i := 2) (by kernel_rfl) (by kernel_rfl) rfl rfl rfl (OpP.fieldAddr rfl) ?_
    refine DL.read (i := 3) (by kernel_rfl) (by kernel_rfl) rfl rfl rfl (fun _ h => Own.pick (pre := [_, _, _]) [2] rfl h) (OpR.load1 rfl (Cell.row .head rfl)) ?_
    refine DL.only (i := 1) (by kernel_rfl) ?_
    refine DL1.stepK rfl rfl rfl (by exact OpW.call (first := []) (captured := []) inferInstance rfl rfl (tkText (most := 5000) (by omega) (by omega) hM)) (by rintro _ _ ⟨rfl, ⟨v', rfl⟩⟩ _ h; exact Own.pick (pre := [_, _, _]) [2] rfl h) ?_; rintro r49 _ ⟨rfl, ⟨v', rfl⟩⟩
    refine DL.lit (.tail .head) fun av' cv' ev' => ?_; subst ev'
    refine DL.dec (i := 4) (by kernel_rfl) (by kernel_rfl) rfl rfl rfl (OpP.eqStr rfl rfl) (fun h52 => ?_) (fun h52 => ?_)
    focus
      refine DL.pure (i := 5) (by kernel_rfl) (by kernel_rfl) rfl rfl rfl (OpP.assign rfl) ?_
      refine DL.done (by kernel_rfl) ?_
      refine J.ret1 rfl rfl ?_
    rotate_left 1
    focus
      refine DL.pure (i := 5) (by kernel_rfl) (by kernel_rfl) rfl rfl rfl (OpP.assign rfl) ?_
      refine DL.done (by kernel_rfl) ?_
      refine J.ret1 rfl rfl ?_
    rotate_left 1
    · exact ⟨_, ⟨rfl, _, rfl⟩, fun _ h => Own.pick (pre := [_, _, _]) [0, 1] rfl h⟩
    · exact absurd rfl h52
  by_cases h6 : p.kd % 8 = 6
  · have hb' : partB p = some p.t := by rw [partB, if_neg h0, if_neg h1, if_neg h2, if_neg h3, if_neg h4, if_neg h5, if_pos h6]
    rw [hb'] at hb
    obtain rfl := Option.some.inj hb
    clear hr
    refine J.seq ?_
    refine J.region ?_
    refine JL.pure rfl rfl (OpP.fieldAddr rfl) ?_
    refine JL.read rfl rfl (OpR.load1 rfl (Cell.row (.tail (.tail .head)) rfl)) ?_
    refine JL.pure rfl rfl (OpP.remI rfl rfl (by first | omega | exact Int.natCast_nonneg _) (by omega)) ?_
    refine JL.nil ?_
    refine J.block ?_
    refine J.seq ?_
    refine J.region ?_
    refine JL.decF rfl rfl (OpP.eql rfl rfl) (by omega) ?_
    refine JL.pure rfl rfl (OpP.assign rfl) ?_
    refine JL.nil ?_
    refine J.condF rfl ?_
    refine J.seq ?_
    refine J.region ?_
    refine JL.decF rfl rfl (OpP.eql rfl rfl) (by omega) ?_
    refine JL.pure rfl rfl (OpP.assign rfl) ?_
    refine JL.nil ?_
    refine J.condF rfl ?_
    refine J.seq ?_
    refine J.region ?_
    refine JL.decF rfl rfl (OpP.eql rfl rfl) (by omega) ?_
    refine JL.pure rfl rfl (OpP.assign rfl) ?_
    refine JL.nil ?_
    refine J.condF rfl ?_
    refine J.seq ?_
    refine J.region ?_
    refine JL.decF rfl rfl (OpP.eql rfl rfl) (by omega) ?_
    refine JL.pure rfl rfl (OpP.assign rfl) ?_
    refine JL.nil ?_
    refine J.condF rfl ?_
    refine J.seq ?_
    refine J.region ?_
    refine JL.decF rfl rfl (OpP.eql rfl rfl) (by omega) ?_
    refine JL.pure rfl rfl (OpP.assign rfl) ?_
    refine JL.nil ?_
    refine J.condF rfl ?_
    refine J.seq ?_
    refine J.region ?_
    refine JL.decF rfl rfl (OpP.eql rfl rfl) (by omega) ?_
    refine JL.pure rfl rfl (OpP.assign rfl) ?_
    refine JL.nil ?_
    refine J.condF rfl ?_
    refine J.seq ?_
    refine J.region ?_
    refine JL.decT rfl rfl (OpP.eql rfl rfl) (by omega) ?_
    refine JL.pure rfl rfl (OpP.assign rfl) ?_
    refine JL.nil ?_
    refine J.condT rfl ?_
    refine J.seq ?_
    refine J.regionDC (cl := row b3 31 (pac p) :: F) [2, 7] (by kernel_rfl) ?_
    refine DL.pure (i := 0) (by kernel_rfl) (by kernel_rfl) rfl rfl rfl (OpP.move rfl) ?_
    refine DL.pure (i := 1) (by kernel_rfl) (by kernel_rfl) rfl rfl rfl (OpP.fieldAddr rfl) ?_
    refine DL.read (i := 2) (by kernel_rfl) (by kernel_rfl) rfl rfl rfl (fun _ h => Own.pick (pre := [_, _, _]) [2] rfl h) (OpR.load1 rfl (Cell.row .head rfl)) ?_
    refine DL.pure (i := 3) (by kernel_rfl) (by kernel_rfl) rfl rfl rfl (OpP.lenStr rfl rfl) ?_
    refine DL.pure (i := 6) (by kernel_rfl) (by kernel_rfl) rfl rfl rfl (OpP.fieldAddr rfl) ?_
    refine DL.read (i := 7) (by kernel_rfl) (by kernel_rfl) rfl rfl rfl (fun _ h => Own.pick (pre := [_, _, _]) [2] rfl h) (OpR.load1 rfl (Cell.row .head rfl)) ?_
    refine DL.only (i := 4) (by kernel_rfl) ?_
    refine DL1.stepK rfl rfl rfl (by exact OpW.call (first := []) (captured := []) inferInstance rfl rfl (tkRaw (t := p.t) (by omega) hM)) (by rintro _ _ ⟨v', ⟨a, ⟨c, ⟨rfl, rfl⟩⟩⟩⟩ _ h; exact Own.pick (pre := [_, _, _, _]) [3] rfl h) ?_; rintro r59 _ ⟨v', ⟨a, ⟨c, ⟨rfl, rfl⟩⟩⟩⟩
    refine DL.lit (.tail (.tail .head)) fun av' cv' ev' => ?_; subst ev'
    refine DL.only (i := 5) (by kernel_rfl) ?_
    refine DL1.stepK rfl rfl rfl (OpM.w (OpR.m (OpR.rdStr (by rfl) (RdO.own .head) (by rfl)))) (by rintro _ _ ⟨rfl, rfl⟩ _ h; exact Own.pick (pre := [_, _, _, _]) [3] rfl h) ?_; rintro _ _ ⟨rfl, rfl⟩
    refine DL.dec (i := 8) (by kernel_rfl) (by kernel_rfl) rfl rfl rfl (OpP.eqStr rfl rfl) (fun h63 => ?_) (fun h63 => ?_)
    focus
      refine DL.pure (i := 9) (by kernel_rfl) (by kernel_rfl) rfl rfl rfl (OpP.assign rfl) ?_
      refine DL.done (by kernel_rfl) ?_
      refine J.ret1 rfl rfl ?_
    rotate_left 1
    focus
      refine DL.pure (i := 9) (by kernel_rfl) (by kernel_rfl) rfl rfl rfl (OpP.assign rfl) ?_
      refine DL.done (by kernel_rfl) ?_
      refine J.ret1 rfl rfl ?_
    rotate_left 1
    · exact ⟨_, ⟨rfl, _, rfl⟩, fun _ h => Own.pick (pre := [_, _, _, _]) [1, 2] rfl h⟩
    · exact absurd rfl h63
  by_cases hf : FormedP p.u.k p.u.i p.u.s p.u.xs
  · have hb' : partB p = some (valB p.u.k p.u.i p.u.s p.u.xs) := by rw [partB, if_neg h0, if_neg h1, if_neg h2, if_neg h3, if_neg h4, if_neg h5, if_neg h6, if_pos hf]
    rw [hb'] at hb
    obtain rfl := Option.some.inj hb
    have hzl : (xs0 p.u.xs).length ≤ 9223372036854775807 := by rw [List.length_map]; exact hn
    have hs : SameP p.u.k p.u.i p.u.s (xs0 p.u.xs) p.u.k p.u.i p.u.s p.u.xs := by
      refine ⟨rfl, rfl, rfl, List.length_map .., fun j x y hx hy => ?_⟩
      rw [List.getElem?_map, hy] at hx
      obtain rfl := Option.some.inj hx
      exact ⟨rfl, rfl, rfl, rfl, hz y (List.mem_of_getElem? hy)⟩
    have pb := fun a c v' => sameT (w0 := w0) (F := own 29 4 (.slice a (xs0 p.u.xs).length c) (xs0 p.u.xs).length ((xs0 p.u.xs).flatMap ecl) :: inL g false v' R (row b3 31 (pac p) :: F)) hzl hn hs (RdO.own .head) (hr.conv fun _ h => h.tail.tail.tail.tail)
    refine J.seq ?_
    refine J.region ?_
    refine JL.pure rfl rfl (OpP.fieldAddr rfl) ?_
    refine JL.read rfl rfl (OpR.load1 rfl (Cell.row (.tail (.tail .head)) rfl)) ?_
    refine JL.pure rfl rfl (OpP.remI rfl rfl (by first | omega | exact Int.natCast_nonneg _) (by omega)) ?_
    refine JL.nil ?_
    refine J.block ?_
    refine J.seq ?_
    refine J.region ?_
    refine JL.decF rfl rfl (OpP.eql rfl rfl) (by omega) ?_
    refine JL.pure rfl rfl (OpP.assign rfl) ?_
    refine JL.nil ?_
    refine J.condF rfl ?_
    refine J.seq ?_
    refine J.region ?_
    refine JL.decF rfl rfl (OpP.eql rfl rfl) (by omega) ?_
    refine JL.pure rfl rfl (OpP.assign rfl) ?_
    refine JL.nil ?_
    refine J.condF rfl ?_
    refine J.seq ?_
    refine J.region ?_
    refine JL.decF rfl rfl (OpP.eql rfl rfl) (by omega) ?_
    refine JL.pure rfl rfl (OpP.assign rfl) ?_
    refine JL.nil ?_
    refine J.condF rfl ?_
    refine J.seq ?_
    refine J.region ?_
    refine JL.decF rfl rfl (OpP.eql rfl rfl) (by omega) ?_
    refine JL.pure rfl rfl (OpP.assign rfl) ?_
    refine JL.nil ?_
    refine J.condF rfl ?_
    refine J.seq ?_
    refine J.region ?_
    refine JL.decF rfl rfl (OpP.eql rfl rfl) (by omega) ?_
    refine JL.pure rfl rfl (OpP.assign rfl) ?_
    refine JL.nil ?_
    refine J.condF rfl ?_
    refine J.seq ?_
    refine J.region ?_
    refine JL.decF rfl rfl (OpP.eql rfl rfl) (by omega) ?_
    refine JL.pure rfl rfl (OpP.assign rfl) ?_
    refine JL.nil ?_
    refine J.condF rfl ?_
    refine J.seq ?_
    refine J.region ?_
    refine JL.decF rfl rfl (OpP.eql rfl rfl) (by omega) ?_
    refine JL.pure rfl rfl (OpP.assign rfl) ?_
    refine JL.nil ?_
    refine J.condF rfl ?_
    refine J.skip ?_
    refine J.inBlock ?_
    refine J.seq ?_
    refine J.regionDC (cl := row b3 31 (pac p) :: F) [3] (by kernel_rfl) ?_
    refine DL.pure (i := 0) (by kernel_rfl) (by kernel_rfl) rfl rfl rfl (OpP.move rfl) ?_
    refine DL.pure (i := 2) (by kernel_rfl) (by kernel_rfl) rfl rfl rfl (OpP.fieldAddr rfl) ?_
    refine DL.read (i := 3) (by kernel_rfl) (by kernel_rfl) rfl rfl rfl (fun _ h => Own.pick (pre := [_, _, _]) [2] rfl h) (OpR.loadN rfl (Cells.sub 4 .head rfl) rfl) ?_
    refine DL.only (i := 1) (by kernel_rfl) ?_
    refine DL1.stepK rfl rfl rfl (by exact OpW.call (first := []) (captured := []) inferInstance rfl rfl (tkVal hf hz hI hM)) (by rintro _ _ ⟨v', ⟨a, ⟨c, ⟨rfl, rfl⟩⟩⟩⟩ _ h; exact Own.pick (pre := [_, _, _, _]) [3] rfl h) ?_; rintro r65 _ ⟨v', ⟨a, ⟨c, ⟨rfl, rfl⟩⟩⟩⟩
    refine DL.lit (.tail (.tail .head)) fun av' cv' ev' => ?_; subst ev'
    refine DL.only (i := 4) (by kernel_rfl) ?_
    refine DL1.stepF rfl rfl rfl (by kernel_rfl) (by exact OpW.call (first := []) (captured := []) inferInstance rfl rfl (pb _ _ _)) ?_; rintro r68 _ ⟨rfl, rfl⟩
    refine DL.pure (i := 5) (by kernel_rfl) (by kernel_rfl) rfl rfl rfl (OpP.assign rfl) ?_
    refine DL.done (by kernel_rfl) ?_
    refine J.ret1 rfl rfl ?_
    exact ⟨_, ⟨rfl, _, rfl⟩, fun _ h => Own.pick (pre := [_, _, _, _]) [1, 2] rfl h⟩
  · rw [partB, if_neg h0, if_neg h1, if_neg h2, if_neg h3, if_neg h4, if_neg h5, if_neg h6, if_neg hf] at hb
    cases hb
end Go.Proofs.E

-- seat e
namespace Go.Proofs.E
open Go Go.Gp Go.RowKit

noncomputable def restP (ps : List Pa) : List UInt8 := ps.flatMap fun p => (partB p).getD []
theorem allF_app : ∀ {ps : List Pa} {M L : List UInt8}, allF (some M) ps = some L → L = M ++ restP ps ∧ ∀ p ∈ ps, ∃ bs, partB p = some bs
  | [], M, L, h => ⟨by rw [show restP [] = [] from rfl, List.append_nil]; exact (Option.some.inj h).symm, by simp⟩
  | p :: ps, M, L, h => by
    rw [allF, List.foldl_cons] at h
    have h : allF ((partB p).bind (putO (some M))) ps = some L := h
    cases hp : partB p with
    | none => rw [hp] at h; rw [show (none : Option (List UInt8)).bind (putO (some M)) = none from rfl, allF_none] at h; cases h
    | some bs =>
      rw [hp, Option.bind_some] at h
      by_cases hl : M.length + bs.length ≤ 4096
      · rw [show putO (some M) bs = some (M ++ bs) by simp only [putO, Option.bind_some]; rw [if_pos hl]] at h
        obtain ⟨h1, h2⟩ := allF_app h
        refine ⟨by rw [h1, show restP (p :: ps) = bs ++ restP ps by rw [restP, List.flatMap_cons, hp]; rfl, List.append_assoc], fun q hq => ?_⟩
        rcases List.mem_cons.1 hq with rfl | hq
        · exact ⟨bs, hp⟩
        · exact h2 q hq
      · rw [show putO (some M) bs = none by simp only [putO, Option.bind_some]; rw [if_neg hl], allF_none] at h
        cases h
theorem restP_drop {ps : List Pa} {j : Nat} {p : Pa} {bs : List UInt8} (hp : ps[j]? = some p) (hb : partB p = some bs) : restP (ps.drop j) = bs ++ restP (ps.drop (j + 1)) := by
  obtain ⟨hj, rfl⟩ := List.getElem?_eq_some_iff.1 hp
  rw [List.drop_eq_getElem_cons hj, restP, List.flatMap_cons, hb]; rfl
theorem restP_le {ps : List Pa} (j : Nat) : (restP (ps.drop j)).length ≤ (restP ps).length := by
  have h : restP ps = restP (ps.take j) ++ restP (ps.drop j) := by rw [restP, restP, restP, ← List.flatMap_append, List.take_append_drop]
  rw [h, List.length_append]; omega
theorem endGood {w0 : World} {F : List HProp} {g : Nat} {v : Value} {L : List UInt8} (hL : L.length ≤ 4096) : FnO Try.prog w0 33 [.pointer (some ⟨g, 0, none⟩)] (outL g false v L F) (fun r l' => ∃ a c, r = .tuple #[.slice a L.length c, .int .i64 0] ∧ l' = own 5 1 (.slice a L.length c) L.length (bcells L) :: outL g false v L F) :=
  (end_ok (bad := false) hL).mono fun r l' h => by
    rcases h with ⟨h, _⟩ | ⟨_, h⟩
    · cases h
    · exact h
/-- What is asked of the parts. -/
structure Parts (w0 : World) (ps : List Pa) : Prop where
  kd : ∀ p ∈ ps, 0 ≤ p.kd ∧ p.kd ≤ 255
  nn : ∀ p ∈ ps, -9223372036854775808 ≤ p.n ∧ p.n ≤ 9223372036854775807
  ir : ∀ p ∈ ps, InR p.u.i p.u.xs
  rd : ∀ p ∈ ps, RdO w0 [] (.slice p.u.a p.u.xs.length p.u.c) p.u.xs.length (p.u.xs.flatMap ecl)
theorem allNone {w0 : World} {F : List HProp} {a : Option Addr} {c : Nat} {ps : List Pa} (hn : ps.length ≤ 9223372036854775807) (hP : Parts w0 ps) (hf : ∀ p ∈ ps, FewP p) (hr : RdO w0 [] (.slice a ps.length c) ps.length (ps.flatMap pac)) (h : allF (some []) ps = none) :
    FnO Try.prog w0 24 [.slice a ps.length c] F (fun r l' => r = .tuple #[.slice none 0 0, .bool false] ∧ l' = F) :=
  (all_ok hn hP.kd hP.nn hf (hr.conv fun _ h => h.none) (fun p hp => (hP.rd p hp).conv fun _ h => h.none)).mono fun r l' h2 => by
    rcases h2 with ⟨bs, _, _, h2, _⟩ | ⟨_, h2⟩
    · rw [h] at h2; cases h2
    · exact h2
theorem allSome {w0 : World} {F : List HProp} {a : Option Addr} {c : Nat} {ps : List Pa} {L : List UInt8} (hn : ps.length ≤ 9223372036854775807) (hP : Parts w0 ps) (hf : ∀ p ∈ ps, FewP p) (hr : RdO w0 [] (.slice a ps.length c) ps.length (ps.flatMap pac)) (h : allF (some []) ps = some L) :
    FnO Try.prog w0 24 [.slice a ps.length c] F (fun r l' => ∃ a c, r = .tuple #[.slice a L.length c, .bool true] ∧ l' = own 5 1 (.slice a L.length c) L.length (bcells L) :: F) :=
  (all_ok hn hP.kd hP.nn hf (hr.conv fun _ h => h.none) (fun p hp => (hP.rd p hp).conv fun _ h => h.none)).mono fun r l' h2 => by
    rcases h2 with ⟨bs, a, c, h2, _, h3, h4⟩ | ⟨h2, _⟩
    · rw [h] at h2
      obtain rfl := Option.some.inj h2
      exact ⟨a, c, h3, h4⟩
    · rw [h] at h2; cases h2
theorem CodecWrites_ok {w0 : World} {a : Option Addr} {c : Nat} {ps : List Pa} (hn : ps.length ≤ 9223372036854775807) (hP : Parts w0 ps) (hr : RdO w0 [] (.slice a ps.length c) ps.length (ps.flatMap pac)) :
    FnO Try.prog w0 6 [.slice a ps.length c] [] (fun v _ => v = .bool true) := by
  have hlen : ∀ p ∈ ps, (pac p).length = 7 := fun _ _ => rfl
  refine FnO.rdF (fun _ h => h) hr fun hr1 => ?_
  refine FnO.intro (n := 74) Try.func6 rfl rfl rfl ?_
  refine J.seq ?_
  refine J.region ?_
  refine JL.pure rfl rfl (OpP.assign rfl) ?_
  refine JL.nil ?_
  refine J.seq ?_
  refine J.seq ?_
  refine J.region ?_
  refine JL.step rfl rfl (OpW.call (first := []) (captured := []) inferInstance rfl rfl awake_ok) ?_; rintro r11 _ ⟨rfl, rfl⟩
  refine JL.pure rfl rfl (OpP.notB rfl) ?_
  refine JL.pure rfl rfl (OpP.move rfl) ?_
  refine JL.pure rfl rfl (OpP.move rfl) ?_
  refine JL.step rfl rfl (OpW.call (first := []) (captured := []) inferInstance rfl rfl (few31_ok hn hr hP.rd)) ?_; rintro r15 _ ⟨b, ⟨rfl, ⟨rfl, h15⟩⟩⟩
  refine JL.pure rfl rfl (OpP.notB rfl) ?_
  refine JL.pure rfl rfl (OpP.pickF rfl rfl) ?_
  refine JL.nil ?_
  refine J.splitAt 17 rfl (fun h17 => ?_) (fun h17 => ?_)
  focus
    refine J.condT rfl ?_
    refine J.seq ?_
    refine J.region ?_
    refine JL.step rfl rfl (OpW.call (first := []) (captured := []) inferInstance rfl rfl awake_ok) ?_; rintro r18 _ ⟨rfl, rfl⟩
    refine JL.pure rfl rfl (OpP.assign rfl) ?_
    refine JL.nil ?_
    refine J.ret1 rfl rfl ?_
  rotate_left 1
  focus
    refine J.condF rfl ?_
    refine J.skip ?_
    refine J.seq ?_
    refine J.region ?_
    refine JL.mem rfl rfl OpM.alloc ?_; rintro _ _ ⟨b3, rfl, rfl⟩
    refine JL.nil ?_
    refine J.seq ?_
    refine J.seq ?_
    refine J.region ?_
    refine JL.pure rfl rfl (OpP.assign rfl) ?_
    refine JL.nil ?_
    refine J.block ?_
  rotate_left 1
  · rfl
  · have hbb : b = true := by simp_all
    obtain ⟨hm, hfew⟩ := h15 hbb
    have hfw : ∀ p ∈ ps, FewP p := by
      intro p hp
      obtain ⟨j, hj⟩ := List.getElem?_of_mem hp
      exact hfew j p (by have := (List.getElem?_eq_some_iff.1 hj).1; omega) hj
    refine J.conv (l' := outL b3 false (.slice none 0 0) [] []) (fun _ h => Own.f1 (Own.own_nil h)) ?_
    refine J.loopI (fun x : Nat × Bool × Value × List UInt8 => ps.length - x.1) (fun x => x.1 ≤ ps.length ∧ x.2.2.2.length ≤ 4096 ∧ absO x.2.1 x.2.2.2 = allF (some []) (ps.take x.1)) (fun x => [(4, .int .i64 (x.1 : Nat)), (3, .pointer (some ⟨b3, 0, none⟩)), (0, .slice a ps.length c)])
      (fun x => outL b3 x.2.1 x.2.2.1 x.2.2.2 []) (0, false, .slice none 0 0, []) ⟨Nat.zero_le _, Nat.zero_le _, rfl⟩ (by repeat (first | exact SubEnv.nil | refine SubEnv.cons (by first | rfl | exact congrArg (fun z => some (Value.int .i64 z)) (by omega) | (simp; done)) ?_)) (fun _ h => h) (fun ⟨j, bad, z, Q⟩ hi back => ?_)
    dsimp only at hi back ⊢
    obtain ⟨hj, hQ, hall⟩ := hi
    by_cases hlt : j < ps.length
    · obtain ⟨p, hp⟩ : ∃ e, ps[j]? = some e := ⟨_, List.getElem?_eq_getElem hlt⟩
      have hpm := List.mem_of_getElem? hp
      obtain ⟨hf1, hf2⟩ := hfw p hpm
      obtain ⟨hx, hx2, _⟩ := few_okE hf2
      have hx3 : p.u.xs.length ≤ 9223372036854775807 := Nat.le_trans hx2 (by decide)
      have pb := part_ok (w0 := w0) (F := []) (g := b3) (bad := bad) (v := z) (L := Q) (p := p) hQ (hP.kd p hpm) hf1 hx hx3 (hP.rd p hpm)
      obtain ⟨ga, pa, qa, ea, ka, hcs⟩ := hr1.pos (by omega)
      cases ea
      refine J.lit (.tail .head) fun az cz ez => ?_; subst ez
      refine J.seq ?_
      refine J.seq ?_
      refine J.region ?_
      refine JL.pure rfl rfl (OpP.move rfl) ?_
      refine JL.pure rfl rfl (OpP.move rfl) ?_
      refine JL.pure rfl rfl (OpP.len rfl rfl) ?_
      refine JL.decT rfl rfl (OpP.lss rfl rfl) (by omega) ?_
      refine JL.nil ?_
      refine J.condT rfl ?_
      refine J.skip ?_
      refine J.seq ?_
      refine J.block ?_
      refine J.region ?_
      refine JL.pure rfl rfl (OpP.move rfl) ?_
      refine JL.pure rfl rfl (OpP.move rfl) ?_
      refine JL.pure rfl rfl (OpP.indexAddr rfl rfl (by omega) (by omega)) ?_
      refine JL.read rfl rfl (OpR.loadN rfl (by apply Cells.conv (fun _ h => h.none); apply Cells.chunkAt hcs; (case' h => assumption); (case' hi => assumption); done) (by first | rfl | assumption)) ?_
      refine JL.step rfl rfl (OpW.call (first := []) (captured := []) inferInstance rfl rfl pb) ?_; rintro r29 _ ⟨rfl, ⟨bad', ⟨v', ⟨L', ⟨h29, ⟨h291, rfl⟩⟩⟩⟩⟩⟩
      refine JL.lit (.tail .head) fun av' cv' ev' => ?_; subst ev'
      refine JL.nil ?_
      refine J.inBlock ?_
      refine J.region ?_
      refine JL.pure rfl rfl (OpP.move rfl) ?_
      refine JL.pure rfl rfl (OpP.addI rfl rfl (by omega) (by omega)) ?_
      refine JL.pure rfl rfl (OpP.assign rfl) ?_
      refine JL.nil ?_
      refine back (j + 1, bad', _, L') ⟨by dsimp only; omega, by assumption, ?_⟩ (by dsimp only; omega) (by repeat (first | exact SubEnv.nil | refine SubEnv.cons (by first | rfl | exact congrArg (fun z => some (Value.int .i64 z)) (by omega) | (simp; done)) ?_)) (fun _ h => h)
      dsimp only
      rw [partO_eq h291, hall, ← allF_take hp]
    · obtain rfl : j = ps.length := by omega
      rw [List.take_length] at hall
      cases bad
      · have hall : allF (some []) ps = some Q := hall.symm
        obtain ⟨hQr, hsome⟩ := allF_app hall
        rw [List.nil_append] at hQr
        refine J.lit (.tail .head) fun az cz ez => ?_; subst ez
        refine J.seq ?_
        refine J.seq ?_
        refine J.region ?_
        refine JL.pure rfl rfl (OpP.move rfl) ?_
        refine JL.pure rfl rfl (OpP.move rfl) ?_
        refine JL.pure rfl rfl (OpP.len rfl rfl) ?_
        refine JL.decF rfl rfl (OpP.lss rfl rfl) (by omega) ?_
        refine JL.nil ?_
        refine J.condF rfl ?_
        refine J.exit rfl ?_
        refine J.seq ?_
        refine J.region ?_
        refine JL.step rfl rfl (OpW.call (first := []) (captured := []) inferInstance rfl rfl (endGood hQ)) ?_; rintro r31 _ ⟨a1, ⟨c1, ⟨rfl, rfl⟩⟩⟩
        refine JL.pure rfl rfl (OpP.move rfl) ?_
        refine JL.pure rfl rfl (OpP.extract rfl rfl) ?_
        refine JL.pure rfl rfl (OpP.extract rfl rfl) ?_
        refine JL.pure rfl rfl (OpP.assign rfl) ?_
        refine JL.pure rfl rfl (OpP.assign rfl) ?_
        refine JL.nil ?_
        refine J.seq ?_
        refine J.region ?_
        refine JL.pure rfl rfl (OpP.move rfl) ?_
        refine JL.step rfl rfl (OpW.call (first := []) (captured := []) inferInstance rfl rfl (allSome hn hP hfw hr hall)) ?_; rintro r36 _ ⟨a2, ⟨c2, ⟨rfl, rfl⟩⟩⟩
        refine JL.pure rfl rfl (OpP.move rfl) ?_
        refine JL.pure rfl rfl (OpP.extract rfl rfl) ?_
        refine JL.pure rfl rfl (OpP.extract rfl rfl) ?_
        refine JL.pure rfl rfl (OpP.assign rfl) ?_
        refine JL.pure rfl rfl (OpP.assign rfl) ?_
        refine JL.nil ?_
        refine J.seq ?_
        refine J.seq ?_
        refine J.region ?_
        refine JL.pure rfl rfl (OpP.move rfl) ?_
        refine JL.pure rfl rfl (OpP.notB rfl) ?_
        refine JL.nil ?_
        refine J.condF rfl ?_
        refine J.skip ?_
        refine J.seq ?_
        refine J.seq ?_
        refine J.region ?_
        refine JL.pure rfl rfl (OpP.move rfl) ?_
        refine JL.decF rfl rfl (OpP.neq rfl rfl) (by omega) ?_
        refine JL.pure rfl rfl (OpP.move rfl) ?_
        refine JL.pure rfl rfl (OpP.move rfl) ?_
        refine JL.read rfl rfl (OpR.rdStr (by rfl) (RdO.own (.tail .head)) (by rfl)) ?_
        refine JL.pure rfl rfl (OpP.move rfl) ?_
        refine JL.read rfl rfl (OpR.rdStr (by rfl) (RdO.own .head) (by rfl)) ?_
        refine JL.dec rfl rfl (OpP.neStr rfl rfl) (fun h55 => ?_) (fun h55 => ?_)
        focus
          refine JL.pure rfl rfl (OpP.pickF rfl rfl) ?_
          refine JL.nil ?_
          refine J.condT rfl ?_
          refine J.seq ?_
          refine J.region ?_
          refine JL.pure rfl rfl (OpP.assign rfl) ?_
          refine JL.nil ?_
          refine J.ret1 rfl rfl ?_
        rotate_left 1
        focus
          refine JL.pure rfl rfl (OpP.pickF rfl rfl) ?_
          refine JL.nil ?_
          refine J.condF rfl ?_
          refine J.skip ?_
          refine J.seq ?_
          refine J.region ?_
          refine JL.pure rfl rfl (OpP.move rfl) ?_
          refine JL.step rfl rfl (OpW.call (first := []) (captured := []) inferInstance rfl rfl (read_ok (l := Q) (by omega) (RdO.own (.tail .head)))) ?_; rintro r58 _ ⟨g, ⟨v', ⟨rfl, rfl⟩⟩⟩
          refine JL.lit (.tail .head) fun av' cv' ev' => ?_; subst ev'
          refine JL.pure rfl rfl (OpP.assign rfl) ?_
          refine JL.nil ?_
          refine J.seq ?_
          refine J.seq ?_
          refine J.region ?_
          refine JL.pure rfl rfl (OpP.assign rfl) ?_
          refine JL.nil ?_
          refine J.block ?_
        rotate_left 1
        · exact absurd rfl h55
        · refine J.loopI (fun x : Nat × Value => ps.length - x.1) (fun x => x.1 ≤ ps.length) (fun x => [(10, .int .i64 (x.1 : Nat)), (9, .pointer (some ⟨g, 0, none⟩)), (0, .slice a ps.length c)])
            (fun x => inL g false x.2 (restP (ps.drop x.1)) (own 5 1 (.slice a2 Q.length c2) Q.length (bcells Q) :: own 5 1 (.slice a1 Q.length c1) Q.length (bcells Q) :: outL b3 false (.slice az Q.length cz) Q [])) (0, .slice av' Q.length cv') (Nat.zero_le _) (by repeat (first | exact SubEnv.nil | refine SubEnv.cons (by first | rfl | exact congrArg (fun z => some (Value.int .i64 z)) (by omega) | (simp; done)) ?_)) (fun _ h => by dsimp only; rw [List.drop_zero, ← hQr]; exact h) (fun ⟨j, z⟩ hi back => ?_)
          dsimp only at hi back ⊢
          by_cases hlt : j < ps.length
          · obtain ⟨p, hp⟩ : ∃ e, ps[j]? = some e := ⟨_, List.getElem?_eq_getElem hlt⟩
            have hpm := List.mem_of_getElem? hp
            obtain ⟨bs, hb⟩ := hsome p hpm
            obtain ⟨hf1, hf2⟩ := hfw p hpm
            obtain ⟨hx, hx2, hz⟩ := few_okE hf2
            have hx3 : p.u.xs.length ≤ 9223372036854775807 := Nat.le_trans hx2 (by decide)
            have hd := restP_drop hp hb
            have hle := restP_le (ps := ps) j
            have pb := fun v => took_ok (w0 := w0) (F := own 5 1 (.slice a2 Q.length c2) Q.length (bcells Q) :: own 5 1 (.slice a1 Q.length c1) Q.length (bcells Q) :: outL b3 false (.slice az Q.length cz) Q []) (g := g) (v := v) (R := restP (ps.drop (j + 1))) (by rw [← hd]; rw [← hQr] at hle; omega) hb (hP.kd p hpm) (hP.nn p hpm) (hP.ir p hpm) hx hz hx3 ((hP.rd p hpm).conv fun _ h => h.none)
            rw [hd]
            obtain ⟨ga, pa, qa, ea, ka, hcs⟩ := hr1.pos (by omega)
            cases ea
            refine J.lit (.tail .head) fun az cz ez => ?_; subst ez
            refine J.seq ?_
            refine J.seq ?_
            refine J.region ?_
            refine JL.pure rfl rfl (OpP.move rfl) ?_
            refine JL.pure rfl rfl (OpP.move rfl) ?_
            refine JL.pure rfl rfl (OpP.len rfl rfl) ?_
            refine JL.decT rfl rfl (OpP.lss rfl rfl) (by omega) ?_
            refine JL.nil ?_
            refine J.condT rfl ?_
            refine J.skip ?_
            refine J.seq ?_
            refine J.block ?_
            refine J.seq ?_
            refine J.region ?_
            refine JL.pure rfl rfl (OpP.move rfl) ?_
            refine JL.pure rfl rfl (OpP.move rfl) ?_
            refine JL.pure rfl rfl (OpP.move rfl) ?_
            refine JL.pure rfl rfl (OpP.indexAddr rfl rfl (by omega) (by omega)) ?_
            refine JL.read rfl rfl (OpR.loadN rfl (by apply Cells.conv (fun _ h => h.none); apply Cells.chunkAt hcs; (case' h => assumption); (case' hi => assumption); done) (by first | rfl | assumption)) ?_
            refine JL.step rfl rfl (OpW.call (first := []) (captured := []) inferInstance rfl rfl (pb _)) ?_; rintro r70 _ ⟨rfl, ⟨v', rfl⟩⟩
            refine JL.lit (.tail .head) fun av' cv' ev' => ?_; subst ev'
            refine JL.pure rfl rfl (OpP.notB rfl) ?_
            refine JL.nil ?_
            refine J.condF rfl ?_
            refine J.skip ?_
            refine J.inBlock ?_
            refine J.region ?_
            refine JL.pure rfl rfl (OpP.move rfl) ?_
            refine JL.pure rfl rfl (OpP.addI rfl rfl (by omega) (by omega)) ?_
            refine JL.pure rfl rfl (OpP.assign rfl) ?_
            refine JL.nil ?_
            refine back (j + 1, _) (by dsimp only; omega) (by dsimp only; omega) (by repeat (first | exact SubEnv.nil | refine SubEnv.cons (by first | rfl | exact congrArg (fun z => some (Value.int .i64 z)) (by omega) | (simp; done)) ?_)) (fun _ h => h)
          · obtain rfl : j = ps.length := by omega
            rw [List.drop_length, show restP [] = [] from rfl]
            refine J.lit (.tail .head) fun az cz ez => ?_; subst ez
            refine J.seq ?_
            refine J.seq ?_
            refine J.region ?_
            refine JL.pure rfl rfl (OpP.move rfl) ?_
            refine JL.pure rfl rfl (OpP.move rfl) ?_
            refine JL.pure rfl rfl (OpP.len rfl rfl) ?_
            refine JL.decF rfl rfl (OpP.lss rfl rfl) (by omega) ?_
            refine JL.nil ?_
            refine J.condF rfl ?_
            refine J.exit rfl ?_
            refine J.seq ?_
            refine J.region ?_
            refine JL.pure rfl rfl (OpP.move rfl) ?_
            refine JL.step rfl rfl (OpW.call (first := []) (captured := []) inferInstance rfl rfl (over_ok (bad := false))) ?_; rintro r73 _ ⟨rfl, rfl⟩
            refine JL.pure rfl rfl (OpP.assign rfl) ?_
            refine JL.nil ?_
            refine J.ret1 rfl rfl ?_
            rfl
      · have hall : allF (some []) ps = none := hall.symm
        refine J.lit (.tail .head) fun az cz ez => ?_; subst ez
        refine J.seq ?_
        refine J.seq ?_
        refine J.region ?_
        refine JL.pure rfl rfl (OpP.move rfl) ?_
        refine JL.pure rfl rfl (OpP.move rfl) ?_
        refine JL.pure rfl rfl (OpP.len rfl rfl) ?_
        refine JL.decF rfl rfl (OpP.lss rfl rfl) (by omega) ?_
        refine JL.nil ?_
        refine J.condF rfl ?_
        refine J.exit rfl ?_
        refine J.seq ?_
        refine J.region ?_
        refine JL.step rfl rfl (OpW.call (first := []) (captured := []) inferInstance rfl rfl (endBad hQ)) ?_; rintro r31 _ ⟨rfl, rfl⟩
        refine JL.pure rfl rfl (OpP.move rfl) ?_
        refine JL.pure rfl rfl (OpP.extract rfl rfl) ?_
        refine JL.pure rfl rfl (OpP.extract rfl rfl) ?_
        refine JL.pure rfl rfl (OpP.assign rfl) ?_
        refine JL.pure rfl rfl (OpP.assign rfl) ?_
        refine JL.nil ?_
        refine J.seq ?_
        refine J.region ?_
        refine JL.pure rfl rfl (OpP.move rfl) ?_
        refine JL.step rfl rfl (OpW.call (first := []) (captured := []) inferInstance rfl rfl (allNone hn hP hfw hr hall)) ?_; rintro r36 _ ⟨rfl, rfl⟩
        refine JL.pure rfl rfl (OpP.move rfl) ?_
        refine JL.pure rfl rfl (OpP.extract rfl rfl) ?_
        refine JL.pure rfl rfl (OpP.extract rfl rfl) ?_
        refine JL.pure rfl rfl (OpP.assign rfl) ?_
        refine JL.pure rfl rfl (OpP.assign rfl) ?_
        refine JL.nil ?_
        refine J.seq ?_
        refine J.seq ?_
        refine J.region ?_
        refine JL.pure rfl rfl (OpP.move rfl) ?_
        refine JL.pure rfl rfl (OpP.notB rfl) ?_
        refine JL.nil ?_
        refine J.condT rfl ?_
        refine J.seq ?_
        refine J.region ?_
        refine JL.pure rfl rfl (OpP.move rfl) ?_
        refine JL.decT rfl rfl (OpP.eql rfl rfl) (by omega) ?_
        refine JL.pure rfl rfl (OpP.move rfl) ?_
        refine JL.pure rfl rfl (OpP.move rfl) ?_
        refine JL.pure rfl rfl (OpP.len rfl rfl) ?_
        refine JL.decT rfl rfl (OpP.eql rfl rfl) (by omega) ?_
        refine JL.pure rfl rfl (OpP.pickT rfl rfl) ?_
        refine JL.pure rfl rfl (OpP.assign rfl) ?_
        refine JL.nil ?_
        refine J.ret1 rfl rfl ?_
        rfl
theorem Fm.partP {w0 : World} {cs : List Value} (h : Fm Try.prog w0 31 cs) : ∃ p : Pa, ((0 ≤ p.kd ∧ p.kd ≤ 255) ∧ (-9223372036854775808 ≤ p.n ∧ p.n ≤ 9223372036854775807) ∧ InR p.u.i p.u.xs ∧ ∀ l, RdO w0 l (.slice p.u.a p.u.xs.length p.u.c) p.u.xs.length (p.u.xs.flatMap ecl)) ∧ cs = pac p := by
  have h := h.fields (l := [(5, 1), (2, 1), (9, 1), (29, 4)]) (by kernel_rfl)
  obtain ⟨c0, cs, rfl, f0, h⟩ := h.one
  obtain ⟨c1, cs, rfl, f1, h⟩ := h.one
  obtain ⟨c2, cs, rfl, f2, h⟩ := h.one
  obtain ⟨d, cs, rfl, _, f3, h⟩ := h.many
  cases h
  obtain ⟨kd, e0, k0⟩ := f0.int (k := .u8) (by kernel_rfl)
  obtain ⟨n, e1, k1⟩ := f1.int (k := .i64) (by kernel_rfl)
  obtain ⟨t, e2, _⟩ := f2.str (by kernel_rfl)
  simp [Lit.wf, IntKind.min, IntKind.max, IntKind.signed, IntKind.bits] at k0 k1
  cases e0; cases e1; cases e2
  obtain ⟨k, i, s, a, c, xs, hI, e, hr⟩ := Fm.val f3
  subst e
  exact ⟨⟨kd, n, t.data.toList, ⟨k, i, s, xs, a, c⟩⟩, ⟨k0, k1, hI, fun l => (hr l).o⟩, by simp [pac, vcl, strB]⟩
theorem CodecWrites_law {W : World} {a : Option Addr} {n c : Nat} (h : Fm Try.prog W 26 [.slice a n c]) :
    Calls Try.prog 6 #[.slice a n c] W fun e w' => e = .returned (.bool true) ∧ Below W.heap.size W w' := by
  obtain ⟨ps, hp, hm, hr⟩ := Fm.rows (f := pac) (Q := fun p => (0 ≤ p.kd ∧ p.kd ≤ 255) ∧ (-9223372036854775808 ≤ p.n ∧ p.n ≤ 9223372036854775807) ∧ InR p.u.i p.u.xs ∧ ∀ l, RdO W l (.slice p.u.a p.u.xs.length p.u.c) p.u.xs.length (p.u.xs.flatMap ecl)) (e := 31) (by kernel_rfl) (sz := 7) (by kernel_rfl) (by decide) h fun cs _ hf => Fm.partP hf
  obtain ⟨a', c', e⟩ := (hr []).lit
  cases e
  have hm2 : maxLen ≤ 9223372036854775807 := by decide
  exact FnO.law (CodecWrites_ok (by omega) ⟨fun p hq => (hp p hq).1.1, fun p hq => (hp p hq).1.2.1, fun p hq => (hp p hq).1.2.2.1, fun p hq => (hp p hq).1.2.2.2 []⟩ (hr []).o) (Own.nil W)
end Go.Proofs.E

-- seat e
namespace Go.Proofs.E
open Go Go.Gp Go.RowKit

/-- Parts that were read, and what is left. -/
structure GoodR (w0 : World) (T : List HProp) (l : List UInt8) (ps : List Pa) (M : List UInt8) : Prop where
  eq : l = restP ps ++ M
  all : ∀ p ∈ ps, (∃ bs, partB p = some bs) ∧ (0 ≤ p.kd ∧ p.kd ≤ 255) ∧ (-9223372036854775808 ≤ p.n ∧ p.n ≤ 9223372036854775807) ∧ FewP p ∧ RdO w0 T (.slice p.u.a p.u.xs.length p.u.c) p.u.xs.length (p.u.xs.flatMap ecl)
theorem restP_snoc {ps : List Pa} {p : Pa} {bs : List UInt8} (h : partB p = some bs) : restP (ps ++ [p]) = restP ps ++ bs := by
  rw [restP, List.flatMap_append, List.flatMap_cons, List.flatMap_nil, List.append_nil, h]; rfl
theorem GoodR.step {w0 : World} {T T' : List HProp} {l M0 M1 bs : List UInt8} {ps : List Pa} {p : Pa} (h : GoodR w0 T l ps M0) (hT : ∀ w, Own w0 w T' → Own w0 w T) (hb : partB p = some bs) (hM : M0 = bs ++ M1) (hk : 0 ≤ p.kd ∧ p.kd ≤ 255) (hN : -9223372036854775808 ≤ p.n ∧ p.n ≤ 9223372036854775807) (hf : FewP p) (hr : RdO w0 T' (.slice p.u.a p.u.xs.length p.u.c) p.u.xs.length (p.u.xs.flatMap ecl)) : GoodR w0 T' l (ps ++ [p]) M1 :=
  ⟨by rw [restP_snoc hb, List.append_assoc, ← hM]; exact h.eq, fun q hq => by
    rcases List.mem_append.1 hq with hq | hq
    · obtain ⟨a1, a2, a3, a4, a5⟩ := h.all q hq
      exact ⟨a1, a2, a3, a4, a5.conv hT⟩
    · obtain rfl := List.mem_singleton.1 hq
      exact ⟨⟨bs, hb⟩, hk, hN, hf, hr⟩⟩
theorem allF_rest : ∀ {ps : List Pa} {M : List UInt8}, (∀ p ∈ ps, ∃ bs, partB p = some bs) → (M ++ restP ps).length ≤ 4096 → allF (some M) ps = some (M ++ restP ps)
  | [], M, _, _ => by rw [show restP [] = [] from rfl, List.append_nil]; rfl
  | p :: ps, M, h, hl => by
    obtain ⟨bs, hb⟩ := h p (by simp)
    have e : restP (p :: ps) = bs ++ restP ps := by rw [restP, List.flatMap_cons, hb]; rfl
    rw [e, ← List.append_assoc] at hl ⊢
    rw [allF, List.foldl_cons, hb, Option.bind_some]
    rw [show putO (some M) bs = some (M ++ bs) by simp only [putO, Option.bind_some]; rw [if_pos (by rw [List.length_append, List.length_append] at hl; omega)]]
    exact allF_rest (fun q hq => h q (by simp [hq])) hl
abbrev zVa : Va := ⟨0, 0, [], [], none, 0⟩
theorem few_zVa : FewU zVa := ⟨Nat.zero_le _, Nat.zero_le _, fun _ _ h => by simp at h⟩
theorem rd_zVa {w0 : World} {T : List HProp} : RdO w0 T (.slice zVa.a zVa.xs.length zVa.c) zVa.xs.length (zVa.xs.flatMap ecl) := RdO.nil0
abbrev pNum (kd n : Int) : Pa := ⟨kd, n, [], zVa⟩
abbrev pTxt (kd : Int) (t : List UInt8) : Pa := ⟨kd, 0, t, zVa⟩
theorem i64_rng (n : Nat) : -9223372036854775808 ≤ i64 n ∧ i64 n ≤ 9223372036854775807 := by
  unfold i64
  simp only [IntKind.wrap, IntKind.signed, IntKind.bits, Bool.true_and, decide_eq_true_eq, ge_iff_le]
  split <;> omega
variable {w0 : World} {T : List HProp} {l : List UInt8} {ps : List Pa} {kd : Int} {o o' : Option (List UInt8)}
theorem restO_or {o : Option (List UInt8)} {n : Int} {R : List UInt8} (h : restO o n = some R) : ∃ M, o = some M := by
  cases o with
  | none => cases h
  | some M => exact ⟨M, rfl⟩
theorem next_num {size : Nat} (hs : kd % 8 = 0 ∧ size = 1 ∨ kd % 8 = 1 ∧ size = 2 ∨ kd % 8 = 2 ∧ size = 4) (hk : 0 ≤ kd ∧ kd ≤ 255) (hG : ∀ M, o = some M → GoodR w0 T l ps M) (ho : o' = restO o (size : Nat)) (M1 : List UInt8) (h : o' = some M1) : GoodR w0 T l (ps ++ [pNum kd (numI o size : Nat)]) M1 := by
  rw [ho] at h
  obtain ⟨M, rfl⟩ := restO_or h
  have hm := take_be h
  have hl : numI (some M) size < 256 ^ size := numI_lt
  refine (hG M rfl).step (fun _ h => h) (bs := be (numI (some M) size) size) ?_ hm hk ?_ ⟨Nat.zero_le _, few_zVa⟩ rd_zVa
  · rcases hs with ⟨h0, rfl⟩ | ⟨h0, rfl⟩ | ⟨h0, rfl⟩
    · rw [partB, if_pos h0, if_neg (by dsimp only; omega)]; rfl
    · rw [partB, if_neg (by dsimp only; omega), if_pos h0, if_neg (by dsimp only; omega)]; rfl
    · rw [partB, if_neg (by dsimp only; omega), if_neg (by dsimp only; omega), if_pos h0, if_neg (by dsimp only; omega)]; rfl
  · rcases hs with ⟨h0, rfl⟩ | ⟨h0, rfl⟩ | ⟨h0, rfl⟩ <;> dsimp only <;> omega
theorem next_i64 (hs : kd % 8 = 3) (hk : 0 ≤ kd ∧ kd ≤ 255) (hG : ∀ M, o = some M → GoodR w0 T l ps M) (ho : o' = restO o 8) (M1 : List UInt8) (h : o' = some M1) : GoodR w0 T l (ps ++ [pNum kd (i64 (numI o 8))]) M1 := by
  rw [ho] at h
  obtain ⟨M, rfl⟩ := restO_or h
  have hm := take_be (n := 8) h
  refine (hG M rfl).step (fun _ h => h) (bs := be (numI (some M) 8) 8) ?_ hm hk (i64_rng _) ⟨Nat.zero_le _, few_zVa⟩ rd_zVa
  rw [partB, if_neg (by dsimp only; omega), if_neg (by dsimp only; omega), if_neg (by dsimp only; omega), if_pos hs, u64_i64 numI_le]
theorem next_flag {n : Int} (hs : kd % 8 = 4) (hk : 0 ≤ kd ∧ kd ≤ 255) (hn : n = 1 ∧ numI o 1 = 1 ∨ n = 0 ∧ ¬ numI o 1 = 1) (hG : ∀ M, o = some M → GoodR w0 T l ps M) (ho : o' = flagO o) (M1 : List UInt8) (h : o' = some M1) : GoodR w0 T l (ps ++ [pNum kd n]) M1 := by
  rw [ho, flagO] at h
  split at h
  · cases h
  rename_i hle
  obtain ⟨M, rfl⟩ := restO_or h
  have hm := take_be (n := 1) h
  refine (hG M rfl).step (fun _ h => h) (bs := be (numI (some M) 1) 1) ?_ hm hk (by dsimp only; omega) ⟨Nat.zero_le _, few_zVa⟩ rd_zVa
  rw [partB, if_neg (by dsimp only; omega), if_neg (by dsimp only; omega), if_neg (by dsimp only; omega), if_neg (by dsimp only; omega), if_pos hs]
  rcases hn with ⟨rfl, h1⟩ | ⟨rfl, h1⟩
  · rw [h1]; rfl
  · rw [show numI (some M) 1 = 0 by omega]; rfl
theorem next_text (hs : kd % 8 = 5) (hk : 0 ≤ kd ∧ kd ≤ 255) (hG : ∀ M, o = some M → GoodR w0 T l ps M) (ho : o' = textR o 4096) (M1 : List UInt8) (h : o' = some M1) : GoodR w0 T l (ps ++ [pTxt kd (textV o 4096)]) M1 := by
  rw [ho] at h
  unfold textR at h
  unfold textV
  split at h
  · cases h
  rename_i hc
  rw [if_neg hc]
  obtain ⟨Q, hq⟩ := restO_or h
  obtain ⟨M, rfl⟩ := restO_or hq
  have hm := take_be (n := 2) hq
  rw [hq] at h ⊢
  obtain ⟨h1, h2, h3⟩ := restO_some h
  have hl : (gotO (some Q) (numI (some M) 2 : Nat)).length = numI (some M) 2 := by rw [h3, List.length_take]; omega
  refine (hG M rfl).step (fun _ h => h) (bs := be (numI (some M) 2) 2 ++ gotO (some Q) (numI (some M) 2 : Nat)) ?_ ?_ hk (by dsimp only; omega) ⟨by dsimp only; omega, few_zVa⟩ rd_zVa
  · rw [partB, if_neg (by dsimp only; omega), if_neg (by dsimp only; omega), if_neg (by dsimp only; omega), if_neg (by dsimp only; omega), if_neg (by dsimp only; omega), if_pos hs]
    dsimp only
    rw [hl, if_neg (by omega)]
  · rw [List.append_assoc, h3, h1, List.take_append_drop]
    exact hm
theorem next_raw {n : Int} (hs : kd % 8 = 6) (hk : 0 ≤ kd ∧ kd ≤ 255) (h0 : 0 ≤ n) (h1 : n ≤ 32) (hG : ∀ M, o = some M → GoodR w0 T l ps M) (ho : o' = restO o n) (M1 : List UInt8) (h : o' = some M1) : GoodR w0 T l (ps ++ [pTxt kd (gotO o n)]) M1 := by
  obtain ⟨m, rfl⟩ := Int.eq_ofNat_of_zero_le h0
  rw [ho] at h
  obtain ⟨M, rfl⟩ := restO_or h
  obtain ⟨h1, h2, h3⟩ := restO_some h
  have hl := gotO_le (o := some M) (n := m)
  refine (hG M rfl).step (fun _ h => h) (bs := gotO (some M) (m : Nat)) ?_ (by rw [h3, h1, List.take_append_drop]) hk (by dsimp only; omega) ⟨by dsimp only; omega, few_zVa⟩ rd_zVa
  rw [partB, if_neg (by dsimp only; omega), if_neg (by dsimp only; omega), if_neg (by dsimp only; omega), if_neg (by dsimp only; omega), if_neg (by dsimp only; omega), if_neg (by dsimp only; omega), if_pos hs]
theorem decO_none : decO none = none := by
  rw [decO, if_neg (by simp [numI, gotO, nat8]), elR, restO_none, plainR_none]
theorem next_val {T' : List HProp} {a : Option Addr} {c : Nat} {M1 : List UInt8} (hs : kd % 8 = 7) (hk : 0 ≤ kd ∧ kd ≤ 255) (hG : ∀ M, o = some M → GoodR w0 T l ps M) (ho : decO o = some M1) (hf : (decV o).Formed) (hT : ∀ w, Own w0 w T' → Own w0 w T) (hr : RdO w0 T' (.slice a (decV o).xs.length c) (decV o).xs.length ((decV o).xs.flatMap ecl)) : GoodR w0 T' l (ps ++ [⟨kd, 0, [], ⟨(decV o).k, (decV o).i, (decV o).s, (decV o).xs, a, c⟩⟩]) M1 := by
  have hz : ∃ M, o = some M := by
    cases o with
    | some M => exact ⟨M, rfl⟩
    | none => rw [decO_none] at ho; cases ho
  obtain ⟨M, rfl⟩ := hz
  have hm := dec_sound ho hf
  refine (hG M rfl).step hT ?_ hm hk (by dsimp only; omega) ⟨Nat.zero_le _, ?_⟩ hr
  · rw [partB, if_neg (by dsimp only; omega), if_neg (by dsimp only; omega), if_neg (by dsimp only; omega), if_neg (by dsimp only; omega), if_neg (by dsimp only; omega), if_neg (by dsimp only; omega), if_neg (by dsimp only; omega), if_pos hf]
  · unfold Vv.Formed FormedP at hf
    split at hf
    · have h1 := hf.1
      have h2 := hf.2.1
      exact ⟨by dsimp only; omega, by dsimp only; omega, fun j e he => by have := (List.getElem?_eq_some_iff.1 he).1; dsimp only at this; omega⟩
    · obtain ⟨f1, f2, f3, f4⟩ := hf
      refine ⟨by dsimp only; omega, by dsimp only; omega, fun j e he => ?_⟩
      obtain ⟨g1, _⟩ := f4 j e he
      exact ⟨by have := g1.2.1; omega, g1.1⟩
end Go.Proofs.E

-- seat e
namespace Go.Proofs.E
open Go Go.Gp Go.RowKit

theorem allG {w0 : World} {F T : List HProp} {a : Option Addr} {c : Nat} {ps : List Pa} {L l M : List UInt8} (hn : ps.length ≤ 9223372036854775807) (hg : GoodR w0 T l ps M) (hT : ∀ w, Own w0 w F → Own w0 w T) (hr : RdO w0 F (.slice a ps.length c) ps.length (ps.flatMap pac)) (h : allF (some []) ps = some L) :
    FnO Try.prog w0 24 [.slice a ps.length c] F (fun r l' => ∃ a c, r = .tuple #[.slice a L.length c, .bool true] ∧ l' = own 5 1 (.slice a L.length c) L.length (bcells L) :: F) :=
  (all_ok hn (fun p hp => (hg.all p hp).2.1) (fun p hp => (hg.all p hp).2.2.1) (fun p hp => (hg.all p hp).2.2.2.1) hr (fun p hp => (hg.all p hp).2.2.2.2.conv hT)).mono fun r l' h2 => by
    rcases h2 with ⟨bs, a, c, h2, _, h3, h4⟩ | ⟨h2, _⟩
    · rw [h] at h2
      obtain rfl := Option.some.inj h2
      exact ⟨a, c, h3, h4⟩
    · rw [h] at h2; cases h2
theorem CodecReads_ok {w0 : World} {a a2 : Option Addr} {c c2 : Nat} {l kb : List UInt8} (hl : l.length ≤ 9223372036854775807) (hkl : kb.length ≤ 9223372036854775807) (hr : RdO w0 [] (.slice a l.length c) l.length (bcells l)) (hk : RdO w0 [] (.slice a2 kb.length c2) kb.length (bcells kb)) :
    FnO Try.prog w0 3 [.slice a l.length c, .slice a2 kb.length c2] [] (fun v _ => v = .bool true) := by
  have hlen : ∀ p : Pa, (pac p).length = 7 := fun _ => rfl
  refine FnO.rdF (fun _ h => h) hk fun hk1 => ?_
  refine FnO.intro (n := 107) Try.func3 rfl rfl rfl ?_
  refine J.seq ?_
  refine J.region ?_
  refine JL.pure rfl rfl (OpP.assign rfl) ?_
  refine JL.nil ?_
  refine J.seq ?_
  refine J.seq ?_
  refine J.region ?_
  refine JL.step rfl rfl (OpW.call (first := []) (captured := []) inferInstance rfl rfl awake_ok) ?_; rintro r11 _ ⟨rfl, rfl⟩
  refine JL.pure rfl rfl (OpP.notB rfl) ?_
  refine JL.pure rfl rfl (OpP.move rfl) ?_
  refine JL.pure rfl rfl (OpP.move rfl) ?_
  refine JL.pure rfl rfl (OpP.len rfl rfl) ?_
  refine JL.dec rfl rfl (OpP.gtr rfl rfl) (fun h16 => ?_) (fun h16 => ?_)
  focus
    refine JL.pure rfl rfl (OpP.pickF rfl rfl) ?_
    refine JL.pure rfl rfl (OpP.move rfl) ?_
    refine JL.skip rfl rfl ?_
    refine JL.skip rfl rfl ?_
    refine JL.skip rfl rfl ?_
    refine JL.pure rfl rfl (OpP.pickT rfl rfl) ?_
    refine JL.nil ?_
    refine J.condT rfl ?_
    refine J.seq ?_
    refine J.region ?_
    refine JL.step rfl rfl (OpW.call (first := []) (captured := []) inferInstance rfl rfl awake_ok) ?_; rintro r23 _ ⟨rfl, rfl⟩
    refine JL.pure rfl rfl (OpP.assign rfl) ?_
    refine JL.nil ?_
    refine J.ret1 rfl rfl ?_
  rotate_left 1
  focus
    refine JL.pure rfl rfl (OpP.pickF rfl rfl) ?_
    refine JL.pure rfl rfl (OpP.move rfl) ?_
    refine JL.pure rfl rfl (OpP.move rfl) ?_
    refine JL.pure rfl rfl (OpP.len rfl rfl) ?_
    refine JL.dec rfl rfl (OpP.gtr rfl rfl) (fun h21 => ?_) (fun h21 => ?_)
    focus
      refine JL.pure rfl rfl (OpP.pickF rfl rfl) ?_
      refine JL.nil ?_
      refine J.condT rfl ?_
      refine J.seq ?_
      refine J.region ?_
      refine JL.step rfl rfl (OpW.call (first := []) (captured := []) inferInstance rfl rfl awake_ok) ?_; rintro r23 _ ⟨rfl, rfl⟩
      refine JL.pure rfl rfl (OpP.assign rfl) ?_
      refine JL.nil ?_
      refine J.ret1 rfl rfl ?_
    rotate_left 1
    focus
      refine JL.pure rfl rfl (OpP.pickF rfl rfl) ?_
      refine JL.nil ?_
      refine J.condF rfl ?_
      refine J.skip ?_
      refine J.seq ?_
      refine J.region ?_
      refine JL.pure rfl rfl (OpP.move rfl) ?_
      refine JL.step rfl rfl (OpW.call (first := []) (captured := []) inferInstance rfl rfl (read_ok (l := l) (by omega) (hr.conv fun _ h => h.none))) ?_; rintro r25 _ ⟨g, ⟨v', ⟨rfl, rfl⟩⟩⟩
      refine JL.lit (.tail .head) fun av' cv' ev' => ?_; subst ev'
      refine JL.pure rfl rfl (OpP.assign rfl) ?_
      refine JL.nil ?_
      refine J.seq ?_
      refine J.region ?_
      refine JL.pure rfl rfl (OpP.assign rfl) ?_
      refine JL.nil ?_
      refine J.seq ?_
      refine J.seq ?_
      refine J.region ?_
      refine JL.pure rfl rfl (OpP.assign rfl) ?_
      refine JL.nil ?_
      refine J.block ?_
    rotate_left 1
  rotate_left 2
  · rfl
  · rfl
  refine J.loopI (fun x : Nat × Bool × Value × List UInt8 × Value × List Pa × List HProp => kb.length - x.1) (fun x => x.1 ≤ kb.length ∧ x.2.2.2.1.length ≤ 1000000000 ∧ x.2.2.2.2.2.1.length = x.1 ∧ ∀ M, absO x.2.1 x.2.2.2.1 = some M → GoodR w0 x.2.2.2.2.2.2 l x.2.2.2.2.2.1 M) (fun x => [(7, .int .i64 (x.1 : Nat)), (6, x.2.2.2.2.1), (5, .pointer (some ⟨g, 0, none⟩)), (1, .slice a2 kb.length c2), (0, .slice a l.length c)])
    (fun x => own 31 7 x.2.2.2.2.1 x.1 (x.2.2.2.2.2.1.flatMap pac) :: inL g x.2.1 x.2.2.1 x.2.2.2.1 x.2.2.2.2.2.2) (0, false, .slice av' l.length cv', l, .slice none 0 0, [], []) ⟨Nat.zero_le _, by dsimp only; omega, rfl, fun M h => by obtain rfl := Option.some.inj h; exact ⟨rfl, fun _ h => by cases h⟩⟩ (by repeat (first | exact SubEnv.nil | refine SubEnv.cons (by first | rfl | exact congrArg (fun z => some (Value.int .i64 z)) (by omega) | (simp; done)) ?_)) (fun _ h => h.own_nil) (fun ⟨j, bad, z, M, u, ps, T⟩ hi back => ?_)
  dsimp only at hi back ⊢
  obtain ⟨hj, hM, hps, hG⟩ := hi
  by_cases hlt : j < kb.length
  · obtain ⟨k, hkj⟩ : ∃ e, kb[j]? = some e := ⟨_, List.getElem?_eq_getElem hlt⟩
    have hbk : (bcells kb)[j]? = some (u8c k) := by rw [bcells_get, hkj]; rfl
    have hkn := k.toNat_lt
    have hk255 : (0 : Int) ≤ (k.toNat : Int) ∧ (k.toNat : Int) ≤ 255 := by omega
    refine J.lit .head fun au cu eu => ?_; subst eu
    refine J.lit (.tail (.tail .head)) fun az cz ez => ?_; subst ez
    refine J.seq ?_
    refine J.seq ?_
    refine J.region ?_
    refine JL.pure rfl rfl (OpP.move rfl) ?_
    refine JL.pure rfl rfl (OpP.move rfl) ?_
    refine JL.pure rfl rfl (OpP.len rfl rfl) ?_
    refine JL.decT rfl rfl (OpP.lss rfl rfl) (by omega) ?_
    refine JL.nil ?_
    refine J.condT rfl ?_
    refine J.skip ?_
    refine J.seq ?_
    refine J.block ?_
    refine J.seq ?_
    refine J.region ?_
    refine JL.pure rfl rfl (OpP.move rfl) ?_
    refine JL.pure rfl rfl (OpP.move rfl) ?_
    obtain ⟨ga2, pa2, qa2, ea2, ka2, ca2⟩ := hk1.pos (by omega); cases ea2
    refine JL.pure rfl rfl (OpP.indexAddr rfl rfl (by omega) (by omega)) ?_
    refine JL.read rfl rfl (OpR.load1 rfl (by apply Cells.cell ca2 (fun _ h => h.none); (case' hv => assumption); (case' ho => omega); done)) ?_
    refine JL.pure rfl rfl (OpP.build rfl (by (repeat (first | exact Fills.nil | (apply Fills.cons rfl rfl rfl; (case' hs => ((repeat (first | exact Spl.nil | apply Spl.here | apply Spl.there)); done))))))) ?_
    refine JL.mem rfl rfl OpM.alloc ?_; rintro _ _ ⟨b8, rfl, rfl⟩
    refine JL.mem0 rfl (by apply OpM.storeN rfl rfl (by rfl) (oneC rfl (oneC rfl (oneC rfl (oneC rfl (oneC rfl (oneC rfl (one1 rfl))))))); (case' hu => exact .head); (case' hs => exact (.here (.here (.here (.here (.here (.here (.here .nil)))))))); done) ?_; rintro _ _ ⟨rfl, rfl⟩
    refine JL.nil ?_
    refine J.seq ?_
    refine J.seq ?_
    refine J.region ?_
    refine JL.pure rfl rfl (OpP.move rfl) ?_
    refine JL.pure rfl rfl (OpP.move rfl) ?_
    refine JL.pure rfl rfl (OpP.indexAddr rfl rfl (by omega) (by omega)) ?_
    refine JL.read rfl rfl (OpR.load1 rfl (by apply Cells.cell ca2 (fun _ h => h.none); (case' hv => assumption); (case' ho => omega); done)) ?_
    refine JL.pure rfl rfl (OpP.remI rfl rfl (by first | omega | exact Int.natCast_nonneg _) (by omega)) ?_
    refine JL.nil ?_
    refine J.block ?_
    by_cases k0 : (k.toNat : Int) % 8 = 0
    · refine J.seq ?_
      refine J.region ?_
      refine JL.decT rfl rfl (OpP.eql rfl rfl) (by omega) ?_
      refine JL.pure rfl rfl (OpP.assign rfl) ?_
      refine JL.nil ?_
      refine J.condT rfl ?_
      refine J.region ?_
      refine JL.pure rfl rfl (OpP.move rfl) ?_
      refine JL.f3 ?_; refine JL.f3 ?_; refine JL.step rfl rfl (OpW.call (first := []) (captured := []) inferInstance rfl rfl (inU8_ok hM)) ?_; rintro r48 _ ⟨bad', ⟨v', ⟨M', ⟨h48, ⟨h481, ⟨rfl, rfl⟩⟩⟩⟩⟩⟩
      refine JL.lit (.tail .head) fun av' cv' ev' => ?_; subst ev'
      refine JL.pure rfl rfl (OpP.fieldAddr rfl) ?_
      refine JL.mem0 rfl (by apply OpM.store1 rfl rfl rfl; (case' hu => exact (.tail (.tail .head))); (case' hs => exact (.there (.here .nil))); done) ?_; rintro _ _ ⟨rfl, rfl⟩
      refine JL.nil ?_
      refine J.inBlock ?_
      refine J.region ?_
      refine JL.pure rfl rfl (OpP.move rfl) ?_
      refine JL.read rfl rfl (OpR.loadN rfl (Cells.full (.tail (.tail .head))) rfl) ?_
      refine JL.mem rfl rfl (by apply OpM.buildSlice (by rfl) rfl (by rfl); (repeat (first | exact Fills.nil | (apply Fills.cons rfl rfl rfl; (case' hs => ((repeat (first | exact Spl.nil | apply Spl.here | apply Spl.there)); done)))))) ?_; rintro _ _ ⟨b89, rfl, rfl⟩
      refine JL.f4 ?_; refine JL.mem rfl rfl (OpM.appendH rfl (.inl ⟨_, Sl.und inferInstance⟩) (by rfl) rfl rfl (RdO.src (RdO.ofRow (.tail .head) (by first | exact Nat.le_refl _ | decide | omega)) (by first | assumption | exact fc_length _ _ | (simp; done) | (simp; omega))) (oneC rfl (oneC rfl (oneC rfl (oneC rfl (oneC rfl (oneC rfl (one1 rfl))))))) (by simp only [maxLen]; omega) (by omega)) ?_; rintro _ _ ⟨⟨a90, c90, rfl⟩, rfl⟩
      refine JL.pure rfl rfl (OpP.assign rfl) ?_
      refine JL.nil ?_
      refine J.inBlock ?_
      refine J.region ?_
      refine JL.pure rfl rfl (OpP.move rfl) ?_
      refine JL.pure rfl rfl (OpP.addI rfl rfl (by omega) (by omega)) ?_
      refine JL.pure rfl rfl (OpP.assign rfl) ?_
      refine JL.nil ?_
      refine back (j + 1, bad', .slice av' M'.length cv', M', .slice a90 (j + 1) c90, ps ++ [pNum k.toNat (numI (absO bad M) 1 : Nat)], T) ⟨by dsimp only; omega, h48, by dsimp only; rw [List.length_append, hps]; rfl, next_num (.inl ⟨k0, rfl⟩) hk255 hG h481⟩ (by dsimp only; omega) (by repeat (first | exact SubEnv.nil | refine SubEnv.cons (by first | rfl | exact congrArg (fun z => some (Value.int .i64 z)) (by omega) | (simp; done)) ?_)) (fun _ h => ?_)
      dsimp only
      rw [List.flatMap_append]
      exact Own.pick (pre := [_, _, _, _, _]) [0, 2, 3] rfl h
    by_cases k1 : (k.toNat : Int) % 8 = 1
    · refine J.seq ?_
      refine J.region ?_
      refine JL.decF rfl rfl (OpP.eql rfl rfl) (by omega) ?_
      refine JL.pure rfl rfl (OpP.assign rfl) ?_
      refine JL.nil ?_
      refine J.condF rfl ?_
      refine J.seq ?_
      refine J.region ?_
      refine JL.decT rfl rfl (OpP.eql rfl rfl) (by omega) ?_
      refine JL.pure rfl rfl (OpP.assign rfl) ?_
      refine JL.nil ?_
      refine J.condT rfl ?_
      refine J.region ?_
      refine JL.pure rfl rfl (OpP.move rfl) ?_
      refine JL.f3 ?_; refine JL.f3 ?_; refine JL.step rfl rfl (OpW.call (first := []) (captured := []) inferInstance rfl rfl (inU16_ok hM)) ?_; rintro r53 _ ⟨bad', ⟨v', ⟨M', ⟨h53, ⟨h531, ⟨rfl, rfl⟩⟩⟩⟩⟩⟩
      refine JL.lit (.tail .head) fun av' cv' ev' => ?_; subst ev'
      refine JL.pure rfl rfl (OpP.fieldAddr rfl) ?_
      refine JL.mem0 rfl (by apply OpM.store1 rfl rfl rfl; (case' hu => exact (.tail (.tail .head))); (case' hs => exact (.there (.here .nil))); done) ?_; rintro _ _ ⟨rfl, rfl⟩
      refine JL.nil ?_
      refine J.inBlock ?_
      refine J.region ?_
      refine JL.pure rfl rfl (OpP.move rfl) ?_
      refine JL.read rfl rfl (OpR.loadN rfl (Cells.full (.tail (.tail .head))) rfl) ?_
      refine JL.mem rfl rfl (by apply OpM.buildSlice (by rfl) rfl (by rfl); (repeat (first | exact Fills.nil | (apply Fills.cons rfl rfl rfl; (case' hs => ((repeat (first | exact Spl.nil | apply Spl.here | apply Spl.there)); done)))))) ?_; rintro _ _ ⟨b89, rfl, rfl⟩
      refine JL.f4 ?_; refine JL.mem rfl rfl (OpM.appendH rfl (.inl ⟨_, Sl.und inferInstance⟩) (by rfl) rfl rfl (RdO.src (RdO.ofRow (.tail .head) (by first | exact Nat.le_refl _ | decide | omega)) (by first | assumption | exact fc_length _ _ | (simp; done) | (simp; omega))) (oneC rfl (oneC rfl (oneC rfl (oneC rfl (oneC rfl (oneC rfl (one1 rfl))))))) (by simp only [maxLen]; omega) (by omega)) ?_; rintro _ _ ⟨⟨a90, c90, rfl⟩, rfl⟩
      refine JL.pure rfl rfl (OpP.assign rfl) ?_
      refine JL.nil ?_
      refine J.inBlock ?_
      refine J.region ?_
      refine JL.pure rfl rfl (OpP.move rfl) ?_
      refine JL.pure rfl rfl (OpP.addI rfl rfl (by omega) (by omega)) ?_
      refine JL.pure rfl rfl (OpP.assign rfl) ?_
      refine JL.nil ?_
      refine back (j + 1, bad', .slice av' M'.length cv', M', .slice a90 (j + 1) c90, ps ++ [pNum k.toNat (numI (absO bad M) 2 : Nat)], T) ⟨by dsimp only; omega, h53, by dsimp only; rw [List.length_append, hps]; rfl, next_num (.inr (.inl ⟨k1, rfl⟩)) hk255 hG h531⟩ (by dsimp only; omega) (by repeat (first | exact SubEnv.nil | refine SubEnv.cons (by first | rfl | exact congrArg (fun z => some (Value.int .i64 z)) (by omega) | (simp; done)) ?_)) (fun _ h => ?_)
      dsimp only
      rw [List.flatMap_append]
      exact Own.pick (pre := [_, _, _, _, _]) [0, 2, 3] rfl h
    by_cases k2 : (k.toNat : Int) % 8 = 2
    · refine J.seq ?_
      refine J.region ?_
      refine JL.decF rfl rfl (OpP.eql rfl rfl) (by omega) ?_
      refine JL.pure rfl rfl (OpP.assign rfl) ?_
      refine JL.nil ?_
      refine J.condF rfl ?_
      refine J.seq ?_
      refine J.region ?_
      refine JL.decF rfl rfl (OpP.eql rfl rfl) (by omega) ?_
      refine JL.pure rfl rfl (OpP.assign rfl) ?_
      refine JL.nil ?_
      refine J.condF rfl ?_
      refine J.seq ?_
      refine J.region ?_
      refine JL.decT rfl rfl (OpP.eql rfl rfl) (by omega) ?_
      refine JL.pure rfl rfl (OpP.assign rfl) ?_
      refine JL.nil ?_
      refine J.condT rfl ?_
      refine J.region ?_
      refine JL.pure rfl rfl (OpP.move rfl) ?_
      refine JL.f3 ?_; refine JL.f3 ?_; refine JL.step rfl rfl (OpW.call (first := []) (captured := []) inferInstance rfl rfl (inU32_ok hM)) ?_; rintro r58 _ ⟨bad', ⟨v', ⟨M', ⟨h58, ⟨h581, ⟨rfl, rfl⟩⟩⟩⟩⟩⟩
      refine JL.lit (.tail .head) fun av' cv' ev' => ?_; subst ev'
      refine JL.pure rfl rfl (OpP.fieldAddr rfl) ?_
      refine JL.mem0 rfl (by apply OpM.store1 rfl rfl rfl; (case' hu => exact (.tail (.tail .head))); (case' hs => exact (.there (.here .nil))); done) ?_; rintro _ _ ⟨rfl, rfl⟩
      refine JL.nil ?_
      refine J.inBlock ?_
      refine J.region ?_
      refine JL.pure rfl rfl (OpP.move rfl) ?_
      refine JL.read rfl rfl (OpR.loadN rfl (Cells.full (.tail (.tail .head))) rfl) ?_
      refine JL.mem rfl rfl (by apply OpM.buildSlice (by rfl) rfl (by rfl); (repeat (first | exact Fills.nil | (apply Fills.cons rfl rfl rfl; (case' hs => ((repeat (first | exact Spl.nil | apply Spl.here | apply Spl.there)); done)))))) ?_; rintro _ _ ⟨b89, rfl, rfl⟩
      refine JL.f4 ?_; refine JL.mem rfl rfl (OpM.appendH rfl (.inl ⟨_, Sl.und inferInstance⟩) (by rfl) rfl rfl (RdO.src (RdO.ofRow (.tail .head) (by first | exact Nat.le_refl _ | decide | omega)) (by first | assumption | exact fc_length _ _ | (simp; done) | (simp; omega))) (oneC rfl (oneC rfl (oneC rfl (oneC rfl (oneC rfl (oneC rfl (one1 rfl))))))) (by simp only [maxLen]; omega) (by omega)) ?_; rintro _ _ ⟨⟨a90, c90, rfl⟩, rfl⟩
      refine JL.pure rfl rfl (OpP.assign rfl) ?_
      refine JL.nil ?_
      refine J.inBlock ?_
      refine J.region ?_
      refine JL.pure rfl rfl (OpP.move rfl) ?_
      refine JL.pure rfl rfl (OpP.addI rfl rfl (by omega) (by omega)) ?_
      refine JL.pure rfl rfl (OpP.assign rfl) ?_
      refine JL.nil ?_
      refine back (j + 1, bad', .slice av' M'.length cv', M', .slice a90 (j + 1) c90, ps ++ [pNum k.toNat (numI (absO bad M) 4 : Nat)], T) ⟨by dsimp only; omega, h58, by dsimp only; rw [List.length_append, hps]; rfl, next_num (.inr (.inr ⟨k2, rfl⟩)) hk255 hG h581⟩ (by dsimp only; omega) (by repeat (first | exact SubEnv.nil | refine SubEnv.cons (by first | rfl | exact congrArg (fun z => some (Value.int .i64 z)) (by omega) | (simp; done)) ?_)) (fun _ h => ?_)
      dsimp only
      rw [List.flatMap_append]
      exact Own.pick (pre := [_, _, _, _, _]) [0, 2, 3] rfl h
    by_cases k3 : (k.toNat : Int) % 8 = 3
    · refine J.seq ?_
      refine J.region ?_
      refine JL.decF rfl rfl (OpP.eql rfl rfl) (by omega) ?_
      refine JL.pure rfl rfl (OpP.assign rfl) ?_
      refine JL.nil ?_
      refine J.condF rfl ?_
      refine J.seq ?_
      refine J.region ?_
      refine JL.decF rfl rfl (OpP.eql rfl rfl) (by omega) ?_
      refine JL.pure rfl rfl (OpP.assign rfl) ?_
      refine JL.nil ?_
      refine J.condF rfl ?_
      refine J.seq ?_
      refine J.region ?_
      refine JL.decF rfl rfl (OpP.eql rfl rfl) (by omega) ?_
      refine JL.pure rfl rfl (OpP.assign rfl) ?_
      refine JL.nil ?_
      refine J.condF rfl ?_
      refine J.seq ?_
      refine J.region ?_
      refine JL.decT rfl rfl (OpP.eql rfl rfl) (by omega) ?_
      refine JL.pure rfl rfl (OpP.assign rfl) ?_
      refine JL.nil ?_
      refine J.condT rfl ?_
      refine J.region ?_
      refine JL.pure rfl rfl (OpP.move rfl) ?_
      refine JL.f3 ?_; refine JL.f3 ?_; refine JL.step rfl rfl (OpW.call (first := []) (captured := []) inferInstance rfl rfl (inI64_ok hM)) ?_; rintro r63 _ ⟨bad', ⟨v', ⟨M', ⟨h63, ⟨h631, ⟨rfl, rfl⟩⟩⟩⟩⟩⟩
      refine JL.lit (.tail .head) fun av' cv' ev' => ?_; subst ev'
      refine JL.pure rfl rfl (OpP.fieldAddr rfl) ?_
      refine JL.mem0 rfl (by apply OpM.store1 rfl rfl rfl; (case' hu => exact (.tail (.tail .head))); (case' hs => exact (.there (.here .nil))); done) ?_; rintro _ _ ⟨rfl, rfl⟩
      refine JL.nil ?_
      refine J.inBlock ?_
      refine J.region ?_
      refine JL.pure rfl rfl (OpP.move rfl) ?_
      refine JL.read rfl rfl (OpR.loadN rfl (Cells.full (.tail (.tail .head))) rfl) ?_
      refine JL.mem rfl rfl (by apply OpM.buildSlice (by rfl) rfl (by rfl); (repeat (first | exact Fills.nil | (apply Fills.cons rfl rfl rfl; (case' hs => ((repeat (first | exact Spl.nil | apply Spl.here | apply Spl.there)); done)))))) ?_; rintro _ _ ⟨b89, rfl, rfl⟩
      refine JL.f4 ?_; refine JL.mem rfl rfl (OpM.appendH rfl (.inl ⟨_, Sl.und inferInstance⟩) (by rfl) rfl rfl (RdO.src (RdO.ofRow (.tail .head) (by first | exact Nat.le_refl _ | decide | omega)) (by first | assumption | exact fc_length _ _ | (simp; done) | (simp; omega))) (oneC rfl (oneC rfl (oneC rfl (oneC rfl (oneC rfl (oneC rfl (one1 rfl))))))) (by simp only [maxLen]; omega) (by omega)) ?_; rintro _ _ ⟨⟨a90, c90, rfl⟩, rfl⟩
      refine JL.pure rfl rfl (OpP.assign rfl) ?_
      refine JL.nil ?_
      refine J.inBlock ?_
      refine J.region ?_
      refine JL.pure rfl rfl (OpP.move rfl) ?_
      refine JL.pure rfl rfl (OpP.addI rfl rfl (by omega) (by omega)) ?_
      refine JL.pure rfl rfl (OpP.assign rfl) ?_
      refine JL.nil ?_
      refine back (j + 1, bad', .slice av' M'.length cv', M', .slice a90 (j + 1) c90, ps ++ [pNum k.toNat (i64 (numI (absO bad M) 8))], T) ⟨by dsimp only; omega, h63, by dsimp only; rw [List.length_append, hps]; rfl, next_i64 k3 hk255 hG h631⟩ (by dsimp only; omega) (by repeat (first | exact SubEnv.nil | refine SubEnv.cons (by first | rfl | exact congrArg (fun z => some (Value.int .i64 z)) (by omega) | (simp; done)) ?_)) (fun _ h => ?_)
      dsimp only
      rw [List.flatMap_append]
      exact Own.pick (pre := [_, _, _, _, _]) [0, 2, 3] rfl h
    by_cases k4 : (k.toNat : Int) % 8 = 4
    · refine J.seq ?_
      refine J.region ?_
      refine JL.decF rfl rfl (OpP.eql rfl rfl) (by omega) ?_
      refine JL.pure rfl rfl (OpP.assign rfl) ?_
      refine JL.nil ?_
      refine J.condF rfl ?_
      refine J.seq ?_
      refine J.region ?_
      refine JL.decF rfl rfl (OpP.eql rfl rfl) (by omega) ?_
      refine JL.pure rfl rfl (OpP.assign rfl) ?_
      refine JL.nil ?_
      refine J.condF rfl ?_
      refine J.seq ?_
      refine J.region ?_
      refine JL.decF rfl rfl (OpP.eql rfl rfl) (by omega) ?_
      refine JL.pure rfl rfl (OpP.assign rfl) ?_
      refine JL.nil ?_
      refine J.condF rfl ?_
      refine J.seq ?_
      refine J.region ?_
      refine JL.decF rfl rfl (OpP.eql rfl rfl) (by omega) ?_
      refine JL.pure rfl rfl (OpP.assign rfl) ?_
      refine JL.nil ?_
      refine J.condF rfl ?_
      refine J.seq ?_
      refine J.region ?_
      refine JL.decT rfl rfl (OpP.eql rfl rfl) (by omega) ?_
      refine JL.pure rfl rfl (OpP.assign rfl) ?_
      refine JL.nil ?_
      refine J.condT rfl ?_
      refine J.seq ?_
      refine J.region ?_
      refine JL.pure rfl rfl (OpP.move rfl) ?_
      refine JL.f3 ?_; refine JL.f3 ?_; refine JL.step rfl rfl (OpW.call (first := []) (captured := []) inferInstance rfl rfl (inFlag_ok hM)) ?_; rintro r68 _ ⟨bad', ⟨v', ⟨M', ⟨h68, ⟨h681, ⟨rfl, rfl⟩⟩⟩⟩⟩⟩
      refine JL.lit (.tail .head) fun av' cv' ev' => ?_; subst ev'
      refine JL.nil ?_
      refine J.decAt 68 rfl (fun h68 => ?_) (fun h68 => ?_)
      focus
        refine J.condT rfl ?_
        refine J.region ?_
        refine JL.pure rfl rfl (OpP.fieldAddr rfl) ?_
        refine JL.mem0 rfl (by apply OpM.store1 rfl rfl rfl; (case' hu => exact (.tail (.tail .head))); (case' hs => exact (.there (.here .nil))); done) ?_; rintro _ _ ⟨rfl, rfl⟩
        refine JL.nil ?_
        refine J.inBlock ?_
        refine J.region ?_
        refine JL.pure rfl rfl (OpP.move rfl) ?_
        refine JL.read rfl rfl (OpR.loadN rfl (Cells.full (.tail (.tail .head))) rfl) ?_
        refine JL.mem rfl rfl (by apply OpM.buildSlice (by rfl) rfl (by rfl); (repeat (first | exact Fills.nil | (apply Fills.cons rfl rfl rfl; (case' hs => ((repeat (first | exact Spl.nil | apply Spl.here | apply Spl.there)); done)))))) ?_; rintro _ _ ⟨b89, rfl, rfl⟩
        refine JL.f4 ?_; refine JL.mem rfl rfl (OpM.appendH rfl (.inl ⟨_, Sl.und inferInstance⟩) (by rfl) rfl rfl (RdO.src (RdO.ofRow (.tail .head) (by first | exact Nat.le_refl _ | decide | omega)) (by first | assumption | exact fc_length _ _ | (simp; done) | (simp; omega))) (oneC rfl (oneC rfl (oneC rfl (oneC rfl (oneC rfl (oneC rfl (one1 rfl))))))) (by simp only [maxLen]; omega) (by omega)) ?_; rintro _ _ ⟨⟨a90, c90, rfl⟩, rfl⟩
        refine JL.pure rfl rfl (OpP.assign rfl) ?_
        refine JL.nil ?_
        refine J.inBlock ?_
        refine J.region ?_
        refine JL.pure rfl rfl (OpP.move rfl) ?_
        refine JL.pure rfl rfl (OpP.addI rfl rfl (by omega) (by omega)) ?_
        refine JL.pure rfl rfl (OpP.assign rfl) ?_
        refine JL.nil ?_
      rotate_left 1
      focus
        refine J.condF rfl ?_
        refine J.skip ?_
        refine J.inBlock ?_
        refine J.region ?_
        refine JL.pure rfl rfl (OpP.move rfl) ?_
        refine JL.read rfl rfl (OpR.loadN rfl (Cells.full (.tail (.tail .head))) rfl) ?_
        refine JL.mem rfl rfl (by apply OpM.buildSlice (by rfl) rfl (by rfl); (repeat (first | exact Fills.nil | (apply Fills.cons rfl rfl rfl; (case' hs => ((repeat (first | exact Spl.nil | apply Spl.here | apply Spl.there)); done)))))) ?_; rintro _ _ ⟨b89, rfl, rfl⟩
        refine JL.f4 ?_; refine JL.mem rfl rfl (OpM.appendH rfl (.inl ⟨_, Sl.und inferInstance⟩) (by rfl) rfl rfl (RdO.src (RdO.ofRow (.tail .head) (by first | exact Nat.le_refl _ | decide | omega)) (by first | assumption | exact fc_length _ _ | (simp; done) | (simp; omega))) (oneC rfl (oneC rfl (oneC rfl (oneC rfl (oneC rfl (oneC rfl (one1 rfl))))))) (by simp only [maxLen]; omega) (by omega)) ?_; rintro _ _ ⟨⟨a90, c90, rfl⟩, rfl⟩
        refine JL.pure rfl rfl (OpP.assign rfl) ?_
        refine JL.nil ?_
        refine J.inBlock ?_
        refine J.region ?_
        refine JL.pure rfl rfl (OpP.move rfl) ?_
        refine JL.pure rfl rfl (OpP.addI rfl rfl (by omega) (by omega)) ?_
        refine JL.pure rfl rfl (OpP.assign rfl) ?_
        refine JL.nil ?_
      rotate_left 1
      · refine back (j + 1, bad', .slice av' M'.length cv', M', .slice a90 (j + 1) c90, ps ++ [pNum k.toNat 1], T) ⟨by dsimp only; omega, by assumption, by dsimp only; rw [List.length_append, hps]; rfl, next_flag k4 hk255 (.inl ⟨rfl, h68⟩) hG h681⟩ (by dsimp only; omega) (by repeat (first | exact SubEnv.nil | refine SubEnv.cons (by first | rfl | exact congrArg (fun z => some (Value.int .i64 z)) (by omega) | (simp; done)) ?_)) (fun _ h => ?_)
        dsimp only
        rw [List.flatMap_append]
        exact Own.pick (pre := [_, _, _, _, _]) [0, 2, 3] rfl h
      · refine back (j + 1, bad', .slice av' M'.length cv', M', .slice a90 (j + 1) c90, ps ++ [pNum k.toNat 0], T) ⟨by dsimp only; omega, by assumption, by dsimp only; rw [List.length_append, hps]; rfl, next_flag k4 hk255 (.inr ⟨rfl, h68⟩) hG h681⟩ (by dsimp only; omega) (by repeat (first | exact SubEnv.nil | refine SubEnv.cons (by first | rfl | exact congrArg (fun z => some (Value.int .i64 z)) (by omega) | (simp; done)) ?_)) (fun _ h => ?_)
        dsimp only
        rw [List.flatMap_append]
        exact Own.pick (pre := [_, _, _, _, _]) [0, 2, 3] rfl h
    by_cases k5 : (k.toNat : Int) % 8 = 5
    · refine J.seq ?_
      refine J.region ?_
      refine JL.decF rfl rfl (OpP.eql rfl rfl) (by omega) ?_
      refine JL.pure rfl rfl (OpP.assign rfl) ?_
      refine JL.nil ?_
      refine J.condF rfl ?_
      refine J.seq ?_
      refine J.region ?_
      refine JL.decF rfl rfl (OpP.eql rfl rfl) (by omega) ?_
      refine JL.pure rfl rfl (OpP.assign rfl) ?_
      refine JL.nil ?_
      refine J.condF rfl ?_
      refine J.seq ?_
      refine J.region ?_
      refine JL.decF rfl rfl (OpP.eql rfl rfl) (by omega) ?_
      refine JL.pure rfl rfl (OpP.assign rfl) ?_
      refine JL.nil ?_
      refine J.condF rfl ?_
      refine J.seq ?_
      refine J.region ?_
      refine JL.decF rfl rfl (OpP.eql rfl rfl) (by omega) ?_
      refine JL.pure rfl rfl (OpP.assign rfl) ?_
      refine JL.nil ?_
      refine J.condF rfl ?_
      refine J.seq ?_
      refine J.region ?_
      refine JL.decF rfl rfl (OpP.eql rfl rfl) (by omega) ?_
      refine JL.pure rfl rfl (OpP.assign rfl) ?_
      refine JL.nil ?_
      refine J.condF rfl ?_
      refine J.seq ?_
      refine J.region ?_
      refine JL.decT rfl rfl (OpP.eql rfl rfl) (by omega) ?_
      refine JL.pure rfl rfl (OpP.assign rfl) ?_
      refine JL.nil ?_
      refine J.condT rfl ?_
      refine J.region ?_
      refine JL.pure rfl rfl (OpP.move rfl) ?_
      refine JL.f3 ?_; refine JL.f3 ?_; refine JL.step rfl rfl (OpW.call (first := []) (captured := []) inferInstance rfl rfl (inText_ok (most := 4096) hM)) ?_; rintro r73 _ ⟨bad', ⟨v', ⟨M', ⟨h73, ⟨h731, ⟨rfl, rfl⟩⟩⟩⟩⟩⟩
      refine JL.lit (.tail .head) fun av' cv' ev' => ?_; subst ev'
      refine JL.pure rfl rfl (OpP.fieldAddr rfl) ?_
      refine JL.mem0 rfl (by apply OpM.store1 rfl rfl rfl; (case' hu => exact (.tail (.tail .head))); (case' hs => exact (.there (.there (.here .nil)))); done) ?_; rintro _ _ ⟨rfl, rfl⟩
      refine JL.nil ?_
      refine J.inBlock ?_
      refine J.region ?_
      refine JL.pure rfl rfl (OpP.move rfl) ?_
      refine JL.read rfl rfl (OpR.loadN rfl (Cells.full (.tail (.tail .head))) rfl) ?_
      refine JL.mem rfl rfl (by apply OpM.buildSlice (by rfl) rfl (by rfl); (repeat (first | exact Fills.nil | (apply Fills.cons rfl rfl rfl; (case' hs => ((repeat (first | exact Spl.nil | apply Spl.here | apply Spl.there)); done)))))) ?_; rintro _ _ ⟨b89, rfl, rfl⟩
      refine JL.f4 ?_; refine JL.mem rfl rfl (OpM.appendH rfl (.inl ⟨_, Sl.und inferInstance⟩) (by rfl) rfl rfl (RdO.src (RdO.ofRow (.tail .head) (by first | exact Nat.le_refl _ | decide | omega)) (by first | assumption | exact fc_length _ _ | (simp; done) | (simp; omega))) (oneC rfl (oneC rfl (oneC rfl (oneC rfl (oneC rfl (oneC rfl (one1 rfl))))))) (by simp only [maxLen]; omega) (by omega)) ?_; rintro _ _ ⟨⟨a90, c90, rfl⟩, rfl⟩
      refine JL.pure rfl rfl (OpP.assign rfl) ?_
      refine JL.nil ?_
      refine J.inBlock ?_
      refine J.region ?_
      refine JL.pure rfl rfl (OpP.move rfl) ?_
      refine JL.pure rfl rfl (OpP.addI rfl rfl (by omega) (by omega)) ?_
      refine JL.pure rfl rfl (OpP.assign rfl) ?_
      refine JL.nil ?_
      refine back (j + 1, bad', .slice av' M'.length cv', M', .slice a90 (j + 1) c90, ps ++ [pTxt k.toNat (textV (absO bad M) 4096)], T) ⟨by dsimp only; omega, h73, by dsimp only; rw [List.length_append, hps]; rfl, next_text k5 hk255 hG h731⟩ (by dsimp only; omega) (by repeat (first | exact SubEnv.nil | refine SubEnv.cons (by first | rfl | exact congrArg (fun z => some (Value.int .i64 z)) (by omega) | (simp; done)) ?_)) (fun _ h => ?_)
      dsimp only
      rw [List.flatMap_append]
      exact Own.pick (pre := [_, _, _, _, _]) [0, 2, 3] rfl h
    by_cases k6 : (k.toNat : Int) % 8 = 6
    · refine J.seq ?_
      refine J.region ?_
      refine JL.decF rfl rfl (OpP.eql rfl rfl) (by omega) ?_
      refine JL.pure rfl rfl (OpP.assign rfl) ?_
      refine JL.nil ?_
      refine J.condF rfl ?_
      refine J.seq ?_
      refine J.region ?_
      refine JL.decF rfl rfl (OpP.eql rfl rfl) (by omega) ?_
      refine JL.pure rfl rfl (OpP.assign rfl) ?_
      refine JL.nil ?_
      refine J.condF rfl ?_
      refine J.seq ?_
      refine J.region ?_
      refine JL.decF rfl rfl (OpP.eql rfl rfl) (by omega) ?_
      refine JL.pure rfl rfl (OpP.assign rfl) ?_
      refine JL.nil ?_
      refine J.condF rfl ?_
      refine J.seq ?_
      refine J.region ?_
      refine JL.decF rfl rfl (OpP.eql rfl rfl) (by omega) ?_
      refine JL.pure rfl rfl (OpP.assign rfl) ?_
      refine JL.nil ?_
      refine J.condF rfl ?_
      refine J.seq ?_
      refine J.region ?_
      refine JL.decF rfl rfl (OpP.eql rfl rfl) (by omega) ?_
      refine JL.pure rfl rfl (OpP.assign rfl) ?_
      refine JL.nil ?_
      refine J.condF rfl ?_
      refine J.seq ?_
      refine J.region ?_
      refine JL.decF rfl rfl (OpP.eql rfl rfl) (by omega) ?_
      refine JL.pure rfl rfl (OpP.assign rfl) ?_
      refine JL.nil ?_
      refine J.condF rfl ?_
      refine J.seq ?_
      refine J.region ?_
      refine JL.decT rfl rfl (OpP.eql rfl rfl) (by omega) ?_
      refine JL.pure rfl rfl (OpP.assign rfl) ?_
      refine JL.nil ?_
      refine J.condT rfl ?_
      refine J.region ?_
      refine JL.pure rfl rfl (OpP.move rfl) ?_
      refine JL.pure rfl rfl (OpP.move rfl) ?_
      refine JL.pure rfl rfl (OpP.move rfl) ?_
      refine JL.pure rfl rfl (OpP.indexAddr rfl rfl (by omega) (by omega)) ?_
      refine JL.read rfl rfl (OpR.load1 rfl (by apply Cells.cell ca2 (fun _ h => h.none); (case' hv => assumption); (case' ho => omega); done)) ?_
      refine JL.pure rfl rfl (OpP.quoI rfl rfl (by omega) (by omega) (by first | decide | (simp only [IntKind.max]; omega) | (simp [IntKind.max, IntKind.signed, IntKind.bits]; omega))) ?_
      refine JL.pure rfl rfl (OpP.convI64 rfl (by omega) (by omega)) ?_
      refine JL.f3 ?_; refine JL.f3 ?_; refine JL.step rfl rfl (OpW.call (first := []) (captured := []) inferInstance rfl rfl (raw_ok hM)) ?_; rintro r84 _ ⟨bad', ⟨v', ⟨M', ⟨⟨a1, ⟨c1, rfl⟩⟩, ⟨h84, ⟨h841, rfl⟩⟩⟩⟩⟩⟩
      refine JL.lit (.tail (.tail .head)) fun av' cv' ev' => ?_; subst ev'
      refine JL.read rfl rfl (OpR.rdStr (by rfl) (RdO.own .head) (by rfl)) ?_
      refine JL.pure rfl rfl (OpP.fieldAddr rfl) ?_
      refine JL.mem0 rfl (by apply OpM.store1 rfl rfl rfl; (case' hu => exact (.tail (.tail (.tail .head)))); (case' hs => exact (.there (.there (.here .nil)))); done) ?_; rintro _ _ ⟨rfl, rfl⟩
      refine JL.nil ?_
      refine J.inBlock ?_
      refine J.region ?_
      refine JL.pure rfl rfl (OpP.move rfl) ?_
      refine JL.read rfl rfl (OpR.loadN rfl (Cells.full (.tail (.tail (.tail .head)))) rfl) ?_
      refine JL.mem rfl rfl (by apply OpM.buildSlice (by rfl) rfl (by rfl); (repeat (first | exact Fills.nil | (apply Fills.cons rfl rfl rfl; (case' hs => ((repeat (first | exact Spl.nil | apply Spl.here | apply Spl.there)); done)))))) ?_; rintro _ _ ⟨b89, rfl, rfl⟩
      refine JL.f5 ?_; refine JL.mem rfl rfl (OpM.appendH rfl (.inl ⟨_, Sl.und inferInstance⟩) (by rfl) rfl rfl (RdO.src (RdO.ofRow (.tail .head) (by first | exact Nat.le_refl _ | decide | omega)) (by first | assumption | exact fc_length _ _ | (simp; done) | (simp; omega))) (oneC rfl (oneC rfl (oneC rfl (oneC rfl (oneC rfl (oneC rfl (one1 rfl))))))) (by simp only [maxLen]; omega) (by omega)) ?_; rintro _ _ ⟨⟨a90, c90, rfl⟩, rfl⟩
      refine JL.pure rfl rfl (OpP.assign rfl) ?_
      refine JL.nil ?_
      refine J.inBlock ?_
      refine J.region ?_
      refine JL.pure rfl rfl (OpP.move rfl) ?_
      refine JL.pure rfl rfl (OpP.addI rfl rfl (by omega) (by omega)) ?_
      refine JL.pure rfl rfl (OpP.assign rfl) ?_
      refine JL.nil ?_
      refine back (j + 1, bad', .slice av' M'.length cv', M', .slice a90 (j + 1) c90, ps ++ [pTxt k.toNat (gotO (absO bad M) ((k.toNat : Int) / 8))], T) ⟨by dsimp only; omega, h84, by dsimp only; rw [List.length_append, hps]; rfl, next_raw k6 hk255 (by omega) (by omega) hG h841⟩ (by dsimp only; omega) (by repeat (first | exact SubEnv.nil | refine SubEnv.cons (by first | rfl | exact congrArg (fun z => some (Value.int .i64 z)) (by omega) | (simp; done)) ?_)) (fun _ h => ?_)
      dsimp only
      rw [List.flatMap_append]
      exact Own.pick (pre := [_, _, _, _, _, _]) [0, 3, 4] rfl h
    refine J.seq ?_
    refine J.region ?_
    refine JL.decF rfl rfl (OpP.eql rfl rfl) (by omega) ?_
    refine JL.pure rfl rfl (OpP.assign rfl) ?_
    refine JL.nil ?_
    refine J.condF rfl ?_
    refine J.seq ?_
    refine J.region ?_
    refine JL.decF rfl rfl (OpP.eql rfl rfl) (by omega) ?_
    refine JL.pure rfl rfl (OpP.assign rfl) ?_
    refine JL.nil ?_
    refine J.condF rfl ?_
    refine J.seq ?_
    refine J.region ?_
    refine JL.decF rfl rfl (OpP.eql rfl rfl) (by omega) ?_
    refine JL.pure rfl rfl (OpP.assign rfl) ?_
    refine JL.nil ?_
    refine J.condF rfl ?_
    refine J.seq ?_
    refine J.region ?_
    refine JL.decF rfl rfl (OpP.eql rfl rfl) (by omega) ?_
    refine JL.pure rfl rfl (OpP.assign rfl) ?_
    refine JL.nil ?_
    refine J.condF rfl ?_
    refine J.seq ?_
    refine J.region ?_
    refine JL.decF rfl rfl (OpP.eql rfl rfl) (by omega) ?_
    refine JL.pure rfl rfl (OpP.assign rfl) ?_
    refine JL.nil ?_
    refine J.condF rfl ?_
    refine J.seq ?_
    refine J.region ?_
    refine JL.decF rfl rfl (OpP.eql rfl rfl) (by omega) ?_
    refine JL.pure rfl rfl (OpP.assign rfl) ?_
    refine JL.nil ?_
    refine J.condF rfl ?_
    refine J.seq ?_
    refine J.region ?_
    refine JL.decF rfl rfl (OpP.eql rfl rfl) (by omega) ?_
    refine JL.pure rfl rfl (OpP.assign rfl) ?_
    refine JL.nil ?_
    refine J.condF rfl ?_
    refine J.region ?_
    refine JL.pure rfl rfl (OpP.move rfl) ?_
    refine JL.f3 ?_; refine JL.f3 ?_; refine JL.step rfl rfl (OpW.call (first := []) (captured := []) inferInstance rfl rfl (inVal_ok' hM)) ?_; rintro r43 _ (⟨v', ⟨M', ⟨a1, ⟨c1, ⟨h43, ⟨h431, ⟨h432, ⟨rfl, rfl⟩⟩⟩⟩⟩⟩⟩⟩ | ⟨v'1, ⟨M'1, ⟨h433, ⟨(h434 | h435), ⟨rfl, rfl⟩⟩⟩⟩⟩)
    focus
      refine JL.lit (.tail (.tail .head)) fun av' cv' ev' => ?_; subst ev'
      refine JL.pure rfl rfl (OpP.fieldAddr rfl) ?_
      refine JL.mem0 rfl (by apply OpM.storeN rfl rfl (by rfl) (oneC rfl (oneC rfl (oneC rfl (one1 rfl)))); (case' hu => exact (.tail (.tail (.tail .head)))); (case' hs => exact (.there (.there (.there (.here (.here (.here (.here .nil)))))))); done) ?_; rintro _ _ ⟨rfl, rfl⟩
      refine JL.nil ?_
      refine J.inBlock ?_
      refine J.region ?_
      refine JL.pure rfl rfl (OpP.move rfl) ?_
      refine JL.read rfl rfl (OpR.loadN rfl (Cells.full (.tail (.tail (.tail .head)))) rfl) ?_
      refine JL.mem rfl rfl (by apply OpM.buildSlice (by rfl) rfl (by rfl); (repeat (first | exact Fills.nil | (apply Fills.cons rfl rfl rfl; (case' hs => ((repeat (first | exact Spl.nil | apply Spl.here | apply Spl.there)); done)))))) ?_; rintro _ _ ⟨b89, rfl, rfl⟩
      refine JL.f5 ?_; refine JL.mem rfl rfl (OpM.appendH rfl (.inl ⟨_, Sl.und inferInstance⟩) (by rfl) rfl rfl (RdO.src (RdO.ofRow (.tail .head) (by first | exact Nat.le_refl _ | decide | omega)) (by first | assumption | exact fc_length _ _ | (simp; done) | (simp; omega))) (oneC rfl (oneC rfl (oneC rfl (oneC rfl (oneC rfl (oneC rfl (one1 rfl))))))) (by simp only [maxLen]; omega) (by omega)) ?_; rintro _ _ ⟨⟨a90, c90, rfl⟩, rfl⟩
      refine JL.pure rfl rfl (OpP.assign rfl) ?_
      refine JL.nil ?_
      refine J.inBlock ?_
      refine J.region ?_
      refine JL.pure rfl rfl (OpP.move rfl) ?_
      refine JL.pure rfl rfl (OpP.addI rfl rfl (by omega) (by omega)) ?_
      refine JL.pure rfl rfl (OpP.assign rfl) ?_
      refine JL.nil ?_
    rotate_left 1
    focus
      refine JL.lit (.tail .head) fun av'1 cv'1 ev'1 => ?_; subst ev'1
      refine JL.pure rfl rfl (OpP.fieldAddr rfl) ?_
      refine JL.mem0 rfl (by apply OpM.storeN rfl rfl (by rfl) (oneC rfl (oneC rfl (oneC rfl (one1 rfl)))); (case' hu => exact (.tail (.tail .head))); (case' hs => exact (.there (.there (.there (.here (.here (.here (.here .nil)))))))); done) ?_; rintro _ _ ⟨rfl, rfl⟩
      refine JL.nil ?_
      refine J.inBlock ?_
      refine J.region ?_
      refine JL.pure rfl rfl (OpP.move rfl) ?_
      refine JL.read rfl rfl (OpR.loadN rfl (Cells.full (.tail (.tail .head))) rfl) ?_
      refine JL.mem rfl rfl (by apply OpM.buildSlice (by rfl) rfl (by rfl); (repeat (first | exact Fills.nil | (apply Fills.cons rfl rfl rfl; (case' hs => ((repeat (first | exact Spl.nil | apply Spl.here | apply Spl.there)); done)))))) ?_; rintro _ _ ⟨b89, rfl, rfl⟩
      refine JL.f4 ?_; refine JL.mem rfl rfl (OpM.appendH rfl (.inl ⟨_, Sl.und inferInstance⟩) (by rfl) rfl rfl (RdO.src (RdO.ofRow (.tail .head) (by first | exact Nat.le_refl _ | decide | omega)) (by first | assumption | exact fc_length _ _ | (simp; done) | (simp; omega))) (oneC rfl (oneC rfl (oneC rfl (oneC rfl (oneC rfl (oneC rfl (one1 rfl))))))) (by simp only [maxLen]; omega) (by omega)) ?_; rintro _ _ ⟨⟨a90, c90, rfl⟩, rfl⟩
      refine JL.pure rfl rfl (OpP.assign rfl) ?_
      refine JL.nil ?_
      refine J.inBlock ?_
      refine J.region ?_
      refine JL.pure rfl rfl (OpP.move rfl) ?_
      refine JL.pure rfl rfl (OpP.addI rfl rfl (by omega) (by omega)) ?_
      refine JL.pure rfl rfl (OpP.assign rfl) ?_
      refine JL.nil ?_
    rotate_left 1
    focus
      refine JL.lit (.tail .head) fun av'1 cv'1 ev'1 => ?_; subst ev'1
      refine JL.pure rfl rfl (OpP.fieldAddr rfl) ?_
      refine JL.mem0 rfl (by apply OpM.storeN rfl rfl (by rfl) (oneC rfl (oneC rfl (oneC rfl (one1 rfl)))); (case' hu => exact (.tail (.tail .head))); (case' hs => exact (.there (.there (.there (.here (.here (.here (.here .nil)))))))); done) ?_; rintro _ _ ⟨rfl, rfl⟩
      refine JL.nil ?_
      refine J.inBlock ?_
      refine J.region ?_
      refine JL.pure rfl rfl (OpP.move rfl) ?_
      refine JL.read rfl rfl (OpR.loadN rfl (Cells.full (.tail (.tail .head))) rfl) ?_
      refine JL.mem rfl rfl (by apply OpM.buildSlice (by rfl) rfl (by rfl); (repeat (first | exact Fills.nil | (apply Fills.cons rfl rfl rfl; (case' hs => ((repeat (first | exact Spl.nil | apply Spl.here | apply Spl.there)); done)))))) ?_; rintro _ _ ⟨b89, rfl, rfl⟩
      refine JL.f4 ?_; refine JL.mem rfl rfl (OpM.appendH rfl (.inl ⟨_, Sl.und inferInstance⟩) (by rfl) rfl rfl (RdO.src (RdO.ofRow (.tail .head) (by first | exact Nat.le_refl _ | decide | omega)) (by first | assumption | exact fc_length _ _ | (simp; done) | (simp; omega))) (oneC rfl (oneC rfl (oneC rfl (oneC rfl (oneC rfl (oneC rfl (one1 rfl))))))) (by simp only [maxLen]; omega) (by omega)) ?_; rintro _ _ ⟨⟨a90, c90, rfl⟩, rfl⟩
      refine JL.pure rfl rfl (OpP.assign rfl) ?_
      refine JL.nil ?_
      refine J.inBlock ?_
      refine J.region ?_
      refine JL.pure rfl rfl (OpP.move rfl) ?_
      refine JL.pure rfl rfl (OpP.addI rfl rfl (by omega) (by omega)) ?_
      refine JL.pure rfl rfl (OpP.assign rfl) ?_
      refine JL.nil ?_
    rotate_left 1
    · refine back (j + 1, false, .slice av' M'.length cv', M', .slice a90 (j + 1) c90, ps ++ [⟨k.toNat, 0, [], ⟨(decV (absO bad M)).k, (decV (absO bad M)).i, (decV (absO bad M)).s, (decV (absO bad M)).xs, a1, c1⟩⟩], own 29 4 (.slice a1 (decV (absO bad M)).xs.length c1) (decV (absO bad M)).xs.length ((decV (absO bad M)).xs.flatMap ecl) :: T) ⟨by dsimp only; omega, h43, by dsimp only; rw [List.length_append, hps]; rfl, fun M1 h => by obtain rfl := Option.some.inj h; exact next_val (by omega) hk255 hG h431 h432 (fun _ h => h.tail) (RdO.own .head)⟩ (by dsimp only; omega) (by repeat (first | exact SubEnv.nil | refine SubEnv.cons (by first | rfl | exact congrArg (fun z => some (Value.int .i64 z)) (by omega) | (simp; done)) ?_)) (fun _ h => ?_)
      dsimp only
      rw [List.flatMap_append]
      exact Own.pick (pre := [_, _, _, _, _, _]) [0, 3, 4, 2] rfl h
    · refine back (j + 1, true, .slice av'1 M'1.length cv'1, M'1, .slice a90 (j + 1) c90, ps ++ [pNum k.toNat 0], T) ⟨by dsimp only; omega, by assumption, by dsimp only; rw [List.length_append, hps]; rfl, fun M1 h => by cases h⟩ (by dsimp only; omega) (by repeat (first | exact SubEnv.nil | refine SubEnv.cons (by first | rfl | exact congrArg (fun z => some (Value.int .i64 z)) (by omega) | (simp; done)) ?_)) (fun _ h => ?_)
      dsimp only
      rw [List.flatMap_append]
      exact Own.pick (pre := [_, _, _, _, _]) [0, 2, 3] rfl h
    · refine back (j + 1, true, .slice av'1 M'1.length cv'1, M'1, .slice a90 (j + 1) c90, ps ++ [pNum k.toNat 0], T) ⟨by dsimp only; omega, by assumption, by dsimp only; rw [List.length_append, hps]; rfl, fun M1 h => by cases h⟩ (by dsimp only; omega) (by repeat (first | exact SubEnv.nil | refine SubEnv.cons (by first | rfl | exact congrArg (fun z => some (Value.int .i64 z)) (by omega) | (simp; done)) ?_)) (fun _ h => ?_)
      dsimp only
      rw [List.flatMap_append]
      exact Own.pick (pre := [_, _, _, _, _]) [0, 2, 3] rfl h
  · obtain rfl : j = kb.length := by omega
    cases bad
    · have hg := hG M rfl
      refine J.lit .head fun au cu eu => ?_; subst eu
      refine J.lit (.tail (.tail .head)) fun az cz ez => ?_; subst ez
      refine J.seq ?_
      refine J.seq ?_
      refine J.region ?_
      refine JL.pure rfl rfl (OpP.move rfl) ?_
      refine JL.pure rfl rfl (OpP.move rfl) ?_
      refine JL.pure rfl rfl (OpP.len rfl rfl) ?_
      refine JL.decF rfl rfl (OpP.lss rfl rfl) (by omega) ?_
      refine JL.nil ?_
      refine J.condF rfl ?_
      refine J.exit rfl ?_
      refine J.seq ?_
      refine J.seq ?_
      refine J.region ?_
      refine JL.pure rfl rfl (OpP.move rfl) ?_
      refine JL.f2 ?_; refine JL.f2 ?_; refine JL.step rfl rfl (OpW.call (first := []) (captured := []) inferInstance rfl rfl (over_ok (bad := false))) ?_; rintro r92 _ ⟨rfl, rfl⟩
      refine JL.pure rfl rfl (OpP.notB rfl) ?_
      refine JL.nil ?_
      refine J.splitAt 93 rfl (fun h93 => ?_) (fun h93 => ?_)
      focus
        refine J.condT rfl ?_
        refine J.seq ?_
        refine J.region ?_
        refine JL.pure rfl rfl (OpP.assign rfl) ?_
        refine JL.nil ?_
        refine J.ret1 rfl rfl ?_
      rotate_left 1
      focus
        refine J.condF rfl ?_
        refine J.skip ?_
      rotate_left 1
      · rfl
      · have hM0 : M = [] := by simpa using h93
        subst hM0
        have hl0 : l = restP ps := by rw [hg.eq, List.append_nil]
        have ha : allF (some []) ps = some l := by
          rw [hl0]
          exact allF_rest (M := []) (fun p hp => (hg.all p hp).1) (by rw [List.nil_append, ← hl0]; omega)
        have pb := allG (w0 := w0) (F := inL g false (.slice az ([] : List UInt8).length cz) [] (own 31 7 (.slice au ps.length cu) ps.length (ps.flatMap pac) :: T)) (a := au) (c := cu) (by omega) hg (fun w h => h.tail.tail.tail) (RdO.own (.tail (.tail .head))) ha
        rw [hps] at pb
        refine J.seq ?_
        refine J.region ?_
        refine JL.pure rfl rfl (OpP.move rfl) ?_
        refine JL.step rfl rfl (OpW.call (first := []) (captured := []) inferInstance rfl rfl pb) ?_; rintro r96 _ ⟨a1, ⟨c1, ⟨rfl, rfl⟩⟩⟩
        refine JL.pure rfl rfl (OpP.move rfl) ?_
        refine JL.pure rfl rfl (OpP.extract rfl rfl) ?_
        refine JL.pure rfl rfl (OpP.extract rfl rfl) ?_
        refine JL.pure rfl rfl (OpP.assign rfl) ?_
        refine JL.pure rfl rfl (OpP.assign rfl) ?_
        refine JL.nil ?_
        refine J.seq ?_
        refine J.region ?_
        refine JL.pure rfl rfl (OpP.move rfl) ?_
        refine JL.pure rfl rfl (OpP.move rfl) ?_
        refine JL.pure rfl rfl (OpP.move rfl) ?_
        refine JL.read rfl rfl (OpR.rdStr (by rfl) (RdO.own .head) (by rfl)) ?_
        refine JL.pure rfl rfl (OpP.move rfl) ?_
        refine JL.read rfl rfl (OpR.rdStr (by rfl) (hr.conv fun _ h => h.none) (by rfl)) ?_
        refine JL.dec rfl rfl (OpP.eqStr rfl rfl) (fun h105 => ?_) (fun h105 => ?_)
        focus
          refine JL.pure rfl rfl (OpP.pickT rfl rfl) ?_
          refine JL.pure rfl rfl (OpP.assign rfl) ?_
          refine JL.nil ?_
          refine J.ret1 rfl rfl ?_
        rotate_left 1
        focus
          refine JL.pure rfl rfl (OpP.pickT rfl rfl) ?_
          refine JL.pure rfl rfl (OpP.assign rfl) ?_
          refine JL.nil ?_
          refine J.ret1 rfl rfl ?_
        rotate_left 1
        · rfl
        · exact absurd rfl h105
    · refine J.lit .head fun au cu eu => ?_; subst eu
      refine J.lit (.tail (.tail .head)) fun az cz ez => ?_; subst ez
      refine J.seq ?_
      refine J.seq ?_
      refine J.region ?_
      refine JL.pure rfl rfl (OpP.move rfl) ?_
      refine JL.pure rfl rfl (OpP.move rfl) ?_
      refine JL.pure rfl rfl (OpP.len rfl rfl) ?_
      refine JL.decF rfl rfl (OpP.lss rfl rfl) (by omega) ?_
      refine JL.nil ?_
      refine J.condF rfl ?_
      refine J.exit rfl ?_
      refine J.seq ?_
      refine J.seq ?_
      refine J.region ?_
      refine JL.pure rfl rfl (OpP.move rfl) ?_
      refine JL.f2 ?_; refine JL.f2 ?_; refine JL.step rfl rfl (OpW.call (first := []) (captured := []) inferInstance rfl rfl (over_ok (bad := true))) ?_; rintro r92 _ ⟨rfl, rfl⟩
      refine JL.pure rfl rfl (OpP.notB rfl) ?_
      refine JL.nil ?_
      refine J.condT rfl ?_
      refine J.seq ?_
      refine J.region ?_
      refine JL.pure rfl rfl (OpP.assign rfl) ?_
      refine JL.nil ?_
      refine J.ret1 rfl rfl ?_
      rfl
theorem CodecReads_law {W : World} {a : Option Addr} {n c : Nat} {a2 : Option Addr} {n2 c2 : Nat} (h : Fm Try.prog W 22 [.slice a n c]) (h2 : Fm Try.prog W 22 [.slice a2 n2 c2]) :
    Calls Try.prog 3 #[.slice a n c, .slice a2 n2 c2] W fun e w' => e = .returned (.bool true) ∧ Below W.heap.size W w' := by
  obtain ⟨l, hl, hr⟩ := h.bytes Try.underlying22 Try.underlying5 (by kernel_rfl)
  obtain ⟨b, hb, hr2⟩ := h2.bytes Try.underlying22 Try.underlying5 (by kernel_rfl)
  obtain ⟨a', c', e⟩ := hr.lit
  cases e
  obtain ⟨a'', c'', e⟩ := hr2.lit
  cases e
  exact FnO.law (CodecReads_ok hl hb hr.o hr2.o) (Own.nil W)
end Go.Proofs.E
