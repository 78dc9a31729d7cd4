/- A text of the proof of a statement about the given program: its part EA3. No person has read it. -/
import Derived.Test.YthncallhccekoaaEA2
import Derived.Test.YthncallhccekoaaEJ2
-- seat e
namespace Go.Proofs.E
open Go Go.Gp Go.RowKit

theorem few1_ok {w0 : World} {F : List HProp} {fa a : Option Addr} {fc c : Nat} {k i : Int} {s : List UInt8} {xs : List El} (hr : RdO w0 F (.slice fa 1 fc) 1 (vcl k i s (.slice a xs.length c))) (h1 : RdO w0 F (.slice a xs.length c) xs.length (xs.flatMap ecl)) :
    FnO Try.prog w0 25 [.slice fa 1 fc, .int .i64 1] F (fun r l' => ∃ b, r = .bool b ∧ l' = F ∧ (b = true → FewU ⟨k, i, s, xs, a, c⟩)) :=
  (few_ok (vs := [⟨k, i, s, xs, a, c⟩]) (m := 1) (by simp) hr (by
    intro u hu
    obtain rfl := List.mem_singleton.1 hu
    exact h1)).mono fun r l' ⟨b, q1, q2, q3⟩ => ⟨b, q1, q2, fun hb => (q3 hb).2 0 _ (by omega) rfl⟩
/-- A part in a list. -/
structure Pa where
  kd : Int
  n : Int
  t : List UInt8
  u : Va
abbrev pac (p : Pa) : List Value := [.int .u8 p.kd, .int .i64 p.n, .string (strB p.t), .int .i64 p.u.k, .int .i64 p.u.i, .string (strB p.u.s), .slice p.u.a p.u.xs.length p.u.c]
def FewP (p : Pa) : Prop := p.t.length ≤ 5000 ∧ FewU p.u
end Go.Proofs.E

-- seat e
namespace Go.Proofs.E
open Go Go.Gp Go.RowKit

end Go.Proofs.E

-- seat e
namespace Go.Proofs.E
open Go Go.Gp Go.RowKit

/-- A reader that is bad stays so, and tells nothing. -/
abbrev BadI (w0 : World) (f : FuncId) (args : List Value) (g : Nat) (v : Value) (M : List UInt8) (F : List HProp) (u : Value) : Prop :=
  FnO Try.prog w0 f args (inL g true v M F) (fun r l' => r = u ∧ ∃ v' M', M'.length ≤ 1000000000 ∧ l' = inL g true v' M' F)
theorem absO_none {b : Bool} {M : List UInt8} (h : absO b M = none) : b = true := by
  cases b
  · simp [absO] at h
  · rfl
theorem Took.bad {w0 : World} {f : FuncId} {args : List Value} {g : Nat} {v : Value} {M : List UInt8} {F : List HProp} {u : Value} (h : Took w0 f args g true v M F none u) : BadI w0 f args g v M F u :=
  h.mono fun r l' ⟨b, v', M', h1, h2, h3, h4⟩ => by
    obtain rfl := absO_none h2
    exact ⟨h3, v', M', h1, h4⟩
variable {w0 : World} {F : List HProp} {oe g : Nat} {v : Value} {M L : List UInt8}
theorem endBad (hL : L.length ≤ 4096) : FnO Try.prog w0 33 [.pointer (some ⟨g, 0, none⟩)] (outL oe g true v L F) (fun r l' => r = .tuple #[.slice none 0 0, .int .i64 3] ∧ l' = outL oe g true v L F) :=
  (end_ok (bad := true) hL).mono fun r l' h => by
    rcases h with ⟨_, h1, h2⟩ | ⟨h, _⟩
    · exact ⟨h1, h2⟩
    · cases h
end Go.Proofs.E

-- seat e
namespace Go.Proofs.E
open Go Go.Gp Go.RowKit

end Go.Proofs.E

-- seat e
namespace Go.Proofs.E
open Go Go.Gp Go.RowKit

theorem Fm.part {w0 : World} {cs : List Value} (h : Fm Try.prog w0 31 cs) : ∃ p : Pa, ((0 ≤ p.kd ∧ p.kd ≤ 255) ∧ ∀ l, RdO w0 l (.slice p.u.a p.u.xs.length p.u.c) p.u.xs.length (p.u.xs.flatMap ecl)) ∧ cs = pac p := by
  have h := h.fields (l := [(5, 1), (2, 1), (9, 1), (29, 4)]) (by kernel_rfl)
  obtain ⟨c0, cs, rfl, f0, h⟩ := h.one
  obtain ⟨c1, cs, rfl, f1, h⟩ := h.one
  obtain ⟨c2, cs, rfl, f2, h⟩ := h.one
  obtain ⟨d, cs, rfl, _, f3, h⟩ := h.many
  cases h
  obtain ⟨kd, e0, k0⟩ := f0.int (k := .u8) (by kernel_rfl)
  obtain ⟨n, e1, _⟩ := f1.int (k := .i64) (by kernel_rfl)
  obtain ⟨t, e2, _⟩ := f2.str (by kernel_rfl)
  simp [Lit.wf, IntKind.min, IntKind.max, IntKind.signed, IntKind.bits] at k0
  cases e0; cases e1; cases e2
  obtain ⟨k, i, s, a, c, xs, _, e, hr⟩ := Fm.val f3
  subst e
  exact ⟨⟨kd, n, t.data.toList, ⟨k, i, s, xs, a, c⟩⟩, ⟨k0, fun l => (hr l).o⟩, by simp [pac, vcl, strB]⟩
end Go.Proofs.E

-- seat e
namespace Go.Proofs.E
open Go Go.Gp Go.RowKit

open Classical in
/-- The bytes of a part, if it can be. -/
noncomputable def partB (p : Pa) : Option (List UInt8) :=
  if p.kd % 8 = 0 then (if p.n < 0 ∨ 256 ^ 1 ≤ p.n then none else some (be p.n.toNat 1)) else if p.kd % 8 = 1 then (if p.n < 0 ∨ 256 ^ 2 ≤ p.n then none else some (be p.n.toNat 2)) else if p.kd % 8 = 2 then (if p.n < 0 ∨ 256 ^ 4 ≤ p.n then none else some (be p.n.toNat 4)) else if p.kd % 8 = 3 then some (be (u64 p.n) 8)
  else if p.kd % 8 = 4 then some [if u64 p.n % 2 = 1 then 1 else 0] else if p.kd % 8 = 5 then (if 4096 < p.t.length then none else some (be p.t.length 2 ++ p.t)) else if p.kd % 8 = 6 then some p.t
  else if FormedP p.u.k p.u.i p.u.s p.u.xs then some (valB p.u.k p.u.i p.u.s p.u.xs) else none
end Go.Proofs.E

-- seat e
namespace Go.Proofs.E
open Go Go.Gp Go.RowKit

theorem numberI_ok {w0 : World} {F : List HProp} {n : Int} (k : Nat) (h0 : 0 ≤ n) (h1 : n < 18446744073709551616) (hs : k ≤ 8) :
    FnO Try.prog w0 58 [.int .u64 n, .int .i64 (k : Nat)] F (fun r l' => ∃ a c, r = .slice a k c ∧ l' = own 5 1 (.slice a k c) k (bcells (be n.toNat k)) :: F) := by
  obtain ⟨m, rfl⟩ := Int.eq_ofNat_of_zero_le h0
  exact (number_ok (by omega) hs).mono fun r l' ⟨⟨a, c, h1⟩, h2⟩ => ⟨a, c, h1, by rw [h2, h1]; rfl⟩
theorem numberB1_ok {w0 : World} {F : List HProp} {n : Int} (h0 : 0 ≤ n) (h1 : n < 18446744073709551616) :
    FnO Try.prog w0 58 [.int .u64 n, .int .i64 1] F (fun r l' => ∃ a c, r = .slice a 1 c ∧ l' = own 5 1 (.slice a 1 c) 1 (bcells (be n.toNat 1)) :: F) := numberI_ok 1 h0 h1 (by omega)
theorem numberB2_ok {w0 : World} {F : List HProp} {n : Int} (h0 : 0 ≤ n) (h1 : n < 18446744073709551616) :
    FnO Try.prog w0 58 [.int .u64 n, .int .i64 2] F (fun r l' => ∃ a c, r = .slice a 2 c ∧ l' = own 5 1 (.slice a 2 c) 2 (bcells (be n.toNat 2)) :: F) := numberI_ok 2 h0 h1 (by omega)
theorem numberB4_ok {w0 : World} {F : List HProp} {n : Int} (h0 : 0 ≤ n) (h1 : n < 18446744073709551616) :
    FnO Try.prog w0 58 [.int .u64 n, .int .i64 4] F (fun r l' => ∃ a c, r = .slice a 4 c ∧ l' = own 5 1 (.slice a 4 c) 4 (bcells (be n.toNat 4)) :: F) := numberI_ok 4 h0 h1 (by omega)
theorem bytes_ok {w0 : World} {F : List HProp} {p : Pa} (hk : 0 ≤ p.kd ∧ p.kd ≤ 255) (ht : p.t.length ≤ 5000) (hx : ∀ e ∈ p.u.xs, e.ok) (hn : p.u.xs.length ≤ 9223372036854775807) (hN : -9223372036854775808 ≤ p.n ∧ p.n ≤ 9223372036854775807) (hr : RdO w0 F (.slice p.u.a p.u.xs.length p.u.c) p.u.xs.length (p.u.xs.flatMap ecl)) :
    FnO Try.prog w0 54 [.agg (pac p).toArray] F (fun r l' => (∃ bs a c H, partB p = some bs ∧ r = .tuple #[.slice a bs.length c, .bool true] ∧ l' = H :: F ∧ ∀ l, RdO w0 (H :: l) (.slice a bs.length c) bs.length (bcells bs)) ∨ (partB p = none ∧ ∃ v, r = .tuple #[v, .bool false] ∧ l' = F)) := by
  have es := strB_size p.t
  refine FnO.weak ?_
  refine FnO.intro (n := 77) Try.func54 rfl rfl rfl ?_
  refine J.seq ?_
  refine J.region ?_
  refine JL.mem rfl rfl (OpM.box rfl rfl) ?_; rintro _ _ ⟨b1, rfl, rfl⟩
  refine JL.pure rfl rfl (OpP.assign rfl) ?_
  refine JL.pure rfl rfl (OpP.assign rfl) ?_
  refine JL.nil ?_
  refine J.seq ?_
  refine J.seq ?_
  refine J.region ?_
  refine JL.pure rfl rfl (OpP.fieldAddr rfl) ?_
  refine JL.read rfl rfl (OpR.load1 rfl (Cell.row .head rfl)) ?_
  refine JL.pure rfl rfl (OpP.remI rfl rfl (by first | omega | exact Int.natCast_nonneg _) (by omega)) ?_
  refine JL.nil ?_
  refine J.block ?_
  refine J.seq ?_
  by_cases h0 : p.kd % 8 = 0
  · have hv0 : (#[Value.int .i64 1, .int .i64 2, .int .i64 4] : Array Value).toList[(p.kd % 8).toNat]? = some (.int .i64 1) := by rw [h0]; rfl
    have hv1 : (#[Value.int .i64 256, .int .i64 65536, .int .i64 4294967296] : Array Value).toList[(p.kd % 8).toNat]? = some (.int .i64 256) := by rw [h0]; rfl
    have hb : partB p = (if p.n < 0 ∨ 256 ^ 1 ≤ p.n then none else some (be p.n.toNat 1)) := by rw [partB, if_pos h0]
    clear hr
    refine J.seq ?_
    refine J.region ?_
    refine JL.decT rfl rfl (OpP.eql rfl rfl) (by omega) ?_
    refine JL.pure rfl rfl (OpP.assign rfl) ?_
    refine JL.nil ?_
    refine J.condT rfl ?_
    refine J.skip ?_
    refine J.condT rfl ?_
    refine J.seq ?_
    refine J.region ?_
    refine JL.pure rfl rfl (OpP.buildA rfl (by (repeat (first | exact Fills.nil | (apply Fills.cons rfl rfl rfl; (case' hs => ((repeat (first | exact Spl.nil | apply Spl.here | apply Spl.there)); done))))))) ?_
    refine JL.pure rfl rfl (OpP.fieldAddr rfl) ?_
    refine JL.read rfl rfl (OpR.load1 rfl (Cell.row .head rfl)) ?_
    refine JL.pure rfl rfl (OpP.remI rfl rfl (by first | omega | exact Int.natCast_nonneg _) (by omega)) ?_
    refine JL.pure rfl rfl (OpP.indexArr1 rfl rfl (by omega) (by omega) (by assumption)) ?_
    refine JL.pure rfl rfl (OpP.assign rfl) ?_
    refine JL.nil ?_
    refine J.seq ?_
    refine J.region ?_
    refine JL.pure rfl rfl (OpP.buildA rfl (by (repeat (first | exact Fills.nil | (apply Fills.cons rfl rfl rfl; (case' hs => ((repeat (first | exact Spl.nil | apply Spl.here | apply Spl.there)); done))))))) ?_
    refine JL.pure rfl rfl (OpP.fieldAddr rfl) ?_
    refine JL.read rfl rfl (OpR.load1 rfl (Cell.row .head rfl)) ?_
    refine JL.pure rfl rfl (OpP.remI rfl rfl (by first | omega | exact Int.natCast_nonneg _) (by omega)) ?_
    refine JL.pure rfl rfl (OpP.indexArr1 rfl rfl (by omega) (by omega) (by assumption)) ?_
    refine JL.pure rfl rfl (OpP.assign rfl) ?_
    refine JL.nil ?_
    refine J.seq ?_
    refine J.seq ?_
    refine J.region ?_
    refine JL.pure rfl rfl (OpP.fieldAddr rfl) ?_
    refine JL.read rfl rfl (OpR.load1 rfl (Cell.row .head rfl)) ?_
    refine JL.dec rfl rfl (OpP.lss rfl rfl) (fun h25 => ?_) (fun h25 => ?_)
    focus
      refine JL.pure rfl rfl (OpP.move rfl) ?_
      refine JL.skip rfl rfl ?_
      refine JL.skip rfl rfl ?_
      refine JL.skip rfl rfl ?_
      refine JL.skip rfl rfl ?_
      refine JL.pure rfl rfl (OpP.pickT rfl rfl) ?_
      refine JL.nil ?_
      refine J.condT rfl ?_
      refine J.seq ?_
      refine J.region ?_
      refine JL.pure rfl rfl (OpP.assign rfl) ?_
      refine JL.pure rfl rfl (OpP.assign rfl) ?_
      refine JL.nil ?_
      refine J.ret2 rfl rfl rfl ?_
    rotate_left 1
    focus
      refine JL.pure rfl rfl (OpP.move rfl) ?_
      refine JL.pure rfl rfl (OpP.fieldAddr rfl) ?_
      refine JL.read rfl rfl (OpR.load1 rfl (Cell.row .head rfl)) ?_
      refine JL.pure rfl rfl (OpP.move rfl) ?_
      refine JL.dec rfl rfl (OpP.geq rfl rfl) (fun h30 => ?_) (fun h30 => ?_)
      focus
        refine JL.pure rfl rfl (OpP.pickF rfl rfl) ?_
        refine JL.nil ?_
        refine J.condT rfl ?_
        refine J.seq ?_
        refine J.region ?_
        refine JL.pure rfl rfl (OpP.assign rfl) ?_
        refine JL.pure rfl rfl (OpP.assign rfl) ?_
        refine JL.nil ?_
        refine J.ret2 rfl rfl rfl ?_
      rotate_left 1
      focus
        refine JL.pure rfl rfl (OpP.pickF rfl rfl) ?_
        refine JL.nil ?_
        refine J.condF rfl ?_
        refine J.skip ?_
        refine J.seq ?_
        refine J.region ?_
        refine JL.pure rfl rfl (OpP.fieldAddr rfl) ?_
        refine JL.read rfl rfl (OpR.load1 rfl (Cell.row .head rfl)) ?_
        refine JL.pure rfl rfl (OpP.convI rfl (by simp [IntKind.min, IntKind.max, IntKind.signed, IntKind.bits] <;> omega) (by simp [IntKind.min, IntKind.max, IntKind.signed, IntKind.bits] <;> omega)) ?_
        refine JL.pure rfl rfl (OpP.move rfl) ?_
        refine JL.step rfl rfl (OpW.call (first := []) (captured := []) inferInstance rfl rfl (numberB1_ok (by omega) (by omega))) ?_; rintro r36 _ ⟨a, ⟨c, ⟨rfl, rfl⟩⟩⟩
        refine JL.pure rfl rfl (OpP.assign rfl) ?_
        refine JL.pure rfl rfl (OpP.assign rfl) ?_
        refine JL.nil ?_
        refine J.ret2 rfl rfl rfl ?_
      rotate_left 1
    rotate_left 2
    · exact ⟨_, .inr ⟨by rw [hb, if_pos (by omega)], _, rfl, rfl⟩, fun _ h => h.tail⟩
    · exact ⟨_, .inr ⟨by rw [hb, if_pos (by omega)], _, rfl, rfl⟩, fun _ h => h.tail⟩
    · exact ⟨_, .inl ⟨be p.n.toNat 1, _, _, _, by rw [hb, if_neg (by omega)], by rw [be_length], rfl, fun l => RdO.own (by rw [be_length]; exact .head)⟩, fun _ h => Own.pick (pre := [_, _]) [0] rfl h⟩
  by_cases h1 : p.kd % 8 = 1
  · have hv0 : (#[Value.int .i64 1, .int .i64 2, .int .i64 4] : Array Value).toList[(p.kd % 8).toNat]? = some (.int .i64 2) := by rw [h1]; rfl
    have hv1 : (#[Value.int .i64 256, .int .i64 65536, .int .i64 4294967296] : Array Value).toList[(p.kd % 8).toNat]? = some (.int .i64 65536) := by rw [h1]; rfl
    have hb : partB p = (if p.n < 0 ∨ 256 ^ 2 ≤ p.n then none else some (be p.n.toNat 2)) := by rw [partB, if_neg h0, if_pos h1]
    clear hr
    refine J.seq ?_
    refine J.region ?_
    refine JL.decF rfl rfl (OpP.eql rfl rfl) (by omega) ?_
    refine JL.pure rfl rfl (OpP.assign rfl) ?_
    refine JL.nil ?_
    refine J.condF rfl ?_
    refine J.seq ?_
    refine J.region ?_
    refine JL.decT rfl rfl (OpP.eql rfl rfl) (by omega) ?_
    refine JL.pure rfl rfl (OpP.assign rfl) ?_
    refine JL.nil ?_
    refine J.condT rfl ?_
    refine J.skip ?_
    refine J.condT rfl ?_
    refine J.seq ?_
    refine J.region ?_
    refine JL.pure rfl rfl (OpP.buildA rfl (by (repeat (first | exact Fills.nil | (apply Fills.cons rfl rfl rfl; (case' hs => ((repeat (first | exact Spl.nil | apply Spl.here | apply Spl.there)); done))))))) ?_
    refine JL.pure rfl rfl (OpP.fieldAddr rfl) ?_
    refine JL.read rfl rfl (OpR.load1 rfl (Cell.row .head rfl)) ?_
    refine JL.pure rfl rfl (OpP.remI rfl rfl (by first | omega | exact Int.natCast_nonneg _) (by omega)) ?_
    refine JL.pure rfl rfl (OpP.indexArr1 rfl rfl (by omega) (by omega) (by assumption)) ?_
    refine JL.pure rfl rfl (OpP.assign rfl) ?_
    refine JL.nil ?_
    refine J.seq ?_
    refine J.region ?_
    refine JL.pure rfl rfl (OpP.buildA rfl (by (repeat (first | exact Fills.nil | (apply Fills.cons rfl rfl rfl; (case' hs => ((repeat (first | exact Spl.nil | apply Spl.here | apply Spl.there)); done))))))) ?_
    refine JL.pure rfl rfl (OpP.fieldAddr rfl) ?_
    refine JL.read rfl rfl (OpR.load1 rfl (Cell.row .head rfl)) ?_
    refine JL.pure rfl rfl (OpP.remI rfl rfl (by first | omega | exact Int.natCast_nonneg _) (by omega)) ?_
    refine JL.pure rfl rfl (OpP.indexArr1 rfl rfl (by omega) (by omega) (by assumption)) ?_
    refine JL.pure rfl rfl (OpP.assign rfl) ?_
    refine JL.nil ?_
    refine J.seq ?_
    refine J.seq ?_
    refine J.region ?_
    refine JL.pure rfl rfl (OpP.fieldAddr rfl) ?_
    refine JL.read rfl rfl (OpR.load1 rfl (Cell.row .head rfl)) ?_
    refine JL.dec rfl rfl (OpP.lss rfl rfl) (fun h25 => ?_) (fun h25 => ?_)
    focus
      refine JL.pure rfl rfl (OpP.move rfl) ?_
      refine JL.skip rfl rfl ?_
      refine JL.skip rfl rfl ?_
      refine JL.skip rfl rfl ?_
      refine JL.skip rfl rfl ?_
      refine JL.pure rfl rfl (OpP.pickT rfl rfl) ?_
      refine JL.nil ?_
      refine J.condT rfl ?_
      refine J.seq ?_
      refine J.region ?_
      refine JL.pure rfl rfl (OpP.assign rfl) ?_
      refine JL.pure rfl rfl (OpP.assign rfl) ?_
      refine JL.nil ?_
      refine J.ret2 rfl rfl rfl ?_
    rotate_left 1
    focus
      refine JL.pure rfl rfl (OpP.move rfl) ?_
      refine JL.pure rfl rfl (OpP.fieldAddr rfl) ?_
      refine JL.read rfl rfl (OpR.load1 rfl (Cell.row .head rfl)) ?_
      refine JL.pure rfl rfl (OpP.move rfl) ?_
      refine JL.dec rfl rfl (OpP.geq rfl rfl) (fun h30 => ?_) (fun h30 => ?_)
      focus
        refine JL.pure rfl rfl (OpP.pickF rfl rfl) ?_
        refine JL.nil ?_
        refine J.condT rfl ?_
        refine J.seq ?_
        refine J.region ?_
        refine JL.pure rfl rfl (OpP.assign rfl) ?_
        refine JL.pure rfl rfl (OpP.assign rfl) ?_
        refine JL.nil ?_
        refine J.ret2 rfl rfl rfl ?_
      rotate_left 1
      focus
        refine JL.pure rfl rfl (OpP.pickF rfl rfl) ?_
        refine JL.nil ?_
        refine J.condF rfl ?_
        refine J.skip ?_
        refine J.seq ?_
        refine J.region ?_
        refine JL.pure rfl rfl (OpP.fieldAddr rfl) ?_
        refine JL.read rfl rfl (OpR.load1 rfl (Cell.row .head rfl)) ?_
        refine JL.pure rfl rfl (OpP.convI rfl (by simp [IntKind.min, IntKind.max, IntKind.signed, IntKind.bits] <;> omega) (by simp [IntKind.min, IntKind.max, IntKind.signed, IntKind.bits] <;> omega)) ?_
        refine JL.pure rfl rfl (OpP.move rfl) ?_
        refine JL.step rfl rfl (OpW.call (first := []) (captured := []) inferInstance rfl rfl (numberB2_ok (by omega) (by omega))) ?_; rintro r36 _ ⟨a, ⟨c, ⟨rfl, rfl⟩⟩⟩
        refine JL.pure rfl rfl (OpP.assign rfl) ?_
        refine JL.pure rfl rfl (OpP.assign rfl) ?_
        refine JL.nil ?_
        refine J.ret2 rfl rfl rfl ?_
      rotate_left 1
    rotate_left 2
    · exact ⟨_, .inr ⟨by rw [hb, if_pos (by omega)], _, rfl, rfl⟩, fun _ h => h.tail⟩
    · exact ⟨_, .inr ⟨by rw [hb, if_pos (by omega)], _, rfl, rfl⟩, fun _ h => h.tail⟩
    · exact ⟨_, .inl ⟨be p.n.toNat 2, _, _, _, by rw [hb, if_neg (by omega)], by rw [be_length], rfl, fun l => RdO.own (by rw [be_length]; exact .head)⟩, fun _ h => Own.pick (pre := [_, _]) [0] rfl h⟩
  by_cases h2 : p.kd % 8 = 2
  · have hv0 : (#[Value.int .i64 1, .int .i64 2, .int .i64 4] : Array Value).toList[(p.kd % 8).toNat]? = some (.int .i64 4) := by rw [h2]; rfl
    have hv1 : (#[Value.int .i64 256, .int .i64 65536, .int .i64 4294967296] : Array Value).toList[(p.kd % 8).toNat]? = some (.int .i64 4294967296) := by rw [h2]; rfl
    have hb : partB p = (if p.n < 0 ∨ 256 ^ 4 ≤ p.n then none else some (be p.n.toNat 4)) := by rw [partB, if_neg h0, if_neg h1, if_pos h2]
    clear hr
    refine J.seq ?_
    refine J.region ?_
    refine JL.decF rfl rfl (OpP.eql rfl rfl) (by omega) ?_
    refine JL.pure rfl rfl (OpP.assign rfl) ?_
    refine JL.nil ?_
    refine J.condF rfl ?_
    refine J.seq ?_
    refine J.region ?_
    refine JL.decF rfl rfl (OpP.eql rfl rfl) (by omega) ?_
    refine JL.pure rfl rfl (OpP.assign rfl) ?_
    refine JL.nil ?_
    refine J.condF rfl ?_
    refine J.region ?_
    refine JL.decT rfl rfl (OpP.eql rfl rfl) (by omega) ?_
    refine JL.pure rfl rfl (OpP.assign rfl) ?_
    refine JL.nil ?_
    refine J.condT rfl ?_
    refine J.seq ?_
    refine J.region ?_
    refine JL.pure rfl rfl (OpP.buildA rfl (by (repeat (first | exact Fills.nil | (apply Fills.cons rfl rfl rfl; (case' hs => ((repeat (first | exact Spl.nil | apply Spl.here | apply Spl.there)); done))))))) ?_
    refine JL.pure rfl rfl (OpP.fieldAddr rfl) ?_
    refine JL.read rfl rfl (OpR.load1 rfl (Cell.row .head rfl)) ?_
    refine JL.pure rfl rfl (OpP.remI rfl rfl (by first | omega | exact Int.natCast_nonneg _) (by omega)) ?_
    refine JL.pure rfl rfl (OpP.indexArr1 rfl rfl (by omega) (by omega) (by assumption)) ?_
    refine JL.pure rfl rfl (OpP.assign rfl) ?_
    refine JL.nil ?_
    refine J.seq ?_
    refine J.region ?_
    refine JL.pure rfl rfl (OpP.buildA rfl (by (repeat (first | exact Fills.nil | (apply Fills.cons rfl rfl rfl; (case' hs => ((repeat (first | exact Spl.nil | apply Spl.here | apply Spl.there)); done))))))) ?_
    refine JL.pure rfl rfl (OpP.fieldAddr rfl) ?_
    refine JL.read rfl rfl (OpR.load1 rfl (Cell.row .head rfl)) ?_
    refine JL.pure rfl rfl (OpP.remI rfl rfl (by first | omega | exact Int.natCast_nonneg _) (by omega)) ?_
    refine JL.pure rfl rfl (OpP.indexArr1 rfl rfl (by omega) (by omega) (by assumption)) ?_
    refine JL.pure rfl rfl (OpP.assign rfl) ?_
    refine JL.nil ?_
    refine J.seq ?_
    refine J.seq ?_
    refine J.region ?_
    refine JL.pure rfl rfl (OpP.fieldAddr rfl) ?_
    refine JL.read rfl rfl (OpR.load1 rfl (Cell.row .head rfl)) ?_
    refine JL.dec rfl rfl (OpP.lss rfl rfl) (fun h25 => ?_) (fun h25 => ?_)
    focus
      refine JL.pure rfl rfl (OpP.move rfl) ?_
      refine JL.skip rfl rfl ?_
      refine JL.skip rfl rfl ?_
      refine JL.skip rfl rfl ?_
      refine JL.skip rfl rfl ?_
      refine JL.pure rfl rfl (OpP.pickT rfl rfl) ?_
      refine JL.nil ?_
      refine J.condT rfl ?_
      refine J.seq ?_
      refine J.region ?_
      refine JL.pure rfl rfl (OpP.assign rfl) ?_
      refine JL.pure rfl rfl (OpP.assign rfl) ?_
      refine JL.nil ?_
      refine J.ret2 rfl rfl rfl ?_
    rotate_left 1
    focus
      refine JL.pure rfl rfl (OpP.move rfl) ?_
      refine JL.pure rfl rfl (OpP.fieldAddr rfl) ?_
      refine JL.read rfl rfl (OpR.load1 rfl (Cell.row .head rfl)) ?_
      refine JL.pure rfl rfl (OpP.move rfl) ?_
      refine JL.dec rfl rfl (OpP.geq rfl rfl) (fun h30 => ?_) (fun h30 => ?_)
      focus
        refine JL.pure rfl rfl (OpP.pickF rfl rfl) ?_
        refine JL.nil ?_
        refine J.condT rfl ?_
        refine J.seq ?_
        refine J.region ?_
        refine JL.pure rfl rfl (OpP.assign rfl) ?_
        refine JL.pure rfl rfl (OpP.assign rfl) ?_
        refine JL.nil ?_
        refine J.ret2 rfl rfl rfl ?_
      rotate_left 1
      focus
        refine JL.pure rfl rfl (OpP.pickF rfl rfl) ?_
        refine JL.nil ?_
        refine J.condF rfl ?_
        refine J.skip ?_
        refine J.seq ?_
        refine J.region ?_
        refine JL.pure rfl rfl (OpP.fieldAddr rfl) ?_
        refine JL.read rfl rfl (OpR.load1 rfl (Cell.row .head rfl)) ?_
        refine JL.pure rfl rfl (OpP.convI rfl (by simp [IntKind.min, IntKind.max, IntKind.signed, IntKind.bits] <;> omega) (by simp [IntKind.min, IntKind.max, IntKind.signed, IntKind.bits] <;> omega)) ?_
        refine JL.pure rfl rfl (OpP.move rfl) ?_
        refine JL.step rfl rfl (OpW.call (first := []) (captured := []) inferInstance rfl rfl (numberB4_ok (by omega) (by omega))) ?_; rintro r36 _ ⟨a, ⟨c, ⟨rfl, rfl⟩⟩⟩
        refine JL.pure rfl rfl (OpP.assign rfl) ?_
        refine JL.pure rfl rfl (OpP.assign rfl) ?_
        refine JL.nil ?_
        refine J.ret2 rfl rfl rfl ?_
      rotate_left 1
    rotate_left 2
    · exact ⟨_, .inr ⟨by rw [hb, if_pos (by omega)], _, rfl, rfl⟩, fun _ h => h.tail⟩
    · exact ⟨_, .inr ⟨by rw [hb, if_pos (by omega)], _, rfl, rfl⟩, fun _ h => h.tail⟩
    · exact ⟨_, .inl ⟨be p.n.toNat 4, _, _, _, by rw [hb, if_neg (by omega)], by rw [be_length], rfl, fun l => RdO.own (by rw [be_length]; exact .head)⟩, fun _ h => Own.pick (pre := [_, _]) [0] rfl h⟩
  by_cases h3 : p.kd % 8 = 3
  · have hb : partB p = some (be (u64 p.n) 8) := by rw [partB, if_neg h0, if_neg h1, if_neg h2, if_pos h3]
    clear hr
    refine J.seq ?_
    refine J.region ?_
    refine JL.decF rfl rfl (OpP.eql rfl rfl) (by omega) ?_
    refine JL.pure rfl rfl (OpP.assign rfl) ?_
    refine JL.nil ?_
    refine J.condF rfl ?_
    refine J.seq ?_
    refine J.region ?_
    refine JL.decF rfl rfl (OpP.eql rfl rfl) (by omega) ?_
    refine JL.pure rfl rfl (OpP.assign rfl) ?_
    refine JL.nil ?_
    refine J.condF rfl ?_
    refine J.region ?_
    refine JL.decF rfl rfl (OpP.eql rfl rfl) (by omega) ?_
    refine JL.pure rfl rfl (OpP.assign rfl) ?_
    refine JL.nil ?_
    refine J.condF rfl ?_
    refine J.seq ?_
    refine J.region ?_
    refine JL.decT rfl rfl (OpP.eql rfl rfl) (by omega) ?_
    refine JL.pure rfl rfl (OpP.assign rfl) ?_
    refine JL.nil ?_
    refine J.condT rfl ?_
    refine J.seq ?_
    refine J.region ?_
    refine JL.pure rfl rfl (OpP.fieldAddr rfl) ?_
    refine JL.read rfl rfl (OpR.load1 rfl (Cell.row .head rfl)) ?_
    refine JL.pure rfl rfl (OpP.conv rfl) ?_
    refine JL.step rfl rfl (OpW.call (first := []) (captured := []) inferInstance rfl rfl number8_ok) ?_; rintro r42 _ ⟨⟨a, ⟨c, rfl⟩⟩, rfl⟩
    refine JL.pure rfl rfl (OpP.assign rfl) ?_
    refine JL.pure rfl rfl (OpP.assign rfl) ?_
    refine JL.nil ?_
    refine J.ret2 rfl rfl rfl ?_
    exact ⟨_, .inl ⟨be (u64 p.n) 8, _, _, _, hb, by rw [be_length], rfl, fun l => RdO.own (by rw [be_length]; exact .head)⟩, fun _ h => Own.pick (pre := [_, _]) [0] rfl h⟩
  by_cases h4 : p.kd % 8 = 4
  · have hb : partB p = some [if u64 p.n % 2 = 1 then 1 else 0] := by rw [partB, if_neg h0, if_neg h1, if_neg h2, if_neg h3, if_pos h4]
    clear hr
    refine J.seq ?_
    refine J.region ?_
    refine JL.decF rfl rfl (OpP.eql rfl rfl) (by omega) ?_
    refine JL.pure rfl rfl (OpP.assign rfl) ?_
    refine JL.nil ?_
    refine J.condF rfl ?_
    refine J.seq ?_
    refine J.region ?_
    refine JL.decF rfl rfl (OpP.eql rfl rfl) (by omega) ?_
    refine JL.pure rfl rfl (OpP.assign rfl) ?_
    refine JL.nil ?_
    refine J.condF rfl ?_
    refine J.region ?_
    refine JL.decF rfl rfl (OpP.eql rfl rfl) (by omega) ?_
    refine JL.pure rfl rfl (OpP.assign rfl) ?_
    refine JL.nil ?_
    refine J.condF rfl ?_
    refine J.seq ?_
    refine J.region ?_
    refine JL.decF rfl rfl (OpP.eql rfl rfl) (by omega) ?_
    refine JL.pure rfl rfl (OpP.assign rfl) ?_
    refine JL.nil ?_
    refine J.condF rfl ?_
    refine J.seq ?_
    refine J.region ?_
    refine JL.decT rfl rfl (OpP.eql rfl rfl) (by omega) ?_
    refine JL.pure rfl rfl (OpP.assign rfl) ?_
    refine JL.nil ?_
    refine J.condT rfl ?_
    refine J.seq ?_
    refine J.region ?_
    refine JL.pure rfl rfl (OpP.fieldAddr rfl) ?_
    refine JL.read rfl rfl (OpR.load1 rfl (Cell.row .head rfl)) ?_
    refine JL.pure rfl rfl (OpP.conv rfl) ?_
    refine JL.pure rfl rfl (OpP.rem rfl rfl (by omega)) ?_
    refine JL.pure rfl rfl (OpP.conv rfl) ?_
    refine JL.mem rfl rfl (by apply OpM.buildSlice (by rfl) rfl (by rfl); (repeat (first | exact Fills.nil | (apply Fills.cons rfl rfl rfl; (case' hs => ((repeat (first | exact Spl.nil | apply Spl.here | apply Spl.there)); done)))))) ?_; rintro _ _ ⟨b50, rfl, rfl⟩
    refine JL.pure rfl rfl (OpP.assign rfl) ?_
    refine JL.pure rfl rfl (OpP.assign rfl) ?_
    refine JL.nil ?_
    refine J.ret2 rfl rfl rfl ?_
    refine ⟨_, .inl ⟨_, _, 1, _, hb, rfl, rfl, fun l => ?_⟩, fun _ h => Own.pick (pre := [_, _]) [0] rfl h⟩
    have e : Value.int .u8 (IntKind.u8.wrap ((IntKind.u64.wrap p.n).tmod 2)) = u8c (if u64 p.n % 2 = 1 then 1 else 0) := by
      rw [u64_wrap, Int.tmod_eq_emod_of_nonneg (by omega)]
      by_cases ho : u64 p.n % 2 = 1
      · rw [if_pos ho, show ((u64 p.n : Nat) : Int) % 2 = 1 by omega]; rfl
      · rw [if_neg ho, show ((u64 p.n : Nat) : Int) % 2 = 0 by omega]; rfl
    rw [e]
    exact RdO.ofRow .head (Nat.le_refl _)
  by_cases h5 : p.kd % 8 = 5
  · have hb : partB p = (if 4096 < p.t.length then none else some (be p.t.length 2 ++ p.t)) := by rw [partB, if_neg h0, if_neg h1, if_neg h2, if_neg h3, if_neg h4, if_pos h5]
    clear hr
    refine J.seq ?_
    refine J.region ?_
    refine JL.decF rfl rfl (OpP.eql rfl rfl) (by omega) ?_
    refine JL.pure rfl rfl (OpP.assign rfl) ?_
    refine JL.nil ?_
    refine J.condF rfl ?_
    refine J.seq ?_
    refine J.region ?_
    refine JL.decF rfl rfl (OpP.eql rfl rfl) (by omega) ?_
    refine JL.pure rfl rfl (OpP.assign rfl) ?_
    refine JL.nil ?_
    refine J.condF rfl ?_
    refine J.region ?_
    refine JL.decF rfl rfl (OpP.eql rfl rfl) (by omega) ?_
    refine JL.pure rfl rfl (OpP.assign rfl) ?_
    refine JL.nil ?_
    refine J.condF rfl ?_
    refine J.seq ?_
    refine J.region ?_
    refine JL.decF rfl rfl (OpP.eql rfl rfl) (by omega) ?_
    refine JL.pure rfl rfl (OpP.assign rfl) ?_
    refine JL.nil ?_
    refine J.condF rfl ?_
    refine J.seq ?_
    refine J.region ?_
    refine JL.decF rfl rfl (OpP.eql rfl rfl) (by omega) ?_
    refine JL.pure rfl rfl (OpP.assign rfl) ?_
    refine JL.nil ?_
    refine J.condF rfl ?_
    refine J.seq ?_
    refine J.region ?_
    refine JL.decT rfl rfl (OpP.eql rfl rfl) (by omega) ?_
    refine JL.pure rfl rfl (OpP.assign rfl) ?_
    refine JL.nil ?_
    refine J.condT rfl ?_
    refine J.seq ?_
    refine J.regionD [1, 6, 9] (by kernel_rfl) ?_
    refine DL.pure (i := 0) (by kernel_rfl) (by kernel_rfl) rfl rfl rfl (OpP.fieldAddr rfl) ?_
    refine DL.read (i := 1) (by kernel_rfl) (by kernel_rfl) rfl rfl rfl (fun _ h => h) (OpR.load1 rfl (Cell.row .head rfl)) ?_
    refine DL.pure (i := 2) (by kernel_rfl) (by kernel_rfl) rfl rfl rfl (OpP.lenStr rfl rfl) ?_
    refine DL.pure (i := 3) (by kernel_rfl) (by kernel_rfl) rfl rfl rfl (OpP.convI rfl (by simp [IntKind.min, IntKind.max, IntKind.signed, IntKind.bits] <;> omega) (by simp [IntKind.min, IntKind.max, IntKind.signed, IntKind.bits] <;> omega)) ?_
    refine DL.pure (i := 5) (by kernel_rfl) (by kernel_rfl) rfl rfl rfl (OpP.fieldAddr rfl) ?_
    refine DL.read (i := 6) (by kernel_rfl) (by kernel_rfl) rfl rfl rfl (fun _ h => h) (OpR.load1 rfl (Cell.row .head rfl)) ?_
    refine DL.pure (i := 8) (by kernel_rfl) (by kernel_rfl) rfl rfl rfl (OpP.fieldAddr rfl) ?_
    refine DL.read (i := 9) (by kernel_rfl) (by kernel_rfl) rfl rfl rfl (fun _ h => h) (OpR.load1 rfl (Cell.row .head rfl)) ?_
    refine DL.pure (i := 10) (by kernel_rfl) (by kernel_rfl) rfl rfl rfl (OpP.lenStr rfl rfl) ?_
    refine DL.dec (i := 11) (by kernel_rfl) (by kernel_rfl) rfl rfl rfl (OpP.leq rfl rfl) (fun h64 => ?_) (fun h64 => ?_)
    focus
      refine DL.only (i := 4) (by kernel_rfl) ?_
      refine DL1.stepK rfl rfl rfl (by exact OpW.call (first := []) (captured := []) inferInstance rfl rfl (number2_ok (by omega))) (by rintro _ _ ⟨⟨a, ⟨c, rfl⟩⟩, rfl⟩ _ h; exact Own.pick (pre := [_, _]) [1] rfl h) ?_; rintro r57 _ ⟨⟨a, ⟨c, rfl⟩⟩, rfl⟩
      refine DL.only (i := 7) (by kernel_rfl) ?_
      refine DL1.stepK rfl rfl rfl (OpM.w (OpM.appendH rfl (.inr StrT.h) (by rfl) rfl rfl Src.str (bcells_one _) (by simp only [maxLen]; omega) (by omega))) (by rintro _ _ ⟨⟨a60, c60, rfl⟩, rfl⟩ _ h; exact Own.pick (pre := [_, _]) [1] rfl h) ?_; rintro _ _ ⟨⟨a60, c60, rfl⟩, rfl⟩
      refine DL.pure (i := 12) (by kernel_rfl) (by kernel_rfl) rfl rfl rfl (OpP.assign rfl) ?_
      refine DL.pure (i := 13) (by kernel_rfl) (by kernel_rfl) rfl rfl rfl (OpP.assign rfl) ?_
      refine DL.done (by kernel_rfl) ?_
      refine J.ret2 rfl rfl rfl ?_
    rotate_left 1
    focus
      refine DL.only (i := 4) (by kernel_rfl) ?_
      refine DL1.stepK rfl rfl rfl (by exact OpW.call (first := []) (captured := []) inferInstance rfl rfl (number2_ok (by omega))) (by rintro _ _ ⟨⟨a, ⟨c, rfl⟩⟩, rfl⟩ _ h; exact Own.pick (pre := [_, _]) [1] rfl h) ?_; rintro r57 _ ⟨⟨a, ⟨c, rfl⟩⟩, rfl⟩
      refine DL.only (i := 7) (by kernel_rfl) ?_
      refine DL1.stepK rfl rfl rfl (OpM.w (OpM.appendH rfl (.inr StrT.h) (by rfl) rfl rfl Src.str (bcells_one _) (by simp only [maxLen]; omega) (by omega))) (by rintro _ _ ⟨⟨a60, c60, rfl⟩, rfl⟩ _ h; exact Own.pick (pre := [_, _]) [1] rfl h) ?_; rintro _ _ ⟨⟨a60, c60, rfl⟩, rfl⟩
      refine DL.pure (i := 12) (by kernel_rfl) (by kernel_rfl) rfl rfl rfl (OpP.assign rfl) ?_
      refine DL.pure (i := 13) (by kernel_rfl) (by kernel_rfl) rfl rfl rfl (OpP.assign rfl) ?_
      refine DL.done (by kernel_rfl) ?_
      refine J.ret2 rfl rfl rfl ?_
    rotate_left 1
    · refine ⟨_, .inl ⟨be p.t.length 2 ++ p.t, _, _, _, by rw [hb, if_neg (by omega)], by rw [List.length_append, be_length, ← es], rfl, fun l => RdO.own (e := 5) (sz := 1) ?_⟩, fun _ h => Own.pick (pre := [_, _]) [0] rfl h⟩
      rw [List.length_append, be_length, ← es, bcells_app, strB_data]
      exact .head
    · exact ⟨_, .inr ⟨by rw [hb, if_pos (by omega)], _, rfl, rfl⟩, fun _ h => h.tail.tail⟩
  by_cases h6 : p.kd % 8 = 6
  · have hb : partB p = some p.t := by rw [partB, if_neg h0, if_neg h1, if_neg h2, if_neg h3, if_neg h4, if_neg h5, if_pos h6]
    clear hr
    refine J.seq ?_
    refine J.region ?_
    refine JL.decF rfl rfl (OpP.eql rfl rfl) (by omega) ?_
    refine JL.pure rfl rfl (OpP.assign rfl) ?_
    refine JL.nil ?_
    refine J.condF rfl ?_
    refine J.seq ?_
    refine J.region ?_
    refine JL.decF rfl rfl (OpP.eql rfl rfl) (by omega) ?_
    refine JL.pure rfl rfl (OpP.assign rfl) ?_
    refine JL.nil ?_
    refine J.condF rfl ?_
    refine J.region ?_
    refine JL.decF rfl rfl (OpP.eql rfl rfl) (by omega) ?_
    refine JL.pure rfl rfl (OpP.assign rfl) ?_
    refine JL.nil ?_
    refine J.condF rfl ?_
    refine J.seq ?_
    refine J.region ?_
    refine JL.decF rfl rfl (OpP.eql rfl rfl) (by omega) ?_
    refine JL.pure rfl rfl (OpP.assign rfl) ?_
    refine JL.nil ?_
    refine J.condF rfl ?_
    refine J.seq ?_
    refine J.region ?_
    refine JL.decF rfl rfl (OpP.eql rfl rfl) (by omega) ?_
    refine JL.pure rfl rfl (OpP.assign rfl) ?_
    refine JL.nil ?_
    refine J.condF rfl ?_
    refine J.seq ?_
    refine J.region ?_
    refine JL.decF rfl rfl (OpP.eql rfl rfl) (by omega) ?_
    refine JL.pure rfl rfl (OpP.assign rfl) ?_
    refine JL.nil ?_
    refine J.condF rfl ?_
    refine J.seq ?_
    refine J.region ?_
    refine JL.decT rfl rfl (OpP.eql rfl rfl) (by omega) ?_
    refine JL.pure rfl rfl (OpP.assign rfl) ?_
    refine JL.nil ?_
    refine J.condT rfl ?_
    refine J.seq ?_
    refine J.region ?_
    refine JL.pure rfl rfl (OpP.fieldAddr rfl) ?_
    refine JL.read rfl rfl (OpR.load1 rfl (Cell.row .head rfl)) ?_
    refine JL.mem rfl rfl (OpM.strToBytesC rfl) ?_; rintro _ _ ⟨b69, c69, rfl, k69, rfl⟩
    refine JL.pure rfl rfl (OpP.assign rfl) ?_
    refine JL.pure rfl rfl (OpP.assign rfl) ?_
    refine JL.nil ?_
    refine J.ret2 rfl rfl rfl ?_
    refine ⟨_, .inl ⟨p.t, _, _, _, hb, by rw [es], rfl, fun l => RdO.ofRdo (by rw [strB_data]; exact .head) (by omega)⟩, fun _ h => Own.pick (pre := [_, _]) [0] rfl h⟩
  by_cases hf : FormedP p.u.k p.u.i p.u.s p.u.xs
  · have hb : partB p = some (valB p.u.k p.u.i p.u.s p.u.xs) := by rw [partB, if_neg h0, if_neg h1, if_neg h2, if_neg h3, if_neg h4, if_neg h5, if_neg h6, if_pos hf]
    refine J.seq ?_
    refine J.region ?_
    refine JL.decF rfl rfl (OpP.eql rfl rfl) (by omega) ?_
    refine JL.pure rfl rfl (OpP.assign rfl) ?_
    refine JL.nil ?_
    refine J.condF rfl ?_
    refine J.seq ?_
    refine J.region ?_
    refine JL.decF rfl rfl (OpP.eql rfl rfl) (by omega) ?_
    refine JL.pure rfl rfl (OpP.assign rfl) ?_
    refine JL.nil ?_
    refine J.condF rfl ?_
    refine J.region ?_
    refine JL.decF rfl rfl (OpP.eql rfl rfl) (by omega) ?_
    refine JL.pure rfl rfl (OpP.assign rfl) ?_
    refine JL.nil ?_
    refine J.condF rfl ?_
    refine J.seq ?_
    refine J.region ?_
    refine JL.decF rfl rfl (OpP.eql rfl rfl) (by omega) ?_
    refine JL.pure rfl rfl (OpP.assign rfl) ?_
    refine JL.nil ?_
    refine J.condF rfl ?_
    refine J.seq ?_
    refine J.region ?_
    refine JL.decF rfl rfl (OpP.eql rfl rfl) (by omega) ?_
    refine JL.pure rfl rfl (OpP.assign rfl) ?_
    refine JL.nil ?_
    refine J.condF rfl ?_
    refine J.seq ?_
    refine J.region ?_
    refine JL.decF rfl rfl (OpP.eql rfl rfl) (by omega) ?_
    refine JL.pure rfl rfl (OpP.assign rfl) ?_
    refine JL.nil ?_
    refine J.condF rfl ?_
    refine J.seq ?_
    refine J.region ?_
    refine JL.decF rfl rfl (OpP.eql rfl rfl) (by omega) ?_
    refine JL.pure rfl rfl (OpP.assign rfl) ?_
    refine JL.nil ?_
    refine J.condF rfl ?_
    refine J.skip ?_
    refine J.inBlock ?_
    refine J.seq ?_
    refine J.seq ?_
    refine J.region ?_
    refine JL.pure rfl rfl (OpP.fieldAddr rfl) ?_
    refine JL.read rfl rfl (OpR.loadN rfl (Cells.sub 4 .head rfl) rfl) ?_
    refine JL.step rfl rfl (OpW.call (first := []) (captured := []) inferInstance rfl rfl (refFormedT (k := p.u.k) (i := p.u.i) (s := p.u.s) (a := p.u.a) (c := p.u.c) (xs := p.u.xs) hx hn hf (hr.conv fun _ h => Own.pick (pre := [_]) [] rfl h))) ?_; rintro r72 _ ⟨rfl, rfl⟩
    refine JL.pure rfl rfl (OpP.notB rfl) ?_
    refine JL.nil ?_
    refine J.condF rfl ?_
    refine J.skip ?_
    refine J.seq ?_
    refine J.region ?_
    refine JL.pure rfl rfl (OpP.fieldAddr rfl) ?_
    refine JL.read rfl rfl (OpR.loadN rfl (Cells.sub 4 .head rfl) rfl) ?_
    refine JL.step rfl rfl (OpW.call (first := []) (captured := []) inferInstance rfl rfl (refVal_ok (k := p.u.k) (i := p.u.i) (s := p.u.s) (a := p.u.a) (c := p.u.c) (xs := p.u.xs) hn hf (hr.conv fun _ h => Own.pick (pre := [_]) [] rfl h))) ?_; rintro r76 _ ⟨⟨a, ⟨c, rfl⟩⟩, rfl⟩
    refine JL.pure rfl rfl (OpP.assign rfl) ?_
    refine JL.pure rfl rfl (OpP.assign rfl) ?_
    refine JL.nil ?_
    refine J.ret2 rfl rfl rfl ?_
    exact ⟨_, .inl ⟨_, _, _, _, hb, rfl, rfl, fun l => RdO.own .head⟩, fun _ h => Own.pick (pre := [_, _]) [0] rfl h⟩
  · have hb : partB p = none := by rw [partB, if_neg h0, if_neg h1, if_neg h2, if_neg h3, if_neg h4, if_neg h5, if_neg h6, if_neg hf]
    refine J.seq ?_
    refine J.region ?_
    refine JL.decF rfl rfl (OpP.eql rfl rfl) (by omega) ?_
    refine JL.pure rfl rfl (OpP.assign rfl) ?_
    refine JL.nil ?_
    refine J.condF rfl ?_
    refine J.seq ?_
    refine J.region ?_
    refine JL.decF rfl rfl (OpP.eql rfl rfl) (by omega) ?_
    refine JL.pure rfl rfl (OpP.assign rfl) ?_
    refine JL.nil ?_
    refine J.condF rfl ?_
    refine J.region ?_
    refine JL.decF rfl rfl (OpP.eql rfl rfl) (by omega) ?_
    refine JL.pure rfl rfl (OpP.assign rfl) ?_
    refine JL.nil ?_
    refine J.condF rfl ?_
    refine J.seq ?_
    refine J.region ?_
    refine JL.decF rfl rfl (OpP.eql rfl rfl) (by omega) ?_
    refine JL.pure rfl rfl (OpP.assign rfl) ?_
    refine JL.nil ?_
    refine J.condF rfl ?_
    refine J.seq ?_
    refine J.region ?_
    refine JL.decF rfl rfl (OpP.eql rfl rfl) (by omega) ?_
    refine JL.pure rfl rfl (OpP.assign rfl) ?_
    refine JL.nil ?_
    refine J.condF rfl ?_
    refine J.seq ?_
    refine J.region ?_
    refine JL.decF rfl rfl (OpP.eql rfl rfl) (by omega) ?_
    refine JL.pure rfl rfl (OpP.assign rfl) ?_
    refine JL.nil ?_
    refine J.condF rfl ?_
    refine J.seq ?_
    refine J.region ?_
    refine JL.decF rfl rfl (OpP.eql rfl rfl) (by omega) ?_
    refine JL.pure rfl rfl (OpP.assign rfl) ?_
    refine JL.nil ?_
    refine J.condF rfl ?_
    refine J.skip ?_
    refine J.inBlock ?_
    refine J.seq ?_
    refine J.seq ?_
    refine J.region ?_
    refine JL.pure rfl rfl (OpP.fieldAddr rfl) ?_
    refine JL.read rfl rfl (OpR.loadN rfl (Cells.sub 4 .head rfl) rfl) ?_
    refine JL.step rfl rfl (OpW.call (first := []) (captured := []) inferInstance rfl rfl (refFormedF (k := p.u.k) (i := p.u.i) (s := p.u.s) (a := p.u.a) (c := p.u.c) (xs := p.u.xs) hx hn hf (hr.conv fun _ h => Own.pick (pre := [_]) [] rfl h))) ?_; rintro r72 _ ⟨rfl, rfl⟩
    refine JL.pure rfl rfl (OpP.notB rfl) ?_
    refine JL.nil ?_
    refine J.condT rfl ?_
    refine J.seq ?_
    refine J.region ?_
    refine JL.pure rfl rfl (OpP.assign rfl) ?_
    refine JL.pure rfl rfl (OpP.assign rfl) ?_
    refine JL.nil ?_
    refine J.ret2 rfl rfl rfl ?_
    exact ⟨_, .inr ⟨hb, _, rfl, rfl⟩, fun _ h => h.tail⟩
end Go.Proofs.E

-- seat e
namespace Go.Proofs.E
open Go Go.Gp Go.RowKit

/-- A reader that tells u, and leaves R. -/
abbrev TookV (w0 : World) (f : FuncId) (args : List Value) (g : Nat) (v : Value) (M : List UInt8) (F : List HProp) (R : List UInt8) (u : Value) : Prop :=
  FnO Try.prog w0 f args (inL g false v M F) (fun r l' => r = u ∧ ∃ v', l' = inL g false v' R F)
theorem absO_some {b : Bool} {M R : List UInt8} (h : absO b M = some R) : b = false ∧ M = R := by
  cases b
  · exact ⟨rfl, Option.some.inj h⟩
  · cases h
theorem Took.val {w0 : World} {f : FuncId} {args : List Value} {g : Nat} {v : Value} {M R : List UInt8} {F : List HProp} {o : Option (List UInt8)} {u u' : Value} (h : Took w0 f args g false v M F o u) (ho : o = some R) (hu : u = u') : TookV w0 f args g v M F R u' :=
  h.mono fun r l' ⟨b, v', M', _, h2, h3, h4⟩ => by
    obtain ⟨rfl, rfl⟩ := absO_some (h2.trans ho)
    exact ⟨h3.trans hu, v', h4⟩
variable {w0 : World} {F : List HProp} {g : Nat} {v : Value} {M R : List UInt8}
end Go.Proofs.E

-- seat e
namespace Go.Proofs.E
open Go Go.Gp Go.RowKit

/-- The bytes of parts, if they can be. -/
noncomputable def allF (o : Option (List UInt8)) (ps : List Pa) : Option (List UInt8) := ps.foldl (fun o p => (partB p).bind (putO o)) o
theorem putO_le {o : Option (List UInt8)} {b r : List UInt8} (h : putO o b = some r) : r.length ≤ 4096 := by
  cases o with
  | none => cases h
  | some L =>
    simp only [putO, Option.bind_some] at h
    split at h
    · obtain rfl := Option.some.inj h
      rw [List.length_append]; omega
    · cases h
theorem allF_none {ps : List Pa} : allF none ps = none := by
  induction ps with
  | nil => rfl
  | cons p ps ih =>
    rw [allF, List.foldl_cons, show (partB p).bind (putO none) = none by cases partB p <;> rfl]
    exact ih
theorem allF_take {ps : List Pa} {j : Nat} {p : Pa} {o : Option (List UInt8)} (hp : ps[j]? = some p) : allF o (ps.take (j + 1)) = (partB p).bind (putO (allF o (ps.take j))) := by
  rw [List.take_add_one, hp, Option.toList_some, allF, List.foldl_append]; rfl
theorem allF_fail {ps : List Pa} {j : Nat} {o : Option (List UInt8)} (h : allF o (ps.take j) = none) : allF o ps = none := by
  rw [show ps = ps.take j ++ ps.drop j from (List.take_append_drop j ps).symm, allF, List.foldl_append]
  have h2 : List.foldl (fun o p => (partB p).bind (putO o)) o (ps.take j) = none := h
  rw [h2]
  exact allF_none
theorem partB_le {p : Pa} {bs : List UInt8} (ht : p.t.length ≤ 5000) (h : partB p = some bs) : bs.length ≤ 9000 := by
  unfold partB at h
  repeat' split at h
  all_goals first | (cases h; done) | obtain rfl := Option.some.inj h
  all_goals first | (rw [be_length]; omega) | (rw [List.length_append, be_length]; omega) | (simp; done) | omega | (have := valB_le (by assumption); omega)
theorem bytes_ok' {w0 : World} {F : List HProp} {p : Pa} (hk : 0 ≤ p.kd ∧ p.kd ≤ 255) (ht : p.t.length ≤ 5000) (hx : ∀ e ∈ p.u.xs, e.ok) (hn : p.u.xs.length ≤ 9223372036854775807) (hN : -9223372036854775808 ≤ p.n ∧ p.n ≤ 9223372036854775807) (hr : RdO w0 F (.slice p.u.a p.u.xs.length p.u.c) p.u.xs.length (p.u.xs.flatMap ecl)) :
    FnO Try.prog w0 54 [.agg (pac p).toArray] F (fun r l' => (∃ bs a c H, partB p = some bs ∧ bs.length ≤ 9000 ∧ r = .tuple #[.slice a bs.length c, .bool true] ∧ l' = H :: F ∧ ∀ l, RdO w0 (H :: l) (.slice a bs.length c) bs.length (bcells bs)) ∨ (partB p = none ∧ ∃ v, r = .tuple #[v, .bool false] ∧ l' = F)) :=
  (bytes_ok hk ht hx hn hN hr).mono fun r l' h => by
    rcases h with ⟨bs, a, c, H, h1, h2⟩ | h
    · exact .inl ⟨bs, a, c, H, h1, partB_le ht h1, h2⟩
    · exact .inr h
theorem all_ok {w0 : World} {F : List HProp} {a : Option Addr} {c : Nat} {ps : List Pa} (hn : ps.length ≤ 9223372036854775807) (hk : ∀ p ∈ ps, 0 ≤ p.kd ∧ p.kd ≤ 255) (hN : ∀ p ∈ ps, -9223372036854775808 ≤ p.n ∧ p.n ≤ 9223372036854775807) (hf : ∀ p ∈ ps, FewP p) (hr : RdO w0 F (.slice a ps.length c) ps.length (ps.flatMap pac)) (hin : ∀ p ∈ ps, RdO w0 F (.slice p.u.a p.u.xs.length p.u.c) p.u.xs.length (p.u.xs.flatMap ecl)) :
    FnO Try.prog w0 24 [.slice a ps.length c] F (fun r l' => (∃ bs a c, allF (some []) ps = some bs ∧ bs.length ≤ 4096 ∧ r = .tuple #[.slice a bs.length c, .bool true] ∧ l' = own 5 1 (.slice a bs.length c) bs.length (bcells bs) :: F) ∨ (allF (some []) ps = none ∧ r = .tuple #[.slice none 0 0, .bool false] ∧ l' = F)) := by
  have hlen : ∀ p ∈ ps, (pac p).length = 7 := fun _ _ => rfl
  refine FnO.rdF (fun _ h => h) hr fun hr1 => ?_
  refine FnO.weak ?_
  refine FnO.intro (n := 36) Try.func24 rfl rfl rfl ?_
  refine J.seq ?_
  refine J.region ?_
  refine JL.pure rfl rfl (OpP.assign rfl) ?_
  refine JL.pure rfl rfl (OpP.assign rfl) ?_
  refine JL.nil ?_
  refine J.seq ?_
  refine J.region ?_
  refine JL.pure rfl rfl (OpP.assign rfl) ?_
  refine JL.nil ?_
  refine J.seq ?_
  refine J.seq ?_
  refine J.region ?_
  refine JL.pure rfl rfl (OpP.assign rfl) ?_
  refine JL.nil ?_
  refine J.block ?_
  refine J.loopI (fun x : Nat × Value × List UInt8 => ps.length - x.1) (fun x => x.1 ≤ ps.length ∧ x.2.2.length ≤ 4096 ∧ allF (some []) (ps.take x.1) = some x.2.2 ∧ ∃ a c, x.2.1 = .slice a x.2.2.length c) (fun x => [(5, .int .i64 (x.1 : Nat)), (4, x.2.1), (0, .slice a ps.length c)])
    (fun x => own 5 1 x.2.1 x.2.2.length (bcells x.2.2) :: F) (0, .slice none 0 0, []) ⟨Nat.zero_le _, Nat.zero_le _, rfl, none, 0, rfl⟩ (by repeat (first | exact SubEnv.nil | refine SubEnv.cons (by first | rfl | exact congrArg (fun z => some (Value.int .i64 z)) (by omega) | (simp; done)) ?_)) (fun _ h => h.own_nil) (fun ⟨j, u, L⟩ hi back => ?_)
  dsimp only at hi back ⊢
  obtain ⟨hj, hL, hall, av, cv, rfl⟩ := hi
  by_cases hlt : j < ps.length
  · obtain ⟨p, hp⟩ : ∃ e, ps[j]? = some e := ⟨_, List.getElem?_eq_getElem hlt⟩
    have hpm := List.mem_of_getElem? hp
    obtain ⟨hf1, hf2⟩ := hf p hpm
    obtain ⟨hx, hx2, _⟩ := few_okE hf2
    have hx3 : p.u.xs.length ≤ 9223372036854775807 := Nat.le_trans hx2 (by decide)
    have hnext := allF_take (o := some []) hp
    rw [hall] at hnext
    have pb := bytes_ok' (w0 := w0) (F := own 5 1 (.slice av L.length cv) L.length (bcells L) :: F) (p := p) (hk p hpm) hf1 hx hx3 (hN p hpm) (hin p hpm).sub
    obtain ⟨ga, pa, qa, ea, ka, hcs⟩ := hr1.pos (by omega)
    cases ea
    refine J.seq ?_
    refine J.seq ?_
    refine J.region ?_
    refine JL.pure rfl rfl (OpP.move rfl) ?_
    refine JL.pure rfl rfl (OpP.move rfl) ?_
    refine JL.pure rfl rfl (OpP.len rfl rfl) ?_
    refine JL.decT rfl rfl (OpP.lss rfl rfl) (by omega) ?_
    refine JL.nil ?_
    refine J.condT rfl ?_
    refine J.skip ?_
    refine J.seq ?_
    refine J.block ?_
    refine J.seq ?_
    refine J.region ?_
    refine JL.pure rfl rfl (OpP.move rfl) ?_
    refine JL.pure rfl rfl (OpP.move rfl) ?_
    refine JL.pure rfl rfl (OpP.indexAddr rfl rfl (by omega) (by omega)) ?_
    refine JL.read rfl rfl (OpR.loadN rfl (by apply Cells.conv (fun _ h => Own.pick (pre := [_]) [] rfl h); apply Cells.chunkAt hcs; (case' h => assumption); (case' hi => assumption); done) (by first | rfl | assumption)) ?_
    refine JL.step rfl rfl (OpW.call (first := []) (captured := []) inferInstance rfl rfl pb) ?_; rintro r19 _ (⟨bs, ⟨a, ⟨c1, ⟨H, ⟨h19, ⟨h191, ⟨rfl, ⟨rfl, h192⟩⟩⟩⟩⟩⟩⟩⟩ | ⟨h193, ⟨v, ⟨rfl, rfl⟩⟩⟩)
    focus
      refine JL.pure rfl rfl (OpP.move rfl) ?_
      refine JL.pure rfl rfl (OpP.extract rfl rfl) ?_
      refine JL.pure rfl rfl (OpP.extract rfl rfl) ?_
      refine JL.pure rfl rfl (OpP.assign rfl) ?_
      refine JL.pure rfl rfl (OpP.assign rfl) ?_
      refine JL.nil ?_
      refine J.seq ?_
      refine J.seq ?_
      refine J.region ?_
      refine JL.pure rfl rfl (OpP.move rfl) ?_
      refine JL.pure rfl rfl (OpP.notB rfl) ?_
      refine JL.pure rfl rfl (OpP.move rfl) ?_
      refine JL.pure rfl rfl (OpP.move rfl) ?_
      refine JL.pure rfl rfl (OpP.len rfl rfl) ?_
      refine JL.pure rfl rfl (OpP.move rfl) ?_
      refine JL.pure rfl rfl (OpP.len rfl rfl) ?_
      refine JL.pure rfl rfl (OpP.addI rfl rfl (by omega) (by omega)) ?_
      refine JL.dec rfl rfl (OpP.gtr rfl rfl) (fun h30 => ?_) (fun h30 => ?_)
      focus
        refine JL.pure rfl rfl (OpP.pickF rfl rfl) ?_
        refine JL.nil ?_
        refine J.condT rfl ?_
        refine J.seq ?_
        refine J.region ?_
        refine JL.pure rfl rfl (OpP.assign rfl) ?_
        refine JL.pure rfl rfl (OpP.assign rfl) ?_
        refine JL.nil ?_
        refine J.ret2 rfl rfl rfl ?_
      rotate_left 1
      focus
        refine JL.pure rfl rfl (OpP.pickF rfl rfl) ?_
        refine JL.nil ?_
        refine J.condF rfl ?_
        refine J.skip ?_
      rotate_left 1
    rotate_left 2
    focus
      refine JL.pure rfl rfl (OpP.move rfl) ?_
      refine JL.pure rfl rfl (OpP.extract rfl rfl) ?_
      refine JL.pure rfl rfl (OpP.extract rfl rfl) ?_
      refine JL.pure rfl rfl (OpP.assign rfl) ?_
      refine JL.pure rfl rfl (OpP.assign rfl) ?_
      refine JL.nil ?_
      refine J.seq ?_
      refine J.seq ?_
      refine J.region ?_
      refine JL.pure rfl rfl (OpP.move rfl) ?_
      refine JL.pure rfl rfl (OpP.notB rfl) ?_
      refine JL.pure rfl rfl (OpP.move rfl) ?_
      refine JL.skip rfl rfl ?_
      refine JL.skip rfl rfl ?_
      refine JL.skip rfl rfl ?_
      refine JL.skip rfl rfl ?_
      refine JL.skip rfl rfl ?_
      refine JL.skip rfl rfl ?_
      refine JL.pure rfl rfl (OpP.pickT rfl rfl) ?_
      refine JL.nil ?_
      refine J.condT rfl ?_
      refine J.seq ?_
      refine J.region ?_
      refine JL.pure rfl rfl (OpP.assign rfl) ?_
      refine JL.pure rfl rfl (OpP.assign rfl) ?_
      refine JL.nil ?_
      refine J.ret2 rfl rfl rfl ?_
    rotate_left 1
    · rw [h19, show (some bs).bind (putO (some L)) = none by simp only [Option.bind_some, putO]; rw [if_neg (by omega)]] at hnext
      exact ⟨_, .inr ⟨allF_fail hnext, rfl, rfl⟩, fun _ h => h.tail.tail⟩
    · rw [h19, show (some bs).bind (putO (some L)) = some (L ++ bs) by simp only [Option.bind_some, putO]; rw [if_pos (by omega)]] at hnext
      refine J.conv (l' := own 5 1 (.slice av L.length cv) L.length (bcells L) :: H :: F) (fun _ h => Own.pick (pre := [_, _]) [1, 0] rfl h) ?_
      have hq := h192 F
      have hbl : (bcells bs).length = bs.length * 1 := by rw [bcells_length, Nat.mul_one]
      refine J.region ?_
      refine JL.pure rfl rfl (OpP.move rfl) ?_
      refine JL.pure rfl rfl (OpP.move rfl) ?_
      refine JL.mem rfl rfl (OpM.appendH rfl (.inl ⟨_, Sl.und inferInstance⟩) (by rfl) rfl rfl (RdO.src (hq.conv fun _ h => Own.pick (pre := [_, _]) [1] rfl h) (by first | assumption | exact fc_length _ _ | (simp; done) | (simp; omega))) (by first | exact bcells_one _ | exact scells_one _ | exact icells_one _ | assumption | exact fc_one fun _ => rfl) (by simp only [maxLen]; omega) (by omega)) ?_; rintro _ _ ⟨⟨a34, c34, rfl⟩, rfl⟩
      refine JL.pure rfl rfl (OpP.assign rfl) ?_
      refine JL.nil ?_
      refine J.inBlock ?_
      refine J.region ?_
      refine JL.pure rfl rfl (OpP.move rfl) ?_
      refine JL.pure rfl rfl (OpP.addI rfl rfl (by omega) (by omega)) ?_
      refine JL.pure rfl rfl (OpP.assign rfl) ?_
      refine JL.nil ?_
      refine back (j + 1, .slice a34 (L.length + bs.length) c34, L ++ bs) ⟨by dsimp only; omega, by dsimp only; rw [List.length_append]; omega, hnext, _, _, by dsimp only; rw [List.length_append]⟩ (by dsimp only; omega) (by repeat (first | exact SubEnv.nil | refine SubEnv.cons (by first | rfl | exact congrArg (fun z => some (Value.int .i64 z)) (by omega) | (simp; done)) ?_)) (fun _ h => ?_)
      dsimp only
      rw [List.length_append, bcells_app]
      exact Own.pick (pre := [_, _]) [0] rfl h
    · rw [h193, show (none : Option (List UInt8)).bind (putO (some L)) = none from rfl] at hnext
      exact ⟨_, .inr ⟨allF_fail hnext, rfl, rfl⟩, fun _ h => h.tail⟩
  · have : j = ps.length := by omega
    subst this
    rw [List.take_length] at hall
    refine J.seq ?_
    refine J.seq ?_
    refine J.region ?_
    refine JL.pure rfl rfl (OpP.move rfl) ?_
    refine JL.pure rfl rfl (OpP.move rfl) ?_
    refine JL.pure rfl rfl (OpP.len rfl rfl) ?_
    refine JL.decF rfl rfl (OpP.lss rfl rfl) (by omega) ?_
    refine JL.nil ?_
    refine J.condF rfl ?_
    refine J.exit rfl ?_
    refine J.seq ?_
    refine J.region ?_
    refine JL.pure rfl rfl (OpP.move rfl) ?_
    refine JL.pure rfl rfl (OpP.assign rfl) ?_
    refine JL.pure rfl rfl (OpP.assign rfl) ?_
    refine JL.nil ?_
    refine J.ret2 rfl rfl rfl ?_
    exact ⟨_, .inl ⟨L, av, cv, hall, hL, rfl, rfl⟩, fun _ h => h⟩
end Go.Proofs.E

-- seat e
namespace Go.Proofs.E
open Go Go.Gp Go.RowKit

end Go.Proofs.E

-- seat e
namespace Go.Proofs.E
open Go Go.Gp Go.RowKit

noncomputable def restP (ps : List Pa) : List UInt8 := ps.flatMap fun p => (partB p).getD []
theorem allF_app : ∀ {ps : List Pa} {M L : List UInt8}, allF (some M) ps = some L → L = M ++ restP ps ∧ ∀ p ∈ ps, ∃ bs, partB p = some bs
  | [], M, L, h => ⟨by rw [show restP [] = [] from rfl, List.append_nil]; exact (Option.some.inj h).symm, by simp⟩
  | p :: ps, M, L, h => by
    rw [allF, List.foldl_cons] at h
    have h : allF ((partB p).bind (putO (some M))) ps = some L := h
    cases hp : partB p with
    | none => rw [hp] at h; rw [show (none : Option (List UInt8)).bind (putO (some M)) = none from rfl, allF_none] at h; cases h
    | some bs =>
      rw [hp, Option.bind_some] at h
      by_cases hl : M.length + bs.length ≤ 4096
      · rw [show putO (some M) bs = some (M ++ bs) by simp only [putO, Option.bind_some]; rw [if_pos hl]] at h
        obtain ⟨h1, h2⟩ := allF_app h
        refine ⟨by rw [h1, show restP (p :: ps) = bs ++ restP ps by rw [restP, List.flatMap_cons, hp]; rfl, List.append_assoc], fun q hq => ?_⟩
        rcases List.mem_cons.1 hq with rfl | hq
        · exact ⟨bs, hp⟩
        · exact h2 q hq
      · rw [show putO (some M) bs = none by simp only [putO, Option.bind_some]; rw [if_neg hl], allF_none] at h
        cases h
theorem endGood {w0 : World} {F : List HProp} {oe g : Nat} {v : Value} {L : List UInt8} (hL : L.length ≤ 4096) : FnO Try.prog w0 33 [.pointer (some ⟨g, 0, none⟩)] (outL oe g false v L F) (fun r l' => ∃ a c, r = .tuple #[.slice a L.length c, .int .i64 0] ∧ l' = own 5 1 (.slice a L.length c) L.length (bcells L) :: outL oe g false v L F) :=
  (end_ok (bad := false) hL).mono fun r l' h => by
    rcases h with ⟨h, _⟩ | ⟨_, h⟩
    · cases h
    · exact h
/-- What is asked of the parts. -/
structure Parts (w0 : World) (ps : List Pa) : Prop where
  kd : ∀ p ∈ ps, 0 ≤ p.kd ∧ p.kd ≤ 255
  nn : ∀ p ∈ ps, -9223372036854775808 ≤ p.n ∧ p.n ≤ 9223372036854775807
  ir : ∀ p ∈ ps, InR p.u.i p.u.xs
  rd : ∀ p ∈ ps, RdO w0 [] (.slice p.u.a p.u.xs.length p.u.c) p.u.xs.length (p.u.xs.flatMap ecl)
end Go.Proofs.E

-- seat e
namespace Go.Proofs.E
open Go Go.Gp Go.RowKit

/-- Parts that were read, and what is left. -/
structure GoodR (w0 : World) (T : List HProp) (l : List UInt8) (ps : List Pa) (M : List UInt8) : Prop where
  eq : l = restP ps ++ M
  all : ∀ p ∈ ps, (∃ bs, partB p = some bs) ∧ (0 ≤ p.kd ∧ p.kd ≤ 255) ∧ (-9223372036854775808 ≤ p.n ∧ p.n ≤ 9223372036854775807) ∧ FewP p ∧ RdO w0 T (.slice p.u.a p.u.xs.length p.u.c) p.u.xs.length (p.u.xs.flatMap ecl)
theorem restP_snoc {ps : List Pa} {p : Pa} {bs : List UInt8} (h : partB p = some bs) : restP (ps ++ [p]) = restP ps ++ bs := by
  rw [restP, List.flatMap_append, List.flatMap_cons, List.flatMap_nil, List.append_nil, h]; rfl
theorem GoodR.step {w0 : World} {T T' : List HProp} {l M0 M1 bs : List UInt8} {ps : List Pa} {p : Pa} (h : GoodR w0 T l ps M0) (hT : ∀ w, Own w0 w T' → Own w0 w T) (hb : partB p = some bs) (hM : M0 = bs ++ M1) (hk : 0 ≤ p.kd ∧ p.kd ≤ 255) (hN : -9223372036854775808 ≤ p.n ∧ p.n ≤ 9223372036854775807) (hf : FewP p) (hr : RdO w0 T' (.slice p.u.a p.u.xs.length p.u.c) p.u.xs.length (p.u.xs.flatMap ecl)) : GoodR w0 T' l (ps ++ [p]) M1 :=
  ⟨by rw [restP_snoc hb, List.append_assoc, ← hM]; exact h.eq, fun q hq => by
    rcases List.mem_append.1 hq with hq | hq
    · obtain ⟨a1, a2, a3, a4, a5⟩ := h.all q hq
      exact ⟨a1, a2, a3, a4, a5.conv hT⟩
    · obtain rfl := List.mem_singleton.1 hq
      exact ⟨⟨bs, hb⟩, hk, hN, hf, hr⟩⟩
abbrev zVa : Va := ⟨0, 0, [], [], none, 0⟩
theorem few_zVa : FewU zVa := ⟨Nat.zero_le _, Nat.zero_le _, fun _ _ h => by simp at h⟩
theorem rd_zVa {w0 : World} {T : List HProp} : RdO w0 T (.slice zVa.a zVa.xs.length zVa.c) zVa.xs.length (zVa.xs.flatMap ecl) := RdO.nil0
abbrev pNum (kd n : Int) : Pa := ⟨kd, n, [], zVa⟩
abbrev pTxt (kd : Int) (t : List UInt8) : Pa := ⟨kd, 0, t, zVa⟩
theorem i64_rng (n : Nat) : -9223372036854775808 ≤ i64 n ∧ i64 n ≤ 9223372036854775807 := by
  unfold i64
  simp only [IntKind.wrap, IntKind.signed, IntKind.bits, Bool.true_and, decide_eq_true_eq, ge_iff_le]
  split <;> omega
variable {w0 : World} {T : List HProp} {l : List UInt8} {ps : List Pa} {kd : Int} {o o' : Option (List UInt8)}
end Go.Proofs.E

-- seat e
namespace Go.Proofs.E
open Go Go.Gp Go.RowKit

end Go.Proofs.E
