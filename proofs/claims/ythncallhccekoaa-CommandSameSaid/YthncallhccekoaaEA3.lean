/- A text of the proof of a statement about the given program: its part EA3. No person has read it. -/
import Derived.Test.YthncallhccekoaaEA2
import Derived.Test.YthncallhccekoaaEJ2
-- seat e
namespace Go.Proofs.E
open Go Go.Gp Go.RowKit

theorem few1_ok {w0 : World} {F : List HProp} {fa a : Option Addr} {fc c : Nat} {k i : Int} {s : List UInt8} {xs : List El} (hr : RdO w0 F (.slice fa 1 fc) 1 (vcl k i s (.slice a xs.length c))) (h1 : RdO w0 F (.slice a xs.length c) xs.length (xs.flatMap ecl)) :
    FnO Try.prog w0 25 [.slice fa 1 fc, .int .i64 1] F (fun r l' => ∃ b, r = .bool b ∧ l' = F ∧ (b = true → FewU ⟨k, i, s, xs, a, c⟩)) :=
  (few_ok (vs := [⟨k, i, s, xs, a, c⟩]) (m := 1) (by simp) hr (by
    intro u hu
    obtain rfl := List.mem_singleton.1 hu
    exact h1)).mono fun r l' ⟨b, q1, q2, q3⟩ => ⟨b, q1, q2, fun hb => (q3 hb).2 0 _ (by omega) rfl⟩
/-- A part in a list. -/
structure Pa where
  kd : Int
  n : Int
  t : List UInt8
  u : Va
abbrev pac (p : Pa) : List Value := [.int .u8 p.kd, .int .i64 p.n, .string (strB p.t), .int .i64 p.u.k, .int .i64 p.u.i, .string (strB p.u.s), .slice p.u.a p.u.xs.length p.u.c]
def FewP (p : Pa) : Prop := p.t.length ≤ 5000 ∧ FewU p.u
end Go.Proofs.E

-- seat e
namespace Go.Proofs.E
open Go Go.Gp Go.RowKit

end Go.Proofs.E

-- seat e
namespace Go.Proofs.E
open Go Go.Gp Go.RowKit

/-- A reader that is bad stays so, and tells nothing. -/
abbrev BadI (w0 : World) (f : FuncId) (args : List Value) (g : Nat) (v : Value) (M : List UInt8) (F : List HProp) (u : Value) : Prop :=
  FnO Try.prog w0 f args (inL g true v M F) (fun r l' => r = u ∧ ∃ v' M', M'.length ≤ 1000000000 ∧ l' = inL g true v' M' F)
theorem absO_none {b : Bool} {M : List UInt8} (h : absO b M = none) : b = true := by
  cases b
  · simp [absO] at h
  · rfl
theorem Took.bad {w0 : World} {f : FuncId} {args : List Value} {g : Nat} {v : Value} {M : List UInt8} {F : List HProp} {u : Value} (h : Took w0 f args g true v M F none u) : BadI w0 f args g v M F u :=
  h.mono fun r l' ⟨b, v', M', h1, h2, h3, h4⟩ => by
    obtain rfl := absO_none h2
    exact ⟨h3, v', M', h1, h4⟩
variable {w0 : World} {F : List HProp} {oe g : Nat} {v : Value} {M L : List UInt8}
theorem endBad (hL : L.length ≤ 4096) : FnO Try.prog w0 33 [.pointer (some ⟨g, 0, none⟩)] (outL oe g true v L F) (fun r l' => r = .tuple #[.slice none 0 0, .int .i64 3] ∧ l' = outL oe g true v L F) :=
  (end_ok (bad := true) hL).mono fun r l' h => by
    rcases h with ⟨_, h1, h2⟩ | ⟨h, _⟩
    · exact ⟨h1, h2⟩
    · cases h
end Go.Proofs.E

-- seat e
namespace Go.Proofs.E
open Go Go.Gp Go.RowKit

end Go.Proofs.E

-- seat e
namespace Go.Proofs.E
open Go Go.Gp Go.RowKit

theorem Fm.part {w0 : World} {cs : List Value} (h : Fm Try.prog w0 31 cs) : ∃ p : Pa, ((0 ≤ p.kd ∧ p.kd ≤ 255) ∧ ∀ l, RdO w0 l (.slice p.u.a p.u.xs.length p.u.c) p.u.xs.length (p.u.xs.flatMap ecl)) ∧ cs = pac p := by
  have h := h.fields (l := [(5, 1), (2, 1), (9, 1), (29, 4)]) (by kernel_rfl)
  obtain ⟨c0, cs, rfl, f0, h⟩ := h.one
  obtain ⟨c1, cs, rfl, f1, h⟩ := h.one
  obtain ⟨c2, cs, rfl, f2, h⟩ := h.one
  obtain ⟨d, cs, rfl, _, f3, h⟩ := h.many
  cases h
  obtain ⟨kd, e0, k0⟩ := f0.int (k := .u8) (by kernel_rfl)
  obtain ⟨n, e1, _⟩ := f1.int (k := .i64) (by kernel_rfl)
  obtain ⟨t, e2, _⟩ := f2.str (by kernel_rfl)
  simp [Lit.wf, IntKind.min, IntKind.max, IntKind.signed, IntKind.bits] at k0
  cases e0; cases e1; cases e2
  obtain ⟨k, i, s, a, c, xs, _, e, hr⟩ := Fm.val f3
  subst e
  exact ⟨⟨kd, n, t.data.toList, ⟨k, i, s, xs, a, c⟩⟩, ⟨k0, fun l => (hr l).o⟩, by simp [pac, vcl, strB]⟩
end Go.Proofs.E

-- seat e
namespace Go.Proofs.E
open Go Go.Gp Go.RowKit

open Classical in
/-- The bytes of a part, if it can be. -/
noncomputable def partB (p : Pa) : Option (List UInt8) :=
  if p.kd % 8 = 0 then (if p.n < 0 ∨ 256 ^ 1 ≤ p.n then none else some (be p.n.toNat 1)) else if p.kd % 8 = 1 then (if p.n < 0 ∨ 256 ^ 2 ≤ p.n then none else some (be p.n.toNat 2)) else if p.kd % 8 = 2 then (if p.n < 0 ∨ 256 ^ 4 ≤ p.n then none else some (be p.n.toNat 4)) else if p.kd % 8 = 3 then some (be (u64 p.n) 8)
  else if p.kd % 8 = 4 then some [if u64 p.n % 2 = 1 then 1 else 0] else if p.kd % 8 = 5 then (if 4096 < p.t.length then none else some (be p.t.length 2 ++ p.t)) else if p.kd % 8 = 6 then some p.t
  else if FormedP p.u.k p.u.i p.u.s p.u.xs then some (valB p.u.k p.u.i p.u.s p.u.xs) else none
end Go.Proofs.E

-- seat e
namespace Go.Proofs.E
open Go Go.Gp Go.RowKit

end Go.Proofs.E

-- seat e
namespace Go.Proofs.E
open Go Go.Gp Go.RowKit

/-- A reader that tells u, and leaves R. -/
abbrev TookV (w0 : World) (f : FuncId) (args : List Value) (g : Nat) (v : Value) (M : List UInt8) (F : List HProp) (R : List UInt8) (u : Value) : Prop :=
  FnO Try.prog w0 f args (inL g false v M F) (fun r l' => r = u ∧ ∃ v', l' = inL g false v' R F)
theorem absO_some {b : Bool} {M R : List UInt8} (h : absO b M = some R) : b = false ∧ M = R := by
  cases b
  · exact ⟨rfl, Option.some.inj h⟩
  · cases h
theorem Took.val {w0 : World} {f : FuncId} {args : List Value} {g : Nat} {v : Value} {M R : List UInt8} {F : List HProp} {o : Option (List UInt8)} {u u' : Value} (h : Took w0 f args g false v M F o u) (ho : o = some R) (hu : u = u') : TookV w0 f args g v M F R u' :=
  h.mono fun r l' ⟨b, v', M', _, h2, h3, h4⟩ => by
    obtain ⟨rfl, rfl⟩ := absO_some (h2.trans ho)
    exact ⟨h3.trans hu, v', h4⟩
variable {w0 : World} {F : List HProp} {g : Nat} {v : Value} {M R : List UInt8}
end Go.Proofs.E

-- seat e
namespace Go.Proofs.E
open Go Go.Gp Go.RowKit

/-- The bytes of parts, if they can be. -/
noncomputable def allF (o : Option (List UInt8)) (ps : List Pa) : Option (List UInt8) := ps.foldl (fun o p => (partB p).bind (putO o)) o
end Go.Proofs.E

-- seat e
namespace Go.Proofs.E
open Go Go.Gp Go.RowKit

end Go.Proofs.E

-- seat e
namespace Go.Proofs.E
open Go Go.Gp Go.RowKit

noncomputable def restP (ps : List Pa) : List UInt8 := ps.flatMap fun p => (partB p).getD []
theorem endGood {w0 : World} {F : List HProp} {oe g : Nat} {v : Value} {L : List UInt8} (hL : L.length ≤ 4096) : FnO Try.prog w0 33 [.pointer (some ⟨g, 0, none⟩)] (outL oe g false v L F) (fun r l' => ∃ a c, r = .tuple #[.slice a L.length c, .int .i64 0] ∧ l' = own 5 1 (.slice a L.length c) L.length (bcells L) :: outL oe g false v L F) :=
  (end_ok (bad := false) hL).mono fun r l' h => by
    rcases h with ⟨h, _⟩ | ⟨_, h⟩
    · cases h
    · exact h
/-- What is asked of the parts. -/
structure Parts (w0 : World) (ps : List Pa) : Prop where
  kd : ∀ p ∈ ps, 0 ≤ p.kd ∧ p.kd ≤ 255
  nn : ∀ p ∈ ps, -9223372036854775808 ≤ p.n ∧ p.n ≤ 9223372036854775807
  ir : ∀ p ∈ ps, InR p.u.i p.u.xs
  rd : ∀ p ∈ ps, RdO w0 [] (.slice p.u.a p.u.xs.length p.u.c) p.u.xs.length (p.u.xs.flatMap ecl)
end Go.Proofs.E

-- seat e
namespace Go.Proofs.E
open Go Go.Gp Go.RowKit

/-- Parts that were read, and what is left. -/
structure GoodR (w0 : World) (T : List HProp) (l : List UInt8) (ps : List Pa) (M : List UInt8) : Prop where
  eq : l = restP ps ++ M
  all : ∀ p ∈ ps, (∃ bs, partB p = some bs) ∧ (0 ≤ p.kd ∧ p.kd ≤ 255) ∧ (-9223372036854775808 ≤ p.n ∧ p.n ≤ 9223372036854775807) ∧ FewP p ∧ RdO w0 T (.slice p.u.a p.u.xs.length p.u.c) p.u.xs.length (p.u.xs.flatMap ecl)
theorem restP_snoc {ps : List Pa} {p : Pa} {bs : List UInt8} (h : partB p = some bs) : restP (ps ++ [p]) = restP ps ++ bs := by
  rw [restP, List.flatMap_append, List.flatMap_cons, List.flatMap_nil, List.append_nil, h]; rfl
theorem GoodR.step {w0 : World} {T T' : List HProp} {l M0 M1 bs : List UInt8} {ps : List Pa} {p : Pa} (h : GoodR w0 T l ps M0) (hT : ∀ w, Own w0 w T' → Own w0 w T) (hb : partB p = some bs) (hM : M0 = bs ++ M1) (hk : 0 ≤ p.kd ∧ p.kd ≤ 255) (hN : -9223372036854775808 ≤ p.n ∧ p.n ≤ 9223372036854775807) (hf : FewP p) (hr : RdO w0 T' (.slice p.u.a p.u.xs.length p.u.c) p.u.xs.length (p.u.xs.flatMap ecl)) : GoodR w0 T' l (ps ++ [p]) M1 :=
  ⟨by rw [restP_snoc hb, List.append_assoc, ← hM]; exact h.eq, fun q hq => by
    rcases List.mem_append.1 hq with hq | hq
    · obtain ⟨a1, a2, a3, a4, a5⟩ := h.all q hq
      exact ⟨a1, a2, a3, a4, a5.conv hT⟩
    · obtain rfl := List.mem_singleton.1 hq
      exact ⟨⟨bs, hb⟩, hk, hN, hf, hr⟩⟩
abbrev zVa : Va := ⟨0, 0, [], [], none, 0⟩
theorem few_zVa : FewU zVa := ⟨Nat.zero_le _, Nat.zero_le _, fun _ _ h => by simp at h⟩
theorem rd_zVa {w0 : World} {T : List HProp} : RdO w0 T (.slice zVa.a zVa.xs.length zVa.c) zVa.xs.length (zVa.xs.flatMap ecl) := RdO.nil0
abbrev pNum (kd n : Int) : Pa := ⟨kd, n, [], zVa⟩
abbrev pTxt (kd : Int) (t : List UInt8) : Pa := ⟨kd, 0, t, zVa⟩
variable {w0 : World} {T : List HProp} {l : List UInt8} {ps : List Pa} {kd : Int} {o o' : Option (List UInt8)}
end Go.Proofs.E

-- seat e
namespace Go.Proofs.E
open Go Go.Gp Go.RowKit

end Go.Proofs.E
