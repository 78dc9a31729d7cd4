/- A text of the proof of a statement about the given program: its part FA1. No person has read it. -/
import Derived.Test.YtoailinfboehlaaDoorFJ2
import Derived.Test.YtoailinfboehlaaDoorFInstM
-- seat f
namespace Go.Proofs.F
open Go Go.Gp Go.RowKit

abbrev Sec := List UInt8
/-- A number's bytes, the great ones ahead. -/
def be (n : Nat) : Nat → List UInt8
  | 0 => []
  | k + 1 => UInt8.ofNat (n / 256 ^ k) :: be n k
theorem be_length {n : Nat} : ∀ k, (be n k).length = k
  | 0 => rfl
  | k + 1 => by rw [be, List.length_cons, be_length k]
def nat8 (bs : List UInt8) : Nat := bs.foldl (fun n b => n * 256 + b.toNat) 0
theorem nat8_snoc (bs : List UInt8) (b : UInt8) : nat8 (bs ++ [b]) = nat8 bs * 256 + b.toNat := by rw [nat8, List.foldl_append]; rfl
theorem nat8_lt (bs : List UInt8) : nat8 bs < 256 ^ bs.length := by
  have key : ∀ (bs : List UInt8) (n : Nat), bs.foldl (fun n b => n * 256 + b.toNat) n < (n + 1) * 256 ^ bs.length := by
    intro bs
    induction bs with
    | nil => intro n; simp
    | cons b bs ih =>
      intro n
      have h1 := ih (n * 256 + b.toNat)
      have h2 := b.toNat_lt
      rw [List.foldl_cons, List.length_cons, Nat.pow_succ]
      refine Nat.lt_of_lt_of_le h1 ?_
      rw [Nat.mul_comm (256 ^ bs.length) 256, ← Nat.mul_assoc]
      exact Nat.mul_le_mul_right _ (by omega)
  have := key bs 0
  simpa [nat8] using this
theorem be_snoc (n k : Nat) : be n (k + 1) = be (n / 256) k ++ [UInt8.ofNat n] := by
  induction k with
  | zero => simp [be]
  | succ k ih =>
    rw [be, ih, be, List.cons_append, Nat.div_div_eq_div_mul, Nat.mul_comm 256, ← Nat.pow_succ]
theorem nat8_be {n k : Nat} (h : n < 256 ^ k) : nat8 (be n k) = n := by
  induction k generalizing n with
  | zero => simp at h; subst h; rfl
  | succ k ih =>
    rw [be_snoc, nat8_snoc, ih (by rw [Nat.pow_succ] at h; omega), UInt8.toNat_ofNat']
    omega
theorem wrap_u8 (a : Int) : IntKind.u8.wrap a = a % 256 := by
  simp [IntKind.wrap, IntKind.signed, IntKind.bits]
theorem wrapB (k : Nat) : Value.int .u8 (IntKind.u8.wrap (k : Int)) = u8c (UInt8.ofNat k) := by
  rw [wrap_u8, u8c, UInt8.toNat_ofNat']; rfl
abbrev recs (ps : List (Value × List UInt8)) : List (List UInt8) := ps.map (·.2)
theorem recs_take {ps : List (Value × List UInt8)} {i : Nat} {v : Value} {l : List UInt8} (h : ps[i]? = some (v, l)) : recs (ps.take (i + 1)) = recs (ps.take i) ++ [l] := by
  rw [List.take_add_one, h, recs, List.map_append]; rfl
end Go.Proofs.F

-- seat f
namespace Go.Proofs.F
open Go Go.Gp Go.RowKit

/-! What is written: bytes, or bad. -/
def putO (o : Option (List UInt8)) (bs : List UInt8) : Option (List UInt8) := o.bind fun L => if L.length + bs.length ≤ 4096 then some (L ++ bs) else none
theorem putO_append {o : Option (List UInt8)} {a b : List UInt8} : putO (putO o a) b = putO o (a ++ b) := by
  cases o with
  | none => rfl
  | some L =>
    simp only [putO, Option.bind_some]
    by_cases h : L.length + a.length ≤ 4096
    · rw [if_pos h, Option.bind_some, List.length_append, List.length_append, List.append_assoc]
      simp only [Nat.add_assoc]
    · rw [if_neg h, if_neg (by rw [List.length_append]; omega)]; rfl
theorem putO_nil {o : Option (List UInt8)} (h : ∀ L, o = some L → L.length ≤ 4096) : putO o [] = o := by
  cases o with
  | none => rfl
  | some L => simp only [putO, Option.bind_some, List.length_nil, Nat.add_zero, List.append_nil]; rw [if_pos (h L rfl)]
/-- What a bad mark, and bytes, say. -/
def absO (bad : Bool) (L : List UInt8) : Option (List UInt8) := if bad then none else some L
abbrev outL (oe g : Nat) (bad : Bool) (v : Value) (L : List UInt8) (F : List HProp) : List HProp := row g oe [.bool bad, v] :: own 5 1 v L.length (bcells L) :: F
theorem spoil_ok {w0 : World} {F : List HProp} {oe g : Nat} {bad : Bool} {v : Value} :
    FnO Tryd.prog w0 63 [.pointer (some ⟨g, 0, none⟩)] (row g oe [.bool bad, v] :: F) (fun r l' => r = .tuple #[] ∧ l' = row g oe [.bool true, v] :: F) := by
  refine FnO.intro (n := 5) Tryd.func63 rfl rfl rfl ?_
  refine J.region ?_
  refine JL.pure rfl rfl (OpP.move rfl) ?_
  refine JL.pure rfl rfl (OpP.nilCheck rfl) ?_
  refine JL.pure rfl rfl (OpP.fieldAddr rfl) ?_
  refine JL.mem0 rfl (by apply OpM.store1 rfl rfl rfl; (case' hu => exact .head); (case' hs => exact (.here .nil)); done) ?_; rintro _ _ ⟨rfl, rfl⟩
  refine JL.nil ?_
  refine J.fin0 rfl ?_
  exact ⟨rfl, rfl⟩
theorem put_ok {w0 : World} {F : List HProp} {oe g : Nat} {bad : Bool} {v u : Value} {L bs : List UInt8} (hL : L.length ≤ 4096) (hb : bs.length ≤ 1000000000) (hr : RdO w0 F u bs.length (bcells bs)) :
    FnO Tryd.prog w0 66 [.pointer (some ⟨g, 0, none⟩), u] (outL oe g bad v L F) (fun r l' => r = .tuple #[] ∧ ∃ bad' v' L', L'.length ≤ 4096 ∧ absO bad' L' = putO (absO bad L) bs ∧ l' = outL oe g bad' v' L' F) := by
  refine FnO.rdF (fun _ h => h.tail.tail) hr fun hr1 => ?_
  obtain ⟨ua, uc, rfl⟩ := hr1.lit
  have hbl : (bcells bs).length = bs.length * 1 := by rw [bcells_length]; omega
  refine FnO.weak ?_
  refine FnO.intro (n := 33) Tryd.func66 rfl rfl rfl ?_
  refine J.lit (.tail .head) fun av cv ev => ?_; subst ev
  refine J.seq ?_
  refine J.seq ?_
  refine J.region ?_
  refine JL.pure rfl rfl (OpP.move rfl) ?_
  refine JL.pure rfl rfl (OpP.nilCheck rfl) ?_
  refine JL.pure rfl rfl (OpP.fieldAddr rfl) ?_
  refine JL.pure rfl rfl (OpP.fieldAddr rfl) ?_
  refine JL.read rfl rfl (OpR.load1 rfl (Cell.row .head rfl)) ?_
  refine JL.pure rfl rfl (OpP.move rfl) ?_
  refine JL.splitAt 9 rfl (fun h9 => ?_) (fun h9 => ?_)
  focus
    refine JL.skip rfl rfl ?_
    refine JL.skip rfl rfl ?_
    refine JL.skip rfl rfl ?_
    refine JL.skip rfl rfl ?_
    refine JL.skip rfl rfl ?_
    refine JL.skip rfl rfl ?_
    refine JL.skip rfl rfl ?_
    refine JL.skip rfl rfl ?_
    refine JL.skip rfl rfl ?_
    refine JL.pure rfl rfl (OpP.pickT rfl rfl) ?_
    refine JL.nil ?_
    refine J.condT rfl ?_
    refine J.seq ?_
    refine J.region ?_
    refine JL.pure rfl rfl (OpP.move rfl) ?_
    refine JL.pure rfl rfl (OpP.nilCheck rfl) ?_
    refine JL.pure rfl rfl (OpP.fieldAddr rfl) ?_
    refine JL.step rfl rfl (OpW.call (first := []) (captured := []) inferInstance rfl rfl spoil_ok) ?_; rintro r23 _ ⟨rfl, rfl⟩
    refine JL.nil ?_
    refine J.ret0 rfl ?_
  rotate_left 1
  focus
    refine JL.pure rfl rfl (OpP.move rfl) ?_
    refine JL.pure rfl rfl (OpP.nilCheck rfl) ?_
    refine JL.pure rfl rfl (OpP.fieldAddr rfl) ?_
    refine JL.read rfl rfl (OpR.load1 rfl (Cell.row .head rfl)) ?_
    refine JL.pure rfl rfl (OpP.len rfl rfl) ?_
    refine JL.pure rfl rfl (OpP.move rfl) ?_
    refine JL.pure rfl rfl (OpP.len rfl rfl) ?_
    refine JL.pure rfl rfl (OpP.addI rfl rfl (by omega) (by omega)) ?_
    refine JL.dec rfl rfl (OpP.gtr rfl rfl) (fun h18 => ?_) (fun h18 => ?_)
    focus
      refine JL.pure rfl rfl (OpP.pickF rfl rfl) ?_
      refine JL.nil ?_
      refine J.condT rfl ?_
      refine J.seq ?_
      refine J.region ?_
      refine JL.pure rfl rfl (OpP.move rfl) ?_
      refine JL.pure rfl rfl (OpP.nilCheck rfl) ?_
      refine JL.pure rfl rfl (OpP.fieldAddr rfl) ?_
      refine JL.step rfl rfl (OpW.call (first := []) (captured := []) inferInstance rfl rfl spoil_ok) ?_; rintro r23 _ ⟨rfl, rfl⟩
      refine JL.nil ?_
      refine J.ret0 rfl ?_
    rotate_left 1
    focus
      refine JL.pure rfl rfl (OpP.pickF rfl rfl) ?_
      refine JL.nil ?_
      refine J.condF rfl ?_
      refine J.skip ?_
      refine J.region ?_
      refine JL.pure rfl rfl (OpP.move rfl) ?_
      refine JL.pure rfl rfl (OpP.move rfl) ?_
      refine JL.pure rfl rfl (OpP.nilCheck rfl) ?_
      refine JL.pure rfl rfl (OpP.fieldAddr rfl) ?_
      refine JL.read rfl rfl (OpR.load1 rfl (Cell.row .head rfl)) ?_
      refine JL.pure rfl rfl (OpP.move rfl) ?_
      refine JL.f1 ?_; refine JL.mem rfl rfl (OpM.appendH rfl (.inl ⟨_, Sl.und inferInstance⟩) (by rfl) rfl rfl (RdO.src (hr.conv fun _ h => Own.pick (pre := [_, _]) [] rfl h) (by first | assumption | exact fc_length _ _ | (simp; done) | (simp; omega))) (by first | exact bcells_one _ | exact scells_one _ | exact icells_one _ | assumption | exact fc_one fun _ => rfl) (by simp only [maxLen]; omega) (by omega)) ?_; rintro _ _ ⟨⟨a30, c30, rfl⟩, rfl⟩
      refine JL.pure rfl rfl (OpP.nilCheck rfl) ?_
      refine JL.pure rfl rfl (OpP.fieldAddr rfl) ?_
      refine JL.mem0 rfl (by apply OpM.store1 rfl rfl rfl; (case' hu => exact (.tail .head)); (case' hs => exact (.there (.here .nil))); done) ?_; rintro _ _ ⟨rfl, rfl⟩
      refine JL.nil ?_
      refine J.fin0 rfl ?_
    rotate_left 1
  rotate_left 2
  · subst h9
    exact ⟨_, ⟨rfl, true, _, L, hL, rfl, rfl⟩, fun _ h => h⟩
  · subst h9
    exact ⟨_, ⟨rfl, true, _, L, hL, by simp only [absO, putO, Option.bind_some, if_false, if_true, Bool.false_eq_true]; rw [if_neg (by omega)], rfl⟩, fun _ h => h⟩
  · subst h9
    refine ⟨_, ⟨rfl, false, .slice a30 (L.length + bs.length) c30, L ++ bs, by rw [List.length_append]; omega, by simp only [absO, putO, Option.bind_some, if_false, Bool.false_eq_true]; rw [if_pos (by omega)], rfl⟩, fun _ h => ?_⟩
    rw [outL, List.length_append, show bcells (L ++ bs) = bcells L ++ bcells bs from List.map_append]
    exact Own.f1 h
theorem wide_ok {w0 : World} {F : List HProp} {oe g n size : Nat} {bad : Bool} {v : Value} {L : List UInt8} (hL : L.length ≤ 4096) (hn : n < 18446744073709551616) (hs : size ≤ 8) :
    FnO Tryd.prog w0 77 [.pointer (some ⟨g, 0, none⟩), .int .u64 (n : Nat), .int .i64 (size : Nat)] (outL oe g bad v L F) (fun r l' => r = .tuple #[] ∧ ∃ bad' v' L', L'.length ≤ 4096 ∧ absO bad' L' = putO (absO bad L) (be n size) ∧ l' = outL oe g bad' v' L' F) := by
  refine FnO.weak ?_
  refine FnO.intro (n := 21) Tryd.func77 rfl rfl rfl ?_
  refine J.lit (.tail .head) fun av cv ev => ?_; subst ev
  refine J.seq ?_
  refine J.region ?_
  refine JL.pure rfl rfl (OpP.move rfl) ?_
  refine JL.pure rfl rfl (OpP.subI rfl rfl (by omega) (by omega)) ?_
  refine JL.pure rfl rfl (OpP.mulI rfl rfl (by omega) (by omega)) ?_
  refine JL.pure rfl rfl (OpP.assign rfl) ?_
  refine JL.nil ?_
  refine J.block ?_
  refine J.loopI (fun x : Nat × Bool × Value × List UInt8 => x.1) (fun x => x.1 ≤ size ∧ x.2.2.2.length ≤ 4096 ∧ putO (absO x.2.1 x.2.2.2) (be n x.1) = putO (absO bad L) (be n size)) (fun x => [(6, .int .i64 (8 * ((x.1 : Nat) - 1 : Int))), (0, .pointer (some ⟨g, 0, none⟩)), (1, .int .u64 (n : Nat))])
    (fun x => outL oe g x.2.1 x.2.2.1 x.2.2.2 F) (size, bad, .slice av L.length cv, L) ⟨Nat.le_refl _, hL, rfl⟩ (by repeat (first | exact SubEnv.nil | refine SubEnv.cons (by first | rfl | exact congrArg (fun z => some (Value.int .i64 z)) (by omega) | (simp; done)) ?_)) (fun _ h => h) (fun ⟨k, bd, z, M⟩ hi back => ?_)
  dsimp only at hi back ⊢
  obtain ⟨hk, hM, he⟩ := hi
  cases k with
  | zero =>
    refine J.lit (.tail .head) fun az cz ez => ?_; subst ez
    refine J.seq ?_
    refine J.seq ?_
    refine J.region ?_
    refine JL.pure rfl rfl (OpP.move rfl) ?_
    refine JL.decF rfl rfl (OpP.geq rfl rfl) (by omega) ?_
    refine JL.nil ?_
    refine J.condF rfl ?_
    refine J.exit rfl ?_
    refine J.fin0 rfl ?_
    exact ⟨_, ⟨rfl, bd, _, M, hM, by rw [← he, be, putO_nil]; intro L' h; unfold absO at h; split at h <;> simp at h; subst h; exact hM, rfl⟩, fun _ h => h⟩
  | succ m =>
    rw [show (8 * (((m + 1 : Nat) : Int) - 1)) = ((8 * m : Nat) : Int) by omega]
    refine J.lit (.tail .head) fun az cz ez => ?_; subst ez
    refine J.seq ?_
    refine J.seq ?_
    refine J.region ?_
    refine JL.pure rfl rfl (OpP.move rfl) ?_
    refine JL.decT rfl rfl (OpP.geq rfl rfl) (by omega) ?_
    refine JL.nil ?_
    refine J.condT rfl ?_
    refine J.skip ?_
    refine J.seq ?_
    refine J.block ?_
    refine J.region ?_
    refine JL.pure rfl rfl (OpP.move rfl) ?_
    refine JL.pure rfl rfl (OpP.move rfl) ?_
    refine JL.pure rfl rfl (OpP.move rfl) ?_
    refine JL.pure rfl rfl (OpP.shrN rfl rfl (by omega) (by first | decide | (simp only [IntKind.bits]; omega))) ?_
    refine JL.pure rfl rfl (OpP.conv rfl) ?_
    refine JL.mem rfl rfl (by apply OpM.buildSlice (by rfl) rfl (by rfl); (repeat (first | exact Fills.nil | (apply Fills.cons rfl rfl rfl; (case' hs => ((repeat (first | exact Spl.nil | apply Spl.here | apply Spl.there)); done)))))) ?_; rintro _ _ ⟨b19, rfl, rfl⟩
    have e : n / 2 ^ ((8 * m : Nat) : Int).toNat = n / 256 ^ m := by rw [Int.toNat_natCast, Nat.pow_mul]
    rw [wrapB, e]
    refine JL.f2 ?_; refine JL.f2 ?_; refine JL.step rfl rfl (OpW.call (first := []) (captured := []) inferInstance rfl rfl (put_ok (bs := [UInt8.ofNat (n / 256 ^ m)]) hM (by exact Nat.le_of_ble_eq_true rfl) (RdO.ofRow .head (by first | exact Nat.le_refl _ | decide | omega)))) ?_; rintro r20 _ ⟨rfl, ⟨bad', ⟨v', ⟨L', ⟨h20, ⟨h201, rfl⟩⟩⟩⟩⟩⟩
    refine JL.lit (.tail .head) fun av' cv' ev' => ?_; subst ev'
    refine JL.nil ?_
    refine J.inBlock ?_
    refine J.region ?_
    refine JL.pure rfl rfl (OpP.move rfl) ?_
    refine JL.pure rfl rfl (OpP.subI rfl rfl (by omega) (by omega)) ?_
    refine JL.pure rfl rfl (OpP.assign rfl) ?_
    refine JL.nil ?_
    rw [show (((8 * m : Nat) : Int) - 8) = 8 * (((m : Nat) : Int) - 1) by omega]
    refine back (m, bad', .slice av' L'.length cv', L') ⟨by dsimp only; omega, h20, ?_⟩ (Nat.lt_succ_self m) (by repeat (first | exact SubEnv.nil | refine SubEnv.cons (by first | rfl | exact congrArg (fun z => some (Value.int .i64 z)) (by omega) | (simp; done)) ?_)) (fun _ h => Own.pick (pre := [_, _, _]) [0, 1] rfl h)
    dsimp only
    rw [h201, putO_append, ← he]; rfl
end Go.Proofs.F

-- seat f
namespace Go.Proofs.F
open Go Go.Gp Go.RowKit

/-- What a function that writes does. -/
abbrev Wrote (w0 : World) (f : FuncId) (args : List Value) (oe g : Nat) (bad : Bool) (v : Value) (L : List UInt8) (F : List HProp) (o : Option (List UInt8)) : Prop :=
  FnO Tryd.prog w0 f args (outL oe g bad v L F) (fun r l' => r = .tuple #[] ∧ ∃ bad' v' L', L'.length ≤ 4096 ∧ absO bad' L' = o ∧ l' = outL oe g bad' v' L' F)
def smallO (o : Option (List UInt8)) (n : Int) (size : Nat) : Option (List UInt8) := if n < 0 ∨ 256 ^ size ≤ n then none else putO o (be n.toNat size)
theorem small_ok {w0 : World} {F : List HProp} {oe g size : Nat} {n : Int} {bad : Bool} {v : Value} {L : List UInt8} (hL : L.length ≤ 4096) (hs : size = 1 ∨ size = 2 ∨ size = 4) :
    Wrote w0 65 [.pointer (some ⟨g, 0, none⟩), .int .i64 n, .int .i64 (size : Nat)] oe g bad v L F (smallO (absO bad L) n size) := by
  refine FnO.weak ?_
  by_cases hn : n < 0
  · refine FnO.intro (n := 24) Tryd.func65 rfl rfl rfl ?_
    refine J.lit (.tail .head) fun av cv ev => ?_; subst ev
    refine J.seq ?_
    refine J.seq ?_
    refine J.region ?_
    refine JL.pure rfl rfl (OpP.move rfl) ?_
    refine JL.decT rfl rfl (OpP.lss rfl rfl) (by omega) ?_
    refine JL.pure rfl rfl (OpP.move rfl) ?_
    refine JL.skip rfl rfl ?_
    refine JL.skip rfl rfl ?_
    refine JL.skip rfl rfl ?_
    refine JL.skip rfl rfl ?_
    refine JL.skip rfl rfl ?_
    refine JL.pure rfl rfl (OpP.pickT rfl rfl) ?_
    refine JL.nil ?_
    refine J.condT rfl ?_
    refine J.seq ?_
    refine J.region ?_
    refine JL.pure rfl rfl (OpP.move rfl) ?_
    refine JL.pure rfl rfl (OpP.nilCheck rfl) ?_
    refine JL.pure rfl rfl (OpP.fieldAddr rfl) ?_
    refine JL.step rfl rfl (OpW.call (first := []) (captured := []) inferInstance rfl rfl spoil_ok) ?_; rintro r18 _ ⟨rfl, rfl⟩
    refine JL.nil ?_
    refine J.ret0 rfl ?_
    exact ⟨_, ⟨rfl, true, _, L, hL, by rw [smallO, if_pos (.inl hn)]; rfl, rfl⟩, fun _ h => h⟩
  · obtain ⟨m, rfl⟩ := Int.eq_ofNat_of_zero_le (show 0 ≤ n by omega)
    rcases hs with rfl | rfl | rfl
    · refine FnO.intro (n := 24) Tryd.func65 rfl rfl rfl ?_
      refine J.lit (.tail .head) fun av cv ev => ?_; subst ev
      refine J.seq ?_
      refine J.seq ?_
      refine J.region ?_
      refine JL.pure rfl rfl (OpP.move rfl) ?_
      refine JL.decF rfl rfl (OpP.lss rfl rfl) (by omega) ?_
      refine JL.pure rfl rfl (OpP.move rfl) ?_
      refine JL.pure rfl rfl (OpP.move rfl) ?_
      refine JL.pure rfl rfl (OpP.move rfl) ?_
      refine JL.pure rfl rfl (OpP.mulI rfl rfl (by omega) (by omega)) ?_
      refine JL.pure rfl rfl (OpP.shlC 256 rfl rfl (by decide) (by decide)) ?_
      refine JL.dec rfl rfl (OpP.geq rfl rfl) (fun h13 => ?_) (fun h13 => ?_)
      focus
        refine JL.pure rfl rfl (OpP.pickF rfl rfl) ?_
        refine JL.nil ?_
        refine J.condT rfl ?_
        refine J.seq ?_
        refine J.region ?_
        refine JL.pure rfl rfl (OpP.move rfl) ?_
        refine JL.pure rfl rfl (OpP.nilCheck rfl) ?_
        refine JL.pure rfl rfl (OpP.fieldAddr rfl) ?_
        refine JL.step rfl rfl (OpW.call (first := []) (captured := []) inferInstance rfl rfl spoil_ok) ?_; rintro r18 _ ⟨rfl, rfl⟩
        refine JL.nil ?_
        refine J.ret0 rfl ?_
      rotate_left 1
      focus
        refine JL.pure rfl rfl (OpP.pickF rfl rfl) ?_
        refine JL.nil ?_
        refine J.condF rfl ?_
        refine J.skip ?_
        refine J.region ?_
        refine JL.pure rfl rfl (OpP.move rfl) ?_
        refine JL.pure rfl rfl (OpP.move rfl) ?_
        refine JL.pure rfl rfl (OpP.convI rfl (by simp [IntKind.min, IntKind.max, IntKind.signed, IntKind.bits] <;> omega) (by simp [IntKind.min, IntKind.max, IntKind.signed, IntKind.bits] <;> omega)) ?_
        refine JL.pure rfl rfl (OpP.move rfl) ?_
        refine JL.step rfl rfl (OpW.call (first := []) (captured := []) inferInstance rfl rfl (wide_ok (n := m) (size := 1) hL (by omega) (by omega))) ?_; rintro r23 _ ⟨rfl, ⟨bad', ⟨v', ⟨L', ⟨h23, ⟨h231, rfl⟩⟩⟩⟩⟩⟩
        refine JL.lit (.tail .head) fun av' cv' ev' => ?_; subst ev'
        refine JL.nil ?_
        refine J.fin0 rfl ?_
      rotate_left 1
      · exact ⟨_, ⟨rfl, true, _, L, hL, by rw [smallO, if_pos (.inr (by omega))]; rfl, rfl⟩, fun _ h => h⟩
      · exact ⟨_, ⟨rfl, bad', _, L', h23, by rw [smallO, if_neg (by omega)]; exact h231, rfl⟩, fun _ h => h⟩
    · refine FnO.intro (n := 24) Tryd.func65 rfl rfl rfl ?_
      refine J.lit (.tail .head) fun av cv ev => ?_; subst ev
      refine J.seq ?_
      refine J.seq ?_
      refine J.region ?_
      refine JL.pure rfl rfl (OpP.move rfl) ?_
      refine JL.decF rfl rfl (OpP.lss rfl rfl) (by omega) ?_
      refine JL.pure rfl rfl (OpP.move rfl) ?_
      refine JL.pure rfl rfl (OpP.move rfl) ?_
      refine JL.pure rfl rfl (OpP.move rfl) ?_
      refine JL.pure rfl rfl (OpP.mulI rfl rfl (by omega) (by omega)) ?_
      refine JL.pure rfl rfl (OpP.shlC 65536 rfl rfl (by decide) (by decide)) ?_
      refine JL.dec rfl rfl (OpP.geq rfl rfl) (fun h13 => ?_) (fun h13 => ?_)
      focus
        refine JL.pure rfl rfl (OpP.pickF rfl rfl) ?_
        refine JL.nil ?_
        refine J.condT rfl ?_
        refine J.seq ?_
        refine J.region ?_
        refine JL.pure rfl rfl (OpP.move rfl) ?_
        refine JL.pure rfl rfl (OpP.nilCheck rfl) ?_
        refine JL.pure rfl rfl (OpP.fieldAddr rfl) ?_
        refine JL.step rfl rfl (OpW.call (first := []) (captured := []) inferInstance rfl rfl spoil_ok) ?_; rintro r18 _ ⟨rfl, rfl⟩
        refine JL.nil ?_
        refine J.ret0 rfl ?_
      rotate_left 1
      focus
        refine JL.pure rfl rfl (OpP.pickF rfl rfl) ?_
        refine JL.nil ?_
        refine J.condF rfl ?_
        refine J.skip ?_
        refine J.region ?_
        refine JL.pure rfl rfl (OpP.move rfl) ?_
        refine JL.pure rfl rfl (OpP.move rfl) ?_
        refine JL.pure rfl rfl (OpP.convI rfl (by simp [IntKind.min, IntKind.max, IntKind.signed, IntKind.bits] <;> omega) (by simp [IntKind.min, IntKind.max, IntKind.signed, IntKind.bits] <;> omega)) ?_
        refine JL.pure rfl rfl (OpP.move rfl) ?_
        refine JL.step rfl rfl (OpW.call (first := []) (captured := []) inferInstance rfl rfl (wide_ok (n := m) (size := 2) hL (by omega) (by omega))) ?_; rintro r23 _ ⟨rfl, ⟨bad', ⟨v', ⟨L', ⟨h23, ⟨h231, rfl⟩⟩⟩⟩⟩⟩
        refine JL.lit (.tail .head) fun av' cv' ev' => ?_; subst ev'
        refine JL.nil ?_
        refine J.fin0 rfl ?_
      rotate_left 1
      · exact ⟨_, ⟨rfl, true, _, L, hL, by rw [smallO, if_pos (.inr (by omega))]; rfl, rfl⟩, fun _ h => h⟩
      · exact ⟨_, ⟨rfl, bad', _, L', h23, by rw [smallO, if_neg (by omega)]; exact h231, rfl⟩, fun _ h => h⟩
    · refine FnO.intro (n := 24) Tryd.func65 rfl rfl rfl ?_
      refine J.lit (.tail .head) fun av cv ev => ?_; subst ev
      refine J.seq ?_
      refine J.seq ?_
      refine J.region ?_
      refine JL.pure rfl rfl (OpP.move rfl) ?_
      refine JL.decF rfl rfl (OpP.lss rfl rfl) (by omega) ?_
      refine JL.pure rfl rfl (OpP.move rfl) ?_
      refine JL.pure rfl rfl (OpP.move rfl) ?_
      refine JL.pure rfl rfl (OpP.move rfl) ?_
      refine JL.pure rfl rfl (OpP.mulI rfl rfl (by omega) (by omega)) ?_
      refine JL.pure rfl rfl (OpP.shlC 4294967296 rfl rfl (by decide) (by decide)) ?_
      refine JL.dec rfl rfl (OpP.geq rfl rfl) (fun h13 => ?_) (fun h13 => ?_)
      focus
        refine JL.pure rfl rfl (OpP.pickF rfl rfl) ?_
        refine JL.nil ?_
        refine J.condT rfl ?_
        refine J.seq ?_
        refine J.region ?_
        refine JL.pure rfl rfl (OpP.move rfl) ?_
        refine JL.pure rfl rfl (OpP.nilCheck rfl) ?_
        refine JL.pure rfl rfl (OpP.fieldAddr rfl) ?_
        refine JL.step rfl rfl (OpW.call (first := []) (captured := []) inferInstance rfl rfl spoil_ok) ?_; rintro r18 _ ⟨rfl, rfl⟩
        refine JL.nil ?_
        refine J.ret0 rfl ?_
      rotate_left 1
      focus
        refine JL.pure rfl rfl (OpP.pickF rfl rfl) ?_
        refine JL.nil ?_
        refine J.condF rfl ?_
        refine J.skip ?_
        refine J.region ?_
        refine JL.pure rfl rfl (OpP.move rfl) ?_
        refine JL.pure rfl rfl (OpP.move rfl) ?_
        refine JL.pure rfl rfl (OpP.convI rfl (by simp [IntKind.min, IntKind.max, IntKind.signed, IntKind.bits] <;> omega) (by simp [IntKind.min, IntKind.max, IntKind.signed, IntKind.bits] <;> omega)) ?_
        refine JL.pure rfl rfl (OpP.move rfl) ?_
        refine JL.step rfl rfl (OpW.call (first := []) (captured := []) inferInstance rfl rfl (wide_ok (n := m) (size := 4) hL (by omega) (by omega))) ?_; rintro r23 _ ⟨rfl, ⟨bad', ⟨v', ⟨L', ⟨h23, ⟨h231, rfl⟩⟩⟩⟩⟩⟩
        refine JL.lit (.tail .head) fun av' cv' ev' => ?_; subst ev'
        refine JL.nil ?_
        refine J.fin0 rfl ?_
      rotate_left 1
      · exact ⟨_, ⟨rfl, true, _, L, hL, by rw [smallO, if_pos (.inr (by omega))]; rfl, rfl⟩, fun _ h => h⟩
      · exact ⟨_, ⟨rfl, bad', _, L', h23, by rw [smallO, if_neg (by omega)]; exact h231, rfl⟩, fun _ h => h⟩
theorem small1_ok {w0 : World} {F : List HProp} {oe g : Nat} {n : Int} {bad : Bool} {v : Value} {L : List UInt8} (hL : L.length ≤ 4096) :
    Wrote w0 65 [.pointer (some ⟨g, 0, none⟩), .int .i64 n, .int .i64 1] oe g bad v L F (smallO (absO bad L) n 1) := small_ok (size := 1) hL (.inl rfl)
theorem small2_ok {w0 : World} {F : List HProp} {oe g : Nat} {n : Int} {bad : Bool} {v : Value} {L : List UInt8} (hL : L.length ≤ 4096) :
    Wrote w0 65 [.pointer (some ⟨g, 0, none⟩), .int .i64 n, .int .i64 2] oe g bad v L F (smallO (absO bad L) n 2) := small_ok (size := 2) hL (.inr (.inl rfl))
theorem small4_ok {w0 : World} {F : List HProp} {oe g : Nat} {n : Int} {bad : Bool} {v : Value} {L : List UInt8} (hL : L.length ≤ 4096) :
    Wrote w0 65 [.pointer (some ⟨g, 0, none⟩), .int .i64 n, .int .i64 4] oe g bad v L F (smallO (absO bad L) n 4) := small_ok (size := 4) hL (.inr (.inr rfl))
theorem outU8_ok {w0 : World} {F : List HProp} {oe g : Nat} {n : Int} {bad : Bool} {v : Value} {L : List UInt8} (hL : L.length ≤ 4096) : Wrote w0 56 [.pointer (some ⟨g, 0, none⟩), .int .i64 n] oe g bad v L F (smallO (absO bad L) n 1) := by
  refine FnO.intro (n := 7) Tryd.func56 rfl rfl rfl ?_
  refine J.lit (.tail .head) fun av cv ev => ?_; subst ev
  refine J.region ?_
  refine JL.pure rfl rfl (OpP.move rfl) ?_
  refine JL.pure rfl rfl (OpP.move rfl) ?_
  refine JL.step rfl rfl (OpW.call (first := []) (captured := []) inferInstance rfl rfl (small1_ok hL)) ?_; rintro r6 _ ⟨rfl, ⟨bad', ⟨v', ⟨L', ⟨h6, ⟨h61, rfl⟩⟩⟩⟩⟩⟩
  refine JL.lit (.tail .head) fun av' cv' ev' => ?_; subst ev'
  refine JL.nil ?_
  refine J.fin0 rfl ?_
  exact ⟨rfl, bad', _, L', h6, h61, rfl⟩
theorem outU16_ok {w0 : World} {F : List HProp} {oe g : Nat} {n : Int} {bad : Bool} {v : Value} {L : List UInt8} (hL : L.length ≤ 4096) : Wrote w0 57 [.pointer (some ⟨g, 0, none⟩), .int .i64 n] oe g bad v L F (smallO (absO bad L) n 2) := by
  refine FnO.intro (n := 7) Tryd.func57 rfl rfl rfl ?_
  refine J.lit (.tail .head) fun av cv ev => ?_; subst ev
  refine J.region ?_
  refine JL.pure rfl rfl (OpP.move rfl) ?_
  refine JL.pure rfl rfl (OpP.move rfl) ?_
  refine JL.step rfl rfl (OpW.call (first := []) (captured := []) inferInstance rfl rfl (small2_ok hL)) ?_; rintro r6 _ ⟨rfl, ⟨bad', ⟨v', ⟨L', ⟨h6, ⟨h61, rfl⟩⟩⟩⟩⟩⟩
  refine JL.lit (.tail .head) fun av' cv' ev' => ?_; subst ev'
  refine JL.nil ?_
  refine J.fin0 rfl ?_
  exact ⟨rfl, bad', _, L', h6, h61, rfl⟩
theorem outU32_ok {w0 : World} {F : List HProp} {oe g : Nat} {n : Int} {bad : Bool} {v : Value} {L : List UInt8} (hL : L.length ≤ 4096) : Wrote w0 55 [.pointer (some ⟨g, 0, none⟩), .int .i64 n] oe g bad v L F (smallO (absO bad L) n 4) := by
  refine FnO.intro (n := 7) Tryd.func55 rfl rfl rfl ?_
  refine J.lit (.tail .head) fun av cv ev => ?_; subst ev
  refine J.region ?_
  refine JL.pure rfl rfl (OpP.move rfl) ?_
  refine JL.pure rfl rfl (OpP.move rfl) ?_
  refine JL.step rfl rfl (OpW.call (first := []) (captured := []) inferInstance rfl rfl (small4_ok hL)) ?_; rintro r6 _ ⟨rfl, ⟨bad', ⟨v', ⟨L', ⟨h6, ⟨h61, rfl⟩⟩⟩⟩⟩⟩
  refine JL.lit (.tail .head) fun av' cv' ev' => ?_; subst ev'
  refine JL.nil ?_
  refine J.fin0 rfl ?_
  exact ⟨rfl, bad', _, L', h6, h61, rfl⟩
theorem outRaw_ok {w0 : World} {F : List HProp} {oe g : Nat} {bad : Bool} {v u : Value} {L bs : List UInt8} (hL : L.length ≤ 4096) (hb : bs.length ≤ 1000000000) (hr : RdO w0 F u bs.length (bcells bs)) : Wrote w0 58 [.pointer (some ⟨g, 0, none⟩), u] oe g bad v L F (putO (absO bad L) bs) := by
  refine FnO.rdF (fun _ h => h.tail.tail) hr fun hr1 => ?_
  obtain ⟨ua, uc, rfl⟩ := hr1.lit
  refine FnO.intro (n := 7) Tryd.func58 rfl rfl rfl ?_
  refine J.lit (.tail .head) fun av cv ev => ?_; subst ev
  refine J.region ?_
  refine JL.pure rfl rfl (OpP.move rfl) ?_
  refine JL.pure rfl rfl (OpP.move rfl) ?_
  refine JL.step rfl rfl (OpW.call (first := []) (captured := []) inferInstance rfl rfl (put_ok (bs := bs) hL hb hr)) ?_; rintro r6 _ ⟨rfl, ⟨bad', ⟨v', ⟨L', ⟨h6, ⟨h61, rfl⟩⟩⟩⟩⟩⟩
  refine JL.lit (.tail .head) fun av' cv' ev' => ?_; subst ev'
  refine JL.nil ?_
  refine J.fin0 rfl ?_
  exact ⟨rfl, bad', _, L', h6, h61, rfl⟩
end Go.Proofs.F

-- seat f
namespace Go.Proofs.F
open Go Go.Gp Go.RowKit

theorem smallO_in {o : Option (List UInt8)} {n size : Nat} (h : n < 256 ^ size) : smallO o (n : Nat) size = putO o (be n size) := by
  have e : (256 : Int) ^ size = ((256 ^ size : Nat) : Int) := (Int.natCast_pow 256 size).symm
  rw [smallO, if_neg]
  · rfl
  · intro q
    rcases q with q | q
    · omega
    · rw [e] at q
      exact absurd (Int.ofNat_le.1 q) (Nat.not_le.2 h)
/-! A value's bytes. -/
end Go.Proofs.F

-- seat f
namespace Go.Proofs.F
open Go Go.Gp Go.RowKit

theorem clone_ok {w0 : World} {F : List HProp} {v : Value} {l : List UInt8} (hl : l.length ≤ 1000000000) (hr : RdO w0 F v l.length (bcells l)) :
    FnO Tryd.prog w0 31 [v] F (fun r l' => (∃ a c, r = .slice a l.length c) ∧ l' = own 5 1 r l.length (bcells l) :: F) := by
  refine FnO.rdF (fun _ h => h) hr fun hr1 => ?_
  obtain ⟨a1, c1, rfl⟩ := hr1.lit
  have hbl : (bcells l).length = l.length * 1 := by rw [bcells_length]; omega
  refine FnO.weak ?_
  cases a1 with
  | none =>
    have h0 : l = [] := by
      rcases hr1 with ⟨a, c, h1, h2, _⟩ | ⟨b, o, c, h1, _⟩
      · exact List.eq_nil_of_length_eq_zero h2
      · cases h1
    subst h0
    refine FnO.intro (n := 8) Tryd.func31 rfl rfl rfl ?_
    refine J.seq ?_
    refine J.region ?_
    refine JL.pure rfl rfl (OpP.assign rfl) ?_
    refine JL.nil ?_
    refine J.seq ?_
    refine J.seq ?_
    refine J.region ?_
    refine JL.pure rfl rfl (OpP.move rfl) ?_
    refine JL.pure rfl rfl (OpP.eqSlNil rfl rfl) ?_
    refine JL.nil ?_
    refine J.condT rfl ?_
    refine J.seq ?_
    refine J.region ?_
    refine JL.pure rfl rfl (OpP.assign rfl) ?_
    refine JL.nil ?_
    refine J.ret1 rfl rfl ?_
    exact ⟨_, ⟨⟨none, 0, rfl⟩, rfl⟩, fun _ h => h.own_nil⟩
  | some a1 =>
    refine FnO.intro (n := 8) Tryd.func31 rfl rfl rfl ?_
    refine J.seq ?_
    refine J.region ?_
    refine JL.pure rfl rfl (OpP.assign rfl) ?_
    refine JL.nil ?_
    refine J.seq ?_
    refine J.seq ?_
    refine J.region ?_
    refine JL.pure rfl rfl (OpP.move rfl) ?_
    refine JL.pure rfl rfl (OpP.eqSlNil rfl rfl) ?_
    refine JL.nil ?_
    refine J.condF rfl ?_
    refine J.skip ?_
    refine J.seq ?_
    refine J.region ?_
    refine JL.mem rfl rfl (by apply OpM.buildSlice (by rfl) rfl (by rfl); (repeat (first | exact Fills.nil | (apply Fills.cons rfl rfl rfl; (case' hs => ((repeat (first | exact Spl.nil | apply Spl.here | apply Spl.there)); done)))))) ?_; rintro _ _ ⟨b5, rfl, rfl⟩
    refine JL.pure rfl rfl (OpP.move rfl) ?_
    refine JL.ownRow (n := 0) (sz := 1) (by decide) rfl ?_
    refine JL.mem rfl rfl (OpM.appendH0 rfl rfl (.inl ⟨_, Sl.und inferInstance⟩) (by rfl) rfl rfl (RdO.src (hr.conv fun _ h => Own.pick (pre := [_]) [] rfl h) (by first | assumption | exact fc_length _ _ | (simp; done) | (simp; omega))) (by first | exact bcells_one _ | exact scells_one _ | exact icells_one _ | assumption | exact fc_one fun _ => rfl) (by simp only [maxLen]; omega) (by omega)) ?_; rintro _ _ ⟨⟨a7, c7, rfl⟩, rfl⟩
    refine JL.pure rfl rfl (OpP.assign rfl) ?_
    refine JL.nil ?_
    refine J.ret1 rfl rfl ?_
    exact ⟨_, ⟨⟨_, _, rfl⟩, rfl⟩, fun _ h => h⟩
/-- What is told at the end. -/
theorem end_ok {w0 : World} {F : List HProp} {oe g : Nat} {bad : Bool} {v : Value} {L : List UInt8} (hL : L.length ≤ 4096) :
    FnO Tryd.prog w0 59 [.pointer (some ⟨g, 0, none⟩)] (outL oe g bad v L F) (fun r l' => (bad = true ∧ r = .tuple #[.slice none 0 0, .int .i64 3] ∧ l' = outL oe g bad v L F) ∨ (bad = false ∧ ∃ a c, r = .tuple #[.slice a L.length c, .int .i64 0] ∧ l' = own 5 1 (.slice a L.length c) L.length (bcells L) :: outL oe g bad v L F)) := by
  refine FnO.weak ?_
  cases bad
  · refine FnO.intro (n := 14) Tryd.func59 rfl rfl rfl ?_
    refine J.lit (.tail .head) fun av cv ev => ?_; subst ev
    refine J.seq ?_
    refine J.region ?_
    refine JL.pure rfl rfl (OpP.assign rfl) ?_
    refine JL.pure rfl rfl (OpP.assign rfl) ?_
    refine JL.nil ?_
    refine J.seq ?_
    refine J.seq ?_
    refine J.region ?_
    refine JL.pure rfl rfl (OpP.move rfl) ?_
    refine JL.pure rfl rfl (OpP.nilCheck rfl) ?_
    refine JL.pure rfl rfl (OpP.fieldAddr rfl) ?_
    refine JL.pure rfl rfl (OpP.fieldAddr rfl) ?_
    refine JL.read rfl rfl (OpR.load1 rfl (Cell.row .head rfl)) ?_
    refine JL.nil ?_
    refine J.condF rfl ?_
    refine J.skip ?_
    refine J.seq ?_
    refine J.region ?_
    refine JL.pure rfl rfl (OpP.move rfl) ?_
    refine JL.pure rfl rfl (OpP.nilCheck rfl) ?_
    refine JL.pure rfl rfl (OpP.fieldAddr rfl) ?_
    refine JL.read rfl rfl (OpR.load1 rfl (Cell.row .head rfl)) ?_
    refine JL.step rfl rfl (OpW.call (first := []) (captured := []) inferInstance rfl rfl (clone_ok (l := L) (by omega) (RdO.own (.tail .head)))) ?_; rintro r13 _ ⟨⟨a, ⟨c, rfl⟩⟩, rfl⟩
    refine JL.pure rfl rfl (OpP.assign rfl) ?_
    refine JL.pure rfl rfl (OpP.assign rfl) ?_
    refine JL.nil ?_
    refine J.ret2 rfl rfl rfl ?_
    exact ⟨_, .inr ⟨rfl, a, c, rfl, rfl⟩, fun _ h => h⟩
  · refine FnO.intro (n := 14) Tryd.func59 rfl rfl rfl ?_
    refine J.lit (.tail .head) fun av cv ev => ?_; subst ev
    refine J.seq ?_
    refine J.region ?_
    refine JL.pure rfl rfl (OpP.assign rfl) ?_
    refine JL.pure rfl rfl (OpP.assign rfl) ?_
    refine JL.nil ?_
    refine J.seq ?_
    refine J.seq ?_
    refine J.region ?_
    refine JL.pure rfl rfl (OpP.move rfl) ?_
    refine JL.pure rfl rfl (OpP.nilCheck rfl) ?_
    refine JL.pure rfl rfl (OpP.fieldAddr rfl) ?_
    refine JL.pure rfl rfl (OpP.fieldAddr rfl) ?_
    refine JL.read rfl rfl (OpR.load1 rfl (Cell.row .head rfl)) ?_
    refine JL.nil ?_
    refine J.condT rfl ?_
    refine J.seq ?_
    refine J.region ?_
    refine JL.pure rfl rfl (OpP.assign rfl) ?_
    refine JL.pure rfl rfl (OpP.assign rfl) ?_
    refine JL.nil ?_
    refine J.ret2 rfl rfl rfl ?_
    exact ⟨_, .inl ⟨rfl, rfl, rfl⟩, fun _ h => h⟩
end Go.Proofs.F

-- seat f
namespace Go.Proofs.F
open Go Go.Gp Go.RowKit

theorem endT {w0 : World} {F : List HProp} {oe g : Nat} {v : Value} {L : List UInt8} (hL : L.length ≤ 4096) :
    FnO Tryd.prog w0 59 [.pointer (some ⟨g, 0, none⟩)] (outL oe g false v L F) (fun r l' => ∃ a c, r = .tuple #[.slice a L.length c, .int .i64 0] ∧ l' = own 5 1 (.slice a L.length c) L.length (bcells L) :: outL oe g false v L F) :=
  (end_ok hL).mono fun r l' h => by
    rcases h with ⟨h, _⟩ | ⟨_, h⟩
    · cases h
    · exact h
end Go.Proofs.F

-- seat f
namespace Go.Proofs.F
open Go Go.Gp Go.RowKit

/-! What is read: the rest, or bad. -/
abbrev inL (g : Nat) (bad : Bool) (v : Value) (M : List UInt8) (F : List HProp) : List HProp := row g 99 [.bool bad, v] :: own 5 1 v M.length (bcells M) :: F
def restO (o : Option (List UInt8)) (n : Int) : Option (List UInt8) := o.bind fun M => if 0 ≤ n ∧ n ≤ M.length then some (M.drop n.toNat) else none
def gotO (o : Option (List UInt8)) (n : Int) : List UInt8 := match o with
  | none => []
  | some M => if 0 ≤ n ∧ n ≤ M.length then M.take n.toNat else []
theorem spoilI_ok {w0 : World} {F : List HProp} {g : Nat} {bad : Bool} {v : Value} :
    FnO Tryd.prog w0 63 [.pointer (some ⟨g, 0, none⟩)] (row g 99 [.bool bad, v] :: F) (fun r l' => r = .tuple #[] ∧ l' = row g 99 [.bool true, v] :: F) := by
  refine FnO.intro (n := 5) Tryd.func63 rfl rfl rfl ?_
  refine J.region ?_
  refine JL.pure rfl rfl (OpP.move rfl) ?_
  refine JL.pure rfl rfl (OpP.nilCheck rfl) ?_
  refine JL.pure rfl rfl (OpP.fieldAddr rfl) ?_
  refine JL.mem0 rfl (by apply OpM.store1 rfl rfl rfl; (case' hu => exact .head); (case' hs => exact (.here .nil)); done) ?_; rintro _ _ ⟨rfl, rfl⟩
  refine JL.nil ?_
  refine J.fin0 rfl ?_
  exact ⟨rfl, rfl⟩
theorem read_ok {w0 : World} {F : List HProp} {v : Value} {l : List UInt8} (hl : l.length ≤ 1000000000) (hr : RdO w0 F v l.length (bcells l)) :
    FnO Tryd.prog w0 37 [v] F (fun r l' => ∃ g v', r = .pointer (some ⟨g, 0, none⟩) ∧ l' = inL g false v' l F) := by
  refine FnO.rdF (fun _ h => h) hr fun hr1 => ?_
  obtain ⟨a1, c1, rfl⟩ := hr1.lit
  refine FnO.weak ?_
  refine FnO.intro (n := 7) Tryd.func37 rfl rfl rfl ?_
  refine J.seq ?_
  refine J.region ?_
  refine JL.pure rfl rfl (OpP.assign rfl) ?_
  refine JL.nil ?_
  refine J.seq ?_
  refine J.region ?_
  refine JL.pure rfl rfl (OpP.move rfl) ?_
  refine JL.step rfl rfl (OpW.call (first := []) (captured := []) inferInstance rfl rfl (clone_ok hl hr)) ?_; rintro r4 _ ⟨⟨a, ⟨c, rfl⟩⟩, rfl⟩
  refine JL.pure rfl rfl (OpP.build rfl (by (repeat (first | exact Fills.nil | (apply Fills.cons rfl rfl rfl; (case' hs => ((repeat (first | exact Spl.nil | apply Spl.here | apply Spl.there)); done))))))) ?_
  refine JL.mem rfl rfl (OpM.box rfl rfl) ?_; rintro _ _ ⟨b6, rfl, rfl⟩
  refine JL.pure rfl rfl (OpP.assign rfl) ?_
  refine JL.nil ?_
  refine J.ret1 rfl rfl ?_
  exact ⟨_, ⟨b6, _, rfl, rfl⟩, fun _ h => h⟩
theorem raw_ok {w0 : World} {F : List HProp} {g : Nat} {n : Int} {bad : Bool} {v : Value} {M : List UInt8} (hM : M.length ≤ 1000000000) :
    FnO Tryd.prog w0 52 [.pointer (some ⟨g, 0, none⟩), .int .i64 n] (inL g bad v M F) (fun r l' => ∃ bad' v' M', (∃ a c, r = .slice a (gotO (absO bad M) n).length c) ∧ M'.length ≤ 1000000000 ∧ absO bad' M' = restO (absO bad M) n ∧ l' = own 5 1 r (gotO (absO bad M) n).length (bcells (gotO (absO bad M) n)) :: inL g bad' v' M' F) := by
  refine FnO.weak ?_
  refine FnO.intro (n := 45) Tryd.func52 rfl rfl rfl ?_
  refine J.lit (.tail .head) fun av cv ev => ?_; subst ev
  by_cases hb : bad = true
  · subst hb
    refine J.seq ?_
    refine J.region ?_
    refine JL.pure rfl rfl (OpP.assign rfl) ?_
    refine JL.nil ?_
    refine J.seq ?_
    refine J.seq ?_
    refine J.region ?_
    refine JL.pure rfl rfl (OpP.move rfl) ?_
    refine JL.pure rfl rfl (OpP.nilCheck rfl) ?_
    refine JL.pure rfl rfl (OpP.fieldAddr rfl) ?_
    refine JL.pure rfl rfl (OpP.fieldAddr rfl) ?_
    refine JL.read rfl rfl (OpR.load1 rfl (Cell.row .head rfl)) ?_
    refine JL.pure rfl rfl (OpP.move rfl) ?_
    refine JL.skip rfl rfl ?_
    refine JL.skip rfl rfl ?_
    refine JL.pure rfl rfl (OpP.pickT rfl rfl) ?_
    refine JL.pure rfl rfl (OpP.move rfl) ?_
    refine JL.skip rfl rfl ?_
    refine JL.skip rfl rfl ?_
    refine JL.skip rfl rfl ?_
    refine JL.skip rfl rfl ?_
    refine JL.skip rfl rfl ?_
    refine JL.skip rfl rfl ?_
    refine JL.skip rfl rfl ?_
    refine JL.pure rfl rfl (OpP.pickT rfl rfl) ?_
    refine JL.nil ?_
    refine J.condT rfl ?_
    refine J.seq ?_
    refine J.region ?_
    refine JL.pure rfl rfl (OpP.move rfl) ?_
    refine JL.pure rfl rfl (OpP.nilCheck rfl) ?_
    refine JL.pure rfl rfl (OpP.fieldAddr rfl) ?_
    refine JL.step rfl rfl (OpW.call (first := []) (captured := []) inferInstance rfl rfl spoilI_ok) ?_; rintro r27 _ ⟨rfl, rfl⟩
    refine JL.nil ?_
    refine J.seq ?_
    refine J.region ?_
    refine JL.pure rfl rfl (OpP.assign rfl) ?_
    refine JL.nil ?_
    refine J.ret1 rfl rfl ?_
    exact ⟨_, ⟨true, _, M, ⟨none, 0, rfl⟩, hM, rfl, rfl⟩, fun _ h => h.own_nil⟩
  · obtain rfl : bad = false := by simpa using hb
    by_cases hn : 0 ≤ n ∧ n ≤ M.length
    · obtain ⟨k, rfl⟩ := Int.eq_ofNat_of_zero_le hn.1
      have hk : k ≤ M.length := by omega
      have e1 : restO (absO false M) (k : Nat) = some (M.drop k) := by simp only [restO, absO, Option.bind_some, if_false, Bool.false_eq_true]; rw [if_pos hn]; rfl
      have e2 : gotO (absO false M) (k : Nat) = M.take k := by simp only [gotO, absO, if_false, Bool.false_eq_true]; rw [if_pos hn]; rfl
      have e3 : (M.take k).length = k := by rw [List.length_take]; omega
      rw [e1, e2]
      refine J.ownCases (.tail .head) (fun ea en ec => ?_) (fun gg pp ea kk => ?_)
      · subst ea ec
        obtain rfl : M = [] := List.eq_nil_of_length_eq_zero en
        obtain rfl : k = 0 := by simpa using hk
        refine J.seq ?_
        refine J.region ?_
        refine JL.pure rfl rfl (OpP.assign rfl) ?_
        refine JL.nil ?_
        refine J.seq ?_
        refine J.seq ?_
        refine J.region ?_
        refine JL.pure rfl rfl (OpP.move rfl) ?_
        refine JL.pure rfl rfl (OpP.nilCheck rfl) ?_
        refine JL.pure rfl rfl (OpP.fieldAddr rfl) ?_
        refine JL.pure rfl rfl (OpP.fieldAddr rfl) ?_
        refine JL.read rfl rfl (OpR.load1 rfl (Cell.row .head rfl)) ?_
        refine JL.pure rfl rfl (OpP.move rfl) ?_
        refine JL.pure rfl rfl (OpP.move rfl) ?_
        refine JL.decF rfl rfl (OpP.lss rfl rfl) (by omega) ?_
        refine JL.pure rfl rfl (OpP.pickF rfl rfl) ?_
        refine JL.pure rfl rfl (OpP.move rfl) ?_
        refine JL.pure rfl rfl (OpP.move rfl) ?_
        refine JL.pure rfl rfl (OpP.move rfl) ?_
        refine JL.pure rfl rfl (OpP.nilCheck rfl) ?_
        refine JL.pure rfl rfl (OpP.fieldAddr rfl) ?_
        refine JL.read rfl rfl (OpR.load1 rfl (Cell.row .head rfl)) ?_
        refine JL.pure rfl rfl (OpP.len rfl rfl) ?_
        refine JL.decF rfl rfl (OpP.gtr rfl rfl) (by omega) ?_
        refine JL.pure rfl rfl (OpP.pickF rfl rfl) ?_
        refine JL.nil ?_
        refine J.condF rfl ?_
        refine J.skip ?_
        refine J.seq ?_
        refine J.region ?_
        refine JL.pure rfl rfl (OpP.move rfl) ?_
        refine JL.pure rfl rfl (OpP.nilCheck rfl) ?_
        refine JL.pure rfl rfl (OpP.fieldAddr rfl) ?_
        refine JL.read rfl rfl (OpR.load1 rfl (Cell.row .head rfl)) ?_
        refine JL.pure rfl rfl (OpP.move rfl) ?_
        refine JL.pure rfl rfl (OpP.sliceNilTo rfl rfl (by omega)) ?_
        refine JL.step rfl rfl (OpW.call (first := []) (captured := []) inferInstance rfl rfl (clone_ok (l := []) (by exact Nat.zero_le _) RdO.nilB)) ?_; rintro r34 _ ⟨⟨a, ⟨c, rfl⟩⟩, rfl⟩
        refine JL.pure rfl rfl (OpP.assign rfl) ?_
        refine JL.nil ?_
        refine J.seq ?_
        refine J.region ?_
        refine JL.pure rfl rfl (OpP.move rfl) ?_
        refine JL.pure rfl rfl (OpP.move rfl) ?_
        refine JL.pure rfl rfl (OpP.nilCheck rfl) ?_
        refine JL.pure rfl rfl (OpP.fieldAddr rfl) ?_
        refine JL.read rfl rfl (OpR.load1 rfl (Cell.row (.tail .head) rfl)) ?_
        refine JL.pure rfl rfl (OpP.move rfl) ?_
        refine JL.pure rfl rfl (OpP.sliceNilFrom rfl rfl (by omega)) ?_
        refine JL.pure rfl rfl (OpP.nilCheck rfl) ?_
        refine JL.pure rfl rfl (OpP.fieldAddr rfl) ?_
        refine JL.mem0 rfl (by apply OpM.store1 rfl rfl rfl; (case' hu => exact (.tail .head)); (case' hs => exact (.there (.here .nil))); done) ?_; rintro _ _ ⟨rfl, rfl⟩
        refine JL.nil ?_
        refine J.seq ?_
        refine J.region ?_
        refine JL.pure rfl rfl (OpP.move rfl) ?_
        refine JL.pure rfl rfl (OpP.assign rfl) ?_
        refine JL.nil ?_
        refine J.ret1 rfl rfl ?_
        exact ⟨_, ⟨false, .slice none 0 0, [], ⟨a, c, rfl⟩, Nat.zero_le _, rfl, rfl⟩, fun _ h => h⟩
      · subst ea
        have hto : RdO w0 [own 5 1 (.slice (some ⟨gg, pp, none⟩) M.length cv) M.length (bcells M)] (.slice (some ⟨gg, pp, none⟩) k cv) (M.take k).length (bcells (M.take k)) := by
          have := (RdO.own (w0 := w0) (l := [own 5 1 (.slice (some ⟨gg, pp, none⟩) M.length cv) M.length (bcells M)]) .head).to 1 hk
          rw [Nat.mul_one, show (bcells M).take k = bcells (M.take k) from List.map_take.symm] at this
          rw [e3]; exact this
        refine J.seq ?_
        refine J.region ?_
        refine JL.pure rfl rfl (OpP.assign rfl) ?_
        refine JL.nil ?_
        refine J.seq ?_
        refine J.seq ?_
        refine J.region ?_
        refine JL.pure rfl rfl (OpP.move rfl) ?_
        refine JL.pure rfl rfl (OpP.nilCheck rfl) ?_
        refine JL.pure rfl rfl (OpP.fieldAddr rfl) ?_
        refine JL.pure rfl rfl (OpP.fieldAddr rfl) ?_
        refine JL.read rfl rfl (OpR.load1 rfl (Cell.row .head rfl)) ?_
        refine JL.pure rfl rfl (OpP.move rfl) ?_
        refine JL.pure rfl rfl (OpP.move rfl) ?_
        refine JL.decF rfl rfl (OpP.lss rfl rfl) (by omega) ?_
        refine JL.pure rfl rfl (OpP.pickF rfl rfl) ?_
        refine JL.pure rfl rfl (OpP.move rfl) ?_
        refine JL.pure rfl rfl (OpP.move rfl) ?_
        refine JL.pure rfl rfl (OpP.move rfl) ?_
        refine JL.pure rfl rfl (OpP.nilCheck rfl) ?_
        refine JL.pure rfl rfl (OpP.fieldAddr rfl) ?_
        refine JL.read rfl rfl (OpR.load1 rfl (Cell.row .head rfl)) ?_
        refine JL.pure rfl rfl (OpP.len rfl rfl) ?_
        refine JL.decF rfl rfl (OpP.gtr rfl rfl) (by omega) ?_
        refine JL.pure rfl rfl (OpP.pickF rfl rfl) ?_
        refine JL.nil ?_
        refine J.condF rfl ?_
        refine J.skip ?_
        refine J.seq ?_
        refine J.region ?_
        refine JL.pure rfl rfl (OpP.move rfl) ?_
        refine JL.pure rfl rfl (OpP.nilCheck rfl) ?_
        refine JL.pure rfl rfl (OpP.fieldAddr rfl) ?_
        refine JL.read rfl rfl (OpR.load1 rfl (Cell.row .head rfl)) ?_
        refine JL.pure rfl rfl (OpP.move rfl) ?_
        refine JL.pure rfl rfl (OpP.sliceTo _ rfl rfl rfl (by omega)) ?_
        refine JL.step rfl rfl (OpW.call (first := []) (captured := []) inferInstance rfl rfl (clone_ok (l := M.take k) (by omega) (hto.conv (fun _ h => Own.left (ks := [_]) (Own.pick (pre := [_, _]) [1] rfl h))))) ?_; rintro r34 _ ⟨⟨a, ⟨c, rfl⟩⟩, rfl⟩
        refine JL.pure rfl rfl (OpP.assign rfl) ?_
        refine JL.nil ?_
        refine J.seq ?_
        refine J.region ?_
        refine JL.pure rfl rfl (OpP.move rfl) ?_
        refine JL.pure rfl rfl (OpP.move rfl) ?_
        refine JL.pure rfl rfl (OpP.nilCheck rfl) ?_
        refine JL.pure rfl rfl (OpP.fieldAddr rfl) ?_
        refine JL.read rfl rfl (OpR.load1 rfl (Cell.row (.tail .head) rfl)) ?_
        refine JL.pure rfl rfl (OpP.move rfl) ?_
        refine JL.pure rfl rfl (OpP.sliceFrom _ rfl rfl rfl (by omega) (by omega)) ?_
        refine JL.pure rfl rfl (OpP.nilCheck rfl) ?_
        refine JL.pure rfl rfl (OpP.fieldAddr rfl) ?_
        refine JL.mem0 rfl (by apply OpM.store1 rfl rfl rfl; (case' hu => exact (.tail .head)); (case' hs => exact (.there (.here .nil))); done) ?_; rintro _ _ ⟨rfl, rfl⟩
        refine JL.nil ?_
        refine J.seq ?_
        refine J.region ?_
        refine JL.pure rfl rfl (OpP.move rfl) ?_
        refine JL.pure rfl rfl (OpP.assign rfl) ?_
        refine JL.nil ?_
        refine J.ret1 rfl rfl ?_
        refine ⟨_, ⟨false, .slice (some ⟨gg, if cv = k then pp else pp + k * 1, none⟩) (M.length - k) (cv - k), M.drop k, ⟨a, c, rfl⟩, by rw [List.length_drop]; omega, rfl, rfl⟩, fun _ h => ?_⟩
        have h := Own.fromK hk (Own.pick (pre := [_, _, _]) [2, 0, 1] rfl h)
        rw [show (bcells M).drop (k * 1) = bcells (M.drop k) by rw [Nat.mul_one]; exact List.map_drop.symm] at h
        rw [inL, List.length_drop]
        exact Own.pick (pre := [_, _, _]) [1, 2, 0] rfl h
    · have e1 : restO (absO false M) n = none := by simp only [restO, absO, Option.bind_some, if_false, Bool.false_eq_true]; rw [if_neg hn]
      have e2 : gotO (absO false M) n = [] := by simp only [gotO, absO, if_false, Bool.false_eq_true]; rw [if_neg hn]
      rw [e1, e2]
      by_cases h0 : n < 0
      · refine J.seq ?_
        refine J.region ?_
        refine JL.pure rfl rfl (OpP.assign rfl) ?_
        refine JL.nil ?_
        refine J.seq ?_
        refine J.seq ?_
        refine J.region ?_
        refine JL.pure rfl rfl (OpP.move rfl) ?_
        refine JL.pure rfl rfl (OpP.nilCheck rfl) ?_
        refine JL.pure rfl rfl (OpP.fieldAddr rfl) ?_
        refine JL.pure rfl rfl (OpP.fieldAddr rfl) ?_
        refine JL.read rfl rfl (OpR.load1 rfl (Cell.row .head rfl)) ?_
        refine JL.pure rfl rfl (OpP.move rfl) ?_
        refine JL.pure rfl rfl (OpP.move rfl) ?_
        refine JL.decT rfl rfl (OpP.lss rfl rfl) (by omega) ?_
        refine JL.pure rfl rfl (OpP.pickF rfl rfl) ?_
        refine JL.pure rfl rfl (OpP.move rfl) ?_
        refine JL.skip rfl rfl ?_
        refine JL.skip rfl rfl ?_
        refine JL.skip rfl rfl ?_
        refine JL.skip rfl rfl ?_
        refine JL.skip rfl rfl ?_
        refine JL.skip rfl rfl ?_
        refine JL.skip rfl rfl ?_
        refine JL.pure rfl rfl (OpP.pickT rfl rfl) ?_
        refine JL.nil ?_
        refine J.condT rfl ?_
        refine J.seq ?_
        refine J.region ?_
        refine JL.pure rfl rfl (OpP.move rfl) ?_
        refine JL.pure rfl rfl (OpP.nilCheck rfl) ?_
        refine JL.pure rfl rfl (OpP.fieldAddr rfl) ?_
        refine JL.step rfl rfl (OpW.call (first := []) (captured := []) inferInstance rfl rfl spoilI_ok) ?_; rintro r27 _ ⟨rfl, rfl⟩
        refine JL.nil ?_
        refine J.seq ?_
        refine J.region ?_
        refine JL.pure rfl rfl (OpP.assign rfl) ?_
        refine JL.nil ?_
        refine J.ret1 rfl rfl ?_
        exact ⟨_, ⟨true, _, M, ⟨none, 0, rfl⟩, hM, rfl, rfl⟩, fun _ h => h.own_nil⟩
      · refine J.seq ?_
        refine J.region ?_
        refine JL.pure rfl rfl (OpP.assign rfl) ?_
        refine JL.nil ?_
        refine J.seq ?_
        refine J.seq ?_
        refine J.region ?_
        refine JL.pure rfl rfl (OpP.move rfl) ?_
        refine JL.pure rfl rfl (OpP.nilCheck rfl) ?_
        refine JL.pure rfl rfl (OpP.fieldAddr rfl) ?_
        refine JL.pure rfl rfl (OpP.fieldAddr rfl) ?_
        refine JL.read rfl rfl (OpR.load1 rfl (Cell.row .head rfl)) ?_
        refine JL.pure rfl rfl (OpP.move rfl) ?_
        refine JL.pure rfl rfl (OpP.move rfl) ?_
        refine JL.decF rfl rfl (OpP.lss rfl rfl) (by omega) ?_
        refine JL.pure rfl rfl (OpP.pickF rfl rfl) ?_
        refine JL.pure rfl rfl (OpP.move rfl) ?_
        refine JL.pure rfl rfl (OpP.move rfl) ?_
        refine JL.pure rfl rfl (OpP.move rfl) ?_
        refine JL.pure rfl rfl (OpP.nilCheck rfl) ?_
        refine JL.pure rfl rfl (OpP.fieldAddr rfl) ?_
        refine JL.read rfl rfl (OpR.load1 rfl (Cell.row .head rfl)) ?_
        refine JL.pure rfl rfl (OpP.len rfl rfl) ?_
        refine JL.decT rfl rfl (OpP.gtr rfl rfl) (by omega) ?_
        refine JL.pure rfl rfl (OpP.pickF rfl rfl) ?_
        refine JL.nil ?_
        refine J.condT rfl ?_
        refine J.seq ?_
        refine J.region ?_
        refine JL.pure rfl rfl (OpP.move rfl) ?_
        refine JL.pure rfl rfl (OpP.nilCheck rfl) ?_
        refine JL.pure rfl rfl (OpP.fieldAddr rfl) ?_
        refine JL.step rfl rfl (OpW.call (first := []) (captured := []) inferInstance rfl rfl spoilI_ok) ?_; rintro r27 _ ⟨rfl, rfl⟩
        refine JL.nil ?_
        refine J.seq ?_
        refine J.region ?_
        refine JL.pure rfl rfl (OpP.assign rfl) ?_
        refine JL.nil ?_
        refine J.ret1 rfl rfl ?_
        exact ⟨_, ⟨true, _, M, ⟨none, 0, rfl⟩, hM, rfl, rfl⟩, fun _ h => h.own_nil⟩
theorem wideI_ok {w0 : World} {F : List HProp} {g size : Nat} {bad : Bool} {v : Value} {M : List UInt8} (hM : M.length ≤ 1000000000) (hs : size ≤ 8) :
    FnO Tryd.prog w0 49 [.pointer (some ⟨g, 0, none⟩), .int .i64 (size : Nat)] (inL g bad v M F) (fun r l' => ∃ bad' v' M', M'.length ≤ 1000000000 ∧ absO bad' M' = restO (absO bad M) (size : Nat) ∧ r = .int .u64 (nat8 (gotO (absO bad M) (size : Nat)) : Nat) ∧ l' = inL g bad' v' M' F) := by
  refine FnO.weak ?_
  refine FnO.intro (n := 23) Tryd.func49 rfl rfl rfl ?_
  refine J.lit (.tail .head) fun av cv ev => ?_; subst ev
  refine J.seq ?_
  refine J.region ?_
  refine JL.pure rfl rfl (OpP.assign rfl) ?_
  refine JL.nil ?_
  refine J.seq ?_
  refine J.region ?_
  refine JL.pure rfl rfl (OpP.assign rfl) ?_
  refine JL.nil ?_
  refine J.seq ?_
  refine J.seq ?_
  refine J.region ?_
  refine JL.pure rfl rfl (OpP.move rfl) ?_
  refine JL.pure rfl rfl (OpP.move rfl) ?_
  refine JL.step rfl rfl (OpW.call (first := []) (captured := []) inferInstance rfl rfl (raw_ok hM)) ?_; rintro r10 _ ⟨bad', ⟨v', ⟨M', ⟨⟨a, ⟨c, rfl⟩⟩, ⟨h10, ⟨h101, rfl⟩⟩⟩⟩⟩⟩
  refine JL.lit (.tail (.tail .head)) fun av' cv' ev' => ?_; subst ev'
  refine JL.pure rfl rfl (OpP.len rfl rfl) ?_
  refine JL.pure rfl rfl (OpP.move rfl) ?_
  refine JL.nil ?_
  refine J.block ?_
  have hG : (gotO (absO bad M) (size : Nat)).length ≤ 8 := by
    unfold gotO
    split
    · exact Nat.zero_le _
    · split
      · rw [List.length_take]; omega
      · exact Nat.zero_le _
  generalize gotO (absO bad M) (size : Nat) = G at hG
  refine J.loopI (fun i : Nat => G.length - i) (fun i => i ≤ G.length) (fun i => [(12, .int .i64 (i : Nat)), (11, .int .i64 (G.length : Nat)), (10, .slice a G.length c), (5, .int .u64 (nat8 (G.take i) : Nat))])
    (fun _ => own 5 1 (.slice a G.length c) G.length (bcells G) :: inL g bad' (.slice av' M'.length cv') M' F) 0 (Nat.zero_le _) (by repeat (first | exact SubEnv.nil | refine SubEnv.cons (by first | rfl | exact congrArg (fun z => some (Value.int .i64 z)) (by omega) | (simp; done)) ?_)) (fun _ h => h) (fun i hi back => ?_)
  dsimp only at hi back ⊢
  by_cases hlt : i < G.length
  · obtain ⟨x, hx⟩ : ∃ x, G[i]? = some x := ⟨_, List.getElem?_eq_getElem hlt⟩
    have hbi : (bcells G)[i]? = some (u8c x) := by rw [bcells_get, hx]; rfl
    have hxb := x.toNat_lt
    have hnl := nat8_lt (G.take i)
    rw [List.length_take, Nat.min_eq_left hi] at hnl
    have hn7 : nat8 (G.take i) < 72057594037927936 := Nat.lt_of_lt_of_le hnl (by rw [show (72057594037927936 : Nat) = 256 ^ 7 from rfl]; exact Nat.pow_le_pow_right (by omega) (by omega))
    have hsn := nat8_snoc (G.take i) x
    rw [show G.take i ++ [x] = G.take (i + 1) by rw [List.take_add_one, hx]; rfl] at hsn
    generalize nat8 (G.take i) = N at hn7 hsn
    refine J.seq ?_
    refine J.region ?_
    refine JL.decT rfl rfl (OpP.lss rfl rfl) (by omega) ?_
    refine JL.nil ?_
    refine J.seq ?_
    refine J.condT rfl ?_
    refine J.skip ?_
    refine J.seq ?_
    refine J.block ?_
    refine J.seq ?_
    refine J.region ?_
    refine JL.ownSome .head (by omega) fun ga pa ea ka => ?_; subst ea
    refine JL.pure rfl rfl (OpP.indexAddr rfl rfl (by omega) (by omega)) ?_
    refine JL.read rfl rfl (OpR.load1 rfl (by apply Cells.cell (hv := hbi) (Cells.own .head) (fun _ h => h); omega)) ?_
    refine JL.pure rfl rfl (OpP.assign rfl) ?_
    refine JL.nil ?_
    refine J.region ?_
    refine JL.pure rfl rfl (OpP.move rfl) ?_
    refine JL.pure rfl rfl (OpP.shl8 rfl rfl (by omega)) ?_
    refine JL.pure rfl rfl (OpP.move rfl) ?_
    refine JL.pure rfl rfl (OpP.convI rfl (by simp [IntKind.min, IntKind.max, IntKind.signed, IntKind.bits] <;> omega) (by simp [IntKind.min, IntKind.max, IntKind.signed, IntKind.bits] <;> omega)) ?_
    refine JL.pure rfl rfl (OpP.or8 rfl rfl (by omega) (by omega)) ?_
    refine JL.pure rfl rfl (OpP.assign rfl) ?_
    refine JL.nil ?_
    refine J.inBlock ?_
    refine J.region ?_
    refine JL.pure rfl rfl (OpP.addI rfl rfl (by omega) (by omega)) ?_
    refine JL.pure rfl rfl (OpP.move rfl) ?_
    refine JL.nil ?_
    rw [← hsn]
    exact back (i + 1) (by omega) (by omega) (by repeat (first | exact SubEnv.nil | refine SubEnv.cons (by first | rfl | exact congrArg (fun z => some (Value.int .i64 z)) (by omega) | (simp; done)) ?_)) (fun _ h => h)
  · have : i = G.length := by omega
    subst this
    rw [List.take_length]
    refine J.seq ?_
    refine J.region ?_
    refine JL.decF rfl rfl (OpP.lss rfl rfl) (by omega) ?_
    refine JL.nil ?_
    refine J.seq ?_
    refine J.condF rfl ?_
    refine J.exit rfl ?_
    refine J.seq ?_
    refine J.region ?_
    refine JL.pure rfl rfl (OpP.move rfl) ?_
    refine JL.pure rfl rfl (OpP.assign rfl) ?_
    refine JL.nil ?_
    refine J.ret1 rfl rfl ?_
    exact ⟨_, ⟨bad', _, M', h10, h101, rfl, rfl⟩, fun _ h => h.tail⟩
end Go.Proofs.F

-- seat f
namespace Go.Proofs.F
open Go Go.Gp Go.RowKit

/-- What a function that reads does: the rest, and what is told. -/
abbrev Took (w0 : World) (f : FuncId) (args : List Value) (g : Nat) (bad : Bool) (v : Value) (M : List UInt8) (F : List HProp) (o : Option (List UInt8)) (u : Value) : Prop :=
  FnO Tryd.prog w0 f args (inL g bad v M F) (fun r l' => ∃ bad' v' M', M'.length ≤ 1000000000 ∧ absO bad' M' = o ∧ r = u ∧ l' = inL g bad' v' M' F)
def numI (o : Option (List UInt8)) (size : Nat) : Nat := nat8 (gotO o (size : Nat))
theorem gotO_le {o : Option (List UInt8)} {n : Nat} : (gotO o (n : Nat)).length ≤ n := by
  unfold gotO
  split
  · exact Nat.zero_le _
  · split
    · rw [List.length_take]; omega
    · exact Nat.zero_le _
theorem numI_lt {o : Option (List UInt8)} {n : Nat} : numI o n < 256 ^ n := Nat.lt_of_lt_of_le (nat8_lt _) (Nat.pow_le_pow_right (by omega) gotO_le)
theorem wide1_ok {w0 : World} {F : List HProp} {g : Nat} {bad : Bool} {v : Value} {M : List UInt8} (hM : M.length ≤ 1000000000) : Took w0 49 [.pointer (some ⟨g, 0, none⟩), .int .i64 1] g bad v M F (restO (absO bad M) 1) (.int .u64 (numI (absO bad M) 1 : Nat)) := wideI_ok (size := 1) hM (by omega)
theorem wide2_ok {w0 : World} {F : List HProp} {g : Nat} {bad : Bool} {v : Value} {M : List UInt8} (hM : M.length ≤ 1000000000) : Took w0 49 [.pointer (some ⟨g, 0, none⟩), .int .i64 2] g bad v M F (restO (absO bad M) 2) (.int .u64 (numI (absO bad M) 2 : Nat)) := wideI_ok (size := 2) hM (by omega)
theorem wide4_ok {w0 : World} {F : List HProp} {g : Nat} {bad : Bool} {v : Value} {M : List UInt8} (hM : M.length ≤ 1000000000) : Took w0 49 [.pointer (some ⟨g, 0, none⟩), .int .i64 4] g bad v M F (restO (absO bad M) 4) (.int .u64 (numI (absO bad M) 4 : Nat)) := wideI_ok (size := 4) hM (by omega)
theorem inU8_ok {w0 : World} {F : List HProp} {g : Nat} {bad : Bool} {v : Value} {M : List UInt8} (hM : M.length ≤ 1000000000) : Took w0 50 [.pointer (some ⟨g, 0, none⟩)] g bad v M F (restO (absO bad M) 1) (.int .i64 (numI (absO bad M) 1 : Nat)) := by
  have hb : numI (absO bad M) 1 < 256 := numI_lt
  refine FnO.intro (n := 6) Tryd.func50 rfl rfl rfl ?_
  refine J.lit (.tail .head) fun av cv ev => ?_; subst ev
  refine J.seq ?_
  refine J.region ?_
  refine JL.pure rfl rfl (OpP.assign rfl) ?_
  refine JL.nil ?_
  refine J.seq ?_
  refine J.region ?_
  refine JL.pure rfl rfl (OpP.move rfl) ?_
  refine JL.step rfl rfl (OpW.call (first := []) (captured := []) inferInstance rfl rfl (wide1_ok hM)) ?_; rintro r4 _ ⟨bad', ⟨v', ⟨M', ⟨h4, ⟨h41, ⟨rfl, rfl⟩⟩⟩⟩⟩⟩
  refine JL.lit (.tail .head) fun av' cv' ev' => ?_; subst ev'
  refine JL.pure rfl rfl (OpP.convI64 rfl (by omega) (by omega)) ?_
  refine JL.pure rfl rfl (OpP.assign rfl) ?_
  refine JL.nil ?_
  refine J.ret1 rfl rfl ?_
  exact ⟨bad', _, M', h4, h41, rfl, rfl⟩
theorem inU16_ok {w0 : World} {F : List HProp} {g : Nat} {bad : Bool} {v : Value} {M : List UInt8} (hM : M.length ≤ 1000000000) : Took w0 51 [.pointer (some ⟨g, 0, none⟩)] g bad v M F (restO (absO bad M) 2) (.int .i64 (numI (absO bad M) 2 : Nat)) := by
  have hb : numI (absO bad M) 2 < 65536 := numI_lt
  refine FnO.intro (n := 6) Tryd.func51 rfl rfl rfl ?_
  refine J.lit (.tail .head) fun av cv ev => ?_; subst ev
  refine J.seq ?_
  refine J.region ?_
  refine JL.pure rfl rfl (OpP.assign rfl) ?_
  refine JL.nil ?_
  refine J.seq ?_
  refine J.region ?_
  refine JL.pure rfl rfl (OpP.move rfl) ?_
  refine JL.step rfl rfl (OpW.call (first := []) (captured := []) inferInstance rfl rfl (wide2_ok hM)) ?_; rintro r4 _ ⟨bad', ⟨v', ⟨M', ⟨h4, ⟨h41, ⟨rfl, rfl⟩⟩⟩⟩⟩⟩
  refine JL.lit (.tail .head) fun av' cv' ev' => ?_; subst ev'
  refine JL.pure rfl rfl (OpP.convI64 rfl (by omega) (by omega)) ?_
  refine JL.pure rfl rfl (OpP.assign rfl) ?_
  refine JL.nil ?_
  refine J.ret1 rfl rfl ?_
  exact ⟨bad', _, M', h4, h41, rfl, rfl⟩
theorem inU32_ok {w0 : World} {F : List HProp} {g : Nat} {bad : Bool} {v : Value} {M : List UInt8} (hM : M.length ≤ 1000000000) : Took w0 38 [.pointer (some ⟨g, 0, none⟩)] g bad v M F (restO (absO bad M) 4) (.int .i64 (numI (absO bad M) 4 : Nat)) := by
  have hb : numI (absO bad M) 4 < 4294967296 := numI_lt
  refine FnO.intro (n := 6) Tryd.func38 rfl rfl rfl ?_
  refine J.lit (.tail .head) fun av cv ev => ?_; subst ev
  refine J.seq ?_
  refine J.region ?_
  refine JL.pure rfl rfl (OpP.assign rfl) ?_
  refine JL.nil ?_
  refine J.seq ?_
  refine J.region ?_
  refine JL.pure rfl rfl (OpP.move rfl) ?_
  refine JL.step rfl rfl (OpW.call (first := []) (captured := []) inferInstance rfl rfl (wide4_ok hM)) ?_; rintro r4 _ ⟨bad', ⟨v', ⟨M', ⟨h4, ⟨h41, ⟨rfl, rfl⟩⟩⟩⟩⟩⟩
  refine JL.lit (.tail .head) fun av' cv' ev' => ?_; subst ev'
  refine JL.pure rfl rfl (OpP.convI64 rfl (by omega) (by omega)) ?_
  refine JL.pure rfl rfl (OpP.assign rfl) ?_
  refine JL.nil ?_
  refine J.ret1 rfl rfl ?_
  exact ⟨bad', _, M', h4, h41, rfl, rfl⟩
/-! A value that is read, of a kind that is no bag. -/
end Go.Proofs.F

-- seat f
namespace Go.Proofs.F
open Go Go.Gp Go.RowKit

/-! Sectors, and what stands in them. -/
def num (b : Sec) : Nat := nat8 (b.take 4)
def gen (b : Sec) : Nat := nat8 ((b.drop 4).take 4)
def plc (b : Sec) : Nat := nat8 ((b.drop 8).take 1)
def cntP (b : Sec) : Nat := nat8 ((b.drop 9).take 1)
def lenP (b : Sec) : Nat := nat8 ((b.drop 10).take 2)
def body (b : Sec) : List UInt8 := (b.drop 12).take (lenP b)
/-- A part's sector. -/
def secOf (n g p c : Nat) (bs : List UInt8) : Sec := be n 4 ++ (be g 4 ++ (be p 1 ++ (be c 1 ++ (be bs.length 2 ++ (bs ++ List.replicate (52 - bs.length) 0)))))
def Made (b : Sec) : Prop := lenP b ≤ 52 ∧ secOf (num b) (gen b) (plc b) (cntP b) (body b) = b
instance {b : Sec} : Decidable (Made b) := by unfold Made; infer_instance
theorem secOf_len {n g p c : Nat} {bs : List UInt8} (h : bs.length ≤ 52) : (secOf n g p c bs).length = 64 := by
  simp only [secOf, List.length_append, be_length, List.length_replicate]
  omega
section
variable {n g p c : Nat} {bs : List UInt8}
theorem num_sec (h : n < 4294967296) : num (secOf n g p c bs) = n := by
  have e : (secOf n g p c bs).take 4 = be n 4 := by
    rw [secOf, List.take_append_of_le_length (by rw [be_length]; omega), List.take_of_length_le (by rw [be_length]; omega)]
  rw [num, e, nat8_be (by simpa using h)]
theorem drop4 : (secOf n g p c bs).drop 4 = be g 4 ++ (be p 1 ++ (be c 1 ++ (be bs.length 2 ++ (bs ++ List.replicate (52 - bs.length) 0)))) := by
  rw [secOf]
  exact List.drop_left' (be_length 4)
theorem drop8 : (secOf n g p c bs).drop 8 = be p 1 ++ (be c 1 ++ (be bs.length 2 ++ (bs ++ List.replicate (52 - bs.length) 0))) := by
  rw [show 8 = 4 + 4 from rfl, ← List.drop_drop, drop4]
  exact List.drop_left' (be_length 4)
theorem drop9 : (secOf n g p c bs).drop 9 = be c 1 ++ (be bs.length 2 ++ (bs ++ List.replicate (52 - bs.length) 0)) := by
  rw [show 9 = 8 + 1 from rfl, ← List.drop_drop, drop8]
  exact List.drop_left' (be_length 1)
theorem drop10 : (secOf n g p c bs).drop 10 = be bs.length 2 ++ (bs ++ List.replicate (52 - bs.length) 0) := by
  rw [show 10 = 9 + 1 from rfl, ← List.drop_drop, drop9]
  exact List.drop_left' (be_length 1)
theorem drop12 : (secOf n g p c bs).drop 12 = bs ++ List.replicate (52 - bs.length) 0 := by
  rw [show 12 = 10 + 2 from rfl, ← List.drop_drop, drop10]
  exact List.drop_left' (be_length 2)
theorem gen_sec (h : g < 4294967296) : gen (secOf n g p c bs) = g := by
  rw [gen, drop4, List.take_left' (be_length 4), nat8_be (by simpa using h)]
theorem plc_sec (h : p < 256) : plc (secOf n g p c bs) = p := by
  rw [plc, drop8, List.take_left' (be_length 1), nat8_be (by simpa using h)]
theorem cnt_sec (h : c < 256) : cntP (secOf n g p c bs) = c := by
  rw [cntP, drop9, List.take_left' (be_length 1), nat8_be (by simpa using h)]
theorem len_sec (h : bs.length ≤ 52) : lenP (secOf n g p c bs) = bs.length := by
  rw [lenP, drop10, List.take_left' (be_length 2), nat8_be (by omega)]
theorem body_sec (h : bs.length ≤ 52) : body (secOf n g p c bs) = bs := by
  rw [body, len_sec h, drop12, List.take_left]
theorem made_sec (h1 : n < 4294967296) (h2 : g < 4294967296) (h3 : p < 256) (h4 : c < 256) (h : bs.length ≤ 52) : Made (secOf n g p c bs) := by
  refine ⟨by rw [len_sec h]; exact h, ?_⟩
  rw [num_sec h1, gen_sec h2, plc_sec h3, cnt_sec h4, body_sec h]
end
/-- Is a sector the next part of a record? -/
def Fits (n least i : Nat) (s : Sec) : Prop := Made s ∧ num s = n ∧ plc s = i ∧ 1 ≤ cntP s ∧ cntP s ≤ 79 ∧ gen s = least ∧ (i + 1 = cntP s ∨ lenP s = 52)
instance {n least i : Nat} {s : Sec} : Decidable (Fits n least i s) := by unfold Fits; infer_instance
def leastOf (least i : Nat) (s : Sec) : Nat := if i = 0 then max least (gen s) else least
/-- What stands: its bytes, generation, and parts. -/
def standG (n : Nat) : Nat → Nat → List UInt8 → List Sec → Option (List UInt8 × Nat × Nat)
  | _, _, _, [] => none
  | least, i, acc, s :: l => if Fits n (leastOf least i s) i s then (if i + 1 = cntP s then some (acc ++ body s, gen s, cntP s) else standG n (leastOf least i s) (i + 1) (acc ++ body s) l) else none
def standP (n least : Nat) (l : List Sec) : Option (List UInt8 × Nat × Nat) := standG n least 0 [] l
/-- What a record that stands shows. -/
theorem standG_each {n : Nat} : ∀ {l : List Sec} {least i : Nat} {acc x : List UInt8} {g c : Nat}, standG n least i acc l = some (x, g, c) →
    i < c ∧ c ≤ 79 ∧ c - i ≤ l.length ∧ (0 < i → g = least) ∧ (i = 0 → least ≤ g) ∧ ∀ j, i + j < c → ∃ s, l[j]? = some s ∧ num s = n ∧ gen s = g ∧ plc s = i + j ∧ (i + j + 1 = c → cntP s = c)
  | [], _, _, _, _, _, _, h => by cases h
  | s :: l, least, i, acc, x, g, c, h => by
    rw [standG] at h
    split at h
    · rename_i hf
      obtain ⟨f1, f2, f3, f4, f5, f6, f7⟩ := hf
      split at h
      · rename_i hc
        injection h with h
        injection h with h1 h
        injection h with h2 h3
        subst h2 h3
        refine ⟨by omega, f5, by simp; omega, fun h0 => by rw [f6, leastOf, if_neg (by omega)], fun h0 => by rw [f6, leastOf, if_pos h0]; omega, fun j hj => ?_⟩
        obtain rfl : j = 0 := by omega
        exact ⟨s, rfl, f2, rfl, f3, fun _ => rfl⟩
      · rename_i hc
        obtain ⟨q1, q2, q3, q4, q5, q6⟩ := standG_each h
        have hg : g = leastOf least i s := q4 (by omega)
        refine ⟨by omega, q2, by simp; omega, fun h0 => by rw [hg, leastOf, if_neg (by omega)], fun h0 => by rw [hg, leastOf, if_pos h0]; omega, fun j hj => ?_⟩
        cases j with
        | zero => exact ⟨s, rfl, f2, by rw [f6, hg], f3, fun h0 => by omega⟩
        | succ j =>
          obtain ⟨t, t1, t2, t3, t4, t5⟩ := q6 j (by omega)
          exact ⟨t, t1, t2, t3, by omega, fun h0 => t5 (by omega)⟩
    · cases h
theorem standP_none_of {n : Nat} {l : List Sec} {least : Nat} (h : ∀ s, l[0]? = some s → num s ≠ n) : standP n least l = none := by
  cases e : standP n least l with
  | none => rfl
  | some v =>
    obtain ⟨x, g, c⟩ := v
    have h1 := standG_each e
    obtain ⟨s, s1, s2, _⟩ := h1.2.2.2.2.2 0 (by omega)
    exact absurd s2 (h s s1)
/-- A record's parts. -/
def cutF : Nat → List UInt8 → List (List UInt8)
  | 0, r => [r]
  | f + 1, r => if 52 < r.length then r.take 52 :: cutF f (r.drop 52) else [r]
def cut (r : List UInt8) : List (List UInt8) := cutF r.length r
theorem cutF_eq : ∀ (f : Nat) (r : List UInt8), r.length ≤ f → cutF f r = cut r := by
  have key : ∀ (f k : Nat) (r : List UInt8), r.length ≤ f → r.length ≤ k → cutF f r = cutF k r := by
    intro f
    induction f with
    | zero =>
      intro k r h1 _
      have : ¬ 52 < r.length := by omega
      cases k with
      | zero => rfl
      | succ k => rw [cutF, cutF, if_neg this]
    | succ f ih =>
      intro k r h1 h2
      by_cases h : 52 < r.length
      · cases k with
        | zero => omega
        | succ k =>
          rw [cutF, cutF, if_pos h, if_pos h, ih k _ (by rw [List.length_drop]; omega) (by rw [List.length_drop]; omega)]
      · cases k with
        | zero => rw [cutF, cutF, if_neg h]
        | succ k => rw [cutF, cutF, if_neg h, if_neg h]
  exact fun f r h => key _ _ _ h (Nat.le_refl _)
theorem cut_long {r : List UInt8} (h : 52 < r.length) : cut r = r.take 52 :: cut (r.drop 52) := by
  obtain ⟨k, hk⟩ : ∃ k, r.length = k + 1 := ⟨r.length - 1, by omega⟩
  rw [cut, hk, cutF, if_pos h, cutF_eq _ _ (by rw [List.length_drop]; omega)]
theorem cut_short {r : List UInt8} (h : ¬ 52 < r.length) : cut r = [r] := by
  rw [cut]
  cases hk : r.length with
  | zero => rfl
  | succ k => rw [cutF, if_neg h]
theorem cut_count (r : List UInt8) : (cut r).length = max ((r.length + 51) / 52) 1 := by
  have key : ∀ (f : Nat) (r : List UInt8), r.length ≤ f → (cut r).length = max ((r.length + 51) / 52) 1 := by
    intro f
    induction f with
    | zero =>
      intro r h
      rw [cut_short (by omega)]
      simp; omega
    | succ f ih =>
      intro r h
      by_cases h2 : 52 < r.length
      · rw [cut_long h2, List.length_cons, ih _ (by rw [List.length_drop]; omega), List.length_drop]
        omega
      · rw [cut_short h2]
        simp; omega
  exact key _ r (Nat.le_refl _)
theorem cut_pos (r : List UInt8) : 1 ≤ (cut r).length := by rw [cut_count]; omega
theorem cut_79 {r : List UInt8} (h : r.length ≤ 4096) : (cut r).length ≤ 79 := by rw [cut_count]; omega
theorem cut_part {r : List UInt8} : ∀ b ∈ cut r, b.length ≤ 52 := by
  have key : ∀ (f : Nat) (r : List UInt8), r.length ≤ f → ∀ b ∈ cut r, b.length ≤ 52 := by
    intro f
    induction f with
    | zero =>
      intro r h b hb
      rw [cut_short (by omega)] at hb
      rw [List.mem_singleton.1 hb]; omega
    | succ f ih =>
      intro r h b hb
      by_cases h2 : 52 < r.length
      · rw [cut_long h2] at hb
        rcases List.mem_cons.1 hb with rfl | hb
        · rw [List.length_take]; omega
        · exact ih _ (by rw [List.length_drop]; omega) b hb
      · rw [cut_short h2] at hb
        rw [List.mem_singleton.1 hb]; omega
  exact key _ r (Nat.le_refl _)
/-- The sectors of parts, from a place on. -/
def secsFrom (n g c : Nat) : Nat → List (List UInt8) → List Sec
  | _, [] => []
  | i, b :: l => secOf n g i c b :: secsFrom n g c (i + 1) l
def secsOf (n g : Nat) (r : List UInt8) : List Sec := secsFrom n g (cut r).length 0 (cut r)
theorem secsFrom_len (n g c : Nat) : ∀ (i : Nat) (l : List (List UInt8)), (secsFrom n g c i l).length = l.length
  | _, [] => rfl
  | i, b :: l => by rw [secsFrom, List.length_cons, secsFrom_len n g c (i + 1) l, List.length_cons]
theorem secsOf_len (n g : Nat) (r : List UInt8) : (secsOf n g r).length = (cut r).length := secsFrom_len _ _ _ _ _
theorem secsFrom_get {n g c : Nat} : ∀ {i j : Nat} {l : List (List UInt8)} {b : List UInt8}, l[j]? = some b → (secsFrom n g c i l)[j]? = some (secOf n g (i + j) c b)
  | i, 0, [], _, h => by simp at h
  | i, 0, b' :: l, b, h => by simp at h; subst h; rfl
  | i, j + 1, [], _, h => by simp at h
  | i, j + 1, b' :: l, b, h => by
    rw [secsFrom]
    have := secsFrom_get (n := n) (g := g) (c := c) (i := i + 1) (j := j) (l := l) (b := b) (by simpa using h)
    rw [List.getElem?_cons_succ, this]
    congr 2; omega
/-- The sectors of a record stand. -/
theorem stand_own {n g c : Nat} (hn : n < 4294967296) (hg : g < 4294967296) (hc : c ≤ 79) : ∀ (f : Nat) (r : List UInt8) (least i : Nat) (acc : List UInt8) (T : List Sec), r.length ≤ f → i + (cut r).length = c → (i = 0 → least ≤ g) → (0 < i → least = g) →
    standG n least i acc (secsFrom n g c i (cut r) ++ T) = some (acc ++ r, g, c) := by
  intro f
  induction f with
  | zero =>
    intro r least i acc T h hl h0 h1
    have hr : ¬ 52 < r.length := by omega
    rw [cut_short hr] at hl ⊢
    simp only [List.length_singleton] at hl
    have e : leastOf least i (secOf n g i c r) = g := by
      rw [leastOf, gen_sec hg]; split <;> omega
    have hf : Fits n g i (secOf n g i c r) := ⟨made_sec hn hg (by omega) (by omega) (by omega), num_sec hn, plc_sec (by omega), by rw [cnt_sec (by omega)]; omega, by rw [cnt_sec (by omega)]; omega, gen_sec hg, .inl (by rw [cnt_sec (by omega)]; omega)⟩
    rw [secsFrom, secsFrom, List.cons_append, standG, e, if_pos hf, if_pos (by rw [cnt_sec (by omega)]; omega), body_sec (by omega), gen_sec hg, cnt_sec (by omega)]
  | succ f ih =>
    intro r least i acc T h hl h0 h1
    by_cases hr : 52 < r.length
    · have ht : (r.take 52).length = 52 := by rw [List.length_take]; omega
      rw [cut_long hr] at hl ⊢
      simp only [List.length_cons] at hl
      have hp := cut_pos (r.drop 52)
      have e : leastOf least i (secOf n g i c (r.take 52)) = g := by
        rw [leastOf, gen_sec hg]; split <;> omega
      have hf : Fits n g i (secOf n g i c (r.take 52)) := ⟨made_sec hn hg (by omega) (by omega) (by omega), num_sec hn, plc_sec (by omega), by rw [cnt_sec (by omega)]; omega, by rw [cnt_sec (by omega)]; omega, gen_sec hg, .inr (by rw [len_sec (by omega)]; omega)⟩
      have := ih (r.drop 52) g (i + 1) (acc ++ r.take 52) T (by rw [List.length_drop]; omega) (by omega) (fun h => by omega) (fun _ => rfl)
      rw [secsFrom, List.cons_append, standG, e, if_pos hf, if_neg (by rw [cnt_sec (by omega)]; omega), body_sec (by omega), this, List.append_assoc, List.take_append_drop]
    · rw [cut_short hr] at hl ⊢
      simp only [List.length_singleton] at hl
      have e : leastOf least i (secOf n g i c r) = g := by
        rw [leastOf, gen_sec hg]; split <;> omega
      have hf : Fits n g i (secOf n g i c r) := ⟨made_sec hn hg (by omega) (by omega) (by omega), num_sec hn, plc_sec (by omega), by rw [cnt_sec (by omega)]; omega, by rw [cnt_sec (by omega)]; omega, gen_sec hg, .inl (by rw [cnt_sec (by omega)]; omega)⟩
      rw [secsFrom, secsFrom, List.cons_append, standG, e, if_pos hf, if_pos (by rw [cnt_sec (by omega)]; omega), body_sec (by omega), gen_sec hg, cnt_sec (by omega)]
theorem standP_own {n g least : Nat} {r : List UInt8} {T : List Sec} (hn : n < 4294967296) (hg : g < 4294967296) (hr : r.length ≤ 4096) (hl : least ≤ g) : standP n least (secsOf n g r ++ T) = some (r, g, (cut r).length) := by
  have := stand_own hn hg (cut_79 hr) r.length r least 0 [] T (Nat.le_refl _) (Nat.zero_add _) (fun _ => hl) (fun h => by omega)
  rw [List.nil_append] at this
  exact this
end Go.Proofs.F

-- seat f
namespace Go.Proofs.F
open Go Go.Gp Go.RowKit

abbrev Wr := List (List UInt8 × Nat)
/-- All records that are read. -/
def readGo : Nat → List Sec → Nat → Nat → List (List UInt8 × Nat × Nat)
  | 0, _, _, _ => []
  | f + 1, l, k, least => match standP (k + 1) least l with
    | some (r, g, c) => if 4096 < r.length then [] else (r, g, c) :: readGo f (l.drop c) (k + 1) g
    | none => []
theorem readGo_fuel : ∀ (f f' : Nat) (l : List Sec) (k least : Nat), l.length < f → l.length < f' → readGo f l k least = readGo f' l k least := by
  intro f
  induction f with
  | zero => intro f' l k least h; omega
  | succ f ih =>
    intro f' l k least h h'
    cases f' with
    | zero => omega
    | succ f' =>
      rw [readGo, readGo]
      cases e : standP (k + 1) least l with
      | none => rfl
      | some v =>
        obtain ⟨r, g, c⟩ := v
        have h1 := standG_each e
        dsimp only
        split
        · rfl
        · rw [ih f' _ _ _ (by rw [List.length_drop]; omega) (by rw [List.length_drop]; omega)]
def readAll (l : List Sec) : List (List UInt8 × Nat × Nat) := readGo (l.length + 1) l 0 1
def readFrom (l : List Sec) (k least : Nat) : List (List UInt8 × Nat × Nat) := readGo (l.length + 1) l k least
theorem readFrom_none {l : List Sec} {k least : Nat} (h : standP (k + 1) least l = none) : readFrom l k least = [] := by rw [readFrom, readGo, h]
theorem readFrom_long {l : List Sec} {k least : Nat} {r : List UInt8} {g c : Nat} (h : standP (k + 1) least l = some (r, g, c)) (hr : 4096 < r.length) : readFrom l k least = [] := by
  rw [readFrom, readGo, h]; dsimp only; rw [if_pos hr]
theorem readFrom_some {l : List Sec} {k least : Nat} {r : List UInt8} {g c : Nat} (h : standP (k + 1) least l = some (r, g, c)) (hr : ¬ 4096 < r.length) : readFrom l k least = (r, g, c) :: readFrom (l.drop c) (k + 1) g := by
  have h1 := standG_each h
  rw [readFrom, readGo, h]
  dsimp only
  rw [if_neg hr, readFrom]
  congr 1
  exact readGo_fuel _ _ _ _ _ (by rw [List.length_drop]; omega) (by omega)
def layF : Nat → Wr → List Sec
  | _, [] => []
  | k, w :: W => secsOf (k + 1) w.2 w.1 ++ layF (k + 1) W
def lay (W : Wr) : List Sec := layF 0 W
theorem layF_snoc : ∀ (k : Nat) (W : Wr) (w : List UInt8 × Nat), layF k (W ++ [w]) = layF k W ++ secsOf (k + W.length + 1) w.2 w.1
  | k, [], w => by simp [layF]
  | k, v :: W, w => by
    rw [List.cons_append, layF, layF_snoc (k + 1) W w, layF, List.append_assoc, List.length_cons, show k + 1 + W.length + 1 = k + (W.length + 1) + 1 by omega]
theorem lay_snoc (W : Wr) (w : List UInt8 × Nat) : lay (W ++ [w]) = lay W ++ secsOf (W.length + 1) w.2 w.1 := by
  have := layF_snoc 0 W w
  rw [Nat.zero_add] at this
  exact this
def endG : Nat → Wr → Nat
  | least, [] => least
  | _, w :: W => endG w.2 W
theorem endG_snoc : ∀ (least : Nat) (W : Wr) (w : List UInt8 × Nat), endG least (W ++ [w]) = w.2
  | _, [], _ => rfl
  | _, v :: W, w => by rw [List.cons_append, endG, endG_snoc]
def Mono : Nat → Wr → Nat → Prop
  | least, [], top => least ≤ top
  | least, w :: W, top => least ≤ w.2 ∧ w.1.length ≤ 4096 ∧ Mono w.2 W top
theorem Mono.le : ∀ {least : Nat} {W : Wr} {top : Nat}, Mono least W top → endG least W ≤ top ∧ least ≤ endG least W
  | _, [], _, h => ⟨h, Nat.le_refl _⟩
  | least, w :: W, _, h => by
    have := Mono.le h.2.2
    exact ⟨this.1, by have := h.1; rw [endG]; omega⟩
theorem Mono.up : ∀ {least : Nat} {W : Wr} {top top' : Nat}, Mono least W top → endG least W ≤ top' → Mono least W top'
  | _, [], _, _, _, h => h
  | _, w :: W, _, _, ⟨h1, h2, h3⟩, h => ⟨h1, h2, Mono.up h3 h⟩
theorem Mono.snoc : ∀ {least : Nat} {W : Wr} {top : Nat} {r : List UInt8}, Mono least W top → r.length ≤ 4096 → Mono least (W ++ [(r, top)]) top
  | _, [], _, _, h, hr => ⟨h, hr, Nat.le_refl _⟩
  | _, w :: W, _, _, ⟨h1, h2, h3⟩, hr => ⟨h1, h2, Mono.snoc h3 hr⟩
abbrev told (w : List UInt8 × Nat) : List UInt8 × Nat × Nat := (w.1, w.2, (cut w.1).length)
theorem read_lay {top : Nat} (htop : top < 4294967296) : ∀ (W : Wr) (k least : Nat) (T : List Sec), Mono least W top → k + W.length < 4294967296 →
    readFrom (layF k W ++ T) k least = W.map told ++ readFrom T (k + W.length) (endG least W)
  | [], k, least, T, _, _ => by simp [layF, endG]
  | w :: W, k, least, T, h, hk => by
    obtain ⟨h1, h2, h3⟩ := h
    have h4 := h3.le
    simp only [List.length_cons] at hk
    have hs := standP_own (n := k + 1) (g := w.2) (least := least) (r := w.1) (T := layF (k + 1) W ++ T) (by omega) (by omega) h2 h1
    rw [layF, List.append_assoc, readFrom_some hs (by omega), List.drop_left' (secsOf_len _ _ _), read_lay htop W (k + 1) w.2 T h3 (by omega), List.map_cons, List.cons_append, List.length_cons, endG, show k + 1 + W.length = k + (W.length + 1) by omega]
def maxG (l : List Sec) : Nat := l.foldl (fun m s => max m (gen s)) 0
theorem maxG_snoc (l : List Sec) (s : Sec) : maxG (l ++ [s]) = max (maxG l) (gen s) := by rw [maxG, List.foldl_append]; rfl
theorem maxG_le {l : List Sec} {m : Nat} (h : ∀ s ∈ l, gen s ≤ m) : maxG l ≤ m := by
  have key : ∀ (l : List Sec) (a : Nat), a ≤ m → (∀ s ∈ l, gen s ≤ m) → l.foldl (fun m s => max m (gen s)) a ≤ m := by
    intro l
    induction l with
    | nil => exact fun a ha _ => ha
    | cons s l ih =>
      intro a ha h
      rw [List.foldl_cons]
      exact ih _ (by have := h s (by simp); omega) fun t ht => h t (by simp [ht])
  exact key l 0 (Nat.zero_le _) h
theorem le_maxG {l : List Sec} : ∀ s ∈ l, gen s ≤ maxG l := by
  have mono : ∀ (l : List Sec) (a : Nat), a ≤ l.foldl (fun m s => max m (gen s)) a := by
    intro l
    induction l with
    | nil => exact fun a => Nat.le_refl _
    | cons s l ih =>
      intro a
      rw [List.foldl_cons]
      have := ih (max a (gen s))
      omega
  have key : ∀ (l : List Sec) (a : Nat), ∀ s ∈ l, gen s ≤ l.foldl (fun m s => max m (gen s)) a := by
    intro l
    induction l with
    | nil => intro a s hs; cases hs
    | cons t l ih =>
      intro a s hs
      rw [List.foldl_cons]
      rcases List.mem_cons.1 hs with rfl | hs
      · have := mono l (max a (gen s)); omega
      · exact ih _ s hs
  exact key l 0
/-- A session with a book. -/
structure Sess (W : Wr) (cur : Nat) (T : List Sec) : Prop where
  m : Mono 1 W cur
  b : ∀ s ∈ lay W ++ T, gen s ≤ cur
  n : ∀ s ∈ T, num s ≤ W.length + 1
  c : ∀ s ∈ T, gen s = cur → num s ≤ W.length
  d : standP (W.length + 1) (endG 1 W) T = none
theorem secsFrom_mem {n g c : Nat} : ∀ {i : Nat} {l : List (List UInt8)}, ∀ s ∈ secsFrom n g c i l, ∃ j b, b ∈ l ∧ s = secOf n g j c b
  | _, [], s, h => by cases h
  | i, b :: l, s, h => by
    rw [secsFrom] at h
    rcases List.mem_cons.1 h with rfl | h
    · exact ⟨i, b, by simp, rfl⟩
    · obtain ⟨j, b', h1, h2⟩ := secsFrom_mem s h
      exact ⟨j, b', by simp [h1], h2⟩
theorem secsOf_mem {n g : Nat} {r : List UInt8} (hn : n < 4294967296) (hg : g < 4294967296) (hr : r.length ≤ 4096) {s : Sec} (h : s ∈ secsOf n g r) : num s = n ∧ gen s = g ∧ s.length = 64 ∧ cntP s = (cut r).length := by
  obtain ⟨j, b, hb, rfl⟩ := secsFrom_mem s h
  exact ⟨num_sec hn, gen_sec hg, secOf_len (cut_part b hb), cnt_sec (by have := cut_79 hr; omega)⟩
theorem Sess.append {W : Wr} {cur : Nat} {T : List Sec} {r : List UInt8} (h : Sess W cur T) (hr : r.length ≤ 4096) (hc : cur < 4294967296) (hW : W.length < 4294967290) : Sess (W ++ [(r, cur)]) cur (T.drop (cut r).length) := by
  have hd : ∀ s ∈ T.drop (cut r).length, s ∈ T := fun s hs => List.mem_of_mem_drop hs
  refine ⟨h.m.snoc hr, ?_, ?_, ?_, ?_⟩
  · intro s hs
    rw [lay_snoc] at hs
    rcases List.mem_append.1 hs with hs | hs
    · rcases List.mem_append.1 hs with hs | hs
      · exact h.b s (List.mem_append_left _ hs)
      · rw [(secsOf_mem (by omega) hc hr hs).2.1]
        exact Nat.le_refl _
    · exact h.b s (List.mem_append_right _ (hd s hs))
  · intro s hs
    have := h.n s (hd s hs)
    rw [List.length_append, List.length_singleton]
    omega
  · intro s hs _
    have := h.n s (hd s hs)
    rw [List.length_append, List.length_singleton]
    omega
  · refine standP_none_of fun s hs => ?_
    have := h.n s (hd s (List.mem_of_getElem? hs))
    rw [List.length_append, List.length_singleton]
    omega
theorem Sess.read {W : Wr} {cur : Nat} {T : List Sec} (h : Sess W cur T) (hc : cur < 4294967296) (hW : W.length < 4294967290) : readAll (lay W ++ T) = W.map told := by
  have := read_lay hc W 0 1 T h.m (by omega)
  rw [show readAll (lay W ++ T) = readFrom (layF 0 W ++ T) 0 1 from rfl, this, Nat.zero_add, readFrom_none h.d, List.append_nil]
theorem endG_mem : ∀ {W : Wr} {least : Nat}, W ≠ [] → ∃ w ∈ W, endG least W = w.2
  | [], _, h => absurd rfl h
  | [w], _, _ => ⟨w, by simp, rfl⟩
  | w :: v :: W, _, _ => by
    obtain ⟨x, h1, h2⟩ := endG_mem (W := v :: W) (least := w.2) (by simp)
    exact ⟨x, List.mem_cons_of_mem _ h1, h2⟩
theorem lay_gen : ∀ {k least top : Nat} {W : Wr}, Mono least W top → top < 4294967296 → k + W.length < 4294967290 → ∀ w ∈ W, ∃ s ∈ layF k W, gen s = w.2
  | _, _, _, [], _, _, _, w, hw => by cases hw
  | k, least, top, v :: W, h, ht, hk, w, hw => by
    obtain ⟨h1, h2, h3⟩ := h
    have h4 := h3.le
    simp only [List.length_cons] at hk
    rcases List.mem_cons.1 hw with rfl | hw
    · obtain ⟨b, hb⟩ : ∃ b, (cut w.1)[0]? = some b := ⟨_, List.getElem?_eq_getElem (by have := cut_pos w.1; omega)⟩
      have := secsFrom_get (n := k + 1) (g := w.2) (c := (cut w.1).length) (i := 0) hb
      exact ⟨_, List.mem_append_left _ (List.mem_of_getElem? this), gen_sec (by omega)⟩
    · obtain ⟨s, s1, s2⟩ := lay_gen (k := k + 1) h3 ht (by omega) w hw
      exact ⟨s, List.mem_append_right _ s1, s2⟩
/-- A new session on what a session has left. -/
theorem Sess.fresh {W : Wr} {cur : Nat} {T : List Sec} (hm : Mono 1 W cur) (hc : cur < 4294967296) (hW : W.length < 4294967290) (hn : ∀ s ∈ T, num s ≤ W.length + 1) (hd : standP (W.length + 1) (endG 1 W) T = none) : Sess W (maxG (lay W ++ T) + 1) T := by
  have hb := le_maxG (l := lay W ++ T)
  refine ⟨hm.up ?_, fun s hs => Nat.le_succ_of_le (hb s hs), hn, ?_, hd⟩
  · by_cases hw : W = []
    · subst hw
      exact Nat.succ_le_succ (Nat.zero_le _)
    · obtain ⟨w, w1, w2⟩ := endG_mem (least := 1) hw
      obtain ⟨s, s1, s2⟩ := lay_gen (k := 0) hm hc (by omega) w w1
      have := hb s (List.mem_append_left _ s1)
      omega
  · intro s hs hg
    have := hb s (List.mem_append_right _ hs)
    omega
end Go.Proofs.F

-- seat f
namespace Go.Proofs.F
open Go Go.Gp Go.RowKit

theorem wroteX {w0 : World} {f : FuncId} {args : List Value} {oe g : Nat} {v : Value} {L X : List UInt8} {F : List HProp} (h : Wrote w0 f args oe g false v L F (some X)) :
    FnO Tryd.prog w0 f args (outL oe g false v L F) (fun r l' => r = .tuple #[] ∧ ∃ v', l' = outL oe g false v' X F) :=
  h.mono fun r l' ⟨h1, bad', v', L', h2, h3, h4⟩ => by
    cases bad' with
    | true => simp [absO] at h3
    | false => simp [absO] at h3; subst h3; exact ⟨h1, v', h4⟩
theorem putX {L b : List UInt8} (h : L.length + b.length ≤ 4096) : putO (absO false L) b = some (L ++ b) := by
  simp only [putO, absO, Bool.false_eq_true, if_false, Option.bind_some]
  rw [if_pos h]
theorem u32X {w0 : World} {F : List HProp} {oe g n : Nat} {v : Value} {L : List UInt8} (hn : n < 4294967296) (hL : L.length + 4 ≤ 4096) :
    FnO Tryd.prog w0 55 [.pointer (some ⟨g, 0, none⟩), .int .i64 (n : Nat)] (outL oe g false v L F) (fun r l' => r = .tuple #[] ∧ ∃ v', l' = outL oe g false v' (L ++ be n 4) F) := by
  refine wroteX ?_
  have h := outU32_ok (w0 := w0) (F := F) (oe := oe) (g := g) (n := (n : Nat)) (bad := false) (v := v) (L := L) (by omega)
  rw [smallO_in (by simpa using hn), putX (by rw [be_length]; omega)] at h
  exact h
theorem u8X {w0 : World} {F : List HProp} {oe g n : Nat} {v : Value} {L : List UInt8} (hn : n < 256) (hL : L.length + 1 ≤ 4096) :
    FnO Tryd.prog w0 56 [.pointer (some ⟨g, 0, none⟩), .int .i64 (n : Nat)] (outL oe g false v L F) (fun r l' => r = .tuple #[] ∧ ∃ v', l' = outL oe g false v' (L ++ be n 1) F) := by
  refine wroteX ?_
  have h := outU8_ok (w0 := w0) (F := F) (oe := oe) (g := g) (n := (n : Nat)) (bad := false) (v := v) (L := L) (by omega)
  rw [smallO_in (by simpa using hn), putX (by rw [be_length]; omega)] at h
  exact h
theorem u16X {w0 : World} {F : List HProp} {oe g n : Nat} {v : Value} {L : List UInt8} (hn : n < 65536) (hL : L.length + 2 ≤ 4096) :
    FnO Tryd.prog w0 57 [.pointer (some ⟨g, 0, none⟩), .int .i64 (n : Nat)] (outL oe g false v L F) (fun r l' => r = .tuple #[] ∧ ∃ v', l' = outL oe g false v' (L ++ be n 2) F) := by
  refine wroteX ?_
  have h := outU16_ok (w0 := w0) (F := F) (oe := oe) (g := g) (n := (n : Nat)) (bad := false) (v := v) (L := L) (by omega)
  rw [smallO_in (by simpa using hn), putX (by rw [be_length]; omega)] at h
  exact h
theorem rawX {w0 : World} {F : List HProp} {oe g : Nat} {v u : Value} {L bs : List UInt8} (hL : L.length + bs.length ≤ 4096) (hr : RdO w0 F u bs.length (bcells bs)) :
    FnO Tryd.prog w0 58 [.pointer (some ⟨g, 0, none⟩), u] (outL oe g false v L F) (fun r l' => r = .tuple #[] ∧ ∃ v', l' = outL oe g false v' (L ++ bs) F) := by
  refine wroteX ?_
  have h := outRaw_ok (w0 := w0) (F := F) (oe := oe) (g := g) (bad := false) (v := v) (L := L) (bs := bs) (u := u) (by omega) (by omega) hr
  rw [putX hL] at h
  exact h
abbrev pcl (n g p c : Nat) (v : Value) : List Value := [.int .i64 (n : Nat), .int .i64 (g : Nat), .int .i64 (p : Nat), .int .i64 (c : Nat), v]
theorem bcells_z (m : Nat) : rep m [Value.int .u8 0] = bcells (List.replicate m 0) := by
  rw [bcells_rep, rep, show u8c 0 = Value.int .u8 0 from rfl]
  induction m with
  | zero => rfl
  | succ m ih => rw [List.replicate_succ, List.flatten_cons, ih, List.replicate_succ]; rfl
theorem sector_ok {w0 : World} {F : List HProp} {n g p c : Nat} {v : Value} {bs : List UInt8} (hn : n < 4294967296) (hg : g < 4294967296) (hp : p < 256) (hc : c < 256) (hb : bs.length ≤ 52) (hr : RdO w0 F v bs.length (bcells bs)) :
    FnO Tryd.prog w0 41 [.agg (pcl n g p c v).toArray] F (fun u l' => ∃ a k, u = .slice a 64 k ∧ l' = own 5 1 (.slice a 64 k) 64 (bcells (secOf n g p c bs)) :: F) := by
  refine FnO.rdF (fun _ h => h) hr fun hr1 => ?_
  obtain ⟨va, vc, rfl⟩ := hr1.lit
  have l4 := be_length (n := n) 4
  have m4 := be_length (n := g) 4
  have l1 := be_length (n := p) 1
  have m1 := be_length (n := c) 1
  have l2 := be_length (n := bs.length) 2
  refine FnO.weak ?_
  refine FnO.intro (n := 38) Tryd.func41 rfl rfl rfl ?_
  refine J.seq ?_
  refine J.region ?_
  refine JL.mem rfl rfl (OpM.box rfl rfl) ?_; rintro _ _ ⟨b1, rfl, rfl⟩
  refine JL.pure rfl rfl (OpP.assign rfl) ?_
  refine JL.nil ?_
  refine J.seq ?_
  refine J.region ?_
  refine JL.mem rfl rfl OpM.alloc ?_; rintro _ _ ⟨b3, rfl, rfl⟩
  refine JL.nil ?_
  refine J.conv (l' := outL 105 b3 false (.slice none 0 0) [] (row b1 85 (pcl n g p c (.slice va bs.length vc)) :: F)) (fun _ h => Own.f1 (Own.own_nil h)) ?_
  refine J.seq ?_
  refine J.region ?_
  refine JL.pure rfl rfl (OpP.fieldAddr rfl) ?_
  refine JL.pure rfl rfl (OpP.fieldAddr rfl) ?_
  refine JL.read rfl rfl (OpR.load1 rfl (Cell.row (.tail (.tail .head)) rfl)) ?_
  refine JL.step rfl rfl (OpW.call (first := []) (captured := []) inferInstance rfl rfl (u32X (n := n) (L := []) hn (by simp))) ?_; rintro r9 _ ⟨rfl, ⟨v', rfl⟩⟩
  refine JL.lit (.tail .head) fun av' cv' ev' => ?_; subst ev'
  refine JL.nil ?_
  refine J.seq ?_
  refine J.region ?_
  refine JL.pure rfl rfl (OpP.fieldAddr rfl) ?_
  refine JL.pure rfl rfl (OpP.fieldAddr rfl) ?_
  refine JL.read rfl rfl (OpR.load1 rfl (Cell.row (.tail (.tail .head)) rfl)) ?_
  refine JL.step rfl rfl (OpW.call (first := []) (captured := []) inferInstance rfl rfl (u32X (n := g) (L := [] ++ be n 4) hg (by simp; omega))) ?_; rintro r13 _ ⟨rfl, ⟨v', rfl⟩⟩
  refine JL.lit (.tail .head) fun av' cv' ev' => ?_; subst ev'
  refine JL.nil ?_
  refine J.seq ?_
  refine J.region ?_
  refine JL.pure rfl rfl (OpP.fieldAddr rfl) ?_
  refine JL.pure rfl rfl (OpP.fieldAddr rfl) ?_
  refine JL.read rfl rfl (OpR.load1 rfl (Cell.row (.tail (.tail .head)) rfl)) ?_
  refine JL.step rfl rfl (OpW.call (first := []) (captured := []) inferInstance rfl rfl (u8X (n := p) (L := [] ++ be n 4 ++ be g 4) hp (by simp; omega))) ?_; rintro r17 _ ⟨rfl, ⟨v', rfl⟩⟩
  refine JL.lit (.tail .head) fun av' cv' ev' => ?_; subst ev'
  refine JL.nil ?_
  refine J.seq ?_
  refine J.region ?_
  refine JL.pure rfl rfl (OpP.fieldAddr rfl) ?_
  refine JL.pure rfl rfl (OpP.fieldAddr rfl) ?_
  refine JL.read rfl rfl (OpR.load1 rfl (Cell.row (.tail (.tail .head)) rfl)) ?_
  refine JL.step rfl rfl (OpW.call (first := []) (captured := []) inferInstance rfl rfl (u8X (n := c) (L := [] ++ be n 4 ++ be g 4 ++ be p 1) hc (by simp; omega))) ?_; rintro r21 _ ⟨rfl, ⟨v', rfl⟩⟩
  refine JL.lit (.tail .head) fun av' cv' ev' => ?_; subst ev'
  refine JL.nil ?_
  refine J.seq ?_
  refine J.region ?_
  refine JL.pure rfl rfl (OpP.fieldAddr rfl) ?_
  refine JL.read rfl rfl (OpR.load1 rfl (Cell.row (.tail (.tail .head)) rfl)) ?_
  refine JL.pure rfl rfl (OpP.len rfl rfl) ?_
  refine JL.step rfl rfl (OpW.call (first := []) (captured := []) inferInstance rfl rfl (u16X (n := bs.length) (L := [] ++ be n 4 ++ be g 4 ++ be p 1 ++ be c 1) (by omega) (by simp; omega))) ?_; rintro r25 _ ⟨rfl, ⟨v', rfl⟩⟩
  refine JL.lit (.tail .head) fun av' cv' ev' => ?_; subst ev'
  refine JL.nil ?_
  refine J.seq ?_
  refine J.region ?_
  refine JL.pure rfl rfl (OpP.fieldAddr rfl) ?_
  refine JL.read rfl rfl (OpR.load1 rfl (Cell.row (.tail (.tail .head)) rfl)) ?_
  refine JL.step rfl rfl (OpW.call (first := []) (captured := []) inferInstance rfl rfl (rawX (L := [] ++ be n 4 ++ be g 4 ++ be p 1 ++ be c 1 ++ be bs.length 2) (bs := bs) (by simp; omega) (hr.conv fun _ h => Own.pick (pre := [_]) [] rfl h))) ?_; rintro r28 _ ⟨rfl, ⟨v', rfl⟩⟩
  refine JL.lit (.tail .head) fun av' cv' ev' => ?_; subst ev'
  refine JL.nil ?_
  refine J.seq ?_
  refine J.region ?_
  refine JL.step rfl rfl (OpW.call (first := []) (captured := []) inferInstance rfl rfl (endT (L := [] ++ be n 4 ++ be g 4 ++ be p 1 ++ be c 1 ++ be bs.length 2 ++ bs) (by simp; omega))) ?_; rintro r30 _ ⟨a, ⟨c1, ⟨rfl, rfl⟩⟩⟩
  refine JL.pure rfl rfl (OpP.move rfl) ?_
  refine JL.pure rfl rfl (OpP.extract rfl rfl) ?_
  refine JL.pure rfl rfl (OpP.extract rfl rfl) ?_
  refine JL.pure rfl rfl (OpP.assign rfl) ?_
  refine JL.pure rfl rfl (OpP.assign rfl) ?_
  refine JL.nil ?_
  generalize hM : [] ++ be n 4 ++ be g 4 ++ be p 1 ++ be c 1 ++ be bs.length 2 ++ bs = M
  have hml : M.length = 12 + bs.length := by rw [← hM]; simp; omega
  have hfin : M ++ List.replicate (52 - bs.length) 0 = secOf n g p c bs := by rw [← hM]; simp [secOf]
  refine J.seq ?_
  refine J.region ?_
  refine JL.pure rfl rfl (OpP.move rfl) ?_
  refine JL.pure rfl rfl (OpP.move rfl) ?_
  refine JL.pure rfl rfl (OpP.len rfl rfl) ?_
  refine JL.pure rfl rfl (OpP.subI rfl rfl (by omega) (by omega)) ?_
  rw [show ((64 : Int) - (M.length : Nat)) = ((52 - bs.length : Nat) : Int) by omega]
  refine JL.mem rfl rfl (OpM.appendZH rfl ⟨.i64, by kernel_rfl⟩ (by rfl) (by decide) (one1 rfl) rfl rfl (by simp only [maxLen]; omega) (by omega)) ?_; rintro _ _ ⟨⟨a2, k2, rfl⟩, rfl⟩
  rw [show M.length + (52 - bs.length) = 64 by omega, bcells_z, show bcells M ++ bcells (List.replicate (52 - bs.length) 0) = bcells (M ++ List.replicate (52 - bs.length) 0) from List.map_append.symm, hfin]
  refine JL.pure rfl rfl (OpP.assign rfl) ?_
  refine JL.nil ?_
  refine J.ret1 rfl rfl ?_
  exact ⟨_, ⟨a2, k2, rfl, rfl⟩, fun _ h => Own.pick (pre := [_, _, _, _]) [0] rfl h⟩
end Go.Proofs.F

-- seat f
namespace Go.Proofs.F
open Go Go.Gp Go.RowKit

theorem Equal_ok {w0 : World} {F : List HProp} {v1 v2 : Value} {l1 l2 : List UInt8} (h1 : RdO w0 F v1 l1.length (bcells l1)) (h2 : RdO w0 F v2 l2.length (bcells l2)) :
    FnO Tryd.prog w0 53 [v1, v2] F (fun r l' => r = .bool (decide (l1 = l2)) ∧ l' = F) := by
  refine FnO.rdF (fun _ h => h) h1 fun hr1 => ?_
  obtain ⟨a1, c1, rfl⟩ := hr1.lit
  refine FnO.rdF (fun _ h => h) h2 fun hr2 => ?_
  obtain ⟨a2, c2, rfl⟩ := hr2.lit
  refine FnO.intro (n := 10) Tryd.func53 rfl rfl rfl ?_
  refine J.seq ?_
  refine J.region ?_
  refine JL.pure rfl rfl (OpP.assign rfl) ?_
  refine JL.nil ?_
  refine J.seq ?_
  refine J.region ?_
  refine JL.pure rfl rfl (OpP.move rfl) ?_
  refine JL.read rfl rfl (OpR.rdStr (by rfl) h1 (by rfl)) ?_
  refine JL.pure rfl rfl (OpP.move rfl) ?_
  refine JL.read rfl rfl (OpR.rdStr (by rfl) h2 (by rfl)) ?_
  refine JL.dec rfl rfl (OpP.eqStr rfl rfl) (fun h9 => ?_) (fun h9 => ?_)
  focus
    refine JL.pure rfl rfl (OpP.assign rfl) ?_
    refine JL.nil ?_
    refine J.ret1 rfl rfl ?_
  rotate_left 1
  focus
    refine JL.pure rfl rfl (OpP.assign rfl) ?_
    refine JL.nil ?_
    refine J.ret1 rfl rfl ?_
  rotate_left 1
  · exact ⟨congrArg Value.bool (decide_eq_true (strB_inj.1 h9)).symm, rfl⟩
  · exact ⟨congrArg Value.bool (decide_eq_false fun e => h9 (strB_inj.2 e)).symm, rfl⟩
end Go.Proofs.F

-- seat f
namespace Go.Proofs.F
open Go Go.Gp Go.RowKit

theorem tookX {w0 : World} {f : FuncId} {args : List Value} {g : Nat} {v : Value} {M X : List UInt8} {F : List HProp} {u : Value} (h : Took w0 f args g false v M F (some X) u) :
    FnO Tryd.prog w0 f args (inL g false v M F) (fun r l' => r = u ∧ ∃ v', l' = inL g false v' X F) :=
  h.mono fun r l' h => by
    obtain ⟨bad', v', M', h2, h3, h1, h4⟩ := h
    cases bad' with
    | true => simp [absO] at h3
    | false => simp [absO] at h3; subst h3; exact ⟨h1, v', h4⟩
theorem restX {M : List UInt8} {k : Nat} (h : k ≤ M.length) : restO (absO false M) (k : Nat) = some (M.drop k) := by
  simp only [restO, absO, Bool.false_eq_true, if_false, Option.bind_some]
  rw [if_pos (by omega)]
  rfl
theorem gotX {M : List UInt8} {k : Nat} (h : k ≤ M.length) : gotO (absO false M) (k : Nat) = M.take k := by
  simp only [gotO, absO, Bool.false_eq_true, if_false]
  rw [if_pos (by omega)]
  rfl
theorem u32I {w0 : World} {F : List HProp} {g : Nat} {v : Value} {M : List UInt8} (hM : M.length ≤ 1000000000) (h : 4 ≤ M.length) :
    FnO Tryd.prog w0 38 [.pointer (some ⟨g, 0, none⟩)] (inL g false v M F) (fun r l' => r = .int .i64 (nat8 (M.take 4) : Nat) ∧ ∃ v', l' = inL g false v' (M.drop 4) F) := by
  refine tookX ?_
  have := inU32_ok (w0 := w0) (F := F) (g := g) (bad := false) (v := v) hM
  have e1 := restX (M := M) (k := 4) h
  have e2 := gotX (M := M) (k := 4) h
  rw [numI, show ((4 : Nat) : Int) = 4 from rfl] at this
  rw [show ((4 : Nat) : Int) = 4 from rfl] at e1 e2
  rw [e1, e2] at this
  exact this
theorem u8I {w0 : World} {F : List HProp} {g : Nat} {v : Value} {M : List UInt8} (hM : M.length ≤ 1000000000) (h : 1 ≤ M.length) :
    FnO Tryd.prog w0 50 [.pointer (some ⟨g, 0, none⟩)] (inL g false v M F) (fun r l' => r = .int .i64 (nat8 (M.take 1) : Nat) ∧ ∃ v', l' = inL g false v' (M.drop 1) F) := by
  refine tookX ?_
  have := inU8_ok (w0 := w0) (F := F) (g := g) (bad := false) (v := v) hM
  have e1 := restX (M := M) (k := 1) h
  have e2 := gotX (M := M) (k := 1) h
  rw [numI, show ((1 : Nat) : Int) = 1 from rfl] at this
  rw [show ((1 : Nat) : Int) = 1 from rfl] at e1 e2
  rw [e1, e2] at this
  exact this
theorem u16I {w0 : World} {F : List HProp} {g : Nat} {v : Value} {M : List UInt8} (hM : M.length ≤ 1000000000) (h : 2 ≤ M.length) :
    FnO Tryd.prog w0 51 [.pointer (some ⟨g, 0, none⟩)] (inL g false v M F) (fun r l' => r = .int .i64 (nat8 (M.take 2) : Nat) ∧ ∃ v', l' = inL g false v' (M.drop 2) F) := by
  refine tookX ?_
  have := inU16_ok (w0 := w0) (F := F) (g := g) (bad := false) (v := v) hM
  have e1 := restX (M := M) (k := 2) h
  have e2 := gotX (M := M) (k := 2) h
  rw [numI, show ((2 : Nat) : Int) = 2 from rfl] at this
  rw [show ((2 : Nat) : Int) = 2 from rfl] at e1 e2
  rw [e1, e2] at this
  exact this
theorem rawI {w0 : World} {F : List HProp} {g k : Nat} {v : Value} {M : List UInt8} (hM : M.length ≤ 1000000000) (h : k ≤ M.length) :
    FnO Tryd.prog w0 52 [.pointer (some ⟨g, 0, none⟩), .int .i64 (k : Nat)] (inL g false v M F) (fun r l' => ∃ a c, r = .slice a (M.take k).length c ∧ ∃ v', l' = own 5 1 (.slice a (M.take k).length c) (M.take k).length (bcells (M.take k)) :: inL g false v' (M.drop k) F) := by
  refine (raw_ok (n := (k : Nat)) (bad := false) hM).mono fun r l' h2 => ?_
  rw [gotX h, restX h] at h2
  obtain ⟨bad', v', M', ⟨a, c, h1⟩, h3, h4, h5⟩ := h2
  cases bad' with
  | true => simp [absO] at h4
  | false =>
    simp [absO] at h4
    subst h4 h1
    exact ⟨a, c, rfl, v', h5⟩
theorem nat_lt4 (b : List UInt8) : nat8 (b.take 4) < 4294967296 := Nat.lt_of_lt_of_le (nat8_lt _) (by rw [show (4294967296 : Nat) = 256 ^ 4 from rfl]; exact Nat.pow_le_pow_right (by omega) (by rw [List.length_take]; omega))
theorem nat_lt1 (b : List UInt8) : nat8 (b.take 1) < 256 := Nat.lt_of_lt_of_le (nat8_lt _) (by rw [show (256 : Nat) = 256 ^ 1 from rfl]; exact Nat.pow_le_pow_right (by omega) (by rw [List.length_take]; omega))
theorem equal64 {w0 : World} {F : List HProp} {v1 v2 : Value} {l1 l2 : List UInt8} (h64 : l1.length = 64) (h1 : RdO w0 F v1 64 (bcells l1)) (h2 : RdO w0 F v2 l2.length (bcells l2)) :
    FnO Tryd.prog w0 53 [v1, v2] F (fun r l' => r = .bool (decide (l1 = l2)) ∧ l' = F) := Equal_ok (by rw [h64]; exact h1) h2
theorem bread_ok {w0 : World} {F : List HProp} {v : Value} {b : List UInt8} (hb : b.length = 64) (hr : RdO w0 F v 64 (bcells b)) :
    FnO Tryd.prog w0 39 [v] F (fun u l' => (52 < lenP b ∧ u = .tuple #[.agg (pcl 0 0 0 0 (.slice none 0 0)).toArray, .bool false] ∧ l' = F) ∨
      (lenP b ≤ 52 ∧ ∃ a c, u = .tuple #[.agg (pcl (num b) (gen b) (plc b) (cntP b) (.slice a (body b).length c)).toArray, .bool (decide (Made b))] ∧ l' = own 5 1 (.slice a (body b).length c) (body b).length (bcells (body b)) :: F)) := by
  rw [← hb] at hr
  refine FnO.rdF (fun _ h => h) hr fun hr1 => ?_
  obtain ⟨va, vc, rfl⟩ := hr1.lit
  have e8 : (b.drop 4).drop 4 = b.drop 8 := by rw [List.drop_drop]
  have e9 : (b.drop 8).drop 1 = b.drop 9 := by rw [List.drop_drop]
  have e10 : (b.drop 9).drop 1 = b.drop 10 := by rw [List.drop_drop]
  have e12 : (b.drop 10).drop 2 = b.drop 12 := by rw [List.drop_drop]
  have f1 := fun (g : Nat) (v : Value) (G : List HProp) => u32I (w0 := w0) (F := G) (g := g) (v := v) (M := b) (by omega) (by omega)
  have f2 := fun (g : Nat) (v : Value) (G : List HProp) => u32I (w0 := w0) (F := G) (g := g) (v := v) (M := b.drop 4) (by rw [List.length_drop]; omega) (by rw [List.length_drop]; omega)
  have f3 := fun (g : Nat) (v : Value) (G : List HProp) => u8I (w0 := w0) (F := G) (g := g) (v := v) (M := b.drop 8) (by rw [List.length_drop]; omega) (by rw [List.length_drop]; omega)
  have f4 := fun (g : Nat) (v : Value) (G : List HProp) => u8I (w0 := w0) (F := G) (g := g) (v := v) (M := b.drop 9) (by rw [List.length_drop]; omega) (by rw [List.length_drop]; omega)
  have f5 := fun (g : Nat) (v : Value) (G : List HProp) => u16I (w0 := w0) (F := G) (g := g) (v := v) (M := b.drop 10) (by rw [List.length_drop]; omega) (by rw [List.length_drop]; omega)
  rw [e8] at f2
  rw [e9] at f3
  rw [e10] at f4
  rw [e12] at f5
  have n1 : num b < 4294967296 := nat_lt4 _
  have n2 : gen b < 4294967296 := nat_lt4 _
  have n3 : plc b < 256 := nat_lt1 _
  have n4 : cntP b < 256 := nat_lt1 _
  rw [show nat8 (b.take 4) = num b from rfl] at f1
  rw [show nat8 ((b.drop 4).take 4) = gen b from rfl] at f2
  rw [show nat8 ((b.drop 8).take 1) = plc b from rfl] at f3
  rw [show nat8 ((b.drop 9).take 1) = cntP b from rfl] at f4
  rw [show nat8 ((b.drop 10).take 2) = lenP b from rfl] at f5
  refine FnO.weak ?_
  refine FnO.intro (n := 33) Tryd.func39 rfl rfl rfl ?_
  refine J.seq ?_
  refine J.region ?_
  refine JL.mem rfl rfl OpM.alloc ?_; rintro _ _ ⟨b2, rfl, rfl⟩
  refine JL.pure rfl rfl (OpP.assign rfl) ?_
  refine JL.nil ?_
  refine J.seq ?_
  refine J.region ?_
  refine JL.pure rfl rfl (OpP.move rfl) ?_
  refine JL.step rfl rfl (OpW.call (first := []) (captured := []) inferInstance rfl rfl (read_ok (l := b) (by omega) (hr.conv fun _ h => Own.pick (pre := [_]) [] rfl h))) ?_; rintro r8 _ ⟨g, ⟨v', ⟨rfl, rfl⟩⟩⟩
  refine JL.lit (.tail .head) fun av' cv' ev' => ?_; subst ev'
  refine JL.pure rfl rfl (OpP.assign rfl) ?_
  refine JL.nil ?_
  refine J.seq ?_
  refine J.region ?_
  refine JL.pure rfl rfl (OpP.move rfl) ?_
  refine JL.step rfl rfl (OpW.call (first := []) (captured := []) inferInstance rfl rfl (f1 _ _ _)) ?_; rintro r10 _ ⟨rfl, ⟨v', rfl⟩⟩
  refine JL.lit (.tail .head) fun av' cv' ev' => ?_; subst ev'
  refine JL.pure rfl rfl (OpP.move rfl) ?_
  refine JL.step rfl rfl (OpW.call (first := []) (captured := []) inferInstance rfl rfl (f2 _ _ _)) ?_; rintro r12 _ ⟨rfl, ⟨v', rfl⟩⟩
  refine JL.lit (.tail .head) fun av' cv' ev' => ?_; subst ev'
  refine JL.pure rfl rfl (OpP.move rfl) ?_
  refine JL.step rfl rfl (OpW.call (first := []) (captured := []) inferInstance rfl rfl (f3 _ _ _)) ?_; rintro r14 _ ⟨rfl, ⟨v', rfl⟩⟩
  refine JL.lit (.tail .head) fun av' cv' ev' => ?_; subst ev'
  refine JL.pure rfl rfl (OpP.move rfl) ?_
  refine JL.step rfl rfl (OpW.call (first := []) (captured := []) inferInstance rfl rfl (f4 _ _ _)) ?_; rintro r16 _ ⟨rfl, ⟨v', rfl⟩⟩
  refine JL.lit (.tail .head) fun av' cv' ev' => ?_; subst ev'
  refine JL.pure rfl rfl (OpP.build rfl (by (repeat (first | exact Fills.nil | (apply Fills.cons rfl rfl rfl; (case' hs => ((repeat (first | exact Spl.nil | apply Spl.here | apply Spl.there)); done))))))) ?_
  refine JL.pure rfl rfl (OpP.build rfl (by (repeat (first | exact Fills.nil | (apply Fills.cons rfl rfl rfl; (case' hs => ((repeat (first | exact Spl.nil | apply Spl.here | apply Spl.there)); done))))))) ?_
  refine JL.mem rfl rfl OpM.alloc ?_; rintro _ _ ⟨b5, rfl, rfl⟩
  refine JL.mem0 rfl (by apply OpM.storeN rfl rfl (by rfl) (oneC rfl (oneC rfl (oneC rfl (oneC rfl (one1 rfl))))); (case' hu => exact .head); (case' hs => exact (.here (.here (.here (.here (.here .nil)))))); done) ?_; rintro _ _ ⟨rfl, rfl⟩
  refine JL.nil ?_
  refine J.seq ?_
  refine J.region ?_
  refine JL.pure rfl rfl (OpP.move rfl) ?_
  refine JL.f2 ?_; refine JL.f2 ?_; refine JL.step rfl rfl (OpW.call (first := []) (captured := []) inferInstance rfl rfl (f5 _ _ _)) ?_; rintro r20 _ ⟨rfl, ⟨v', rfl⟩⟩
  refine JL.lit (.tail .head) fun av' cv' ev' => ?_; subst ev'
  refine JL.pure rfl rfl (OpP.assign rfl) ?_
  refine JL.nil ?_
  refine J.seq ?_
  by_cases hl : 52 < lenP b
  · refine J.seq ?_
    refine J.region ?_
    refine JL.pure rfl rfl (OpP.move rfl) ?_
    refine JL.decT rfl rfl (OpP.gtr rfl rfl) (by omega) ?_
    refine JL.nil ?_
    refine J.condT rfl ?_
    refine J.seq ?_
    refine J.region ?_
    refine JL.pure rfl rfl (OpP.build rfl (by (repeat (first | exact Fills.nil | (apply Fills.cons rfl rfl rfl; (case' hs => ((repeat (first | exact Spl.nil | apply Spl.here | apply Spl.there)); done))))))) ?_
    refine JL.mem0 rfl (by apply OpM.storeN rfl rfl (by rfl) (oneC rfl (oneC rfl (oneC rfl (oneC rfl (one1 rfl))))); (case' hu => exact (.tail (.tail (.tail .head)))); (case' hs => exact (.here (.here (.here (.here (.here .nil)))))); done) ?_; rintro _ _ ⟨rfl, rfl⟩
    refine JL.pure rfl rfl (OpP.assign rfl) ?_
    refine JL.nil ?_
    refine J.retC2 rfl rfl (by apply Cells.full; (with_reducible repeat (first | exact .head | apply Has.tail))) (by first | (rw [List.length_append, hdC_len (by first | assumption | exact shaB_length _ _ | solve_by_elim)]; rfl) | exact hdC_len (by first | assumption | exact shaB_length _ _ | solve_by_elim) | (rw [bcells_length]; first | assumption | exact shaB_length _ _ | solve_by_elim) | exact fc_length _ _ | exact fB_length _ _ | rfl) rfl ?_
    exact ⟨_, .inl ⟨hl, rfl, rfl⟩, fun _ h => Own.pick (pre := [_, _, _, _]) [] rfl h⟩
  · have hraw := fun (g : Nat) (v : Value) (G : List HProp) => rawI (w0 := w0) (F := G) (g := g) (v := v) (k := lenP b) (M := b.drop 12) (by rw [List.length_drop]; omega) (by rw [List.length_drop]; omega)
    rw [show (b.drop 12).take (lenP b) = body b from rfl] at hraw
    have hbl : (body b).length ≤ 52 := by rw [body, List.length_take]; omega
    have hmade : decide (secOf (num b) (gen b) (plc b) (cntP b) (body b) = b) = decide (Made b) := by
      rw [decide_eq_decide, Made]
      exact ⟨fun q => ⟨by omega, q⟩, fun q => q.2⟩
    refine J.seq ?_
    refine J.region ?_
    refine JL.pure rfl rfl (OpP.move rfl) ?_
    refine JL.decF rfl rfl (OpP.gtr rfl rfl) (by omega) ?_
    refine JL.nil ?_
    refine J.condF rfl ?_
    refine J.skip ?_
    refine J.seq ?_
    refine J.region ?_
    refine JL.pure rfl rfl (OpP.move rfl) ?_
    refine JL.pure rfl rfl (OpP.move rfl) ?_
    refine JL.step rfl rfl (OpW.call (first := []) (captured := []) inferInstance rfl rfl (hraw _ _ _)) ?_; rintro r26 _ ⟨a, ⟨c, ⟨rfl, ⟨v', rfl⟩⟩⟩⟩
    refine JL.lit (.tail (.tail .head)) fun av' cv' ev' => ?_; subst ev'
    refine JL.pure rfl rfl (OpP.fieldAddr rfl) ?_
    refine JL.mem0 rfl (by apply OpM.store1 rfl rfl rfl; (case' hu => exact (.tail (.tail (.tail .head)))); (case' hs => exact (.there (.there (.there (.there (.here .nil)))))); done) ?_; rintro _ _ ⟨rfl, rfl⟩
    refine JL.nil ?_
    refine J.seq ?_
    refine J.regionX4 [0, 1] (by kernel_rfl) ?_
    refine DL.read (i := 0) (by kernel_rfl) (by kernel_rfl) rfl rfl rfl (fun _ h => Own.pick (pre := [_, _, _, _, _]) [0, 1, 2, 3] rfl h) (OpR.loadN rfl (Cells.full (.tail (.tail (.tail .head)))) rfl) ?_
    refine DL.read (i := 1) (by kernel_rfl) (by kernel_rfl) rfl rfl rfl (fun _ h => Own.pick (pre := [_, _, _, _, _]) [0, 1, 2, 3] rfl h) (OpR.loadN rfl (Cells.full (.tail (.tail (.tail .head)))) rfl) ?_
    refine DL.pure (i := 3) (by kernel_rfl) (by kernel_rfl) rfl rfl rfl (OpP.move rfl) ?_
    refine DL.only (i := 2) (by kernel_rfl) ?_
    refine DL1.stepK rfl rfl rfl (by exact OpW.call (first := []) (captured := []) inferInstance rfl rfl (sector_ok n1 n2 n3 n4 hbl (RdO.own .head))) (by rintro _ _ ⟨a1, ⟨k, ⟨rfl, rfl⟩⟩⟩ _ h; exact Own.pick (pre := [_, _, _, _, _, _]) [1, 2, 3, 4] rfl h) ?_; rintro r30 _ ⟨a1, ⟨k, ⟨rfl, rfl⟩⟩⟩
    refine DL.only (i := 4) (by kernel_rfl) ?_
    refine DL1.stepK rfl rfl rfl (by exact OpW.call (first := []) (captured := []) inferInstance rfl rfl (equal64 (l1 := secOf (num b) (gen b) (plc b) (cntP b) (body b)) (l2 := b) (secOf_len hbl) (RdO.own .head) (hr.conv fun _ h => Own.pick (pre := [_, _, _, _, _, _]) [] rfl h))) (by rintro _ _ ⟨rfl, rfl⟩ _ h; exact Own.pick (pre := [_, _, _, _, _, _]) [1, 2, 3, 4] rfl h) ?_; rintro r32 _ ⟨rfl, rfl⟩
    refine DL.only (i := 5) (by kernel_rfl) ?_
    refine DL1.stepF0 rfl rfl (by kernel_rfl) (OpM.w (by apply OpM.storeN rfl rfl (by rfl) (oneC rfl (oneC rfl (oneC rfl (oneC rfl (one1 rfl))))); (case' hu => exact (.tail (.tail (.tail (.tail (.tail .head)))))); (case' hs => exact (.here (.here (.here (.here (.here .nil)))))); done)) ?_; rintro _ _ ⟨rfl, rfl⟩
    refine DL.pure (i := 6) (by kernel_rfl) (by kernel_rfl) rfl rfl rfl (OpP.assign rfl) ?_
    refine DL.done (by kernel_rfl) ?_
    refine J.retC2 rfl rfl (by apply Cells.full; (with_reducible repeat (first | exact .head | apply Has.tail))) (by first | (rw [List.length_append, hdC_len (by first | assumption | exact shaB_length _ _ | solve_by_elim)]; rfl) | exact hdC_len (by first | assumption | exact shaB_length _ _ | solve_by_elim) | (rw [bcells_length]; first | assumption | exact shaB_length _ _ | solve_by_elim) | exact fc_length _ _ | exact fB_length _ _ | rfl) rfl ?_
    rw [hmade]
    exact ⟨_, .inr ⟨by omega, a, c, rfl, rfl⟩, fun _ h => Own.pick (pre := [_, _, _, _, _, _]) [1] rfl h⟩
end Go.Proofs.F

-- seat f
namespace Go.Proofs.F
open Go Go.Gp Go.RowKit

theorem standG_no {n least i : Nat} {acc : List UInt8} {s : Sec} {l : List Sec} {R : Option (List UInt8 × Nat × Nat)} (h : standG n least i acc (s :: l) = R) (hf : ¬ Fits n (leastOf least i s) i s) : R = none := by
  rw [standG, if_neg hf] at h
  exact h.symm
theorem standG_last {n least i : Nat} {acc : List UInt8} {s : Sec} {l : List Sec} {R : Option (List UInt8 × Nat × Nat)} (h : standG n least i acc (s :: l) = R) (hf : Fits n (leastOf least i s) i s) (hc : i + 1 = cntP s) : R = some (acc ++ body s, gen s, cntP s) := by
  rw [standG, if_pos hf, if_pos hc] at h
  exact h.symm
theorem standG_more {n least i : Nat} {acc : List UInt8} {s : Sec} {l : List Sec} {R : Option (List UInt8 × Nat × Nat)} (h : standG n least i acc (s :: l) = R) (hf : Fits n (leastOf least i s) i s) (hc : ¬ i + 1 = cntP s) : standG n (leastOf least i s) (i + 1) (acc ++ body s) l = R := by
  rw [standG, if_pos hf, if_neg hc] at h
  exact h
def StandPost (F : List HProp) (R : Option (List UInt8 × Nat × Nat)) (u : Value) (l' : List HProp) : Prop :=
  (R = none ∧ u = .tuple #[.slice none 0 0, .int .i64 0, .int .i64 0] ∧ l' = F) ∨ ∃ x g c a k, R = some (x, g, c) ∧ u = .tuple #[.slice a x.length k, .int .i64 (g : Nat), .int .i64 (c : Nat)] ∧ l' = own 5 1 (.slice a x.length k) x.length (bcells x) :: F
set_option maxHeartbeats 1000000 in
theorem stand_ok {w0 : World} {F : List HProp} {sa : Option Addr} {sc n least0 : Nat} {ps : List (Value × List UInt8)} (hn : n < 9223372036854775807) (hle : least0 ≤ 4294967296) (hl : ps.length ≤ 8192) (h64 : ∀ p ∈ ps, p.2.length = 64) (hp : Parts w0 F (.slice sa ps.length sc) ps) :
    FnO Tryd.prog w0 27 [.slice sa ps.length sc, .int .i64 (n : Nat), .int .i64 (least0 : Nat)] F (StandPost F (standP n least0 (recs ps))) := by
  have hlen : (recs ps).length = ps.length := by simp
  refine FnO.rdF (fun _ h => h) hp.rd fun hr1 => ?_
  refine FnO.weak ?_
  refine FnO.intro (n := 98) Tryd.func27 rfl rfl rfl ?_
  refine J.seq ?_
  refine J.region ?_
  refine JL.pure rfl rfl (OpP.assign rfl) ?_
  refine JL.pure rfl rfl (OpP.assign rfl) ?_
  refine JL.pure rfl rfl (OpP.assign rfl) ?_
  refine JL.nil ?_
  refine J.seq ?_
  refine J.region ?_
  refine JL.pure rfl rfl (OpP.assign rfl) ?_
  refine JL.nil ?_
  refine J.seq ?_
  refine J.seq ?_
  refine J.region ?_
  refine JL.pure rfl rfl (OpP.move rfl) ?_
  refine JL.pure rfl rfl (OpP.len rfl rfl) ?_
  refine JL.pure rfl rfl (OpP.move rfl) ?_
  refine JL.nil ?_
  refine J.block ?_
  generalize hR : standP n least0 (recs ps) = R
  refine J.loopI (σ := Nat × Nat × List UInt8 × Option Addr × Nat) (fun s => ps.length - s.1) (fun s => s.1 ≤ ps.length ∧ standG n s.2.1 s.1 s.2.2.1 ((recs ps).drop s.1) = R ∧ s.2.1 ≤ 4294967296 ∧ s.2.2.1.length ≤ s.1 * 52)
    (fun s => [(17, .int .i64 (s.1 : Nat)), (16, .int .i64 ps.length), (15, .slice sa ps.length sc), (1, .int .i64 (n : Nat)), (2, .int .i64 (s.2.1 : Nat)), (9, .slice s.2.2.2.1 s.2.2.1.length s.2.2.2.2)])
    (fun s => own 5 1 (.slice s.2.2.2.1 s.2.2.1.length s.2.2.2.2) s.2.2.1.length (bcells s.2.2.1) :: F) (0, least0, [], none, 0) ⟨Nat.zero_le _, hR, hle, Nat.le_refl _⟩ (by repeat (first | exact SubEnv.nil | refine SubEnv.cons (by first | rfl | exact congrArg (fun z => some (Value.int .i64 z)) (by omega) | (simp; done)) ?_)) (fun _ h => Own.own_nil h) (fun ⟨i, le, acc, aa, ak⟩ hi back => ?_)
  obtain ⟨hi, hst, hlb, hal⟩ := hi
  dsimp only at hi hst hlb hal back ⊢
  by_cases hlt : i < ps.length
  · obtain ⟨pa, pc, s, hpi, hpv, hpr⟩ := hp.at hlt
    have hs64 : s.length = 64 := h64 _ (List.mem_of_getElem? hpi)
    have hdrop : (recs ps).drop i = s :: (recs ps).drop (i + 1) := by
      rw [List.drop_eq_getElem_cons (by omega)]
      congr 1
      simp [(List.getElem?_eq_some_iff.1 hpi).2]
    rw [hdrop] at hst
    obtain ⟨ga, oa, xa, ea, ka, hcs⟩ := hr1.pos (by omega)
    cases ea
    rw [hs64] at hpv hpr
    refine J.seq ?_
    refine J.region ?_
    refine JL.decT rfl rfl (OpP.lss rfl rfl) (by omega) ?_
    refine JL.nil ?_
    refine J.seq ?_
    refine J.condT rfl ?_
    refine J.skip ?_
    refine J.seq ?_
    refine J.block ?_
    refine J.seq ?_
    refine J.region ?_
    refine JL.pure rfl rfl (OpP.move rfl) ?_
    refine JL.pure rfl rfl (OpP.indexAddr rfl rfl (by omega) (by omega)) ?_
    refine JL.read rfl rfl (OpR.load1 rfl (by apply Cells.cell hcs (fun _ h => Own.pick (pre := [_]) [] rfl h); (case' hv => assumption); (case' ho => omega); done)) ?_
    refine JL.pure rfl rfl (OpP.assign rfl) ?_
    refine JL.pure rfl rfl (OpP.assign rfl) ?_
    refine JL.nil ?_
    refine J.seq ?_
    refine J.region ?_
    refine JL.pure rfl rfl (OpP.move rfl) ?_
    refine JL.step rfl rfl (OpW.call (first := []) (captured := []) inferInstance rfl rfl (bread_ok (b := s) hs64 (hpr.conv fun _ h => Own.pick (pre := [_]) [] rfl h))) ?_; rintro r24 _ (⟨h24, ⟨rfl, rfl⟩⟩ | ⟨h241, ⟨a, ⟨c, ⟨rfl, rfl⟩⟩⟩⟩)
    focus
      refine JL.pure rfl rfl (OpP.move rfl) ?_
      refine JL.pure rfl rfl (OpP.extract rfl rfl) ?_
      refine JL.pure rfl rfl (OpP.extract rfl rfl) ?_
      refine JL.mem rfl rfl OpM.alloc ?_; rintro _ _ ⟨b12, rfl, rfl⟩
      refine JL.mem0 rfl (by apply OpM.storeN rfl rfl (by rfl) (oneC rfl (oneC rfl (oneC rfl (oneC rfl (one1 rfl))))); (case' hu => exact .head); (case' hs => exact (.here (.here (.here (.here (.here .nil)))))); done) ?_; rintro _ _ ⟨rfl, rfl⟩
      refine JL.pure rfl rfl (OpP.assign rfl) ?_
      refine JL.nil ?_
      refine J.seq ?_
    rotate_left 1
    focus
      refine JL.pure rfl rfl (OpP.move rfl) ?_
      refine JL.pure rfl rfl (OpP.extract rfl rfl) ?_
      refine JL.pure rfl rfl (OpP.extract rfl rfl) ?_
      refine JL.mem rfl rfl OpM.alloc ?_; rintro _ _ ⟨b12, rfl, rfl⟩
      refine JL.mem0 rfl (by apply OpM.storeN rfl rfl (by rfl) (oneC rfl (oneC rfl (oneC rfl (oneC rfl (one1 rfl))))); (case' hu => exact .head); (case' hs => exact (.here (.here (.here (.here (.here .nil)))))); done) ?_; rintro _ _ ⟨rfl, rfl⟩
      refine JL.pure rfl rfl (OpP.assign rfl) ?_
      refine JL.nil ?_
      refine J.seq ?_
    rotate_left 1
    · have hR0 : R = none := standG_no hst fun q => absurd q.1.1 (by omega)
      refine J.seq ?_
      refine J.region ?_
      refine JL.pure rfl rfl (OpP.move rfl) ?_
      refine JL.dec rfl rfl (OpP.eql rfl rfl) (fun h28 => ?_) (fun h28 => ?_)
      focus
        refine JL.nil ?_
        refine J.condT rfl ?_
        refine J.region ?_
        refine JL.pure rfl rfl (OpP.move rfl) ?_
        refine JL.pure rfl rfl (OpP.fieldAddr rfl) ?_
        refine JL.pure rfl rfl (OpP.fieldAddr rfl) ?_
        refine JL.read rfl rfl (OpR.load1 rfl (Cell.row .head rfl)) ?_
        refine JL.pure rfl rfl (OpP.max rfl rfl) ?_
        refine JL.pure rfl rfl (OpP.assign rfl) ?_
        refine JL.nil ?_
        refine J.seq ?_
        refine J.region ?_
        refine JL.pure rfl rfl (OpP.move rfl) ?_
        refine JL.pure rfl rfl (OpP.addI rfl rfl (by omega) (by omega)) ?_
        refine JL.pure rfl rfl (OpP.fieldAddr rfl) ?_
        refine JL.pure rfl rfl (OpP.fieldAddr rfl) ?_
        refine JL.read rfl rfl (OpR.load1 rfl (Cell.row .head rfl)) ?_
        refine JL.decF rfl rfl (OpP.eql rfl rfl) (by omega) ?_
        refine JL.pure rfl rfl (OpP.assign rfl) ?_
        refine JL.nil ?_
        refine J.seq ?_
        refine J.seq ?_
        refine J.region ?_
        refine JL.pure rfl rfl (OpP.move rfl) ?_
        refine JL.pure rfl rfl (OpP.notB rfl) ?_
        refine JL.pure rfl rfl (OpP.move rfl) ?_
        refine JL.skip rfl rfl ?_
        refine JL.skip rfl rfl ?_
        refine JL.skip rfl rfl ?_
        refine JL.skip rfl rfl ?_
        refine JL.skip rfl rfl ?_
        refine JL.pure rfl rfl (OpP.pickT rfl rfl) ?_
        refine JL.pure rfl rfl (OpP.move rfl) ?_
        refine JL.skip rfl rfl ?_
        refine JL.skip rfl rfl ?_
        refine JL.skip rfl rfl ?_
        refine JL.skip rfl rfl ?_
        refine JL.skip rfl rfl ?_
        refine JL.pure rfl rfl (OpP.pickT rfl rfl) ?_
        refine JL.pure rfl rfl (OpP.move rfl) ?_
        refine JL.skip rfl rfl ?_
        refine JL.skip rfl rfl ?_
        refine JL.skip rfl rfl ?_
        refine JL.skip rfl rfl ?_
        refine JL.pure rfl rfl (OpP.pickT rfl rfl) ?_
        refine JL.pure rfl rfl (OpP.move rfl) ?_
        refine JL.skip rfl rfl ?_
        refine JL.skip rfl rfl ?_
        refine JL.skip rfl rfl ?_
        refine JL.skip rfl rfl ?_
        refine JL.pure rfl rfl (OpP.pickT rfl rfl) ?_
        refine JL.pure rfl rfl (OpP.move rfl) ?_
        refine JL.skip rfl rfl ?_
        refine JL.skip rfl rfl ?_
        refine JL.skip rfl rfl ?_
        refine JL.skip rfl rfl ?_
        refine JL.skip rfl rfl ?_
        refine JL.pure rfl rfl (OpP.pickT rfl rfl) ?_
        refine JL.pure rfl rfl (OpP.move rfl) ?_
        refine JL.skip rfl rfl ?_
        refine JL.skip rfl rfl ?_
        refine JL.skip rfl rfl ?_
        refine JL.skip rfl rfl ?_
        refine JL.skip rfl rfl ?_
        refine JL.skip rfl rfl ?_
        refine JL.skip rfl rfl ?_
        refine JL.skip rfl rfl ?_
        refine JL.pure rfl rfl (OpP.pickT rfl rfl) ?_
        refine JL.nil ?_
        refine J.condT rfl ?_
        refine J.seq ?_
        refine J.region ?_
        refine JL.pure rfl rfl (OpP.assign rfl) ?_
        refine JL.pure rfl rfl (OpP.assign rfl) ?_
        refine JL.pure rfl rfl (OpP.assign rfl) ?_
        refine JL.nil ?_
        refine J.ret3 rfl rfl rfl rfl ?_
      rotate_left 1
      focus
        refine JL.nil ?_
        refine J.condF rfl ?_
        refine J.skip ?_
        refine J.seq ?_
        refine J.region ?_
        refine JL.pure rfl rfl (OpP.move rfl) ?_
        refine JL.pure rfl rfl (OpP.addI rfl rfl (by omega) (by omega)) ?_
        refine JL.pure rfl rfl (OpP.fieldAddr rfl) ?_
        refine JL.pure rfl rfl (OpP.fieldAddr rfl) ?_
        refine JL.read rfl rfl (OpR.load1 rfl (Cell.row .head rfl)) ?_
        refine JL.decF rfl rfl (OpP.eql rfl rfl) (by omega) ?_
        refine JL.pure rfl rfl (OpP.assign rfl) ?_
        refine JL.nil ?_
        refine J.seq ?_
        refine J.seq ?_
        refine J.region ?_
        refine JL.pure rfl rfl (OpP.move rfl) ?_
        refine JL.pure rfl rfl (OpP.notB rfl) ?_
        refine JL.pure rfl rfl (OpP.move rfl) ?_
        refine JL.skip rfl rfl ?_
        refine JL.skip rfl rfl ?_
        refine JL.skip rfl rfl ?_
        refine JL.skip rfl rfl ?_
        refine JL.skip rfl rfl ?_
        refine JL.pure rfl rfl (OpP.pickT rfl rfl) ?_
        refine JL.pure rfl rfl (OpP.move rfl) ?_
        refine JL.skip rfl rfl ?_
        refine JL.skip rfl rfl ?_
        refine JL.skip rfl rfl ?_
        refine JL.skip rfl rfl ?_
        refine JL.skip rfl rfl ?_
        refine JL.pure rfl rfl (OpP.pickT rfl rfl) ?_
        refine JL.pure rfl rfl (OpP.move rfl) ?_
        refine JL.skip rfl rfl ?_
        refine JL.skip rfl rfl ?_
        refine JL.skip rfl rfl ?_
        refine JL.skip rfl rfl ?_
        refine JL.pure rfl rfl (OpP.pickT rfl rfl) ?_
        refine JL.pure rfl rfl (OpP.move rfl) ?_
        refine JL.skip rfl rfl ?_
        refine JL.skip rfl rfl ?_
        refine JL.skip rfl rfl ?_
        refine JL.skip rfl rfl ?_
        refine JL.pure rfl rfl (OpP.pickT rfl rfl) ?_
        refine JL.pure rfl rfl (OpP.move rfl) ?_
        refine JL.skip rfl rfl ?_
        refine JL.skip rfl rfl ?_
        refine JL.skip rfl rfl ?_
        refine JL.skip rfl rfl ?_
        refine JL.skip rfl rfl ?_
        refine JL.pure rfl rfl (OpP.pickT rfl rfl) ?_
        refine JL.pure rfl rfl (OpP.move rfl) ?_
        refine JL.skip rfl rfl ?_
        refine JL.skip rfl rfl ?_
        refine JL.skip rfl rfl ?_
        refine JL.skip rfl rfl ?_
        refine JL.skip rfl rfl ?_
        refine JL.skip rfl rfl ?_
        refine JL.skip rfl rfl ?_
        refine JL.skip rfl rfl ?_
        refine JL.pure rfl rfl (OpP.pickT rfl rfl) ?_
        refine JL.nil ?_
        refine J.condT rfl ?_
        refine J.seq ?_
        refine J.region ?_
        refine JL.pure rfl rfl (OpP.assign rfl) ?_
        refine JL.pure rfl rfl (OpP.assign rfl) ?_
        refine JL.pure rfl rfl (OpP.assign rfl) ?_
        refine JL.nil ?_
        refine J.ret3 rfl rfl rfl rfl ?_
      rotate_left 1
      all_goals exact ⟨_, .inl ⟨hR0, rfl, rfl⟩, fun _ h => h.tail.tail⟩
    have hbl : (body s).length = lenP s := by rw [body, List.length_take, List.length_drop]; omega
    have hgl : gen s < 4294967296 := nat_lt4 _
    have hbcl : (bcells (body s)).length = (body s).length * 1 := by rw [bcells_length]; omega
    have hfit : ∀ LE, Fits n LE i s ↔ (Made s ∧ num s = n ∧ plc s = i ∧ 1 ≤ cntP s ∧ cntP s ≤ 79 ∧ gen s = LE ∧ (i + 1 = cntP s ∨ lenP s = 52)) := fun LE => Iff.rfl
    by_cases hi0 : i = 0
    · subst hi0
      refine J.seq ?_
      refine J.region ?_
      refine JL.pure rfl rfl (OpP.move rfl) ?_
      refine JL.decT rfl rfl (OpP.eql rfl rfl) (by omega) ?_
      refine JL.nil ?_
      refine J.condT rfl ?_
      refine J.region ?_
      refine JL.pure rfl rfl (OpP.move rfl) ?_
      refine JL.pure rfl rfl (OpP.fieldAddr rfl) ?_
      refine JL.pure rfl rfl (OpP.fieldAddr rfl) ?_
      refine JL.read rfl rfl (OpR.load1 rfl (Cell.row .head rfl)) ?_
      refine JL.pure rfl rfl (OpP.max rfl rfl) ?_
      refine JL.pure rfl rfl (OpP.assign rfl) ?_
      refine JL.nil ?_
      rw [show (max (le : Int) (gen s)) = ((leastOf le 0 s : Nat) : Int) by simp only [leastOf, if_true]; omega]
      generalize hLE : leastOf le 0 s = LE at *
      have hLEb : LE ≤ 4294967296 := by rw [← hLE, leastOf]; split <;> omega
      have hno : ¬ Fits n LE 0 s → R = none := fun q => standG_no hst (hLE ▸ q)
      have hlast : Fits n LE 0 s → 0 + 1 = cntP s → R = some (acc ++ body s, gen s, cntP s) := fun q => standG_last hst (hLE ▸ q)
      have hmore : Fits n LE 0 s → ¬ 0 + 1 = cntP s → standG n LE (0 + 1) (acc ++ body s) ((recs ps).drop (0 + 1)) = R := fun q qc => by
        have := standG_more hst (hLE ▸ q) qc
        rwa [hLE] at this
      refine J.seq ?_
      refine J.region ?_
      refine JL.pure rfl rfl (OpP.move rfl) ?_
      refine JL.pure rfl rfl (OpP.addI rfl rfl (by omega) (by omega)) ?_
      refine JL.pure rfl rfl (OpP.fieldAddr rfl) ?_
      refine JL.pure rfl rfl (OpP.fieldAddr rfl) ?_
      refine JL.read rfl rfl (OpR.load1 rfl (Cell.row .head rfl)) ?_
      refine JL.dec rfl rfl (OpP.eql rfl rfl) (fun h39 => ?_) (fun h39 => ?_)
      focus
        refine JL.pure rfl rfl (OpP.assign rfl) ?_
        refine JL.nil ?_
        refine J.seq ?_
        refine J.seq ?_
        refine J.region ?_
        refine JL.pure rfl rfl (OpP.move rfl) ?_
        refine JL.pure rfl rfl (OpP.notB rfl) ?_
        refine JL.pure rfl rfl (OpP.move rfl) ?_
        refine JL.splitAt 42 rfl (fun h42 => ?_) (fun h42 => ?_)
        focus
          refine JL.skip rfl rfl ?_
          refine JL.skip rfl rfl ?_
          refine JL.skip rfl rfl ?_
          refine JL.skip rfl rfl ?_
          refine JL.skip rfl rfl ?_
          refine JL.pure rfl rfl (OpP.pickT rfl rfl) ?_
          refine JL.pure rfl rfl (OpP.move rfl) ?_
          refine JL.skip rfl rfl ?_
          refine JL.skip rfl rfl ?_
          refine JL.skip rfl rfl ?_
          refine JL.skip rfl rfl ?_
          refine JL.skip rfl rfl ?_
          refine JL.pure rfl rfl (OpP.pickT rfl rfl) ?_
          refine JL.pure rfl rfl (OpP.move rfl) ?_
          refine JL.skip rfl rfl ?_
          refine JL.skip rfl rfl ?_
          refine JL.skip rfl rfl ?_
          refine JL.skip rfl rfl ?_
          refine JL.pure rfl rfl (OpP.pickT rfl rfl) ?_
          refine JL.pure rfl rfl (OpP.move rfl) ?_
          refine JL.skip rfl rfl ?_
          refine JL.skip rfl rfl ?_
          refine JL.skip rfl rfl ?_
          refine JL.skip rfl rfl ?_
          refine JL.pure rfl rfl (OpP.pickT rfl rfl) ?_
          refine JL.pure rfl rfl (OpP.move rfl) ?_
          refine JL.skip rfl rfl ?_
          refine JL.skip rfl rfl ?_
          refine JL.skip rfl rfl ?_
          refine JL.skip rfl rfl ?_
          refine JL.skip rfl rfl ?_
          refine JL.pure rfl rfl (OpP.pickT rfl rfl) ?_
          refine JL.pure rfl rfl (OpP.move rfl) ?_
          refine JL.skip rfl rfl ?_
          refine JL.skip rfl rfl ?_
          refine JL.skip rfl rfl ?_
          refine JL.skip rfl rfl ?_
          refine JL.skip rfl rfl ?_
          refine JL.skip rfl rfl ?_
          refine JL.skip rfl rfl ?_
          refine JL.skip rfl rfl ?_
          refine JL.pure rfl rfl (OpP.pickT rfl rfl) ?_
          refine JL.nil ?_
          refine J.condT rfl ?_
          refine J.seq ?_
          refine J.region ?_
          refine JL.pure rfl rfl (OpP.assign rfl) ?_
          refine JL.pure rfl rfl (OpP.assign rfl) ?_
          refine JL.pure rfl rfl (OpP.assign rfl) ?_
          refine JL.nil ?_
          refine J.ret3 rfl rfl rfl rfl ?_
        rotate_left 1
        focus
          refine JL.pure rfl rfl (OpP.fieldAddr rfl) ?_
          refine JL.pure rfl rfl (OpP.fieldAddr rfl) ?_
          refine JL.read rfl rfl (OpR.load1 rfl (Cell.row .head rfl)) ?_
          refine JL.pure rfl rfl (OpP.move rfl) ?_
          refine JL.dec rfl rfl (OpP.neq rfl rfl) (fun h47 => ?_) (fun h47 => ?_)
          focus
            refine JL.pure rfl rfl (OpP.pickF rfl rfl) ?_
            refine JL.pure rfl rfl (OpP.move rfl) ?_
            refine JL.skip rfl rfl ?_
            refine JL.skip rfl rfl ?_
            refine JL.skip rfl rfl ?_
            refine JL.skip rfl rfl ?_
            refine JL.skip rfl rfl ?_
            refine JL.pure rfl rfl (OpP.pickT rfl rfl) ?_
            refine JL.pure rfl rfl (OpP.move rfl) ?_
            refine JL.skip rfl rfl ?_
            refine JL.skip rfl rfl ?_
            refine JL.skip rfl rfl ?_
            refine JL.skip rfl rfl ?_
            refine JL.pure rfl rfl (OpP.pickT rfl rfl) ?_
            refine JL.pure rfl rfl (OpP.move rfl) ?_
            refine JL.skip rfl rfl ?_
            refine JL.skip rfl rfl ?_
            refine JL.skip rfl rfl ?_
            refine JL.skip rfl rfl ?_
            refine JL.pure rfl rfl (OpP.pickT rfl rfl) ?_
            refine JL.pure rfl rfl (OpP.move rfl) ?_
            refine JL.skip rfl rfl ?_
            refine JL.skip rfl rfl ?_
            refine JL.skip rfl rfl ?_
            refine JL.skip rfl rfl ?_
            refine JL.skip rfl rfl ?_
            refine JL.pure rfl rfl (OpP.pickT rfl rfl) ?_
            refine JL.pure rfl rfl (OpP.move rfl) ?_
            refine JL.skip rfl rfl ?_
            refine JL.skip rfl rfl ?_
            refine JL.skip rfl rfl ?_
            refine JL.skip rfl rfl ?_
            refine JL.skip rfl rfl ?_
            refine JL.skip rfl rfl ?_
            refine JL.skip rfl rfl ?_
            refine JL.skip rfl rfl ?_
            refine JL.pure rfl rfl (OpP.pickT rfl rfl) ?_
            refine JL.nil ?_
            refine J.condT rfl ?_
            refine J.seq ?_
            refine J.region ?_
            refine JL.pure rfl rfl (OpP.assign rfl) ?_
            refine JL.pure rfl rfl (OpP.assign rfl) ?_
            refine JL.pure rfl rfl (OpP.assign rfl) ?_
            refine JL.nil ?_
            refine J.ret3 rfl rfl rfl rfl ?_
          rotate_left 1
          focus
            refine JL.pure rfl rfl (OpP.pickF rfl rfl) ?_
            refine JL.pure rfl rfl (OpP.move rfl) ?_
            refine JL.pure rfl rfl (OpP.fieldAddr rfl) ?_
            refine JL.pure rfl rfl (OpP.fieldAddr rfl) ?_
            refine JL.read rfl rfl (OpR.load1 rfl (Cell.row .head rfl)) ?_
            refine JL.pure rfl rfl (OpP.move rfl) ?_
            refine JL.dec rfl rfl (OpP.neq rfl rfl) (fun h54 => ?_) (fun h54 => ?_)
            focus
              refine JL.pure rfl rfl (OpP.pickF rfl rfl) ?_
              refine JL.pure rfl rfl (OpP.move rfl) ?_
              refine JL.skip rfl rfl ?_
              refine JL.skip rfl rfl ?_
              refine JL.skip rfl rfl ?_
              refine JL.skip rfl rfl ?_
              refine JL.pure rfl rfl (OpP.pickT rfl rfl) ?_
              refine JL.pure rfl rfl (OpP.move rfl) ?_
              refine JL.skip rfl rfl ?_
              refine JL.skip rfl rfl ?_
              refine JL.skip rfl rfl ?_
              refine JL.skip rfl rfl ?_
              refine JL.pure rfl rfl (OpP.pickT rfl rfl) ?_
              refine JL.pure rfl rfl (OpP.move rfl) ?_
              refine JL.skip rfl rfl ?_
              refine JL.skip rfl rfl ?_
              refine JL.skip rfl rfl ?_
              refine JL.skip rfl rfl ?_
              refine JL.skip rfl rfl ?_
              refine JL.pure rfl rfl (OpP.pickT rfl rfl) ?_
              refine JL.pure rfl rfl (OpP.move rfl) ?_
              refine JL.skip rfl rfl ?_
              refine JL.skip rfl rfl ?_
              refine JL.skip rfl rfl ?_
              refine JL.skip rfl rfl ?_
              refine JL.skip rfl rfl ?_
              refine JL.skip rfl rfl ?_
              refine JL.skip rfl rfl ?_
              refine JL.skip rfl rfl ?_
              refine JL.pure rfl rfl (OpP.pickT rfl rfl) ?_
              refine JL.nil ?_
              refine J.condT rfl ?_
              refine J.seq ?_
              refine J.region ?_
              refine JL.pure rfl rfl (OpP.assign rfl) ?_
              refine JL.pure rfl rfl (OpP.assign rfl) ?_
              refine JL.pure rfl rfl (OpP.assign rfl) ?_
              refine JL.nil ?_
              refine J.ret3 rfl rfl rfl rfl ?_
            rotate_left 1
            focus
              refine JL.pure rfl rfl (OpP.pickF rfl rfl) ?_
              refine JL.pure rfl rfl (OpP.move rfl) ?_
              refine JL.pure rfl rfl (OpP.fieldAddr rfl) ?_
              refine JL.pure rfl rfl (OpP.fieldAddr rfl) ?_
              refine JL.read rfl rfl (OpR.load1 rfl (Cell.row .head rfl)) ?_
              refine JL.decF rfl rfl (OpP.lss rfl rfl) (by omega) ?_
              refine JL.pure rfl rfl (OpP.pickF rfl rfl) ?_
              refine JL.pure rfl rfl (OpP.move rfl) ?_
              refine JL.pure rfl rfl (OpP.fieldAddr rfl) ?_
              refine JL.pure rfl rfl (OpP.fieldAddr rfl) ?_
              refine JL.read rfl rfl (OpR.load1 rfl (Cell.row .head rfl)) ?_
              refine JL.decF rfl rfl (OpP.gtr rfl rfl) (by omega) ?_
              refine JL.pure rfl rfl (OpP.pickF rfl rfl) ?_
              refine JL.pure rfl rfl (OpP.move rfl) ?_
              refine JL.pure rfl rfl (OpP.fieldAddr rfl) ?_
              refine JL.pure rfl rfl (OpP.fieldAddr rfl) ?_
              refine JL.read rfl rfl (OpR.load1 rfl (Cell.row .head rfl)) ?_
              refine JL.pure rfl rfl (OpP.move rfl) ?_
              refine JL.dec rfl rfl (OpP.neq rfl rfl) (fun h73 => ?_) (fun h73 => ?_)
              focus
                refine JL.pure rfl rfl (OpP.pickF rfl rfl) ?_
                refine JL.pure rfl rfl (OpP.move rfl) ?_
                refine JL.skip rfl rfl ?_
                refine JL.skip rfl rfl ?_
                refine JL.skip rfl rfl ?_
                refine JL.skip rfl rfl ?_
                refine JL.skip rfl rfl ?_
                refine JL.skip rfl rfl ?_
                refine JL.skip rfl rfl ?_
                refine JL.skip rfl rfl ?_
                refine JL.pure rfl rfl (OpP.pickT rfl rfl) ?_
                refine JL.nil ?_
                refine J.condT rfl ?_
                refine J.seq ?_
                refine J.region ?_
                refine JL.pure rfl rfl (OpP.assign rfl) ?_
                refine JL.pure rfl rfl (OpP.assign rfl) ?_
                refine JL.pure rfl rfl (OpP.assign rfl) ?_
                refine JL.nil ?_
                refine J.ret3 rfl rfl rfl rfl ?_
              rotate_left 1
              focus
                refine JL.pure rfl rfl (OpP.pickF rfl rfl) ?_
                refine JL.pure rfl rfl (OpP.move rfl) ?_
                refine JL.pure rfl rfl (OpP.move rfl) ?_
                refine JL.pure rfl rfl (OpP.notB rfl) ?_
                refine JL.pure rfl rfl (OpP.move rfl) ?_
                refine JL.skip rfl rfl ?_
                refine JL.skip rfl rfl ?_
                refine JL.skip rfl rfl ?_
                refine JL.skip rfl rfl ?_
                refine JL.pure rfl rfl (OpP.pickF rfl rfl) ?_
                refine JL.pure rfl rfl (OpP.pickF rfl rfl) ?_
                refine JL.nil ?_
                refine J.condF rfl ?_
                refine J.skip ?_
                refine J.seq ?_
                refine J.region ?_
                refine JL.pure rfl rfl (OpP.move rfl) ?_
                refine JL.pure rfl rfl (OpP.fieldAddr rfl) ?_
                refine JL.read rfl rfl (OpR.load1 rfl (Cell.row .head rfl)) ?_
                refine JL.f2 ?_; refine JL.mem rfl rfl (OpM.appendH rfl (.inl ⟨_, Sl.und inferInstance⟩) (by rfl) rfl rfl (RdO.src (RdO.own (.tail (.tail .head))) (by first | assumption | exact fc_length _ _ | (simp; done) | (simp; omega))) (by first | exact bcells_one _ | exact scells_one _ | exact icells_one _ | assumption | exact fc_one fun _ => rfl) (by simp only [maxLen]; omega) (by omega)) ?_; rintro _ _ ⟨⟨a88, c88, rfl⟩, rfl⟩
                refine JL.pure rfl rfl (OpP.assign rfl) ?_
                refine JL.nil ?_
                refine J.seq ?_
                refine J.region ?_
                refine JL.pure rfl rfl (OpP.move rfl) ?_
                refine JL.nil ?_
                refine J.condT rfl ?_
                refine J.seq ?_
                refine J.regionD [3, 6] (by kernel_rfl) ?_
                refine DL.pure (i := 0) (by kernel_rfl) (by kernel_rfl) rfl rfl rfl (OpP.move rfl) ?_
                refine DL.pure (i := 1) (by kernel_rfl) (by kernel_rfl) rfl rfl rfl (OpP.fieldAddr rfl) ?_
                refine DL.pure (i := 2) (by kernel_rfl) (by kernel_rfl) rfl rfl rfl (OpP.fieldAddr rfl) ?_
                refine DL.read (i := 3) (by kernel_rfl) (by kernel_rfl) rfl rfl rfl (fun _ h => h) (OpR.load1 rfl (Cell.row (.tail .head) rfl)) ?_
                refine DL.pure (i := 4) (by kernel_rfl) (by kernel_rfl) rfl rfl rfl (OpP.fieldAddr rfl) ?_
                refine DL.pure (i := 5) (by kernel_rfl) (by kernel_rfl) rfl rfl rfl (OpP.fieldAddr rfl) ?_
                refine DL.read (i := 6) (by kernel_rfl) (by kernel_rfl) rfl rfl rfl (fun _ h => h) (OpR.load1 rfl (Cell.row (.tail .head) rfl)) ?_
                refine DL.pure (i := 7) (by kernel_rfl) (by kernel_rfl) rfl rfl rfl (OpP.assign rfl) ?_
                refine DL.pure (i := 8) (by kernel_rfl) (by kernel_rfl) rfl rfl rfl (OpP.assign rfl) ?_
                refine DL.pure (i := 9) (by kernel_rfl) (by kernel_rfl) rfl rfl rfl (OpP.assign rfl) ?_
                refine DL.done (by kernel_rfl) ?_
                refine J.ret3 rfl rfl rfl rfl ?_
              rotate_left 1
            rotate_left 2
          rotate_left 3
        rotate_left 4
      rotate_left 5
      focus
        refine JL.pure rfl rfl (OpP.assign rfl) ?_
        refine JL.nil ?_
        refine J.seq ?_
        refine J.seq ?_
        refine J.region ?_
        refine JL.pure rfl rfl (OpP.move rfl) ?_
        refine JL.pure rfl rfl (OpP.notB rfl) ?_
        refine JL.pure rfl rfl (OpP.move rfl) ?_
        refine JL.splitAt 42 rfl (fun h42 => ?_) (fun h42 => ?_)
        focus
          refine JL.skip rfl rfl ?_
          refine JL.skip rfl rfl ?_
          refine JL.skip rfl rfl ?_
          refine JL.skip rfl rfl ?_
          refine JL.skip rfl rfl ?_
          refine JL.pure rfl rfl (OpP.pickT rfl rfl) ?_
          refine JL.pure rfl rfl (OpP.move rfl) ?_
          refine JL.skip rfl rfl ?_
          refine JL.skip rfl rfl ?_
          refine JL.skip rfl rfl ?_
          refine JL.skip rfl rfl ?_
          refine JL.skip rfl rfl ?_
          refine JL.pure rfl rfl (OpP.pickT rfl rfl) ?_
          refine JL.pure rfl rfl (OpP.move rfl) ?_
          refine JL.skip rfl rfl ?_
          refine JL.skip rfl rfl ?_
          refine JL.skip rfl rfl ?_
          refine JL.skip rfl rfl ?_
          refine JL.pure rfl rfl (OpP.pickT rfl rfl) ?_
          refine JL.pure rfl rfl (OpP.move rfl) ?_
          refine JL.skip rfl rfl ?_
          refine JL.skip rfl rfl ?_
          refine JL.skip rfl rfl ?_
          refine JL.skip rfl rfl ?_
          refine JL.pure rfl rfl (OpP.pickT rfl rfl) ?_
          refine JL.pure rfl rfl (OpP.move rfl) ?_
          refine JL.skip rfl rfl ?_
          refine JL.skip rfl rfl ?_
          refine JL.skip rfl rfl ?_
          refine JL.skip rfl rfl ?_
          refine JL.skip rfl rfl ?_
          refine JL.pure rfl rfl (OpP.pickT rfl rfl) ?_
          refine JL.pure rfl rfl (OpP.move rfl) ?_
          refine JL.skip rfl rfl ?_
          refine JL.skip rfl rfl ?_
          refine JL.skip rfl rfl ?_
          refine JL.skip rfl rfl ?_
          refine JL.skip rfl rfl ?_
          refine JL.skip rfl rfl ?_
          refine JL.skip rfl rfl ?_
          refine JL.skip rfl rfl ?_
          refine JL.pure rfl rfl (OpP.pickT rfl rfl) ?_
          refine JL.nil ?_
          refine J.condT rfl ?_
          refine J.seq ?_
          refine J.region ?_
          refine JL.pure rfl rfl (OpP.assign rfl) ?_
          refine JL.pure rfl rfl (OpP.assign rfl) ?_
          refine JL.pure rfl rfl (OpP.assign rfl) ?_
          refine JL.nil ?_
          refine J.ret3 rfl rfl rfl rfl ?_
        rotate_left 1
        focus
          refine JL.pure rfl rfl (OpP.fieldAddr rfl) ?_
          refine JL.pure rfl rfl (OpP.fieldAddr rfl) ?_
          refine JL.read rfl rfl (OpR.load1 rfl (Cell.row .head rfl)) ?_
          refine JL.pure rfl rfl (OpP.move rfl) ?_
          refine JL.dec rfl rfl (OpP.neq rfl rfl) (fun h47 => ?_) (fun h47 => ?_)
          focus
            refine JL.pure rfl rfl (OpP.pickF rfl rfl) ?_
            refine JL.pure rfl rfl (OpP.move rfl) ?_
            refine JL.skip rfl rfl ?_
            refine JL.skip rfl rfl ?_
            refine JL.skip rfl rfl ?_
            refine JL.skip rfl rfl ?_
            refine JL.skip rfl rfl ?_
            refine JL.pure rfl rfl (OpP.pickT rfl rfl) ?_
            refine JL.pure rfl rfl (OpP.move rfl) ?_
            refine JL.skip rfl rfl ?_
            refine JL.skip rfl rfl ?_
            refine JL.skip rfl rfl ?_
            refine JL.skip rfl rfl ?_
            refine JL.pure rfl rfl (OpP.pickT rfl rfl) ?_
            refine JL.pure rfl rfl (OpP.move rfl) ?_
            refine JL.skip rfl rfl ?_
            refine JL.skip rfl rfl ?_
            refine JL.skip rfl rfl ?_
            refine JL.skip rfl rfl ?_
            refine JL.pure rfl rfl (OpP.pickT rfl rfl) ?_
            refine JL.pure rfl rfl (OpP.move rfl) ?_
            refine JL.skip rfl rfl ?_
            refine JL.skip rfl rfl ?_
            refine JL.skip rfl rfl ?_
            refine JL.skip rfl rfl ?_
            refine JL.skip rfl rfl ?_
            refine JL.pure rfl rfl (OpP.pickT rfl rfl) ?_
            refine JL.pure rfl rfl (OpP.move rfl) ?_
            refine JL.skip rfl rfl ?_
            refine JL.skip rfl rfl ?_
            refine JL.skip rfl rfl ?_
            refine JL.skip rfl rfl ?_
            refine JL.skip rfl rfl ?_
            refine JL.skip rfl rfl ?_
            refine JL.skip rfl rfl ?_
            refine JL.skip rfl rfl ?_
            refine JL.pure rfl rfl (OpP.pickT rfl rfl) ?_
            refine JL.nil ?_
            refine J.condT rfl ?_
            refine J.seq ?_
            refine J.region ?_
            refine JL.pure rfl rfl (OpP.assign rfl) ?_
            refine JL.pure rfl rfl (OpP.assign rfl) ?_
            refine JL.pure rfl rfl (OpP.assign rfl) ?_
            refine JL.nil ?_
            refine J.ret3 rfl rfl rfl rfl ?_
          rotate_left 1
          focus
            refine JL.pure rfl rfl (OpP.pickF rfl rfl) ?_
            refine JL.pure rfl rfl (OpP.move rfl) ?_
            refine JL.pure rfl rfl (OpP.fieldAddr rfl) ?_
            refine JL.pure rfl rfl (OpP.fieldAddr rfl) ?_
            refine JL.read rfl rfl (OpR.load1 rfl (Cell.row .head rfl)) ?_
            refine JL.pure rfl rfl (OpP.move rfl) ?_
            refine JL.dec rfl rfl (OpP.neq rfl rfl) (fun h54 => ?_) (fun h54 => ?_)
            focus
              refine JL.pure rfl rfl (OpP.pickF rfl rfl) ?_
              refine JL.pure rfl rfl (OpP.move rfl) ?_
              refine JL.skip rfl rfl ?_
              refine JL.skip rfl rfl ?_
              refine JL.skip rfl rfl ?_
              refine JL.skip rfl rfl ?_
              refine JL.pure rfl rfl (OpP.pickT rfl rfl) ?_
              refine JL.pure rfl rfl (OpP.move rfl) ?_
              refine JL.skip rfl rfl ?_
              refine JL.skip rfl rfl ?_
              refine JL.skip rfl rfl ?_
              refine JL.skip rfl rfl ?_
              refine JL.pure rfl rfl (OpP.pickT rfl rfl) ?_
              refine JL.pure rfl rfl (OpP.move rfl) ?_
              refine JL.skip rfl rfl ?_
              refine JL.skip rfl rfl ?_
              refine JL.skip rfl rfl ?_
              refine JL.skip rfl rfl ?_
              refine JL.skip rfl rfl ?_
              refine JL.pure rfl rfl (OpP.pickT rfl rfl) ?_
              refine JL.pure rfl rfl (OpP.move rfl) ?_
              refine JL.skip rfl rfl ?_
              refine JL.skip rfl rfl ?_
              refine JL.skip rfl rfl ?_
              refine JL.skip rfl rfl ?_
              refine JL.skip rfl rfl ?_
              refine JL.skip rfl rfl ?_
              refine JL.skip rfl rfl ?_
              refine JL.skip rfl rfl ?_
              refine JL.pure rfl rfl (OpP.pickT rfl rfl) ?_
              refine JL.nil ?_
              refine J.condT rfl ?_
              refine J.seq ?_
              refine J.region ?_
              refine JL.pure rfl rfl (OpP.assign rfl) ?_
              refine JL.pure rfl rfl (OpP.assign rfl) ?_
              refine JL.pure rfl rfl (OpP.assign rfl) ?_
              refine JL.nil ?_
              refine J.ret3 rfl rfl rfl rfl ?_
            rotate_left 1
            focus
              refine JL.pure rfl rfl (OpP.pickF rfl rfl) ?_
              refine JL.pure rfl rfl (OpP.move rfl) ?_
              refine JL.pure rfl rfl (OpP.fieldAddr rfl) ?_
              refine JL.pure rfl rfl (OpP.fieldAddr rfl) ?_
              refine JL.read rfl rfl (OpR.load1 rfl (Cell.row .head rfl)) ?_
              refine JL.dec rfl rfl (OpP.lss rfl rfl) (fun h60 => ?_) (fun h60 => ?_)
              focus
                refine JL.pure rfl rfl (OpP.pickF rfl rfl) ?_
                refine JL.pure rfl rfl (OpP.move rfl) ?_
                refine JL.skip rfl rfl ?_
                refine JL.skip rfl rfl ?_
                refine JL.skip rfl rfl ?_
                refine JL.skip rfl rfl ?_
                refine JL.pure rfl rfl (OpP.pickT rfl rfl) ?_
                refine JL.pure rfl rfl (OpP.move rfl) ?_
                refine JL.skip rfl rfl ?_
                refine JL.skip rfl rfl ?_
                refine JL.skip rfl rfl ?_
                refine JL.skip rfl rfl ?_
                refine JL.skip rfl rfl ?_
                refine JL.pure rfl rfl (OpP.pickT rfl rfl) ?_
                refine JL.pure rfl rfl (OpP.move rfl) ?_
                refine JL.skip rfl rfl ?_
                refine JL.skip rfl rfl ?_
                refine JL.skip rfl rfl ?_
                refine JL.skip rfl rfl ?_
                refine JL.skip rfl rfl ?_
                refine JL.skip rfl rfl ?_
                refine JL.skip rfl rfl ?_
                refine JL.skip rfl rfl ?_
                refine JL.pure rfl rfl (OpP.pickT rfl rfl) ?_
                refine JL.nil ?_
                refine J.condT rfl ?_
                refine J.seq ?_
                refine J.region ?_
                refine JL.pure rfl rfl (OpP.assign rfl) ?_
                refine JL.pure rfl rfl (OpP.assign rfl) ?_
                refine JL.pure rfl rfl (OpP.assign rfl) ?_
                refine JL.nil ?_
                refine J.ret3 rfl rfl rfl rfl ?_
              rotate_left 1
              focus
                refine JL.pure rfl rfl (OpP.pickF rfl rfl) ?_
                refine JL.pure rfl rfl (OpP.move rfl) ?_
                refine JL.pure rfl rfl (OpP.fieldAddr rfl) ?_
                refine JL.pure rfl rfl (OpP.fieldAddr rfl) ?_
                refine JL.read rfl rfl (OpR.load1 rfl (Cell.row .head rfl)) ?_
                refine JL.dec rfl rfl (OpP.gtr rfl rfl) (fun h66 => ?_) (fun h66 => ?_)
                focus
                  refine JL.pure rfl rfl (OpP.pickF rfl rfl) ?_
                  refine JL.pure rfl rfl (OpP.move rfl) ?_
                  refine JL.skip rfl rfl ?_
                  refine JL.skip rfl rfl ?_
                  refine JL.skip rfl rfl ?_
                  refine JL.skip rfl rfl ?_
                  refine JL.skip rfl rfl ?_
                  refine JL.pure rfl rfl (OpP.pickT rfl rfl) ?_
                  refine JL.pure rfl rfl (OpP.move rfl) ?_
                  refine JL.skip rfl rfl ?_
                  refine JL.skip rfl rfl ?_
                  refine JL.skip rfl rfl ?_
                  refine JL.skip rfl rfl ?_
                  refine JL.skip rfl rfl ?_
                  refine JL.skip rfl rfl ?_
                  refine JL.skip rfl rfl ?_
                  refine JL.skip rfl rfl ?_
                  refine JL.pure rfl rfl (OpP.pickT rfl rfl) ?_
                  refine JL.nil ?_
                  refine J.condT rfl ?_
                  refine J.seq ?_
                  refine J.region ?_
                  refine JL.pure rfl rfl (OpP.assign rfl) ?_
                  refine JL.pure rfl rfl (OpP.assign rfl) ?_
                  refine JL.pure rfl rfl (OpP.assign rfl) ?_
                  refine JL.nil ?_
                  refine J.ret3 rfl rfl rfl rfl ?_
                rotate_left 1
                focus
                  refine JL.pure rfl rfl (OpP.pickF rfl rfl) ?_
                  refine JL.pure rfl rfl (OpP.move rfl) ?_
                  refine JL.pure rfl rfl (OpP.fieldAddr rfl) ?_
                  refine JL.pure rfl rfl (OpP.fieldAddr rfl) ?_
                  refine JL.read rfl rfl (OpR.load1 rfl (Cell.row .head rfl)) ?_
                  refine JL.pure rfl rfl (OpP.move rfl) ?_
                  refine JL.dec rfl rfl (OpP.neq rfl rfl) (fun h73 => ?_) (fun h73 => ?_)
                  focus
                    refine JL.pure rfl rfl (OpP.pickF rfl rfl) ?_
                    refine JL.pure rfl rfl (OpP.move rfl) ?_
                    refine JL.skip rfl rfl ?_
                    refine JL.skip rfl rfl ?_
                    refine JL.skip rfl rfl ?_
                    refine JL.skip rfl rfl ?_
                    refine JL.skip rfl rfl ?_
                    refine JL.skip rfl rfl ?_
                    refine JL.skip rfl rfl ?_
                    refine JL.skip rfl rfl ?_
                    refine JL.pure rfl rfl (OpP.pickT rfl rfl) ?_
                    refine JL.nil ?_
                    refine J.condT rfl ?_
                    refine J.seq ?_
                    refine J.region ?_
                    refine JL.pure rfl rfl (OpP.assign rfl) ?_
                    refine JL.pure rfl rfl (OpP.assign rfl) ?_
                    refine JL.pure rfl rfl (OpP.assign rfl) ?_
                    refine JL.nil ?_
                    refine J.ret3 rfl rfl rfl rfl ?_
                  rotate_left 1
                  focus
                    refine JL.pure rfl rfl (OpP.pickF rfl rfl) ?_
                    refine JL.pure rfl rfl (OpP.move rfl) ?_
                    refine JL.pure rfl rfl (OpP.move rfl) ?_
                    refine JL.pure rfl rfl (OpP.notB rfl) ?_
                    refine JL.pure rfl rfl (OpP.move rfl) ?_
                    refine JL.pure rfl rfl (OpP.fieldAddr rfl) ?_
                    refine JL.read rfl rfl (OpR.load1 rfl (Cell.row .head rfl)) ?_
                    refine JL.pure rfl rfl (OpP.len rfl rfl) ?_
                    refine JL.dec rfl rfl (OpP.neq rfl rfl) (fun h82 => ?_) (fun h82 => ?_)
                    focus
                      refine JL.pure rfl rfl (OpP.pickT rfl rfl) ?_
                      refine JL.pure rfl rfl (OpP.pickF rfl rfl) ?_
                      refine JL.nil ?_
                      refine J.condT rfl ?_
                      refine J.seq ?_
                      refine J.region ?_
                      refine JL.pure rfl rfl (OpP.assign rfl) ?_
                      refine JL.pure rfl rfl (OpP.assign rfl) ?_
                      refine JL.pure rfl rfl (OpP.assign rfl) ?_
                      refine JL.nil ?_
                      refine J.ret3 rfl rfl rfl rfl ?_
                    rotate_left 1
                    focus
                      refine JL.pure rfl rfl (OpP.pickT rfl rfl) ?_
                      refine JL.pure rfl rfl (OpP.pickF rfl rfl) ?_
                      refine JL.nil ?_
                      refine J.condF rfl ?_
                      refine J.skip ?_
                      refine J.seq ?_
                      refine J.region ?_
                      refine JL.pure rfl rfl (OpP.move rfl) ?_
                      refine JL.pure rfl rfl (OpP.fieldAddr rfl) ?_
                      refine JL.read rfl rfl (OpR.load1 rfl (Cell.row .head rfl)) ?_
                      refine JL.f2 ?_; refine JL.mem rfl rfl (OpM.appendH rfl (.inl ⟨_, Sl.und inferInstance⟩) (by rfl) rfl rfl (RdO.src (RdO.own (.tail (.tail .head))) (by first | assumption | exact fc_length _ _ | (simp; done) | (simp; omega))) (by first | exact bcells_one _ | exact scells_one _ | exact icells_one _ | assumption | exact fc_one fun _ => rfl) (by simp only [maxLen]; omega) (by omega)) ?_; rintro _ _ ⟨⟨a88, c88, rfl⟩, rfl⟩
                      refine JL.pure rfl rfl (OpP.assign rfl) ?_
                      refine JL.nil ?_
                      refine J.seq ?_
                      refine J.region ?_
                      refine JL.pure rfl rfl (OpP.move rfl) ?_
                      refine JL.nil ?_
                      refine J.condF rfl ?_
                      refine J.skip ?_
                      refine J.inBlock ?_
                      refine J.region ?_
                      refine JL.pure rfl rfl (OpP.addI rfl rfl (by omega) (by omega)) ?_
                      refine JL.pure rfl rfl (OpP.move rfl) ?_
                      refine JL.nil ?_
                    rotate_left 1
                  rotate_left 2
                rotate_left 3
              rotate_left 4
            rotate_left 5
          rotate_left 6
        rotate_left 7
      rotate_left 8
      all_goals try exact ⟨_, .inl ⟨hno fun q => by
        obtain ⟨q1, q2, q3, q4, q5, q6, q7⟩ := q
        first | omega | exact absurd q1 (by simpa using h42), rfl, rfl⟩, fun _ h => h.tail.tail.tail⟩
      · rw [← (List.length_append : (acc ++ body s).length = _), ← bcells_append]
        refine ⟨_, .inr ⟨_, _, _, _, _, hlast ⟨by simpa using h42, by omega, by omega, by omega, by omega, by omega, by omega⟩ (by omega), rfl, rfl⟩, fun _ h => ?_⟩
        exact Own.pick (pre := [_, _, _]) [0] rfl h
      · rw [← (List.length_append : (acc ++ body s).length = _), ← bcells_append]
        refine back (0 + 1, LE, acc ++ body s, _, _) ⟨by omega, hmore ⟨by simpa using h42, by omega, by omega, by omega, by omega, by omega, by omega⟩ (by omega), by omega, by rw [List.length_append]; omega⟩ (by omega) (by repeat (first | exact SubEnv.nil | refine SubEnv.cons (by first | rfl | exact congrArg (fun z => some (Value.int .i64 z)) (by omega) | (simp; done)) ?_)) (fun _ h => ?_)
        exact Own.pick (pre := [_, _, _]) [0] rfl h
    · refine J.seq ?_
      refine J.region ?_
      refine JL.pure rfl rfl (OpP.move rfl) ?_
      refine JL.decF rfl rfl (OpP.eql rfl rfl) (by omega) ?_
      refine JL.nil ?_
      refine J.condF rfl ?_
      refine J.skip ?_
      rw [show (le : Int) = ((leastOf le i s : Nat) : Int) by rw [leastOf, if_neg hi0]]
      generalize hLE : leastOf le i s = LE at *
      have hLEb : LE ≤ 4294967296 := by rw [← hLE, leastOf]; split <;> omega
      have hno : ¬ Fits n LE i s → R = none := fun q => standG_no hst (hLE ▸ q)
      have hlast : Fits n LE i s → i + 1 = cntP s → R = some (acc ++ body s, gen s, cntP s) := fun q => standG_last hst (hLE ▸ q)
      have hmore : Fits n LE i s → ¬ i + 1 = cntP s → standG n LE (i + 1) (acc ++ body s) ((recs ps).drop (i + 1)) = R := fun q qc => by
        have := standG_more hst (hLE ▸ q) qc
        rwa [hLE] at this
      refine J.seq ?_
      refine J.region ?_
      refine JL.pure rfl rfl (OpP.move rfl) ?_
      refine JL.pure rfl rfl (OpP.addI rfl rfl (by omega) (by omega)) ?_
      refine JL.pure rfl rfl (OpP.fieldAddr rfl) ?_
      refine JL.pure rfl rfl (OpP.fieldAddr rfl) ?_
      refine JL.read rfl rfl (OpR.load1 rfl (Cell.row .head rfl)) ?_
      refine JL.dec rfl rfl (OpP.eql rfl rfl) (fun h39 => ?_) (fun h39 => ?_)
      focus
        refine JL.pure rfl rfl (OpP.assign rfl) ?_
        refine JL.nil ?_
        refine J.seq ?_
        refine J.seq ?_
        refine J.region ?_
        refine JL.pure rfl rfl (OpP.move rfl) ?_
        refine JL.pure rfl rfl (OpP.notB rfl) ?_
        refine JL.pure rfl rfl (OpP.move rfl) ?_
        refine JL.splitAt 42 rfl (fun h42 => ?_) (fun h42 => ?_)
        focus
          refine JL.skip rfl rfl ?_
          refine JL.skip rfl rfl ?_
          refine JL.skip rfl rfl ?_
          refine JL.skip rfl rfl ?_
          refine JL.skip rfl rfl ?_
          refine JL.pure rfl rfl (OpP.pickT rfl rfl) ?_
          refine JL.pure rfl rfl (OpP.move rfl) ?_
          refine JL.skip rfl rfl ?_
          refine JL.skip rfl rfl ?_
          refine JL.skip rfl rfl ?_
          refine JL.skip rfl rfl ?_
          refine JL.skip rfl rfl ?_
          refine JL.pure rfl rfl (OpP.pickT rfl rfl) ?_
          refine JL.pure rfl rfl (OpP.move rfl) ?_
          refine JL.skip rfl rfl ?_
          refine JL.skip rfl rfl ?_
          refine JL.skip rfl rfl ?_
          refine JL.skip rfl rfl ?_
          refine JL.pure rfl rfl (OpP.pickT rfl rfl) ?_
          refine JL.pure rfl rfl (OpP.move rfl) ?_
          refine JL.skip rfl rfl ?_
          refine JL.skip rfl rfl ?_
          refine JL.skip rfl rfl ?_
          refine JL.skip rfl rfl ?_
          refine JL.pure rfl rfl (OpP.pickT rfl rfl) ?_
          refine JL.pure rfl rfl (OpP.move rfl) ?_
          refine JL.skip rfl rfl ?_
          refine JL.skip rfl rfl ?_
          refine JL.skip rfl rfl ?_
          refine JL.skip rfl rfl ?_
          refine JL.skip rfl rfl ?_
          refine JL.pure rfl rfl (OpP.pickT rfl rfl) ?_
          refine JL.pure rfl rfl (OpP.move rfl) ?_
          refine JL.skip rfl rfl ?_
          refine JL.skip rfl rfl ?_
          refine JL.skip rfl rfl ?_
          refine JL.skip rfl rfl ?_
          refine JL.skip rfl rfl ?_
          refine JL.skip rfl rfl ?_
          refine JL.skip rfl rfl ?_
          refine JL.skip rfl rfl ?_
          refine JL.pure rfl rfl (OpP.pickT rfl rfl) ?_
          refine JL.nil ?_
          refine J.condT rfl ?_
          refine J.seq ?_
          refine J.region ?_
          refine JL.pure rfl rfl (OpP.assign rfl) ?_
          refine JL.pure rfl rfl (OpP.assign rfl) ?_
          refine JL.pure rfl rfl (OpP.assign rfl) ?_
          refine JL.nil ?_
          refine J.ret3 rfl rfl rfl rfl ?_
        rotate_left 1
        focus
          refine JL.pure rfl rfl (OpP.fieldAddr rfl) ?_
          refine JL.pure rfl rfl (OpP.fieldAddr rfl) ?_
          refine JL.read rfl rfl (OpR.load1 rfl (Cell.row .head rfl)) ?_
          refine JL.pure rfl rfl (OpP.move rfl) ?_
          refine JL.dec rfl rfl (OpP.neq rfl rfl) (fun h47 => ?_) (fun h47 => ?_)
          focus
            refine JL.pure rfl rfl (OpP.pickF rfl rfl) ?_
            refine JL.pure rfl rfl (OpP.move rfl) ?_
            refine JL.skip rfl rfl ?_
            refine JL.skip rfl rfl ?_
            refine JL.skip rfl rfl ?_
            refine JL.skip rfl rfl ?_
            refine JL.skip rfl rfl ?_
            refine JL.pure rfl rfl (OpP.pickT rfl rfl) ?_
            refine JL.pure rfl rfl (OpP.move rfl) ?_
            refine JL.skip rfl rfl ?_
            refine JL.skip rfl rfl ?_
            refine JL.skip rfl rfl ?_
            refine JL.skip rfl rfl ?_
            refine JL.pure rfl rfl (OpP.pickT rfl rfl) ?_
            refine JL.pure rfl rfl (OpP.move rfl) ?_
            refine JL.skip rfl rfl ?_
            refine JL.skip rfl rfl ?_
            refine JL.skip rfl rfl ?_
            refine JL.skip rfl rfl ?_
            refine JL.pure rfl rfl (OpP.pickT rfl rfl) ?_
            refine JL.pure rfl rfl (OpP.move rfl) ?_
            refine JL.skip rfl rfl ?_
            refine JL.skip rfl rfl ?_
            refine JL.skip rfl rfl ?_
            refine JL.skip rfl rfl ?_
            refine JL.skip rfl rfl ?_
            refine JL.pure rfl rfl (OpP.pickT rfl rfl) ?_
            refine JL.pure rfl rfl (OpP.move rfl) ?_
            refine JL.skip rfl rfl ?_
            refine JL.skip rfl rfl ?_
            refine JL.skip rfl rfl ?_
            refine JL.skip rfl rfl ?_
            refine JL.skip rfl rfl ?_
            refine JL.skip rfl rfl ?_
            refine JL.skip rfl rfl ?_
            refine JL.skip rfl rfl ?_
            refine JL.pure rfl rfl (OpP.pickT rfl rfl) ?_
            refine JL.nil ?_
            refine J.condT rfl ?_
            refine J.seq ?_
            refine J.region ?_
            refine JL.pure rfl rfl (OpP.assign rfl) ?_
            refine JL.pure rfl rfl (OpP.assign rfl) ?_
            refine JL.pure rfl rfl (OpP.assign rfl) ?_
            refine JL.nil ?_
            refine J.ret3 rfl rfl rfl rfl ?_
          rotate_left 1
          focus
            refine JL.pure rfl rfl (OpP.pickF rfl rfl) ?_
            refine JL.pure rfl rfl (OpP.move rfl) ?_
            refine JL.pure rfl rfl (OpP.fieldAddr rfl) ?_
            refine JL.pure rfl rfl (OpP.fieldAddr rfl) ?_
            refine JL.read rfl rfl (OpR.load1 rfl (Cell.row .head rfl)) ?_
            refine JL.pure rfl rfl (OpP.move rfl) ?_
            refine JL.dec rfl rfl (OpP.neq rfl rfl) (fun h54 => ?_) (fun h54 => ?_)
            focus
              refine JL.pure rfl rfl (OpP.pickF rfl rfl) ?_
              refine JL.pure rfl rfl (OpP.move rfl) ?_
              refine JL.skip rfl rfl ?_
              refine JL.skip rfl rfl ?_
              refine JL.skip rfl rfl ?_
              refine JL.skip rfl rfl ?_
              refine JL.pure rfl rfl (OpP.pickT rfl rfl) ?_
              refine JL.pure rfl rfl (OpP.move rfl) ?_
              refine JL.skip rfl rfl ?_
              refine JL.skip rfl rfl ?_
              refine JL.skip rfl rfl ?_
              refine JL.skip rfl rfl ?_
              refine JL.pure rfl rfl (OpP.pickT rfl rfl) ?_
              refine JL.pure rfl rfl (OpP.move rfl) ?_
              refine JL.skip rfl rfl ?_
              refine JL.skip rfl rfl ?_
              refine JL.skip rfl rfl ?_
              refine JL.skip rfl rfl ?_
              refine JL.skip rfl rfl ?_
              refine JL.pure rfl rfl (OpP.pickT rfl rfl) ?_
              refine JL.pure rfl rfl (OpP.move rfl) ?_
              refine JL.skip rfl rfl ?_
              refine JL.skip rfl rfl ?_
              refine JL.skip rfl rfl ?_
              refine JL.skip rfl rfl ?_
              refine JL.skip rfl rfl ?_
              refine JL.skip rfl rfl ?_
              refine JL.skip rfl rfl ?_
              refine JL.skip rfl rfl ?_
              refine JL.pure rfl rfl (OpP.pickT rfl rfl) ?_
              refine JL.nil ?_
              refine J.condT rfl ?_
              refine J.seq ?_
              refine J.region ?_
              refine JL.pure rfl rfl (OpP.assign rfl) ?_
              refine JL.pure rfl rfl (OpP.assign rfl) ?_
              refine JL.pure rfl rfl (OpP.assign rfl) ?_
              refine JL.nil ?_
              refine J.ret3 rfl rfl rfl rfl ?_
            rotate_left 1
            focus
              refine JL.pure rfl rfl (OpP.pickF rfl rfl) ?_
              refine JL.pure rfl rfl (OpP.move rfl) ?_
              refine JL.pure rfl rfl (OpP.fieldAddr rfl) ?_
              refine JL.pure rfl rfl (OpP.fieldAddr rfl) ?_
              refine JL.read rfl rfl (OpR.load1 rfl (Cell.row .head rfl)) ?_
              refine JL.decF rfl rfl (OpP.lss rfl rfl) (by omega) ?_
              refine JL.pure rfl rfl (OpP.pickF rfl rfl) ?_
              refine JL.pure rfl rfl (OpP.move rfl) ?_
              refine JL.pure rfl rfl (OpP.fieldAddr rfl) ?_
              refine JL.pure rfl rfl (OpP.fieldAddr rfl) ?_
              refine JL.read rfl rfl (OpR.load1 rfl (Cell.row .head rfl)) ?_
              refine JL.dec rfl rfl (OpP.gtr rfl rfl) (fun h66 => ?_) (fun h66 => ?_)
              focus
                refine JL.pure rfl rfl (OpP.pickF rfl rfl) ?_
                refine JL.pure rfl rfl (OpP.move rfl) ?_
                refine JL.skip rfl rfl ?_
                refine JL.skip rfl rfl ?_
                refine JL.skip rfl rfl ?_
                refine JL.skip rfl rfl ?_
                refine JL.skip rfl rfl ?_
                refine JL.pure rfl rfl (OpP.pickT rfl rfl) ?_
                refine JL.pure rfl rfl (OpP.move rfl) ?_
                refine JL.skip rfl rfl ?_
                refine JL.skip rfl rfl ?_
                refine JL.skip rfl rfl ?_
                refine JL.skip rfl rfl ?_
                refine JL.skip rfl rfl ?_
                refine JL.skip rfl rfl ?_
                refine JL.skip rfl rfl ?_
                refine JL.skip rfl rfl ?_
                refine JL.pure rfl rfl (OpP.pickT rfl rfl) ?_
                refine JL.nil ?_
                refine J.condT rfl ?_
                refine J.seq ?_
                refine J.region ?_
                refine JL.pure rfl rfl (OpP.assign rfl) ?_
                refine JL.pure rfl rfl (OpP.assign rfl) ?_
                refine JL.pure rfl rfl (OpP.assign rfl) ?_
                refine JL.nil ?_
                refine J.ret3 rfl rfl rfl rfl ?_
              rotate_left 1
              focus
                refine JL.pure rfl rfl (OpP.pickF rfl rfl) ?_
                refine JL.pure rfl rfl (OpP.move rfl) ?_
                refine JL.pure rfl rfl (OpP.fieldAddr rfl) ?_
                refine JL.pure rfl rfl (OpP.fieldAddr rfl) ?_
                refine JL.read rfl rfl (OpR.load1 rfl (Cell.row .head rfl)) ?_
                refine JL.pure rfl rfl (OpP.move rfl) ?_
                refine JL.dec rfl rfl (OpP.neq rfl rfl) (fun h73 => ?_) (fun h73 => ?_)
                focus
                  refine JL.pure rfl rfl (OpP.pickF rfl rfl) ?_
                  refine JL.pure rfl rfl (OpP.move rfl) ?_
                  refine JL.skip rfl rfl ?_
                  refine JL.skip rfl rfl ?_
                  refine JL.skip rfl rfl ?_
                  refine JL.skip rfl rfl ?_
                  refine JL.skip rfl rfl ?_
                  refine JL.skip rfl rfl ?_
                  refine JL.skip rfl rfl ?_
                  refine JL.skip rfl rfl ?_
                  refine JL.pure rfl rfl (OpP.pickT rfl rfl) ?_
                  refine JL.nil ?_
                  refine J.condT rfl ?_
                  refine J.seq ?_
                  refine J.region ?_
                  refine JL.pure rfl rfl (OpP.assign rfl) ?_
                  refine JL.pure rfl rfl (OpP.assign rfl) ?_
                  refine JL.pure rfl rfl (OpP.assign rfl) ?_
                  refine JL.nil ?_
                  refine J.ret3 rfl rfl rfl rfl ?_
                rotate_left 1
                focus
                  refine JL.pure rfl rfl (OpP.pickF rfl rfl) ?_
                  refine JL.pure rfl rfl (OpP.move rfl) ?_
                  refine JL.pure rfl rfl (OpP.move rfl) ?_
                  refine JL.pure rfl rfl (OpP.notB rfl) ?_
                  refine JL.pure rfl rfl (OpP.move rfl) ?_
                  refine JL.skip rfl rfl ?_
                  refine JL.skip rfl rfl ?_
                  refine JL.skip rfl rfl ?_
                  refine JL.skip rfl rfl ?_
                  refine JL.pure rfl rfl (OpP.pickF rfl rfl) ?_
                  refine JL.pure rfl rfl (OpP.pickF rfl rfl) ?_
                  refine JL.nil ?_
                  refine J.condF rfl ?_
                  refine J.skip ?_
                  refine J.seq ?_
                  refine J.region ?_
                  refine JL.pure rfl rfl (OpP.move rfl) ?_
                  refine JL.pure rfl rfl (OpP.fieldAddr rfl) ?_
                  refine JL.read rfl rfl (OpR.load1 rfl (Cell.row .head rfl)) ?_
                  refine JL.f2 ?_; refine JL.mem rfl rfl (OpM.appendH rfl (.inl ⟨_, Sl.und inferInstance⟩) (by rfl) rfl rfl (RdO.src (RdO.own (.tail (.tail .head))) (by first | assumption | exact fc_length _ _ | (simp; done) | (simp; omega))) (by first | exact bcells_one _ | exact scells_one _ | exact icells_one _ | assumption | exact fc_one fun _ => rfl) (by simp only [maxLen]; omega) (by omega)) ?_; rintro _ _ ⟨⟨a88, c88, rfl⟩, rfl⟩
                  refine JL.pure rfl rfl (OpP.assign rfl) ?_
                  refine JL.nil ?_
                  refine J.seq ?_
                  refine J.region ?_
                  refine JL.pure rfl rfl (OpP.move rfl) ?_
                  refine JL.nil ?_
                  refine J.condT rfl ?_
                  refine J.seq ?_
                  refine J.regionD [3, 6] (by kernel_rfl) ?_
                  refine DL.pure (i := 0) (by kernel_rfl) (by kernel_rfl) rfl rfl rfl (OpP.move rfl) ?_
                  refine DL.pure (i := 1) (by kernel_rfl) (by kernel_rfl) rfl rfl rfl (OpP.fieldAddr rfl) ?_
                  refine DL.pure (i := 2) (by kernel_rfl) (by kernel_rfl) rfl rfl rfl (OpP.fieldAddr rfl) ?_
                  refine DL.read (i := 3) (by kernel_rfl) (by kernel_rfl) rfl rfl rfl (fun _ h => h) (OpR.load1 rfl (Cell.row (.tail .head) rfl)) ?_
                  refine DL.pure (i := 4) (by kernel_rfl) (by kernel_rfl) rfl rfl rfl (OpP.fieldAddr rfl) ?_
                  refine DL.pure (i := 5) (by kernel_rfl) (by kernel_rfl) rfl rfl rfl (OpP.fieldAddr rfl) ?_
                  refine DL.read (i := 6) (by kernel_rfl) (by kernel_rfl) rfl rfl rfl (fun _ h => h) (OpR.load1 rfl (Cell.row (.tail .head) rfl)) ?_
                  refine DL.pure (i := 7) (by kernel_rfl) (by kernel_rfl) rfl rfl rfl (OpP.assign rfl) ?_
                  refine DL.pure (i := 8) (by kernel_rfl) (by kernel_rfl) rfl rfl rfl (OpP.assign rfl) ?_
                  refine DL.pure (i := 9) (by kernel_rfl) (by kernel_rfl) rfl rfl rfl (OpP.assign rfl) ?_
                  refine DL.done (by kernel_rfl) ?_
                  refine J.ret3 rfl rfl rfl rfl ?_
                rotate_left 1
              rotate_left 2
            rotate_left 3
          rotate_left 4
        rotate_left 5
      rotate_left 6
      focus
        refine JL.pure rfl rfl (OpP.assign rfl) ?_
        refine JL.nil ?_
        refine J.seq ?_
        refine J.seq ?_
        refine J.region ?_
        refine JL.pure rfl rfl (OpP.move rfl) ?_
        refine JL.pure rfl rfl (OpP.notB rfl) ?_
        refine JL.pure rfl rfl (OpP.move rfl) ?_
        refine JL.splitAt 42 rfl (fun h42 => ?_) (fun h42 => ?_)
        focus
          refine JL.skip rfl rfl ?_
          refine JL.skip rfl rfl ?_
          refine JL.skip rfl rfl ?_
          refine JL.skip rfl rfl ?_
          refine JL.skip rfl rfl ?_
          refine JL.pure rfl rfl (OpP.pickT rfl rfl) ?_
          refine JL.pure rfl rfl (OpP.move rfl) ?_
          refine JL.skip rfl rfl ?_
          refine JL.skip rfl rfl ?_
          refine JL.skip rfl rfl ?_
          refine JL.skip rfl rfl ?_
          refine JL.skip rfl rfl ?_
          refine JL.pure rfl rfl (OpP.pickT rfl rfl) ?_
          refine JL.pure rfl rfl (OpP.move rfl) ?_
          refine JL.skip rfl rfl ?_
          refine JL.skip rfl rfl ?_
          refine JL.skip rfl rfl ?_
          refine JL.skip rfl rfl ?_
          refine JL.pure rfl rfl (OpP.pickT rfl rfl) ?_
          refine JL.pure rfl rfl (OpP.move rfl) ?_
          refine JL.skip rfl rfl ?_
          refine JL.skip rfl rfl ?_
          refine JL.skip rfl rfl ?_
          refine JL.skip rfl rfl ?_
          refine JL.pure rfl rfl (OpP.pickT rfl rfl) ?_
          refine JL.pure rfl rfl (OpP.move rfl) ?_
          refine JL.skip rfl rfl ?_
          refine JL.skip rfl rfl ?_
          refine JL.skip rfl rfl ?_
          refine JL.skip rfl rfl ?_
          refine JL.skip rfl rfl ?_
          refine JL.pure rfl rfl (OpP.pickT rfl rfl) ?_
          refine JL.pure rfl rfl (OpP.move rfl) ?_
          refine JL.skip rfl rfl ?_
          refine JL.skip rfl rfl ?_
          refine JL.skip rfl rfl ?_
          refine JL.skip rfl rfl ?_
          refine JL.skip rfl rfl ?_
          refine JL.skip rfl rfl ?_
          refine JL.skip rfl rfl ?_
          refine JL.skip rfl rfl ?_
          refine JL.pure rfl rfl (OpP.pickT rfl rfl) ?_
          refine JL.nil ?_
          refine J.condT rfl ?_
          refine J.seq ?_
          refine J.region ?_
          refine JL.pure rfl rfl (OpP.assign rfl) ?_
          refine JL.pure rfl rfl (OpP.assign rfl) ?_
          refine JL.pure rfl rfl (OpP.assign rfl) ?_
          refine JL.nil ?_
          refine J.ret3 rfl rfl rfl rfl ?_
        rotate_left 1
        focus
          refine JL.pure rfl rfl (OpP.fieldAddr rfl) ?_
          refine JL.pure rfl rfl (OpP.fieldAddr rfl) ?_
          refine JL.read rfl rfl (OpR.load1 rfl (Cell.row .head rfl)) ?_
          refine JL.pure rfl rfl (OpP.move rfl) ?_
          refine JL.dec rfl rfl (OpP.neq rfl rfl) (fun h47 => ?_) (fun h47 => ?_)
          focus
            refine JL.pure rfl rfl (OpP.pickF rfl rfl) ?_
            refine JL.pure rfl rfl (OpP.move rfl) ?_
            refine JL.skip rfl rfl ?_
            refine JL.skip rfl rfl ?_
            refine JL.skip rfl rfl ?_
            refine JL.skip rfl rfl ?_
            refine JL.skip rfl rfl ?_
            refine JL.pure rfl rfl (OpP.pickT rfl rfl) ?_
            refine JL.pure rfl rfl (OpP.move rfl) ?_
            refine JL.skip rfl rfl ?_
            refine JL.skip rfl rfl ?_
            refine JL.skip rfl rfl ?_
            refine JL.skip rfl rfl ?_
            refine JL.pure rfl rfl (OpP.pickT rfl rfl) ?_
            refine JL.pure rfl rfl (OpP.move rfl) ?_
            refine JL.skip rfl rfl ?_
            refine JL.skip rfl rfl ?_
            refine JL.skip rfl rfl ?_
            refine JL.skip rfl rfl ?_
            refine JL.pure rfl rfl (OpP.pickT rfl rfl) ?_
            refine JL.pure rfl rfl (OpP.move rfl) ?_
            refine JL.skip rfl rfl ?_
            refine JL.skip rfl rfl ?_
            refine JL.skip rfl rfl ?_
            refine JL.skip rfl rfl ?_
            refine JL.skip rfl rfl ?_
            refine JL.pure rfl rfl (OpP.pickT rfl rfl) ?_
            refine JL.pure rfl rfl (OpP.move rfl) ?_
            refine JL.skip rfl rfl ?_
            refine JL.skip rfl rfl ?_
            refine JL.skip rfl rfl ?_
            refine JL.skip rfl rfl ?_
            refine JL.skip rfl rfl ?_
            refine JL.skip rfl rfl ?_
            refine JL.skip rfl rfl ?_
            refine JL.skip rfl rfl ?_
            refine JL.pure rfl rfl (OpP.pickT rfl rfl) ?_
            refine JL.nil ?_
            refine J.condT rfl ?_
            refine J.seq ?_
            refine J.region ?_
            refine JL.pure rfl rfl (OpP.assign rfl) ?_
            refine JL.pure rfl rfl (OpP.assign rfl) ?_
            refine JL.pure rfl rfl (OpP.assign rfl) ?_
            refine JL.nil ?_
            refine J.ret3 rfl rfl rfl rfl ?_
          rotate_left 1
          focus
            refine JL.pure rfl rfl (OpP.pickF rfl rfl) ?_
            refine JL.pure rfl rfl (OpP.move rfl) ?_
            refine JL.pure rfl rfl (OpP.fieldAddr rfl) ?_
            refine JL.pure rfl rfl (OpP.fieldAddr rfl) ?_
            refine JL.read rfl rfl (OpR.load1 rfl (Cell.row .head rfl)) ?_
            refine JL.pure rfl rfl (OpP.move rfl) ?_
            refine JL.dec rfl rfl (OpP.neq rfl rfl) (fun h54 => ?_) (fun h54 => ?_)
            focus
              refine JL.pure rfl rfl (OpP.pickF rfl rfl) ?_
              refine JL.pure rfl rfl (OpP.move rfl) ?_
              refine JL.skip rfl rfl ?_
              refine JL.skip rfl rfl ?_
              refine JL.skip rfl rfl ?_
              refine JL.skip rfl rfl ?_
              refine JL.pure rfl rfl (OpP.pickT rfl rfl) ?_
              refine JL.pure rfl rfl (OpP.move rfl) ?_
              refine JL.skip rfl rfl ?_
              refine JL.skip rfl rfl ?_
              refine JL.skip rfl rfl ?_
              refine JL.skip rfl rfl ?_
              refine JL.pure rfl rfl (OpP.pickT rfl rfl) ?_
              refine JL.pure rfl rfl (OpP.move rfl) ?_
              refine JL.skip rfl rfl ?_
              refine JL.skip rfl rfl ?_
              refine JL.skip rfl rfl ?_
              refine JL.skip rfl rfl ?_
              refine JL.skip rfl rfl ?_
              refine JL.pure rfl rfl (OpP.pickT rfl rfl) ?_
              refine JL.pure rfl rfl (OpP.move rfl) ?_
              refine JL.skip rfl rfl ?_
              refine JL.skip rfl rfl ?_
              refine JL.skip rfl rfl ?_
              refine JL.skip rfl rfl ?_
              refine JL.skip rfl rfl ?_
              refine JL.skip rfl rfl ?_
              refine JL.skip rfl rfl ?_
              refine JL.skip rfl rfl ?_
              refine JL.pure rfl rfl (OpP.pickT rfl rfl) ?_
              refine JL.nil ?_
              refine J.condT rfl ?_
              refine J.seq ?_
              refine J.region ?_
              refine JL.pure rfl rfl (OpP.assign rfl) ?_
              refine JL.pure rfl rfl (OpP.assign rfl) ?_
              refine JL.pure rfl rfl (OpP.assign rfl) ?_
              refine JL.nil ?_
              refine J.ret3 rfl rfl rfl rfl ?_
            rotate_left 1
            focus
              refine JL.pure rfl rfl (OpP.pickF rfl rfl) ?_
              refine JL.pure rfl rfl (OpP.move rfl) ?_
              refine JL.pure rfl rfl (OpP.fieldAddr rfl) ?_
              refine JL.pure rfl rfl (OpP.fieldAddr rfl) ?_
              refine JL.read rfl rfl (OpR.load1 rfl (Cell.row .head rfl)) ?_
              refine JL.dec rfl rfl (OpP.lss rfl rfl) (fun h60 => ?_) (fun h60 => ?_)
              focus
                refine JL.pure rfl rfl (OpP.pickF rfl rfl) ?_
                refine JL.pure rfl rfl (OpP.move rfl) ?_
                refine JL.skip rfl rfl ?_
                refine JL.skip rfl rfl ?_
                refine JL.skip rfl rfl ?_
                refine JL.skip rfl rfl ?_
                refine JL.pure rfl rfl (OpP.pickT rfl rfl) ?_
                refine JL.pure rfl rfl (OpP.move rfl) ?_
                refine JL.skip rfl rfl ?_
                refine JL.skip rfl rfl ?_
                refine JL.skip rfl rfl ?_
                refine JL.skip rfl rfl ?_
                refine JL.skip rfl rfl ?_
                refine JL.pure rfl rfl (OpP.pickT rfl rfl) ?_
                refine JL.pure rfl rfl (OpP.move rfl) ?_
                refine JL.skip rfl rfl ?_
                refine JL.skip rfl rfl ?_
                refine JL.skip rfl rfl ?_
                refine JL.skip rfl rfl ?_
                refine JL.skip rfl rfl ?_
                refine JL.skip rfl rfl ?_
                refine JL.skip rfl rfl ?_
                refine JL.skip rfl rfl ?_
                refine JL.pure rfl rfl (OpP.pickT rfl rfl) ?_
                refine JL.nil ?_
                refine J.condT rfl ?_
                refine J.seq ?_
                refine J.region ?_
                refine JL.pure rfl rfl (OpP.assign rfl) ?_
                refine JL.pure rfl rfl (OpP.assign rfl) ?_
                refine JL.pure rfl rfl (OpP.assign rfl) ?_
                refine JL.nil ?_
                refine J.ret3 rfl rfl rfl rfl ?_
              rotate_left 1
              focus
                refine JL.pure rfl rfl (OpP.pickF rfl rfl) ?_
                refine JL.pure rfl rfl (OpP.move rfl) ?_
                refine JL.pure rfl rfl (OpP.fieldAddr rfl) ?_
                refine JL.pure rfl rfl (OpP.fieldAddr rfl) ?_
                refine JL.read rfl rfl (OpR.load1 rfl (Cell.row .head rfl)) ?_
                refine JL.dec rfl rfl (OpP.gtr rfl rfl) (fun h66 => ?_) (fun h66 => ?_)
                focus
                  refine JL.pure rfl rfl (OpP.pickF rfl rfl) ?_
                  refine JL.pure rfl rfl (OpP.move rfl) ?_
                  refine JL.skip rfl rfl ?_
                  refine JL.skip rfl rfl ?_
                  refine JL.skip rfl rfl ?_
                  refine JL.skip rfl rfl ?_
                  refine JL.skip rfl rfl ?_
                  refine JL.pure rfl rfl (OpP.pickT rfl rfl) ?_
                  refine JL.pure rfl rfl (OpP.move rfl) ?_
                  refine JL.skip rfl rfl ?_
                  refine JL.skip rfl rfl ?_
                  refine JL.skip rfl rfl ?_
                  refine JL.skip rfl rfl ?_
                  refine JL.skip rfl rfl ?_
                  refine JL.skip rfl rfl ?_
                  refine JL.skip rfl rfl ?_
                  refine JL.skip rfl rfl ?_
                  refine JL.pure rfl rfl (OpP.pickT rfl rfl) ?_
                  refine JL.nil ?_
                  refine J.condT rfl ?_
                  refine J.seq ?_
                  refine J.region ?_
                  refine JL.pure rfl rfl (OpP.assign rfl) ?_
                  refine JL.pure rfl rfl (OpP.assign rfl) ?_
                  refine JL.pure rfl rfl (OpP.assign rfl) ?_
                  refine JL.nil ?_
                  refine J.ret3 rfl rfl rfl rfl ?_
                rotate_left 1
                focus
                  refine JL.pure rfl rfl (OpP.pickF rfl rfl) ?_
                  refine JL.pure rfl rfl (OpP.move rfl) ?_
                  refine JL.pure rfl rfl (OpP.fieldAddr rfl) ?_
                  refine JL.pure rfl rfl (OpP.fieldAddr rfl) ?_
                  refine JL.read rfl rfl (OpR.load1 rfl (Cell.row .head rfl)) ?_
                  refine JL.pure rfl rfl (OpP.move rfl) ?_
                  refine JL.dec rfl rfl (OpP.neq rfl rfl) (fun h73 => ?_) (fun h73 => ?_)
                  focus
                    refine JL.pure rfl rfl (OpP.pickF rfl rfl) ?_
                    refine JL.pure rfl rfl (OpP.move rfl) ?_
                    refine JL.skip rfl rfl ?_
                    refine JL.skip rfl rfl ?_
                    refine JL.skip rfl rfl ?_
                    refine JL.skip rfl rfl ?_
                    refine JL.skip rfl rfl ?_
                    refine JL.skip rfl rfl ?_
                    refine JL.skip rfl rfl ?_
                    refine JL.skip rfl rfl ?_
                    refine JL.pure rfl rfl (OpP.pickT rfl rfl) ?_
                    refine JL.nil ?_
                    refine J.condT rfl ?_
                    refine J.seq ?_
                    refine J.region ?_
                    refine JL.pure rfl rfl (OpP.assign rfl) ?_
                    refine JL.pure rfl rfl (OpP.assign rfl) ?_
                    refine JL.pure rfl rfl (OpP.assign rfl) ?_
                    refine JL.nil ?_
                    refine J.ret3 rfl rfl rfl rfl ?_
                  rotate_left 1
                  focus
                    refine JL.pure rfl rfl (OpP.pickF rfl rfl) ?_
                    refine JL.pure rfl rfl (OpP.move rfl) ?_
                    refine JL.pure rfl rfl (OpP.move rfl) ?_
                    refine JL.pure rfl rfl (OpP.notB rfl) ?_
                    refine JL.pure rfl rfl (OpP.move rfl) ?_
                    refine JL.pure rfl rfl (OpP.fieldAddr rfl) ?_
                    refine JL.read rfl rfl (OpR.load1 rfl (Cell.row .head rfl)) ?_
                    refine JL.pure rfl rfl (OpP.len rfl rfl) ?_
                    refine JL.dec rfl rfl (OpP.neq rfl rfl) (fun h82 => ?_) (fun h82 => ?_)
                    focus
                      refine JL.pure rfl rfl (OpP.pickT rfl rfl) ?_
                      refine JL.pure rfl rfl (OpP.pickF rfl rfl) ?_
                      refine JL.nil ?_
                      refine J.condT rfl ?_
                      refine J.seq ?_
                      refine J.region ?_
                      refine JL.pure rfl rfl (OpP.assign rfl) ?_
                      refine JL.pure rfl rfl (OpP.assign rfl) ?_
                      refine JL.pure rfl rfl (OpP.assign rfl) ?_
                      refine JL.nil ?_
                      refine J.ret3 rfl rfl rfl rfl ?_
                    rotate_left 1
                    focus
                      refine JL.pure rfl rfl (OpP.pickT rfl rfl) ?_
                      refine JL.pure rfl rfl (OpP.pickF rfl rfl) ?_
                      refine JL.nil ?_
                      refine J.condF rfl ?_
                      refine J.skip ?_
                      refine J.seq ?_
                      refine J.region ?_
                      refine JL.pure rfl rfl (OpP.move rfl) ?_
                      refine JL.pure rfl rfl (OpP.fieldAddr rfl) ?_
                      refine JL.read rfl rfl (OpR.load1 rfl (Cell.row .head rfl)) ?_
                      refine JL.f2 ?_; refine JL.mem rfl rfl (OpM.appendH rfl (.inl ⟨_, Sl.und inferInstance⟩) (by rfl) rfl rfl (RdO.src (RdO.own (.tail (.tail .head))) (by first | assumption | exact fc_length _ _ | (simp; done) | (simp; omega))) (by first | exact bcells_one _ | exact scells_one _ | exact icells_one _ | assumption | exact fc_one fun _ => rfl) (by simp only [maxLen]; omega) (by omega)) ?_; rintro _ _ ⟨⟨a88, c88, rfl⟩, rfl⟩
                      refine JL.pure rfl rfl (OpP.assign rfl) ?_
                      refine JL.nil ?_
                      refine J.seq ?_
                      refine J.region ?_
                      refine JL.pure rfl rfl (OpP.move rfl) ?_
                      refine JL.nil ?_
                      refine J.condF rfl ?_
                      refine J.skip ?_
                      refine J.inBlock ?_
                      refine J.region ?_
                      refine JL.pure rfl rfl (OpP.addI rfl rfl (by omega) (by omega)) ?_
                      refine JL.pure rfl rfl (OpP.move rfl) ?_
                      refine JL.nil ?_
                    rotate_left 1
                  rotate_left 2
                rotate_left 3
              rotate_left 4
            rotate_left 5
          rotate_left 6
        rotate_left 7
      rotate_left 8
      all_goals try exact ⟨_, .inl ⟨hno fun q => by
        obtain ⟨q1, q2, q3, q4, q5, q6, q7⟩ := q
        first | omega | exact absurd q1 (by simpa using h42), rfl, rfl⟩, fun _ h => h.tail.tail.tail⟩
      · rw [← (List.length_append : (acc ++ body s).length = _), ← bcells_append]
        refine ⟨_, .inr ⟨_, _, _, _, _, hlast ⟨by simpa using h42, by omega, by omega, by omega, by omega, by omega, by omega⟩ (by omega), rfl, rfl⟩, fun _ h => ?_⟩
        exact Own.pick (pre := [_, _, _]) [0] rfl h
      · rw [← (List.length_append : (acc ++ body s).length = _), ← bcells_append]
        refine back (i + 1, LE, acc ++ body s, _, _) ⟨by omega, hmore ⟨by simpa using h42, by omega, by omega, by omega, by omega, by omega, by omega⟩ (by omega), by omega, by rw [List.length_append]; omega⟩ (by omega) (by repeat (first | exact SubEnv.nil | refine SubEnv.cons (by first | rfl | exact congrArg (fun z => some (Value.int .i64 z)) (by omega) | (simp; done)) ?_)) (fun _ h => ?_)
        exact Own.pick (pre := [_, _, _]) [0] rfl h
  · have : i = ps.length := by omega
    subst this
    rw [List.drop_of_length_le (by omega)] at hst
    refine J.seq ?_
    refine J.region ?_
    refine JL.decF rfl rfl (OpP.lss rfl rfl) (by omega) ?_
    refine JL.nil ?_
    refine J.seq ?_
    refine J.condF rfl ?_
    refine J.exit rfl ?_
    refine J.seq ?_
    refine J.region ?_
    refine JL.pure rfl rfl (OpP.assign rfl) ?_
    refine JL.pure rfl rfl (OpP.assign rfl) ?_
    refine JL.pure rfl rfl (OpP.assign rfl) ?_
    refine JL.nil ?_
    refine J.ret3 rfl rfl rfl rfl ?_
    exact ⟨_, .inl ⟨hst.symm, rfl, rfl⟩, fun _ h => h.tail⟩
end Go.Proofs.F
