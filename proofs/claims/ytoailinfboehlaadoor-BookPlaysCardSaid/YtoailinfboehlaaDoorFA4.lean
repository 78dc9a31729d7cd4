/- A text of the proof of a statement about the given program: its part FA4. No person has read it. -/
import Derived.Test.YtoailinfboehlaaDoorFA1
import Derived.Test.YtoailinfboehlaaDoorFA2
import Derived.Test.YtoailinfboehlaaDoorFA3
import Derived.Test.YtoailinfboehlaaDoorFJ2
-- seat f
namespace Go.Proofs.F
open Go Go.Gp Go.RowKit
open Disk hiding spl_all

theorem FnO.fact {P : Program} {w0 : World} {f : FuncId} {args : List Value} {l : List HProp} {R : Value → List HProp → Prop} {p : Prop} (hp : ∀ w, Own w0 w l → p) (h : p → FnO P w0 f args l R) : FnO P w0 f args l R := ⟨fun w hw => (h (hp w hw)).calls w hw⟩
theorem diskR_ok {w0 w : World} {g : Nat} {D : Dk} {F : List HProp} (h : Own w0 w (diskR g D :: F)) : D.Ok := by
  obtain ⟨_, h, _⟩ := disk_out h
  exact h
theorem maxG_take {l : List Sec} {i : Nat} {s : Sec} (h : l[i]? = some s) : maxG (l.take (i + 1)) = max (maxG (l.take i)) (gen s) := by
  rw [← maxG_snoc]
  congr 1
  rw [List.take_add_one, h]; rfl
theorem maxG_u32 (l : List Sec) : maxG l < 4294967296 := by
  have : maxG l ≤ 4294967295 := maxG_le fun s _ => by have : gen s < 4294967296 := nat_lt4 _; omega
  omega
theorem readTail {w0 : World} {F : List HProp} {s : Sec} {b p c : Nat} (hs : s.length = 64) (hr : RdO w0 F (.slice (some ⟨b, p, none⟩) 64 c) 64 (bcells s)) :
    FnO Tryd.prog w0 37 [.slice (some ⟨b, if c = 4 then p else p + 4 * 1, none⟩) (64 - 4) (c - 4)] F (fun r l' => ∃ g v', r = .pointer (some ⟨g, 0, none⟩) ∧ l' = inL g false v' (s.drop 4) F) := by
  have h := RdO.from (k := 4) 1 hr (by decide) (by rw [bcells_length, hs])
  rw [show 4 * 1 = 4 from rfl, bcells_drop] at h
  have hl : (s.drop 4).length = 60 := by rw [List.length_drop, hs]
  exact read_ok (by omega) (by rw [hl]; exact h)
theorem genI {w0 : World} {F : List HProp} {g : Nat} {v : Value} {s : Sec} (hs : s.length = 64) :
    FnO Tryd.prog w0 38 [.pointer (some ⟨g, 0, none⟩)] (inL g false v (s.drop 4) F) (fun r l' => r = .int .i64 (gen s : Nat) ∧ ∃ v', l' = inL g false v' ((s.drop 4).drop 4) F) :=
  u32I (by rw [List.length_drop]; omega) (by rw [List.length_drop]; omega)
theorem sectors_ok {w0 : World} {F : List HProp} {g : Nat} {D : Dk} (hf : D.fuse ≠ 0) :
    FnO Tryd.prog w0 26 [.pointer (some ⟨g, 0, none⟩)] (diskR g D :: F) (fun u l' => ∃ (r : Value) (qs : List (Value × List UInt8)), (∃ a c, r = .slice a qs.length c) ∧ recs qs = D.now ∧ (∀ q ∈ qs, ∃ a c, q.1 = .slice a q.2.length c) ∧ u = .tuple #[r, .int .i64 (maxG D.now : Nat), .int .i64 0] ∧ l' = ownP r qs :: diskR g D :: F) := by
  refine FnO.fact (fun _ h => diskR_ok h) fun hok => ?_
  have hsm := hok.small
  refine FnO.weak ?_
  refine FnO.intro (n := 39) Tryd.func26 rfl rfl rfl ?_
  refine J.seq ?_
  refine J.region ?_
  refine JL.pure rfl rfl (OpP.assign rfl) ?_
  refine JL.pure rfl rfl (OpP.assign rfl) ?_
  refine JL.pure rfl rfl (OpP.assign rfl) ?_
  refine JL.nil ?_
  refine J.seq ?_
  refine J.region ?_
  refine JL.pure rfl rfl (OpP.assign rfl) ?_
  refine JL.nil ?_
  refine J.seq ?_
  refine J.region ?_
  refine JL.pure rfl rfl (OpP.assign rfl) ?_
  refine JL.nil ?_
  refine J.seq ?_
  refine J.seq ?_
  refine J.region ?_
  refine JL.pure rfl rfl (OpP.move rfl) ?_
  refine JL.step rfl rfl (OpW.call (first := []) (captured := []) inferInstance rfl rfl Sectors_ok) ?_; rintro r12 _ ⟨rfl, rfl⟩
  refine JL.pure rfl rfl (OpP.move rfl) ?_
  refine JL.nil ?_
  refine J.block ?_
  refine J.loopI (fun x : Nat × Value × List (Value × List UInt8) => D.now.length - x.1) (fun x => x.1 ≤ D.now.length ∧ x.2.2.length = x.1 ∧ recs x.2.2 = D.now.take x.1 ∧ ∀ q ∈ x.2.2, ∃ a c, q.1 = .slice a q.2.length c) (fun x => [(13, .int .i64 (x.1 : Nat)), (12, .int .i64 (D.now.length : Nat)), (0, .pointer (some ⟨g, 0, none⟩)), (5, x.2.1), (6, .int .i64 (maxG (D.now.take x.1) : Nat))])
    (fun x => own 26 1 x.2.1 x.1 (x.2.2.map (·.1)) :: ownAll x.2.2.reverse :: diskR g D :: F) (0, .slice none 0 0, []) ⟨Nat.zero_le _, rfl, rfl, fun _ h => nomatch h⟩ (by repeat (first | exact SubEnv.nil | refine SubEnv.cons (by first | rfl | exact congrArg (fun z => some (Value.int .i64 z)) (by omega) | (simp; done)) ?_)) (fun _ h => h.emp_in.own_nil) (fun ⟨i, z, qs⟩ hi back => ?_)
  dsimp only at hi back ⊢
  obtain ⟨hi1, hi2, hi3, hi4⟩ := hi
  by_cases hlt : i < D.now.length
  · have hm1 := maxG_u32 (D.now.take i)
    refine J.lit .head fun az cz ez => ?_; subst ez
    refine J.seq ?_
    refine J.region ?_
    refine JL.decT rfl rfl (OpP.lss rfl rfl) (by omega) ?_
    refine JL.nil ?_
    refine J.seq ?_
    refine J.condT rfl ?_
    refine J.skip ?_
    refine J.seq ?_
    refine J.block ?_
    refine J.seq ?_
    refine J.region ?_
    refine JL.pure rfl rfl (OpP.move rfl) ?_
    refine JL.pure rfl rfl (OpP.assign rfl) ?_
    refine JL.nil ?_
    refine J.seq ?_
    refine J.region ?_
    refine JL.pure rfl rfl (OpP.move rfl) ?_
    refine JL.pure rfl rfl (OpP.move rfl) ?_
    refine JL.f2 ?_; refine JL.step rfl rfl (OpW.call (first := []) (captured := []) inferInstance rfl rfl Read_ok) ?_; rintro r19 _ (⟨h19, ⟨rfl, rfl⟩⟩ | (⟨h191, ⟨h192, ⟨rfl, rfl⟩⟩⟩ | ⟨h193, ⟨h194, ⟨u, ⟨s, ⟨h195, ⟨h196, ⟨rfl, rfl⟩⟩⟩⟩⟩⟩⟩))
    focus
      refine JL.pure rfl rfl (OpP.move rfl) ?_
      refine JL.pure rfl rfl (OpP.extract rfl rfl) ?_
      refine JL.pure rfl rfl (OpP.extract rfl rfl) ?_
      refine JL.pure rfl rfl (OpP.assign rfl) ?_
      refine JL.pure rfl rfl (OpP.assign rfl) ?_
      refine JL.nil ?_
      refine J.seq ?_
    rotate_left 1
    focus
      refine JL.pure rfl rfl (OpP.move rfl) ?_
      refine JL.pure rfl rfl (OpP.extract rfl rfl) ?_
      refine JL.pure rfl rfl (OpP.extract rfl rfl) ?_
      refine JL.pure rfl rfl (OpP.assign rfl) ?_
      refine JL.pure rfl rfl (OpP.assign rfl) ?_
      refine JL.nil ?_
      refine J.seq ?_
    rotate_left 1
    focus
      refine JL.lit .head fun au cu eu => ?_; subst eu
      refine JL.pure rfl rfl (OpP.move rfl) ?_
      refine JL.pure rfl rfl (OpP.extract rfl rfl) ?_
      refine JL.pure rfl rfl (OpP.extract rfl rfl) ?_
      refine JL.pure rfl rfl (OpP.assign rfl) ?_
      refine JL.pure rfl rfl (OpP.assign rfl) ?_
      refine JL.nil ?_
      refine J.seq ?_
    rotate_left 1
    · exact absurd (by assumption) hf
    · omega
    have hs : D.now[i]? = some s := h195
    have hs64 : s.length = 64 := h196
    have hgl : gen s < 4294967296 := nat_lt4 _
    have hmx := maxG_take hs
    refine J.seq ?_
    refine J.region ?_
    refine JL.pure rfl rfl (OpP.move rfl) ?_
    refine JL.decF rfl rfl (OpP.neq rfl rfl) (by omega) ?_
    refine JL.nil ?_
    refine J.condF rfl ?_
    refine J.skip ?_
    refine J.seq ?_
    refine J.region ?_
    refine JL.pure rfl rfl (OpP.move rfl) ?_
    refine JL.ownSome .head (by omega) fun gau pau eau kau => ?_; subst eau
    refine JL.pure rfl rfl (OpP.sliceFrom 4 rfl rfl rfl (by omega) (by omega)) ?_
    refine JL.step rfl rfl (OpW.call (first := []) (captured := []) inferInstance rfl rfl (readTail hs64 (RdO.own .head))) ?_; rintro r27 _ ⟨g1, ⟨v', ⟨rfl, rfl⟩⟩⟩
    refine JL.lit (.tail .head) fun av' cv' ev' => ?_; subst ev'
    refine JL.pure rfl rfl (OpP.assign rfl) ?_
    refine JL.nil ?_
    refine J.seq ?_
    refine J.region ?_
    refine JL.pure rfl rfl (OpP.move rfl) ?_
    refine JL.pure rfl rfl (OpP.move rfl) ?_
    refine JL.step rfl rfl (OpW.call (first := []) (captured := []) inferInstance rfl rfl (genI hs64)) ?_; rintro r30 _ ⟨rfl, ⟨v', rfl⟩⟩
    refine JL.lit (.tail .head) fun av' cv' ev' => ?_; subst ev'
    refine JL.pure rfl rfl (OpP.max rfl rfl) ?_
    refine JL.pure rfl rfl (OpP.assign rfl) ?_
    refine JL.nil ?_
    refine J.region ?_
    refine JL.pure rfl rfl (OpP.move rfl) ?_
    refine JL.pure rfl rfl (OpP.move rfl) ?_
    refine JL.mem rfl rfl (by apply OpM.buildSlice (by rfl) rfl (by rfl); (repeat (first | exact Fills.nil | (apply Fills.cons rfl rfl rfl; (case' hs => ((repeat (first | exact Spl.nil | apply Spl.here | apply Spl.there)); done)))))) ?_; rintro _ _ ⟨b34, rfl, rfl⟩
    refine JL.f5 ?_; refine JL.mem rfl rfl (OpM.appendH rfl (.inl ⟨_, Sl.und inferInstance⟩) (by rfl) rfl rfl (RdO.src (RdO.ofRow (.tail .head) (by first | exact Nat.le_refl _ | decide | omega)) (by first | assumption | exact fc_length _ _ | (simp; done) | (simp; omega))) (one1 rfl) (by simp only [maxLen]; omega) (by omega)) ?_; rintro _ _ ⟨⟨a35, c35, rfl⟩, rfl⟩
    refine JL.pure rfl rfl (OpP.assign rfl) ?_
    refine JL.nil ?_
    refine J.inBlock ?_
    refine J.region ?_
    refine JL.pure rfl rfl (OpP.addI rfl rfl (by omega) (by omega)) ?_
    refine JL.pure rfl rfl (OpP.move rfl) ?_
    refine JL.nil ?_
    rw [show (max (maxG (D.now.take i) : Int) (gen s)) = ((maxG (D.now.take (i + 1)) : Nat) : Int) by rw [hmx]; omega]
    refine back (i + 1, .slice a35 (i + 1) c35, qs ++ [(.slice (some ⟨gau, pau, none⟩) 64 cu, s)]) ⟨by dsimp only; omega, ?_, ?_, ?_⟩ (by dsimp only; omega) (by repeat (first | exact SubEnv.nil | refine SubEnv.cons (by first | rfl | exact congrArg (fun z => some (Value.int .i64 z)) (by omega) | (simp; done)) ?_)) (fun _ h => ?_)
    · dsimp only
      rw [List.length_append, hi2]; rfl
    · dsimp only
      rw [List.take_add_one, hs, ← hi3, recs, List.map_append]; rfl
    · dsimp only
      intro q hq
      rcases List.mem_append.1 hq with hq | hq
      · exact hi4 q hq
      · simp at hq; subst hq; exact ⟨_, _, by rw [hs64]⟩
    · dsimp only at h ⊢
      have h := Own.star_in (Own.pick (pre := [_, _, _, _, _, _, _]) [4, 6, 0, 5] rfl h)
      rw [List.map_append, List.reverse_append]
      refine Own.f1 ?_
      show Own _ _ (star (own 5 1 _ s.length (bcells s)) _ :: _)
      rw [hs64]
      exact h
  · have : i = D.now.length := by omega
    subst this
    rw [List.take_length] at hi3
    rw [List.take_length]
    refine J.lit .head fun az cz ez => ?_; subst ez
    refine J.seq ?_
    refine J.region ?_
    refine JL.decF rfl rfl (OpP.lss rfl rfl) (by omega) ?_
    refine JL.nil ?_
    refine J.seq ?_
    refine J.condF rfl ?_
    refine J.exit rfl ?_
    refine J.seq ?_
    refine J.region ?_
    refine JL.pure rfl rfl (OpP.move rfl) ?_
    refine JL.pure rfl rfl (OpP.move rfl) ?_
    refine JL.pure rfl rfl (OpP.assign rfl) ?_
    refine JL.pure rfl rfl (OpP.assign rfl) ?_
    refine JL.pure rfl rfl (OpP.assign rfl) ?_
    refine JL.nil ?_
    refine J.ret3 rfl rfl rfl rfl ?_
    refine ⟨_, ⟨_, qs, ⟨_, _, by rw [hi2]⟩, hi3, hi4, rfl, rfl⟩, fun _ h => Own.star_in ?_⟩
    rw [hi2]
    exact h
end Go.Proofs.F

-- seat f
namespace Go.Proofs.F
open Go Go.Gp Go.RowKit

/-- Parts of a slice, in an owned slice of its own. -/
def CutPost (w0 : World) (F0 F : List HProp) (l : List UInt8) (u : Value) (l' : List HProp) : Prop :=
  ∃ (a : Option Addr) (c : Nat) (ps : List (Value × List UInt8)), recs ps = cut l ∧ (∀ p ∈ ps, (∃ a c, p.1 = .slice a p.2.length c) ∧ RdO w0 F0 p.1 p.2.length (bcells p.2)) ∧ u = .slice a ps.length c ∧ l' = own 26 1 (.slice a ps.length c) ps.length (ps.map (·.1)) :: F
theorem CutPost.parts {w0 : World} {F : List HProp} {ps : List (Value × List UInt8)} {r : Value} (h : ∀ p ∈ ps, (∃ a c, p.1 = .slice a p.2.length c) ∧ RdO w0 F p.1 p.2.length (bcells p.2)) : Parts w0 (own 26 1 r ps.length (ps.map (·.1)) :: F) r ps :=
  ⟨RdO.own .head, fun p hp => ⟨(h p hp).1, (h p hp).2.conv fun _ h => h.tail⟩⟩
theorem parts_ok {w0 : World} {F0 F : List HProp} {v : Value} {l : List UInt8} (hl : l.length ≤ 1000000) (hF : ∀ w, Own w0 w F → Own w0 w F0) (hr : RdO w0 F0 v l.length (bcells l)) :
    FnO Tryd.prog w0 29 [v] F (CutPost w0 F0 F l) := by
  refine FnO.rdF hF hr fun hr1 => ?_
  obtain ⟨va, vc, rfl⟩ := hr1.lit
  refine FnO.weak ?_
  refine FnO.intro (n := 18) Tryd.func29 rfl rfl rfl ?_
  refine J.seq ?_
  refine J.region ?_
  refine JL.pure rfl rfl (OpP.assign rfl) ?_
  refine JL.nil ?_
  refine J.seq ?_
  refine J.region ?_
  refine JL.pure rfl rfl (OpP.assign rfl) ?_
  refine JL.nil ?_
  refine J.seq ?_
  refine J.block ?_
  refine J.loopI (σ := (Option Addr × Nat × List UInt8) × Value × List (Value × List UInt8)) (fun x => x.1.2.2.length) (fun x => recs x.2.2 ++ cut x.1.2.2 = cut l ∧ (∀ q ∈ x.2.2, (∃ a c, q.1 = .slice a q.2.length c) ∧ RdO w0 F0 q.1 q.2.length (bcells q.2)) ∧ RdO w0 F0 (.slice x.1.1 x.1.2.2.length x.1.2.1) x.1.2.2.length (bcells x.1.2.2) ∧ x.1.2.2.length + x.2.2.length ≤ l.length)
    (fun x => [(0, .slice x.1.1 x.1.2.2.length x.1.2.1), (3, x.2.1)])
    (fun x => own 26 1 x.2.1 x.2.2.length (x.2.2.map (·.1)) :: F) ((va, vc, l), .slice none 0 0, []) ⟨rfl, (by intro q h; cases h), hr, Nat.le_refl _⟩ (by repeat (first | exact SubEnv.nil | refine SubEnv.cons (by first | rfl | exact congrArg (fun z => some (Value.int .i64 z)) (by omega) | (simp; done)) ?_)) (fun _ h => Own.own_nil h) (fun ⟨⟨a, c, rest⟩, z, qs⟩ hi back => ?_)
  dsimp only at hi back ⊢
  obtain ⟨hi1, hi2, hi3, hi4⟩ := hi
  by_cases hlt : 52 < rest.length
  · refine J.rd (hi3.conv fun w h => hF w h.tail) fun hr2 => ?_
    obtain ⟨b, o, c', e, hc, _⟩ := hr2.pos (by omega)
    cases e
    have h1 := RdO.to (k := 52) 1 hi3 (by omega)
    have h2 := RdO.from (k := 52) 1 hi3 (by omega) (by rw [bcells_length]; omega)
    have e52 : (rest.take 52).length = 52 := by rw [List.length_take]; omega
    have ed : (rest.drop 52).length = rest.length - 52 := List.length_drop
    rw [show 52 * 1 = 52 from rfl, bcells_take] at h1
    rw [show 52 * 1 = 52 from rfl, bcells_drop] at h2
    refine J.lit .head fun az cz ez => ?_; subst ez
    refine J.seq ?_
    refine J.seq ?_
    refine J.region ?_
    refine JL.pure rfl rfl (OpP.move rfl) ?_
    refine JL.pure rfl rfl (OpP.len rfl rfl) ?_
    refine JL.decT rfl rfl (OpP.gtr rfl rfl) (by omega) ?_
    refine JL.nil ?_
    refine J.condT rfl ?_
    refine J.skip ?_
    refine J.block ?_
    refine J.seq ?_
    refine J.region ?_
    refine JL.pure rfl rfl (OpP.move rfl) ?_
    refine JL.pure rfl rfl (OpP.move rfl) ?_
    refine JL.pure rfl rfl (OpP.sliceTo 52 rfl rfl rfl (by omega)) ?_
    refine JL.mem rfl rfl (by apply OpM.buildSlice (by rfl) rfl (by rfl); (repeat (first | exact Fills.nil | (apply Fills.cons rfl rfl rfl; (case' hs => ((repeat (first | exact Spl.nil | apply Spl.here | apply Spl.there)); done)))))) ?_; rintro _ _ ⟨b10, rfl, rfl⟩
    refine JL.f1 ?_; refine JL.mem rfl rfl (OpM.appendH rfl (.inl ⟨_, Sl.und inferInstance⟩) (by rfl) rfl rfl (RdO.src (RdO.ofRow (.tail .head) (by first | exact Nat.le_refl _ | decide | omega)) (by first | assumption | exact fc_length _ _ | (simp; done) | (simp; omega))) (one1 rfl) (by simp only [maxLen]; omega) (by omega)) ?_; rintro _ _ ⟨⟨a11, c11, rfl⟩, rfl⟩
    refine JL.pure rfl rfl (OpP.assign rfl) ?_
    refine JL.nil ?_
    refine J.region ?_
    refine JL.pure rfl rfl (OpP.move rfl) ?_
    refine JL.pure rfl rfl (OpP.sliceFrom 52 rfl rfl rfl (by omega) (by omega)) ?_
    refine JL.pure rfl rfl (OpP.assign rfl) ?_
    refine JL.nil ?_
    refine J.inBlock ?_
    refine back ((some ⟨b, if c = 52 then o else o + 52, none⟩, c - 52, rest.drop 52), .slice a11 (qs.length + 1) c11, qs ++ [(.slice (some ⟨b, o, none⟩) 52 c, rest.take 52)]) ⟨?_, ?_, ?_, ?_⟩ (by dsimp only; omega) (by dsimp only; rw [ed]; exact (by repeat (first | exact SubEnv.nil | refine SubEnv.cons (by first | rfl | exact congrArg (fun z => some (Value.int .i64 z)) (by omega) | (simp; done)) ?_))) (fun _ h => ?_)
    · dsimp only
      rw [← hi1, recs, List.map_append, cut_long (r := rest) hlt, List.append_assoc]; rfl
    · dsimp only
      intro q hq
      rcases List.mem_append.1 hq with hq | hq
      · exact hi2 q hq
      · simp only [List.mem_singleton] at hq
        subst hq
        dsimp only
        rw [e52]
        exact ⟨⟨_, _, rfl⟩, h1⟩
    · dsimp only
      rw [ed]
      exact h2
    · dsimp only
      rw [ed, List.length_append]
      simp only [List.length_singleton]
      omega
    · dsimp only at h ⊢
      rw [List.length_append, List.map_append]
      exact Own.pick (pre := [_, _]) [0] rfl h
  · refine J.lit .head fun az cz ez => ?_; subst ez
    refine J.seq ?_
    refine J.seq ?_
    refine J.region ?_
    refine JL.pure rfl rfl (OpP.move rfl) ?_
    refine JL.pure rfl rfl (OpP.len rfl rfl) ?_
    refine JL.decF rfl rfl (OpP.gtr rfl rfl) (by omega) ?_
    refine JL.nil ?_
    refine J.condF rfl ?_
    refine J.exit rfl ?_
    refine J.seq ?_
    refine J.region ?_
    refine JL.pure rfl rfl (OpP.move rfl) ?_
    refine JL.pure rfl rfl (OpP.move rfl) ?_
    refine JL.mem rfl rfl (by apply OpM.buildSlice (by rfl) rfl (by rfl); (repeat (first | exact Fills.nil | (apply Fills.cons rfl rfl rfl; (case' hs => ((repeat (first | exact Spl.nil | apply Spl.here | apply Spl.there)); done)))))) ?_; rintro _ _ ⟨b16, rfl, rfl⟩
    refine JL.f1 ?_; refine JL.mem rfl rfl (OpM.appendH rfl (.inl ⟨_, Sl.und inferInstance⟩) (by rfl) rfl rfl (RdO.src (RdO.ofRow (.tail .head) (by first | exact Nat.le_refl _ | decide | omega)) (by first | assumption | exact fc_length _ _ | (simp; done) | (simp; omega))) (one1 rfl) (by simp only [maxLen]; omega) (by omega)) ?_; rintro _ _ ⟨⟨a17, c17, rfl⟩, rfl⟩
    refine JL.pure rfl rfl (OpP.assign rfl) ?_
    refine JL.nil ?_
    refine J.ret1 rfl rfl ?_
    refine ⟨_, ⟨_, _, qs ++ [(.slice a rest.length c, rest)], ?_, ?_, by rw [List.length_append]; rfl, rfl⟩, fun _ h => ?_⟩
    · rw [← hi1, recs, List.map_append, cut_short (r := rest) (by omega)]; rfl
    · intro q hq
      rcases List.mem_append.1 hq with hq | hq
      · exact hi2 q hq
      · simp only [List.mem_singleton] at hq
        subst hq
        exact ⟨⟨_, _, rfl⟩, hi3⟩
    · rw [List.length_append, List.map_append]
      exact Own.pick (pre := [_, _]) [0] rfl h
section
variable {P : Program} {env : Env} {dst : Option Tmp} {ty : TypeId} {pos : String} {after : Array Edge} {g : Option (Nat × Bool)}
theorem OpP.sliceNilFT {x lo hi : Operand} {k k' : IntKind} {t e sz by_ : Nat} {v v' : Int} [hs : Sl P t e sz by_] (hx : ev env x = some (.slice none 0 0)) (elo : ev env lo = some (.int k v)) (ehi : ev env hi = some (.int k' v')) (h0 : v = 0) (h1 : v' = 0) :
    OpP P ⟨dst, .slice t x (some lo) (some hi) none, ty, pos, after, g⟩ env (.slice none 0 0) := by
  subst h0 h1
  refine ⟨fun ρ hr w => ?_⟩
  have hx' := hr x (by simp [Op.operands]) _ hx
  have e2 := hr lo (by simp [Op.operands]) _ elo
  have e3 := hr hi (by simp [Op.operands]) _ ehi
  simp only [execOp, hx', Option.map_none, Option.map_some, e2, e3, Sem.run_bind]
  rw [run_slice_nil hs w (.inr ⟨_, rfl⟩) (.inr ⟨_, rfl⟩)]
  rfl
theorem OpP.slice0FT {x lo hi : Operand} {k k' : IntKind} {t e sz by_ cap : Nat} {a : Addr} {v v' : Int} [hs : Sl P t e sz by_] (hx : ev env x = some (.slice (some a) 0 cap)) (elo : ev env lo = some (.int k v)) (ehi : ev env hi = some (.int k' v')) (hv : v = 0) (hv' : v' = 0) :
    OpP P ⟨dst, .slice t x (some lo) (some hi) none, ty, pos, after, g⟩ env (.slice (some a) 0 cap) := by
  subst hv hv'
  exact OpP.slice00 (vlo := some (.int k 0)) (vhi := some (.int k' 0)) hx (by simp [elo]) (by simp [ehi]) (.inr ⟨_, rfl⟩) (.inr ⟨_, rfl⟩)
end
theorem refCut_ok {w0 : World} {F0 F : List HProp} {v : Value} {l : List UInt8} (hl : l.length ≤ 1000000) (hs : ShapeOf v l.length) (hF : ∀ w, Own w0 w F → Own w0 w F0) (hr : RdO w0 F0 v l.length (bcells l)) :
    FnO Tryd.prog w0 9 [v] F (CutPost w0 F0 F l) := by
  refine FnO.rdF hF hr fun hr1 => ?_
  obtain ⟨va, vc, rfl⟩ := hr1.lit
  refine FnO.weak ?_
  refine FnO.intro (n := 27) Tryd.func9 rfl rfl rfl ?_
  refine J.seq ?_
  refine J.region ?_
  refine JL.pure rfl rfl (OpP.assign rfl) ?_
  refine JL.nil ?_
  refine J.seq ?_
  refine J.region ?_
  refine JL.pure rfl rfl (OpP.assign rfl) ?_
  refine JL.nil ?_
  refine J.seq ?_
  refine J.seq ?_
  refine J.region ?_
  refine JL.pure rfl rfl (OpP.assign rfl) ?_
  refine JL.nil ?_
  refine J.block ?_
  refine J.loopI (σ := Nat × Value × List (Value × List UInt8)) (fun x => l.length + 52 - x.1) (fun x => recs x.2.2 ++ (if x.1 = 0 ∨ x.1 < l.length then cut (l.drop x.1) else []) = cut l ∧ (∀ q ∈ x.2.2, (∃ a c, q.1 = .slice a q.2.length c) ∧ RdO w0 F0 q.1 q.2.length (bcells q.2)) ∧ x.1 ≤ l.length + 52 ∧ x.1 = 52 * x.2.2.length)
    (fun x => [(0, .slice va l.length vc), (4, .int .i64 (x.1 : Nat)), (3, x.2.1)])
    (fun x => own 26 1 x.2.1 x.2.2.length (x.2.2.map (·.1)) :: F) (0, .slice none 0 0, []) ⟨rfl, (by intro q h; cases h), Nat.zero_le _, rfl⟩ (by repeat (first | exact SubEnv.nil | refine SubEnv.cons (by first | rfl | exact congrArg (fun z => some (Value.int .i64 z)) (by omega) | (simp; done)) ?_)) (fun _ h => Own.own_nil h) (fun ⟨i, z, qs⟩ hi back => ?_)
  dsimp only at hi back ⊢
  obtain ⟨hi1, hi2, hi3, hi4⟩ := hi
  by_cases hlt : 0 < l.length
  · obtain ⟨b, o, c', e, hc, _⟩ := hr1.pos hlt
    cases e
    by_cases h0 : i < l.length
    · have hdl : (l.drop i).length = l.length - i := List.length_drop
      have h2 := RdO.from (k := i) 1 hr (by omega) (by rw [bcells_length]; omega)
      rw [Nat.mul_one, bcells_drop] at h2
      have e52 : ((l.drop i).take 52).length = min 52 (l.length - i) := by rw [List.length_take, hdl]
      have h3 := RdO.to (k := min 52 (l.length - i)) 1 h2 (by omega)
      rw [Nat.mul_one, bcells_take] at h3
      have ek : ((l.drop i).take (min 52 (l.length - i))) = (l.drop i).take 52 := by
        rw [← hdl]
        by_cases hh : 52 ≤ (l.drop i).length
        · rw [Nat.min_eq_left hh]
        · rw [Nat.min_eq_right (by omega), List.take_length, List.take_of_length_le (by omega)]
      rw [ek] at h3
      rw [if_pos (.inr h0)] at hi1
      have hnext : cut (l.drop i) = (l.drop i).take 52 :: (if i + 52 = 0 ∨ i + 52 < l.length then cut (l.drop (i + 52)) else []) := by
        by_cases hh : 52 < (l.drop i).length
        · rw [cut_long hh, if_pos (by omega), List.drop_drop]
        · rw [cut_short hh, if_neg (by omega), List.take_of_length_le (by omega)]
      have em : (min ((i : Int) + 52) l.length).toNat - (i : Int).toNat = min 52 (l.length - i) := by omega
      refine J.lit .head fun az cz ez => ?_; subst ez
      refine J.seq ?_
      refine J.seq ?_
      refine J.region ?_
      refine JL.pure rfl rfl (OpP.move rfl) ?_
      refine JL.dec rfl rfl (OpP.eql rfl rfl) (fun h6 => ?_) (fun h6 => ?_)
      focus
        refine JL.pure rfl rfl (OpP.move rfl) ?_
        refine JL.skip rfl rfl ?_
        refine JL.skip rfl rfl ?_
        refine JL.skip rfl rfl ?_
        refine JL.skip rfl rfl ?_
        refine JL.pure rfl rfl (OpP.pickT rfl rfl) ?_
        refine JL.nil ?_
        refine J.condT rfl ?_
        refine J.skip ?_
        refine J.seq ?_
        refine J.block ?_
        refine J.region ?_
        refine JL.pure rfl rfl (OpP.move rfl) ?_
        refine JL.pure rfl rfl (OpP.move rfl) ?_
        refine JL.pure rfl rfl (OpP.move rfl) ?_
        refine JL.pure rfl rfl (OpP.move rfl) ?_
        refine JL.pure rfl rfl (OpP.addI rfl rfl (by omega) (by omega)) ?_
        refine JL.pure rfl rfl (OpP.move rfl) ?_
        refine JL.pure rfl rfl (OpP.len rfl rfl) ?_
        refine JL.pure rfl rfl (OpP.min rfl rfl) ?_
        refine JL.pure rfl rfl (OpP.sliceFTI rfl rfl rfl (by omega) (by omega) (by omega)) ?_
        refine JL.mem rfl rfl (by apply OpM.buildSlice (by rfl) rfl (by rfl); (repeat (first | exact Fills.nil | (apply Fills.cons rfl rfl rfl; (case' hs => ((repeat (first | exact Spl.nil | apply Spl.here | apply Spl.there)); done)))))) ?_; rintro _ _ ⟨b24, rfl, rfl⟩
        refine JL.f1 ?_; refine JL.mem rfl rfl (OpM.appendH rfl (.inl ⟨_, Sl.und inferInstance⟩) (by rfl) rfl rfl (RdO.src (RdO.ofRow (.tail .head) (by first | exact Nat.le_refl _ | decide | omega)) (by first | assumption | exact fc_length _ _ | (simp; done) | (simp; omega))) (one1 rfl) (by simp only [maxLen]; omega) (by omega)) ?_; rintro _ _ ⟨⟨a25, c25, rfl⟩, rfl⟩
        refine JL.pure rfl rfl (OpP.assign rfl) ?_
        refine JL.nil ?_
        refine J.inBlock ?_
        refine J.region ?_
        refine JL.pure rfl rfl (OpP.move rfl) ?_
        refine JL.pure rfl rfl (OpP.addI rfl rfl (by omega) (by omega)) ?_
        refine JL.pure rfl rfl (OpP.assign rfl) ?_
        refine JL.nil ?_
      rotate_left 1
      focus
        refine JL.pure rfl rfl (OpP.move rfl) ?_
        refine JL.pure rfl rfl (OpP.move rfl) ?_
        refine JL.pure rfl rfl (OpP.move rfl) ?_
        refine JL.pure rfl rfl (OpP.len rfl rfl) ?_
        refine JL.decT rfl rfl (OpP.lss rfl rfl) (by omega) ?_
        refine JL.pure rfl rfl (OpP.pickF rfl rfl) ?_
        refine JL.nil ?_
        refine J.condT rfl ?_
        refine J.skip ?_
        refine J.seq ?_
        refine J.block ?_
        refine J.region ?_
        refine JL.pure rfl rfl (OpP.move rfl) ?_
        refine JL.pure rfl rfl (OpP.move rfl) ?_
        refine JL.pure rfl rfl (OpP.move rfl) ?_
        refine JL.pure rfl rfl (OpP.move rfl) ?_
        refine JL.pure rfl rfl (OpP.addI rfl rfl (by omega) (by omega)) ?_
        refine JL.pure rfl rfl (OpP.move rfl) ?_
        refine JL.pure rfl rfl (OpP.len rfl rfl) ?_
        refine JL.pure rfl rfl (OpP.min rfl rfl) ?_
        refine JL.pure rfl rfl (OpP.sliceFTI rfl rfl rfl (by omega) (by omega) (by omega)) ?_
        refine JL.mem rfl rfl (by apply OpM.buildSlice (by rfl) rfl (by rfl); (repeat (first | exact Fills.nil | (apply Fills.cons rfl rfl rfl; (case' hs => ((repeat (first | exact Spl.nil | apply Spl.here | apply Spl.there)); done)))))) ?_; rintro _ _ ⟨b24, rfl, rfl⟩
        refine JL.f1 ?_; refine JL.mem rfl rfl (OpM.appendH rfl (.inl ⟨_, Sl.und inferInstance⟩) (by rfl) rfl rfl (RdO.src (RdO.ofRow (.tail .head) (by first | exact Nat.le_refl _ | decide | omega)) (by first | assumption | exact fc_length _ _ | (simp; done) | (simp; omega))) (one1 rfl) (by simp only [maxLen]; omega) (by omega)) ?_; rintro _ _ ⟨⟨a25, c25, rfl⟩, rfl⟩
        refine JL.pure rfl rfl (OpP.assign rfl) ?_
        refine JL.nil ?_
        refine J.inBlock ?_
        refine J.region ?_
        refine JL.pure rfl rfl (OpP.move rfl) ?_
        refine JL.pure rfl rfl (OpP.addI rfl rfl (by omega) (by omega)) ?_
        refine JL.pure rfl rfl (OpP.assign rfl) ?_
        refine JL.nil ?_
      rotate_left 1
      all_goals
        rw [em]
        refine back (i + 52, .slice a25 (qs.length + 1) c25, qs ++ [(.slice (some ⟨b, if vc = i then o else o + i, none⟩) (min 52 (l.length - i)) (vc - i), (l.drop i).take 52)]) ⟨?_, ?_, ?_, ?_⟩ (by dsimp only; omega) (by repeat (first | exact SubEnv.nil | refine SubEnv.cons (by first | rfl | exact congrArg (fun z => some (Value.int .i64 z)) (by omega) | (simp; done)) ?_)) (fun _ h => ?_)
        · dsimp only
          rw [← hi1, recs, List.map_append, List.append_assoc, hnext]; rfl
        · dsimp only
          intro q hq
          rcases List.mem_append.1 hq with hq | hq
          · exact hi2 q hq
          · simp only [List.mem_singleton] at hq
            subst hq
            dsimp only
            rw [e52]
            exact ⟨⟨_, _, rfl⟩, h3⟩
        · dsimp only; omega
        · dsimp only
          rw [List.length_append]
          simp only [List.length_singleton]
          omega
        · dsimp only at h ⊢
          rw [List.length_append, List.map_append]
          rw [Nat.mul_one] at h
          exact Own.pick (pre := [_, _]) [0] rfl h
    · rw [if_neg (by omega), List.append_nil] at hi1
      refine J.lit .head fun az cz ez => ?_; subst ez
      refine J.seq ?_
      refine J.seq ?_
      refine J.region ?_
      refine JL.pure rfl rfl (OpP.move rfl) ?_
      refine JL.decF rfl rfl (OpP.eql rfl rfl) (by omega) ?_
      refine JL.pure rfl rfl (OpP.move rfl) ?_
      refine JL.pure rfl rfl (OpP.move rfl) ?_
      refine JL.pure rfl rfl (OpP.move rfl) ?_
      refine JL.pure rfl rfl (OpP.len rfl rfl) ?_
      refine JL.decF rfl rfl (OpP.lss rfl rfl) (by omega) ?_
      refine JL.pure rfl rfl (OpP.pickF rfl rfl) ?_
      refine JL.nil ?_
      refine J.condF rfl ?_
      refine J.exit rfl ?_
      refine J.seq ?_
      refine J.region ?_
      refine JL.pure rfl rfl (OpP.move rfl) ?_
      refine JL.pure rfl rfl (OpP.assign rfl) ?_
      refine JL.nil ?_
      refine J.ret1 rfl rfl ?_
      exact ⟨_, ⟨_, _, qs, hi1, hi2, rfl, rfl⟩, fun _ h => h⟩
  · by_cases h0 : i = 0
    · subst h0
      have hl0 : l = [] := List.eq_nil_of_length_eq_zero (by omega)
      have hq0 : qs = [] := List.eq_nil_of_length_eq_zero (by omega)
      subst hl0 hq0
      rcases hs with hs | ⟨a, c, hs⟩
      · cases hs
        refine J.lit .head fun az cz ez => ?_; subst ez
        refine J.seq ?_
        refine J.seq ?_
        refine J.region ?_
        refine JL.pure rfl rfl (OpP.move rfl) ?_
        refine JL.decT rfl rfl (OpP.eql rfl rfl) (by omega) ?_
        refine JL.pure rfl rfl (OpP.move rfl) ?_
        refine JL.skip rfl rfl ?_
        refine JL.skip rfl rfl ?_
        refine JL.skip rfl rfl ?_
        refine JL.skip rfl rfl ?_
        refine JL.pure rfl rfl (OpP.pickT rfl rfl) ?_
        refine JL.nil ?_
        refine J.condT rfl ?_
        refine J.skip ?_
        refine J.seq ?_
        refine J.block ?_
        refine J.region ?_
        refine JL.pure rfl rfl (OpP.move rfl) ?_
        refine JL.pure rfl rfl (OpP.move rfl) ?_
        refine JL.pure rfl rfl (OpP.move rfl) ?_
        refine JL.pure rfl rfl (OpP.move rfl) ?_
        refine JL.pure rfl rfl (OpP.addI rfl rfl (by omega) (by omega)) ?_
        refine JL.pure rfl rfl (OpP.move rfl) ?_
        refine JL.pure rfl rfl (OpP.len rfl rfl) ?_
        refine JL.pure rfl rfl (OpP.min rfl rfl) ?_
        refine JL.pure rfl rfl (OpP.sliceNilFT rfl rfl rfl (by first | omega | (simp; done)) (by first | omega | (simp; done))) ?_
        refine JL.mem rfl rfl (by apply OpM.buildSlice (by rfl) rfl (by rfl); (repeat (first | exact Fills.nil | (apply Fills.cons rfl rfl rfl; (case' hs => ((repeat (first | exact Spl.nil | apply Spl.here | apply Spl.there)); done)))))) ?_; rintro _ _ ⟨b24, rfl, rfl⟩
        refine JL.f1 ?_; refine JL.mem rfl rfl (OpM.appendH0 rfl rfl (.inl ⟨_, Sl.und inferInstance⟩) (by rfl) rfl rfl (RdO.src (RdO.ofRow (.tail .head) (by first | exact Nat.le_refl _ | decide | omega)) (by first | assumption | exact fc_length _ _ | (simp; done) | (simp; omega))) (one1 rfl) (by simp only [maxLen]; omega) (by omega)) ?_; rintro _ _ ⟨⟨a25, c25, rfl⟩, rfl⟩
        refine JL.pure rfl rfl (OpP.assign rfl) ?_
        refine JL.nil ?_
        refine J.inBlock ?_
        refine J.region ?_
        refine JL.pure rfl rfl (OpP.move rfl) ?_
        refine JL.pure rfl rfl (OpP.addI rfl rfl (by omega) (by omega)) ?_
        refine JL.pure rfl rfl (OpP.assign rfl) ?_
        refine JL.nil ?_
        refine back (52, .slice a25 1 c25, [(.slice none 0 0, [])]) ⟨rfl, ?_, by dsimp only; omega, rfl⟩ (by dsimp only; omega) (by repeat (first | exact SubEnv.nil | refine SubEnv.cons (by first | rfl | exact congrArg (fun z => some (Value.int .i64 z)) (by omega) | (simp; done)) ?_)) (fun _ h => Own.pick (pre := [_, _]) [0] rfl h)
        intro q hq
        simp only [List.mem_singleton] at hq
        subst hq
        exact ⟨⟨_, _, rfl⟩, hr⟩
      · cases hs
        refine J.lit .head fun az cz ez => ?_; subst ez
        refine J.seq ?_
        refine J.seq ?_
        refine J.region ?_
        refine JL.pure rfl rfl (OpP.move rfl) ?_
        refine JL.decT rfl rfl (OpP.eql rfl rfl) (by omega) ?_
        refine JL.pure rfl rfl (OpP.move rfl) ?_
        refine JL.skip rfl rfl ?_
        refine JL.skip rfl rfl ?_
        refine JL.skip rfl rfl ?_
        refine JL.skip rfl rfl ?_
        refine JL.pure rfl rfl (OpP.pickT rfl rfl) ?_
        refine JL.nil ?_
        refine J.condT rfl ?_
        refine J.skip ?_
        refine J.seq ?_
        refine J.block ?_
        refine J.region ?_
        refine JL.pure rfl rfl (OpP.move rfl) ?_
        refine JL.pure rfl rfl (OpP.move rfl) ?_
        refine JL.pure rfl rfl (OpP.move rfl) ?_
        refine JL.pure rfl rfl (OpP.move rfl) ?_
        refine JL.pure rfl rfl (OpP.addI rfl rfl (by omega) (by omega)) ?_
        refine JL.pure rfl rfl (OpP.move rfl) ?_
        refine JL.pure rfl rfl (OpP.len rfl rfl) ?_
        refine JL.pure rfl rfl (OpP.min rfl rfl) ?_
        refine JL.pure rfl rfl (OpP.slice0FT rfl rfl rfl (by first | omega | (simp; done)) (by first | omega | (simp; done))) ?_
        refine JL.mem rfl rfl (by apply OpM.buildSlice (by rfl) rfl (by rfl); (repeat (first | exact Fills.nil | (apply Fills.cons rfl rfl rfl; (case' hs => ((repeat (first | exact Spl.nil | apply Spl.here | apply Spl.there)); done)))))) ?_; rintro _ _ ⟨b24, rfl, rfl⟩
        refine JL.f1 ?_; refine JL.mem rfl rfl (OpM.appendH0 rfl rfl (.inl ⟨_, Sl.und inferInstance⟩) (by rfl) rfl rfl (RdO.src (RdO.ofRow (.tail .head) (by first | exact Nat.le_refl _ | decide | omega)) (by first | assumption | exact fc_length _ _ | (simp; done) | (simp; omega))) (one1 rfl) (by simp only [maxLen]; omega) (by omega)) ?_; rintro _ _ ⟨⟨a25, c25, rfl⟩, rfl⟩
        refine JL.pure rfl rfl (OpP.assign rfl) ?_
        refine JL.nil ?_
        refine J.inBlock ?_
        refine J.region ?_
        refine JL.pure rfl rfl (OpP.move rfl) ?_
        refine JL.pure rfl rfl (OpP.addI rfl rfl (by omega) (by omega)) ?_
        refine JL.pure rfl rfl (OpP.assign rfl) ?_
        refine JL.nil ?_
        refine back (52, .slice a25 1 c25, [(.slice (some a) 0 vc, [])]) ⟨rfl, ?_, by dsimp only; omega, rfl⟩ (by dsimp only; omega) (by repeat (first | exact SubEnv.nil | refine SubEnv.cons (by first | rfl | exact congrArg (fun z => some (Value.int .i64 z)) (by omega) | (simp; done)) ?_)) (fun _ h => Own.pick (pre := [_, _]) [0] rfl h)
        intro q hq
        simp only [List.mem_singleton] at hq
        subst hq
        exact ⟨⟨_, _, rfl⟩, hr⟩
    · rw [if_neg (by omega), List.append_nil] at hi1
      refine J.lit .head fun az cz ez => ?_; subst ez
      refine J.seq ?_
      refine J.seq ?_
      refine J.region ?_
      refine JL.pure rfl rfl (OpP.move rfl) ?_
      refine JL.decF rfl rfl (OpP.eql rfl rfl) (by omega) ?_
      refine JL.pure rfl rfl (OpP.move rfl) ?_
      refine JL.pure rfl rfl (OpP.move rfl) ?_
      refine JL.pure rfl rfl (OpP.move rfl) ?_
      refine JL.pure rfl rfl (OpP.len rfl rfl) ?_
      refine JL.decF rfl rfl (OpP.lss rfl rfl) (by omega) ?_
      refine JL.pure rfl rfl (OpP.pickF rfl rfl) ?_
      refine JL.nil ?_
      refine J.condF rfl ?_
      refine J.exit rfl ?_
      refine J.seq ?_
      refine J.region ?_
      refine JL.pure rfl rfl (OpP.move rfl) ?_
      refine JL.pure rfl rfl (OpP.assign rfl) ?_
      refine JL.nil ?_
      refine J.ret1 rfl rfl ?_
      exact ⟨_, ⟨_, _, qs, hi1, hi2, rfl, rfl⟩, fun _ h => h⟩
end Go.Proofs.F

-- seat f
namespace Go.Proofs.F
open Go Go.Gp Go.RowKit

theorem Same_ok {w0 : World} {F : List HProp} {v1 v2 : Value} {ps1 ps2 : List (Value × List UInt8)} (hpl1 : ps1.length ≤ 9223372036854775807) (_ : ps2.length ≤ 9223372036854775807) (hp1 : Parts w0 F v1 ps1) (hp2 : Parts w0 F v2 ps2) :
    FnO Tryd.prog w0 20 [v1, v2] F (fun r l' => r = .bool (decide (recs ps1 = recs ps2)) ∧ l' = F) := by
  refine FnO.rdF (fun _ h => h) hp1.rd fun hr1 => ?_
  obtain ⟨va, vc, rfl⟩ := hr1.lit
  refine FnO.rdF (fun _ h => h) hp2.rd fun hr2 => ?_
  obtain ⟨ua, uc, rfl⟩ := hr2.lit
  refine FnO.intro (n := 28) Tryd.func20 rfl rfl rfl ?_
  by_cases hn : ps1.length = ps2.length
  · refine J.seq ?_
    refine J.region ?_
    refine JL.pure rfl rfl (OpP.assign rfl) ?_
    refine JL.nil ?_
    refine J.seq ?_
    refine J.seq ?_
    refine J.region ?_
    refine JL.pure rfl rfl (OpP.move rfl) ?_
    refine JL.pure rfl rfl (OpP.len rfl rfl) ?_
    refine JL.pure rfl rfl (OpP.move rfl) ?_
    refine JL.pure rfl rfl (OpP.len rfl rfl) ?_
    refine JL.decF rfl rfl (OpP.neq rfl rfl) (by omega) ?_
    refine JL.nil ?_
    refine J.condF rfl ?_
    refine J.skip ?_
    refine J.seq ?_
    refine J.seq ?_
    refine J.region ?_
    refine JL.pure rfl rfl (OpP.assign rfl) ?_
    refine JL.nil ?_
    refine J.block ?_
    refine J.loopI (fun i : Nat => ps1.length - i) (fun i => i ≤ ps1.length ∧ recs (ps1.take i) = recs (ps2.take i)) (fun i => [(5, .int .i64 (i : Nat)), (0, .slice va ps1.length vc), (1, .slice ua ps2.length uc)])
      (fun _ => F) 0 ⟨Nat.zero_le _, rfl⟩ (by repeat (first | exact SubEnv.nil | refine SubEnv.cons (by first | rfl | exact congrArg (fun z => some (Value.int .i64 z)) (by omega) | (simp; done)) ?_)) (fun _ h => h) (fun i hi back => ?_)
    dsimp only at hi back ⊢
    obtain ⟨hi1, hi2⟩ := hi
    by_cases hlt : i < ps1.length
    · obtain ⟨pa, pc, p, hpi, hpv, hpr⟩ := hp1.at hlt
      obtain ⟨qa, qc, q, hqi, hqv, hqr⟩ := hp2.at (hn ▸ hlt)
      have hct := recs_take hpi
      have hct2 := recs_take hqi
      have hrp : (recs ps1)[i]? = some p := by rw [recs, List.getElem?_map, hpi]; rfl
      have hrq : (recs ps2)[i]? = some q := by rw [recs, List.getElem?_map, hqi]; rfl
      refine J.seq ?_
      refine J.seq ?_
      refine J.region ?_
      refine JL.pure rfl rfl (OpP.move rfl) ?_
      refine JL.pure rfl rfl (OpP.move rfl) ?_
      refine JL.pure rfl rfl (OpP.len rfl rfl) ?_
      refine JL.decT rfl rfl (OpP.lss rfl rfl) (by omega) ?_
      refine JL.nil ?_
      refine J.condT rfl ?_
      refine J.skip ?_
      refine J.seq ?_
      refine J.block ?_
      refine J.seq ?_
      refine J.regionD [3, 4, 8, 9] (by kernel_rfl) ?_
      refine DL.pure (i := 0) (by kernel_rfl) (by kernel_rfl) rfl rfl rfl (OpP.move rfl) ?_
      refine DL.pure (i := 1) (by kernel_rfl) (by kernel_rfl) rfl rfl rfl (OpP.move rfl) ?_
      obtain ⟨gva, pva, qva, eva, kva, cva⟩ := hr1.pos (by omega); cases eva
      refine DL.pure (i := 2) (by kernel_rfl) (by kernel_rfl) rfl rfl rfl (OpP.indexAddr rfl rfl (by omega) (by omega)) ?_
      refine DL.read (i := 3) (by kernel_rfl) (by kernel_rfl) rfl rfl rfl (fun _ h => h) (OpR.load1 rfl (by apply Cells.cell cva (fun _ h => h); (case' hv => assumption); (case' ho => omega); done)) ?_
      refine DL.read (i := 4) (by kernel_rfl) (by kernel_rfl) rfl rfl rfl (fun _ h => h) (OpR.rdStr (by rfl) hpr (by rfl)) ?_
      refine DL.pure (i := 5) (by kernel_rfl) (by kernel_rfl) rfl rfl rfl (OpP.move rfl) ?_
      refine DL.pure (i := 6) (by kernel_rfl) (by kernel_rfl) rfl rfl rfl (OpP.move rfl) ?_
      obtain ⟨gua, pua, qua, eua, kua, cua⟩ := hr2.pos (by omega); cases eua
      refine DL.pure (i := 7) (by kernel_rfl) (by kernel_rfl) rfl rfl rfl (OpP.indexAddr rfl rfl (by omega) (by omega)) ?_
      refine DL.read (i := 8) (by kernel_rfl) (by kernel_rfl) rfl rfl rfl (fun _ h => h) (OpR.load1 rfl (by apply Cells.cell cua (fun _ h => h); (case' hv => assumption); (case' ho => omega); done)) ?_
      refine DL.read (i := 9) (by kernel_rfl) (by kernel_rfl) rfl rfl rfl (fun _ h => h) (OpR.rdStr (by rfl) hqr (by rfl)) ?_
      refine DL.dec (i := 10) (by kernel_rfl) (by kernel_rfl) rfl rfl rfl (OpP.neStr rfl rfl) (fun h27 => ?_) (fun h27 => ?_)
      focus
        refine DL.done (by kernel_rfl) ?_
        refine J.condT rfl ?_
        refine J.seq ?_
        refine J.region ?_
        refine JL.pure rfl rfl (OpP.assign rfl) ?_
        refine JL.nil ?_
        refine J.ret1 rfl rfl ?_
      rotate_left 1
      focus
        refine DL.done (by kernel_rfl) ?_
        refine J.condF rfl ?_
        refine J.skip ?_
        refine J.inBlock ?_
        refine J.region ?_
        refine JL.pure rfl rfl (OpP.move rfl) ?_
        refine JL.pure rfl rfl (OpP.addI rfl rfl (by omega) (by omega)) ?_
        refine JL.pure rfl rfl (OpP.assign rfl) ?_
        refine JL.nil ?_
      rotate_left 1
      · refine ⟨congrArg Value.bool (decide_eq_false fun e => h27 (strB_inj.2 ?_)).symm, rfl⟩
        rw [e, hrq] at hrp
        exact (Option.some.inj hrp).symm
      · refine back (i + 1) ⟨by omega, ?_⟩ (by omega) (by repeat (first | exact SubEnv.nil | refine SubEnv.cons (by first | rfl | exact congrArg (fun z => some (Value.int .i64 z)) (by omega) | (simp; done)) ?_)) (fun _ h => h)
        rw [hct, hct2, hi2, strB_inj.1 (Decidable.not_not.1 h27)]
    · have : i = ps1.length := by omega
      subst this
      rw [List.take_length, hn, List.take_length] at hi2
      refine J.seq ?_
      refine J.seq ?_
      refine J.region ?_
      refine JL.pure rfl rfl (OpP.move rfl) ?_
      refine JL.pure rfl rfl (OpP.move rfl) ?_
      refine JL.pure rfl rfl (OpP.len rfl rfl) ?_
      refine JL.decF rfl rfl (OpP.lss rfl rfl) (by omega) ?_
      refine JL.nil ?_
      refine J.condF rfl ?_
      refine J.exit rfl ?_
      refine J.seq ?_
      refine J.region ?_
      refine JL.pure rfl rfl (OpP.assign rfl) ?_
      refine JL.nil ?_
      refine J.ret1 rfl rfl ?_
      exact ⟨congrArg Value.bool (decide_eq_true hi2).symm, rfl⟩
  · refine J.seq ?_
    refine J.region ?_
    refine JL.pure rfl rfl (OpP.assign rfl) ?_
    refine JL.nil ?_
    refine J.seq ?_
    refine J.seq ?_
    refine J.region ?_
    refine JL.pure rfl rfl (OpP.move rfl) ?_
    refine JL.pure rfl rfl (OpP.len rfl rfl) ?_
    refine JL.pure rfl rfl (OpP.move rfl) ?_
    refine JL.pure rfl rfl (OpP.len rfl rfl) ?_
    refine JL.decT rfl rfl (OpP.neq rfl rfl) (by omega) ?_
    refine JL.nil ?_
    refine J.condT rfl ?_
    refine J.seq ?_
    refine J.region ?_
    refine JL.pure rfl rfl (OpP.assign rfl) ?_
    refine JL.nil ?_
    refine J.ret1 rfl rfl ?_
    refine ⟨congrArg Value.bool (decide_eq_false fun e => hn ?_).symm, rfl⟩
    have := congrArg List.length e
    simpa [recs] using this
end Go.Proofs.F

-- seat f
namespace Go.Proofs.F
open Go Go.Gp Go.RowKit
open Disk hiding spl_all

/-- A book's cells. -/
def bkC (g : Nat) (G n : Int) (v : Value) (h : List UInt8) (cnt : Int) (over : Bool) : List Value := .pointer (some ⟨g, 0, none⟩) :: .int .i64 G :: .int .i64 n :: v :: (hdC h cnt ++ [.bool over])
section
variable {w0 : World} {l : List HProp} {k t g : Nat} {G n cnt : Int} {v : Value} {h : List UInt8} {over : Bool}
theorem Cell.bk0 (hm : Has (Gp.row k t (bkC g G n v h cnt over)) l) : Cell w0 l ⟨k, 0, none⟩ (.pointer (some ⟨g, 0, none⟩)) := Cell.row hm rfl
theorem Cell.bk1 (hm : Has (Gp.row k t (bkC g G n v h cnt over)) l) : Cell w0 l ⟨k, 1, none⟩ (.int .i64 G) := Cell.row hm rfl
theorem Cell.bk2 (hm : Has (Gp.row k t (bkC g G n v h cnt over)) l) : Cell w0 l ⟨k, 2, none⟩ (.int .i64 n) := Cell.row hm rfl
theorem Cell.bk3 (hm : Has (Gp.row k t (bkC g G n v h cnt over)) l) : Cell w0 l ⟨k, 3, none⟩ v := Cell.row hm rfl
theorem Cell.bkO (hm : Has (Gp.row k t (bkC g G n v h cnt over)) l) (hl : h.length = 32) : Cell w0 l ⟨k, 37, none⟩ (.bool over) := by
  refine Cell.row hm ?_
  rw [bkC]
  simp only [List.getElem?_cons_succ]
  rw [List.getElem?_append_right (by rw [hdC_len hl]; omega), hdC_len hl]; rfl
theorem Cells.bkH (hm : Has (Gp.row k t (bkC g G n v h cnt over)) l) (hl : h.length = 32) : Cells w0 l k 4 (hdC h cnt) := by
  refine Cells.sub 33 hm ?_
  show (hdC h cnt ++ [Value.bool over]).take 33 = hdC h cnt
  rw [List.take_left' (hdC_len hl)]
theorem spl_bk2 {m : Int} : Spl (bkC g G n v h cnt over) 2 [.int .i64 m] (bkC g G m v h cnt over) := .there (.there (.here .nil))
theorem spl_bk3 {u : Value} : Spl (bkC g G n v h cnt over) 3 [u] (bkC g G n u h cnt over) := .there (.there (.there (.here .nil)))
theorem spl_pre {a b b' r : List Value} (h : Spl a 0 b b') : Spl (a ++ r) 0 b (b' ++ r) := by
  obtain ⟨h1, h2⟩ := h.eq
  have := Spl.mk (cs := a ++ r) (vs := b) (o := 0) (by rw [List.length_append]; omega)
  rw [h2]
  rw [List.drop_append_of_le_length (by omega)] at this
  simpa using this
theorem spl_bkH {h' : List UInt8} {c' : Int} (hl : h.length = 32) (hl' : h'.length = 32) : Spl (bkC g G n v h cnt over) 4 (hdC h' c') (bkC g G n v h' c' over) := by
  refine .there (.there (.there (.there (spl_pre ?_))))
  have := Spl.mk (cs := hdC h cnt) (vs := hdC h' c') (o := 0) (by rw [hdC_len hl, hdC_len hl']; omega)
  rw [Nat.zero_add, hdC_len hl', ← hdC_len (n := cnt) hl, List.drop_length] at this
  simpa using this
theorem spl_bkO {o : Bool} (hl : h.length = 32) : Spl (bkC g G n v h cnt over) 37 [.bool o] (bkC g G n v h cnt o) := by
  have := Spl.mk (cs := bkC g G n v h cnt over) (vs := [.bool o]) (o := 37) (by simp [bkC, hdC_len hl])
  have e : (bkC g G n v h cnt over).take 37 ++ [Value.bool o] ++ (bkC g G n v h cnt over).drop (37 + [Value.bool o].length) = bkC g G n v h cnt o := by
    have e1 : ∀ b, bkC g G n v h cnt b = (.pointer (some ⟨g, 0, none⟩) :: .int .i64 G :: .int .i64 n :: v :: hdC h cnt) ++ [.bool b] := fun b => rfl
    have e2 : (Value.pointer (some ⟨g, 0, none⟩) :: .int .i64 G :: .int .i64 n :: v :: hdC h cnt).length = 37 := by simp [hdC_len hl]
    rw [e1, e1, List.take_left' e2, List.drop_of_length_le (by rw [List.length_append, e2]; simp)]
    simp
  rw [e] at this
  exact this
end
theorem Over_ok {w0 : World} {F : List HProp} {k g : Nat} {G n cnt : Int} {v : Value} {h : List UInt8} {over : Bool} (hh : h.length = 32) :
    FnO Tryd.prog w0 17 [.pointer (some ⟨k, 0, none⟩)] (row k 60 (bkC g G n v h cnt over) :: F) (fun u l' => u = .bool over ∧ l' = row k 60 (bkC g G n v h cnt over) :: F) := by
  refine FnO.weak ?_
  refine FnO.intro (n := 7) Tryd.func17 rfl rfl rfl ?_
  refine J.seq ?_
  refine J.region ?_
  refine JL.pure rfl rfl (OpP.assign rfl) ?_
  refine JL.nil ?_
  refine J.seq ?_
  refine J.region ?_
  refine JL.pure rfl rfl (OpP.move rfl) ?_
  refine JL.pure rfl rfl (OpP.nilCheck rfl) ?_
  refine JL.pure rfl rfl (OpP.fieldAddr rfl) ?_
  refine JL.read rfl rfl (OpR.load1 rfl (Cell.bkO .head (by first | assumption | exact hsh_len (by assumption) _ | solve_by_elim))) ?_
  refine JL.pure rfl rfl (OpP.assign rfl) ?_
  refine JL.nil ?_
  refine J.ret1 rfl rfl ?_
  exact ⟨_, ⟨rfl, rfl⟩, fun _ h => h⟩
theorem Head_ok {w0 : World} {F : List HProp} {k g : Nat} {G n cnt : Int} {v : Value} {h : List UInt8} {over : Bool} (hh : h.length = 32) :
    FnO Tryd.prog w0 13 [.pointer (some ⟨k, 0, none⟩)] (row k 60 (bkC g G n v h cnt over) :: F) (fun u l' => u = .agg (hdC h cnt).toArray ∧ l' = row k 60 (bkC g G n v h cnt over) :: F) := by
  refine FnO.weak ?_
  refine FnO.intro (n := 7) Tryd.func13 rfl rfl rfl ?_
  refine J.seq ?_
  refine J.region ?_
  refine JL.mem rfl rfl OpM.alloc ?_; rintro _ _ ⟨b2, rfl, rfl⟩
  refine JL.nil ?_
  refine J.seq ?_
  refine J.region ?_
  refine JL.pure rfl rfl (OpP.move rfl) ?_
  refine JL.pure rfl rfl (OpP.nilCheck rfl) ?_
  refine JL.pure rfl rfl (OpP.fieldAddr rfl) ?_
  refine JL.read rfl rfl (OpR.loadN rfl (Cells.bkH (.tail .head) (by first | assumption | exact hsh_len (by assumption) _ | solve_by_elim)) (hdC_len (by first | assumption | exact hsh_len (by assumption) _ | solve_by_elim))) ?_
  refine JL.mem0 rfl (by apply OpM.storeN rfl rfl (hdC_len (by first | assumption | exact shaB_length _ _ | solve_by_elim)) hdC_one; (case' hu => exact .head); (case' hs => exact spl_all (by first | (rw [hdC_len (by first | assumption | exact shaB_length _ _ | solve_by_elim), hdC_len (by first | assumption | exact shaB_length _ _ | solve_by_elim)]; done) | (rw [hdC_len (by first | assumption | exact shaB_length _ _ | solve_by_elim)]; rfl))); done) ?_; rintro _ _ ⟨rfl, rfl⟩
  refine JL.nil ?_
  refine J.retC rfl rfl (by apply Cells.full; (with_reducible repeat (first | exact .head | apply Has.tail))) (by first | (rw [List.length_append, hdC_len (by first | assumption | exact shaB_length _ _ | solve_by_elim)]; rfl) | exact hdC_len (by first | assumption | exact shaB_length _ _ | solve_by_elim) | (rw [bcells_length]; first | assumption | exact shaB_length _ _ | solve_by_elim) | exact fc_length _ _ | exact fB_length _ _ | rfl) ?_
  exact ⟨_, ⟨rfl, rfl⟩, fun _ h => h.tail⟩
theorem Room_ok {w0 : World} {F : List HProp} {k g n : Nat} {G cnt : Int} {v : Value} {h : List UInt8} {over : Bool} {D : Dk} (hn : n ≤ D.now.length) :
    FnO Tryd.prog w0 16 [.pointer (some ⟨k, 0, none⟩)] (row k 60 (bkC g G n v h cnt over) :: diskR g D :: F) (fun u l' => u = .int .i64 (D.now.length - n : Nat) ∧ l' = row k 60 (bkC g G n v h cnt over) :: diskR g D :: F) := by
  refine FnO.fact (fun _ h => diskR_ok h.tail) fun hok => ?_
  have hsm := hok.small
  refine FnO.weak ?_
  refine FnO.intro (n := 13) Tryd.func16 rfl rfl rfl ?_
  refine J.seq ?_
  refine J.region ?_
  refine JL.pure rfl rfl (OpP.assign rfl) ?_
  refine JL.nil ?_
  refine J.seq ?_
  refine J.regionD [3, 8] (by kernel_rfl) ?_
  refine DL.pure (i := 0) (by kernel_rfl) (by kernel_rfl) rfl rfl rfl (OpP.move rfl) ?_
  refine DL.pure (i := 1) (by kernel_rfl) (by kernel_rfl) rfl rfl rfl (OpP.nilCheck rfl) ?_
  refine DL.pure (i := 2) (by kernel_rfl) (by kernel_rfl) rfl rfl rfl (OpP.fieldAddr rfl) ?_
  refine DL.read (i := 3) (by kernel_rfl) (by kernel_rfl) rfl rfl rfl (fun _ h => h) (OpR.load1 rfl (Cell.bk0 .head)) ?_
  refine DL.pure (i := 5) (by kernel_rfl) (by kernel_rfl) rfl rfl rfl (OpP.move rfl) ?_
  refine DL.pure (i := 6) (by kernel_rfl) (by kernel_rfl) rfl rfl rfl (OpP.nilCheck rfl) ?_
  refine DL.pure (i := 7) (by kernel_rfl) (by kernel_rfl) rfl rfl rfl (OpP.fieldAddr rfl) ?_
  refine DL.read (i := 8) (by kernel_rfl) (by kernel_rfl) rfl rfl rfl (fun _ h => h) (OpR.load1 rfl (Cell.bk2 .head)) ?_
  refine DL.only (i := 4) (by kernel_rfl) ?_
  refine DL1.f1 ?_; refine DL1.stepK rfl rfl rfl (by exact OpW.call (first := []) (captured := []) inferInstance rfl rfl (Sectors_ok (D := D))) (by rintro _ _ ⟨rfl, rfl⟩ _ h; exact Own.pick (pre := [_, _]) [1, 0] rfl h) ?_; rintro r7 _ ⟨rfl, rfl⟩
  refine DL.pure (i := 9) (by kernel_rfl) (by kernel_rfl) rfl rfl rfl (OpP.subI rfl rfl (by omega) (by omega)) ?_
  refine DL.pure (i := 10) (by kernel_rfl) (by kernel_rfl) rfl rfl rfl (OpP.assign rfl) ?_
  refine DL.done (by kernel_rfl) ?_
  refine J.ret1 rfl rfl ?_
  rw [show ((D.now.length : Int) - (n : Nat)) = ((D.now.length - n : Nat) : Int) by omega]
  exact ⟨_, ⟨rfl, rfl⟩, fun _ h => Own.f1 h⟩
end Go.Proofs.F

-- seat f
namespace Go.Proofs.F
open Go Go.Gp Go.RowKit
open Disk hiding spl_all

def TakePost (F : List HProp) (K : Ws) (k g : Nat) (G : Int) (n m cnt : Nat) (qs : List (Value × List UInt8)) (h : List UInt8) (over : Bool) (bs : List UInt8) (u : Value) (l' : List HProp) : Prop :=
  ∃ a c a1 c1, u = .tuple #[] ∧ l' = row k 60 (bkC g G (n + m : Nat) (.slice a (qs.length + 1) c) (shaB K (linkT h bs)) (cnt + 1 : Nat) over) :: ownP (.slice a (qs.length + 1) c) (qs ++ [(.slice a1 bs.length c1, bs)]) :: F
theorem take_ok {w0 : World} {F : List HProp} {K : Ws} {k g : Nat} {G : Int} {n m cnt : Nat} {x v : Value} {qs : List (Value × List UInt8)} {h : List UInt8} {over : Bool} {bs : List UInt8} (hK : Tab w0 0 64 fun j => w32 (K j)) (hh : h.length = 32) (hb : bs.length ≤ 80000) (hr : RdO w0 F x bs.length (bcells bs)) (hq : qs.length ≤ 1000000) (hc : cnt ≤ 1000000000) (hn : n + m ≤ 1000000000) :
    FnO Tryd.prog w0 28 [.pointer (some ⟨k, 0, none⟩), x, .int .i64 (m : Nat)] (row k 60 (bkC g G (n : Nat) v h (cnt : Nat) over) :: ownP v qs :: F) (TakePost F K k g G n m cnt qs h over bs) := by
  refine FnO.rdF (F := F) (fun _ h => h.tail.tail) hr fun hr1 => ?_
  obtain ⟨va, vc, rfl⟩ := hr1.lit
  refine FnO.conv (l' := own 26 1 v qs.length (qs.map (fun q : Value × List UInt8 => q.1)) :: ownAll qs.reverse :: row k 60 (bkC g G (n : Nat) v h (cnt : Nat) over) :: F) (fun _ h => Own.star_out (Own.f1 h)) ?_
  refine FnO.weak ?_
  refine FnO.intro (n := 34) Tryd.func28 rfl rfl rfl ?_
  refine J.lit .head fun av cv ev => ?_; subst ev
  refine J.seq ?_
  refine J.regionD [4] (by kernel_rfl) ?_
  refine DL.pure (i := 0) (by kernel_rfl) (by kernel_rfl) rfl rfl rfl (OpP.move rfl) ?_
  refine DL.pure (i := 1) (by kernel_rfl) (by kernel_rfl) rfl rfl rfl (OpP.move rfl) ?_
  refine DL.pure (i := 2) (by kernel_rfl) (by kernel_rfl) rfl rfl rfl (OpP.nilCheck rfl) ?_
  refine DL.pure (i := 3) (by kernel_rfl) (by kernel_rfl) rfl rfl rfl (OpP.fieldAddr rfl) ?_
  refine DL.read (i := 4) (by kernel_rfl) (by kernel_rfl) rfl rfl rfl (fun _ h => h) (OpR.load1 rfl (Cell.bk3 (.tail (.tail .head)))) ?_
  refine DL.pure (i := 5) (by kernel_rfl) (by kernel_rfl) rfl rfl rfl (OpP.move rfl) ?_
  refine DL.only (i := 6) (by kernel_rfl) ?_
  refine DL1.stepK rfl rfl rfl (by exact OpW.call (first := []) (captured := []) inferInstance rfl rfl (Bclone_ok (l := bs) (by omega) (hr.conv fun _ h => Own.pick (pre := [_, _, _]) [] rfl h))) (by rintro _ _ ⟨⟨a, ⟨c, rfl⟩⟩, rfl⟩ _ h; exact Own.pick (pre := [_, _, _, _]) [1, 2, 3] rfl h) ?_; rintro r12 _ ⟨⟨a, ⟨c, rfl⟩⟩, rfl⟩
  refine DL.only (i := 7) (by kernel_rfl) ?_
  refine DL1.stepK rfl rfl rfl (OpM.w (by apply OpM.buildSlice (by rfl) rfl (by rfl); (repeat (first | exact Fills.nil | (apply Fills.cons rfl rfl rfl; (case' hs => ((repeat (first | exact Spl.nil | apply Spl.here | apply Spl.there)); done))))))) (by rintro _ _ ⟨b13, rfl, rfl⟩ _ h; exact Own.pick (pre := [_, _, _, _, _]) [2, 3, 4] rfl h) ?_; rintro _ _ ⟨b13, rfl, rfl⟩
  refine DL.only (i := 8) (by kernel_rfl) ?_
  refine DL1.f2 ?_; refine DL1.stepF rfl rfl rfl (by kernel_rfl) (OpM.w (OpM.appendH rfl (.inl ⟨_, Sl.und inferInstance⟩) (by rfl) rfl rfl (RdO.src (RdO.ofRow (.tail .head) (by first | exact Nat.le_refl _ | decide | omega)) (by first | assumption | exact fc_length _ _ | (simp; done) | (simp; omega))) (one1 rfl) (by simp only [maxLen]; omega) (by omega))) ?_; rintro _ _ ⟨⟨a14, c14, rfl⟩, rfl⟩
  refine DL.pure (i := 9) (by kernel_rfl) (by kernel_rfl) rfl rfl rfl (OpP.nilCheck rfl) ?_
  refine DL.pure (i := 10) (by kernel_rfl) (by kernel_rfl) rfl rfl rfl (OpP.fieldAddr rfl) ?_
  refine DL.only (i := 11) (by kernel_rfl) ?_
  refine DL1.stepF0 rfl rfl (by kernel_rfl) (OpM.w (by apply OpM.store1 rfl rfl rfl; (case' hu => exact (.tail (.tail (.tail (.tail .head))))); (case' hs => exact spl_bk3); done)) ?_; rintro _ _ ⟨rfl, rfl⟩
  refine DL.done (by kernel_rfl) ?_
  refine J.seq ?_
  refine J.region ?_
  refine JL.pure rfl rfl (OpP.move rfl) ?_
  refine JL.pure rfl rfl (OpP.move rfl) ?_
  refine JL.pure rfl rfl (OpP.nilCheck rfl) ?_
  refine JL.pure rfl rfl (OpP.fieldAddr rfl) ?_
  refine JL.read rfl rfl (OpR.loadN rfl (Cells.bkH (.tail (.tail (.tail (.tail .head)))) (by first | assumption | exact hsh_len (by assumption) _ | solve_by_elim)) (hdC_len (by first | assumption | exact hsh_len (by assumption) _ | solve_by_elim))) ?_
  refine JL.pure rfl rfl (OpP.move rfl) ?_
  refine JL.step rfl rfl (OpW.call (first := []) (captured := []) inferInstance rfl rfl (NextH_ok hK hh hb (n := cnt) (by omega) (hr.conv fun _ h => Own.pick (pre := [_, _, _, _, _]) [] rfl h))) ?_; rintro r23 _ ⟨rfl, rfl⟩
  refine JL.pure rfl rfl (OpP.nilCheck rfl) ?_
  refine JL.pure rfl rfl (OpP.fieldAddr rfl) ?_
  refine JL.mem0 rfl (by apply OpM.storeN rfl rfl (hdC_len (by first | assumption | exact shaB_length _ _ | exact hsh_len (by assumption) _ | solve_by_elim)) hdC_one; (case' hu => exact (.tail (.tail (.tail (.tail .head))))); (case' hs => exact spl_bkH (by first | assumption | exact shaB_length _ _ | exact hsh_len (by assumption) _ | solve_by_elim) (by first | assumption | exact shaB_length _ _ | exact hsh_len (by assumption) _ | solve_by_elim)); done) ?_; rintro _ _ ⟨rfl, rfl⟩
  refine JL.nil ?_
  refine J.region ?_
  refine JL.pure rfl rfl (OpP.move rfl) ?_
  refine JL.pure rfl rfl (OpP.nilCheck rfl) ?_
  refine JL.pure rfl rfl (OpP.fieldAddr rfl) ?_
  refine JL.read rfl rfl (OpR.load1 rfl (Cell.bk2 (.tail (.tail (.tail (.tail .head)))))) ?_
  refine JL.pure rfl rfl (OpP.move rfl) ?_
  refine JL.pure rfl rfl (OpP.addI rfl rfl (by omega) (by omega)) ?_
  refine JL.pure rfl rfl (OpP.nilCheck rfl) ?_
  refine JL.pure rfl rfl (OpP.fieldAddr rfl) ?_
  refine JL.mem0 rfl (by apply OpM.store1 rfl rfl rfl; (case' hu => exact (.tail (.tail (.tail (.tail .head))))); (case' hs => exact spl_bk2); done) ?_; rintro _ _ ⟨rfl, rfl⟩
  refine JL.nil ?_
  refine J.fin0 rfl ?_
  rw [show ((n : Int) + (m : Nat)) = ((n + m : Nat) : Int) by omega]
  refine ⟨_, ⟨a14, c14, a, c, rfl, rfl⟩, fun _ h => ?_⟩
  have h := Own.star_in (Own.pick (pre := [_, _, _, _, _]) [2, 3, 4, 0] rfl h)
  refine Own.f1 (Own.star_in (Own.f2 (Own.f2 ?_)))
  rw [List.length_append, List.map_append, List.reverse_append]
  exact Own.pick (pre := [_, _, _]) [1, 2, 0] rfl h
end Go.Proofs.F

-- seat f
namespace Go.Proofs.F
open Go Go.Gp Go.RowKit
open Disk hiding spl_all

def OwnedPost (L : List HProp) (rs : List (List UInt8)) (r : Value) (l' : List HProp) : Prop :=
  ∃ (a : Option Addr) (c : Nat) (qs : List (Value × List UInt8)), r = .slice a qs.length c ∧ recs qs = rs ∧ (∀ q ∈ qs, ∃ a c, q.1 = .slice a q.2.length c) ∧ l' = ownP (.slice a qs.length c) qs :: L
theorem Records_ok {w0 : World} {F : List HProp} {k g : Nat} {G n cnt : Int} {v : Value} {h : List UInt8} {over : Bool} {ps : List (Value × List UInt8)} (hpl : ps.length ≤ 1000000) (hrl : ∀ p ∈ ps, p.2.length ≤ 80000) (hp : Parts w0 F v ps) :
    FnO Tryd.prog w0 14 [.pointer (some ⟨k, 0, none⟩)] (row k 60 (bkC g G n v h cnt over) :: F) (OwnedPost (row k 60 (bkC g G n v h cnt over) :: F) (recs ps)) := by
  refine FnO.rdF (F := F) (fun _ h => h.tail) hp.rd fun hp0 => ?_
  obtain ⟨va, vc, rfl⟩ := hp0.lit
  refine FnO.weak ?_
  refine FnO.intro (n := 22) Tryd.func14 rfl rfl rfl ?_
  refine J.seq ?_
  refine J.region ?_
  refine JL.pure rfl rfl (OpP.assign rfl) ?_
  refine JL.nil ?_
  refine J.seq ?_
  refine J.region ?_
  refine JL.pure rfl rfl (OpP.assign rfl) ?_
  refine JL.nil ?_
  refine J.seq ?_
  refine J.seq ?_
  refine J.region ?_
  refine JL.pure rfl rfl (OpP.move rfl) ?_
  refine JL.pure rfl rfl (OpP.nilCheck rfl) ?_
  refine JL.pure rfl rfl (OpP.fieldAddr rfl) ?_
  refine JL.read rfl rfl (OpR.load1 rfl (Cell.bk3 .head)) ?_
  refine JL.pure rfl rfl (OpP.len rfl rfl) ?_
  refine JL.pure rfl rfl (OpP.move rfl) ?_
  refine JL.nil ?_
  refine J.block ?_
  refine J.loopI (fun x : Nat × Value × List (Value × List UInt8) => ps.length - x.1) (fun x => x.1 ≤ ps.length ∧ x.2.2.length = x.1 ∧ recs x.2.2 = recs (ps.take x.1) ∧ ∀ q ∈ x.2.2, ∃ a c, q.1 = .slice a q.2.length c) (fun x => [(11, .int .i64 (x.1 : Nat)), (10, .int .i64 (ps.length : Nat)), (9, .slice va ps.length vc), (3, x.2.1)])
    (fun x => own 26 1 x.2.1 x.1 (x.2.2.map (·.1)) :: ownAll x.2.2.reverse :: row k 60 (bkC g G n (.slice va ps.length vc) h cnt over) :: F) (0, .slice none 0 0, []) ⟨Nat.zero_le _, rfl, rfl, fun _ h => nomatch h⟩ (by repeat (first | exact SubEnv.nil | refine SubEnv.cons (by first | rfl | exact congrArg (fun z => some (Value.int .i64 z)) (by omega) | (simp; done)) ?_)) (fun _ h => h.emp_in.own_nil) (fun ⟨i, z, qs⟩ hi back => ?_)
  dsimp only at hi back ⊢
  obtain ⟨hi1, hi2, hi3, hi4⟩ := hi
  by_cases hlt : i < ps.length
  · obtain ⟨pa, pc, p, hpi, hpv, hpr⟩ := hp.at hlt
    have hct := recs_take hpi
    have hpl2 : p.length ≤ 1000000 := by have := hrl _ (List.mem_of_getElem? hpi); dsimp only at this; omega
    refine J.lit .head fun az cz ez => ?_; subst ez
    refine J.seq ?_
    refine J.region ?_
    refine JL.decT rfl rfl (OpP.lss rfl rfl) (by omega) ?_
    refine JL.nil ?_
    refine J.seq ?_
    refine J.condT rfl ?_
    refine J.skip ?_
    refine J.seq ?_
    refine J.block ?_
    refine J.seq ?_
    refine J.region ?_
    obtain ⟨gva, pva, qva, eva, kva, cva⟩ := hp0.pos (by omega); cases eva
    refine JL.pure rfl rfl (OpP.indexAddr rfl rfl (by omega) (by omega)) ?_
    refine JL.read rfl rfl (OpR.load1 rfl (by apply Cells.cell cva (fun _ h => Own.pick (pre := [_, _, _]) [] rfl h); (case' hv => assumption); (case' ho => omega); done)) ?_
    refine JL.pure rfl rfl (OpP.assign rfl) ?_
    refine JL.nil ?_
    refine J.region ?_
    refine JL.pure rfl rfl (OpP.move rfl) ?_
    refine JL.pure rfl rfl (OpP.move rfl) ?_
    refine JL.step rfl rfl (OpW.call (first := []) (captured := []) inferInstance rfl rfl (Bclone_ok hpl2 (hpr.conv fun _ h => Own.pick (pre := [_, _, _]) [] rfl h))) ?_; rintro r17 _ ⟨⟨a, ⟨c, rfl⟩⟩, rfl⟩
    refine JL.mem rfl rfl (by apply OpM.buildSlice (by rfl) rfl (by rfl); (repeat (first | exact Fills.nil | (apply Fills.cons rfl rfl rfl; (case' hs => ((repeat (first | exact Spl.nil | apply Spl.here | apply Spl.there)); done)))))) ?_; rintro _ _ ⟨b18, rfl, rfl⟩
    refine JL.f2 ?_; refine JL.mem rfl rfl (OpM.appendH rfl (.inl ⟨_, Sl.und inferInstance⟩) (by rfl) rfl rfl (RdO.src (RdO.ofRow (.tail .head) (by first | exact Nat.le_refl _ | decide | omega)) (by first | assumption | exact fc_length _ _ | (simp; done) | (simp; omega))) (one1 rfl) (by simp only [maxLen]; omega) (by omega)) ?_; rintro _ _ ⟨⟨a19, c19, rfl⟩, rfl⟩
    refine JL.pure rfl rfl (OpP.assign rfl) ?_
    refine JL.nil ?_
    refine J.inBlock ?_
    refine J.region ?_
    refine JL.pure rfl rfl (OpP.addI rfl rfl (by omega) (by omega)) ?_
    refine JL.pure rfl rfl (OpP.move rfl) ?_
    refine JL.nil ?_
    refine back (i + 1, .slice a19 (i + 1) c19, qs ++ [(.slice a p.length c, p)]) ⟨by dsimp only; omega, ?_, ?_, ?_⟩ (by dsimp only; omega) (by repeat (first | exact SubEnv.nil | refine SubEnv.cons (by first | rfl | exact congrArg (fun z => some (Value.int .i64 z)) (by omega) | (simp; done)) ?_)) (fun _ h => ?_)
    · dsimp only
      rw [List.length_append, hi2]; rfl
    · dsimp only
      rw [hct, ← hi3, recs, List.map_append]; rfl
    · dsimp only
      intro q hq
      rcases List.mem_append.1 hq with hq | hq
      · exact hi4 q hq
      · simp at hq; subst hq; exact ⟨_, _, rfl⟩
    · dsimp only at h ⊢
      have h := Own.star_in (Own.pick (pre := [_, _, _, _, _]) [2, 3, 0, 4] rfl h)
      rw [List.map_append, List.reverse_append]
      exact Own.f1 h
  · have : i = ps.length := by omega
    subst this
    rw [List.take_length] at hi3
    refine J.lit .head fun az cz ez => ?_; subst ez
    refine J.seq ?_
    refine J.region ?_
    refine JL.decF rfl rfl (OpP.lss rfl rfl) (by omega) ?_
    refine JL.nil ?_
    refine J.seq ?_
    refine J.condF rfl ?_
    refine J.exit rfl ?_
    refine J.seq ?_
    refine J.region ?_
    refine JL.pure rfl rfl (OpP.move rfl) ?_
    refine JL.pure rfl rfl (OpP.assign rfl) ?_
    refine JL.nil ?_
    refine J.ret1 rfl rfl ?_
    refine ⟨_, ⟨az, cz, qs, by rw [hi2], hi3, hi4, rfl⟩, fun _ h => Own.star_in ?_⟩
    rw [hi2]
    exact h
end Go.Proofs.F

-- seat f
namespace Go.Proofs.F
open Go Go.Gp Go.RowKit
open Disk hiding spl_all

def cnts (rs : List (List UInt8 × Nat × Nat)) : Nat := (rs.map (·.2.2)).sum
def OpenPost (F : List HProp) (K : Ws) (g : Nat) (D : Dk) (rs : List (List UInt8 × Nat × Nat)) (u : Value) (l' : List HProp) : Prop :=
  ∃ (k : Nat) (a : Option Addr) (c : Nat) (qs : List (Value × List UInt8)), recs qs = rs.map (·.1) ∧ (∀ q ∈ qs, ∃ a c, q.1 = .slice a q.2.length c) ∧ u = .tuple #[.pointer (some ⟨k, 0, none⟩), .int .i64 0] ∧
    l' = row k 60 (bkC g (maxG D.now + 1 : Nat) (cnts rs : Nat) (.slice a qs.length c) (hsh K h0 (recs qs)) (qs.length : Nat) false) :: ownP (.slice a qs.length c) qs :: diskR g D :: F
theorem Parts.dropAt {w0 : World} {L : List HProp} {b p c n : Nat} {ps : List (Value × List UInt8)} (hp : Parts w0 L (.slice (some ⟨b, p, none⟩) ps.length c) ps) (hn : n ≤ ps.length) :
    Parts w0 L (.slice (some ⟨b, if c = n then p else p + n * 1, none⟩) (ps.length - n) (c - n)) (ps.drop n) := by
  have h := RdO.from (k := n) 1 hp.rd hn (by rw [List.length_map, Nat.mul_one])
  rw [Nat.mul_one, ← List.map_drop] at h
  refine ⟨?_, fun q hq => hp.each q (List.mem_of_mem_drop hq)⟩
  rw [List.length_drop, Nat.mul_one]
  exact h
theorem J.factOf {C : Cx} {k : List Item} {env : Env} {l : List HProp} {p : Prop} (hp : ∀ w, Own C.w0 w l → p) (h : p → J C k env l) : J C k env l := J.open (α := Unit) (p := fun _ => p) (l' := fun _ => l) (fun w ho => ⟨(), hp w ho, ho⟩) fun _ h' => h h'
theorem ownP_shape {w0 w : World} {l : List HProp} {a : Option Addr} {c : Nat} {qs : List (Value × List UInt8)} (h : Own w0 w (ownP (.slice a qs.length c) qs :: l)) : (a = none ∧ qs.length = 0 ∧ c = 0) ∨ ∃ g p, a = some ⟨g, p, none⟩ ∧ qs.length ≤ c := by
  rcases (Own.star_out h).own_out with ⟨q1, q2, _⟩ | ⟨g, pre, post, cap, q1, q2, _⟩
  · injection q1 with r1 r2 r3; exact .inl ⟨r1, q2, r3⟩
  · injection q1 with r1 r2 r3; subst r3; exact .inr ⟨g, pre.length, r1, q2⟩
/-- Every rest of an owned slice of slices. -/
theorem from_all {w0 : World} {F : List HProp} {a : Option Addr} {c : Nat} {qs : List (Value × List UInt8)} (hq : ∀ q ∈ qs, ∃ a c, q.1 = .slice a q.2.length c) (h : (a = none ∧ qs.length = 0 ∧ c = 0) ∨ ∃ g p, a = some ⟨g, p, none⟩ ∧ qs.length ≤ c) (n : Nat) (hn : n ≤ qs.length) :
    ∃ a' c', SlFrom Tryd.prog 24 (.slice a qs.length c) n (.slice a' (qs.drop n).length c') ∧ Parts w0 (ownP (.slice a qs.length c) qs :: F) (.slice a' (qs.drop n).length c') (qs.drop n) := by
  have hp := Parts.ofOwn (w0 := w0) (F := F) (r := .slice a qs.length c) hq
  rw [List.length_drop]
  rcases h with ⟨rfl, h1, rfl⟩ | ⟨b, p, rfl, h1⟩
  · have h0 : qs = [] := List.eq_nil_of_length_eq_zero h1
    subst h0
    have : n = 0 := by simpa using hn
    subst this
    exact ⟨none, 0, fun _ _ _ _ _ _ _ _ _ hx hh => OpP.sliceNilFrom hx hh rfl, hp⟩
  · exact ⟨_, _, fun _ _ _ _ _ _ _ _ _ hx hh => OpP.sliceFrom n hx hh rfl hn h1, Parts.dropAt hp hn⟩
theorem stand_u {w0 : World} {F : List HProp} {sa : Option Addr} {sc n least0 : Nat} {ps : List (Value × List UInt8)} (hn : n < 9223372036854775807) (hle : least0 ≤ 4294967296) (hl : ps.length ≤ 8192) (h64 : ∀ p ∈ ps, p.2.length = 64) (hp : Parts w0 F (.slice sa ps.length sc) ps) :
    FnO Tryd.prog w0 27 [.slice sa ps.length sc, .int .i64 (n : Nat), .int .i64 (least0 : Nat)] F (fun u l' => (standP n least0 (recs ps) = none ∧ u = .tuple #[.slice none 0 0, .int .i64 0, .int .i64 0] ∧ l' = F) ∨ ∃ (x : List UInt8) (g c : Nat) (a : Option Addr) (k : Nat), standP n least0 (recs ps) = some (x, g, c) ∧ u = .tuple #[.slice a x.length k, .int .i64 (g : Nat), .int .i64 (c : Nat)] ∧ l' = own 5 1 (.slice a x.length k) x.length (bcells x) :: F) :=
  stand_ok hn hle hl h64 hp
theorem take_u {w0 : World} {F : List HProp} {K : Ws} {k g : Nat} {G : Int} {n m cnt : Nat} {x v : Value} {qs : List (Value × List UInt8)} {h : List UInt8} {over : Bool} {bs : List UInt8} (hK : Tab w0 0 64 fun j => w32 (K j)) (hh : h.length = 32) (hb : bs.length ≤ 80000) (hr : RdO w0 F x bs.length (bcells bs)) (hq : qs.length ≤ 1000000) (hc : cnt ≤ 1000000000) (hn : n + m ≤ 1000000000) :
    FnO Tryd.prog w0 28 [.pointer (some ⟨k, 0, none⟩), x, .int .i64 (m : Nat)] (row k 60 (bkC g G (n : Nat) v h (cnt : Nat) over) :: ownP v qs :: F) (fun u l' => ∃ (a : Option Addr) (c : Nat) (a1 : Option Addr) (c1 : Nat), u = .tuple #[] ∧ l' = row k 60 (bkC g G (n + m : Nat) (.slice a (qs.length + 1) c) (shaB K (linkT h bs)) (cnt + 1 : Nat) over) :: ownP (.slice a (qs.length + 1) c) (qs ++ [(.slice a1 bs.length c1, bs)]) :: F) :=
  take_ok hK hh hb hr hq hc hn
theorem open_ok {w0 : World} {F : List HProp} {K : Ws} {g : Nat} {D : Dk} (hK : Tab w0 0 64 fun j => w32 (K j)) (hf : D.fuse ≠ 0) (hm : maxG D.now < 4294967295) :
    FnO Tryd.prog w0 10 [.pointer (some ⟨g, 0, none⟩)] (diskR g D :: F) (OpenPost F K g D (readFrom D.now 0 1)) := by
  refine FnO.fact (fun _ h => diskR_ok h) fun hok => ?_
  have hsm := hok.small
  refine FnO.weak ?_
  refine FnO.intro (n := 61) Tryd.func10 rfl rfl rfl ?_
  refine J.seq ?_
  refine J.region ?_
  refine JL.pure rfl rfl (OpP.assign rfl) ?_
  refine JL.pure rfl rfl (OpP.assign rfl) ?_
  refine JL.nil ?_
  refine J.seq ?_
  refine J.region ?_
  refine JL.pure rfl rfl (OpP.move rfl) ?_
  refine JL.step rfl rfl (OpW.call (first := []) (captured := []) inferInstance rfl rfl (sectors_ok (D := D) hf)) ?_; rintro r14 _ ⟨r, ⟨qs, ⟨⟨a, ⟨c, rfl⟩⟩, ⟨h14, ⟨h141, ⟨rfl, rfl⟩⟩⟩⟩⟩⟩
  refine JL.pure rfl rfl (OpP.move rfl) ?_
  refine JL.pure rfl rfl (OpP.extract rfl rfl) ?_
  refine JL.pure rfl rfl (OpP.extract rfl rfl) ?_
  refine JL.pure rfl rfl (OpP.extract rfl rfl) ?_
  refine JL.pure rfl rfl (OpP.assign rfl) ?_
  refine JL.pure rfl rfl (OpP.assign rfl) ?_
  refine JL.pure rfl rfl (OpP.assign rfl) ?_
  refine JL.nil ?_
  refine J.seq ?_
  refine J.block ?_
  refine J.seq ?_
  refine J.region ?_
  refine JL.pure rfl rfl (OpP.move rfl) ?_
  refine JL.decF rfl rfl (OpP.neq rfl rfl) (by omega) ?_
  refine JL.pure rfl rfl (OpP.assign rfl) ?_
  refine JL.nil ?_
  refine J.condF rfl ?_
  refine J.seq ?_
  refine J.region ?_
  refine JL.pure rfl rfl (OpP.move rfl) ?_
  refine JL.decF rfl rfl (OpP.eql rfl rfl) (by omega) ?_
  refine JL.pure rfl rfl (OpP.assign rfl) ?_
  refine JL.nil ?_
  refine J.condF rfl ?_
  refine J.skip ?_
  refine J.inBlock ?_
  refine J.seq ?_
  refine J.region ?_
  refine JL.pure rfl rfl (OpP.move rfl) ?_
  refine JL.pure rfl rfl (OpP.move rfl) ?_
  refine JL.pure rfl rfl (OpP.addI rfl rfl (by omega) (by omega)) ?_
  refine JL.pure rfl rfl (OpP.build rfl (by (repeat (first | exact Fills.nil | (apply Fills.cons rfl rfl rfl; (case' hs => ((repeat (first | exact Spl.nil | apply Spl.here | apply Spl.there)); done))))))) ?_
  refine JL.mem rfl rfl (OpM.box rfl rfl) ?_; rintro _ _ ⟨b29, rfl, rfl⟩
  refine JL.pure rfl rfl (OpP.assign rfl) ?_
  refine JL.nil ?_
  have hS : recs qs = D.now := by assumption
  have hq : ∀ q ∈ qs, ∃ a c, q.1 = .slice a q.2.length c := by assumption
  refine J.factOf (fun w h => ownP_shape (Own.f1 h)) fun hshp => ?_
  have hS2 := fun n hn => from_all (w0 := w0) (F := diskR g D :: F) hq hshp n hn
  have hlen : qs.length = D.now.length := by rw [← hS]; simp
  have h64 : ∀ q ∈ qs, q.2.length = 64 := fun q hq => by
    have := hok.now64 q.2 (hS ▸ List.mem_map_of_mem hq)
    rwa [bcells_length] at this
  rw [show ((maxG D.now : Int) + 1) = ((maxG D.now + 1 : Nat) : Int) by omega]
  generalize hF2 : ownP (.slice a qs.length c) qs :: diskR g D :: F = F2 at hS2 ⊢
  generalize hs : Value.slice a qs.length c = s at *
  refine J.seq ?_
  refine J.region ?_
  refine JL.pure rfl rfl (OpP.assign rfl) ?_
  refine JL.nil ?_
  refine J.block ?_
  refine J.loopI (σ := (Nat × Nat × List (List UInt8 × Nat × Nat)) × Value × List (Value × List UInt8)) (fun x => D.now.length - x.1.1)
    (fun x => x.1.2.2 ++ readFrom (D.now.drop x.1.1) x.2.2.length x.1.2.1 = readFrom D.now 0 1 ∧ recs x.2.2 = x.1.2.2.map (·.1) ∧ x.1.1 = cnts x.1.2.2 ∧ x.1.1 ≤ D.now.length ∧ x.1.2.1 ≤ 4294967295 ∧ x.2.2.length ≤ x.1.1 ∧ (∃ a c, x.2.1 = .slice a x.2.2.length c) ∧ ∀ q ∈ x.2.2, ∃ a c, q.1 = .slice a q.2.length c)
    (fun x => [(7, .pointer (some ⟨b29, 0, none⟩)), (4, s), (8, .int .i64 (x.1.2.1 : Nat))])
    (fun x => row b29 60 (bkC g (maxG D.now + 1 : Nat) (x.1.1 : Nat) x.2.1 (hsh K h0 (recs x.2.2)) (x.2.2.length : Nat) false) :: ownP x.2.1 x.2.2 :: F2) ((0, 1, []), .slice none 0 0, []) ⟨rfl, rfl, rfl, Nat.zero_le _, (by decide : 1 ≤ 4294967295), Nat.le_refl _, ⟨_, _, rfl⟩, (by intro q h; cases h)⟩ (by repeat (first | exact SubEnv.nil | refine SubEnv.cons (by first | rfl | exact congrArg (fun z => some (Value.int .i64 z)) (by omega) | (simp; done)) ?_)) (fun _ h => ?_) (fun ⟨⟨n, least, done⟩, v, ws⟩ hi back => ?_)
  · refine Own.f1 (Own.star_in (Own.own_nil (Own.emp_in ?_)))
    show Own _ _ (row b29 60 (_ :: _ :: _ :: _ :: (hdC h0 0 ++ _)) :: _)
    rw [h0_cells]
    exact h
  dsimp only at hi back ⊢
  obtain ⟨hi1, hi2, hi3, hi4, hi5, hi6, ⟨va, vc, rfl⟩, hi7⟩ := hi
  obtain ⟨a', c', hsl, hps⟩ := hS2 n (by omega)
  have hrec : recs (qs.drop n) = D.now.drop n := by rw [← hS, recs, recs, List.map_drop]
  refine J.block ?_
  refine J.seq ?_
  refine J.regionD [4, 9] (by kernel_rfl) ?_
  refine DL.pure (i := 0) (by kernel_rfl) (by kernel_rfl) rfl rfl rfl (OpP.move rfl) ?_
  refine DL.pure (i := 1) (by kernel_rfl) (by kernel_rfl) rfl rfl rfl (OpP.move rfl) ?_
  refine DL.pure (i := 2) (by kernel_rfl) (by kernel_rfl) rfl rfl rfl (OpP.nilCheck rfl) ?_
  refine DL.pure (i := 3) (by kernel_rfl) (by kernel_rfl) rfl rfl rfl (OpP.fieldAddr rfl) ?_
  refine DL.read (i := 4) (by kernel_rfl) (by kernel_rfl) rfl rfl rfl (fun _ h => h) (OpR.load1 rfl (Cell.bk2 .head)) ?_
  refine DL.pure (i := 5) (by kernel_rfl) (by kernel_rfl) rfl rfl rfl ((SlFrom.op (by assumption) rfl rfl)) ?_
  refine DL.pure (i := 6) (by kernel_rfl) (by kernel_rfl) rfl rfl rfl (OpP.move rfl) ?_
  refine DL.pure (i := 7) (by kernel_rfl) (by kernel_rfl) rfl rfl rfl (OpP.nilCheck rfl) ?_
  refine DL.pure (i := 8) (by kernel_rfl) (by kernel_rfl) rfl rfl rfl (OpP.fieldAddr rfl) ?_
  refine DL.read (i := 9) (by kernel_rfl) (by kernel_rfl) rfl rfl rfl (fun _ h => h) (OpR.load1 rfl (Cell.bk3 .head)) ?_
  refine DL.pure (i := 10) (by kernel_rfl) (by kernel_rfl) rfl rfl rfl (OpP.len rfl rfl) ?_
  refine DL.pure (i := 11) (by kernel_rfl) (by kernel_rfl) rfl rfl rfl (OpP.addI rfl rfl (by omega) (by omega)) ?_
  refine DL.pure (i := 12) (by kernel_rfl) (by kernel_rfl) rfl rfl rfl (OpP.move rfl) ?_
  refine DL.only (i := 13) (by kernel_rfl) ?_
  refine DL1.stepF rfl rfl rfl (by kernel_rfl) (by exact OpW.call (first := []) (captured := []) inferInstance rfl rfl (stand_u (ps := qs.drop n) (n := ws.length + 1) (least0 := least) (by omega) (by omega) (by rw [List.length_drop]; omega) (fun p hp => h64 p (List.mem_of_mem_drop hp)) (hps.conv (fun _ h => Own.pick (pre := [_, _]) [] rfl h)))) ?_; rintro r44 _ (⟨h44, ⟨rfl, rfl⟩⟩ | ⟨x, ⟨g1, ⟨c1, ⟨a1, ⟨k, ⟨h441, ⟨rfl, rfl⟩⟩⟩⟩⟩⟩⟩)
  focus
    refine DL.pure (i := 14) (by kernel_rfl) (by kernel_rfl) rfl rfl rfl (OpP.move rfl) ?_
    refine DL.pure (i := 15) (by kernel_rfl) (by kernel_rfl) rfl rfl rfl (OpP.extract rfl rfl) ?_
    refine DL.pure (i := 16) (by kernel_rfl) (by kernel_rfl) rfl rfl rfl (OpP.extract rfl rfl) ?_
    refine DL.pure (i := 17) (by kernel_rfl) (by kernel_rfl) rfl rfl rfl (OpP.extract rfl rfl) ?_
    refine DL.pure (i := 18) (by kernel_rfl) (by kernel_rfl) rfl rfl rfl (OpP.assign rfl) ?_
    refine DL.pure (i := 19) (by kernel_rfl) (by kernel_rfl) rfl rfl rfl (OpP.assign rfl) ?_
    refine DL.pure (i := 20) (by kernel_rfl) (by kernel_rfl) rfl rfl rfl (OpP.assign rfl) ?_
    refine DL.done (by kernel_rfl) ?_
    refine J.seq ?_
  rotate_left 1
  focus
    refine DL.pure (i := 14) (by kernel_rfl) (by kernel_rfl) rfl rfl rfl (OpP.move rfl) ?_
    refine DL.pure (i := 15) (by kernel_rfl) (by kernel_rfl) rfl rfl rfl (OpP.extract rfl rfl) ?_
    refine DL.pure (i := 16) (by kernel_rfl) (by kernel_rfl) rfl rfl rfl (OpP.extract rfl rfl) ?_
    refine DL.pure (i := 17) (by kernel_rfl) (by kernel_rfl) rfl rfl rfl (OpP.extract rfl rfl) ?_
    refine DL.pure (i := 18) (by kernel_rfl) (by kernel_rfl) rfl rfl rfl (OpP.assign rfl) ?_
    refine DL.pure (i := 19) (by kernel_rfl) (by kernel_rfl) rfl rfl rfl (OpP.assign rfl) ?_
    refine DL.pure (i := 20) (by kernel_rfl) (by kernel_rfl) rfl rfl rfl (OpP.assign rfl) ?_
    refine DL.done (by kernel_rfl) ?_
    refine J.seq ?_
  rotate_left 1
  · rw [hrec] at h44
    have hdone : done = readFrom D.now 0 1 := by rw [← hi1, readFrom_none h44, List.append_nil]
    refine J.seq ?_
    refine J.region ?_
    refine JL.pure rfl rfl (OpP.move rfl) ?_
    refine JL.decT rfl rfl (OpP.eql rfl rfl) (by omega) ?_
    refine JL.pure rfl rfl (OpP.move rfl) ?_
    refine JL.skip rfl rfl ?_
    refine JL.skip rfl rfl ?_
    refine JL.skip rfl rfl ?_
    refine JL.pure rfl rfl (OpP.pickT rfl rfl) ?_
    refine JL.nil ?_
    refine J.condT rfl ?_
    refine J.seq ?_
    refine J.region ?_
    refine JL.pure rfl rfl (OpP.move rfl) ?_
    refine JL.pure rfl rfl (OpP.assign rfl) ?_
    refine JL.pure rfl rfl (OpP.assign rfl) ?_
    refine JL.nil ?_
    refine J.ret2 rfl rfl rfl ?_
    refine ⟨_, ⟨b29, va, vc, ws, by rw [← hdone, hi2], hi7, rfl, rfl⟩, fun _ h => ?_⟩
    rw [← hdone, ← hi3]
    rw [← hF2] at h
    exact Own.pick (pre := [_, _, _]) [0, 1] rfl h
  rw [hrec] at h441
  obtain ⟨e1, e2, e3, _, e5, e6⟩ := standG_each h441
  have e5 := e5 rfl
  obtain ⟨s0, _, _, e7, _⟩ := e6 0 (by omega)
  have e8 : gen s0 < 4294967296 := nat_lt4 _
  have e9 : n + c1 ≤ D.now.length := by rw [List.length_drop] at e3; omega
  by_cases hx : 4096 < x.length
  · have hdone : done = readFrom D.now 0 1 := by rw [← hi1, readFrom_long h441 hx, List.append_nil]
    refine J.seq ?_
    refine J.region ?_
    refine JL.pure rfl rfl (OpP.move rfl) ?_
    refine JL.decF rfl rfl (OpP.eql rfl rfl) (by omega) ?_
    refine JL.pure rfl rfl (OpP.move rfl) ?_
    refine JL.pure rfl rfl (OpP.move rfl) ?_
    refine JL.pure rfl rfl (OpP.len rfl rfl) ?_
    refine JL.decT rfl rfl (OpP.gtr rfl rfl) (by omega) ?_
    refine JL.pure rfl rfl (OpP.pickF rfl rfl) ?_
    refine JL.nil ?_
    refine J.condT rfl ?_
    refine J.seq ?_
    refine J.region ?_
    refine JL.pure rfl rfl (OpP.move rfl) ?_
    refine JL.pure rfl rfl (OpP.assign rfl) ?_
    refine JL.pure rfl rfl (OpP.assign rfl) ?_
    refine JL.nil ?_
    refine J.ret2 rfl rfl rfl ?_
    refine ⟨_, ⟨b29, va, vc, ws, by rw [← hdone, hi2], hi7, rfl, rfl⟩, fun _ h => ?_⟩
    rw [← hdone, ← hi3]
    rw [← hF2] at h
    exact Own.pick (pre := [_, _, _, _]) [1, 2] rfl h
  · have hhl := hsh_len (K := K) (show h0.length = 32 by simp [h0]) (recs ws)
    refine J.seq ?_
    refine J.region ?_
    refine JL.pure rfl rfl (OpP.move rfl) ?_
    refine JL.decF rfl rfl (OpP.eql rfl rfl) (by omega) ?_
    refine JL.pure rfl rfl (OpP.move rfl) ?_
    refine JL.pure rfl rfl (OpP.move rfl) ?_
    refine JL.pure rfl rfl (OpP.len rfl rfl) ?_
    refine JL.decF rfl rfl (OpP.gtr rfl rfl) (by omega) ?_
    refine JL.pure rfl rfl (OpP.pickF rfl rfl) ?_
    refine JL.nil ?_
    refine J.condF rfl ?_
    refine J.skip ?_
    refine J.seq ?_
    refine J.region ?_
    refine JL.pure rfl rfl (OpP.move rfl) ?_
    refine JL.pure rfl rfl (OpP.move rfl) ?_
    refine JL.pure rfl rfl (OpP.move rfl) ?_
    refine JL.f2 ?_; refine JL.f2 ?_; refine JL.step rfl rfl (OpW.call (first := []) (captured := []) inferInstance rfl rfl (take_u (bs := x) hK hhl (by omega) (RdO.own .head) (by first | assumption | omega | rfl | exact Nat.le_of_ble_eq_true rfl | (simp; omega)) (by first | assumption | omega | rfl | exact Nat.le_of_ble_eq_true rfl | (simp; omega)) (by first | assumption | omega | rfl | exact Nat.le_of_ble_eq_true rfl | (simp; omega)))) ?_; rintro r59 _ ⟨a2, ⟨c2, ⟨a11, ⟨c11, ⟨rfl, rfl⟩⟩⟩⟩⟩
    refine JL.nil ?_
    refine J.region ?_
    refine JL.pure rfl rfl (OpP.move rfl) ?_
    refine JL.pure rfl rfl (OpP.assign rfl) ?_
    refine JL.nil ?_
    refine J.inBlock ?_
    refine back ((n + c1, g1, done ++ [(x, g1, c1)]), .slice a2 (ws.length + 1) c2, ws ++ [(.slice a11 x.length c11, x)]) ⟨?_, ?_, ?_, ?_, ?_, ?_, ⟨_, _, by rw [List.length_append]; rfl⟩, ?_⟩ (by dsimp only; omega) (by repeat (first | exact SubEnv.nil | refine SubEnv.cons (by first | rfl | exact congrArg (fun z => some (Value.int .i64 z)) (by omega) | (simp; done)) ?_)) (fun _ h => ?_)
    · dsimp only
      rw [← hi1, readFrom_some h441 hx, List.append_assoc, List.drop_drop, List.length_append]; rfl
    · dsimp only
      rw [recs, List.map_append, List.map_append, ← hi2]; rfl
    · dsimp only
      rw [hi3, cnts, cnts, List.map_append, List.sum_append]; simp
    · exact e9
    · dsimp only; omega
    · dsimp only
      rw [List.length_append, List.length_singleton]; omega
    · dsimp only
      intro q hq
      rcases List.mem_append.1 hq with hq | hq
      · exact hi7 q hq
      · simp only [List.mem_singleton] at hq; subst hq; exact ⟨_, _, rfl⟩
    · dsimp only at h ⊢
      rw [show hsh K h0 (recs (ws ++ [(Value.slice a11 x.length c11, x)])) = shaB K (linkT (hsh K h0 (recs ws)) x) by rw [recs, List.map_append]; exact hsh_snoc K h0 (recs ws) x, List.length_append]
      exact Own.pick (pre := [_, _, _]) [0, 1] rfl h
end Go.Proofs.F
