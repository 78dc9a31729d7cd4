/- A text of the proof of a statement about the given program: its part FA7. No person has read it. -/
import Derived.Test.YtoailinfboehlaaDoorFA1
import Derived.Test.YtoailinfboehlaaDoorFA6
import Derived.Test.YtoailinfboehlaaDoorFA5
import Derived.Test.YtoailinfboehlaaDoorFJ2
-- seat f
namespace Go.Proofs.F
open Go Go.Gp Go.RowKit

theorem layF_app : ∀ (k : Nat) (A B : Wr), layF k (A ++ B) = layF k A ++ layF (k + A.length) B
  | _, [], _ => rfl
  | k, v :: A, B => by
    rw [List.cons_append, layF, layF_app (k + 1) A B, layF, List.append_assoc, List.length_cons, show k + 1 + A.length = k + (A.length + 1) by omega]
theorem lay_at {W : Wr} {j : Nat} {w : List UInt8 × Nat} (h : W[j]? = some w) : lay W = lay (W.take j) ++ (secsOf (j + 1) w.2 w.1 ++ layF (j + 1) (W.drop (j + 1))) := by
  have hj : j < W.length := (List.getElem?_eq_some_iff.1 h).1
  have e : W = W.take j ++ w :: W.drop (j + 1) := by
    conv => lhs; rw [← List.take_append_drop j W]
    congr 1
    rw [List.drop_eq_getElem_cons hj]
    congr 1
    exact (List.getElem?_eq_some_iff.1 h).2
  conv => lhs; rw [lay, e, layF_app, List.length_take, Nat.min_eq_left (by omega), Nat.zero_add, layF]
  rfl
theorem mono_at : ∀ {least : Nat} {W : Wr} {top j : Nat} {w : List UInt8 × Nat}, Mono least W top → W[j]? = some w → endG least (W.take j) ≤ w.2 ∧ w.1.length ≤ 4096 ∧ w.2 ≤ top
  | least, v :: W, top, 0, w, ⟨h1, h2, h3⟩, h => by
    simp only [List.getElem?_cons_zero, Option.some.injEq] at h
    subst h
    have := h3.le
    exact ⟨h1, h2, by omega⟩
  | least, v :: W, top, j + 1, w, ⟨h1, h2, h3⟩, h => by
    rw [List.getElem?_cons_succ] at h
    have := mono_at (least := v.2) (W := W) (top := top) (j := j) h3 h
    exact this
end Go.Proofs.F

-- seat f
namespace Go.Proofs.F
open Go Go.Gp Go.RowKit
open Disk hiding spl_all

theorem layF_ge : ∀ (k : Nat) (W : Wr), W.length ≤ (layF k W).length
  | _, [] => Nat.le_refl _
  | k, w :: W => by
    have h1 := layF_ge (k + 1) W
    have h2 := cut_pos w.1
    rw [layF, List.length_append, secsOf_len, List.length_cons]
    omega
theorem refRead_ok {w0 : World} {F : List HProp} {v : Value} {ps : List (Value × List UInt8)} {W : Wr} {m cur : Nat} (hp : Parts w0 F v ps) (hl : ps.length ≤ 8192) (h64 : ∀ p ∈ ps, p.2.length = 64) (hW : recs ps = lay W ++ List.replicate m zsec) (hM : Mono 1 W cur) (hc : cur < 4294967290) (hn : W.length ≤ 100000) :
    FnO Tryd.prog w0 18 [v] F (fun u l' => ∃ (a : Option Addr) (c : Nat) (qs : List (Value × List UInt8)), recs qs = W.map (·.1) ∧ (∀ q ∈ qs, ∃ a c, q.1 = .slice a q.2.length c) ∧ u = .tuple #[.slice a qs.length c, .int .i64 ((lay W).length : Nat), .int .i64 (maxG (recs ps) : Nat)] ∧ l' = ownP (.slice a qs.length c) qs :: F) := by
  refine FnO.rdF (fun _ h => h) hp.rd fun hp0 => ?_
  obtain ⟨va, vc, rfl⟩ := hp0.lit
  refine FnO.weak ?_
  refine FnO.intro (n := 63) Tryd.func18 rfl rfl rfl ?_
  refine J.seq ?_
  refine J.region ?_
  refine JL.pure rfl rfl (OpP.assign rfl) ?_
  refine JL.pure rfl rfl (OpP.assign rfl) ?_
  refine JL.pure rfl rfl (OpP.assign rfl) ?_
  refine JL.nil ?_
  refine J.seq ?_
  refine J.region ?_
  refine JL.pure rfl rfl (OpP.assign rfl) ?_
  refine JL.nil ?_
  refine J.seq ?_
  refine J.region ?_
  refine JL.pure rfl rfl (OpP.assign rfl) ?_
  refine JL.pure rfl rfl (OpP.assign rfl) ?_
  refine JL.pure rfl rfl (OpP.assign rfl) ?_
  refine JL.nil ?_
  refine J.seq ?_
  refine J.seq ?_
  refine J.region ?_
  refine JL.pure rfl rfl (OpP.assign rfl) ?_
  refine JL.nil ?_
  refine J.block ?_
  refine J.loopI (fun i : Nat => ps.length - i) (fun i => i ≤ ps.length) (fun i => [(9, .int .i64 (i : Nat)), (0, .slice va ps.length vc), (5, .slice none 0 0), (6, .int .i64 0), (7, .int .i64 1), (8, .int .i64 (maxG ((recs ps).take i) : Nat))])
    (fun _ => F) 0 (Nat.zero_le _) (by repeat (first | exact SubEnv.nil | refine SubEnv.cons (by first | rfl | exact congrArg (fun z => some (Value.int .i64 z)) (by omega) | (simp; done)) ?_)) (fun _ h => h) (fun i hi back => ?_)
  by_cases hlt : i < ps.length
  · obtain ⟨pa, pc, s, hpi, hpv, hpr⟩ := hp.at hlt
    have hs64 : s.length = 64 := h64 _ (List.mem_of_getElem? hpi)
    have hgl : gen s < 4294967296 := nat_lt4 _
    have hm1 := maxG_u32 ((recs ps).take i)
    have hmx := maxG_take (l := recs ps) (i := i) (s := s) (by rw [recs, List.getElem?_map, hpi]; rfl)
    rw [hs64] at hpv hpr
    refine J.rd hpr fun hpr1 => ?_
    obtain ⟨b, o, c', e, hcc, _⟩ := hpr1.pos (by decide)
    cases e
    refine J.seq ?_
    refine J.seq ?_
    refine J.region ?_
    refine JL.pure rfl rfl (OpP.move rfl) ?_
    refine JL.pure rfl rfl (OpP.move rfl) ?_
    refine JL.pure rfl rfl (OpP.len rfl rfl) ?_
    refine JL.decT rfl rfl (OpP.lss rfl rfl) (by omega) ?_
    refine JL.nil ?_
    refine J.condT rfl ?_
    refine J.skip ?_
    refine J.seq ?_
    refine J.block ?_
    refine J.region ?_
    refine JL.pure rfl rfl (OpP.move rfl) ?_
    refine JL.pure rfl rfl (OpP.move rfl) ?_
    refine JL.pure rfl rfl (OpP.move rfl) ?_
    obtain ⟨gva, pva, qva, eva, kva, cva⟩ := hp0.pos (by omega); cases eva
    refine JL.pure rfl rfl (OpP.indexAddr rfl rfl (by omega) (by omega)) ?_
    refine JL.read rfl rfl (OpR.load1 rfl (by apply Cells.cell cva (fun _ h => h); (case' hv => assumption); (case' ho => omega); done)) ?_
    refine JL.pure rfl rfl (OpP.sliceFrom 4 rfl rfl rfl (by omega) (by omega)) ?_
    refine JL.step rfl rfl (OpW.call (first := []) (captured := []) inferInstance rfl rfl (numTail hs64 hpr)) ?_; rintro r26 _ ⟨rfl, rfl⟩
    refine JL.pure rfl rfl (OpP.max rfl rfl) ?_
    refine JL.pure rfl rfl (OpP.assign rfl) ?_
    refine JL.nil ?_
    refine J.inBlock ?_
    refine J.region ?_
    refine JL.pure rfl rfl (OpP.move rfl) ?_
    refine JL.pure rfl rfl (OpP.addI rfl rfl (by omega) (by omega)) ?_
    refine JL.pure rfl rfl (OpP.assign rfl) ?_
    refine JL.nil ?_
    rw [show (max (maxG ((recs ps).take i) : Int) (gen s)) = ((maxG ((recs ps).take (i + 1)) : Nat) : Int) by rw [hmx]; omega]
    exact back (i + 1) (by omega) (by omega) (by repeat (first | exact SubEnv.nil | refine SubEnv.cons (by first | rfl | exact congrArg (fun z => some (Value.int .i64 z)) (by omega) | (simp; done)) ?_)) (fun _ h => h)
  · have : i = ps.length := by omega
    subst this
    refine J.seq ?_
    refine J.seq ?_
    refine J.region ?_
    refine JL.pure rfl rfl (OpP.move rfl) ?_
    refine JL.pure rfl rfl (OpP.move rfl) ?_
    refine JL.pure rfl rfl (OpP.len rfl rfl) ?_
    refine JL.decF rfl rfl (OpP.lss rfl rfl) (by omega) ?_
    refine JL.nil ?_
    refine J.condF rfl ?_
    refine J.exit rfl ?_
    refine J.seq ?_
    refine J.seq ?_
    refine J.region ?_
    refine JL.pure rfl rfl (OpP.assign rfl) ?_
    refine JL.nil ?_
    refine J.block ?_
    rw [List.take_of_length_le (by simp)]
    refine J.loopI (σ := Nat × Value × List (Value × List UInt8)) (fun x => W.length + 1 - x.1) (fun x => x.1 ≤ W.length ∧ recs x.2.2 = (W.take x.1).map (·.1) ∧ ∀ q ∈ x.2.2, ∃ a c, q.1 = .slice a q.2.length c)
      (fun x => [(10, .int .i64 (x.1 : Nat)), (0, .slice va ps.length vc), (5, x.2.1), (6, .int .i64 ((lay (W.take x.1)).length : Nat)), (7, .int .i64 (endG 1 (W.take x.1) : Nat)), (8, .int .i64 (maxG (recs ps) : Nat))])
      (fun x => own 26 1 x.2.1 x.2.2.length (x.2.2.map (·.1)) :: ownAll x.2.2.reverse :: F) (0, .slice none 0 0, []) ⟨Nat.zero_le _, rfl, by intro q h; cases h⟩ (by repeat (first | exact SubEnv.nil | refine SubEnv.cons (by first | rfl | exact congrArg (fun z => some (Value.int .i64 z)) (by omega) | (simp; done)) ?_)) (fun _ h => h.emp_in.own_nil) (fun ⟨j, z, qs⟩ hi2 back => ?_)
    obtain ⟨g1, g2, g3⟩ := hi2
    dsimp only at g1 g2 g3 back ⊢
    have hqj : qs.length = j := by have := congrArg List.length g2; simp at this; omega
    subst hqj
    have hW2 := congrArg List.length hW
    rw [List.length_append, List.length_replicate] at hW2
    have hW3 : ps.length = (lay W).length + m := by simpa using hW2
    have hge := layF_ge 0 W
    rw [show layF 0 W = lay W from rfl] at hge
    by_cases hjw : qs.length < W.length
    · obtain ⟨w, hw⟩ : ∃ w, W[qs.length]? = some w := ⟨_, List.getElem?_eq_getElem hjw⟩
      have hla := lay_at hw
      obtain ⟨m1, m2, m3⟩ := mono_at hM hw
      have hcp := cut_pos w.1
      have hll := congrArg List.length hla
      rw [List.length_append, List.length_append, secsOf_len] at hll
      have hsec : ∀ (i : Nat) b, (cut w.1)[i]? = some b → (recs ps)[(lay (W.take qs.length)).length + i]? = some (secOf (qs.length + 1) w.2 i (cut w.1).length b) := fun i b hb => by
        have hi : i < (cut w.1).length := (List.getElem?_eq_some_iff.1 hb).1
        rw [hW, hla, List.append_assoc, List.getElem?_append_right (by omega), Nat.add_sub_cancel_left, List.append_assoc, List.getElem?_append_left (by rw [secsOf_len]; exact hi)]
        have := secsFrom_get (n := qs.length + 1) (g := w.2) (c := (cut w.1).length) (i := 0) hb
        rw [Nat.zero_add] at this
        exact this
      have hone : ∀ {G : List HProp} (_ : Parts w0 G (.slice va ps.length vc) ps), _ := fun {G} hG => refOne_hit (F := G) (n := qs.length + 1) (g := w.2) (least := endG 1 (W.take qs.length)) (r := w.1) (at' := (lay (W.take qs.length)).length) hG hl (by omega) (by omega) m1 m2 (by omega) hsec
      refine J.lit .head fun az cz ez => ?_; subst ez
      refine J.seq ?_
      refine J.seq ?_
      refine J.region ?_
      refine JL.pure rfl rfl (OpP.move rfl) ?_
      refine JL.pure rfl rfl (OpP.move rfl) ?_
      refine JL.pure rfl rfl (OpP.len rfl rfl) ?_
      refine JL.decT rfl rfl (OpP.leq rfl rfl) (by omega) ?_
      refine JL.nil ?_
      refine J.condT rfl ?_
      refine J.skip ?_
      refine J.seq ?_
      refine J.block ?_
      refine J.seq ?_
      refine J.region ?_
      refine JL.pure rfl rfl (OpP.move rfl) ?_
      refine JL.pure rfl rfl (OpP.move rfl) ?_
      refine JL.pure rfl rfl (OpP.move rfl) ?_
      refine JL.pure rfl rfl (OpP.len rfl rfl) ?_
      refine JL.pure rfl rfl (OpP.addI rfl rfl (by omega) (by omega)) ?_
      refine JL.pure rfl rfl (OpP.move rfl) ?_
      refine JL.step rfl rfl (OpW.call (first := []) (captured := []) inferInstance rfl rfl (hone (hp.conv (fun _ h => Own.pick (pre := [_, _]) [] rfl h)))) ?_; rintro r41 _ ⟨a, ⟨k, ⟨rfl, rfl⟩⟩⟩
      refine JL.pure rfl rfl (OpP.move rfl) ?_
      refine JL.pure rfl rfl (OpP.extract rfl rfl) ?_
      refine JL.pure rfl rfl (OpP.extract rfl rfl) ?_
      refine JL.pure rfl rfl (OpP.extract rfl rfl) ?_
      refine JL.pure rfl rfl (OpP.assign rfl) ?_
      refine JL.pure rfl rfl (OpP.assign rfl) ?_
      refine JL.pure rfl rfl (OpP.assign rfl) ?_
      refine JL.nil ?_
      refine J.seq ?_
      refine J.seq ?_
      refine J.region ?_
      refine JL.pure rfl rfl (OpP.move rfl) ?_
      refine JL.decF rfl rfl (OpP.eql rfl rfl) (by omega) ?_
      refine JL.pure rfl rfl (OpP.move rfl) ?_
      refine JL.pure rfl rfl (OpP.move rfl) ?_
      refine JL.pure rfl rfl (OpP.len rfl rfl) ?_
      refine JL.decF rfl rfl (OpP.gtr rfl rfl) (by omega) ?_
      refine JL.pure rfl rfl (OpP.pickF rfl rfl) ?_
      refine JL.nil ?_
      refine J.condF rfl ?_
      refine J.skip ?_
      refine J.seq ?_
      refine J.region ?_
      refine JL.pure rfl rfl (OpP.move rfl) ?_
      refine JL.pure rfl rfl (OpP.move rfl) ?_
      refine JL.mem rfl rfl (by apply OpM.buildSlice (by rfl) rfl (by rfl); (repeat (first | exact Fills.nil | (apply Fills.cons rfl rfl rfl; (case' hs => ((repeat (first | exact Spl.nil | apply Spl.here | apply Spl.there)); done)))))) ?_; rintro _ _ ⟨b54, rfl, rfl⟩
      refine JL.f2 ?_; refine JL.mem rfl rfl (OpM.appendH rfl (.inl ⟨_, Sl.und inferInstance⟩) (by rfl) rfl rfl (RdO.src (RdO.ofRow (.tail .head) (by first | exact Nat.le_refl _ | decide | omega)) (by first | assumption | exact fc_length _ _ | (simp; done) | (simp; omega))) (one1 rfl) (by simp only [maxLen]; omega) (by omega)) ?_; rintro _ _ ⟨⟨a55, c55, rfl⟩, rfl⟩
      refine JL.pure rfl rfl (OpP.assign rfl) ?_
      refine JL.nil ?_
      refine J.seq ?_
      refine J.region ?_
      refine JL.pure rfl rfl (OpP.move rfl) ?_
      refine JL.pure rfl rfl (OpP.move rfl) ?_
      refine JL.pure rfl rfl (OpP.addI rfl rfl (by omega) (by omega)) ?_
      refine JL.pure rfl rfl (OpP.assign rfl) ?_
      refine JL.nil ?_
      refine J.region ?_
      refine JL.pure rfl rfl (OpP.move rfl) ?_
      refine JL.pure rfl rfl (OpP.assign rfl) ?_
      refine JL.nil ?_
      refine J.inBlock ?_
      refine J.region ?_
      refine JL.pure rfl rfl (OpP.move rfl) ?_
      refine JL.pure rfl rfl (OpP.addI rfl rfl (by omega) (by omega)) ?_
      refine JL.pure rfl rfl (OpP.assign rfl) ?_
      refine JL.nil ?_
      have htk : W.take (qs.length + 1) = W.take qs.length ++ [w] := by rw [List.take_add_one, hw]; rfl
      have hlt2 : (lay (W.take (qs.length + 1))).length = (lay (W.take qs.length)).length + (cut w.1).length := by
        rw [htk, lay_snoc, List.length_append, secsOf_len]
      have hen : endG 1 (W.take (qs.length + 1)) = w.2 := by rw [htk, endG_snoc]
      have hel : (qs ++ [(Value.slice a w.1.length k, w.1)]).length = qs.length + 1 := by rw [List.length_append]; rfl
      refine back (qs.length + 1, .slice a55 (qs.length + 1) c55, qs ++ [(.slice a w.1.length k, w.1)]) ⟨by dsimp only; omega, ?_, ?_⟩ (by dsimp only; omega) (by dsimp only; rw [hlt2, hen]; exact (by repeat (first | exact SubEnv.nil | refine SubEnv.cons (by first | rfl | exact congrArg (fun z => some (Value.int .i64 z)) (by omega) | (simp; done)) ?_))) (fun _ h => ?_)
      · dsimp only
        rw [htk, recs, List.map_append, List.map_append, ← g2]; rfl
      · dsimp only
        intro q hq
        rcases List.mem_append.1 hq with hq | hq
        · exact g3 q hq
        · simp only [List.mem_singleton] at hq; subst hq; exact ⟨_, _, rfl⟩
      · dsimp only at h ⊢
        rw [hel]
        have h := Own.star_in (Own.pick (pre := [_, _, _, _]) [2, 3, 0] rfl h)
        rw [List.map_append, List.reverse_append]
        exact Own.f1 h
    · have hje : qs.length = W.length := by omega
      have htW : W.take qs.length = W := by rw [hje, List.take_length]
      rw [htW] at g2 ⊢
      have hz : ∀ s, (recs ps)[(lay W).length]? = some s → s = zsec := fun s hs => by
        rw [hW, List.getElem?_append_right (by omega), Nat.sub_self] at hs
        exact (List.mem_replicate.1 (List.mem_of_getElem? hs)).2
      have hend : ∀ {G : List HProp} (_ : Parts w0 G (.slice va ps.length vc) ps), _ := fun {G} hG => refOne_end (F := G) (at' := (lay W).length) (n := qs.length + 1) (least := endG 1 W) hG hl (by omega) hz
      clear back
      refine J.lit .head fun az cz ez => ?_; subst ez
      refine J.seq ?_
      refine J.seq ?_
      refine J.region ?_
      refine JL.pure rfl rfl (OpP.move rfl) ?_
      refine JL.pure rfl rfl (OpP.move rfl) ?_
      refine JL.pure rfl rfl (OpP.len rfl rfl) ?_
      refine JL.decT rfl rfl (OpP.leq rfl rfl) (by omega) ?_
      refine JL.nil ?_
      refine J.condT rfl ?_
      refine J.skip ?_
      refine J.seq ?_
      refine J.block ?_
      refine J.seq ?_
      refine J.region ?_
      refine JL.pure rfl rfl (OpP.move rfl) ?_
      refine JL.pure rfl rfl (OpP.move rfl) ?_
      refine JL.pure rfl rfl (OpP.move rfl) ?_
      refine JL.pure rfl rfl (OpP.len rfl rfl) ?_
      refine JL.pure rfl rfl (OpP.addI rfl rfl (by omega) (by omega)) ?_
      refine JL.pure rfl rfl (OpP.move rfl) ?_
      refine JL.step rfl rfl (OpW.call (first := []) (captured := []) inferInstance rfl rfl (hend (hp.conv (fun _ h => Own.pick (pre := [_, _]) [] rfl h)))) ?_; rintro r41 _ ⟨rfl, rfl⟩
      refine JL.pure rfl rfl (OpP.move rfl) ?_
      refine JL.pure rfl rfl (OpP.extract rfl rfl) ?_
      refine JL.pure rfl rfl (OpP.extract rfl rfl) ?_
      refine JL.pure rfl rfl (OpP.extract rfl rfl) ?_
      refine JL.pure rfl rfl (OpP.assign rfl) ?_
      refine JL.pure rfl rfl (OpP.assign rfl) ?_
      refine JL.pure rfl rfl (OpP.assign rfl) ?_
      refine JL.nil ?_
      refine J.seq ?_
      refine J.seq ?_
      refine J.region ?_
      refine JL.pure rfl rfl (OpP.move rfl) ?_
      refine JL.decT rfl rfl (OpP.eql rfl rfl) (by omega) ?_
      refine JL.pure rfl rfl (OpP.move rfl) ?_
      refine JL.skip rfl rfl ?_
      refine JL.skip rfl rfl ?_
      refine JL.skip rfl rfl ?_
      refine JL.pure rfl rfl (OpP.pickT rfl rfl) ?_
      refine JL.nil ?_
      refine J.condT rfl ?_
      refine J.exit rfl ?_
      refine J.seq ?_
      refine J.region ?_
      refine JL.pure rfl rfl (OpP.move rfl) ?_
      refine JL.pure rfl rfl (OpP.move rfl) ?_
      refine JL.pure rfl rfl (OpP.move rfl) ?_
      refine JL.pure rfl rfl (OpP.assign rfl) ?_
      refine JL.pure rfl rfl (OpP.assign rfl) ?_
      refine JL.pure rfl rfl (OpP.assign rfl) ?_
      refine JL.nil ?_
      refine J.ret3 rfl rfl rfl rfl ?_
      all_goals exact ⟨_, ⟨az, cz, qs, g2, g3, rfl, rfl⟩, fun _ h => Own.star_in h⟩
end Go.Proofs.F

-- seat f
namespace Go.Proofs.F
open Go Go.Gp Go.RowKit
open Disk hiding spl_all

section
variable {w0 : World} {F : List HProp} {K : Ws} {k g cur c : Nat} {a : Option Addr} {qs : List (Value × List UInt8)} {W : Wr} {T : List Sec} {f : Int} {x : Value} {bs : List UInt8}
theorem append_long (hK : Tab w0 0 64 fun j => w32 (K j)) (hb : bs.length ≤ 10000) (hlong : 4096 < bs.length) (hrec : recs qs = W.map (·.1)) (hW : W.length ≤ 100000) (hcur : cur < 4294967296) (hr : RdO w0 F x bs.length (bcells bs)) :
    FnO Tryd.prog w0 12 [.pointer (some ⟨k, 0, none⟩), x] (row k 60 (bkC g (cur : Nat) ((lay W).length : Nat) (.slice a qs.length c) (bkH K W) (qs.length : Nat) false) :: ownP (.slice a qs.length c) qs :: diskR g (clean f (lay W ++ T)) :: F) (fun u l' => u = .int .i64 3 ∧ l' = row k 60 (bkC g (cur : Nat) ((lay W).length : Nat) (.slice a qs.length c) (bkH K W) (qs.length : Nat) false) :: ownP (.slice a qs.length c) qs :: diskR g (clean f (lay W ++ T)) :: F) := by
  refine (append_c (T := T) (f := f) (bs := bs) hK (by omega) hrec hW hcur hr).mono fun u l' h => ?_
  rcases h with ⟨_, h⟩ | ⟨h, _⟩ | ⟨h, _⟩ | ⟨h, _⟩
  · exact h
  all_goals omega
theorem append_full (hK : Tab w0 0 64 fun j => w32 (K j)) (hb : bs.length ≤ 4096) (hfull : T.length < (cut bs).length) (hrec : recs qs = W.map (·.1)) (hW : W.length ≤ 100000) (hcur : cur < 4294967296) (hr : RdO w0 F x bs.length (bcells bs)) :
    FnO Tryd.prog w0 12 [.pointer (some ⟨k, 0, none⟩), x] (row k 60 (bkC g (cur : Nat) ((lay W).length : Nat) (.slice a qs.length c) (bkH K W) (qs.length : Nat) false) :: ownP (.slice a qs.length c) qs :: diskR g (clean f (lay W ++ T)) :: F) (fun u l' => u = .int .i64 4 ∧ l' = row k 60 (bkC g (cur : Nat) ((lay W).length : Nat) (.slice a qs.length c) (bkH K W) (qs.length : Nat) false) :: ownP (.slice a qs.length c) qs :: diskR g (clean f (lay W ++ T)) :: F) := by
  refine (append_c (T := T) (f := f) (bs := bs) hK (by omega) hrec hW hcur hr).mono fun u l' h => ?_
  rcases h with ⟨h, _⟩ | ⟨_, _, h⟩ | ⟨_, h, _⟩ | ⟨_, h, _⟩
  · omega
  · exact h
  all_goals omega
end
theorem Room_c {w0 : World} {F : List HProp} {k g m : Nat} {G cnt f : Int} {W : Wr} {v : Value} {h : List UInt8} {over : Bool} :
    FnO Tryd.prog w0 16 [.pointer (some ⟨k, 0, none⟩)] (row k 60 (bkC g G ((lay W).length : Nat) v h cnt over) :: diskR g (clean f (lay W ++ List.replicate m zsec)) :: F) (fun u l' => u = .int .i64 (m : Nat) ∧ l' = row k 60 (bkC g G ((lay W).length : Nat) v h cnt over) :: diskR g (clean f (lay W ++ List.replicate m zsec)) :: F) := by
  have hl : (clean f (lay W ++ List.replicate m zsec)).now.length = (lay W).length + m := by show (lay W ++ List.replicate m zsec).length = _; rw [List.length_append, List.length_replicate]
  refine (Room_ok (D := clean f (lay W ++ List.replicate m zsec)) (n := (lay W).length) (by omega)).mono fun u l' h => ?_
  rw [hl, show (lay W).length + m - (lay W).length = m by omega] at h
  exact h
theorem hdC_cnt {h : List UInt8} {n : Int} (hh : h.length = 32) : (hdC h n).toArray.toList[32]? = some (.int .i64 n) := by
  have e : (bcells h).length = 32 := by rw [bcells_length, hh]
  rw [hdC, List.getElem?_append_right (by omega), e]
  rfl
theorem layF64 : ∀ {k least : Nat} {W : Wr} {top : Nat}, Mono least W top → top < 4294967296 → k + W.length < 4294967296 → ∀ s ∈ layF k W, s.length = 64
  | _, _, [], _, _, _, _, s, hs => by cases hs
  | k, _, v :: W, _, ⟨_, h2, h3⟩, ht, hk, s, hs => by
    rw [List.length_cons] at hk
    have hle := Mono.le h3
    rw [layF] at hs
    rcases List.mem_append.1 hs with hs | hs
    · exact (secsOf_mem (by omega) (by omega) h2 hs).2.2.1
    · exact layF64 h3 ht (by omega) s hs
theorem All_c {w0 : World} {F : List HProp} {g : Nat} {l : List Sec} :
    FnO Tryd.prog w0 19 [.pointer (some ⟨g, 0, none⟩)] (diskR g (clean (-1) l) :: F) (fun u l' => ∃ (a : Option Addr) (c : Nat) (qs : List (Value × List UInt8)), recs qs = l ∧ (∀ q ∈ qs, ∃ a c, q.1 = .slice a q.2.length c) ∧ u = .slice a qs.length c ∧ l' = ownP (.slice a qs.length c) qs :: diskR g (clean (-1) l) :: F) :=
  all_ok (D := clean (-1) l) (show (-1 : Int) ≠ 0 by decide)
theorem Sectors_c {w0 : World} {F : List HProp} {g m : Nat} {f : Int} {W : Wr} :
    FnO Tryd.prog w0 21 [.pointer (some ⟨g, 0, none⟩)] (diskR g (clean f (lay W ++ List.replicate m zsec)) :: F) (fun u l' => u = .int .i64 ((lay W).length + m : Nat) ∧ l' = diskR g (clean f (lay W ++ List.replicate m zsec)) :: F) := by
  have hl : (clean f (lay W ++ List.replicate m zsec)).now.length = (lay W).length + m := by show (lay W ++ List.replicate m zsec).length = _; rw [List.length_append, List.length_replicate]
  refine (Disk.Sectors_ok (D := clean f (lay W ++ List.replicate m zsec))).mono fun u l' h => ?_
  rw [hl] at h
  exact h
theorem Waits_c {w0 : World} {F : List HProp} {g : Nat} {f : Int} {l : List Sec} :
    FnO Tryd.prog w0 23 [.pointer (some ⟨g, 0, none⟩)] (diskR g (clean f l) :: F) (fun u l' => u = .int .i64 0 ∧ l' = diskR g (clean f l) :: F) :=
  Disk.Waits_ok (D := clean f l)
theorem Read_c {w0 : World} {F : List HProp} {a0 : Option Addr} {c0 m cur : Nat} {ps : List (Value × List UInt8)} {W : Wr} (hps : ∀ q ∈ ps, ∃ a c, q.1 = .slice a q.2.length c) (hW : recs ps = lay W ++ List.replicate m zsec) (hM : Mono 1 W cur) (hc : cur < 4294967290) (hn : W.length ≤ 100000) (hsm : (lay W).length + m ≤ 8192) :
    FnO Tryd.prog w0 18 [.slice a0 ps.length c0] (ownP (.slice a0 ps.length c0) ps :: F) (fun u l' => ∃ (a : Option Addr) (c : Nat) (qs : List (Value × List UInt8)), recs qs = W.map (·.1) ∧ (∀ q ∈ qs, ∃ a c, q.1 = .slice a q.2.length c) ∧ u = .tuple #[.slice a qs.length c, .int .i64 ((lay W).length : Nat), .int .i64 (maxG (recs ps) : Nat)] ∧ l' = ownP (.slice a qs.length c) qs :: ownP (.slice a0 ps.length c0) ps :: F) := by
  refine refRead_ok (Parts.ofOwn hps) ?_ ?_ hW hM hc hn
  · have := congrArg List.length hW
    rw [List.length_append, List.length_replicate] at this
    have e : (recs ps).length = ps.length := List.length_map ..
    omega
  · intro p hp
    have h1 : p.2 ∈ recs ps := List.mem_map_of_mem hp
    rw [hW] at h1
    rcases List.mem_append.1 h1 with h1 | h1
    · exact layF64 hM (by omega) (by omega) _ h1
    · rw [(List.mem_replicate.1 h1).2]; decide
structure PS where
  i : Nat
  W : Wr
  m : Nat
  es : List (Value × List UInt8)
  za : Option Addr
  zc : Nat
  qs : List (Value × List UInt8)
  a : Option Addr
  c : Nat
  k : Nat
structure PS.Ok (w0 : World) (n N : Nat) (s : PS) : Prop where
  i : s.i ≤ n
  w : s.W.length ≤ s.i
  len : (lay s.W).length + s.m = N
  ss : Sess s.W 1 (List.replicate s.m zsec)
  es : recs s.es = s.W.map (·.1)
  er : ∀ p ∈ s.es, (∃ a c, p.1 = .slice a p.2.length c) ∧ RdO w0 [] p.1 p.2.length (bcells p.2)
  qs : recs s.qs = s.W.map (·.1)
  ql : ∀ q ∈ s.qs, ∃ a c, q.1 = .slice a q.2.length c
set_option maxHeartbeats 4000000 in
set_option maxRecDepth 20000 in
theorem BookPlays_ok {w0 : World} {x : Nat} {l : List OpF} {v : Value} {K : Ws} (hA : ∀ F, FnO Tryd.prog w0 7 [] F (fun u l' => u = .bool true ∧ l' = F)) (hK : Tab w0 0 64 fun j => w32 (K j)) (hK2 : ∀ i, i < 64 → hexOk constS i (K i) = true) (hx : x ≤ 255) (hr : Rd w0 [] v l.length (l.flatMap ocell)) (ho : ∀ o ∈ l, o.Ok w0) :
    FnO Tryd.prog w0 5 [.int .u8 (x : Nat), v] [] (fun v _ => v = .bool true) := by
  have hr0 := hr
  obtain ⟨va, vc, rfl⟩ := hr0.lit
  refine FnO.intro (n := 129) Tryd.func5 rfl rfl rfl ?_
  have hN : x % 200 ≤ 200 := by omega
  have hm : maxG (lay [] ++ List.replicate (x % 200) zsec) + 1 = 1 := by rw [show lay [] ++ List.replicate (x % 200) zsec = List.replicate (x % 200) zsec from rfl, maxG_new]
  have hrd : readAll (lay [] ++ List.replicate (x % 200) zsec) = ([] : Wr).map told := (sess_new (x % 200)).read (by decide) (by decide)
  refine J.seq ?_
  refine J.region ?_
  refine JL.pure rfl rfl (OpP.assign rfl) ?_
  refine JL.nil ?_
  refine J.seq ?_
  refine J.seq ?_
  refine J.region ?_
  refine JL.step rfl rfl (OpW.call (first := []) (captured := []) inferInstance rfl rfl (hA _)) ?_; rintro r17 _ ⟨rfl, rfl⟩
  refine JL.pure rfl rfl (OpP.notB rfl) ?_
  refine JL.pure rfl rfl (OpP.move rfl) ?_
  refine JL.pure rfl rfl (OpP.move rfl) ?_
  refine JL.step rfl rfl (OpW.call (first := []) (captured := []) inferInstance rfl rfl (few_ok (l := l) (n := 30) (by decide) hr ho)) ?_; rintro r21 _ ⟨b, ⟨rfl, ⟨rfl, h21⟩⟩⟩
  refine JL.pure rfl rfl (OpP.notB rfl) ?_
  refine JL.pure rfl rfl (OpP.pickF rfl rfl) ?_
  refine JL.nil ?_
  refine J.splitAt 23 rfl (fun h23 => ?_) (fun h23 => ?_)
  focus
    refine J.condT rfl ?_
    refine J.seq ?_
    refine J.region ?_
    refine JL.step rfl rfl (OpW.call (first := []) (captured := []) inferInstance rfl rfl (hA _)) ?_; rintro r24 _ ⟨rfl, rfl⟩
    refine JL.pure rfl rfl (OpP.assign rfl) ?_
    refine JL.nil ?_
    refine J.ret1 rfl rfl ?_
  rotate_left 1
  focus
    refine J.condF rfl ?_
    refine J.skip ?_
    refine J.seq ?_
    refine J.region ?_
    refine JL.pure rfl rfl (OpP.move rfl) ?_
    refine JL.pure rfl rfl (OpP.convI64 rfl (by omega) (by omega)) ?_
    refine JL.pure rfl rfl (OpP.remI rfl rfl (by first | omega | exact Int.natCast_nonneg _) (by omega)) ?_
    refine JL.step rfl rfl (OpW.call (first := []) (captured := []) inferInstance rfl rfl (New_u (n := x % 200) (by omega))) ?_; rintro r28 _ ⟨g, ⟨rfl, rfl⟩⟩
    refine JL.pure rfl rfl (OpP.assign rfl) ?_
    refine JL.nil ?_
    refine J.seq ?_
    refine J.region ?_
    refine JL.pure rfl rfl (OpP.move rfl) ?_
    refine JL.step rfl rfl (OpW.call (first := []) (captured := []) inferInstance rfl rfl (open_s (W := []) (T := List.replicate (x % 200) zsec) hK (by decide) hm (by decide) hrd)) ?_; rintro r31 _ ⟨k, ⟨a, ⟨c, ⟨qs, ⟨h31, ⟨h311, ⟨rfl, rfl⟩⟩⟩⟩⟩⟩⟩
    refine JL.pure rfl rfl (OpP.move rfl) ?_
    refine JL.pure rfl rfl (OpP.extract rfl rfl) ?_
    refine JL.pure rfl rfl (OpP.extract rfl rfl) ?_
    refine JL.pure rfl rfl (OpP.assign rfl) ?_
    refine JL.pure rfl rfl (OpP.assign rfl) ?_
    refine JL.nil ?_
    refine J.seq ?_
    refine J.seq ?_
    refine J.region ?_
    refine JL.pure rfl rfl (OpP.move rfl) ?_
    refine JL.decF rfl rfl (OpP.neq rfl rfl) (by omega) ?_
    refine JL.nil ?_
    refine J.condF rfl ?_
    refine J.skip ?_
  rotate_left 1
  · rfl
  have hb : b = true := by simpa using h23
  obtain ⟨hl30, hsz⟩ := h21 hb
  have hq0 : qs = [] := List.eq_nil_of_length_eq_zero (by have := congrArg List.length h31; simpa using this)
  subst hq0
  refine J.seq ?_
  refine J.region ?_
  refine JL.pure rfl rfl (OpP.assign rfl) ?_
  refine JL.nil ?_
  refine J.seq ?_
  refine J.region ?_
  refine JL.pure rfl rfl (OpP.move rfl) ?_
  refine JL.pure rfl rfl (OpP.convI64 rfl (by omega) (by omega)) ?_
  refine JL.pure rfl rfl (OpP.remI rfl rfl (by first | omega | exact Int.natCast_nonneg _) (by omega)) ?_
  refine JL.pure rfl rfl (OpP.assign rfl) ?_
  refine JL.nil ?_
  refine J.seq ?_
  refine J.seq ?_
  refine J.region ?_
  refine JL.pure rfl rfl (OpP.assign rfl) ?_
  refine JL.nil ?_
  refine J.block ?_
  rw [show ((x : Nat) : Int) % 200 = ((x % 200 : Nat) : Int) by omega]
  clear hm hrd
  generalize x % 200 = N at hN ⊢
  refine J.loopI (σ := PS) (fun s => l.length - s.i) (fun s => s.Ok w0 l.length N) (fun s => [(1, .slice va l.length vc), (5, .pointer (some ⟨g, 0, none⟩)), (6, .pointer (some ⟨s.k, 0, none⟩)), (8, .slice s.za s.es.length s.zc), (9, .int .i64 (s.m : Nat)), (10, .int .i64 (s.i : Nat))])
    (fun s => [row s.k 60 (bkC g (1 : Nat) ((lay s.W).length : Nat) (.slice s.a s.qs.length s.c) (bkH K s.W) (s.qs.length : Nat) false), ownP (.slice s.a s.qs.length s.c) s.qs, diskR g (clean (-1) (lay s.W ++ List.replicate s.m zsec)), own 26 1 (.slice s.za s.es.length s.zc) s.es.length (s.es.map (·.1))])
    ⟨0, [], N, [], none, 0, [], a, c, k⟩
    ⟨Nat.zero_le _, Nat.le_refl _, (by show 0 + N = N; omega), sess_new N, rfl, (by intro p h; cases h), rfl, (by intro p h; cases h)⟩ (by repeat (first | exact SubEnv.nil | refine SubEnv.cons (by first | rfl | exact congrArg (fun z => some (Value.int .i64 z)) (by omega) | (simp; done)) ?_)) (fun _ h => Own.pick (pre := [_, _, _, _]) [1, 2, 3, 0] rfl (Own.own_nil h)) (fun s hi back => ?_)
  obtain ⟨i, W, m, es, za, zc, qs, a, c, k⟩ := s
  obtain ⟨hi1, hi2, hi3, hss, hes, her, hqs, hql⟩ := hi
  dsimp only at hi1 hi2 hi3 hss hes her hqs hql back ⊢
  by_cases hlt : i < l.length
  · obtain ⟨o, hoi⟩ : ∃ o, l[i]? = some o := ⟨_, List.getElem?_eq_getElem hlt⟩
    have hok := ho o (List.mem_of_getElem? hoi)
    obtain ⟨hsz1, hsz2⟩ := hsz o (List.mem_of_getElem? hoi)
    obtain ⟨pb, po, pcap, hpv, hpc, hc⟩ := hr.pos (by omega)
    cases hpv
    obtain ⟨ba, bc, hbv⟩ := hok.B.lit
    obtain ⟨ka, kc, hkv⟩ := hok.pk.lit
    have hcells : Cells w0 [] pb (po + i * 4) [.int .u8 o.k, .int .i64 o.N, .slice ba o.B.length bc, .slice ka o.pk.length kc] := by
      have := hc.chunkAt (ocell_len l) hoi
      rw [ocell, hbv, hkv] at this
      exact this
    have hRB := hok.B
    have hSB := hok.sh
    rw [hbv] at hRB hSB
    have hk0 := hok.k0
    have hk1 := hok.k1
    have hN0 := hok.n0
    have hN1 := hok.n1
    have hlq : qs.length = W.length := by have := congrArg List.length hqs; simpa using this
    have hle : es.length = W.length := by have := congrArg List.length hes; simpa using this
    have hE : recs qs = recs es := by rw [hqs, hes]
    have hq8 := recs_le hss.m hqs
    have hPes := es_parts (v := .slice za es.length zc) her
    refine J.seq ?_
    refine J.seq ?_
    refine J.region ?_
    refine JL.pure rfl rfl (OpP.move rfl) ?_
    refine JL.pure rfl rfl (OpP.move rfl) ?_
    refine JL.pure rfl rfl (OpP.len rfl rfl) ?_
    refine JL.decT rfl rfl (OpP.lss rfl rfl) (by omega) ?_
    refine JL.nil ?_
    refine J.condT rfl ?_
    refine J.skip ?_
    refine J.seq ?_
    refine J.block ?_
    refine J.seq ?_
    refine J.region ?_
    refine JL.pure rfl rfl (OpP.move rfl) ?_
    refine JL.pure rfl rfl (OpP.move rfl) ?_
    refine JL.pure rfl rfl (OpP.indexAddr rfl rfl (by omega) (by omega)) ?_
    refine JL.read rfl rfl (OpR.loadN rfl (hcells.conv (fun _ h => h.none)) (by first | rfl | assumption)) ?_
    refine JL.mem rfl rfl OpM.alloc ?_; rintro _ _ ⟨b11, rfl, rfl⟩
    refine JL.mem0 rfl (by apply OpM.storeN rfl rfl (by rfl) (oneC rfl (oneC rfl (oneC rfl (one1 rfl)))); (case' hu => exact .head); (case' hs => exact (.here (.here (.here (.here .nil))))); done) ?_; rintro _ _ ⟨rfl, rfl⟩
    refine JL.nil ?_
    refine J.seq ?_
    refine J.region ?_
    refine JL.pure rfl rfl (OpP.fieldAddr rfl) ?_
    refine JL.read rfl rfl (OpR.load1 rfl (Cell.row .head rfl)) ?_
    refine JL.step rfl rfl (OpW.call (first := []) (captured := []) inferInstance rfl rfl (cut_u (F0 := []) (l := o.B) (by omega) hSB (fun _ h => own_nil' h) hRB.o)) ?_; rintro r51 _ ⟨a1, ⟨c1, ⟨ps, ⟨h51, ⟨h511, ⟨rfl, rfl⟩⟩⟩⟩⟩⟩
    refine JL.pure rfl rfl (OpP.len rfl rfl) ?_
    refine JL.pure rfl rfl (OpP.assign rfl) ?_
    refine JL.nil ?_
    have hpl : ps.length = (cut o.B).length := by have := congrArg List.length (‹recs ps = cut o.B›); simpa using this
    refine J.conv (l' := [row b11 46 [Value.int IntKind.u8 o.k, Value.int IntKind.i64 o.N, Value.slice ba o.B.length bc, Value.slice ka o.pk.length kc], row k 60 (bkC g (1 : Nat) ((lay W).length : Nat) (.slice a qs.length c) (bkH K W) (qs.length : Nat) false), ownP (.slice a qs.length c) qs, diskR g (clean (-1) (lay W ++ List.replicate m zsec)), own 26 1 (.slice za es.length zc) es.length (es.map (fun q : Value × List UInt8 => q.1))]) (fun _ h => Own.pick (pre := [_, _, _, _, _, _]) [1, 2, 3, 4, 5] rfl h) ?_
    rw [hpl]
    generalize hcn : (cut o.B).length = n
    have hTl : (List.replicate m zsec).length = m := List.length_replicate
    by_cases hb4 : o.B.length ≤ 4096
    · by_cases hfit : n ≤ m
      · refine J.seq ?_
        refine J.region ?_
        refine JL.pure rfl rfl (OpP.assign rfl) ?_
        refine JL.nil ?_
        refine J.seq ?_
        refine J.seq ?_
        refine J.region ?_
        refine JL.pure rfl rfl (OpP.fieldAddr rfl) ?_
        refine JL.read rfl rfl (OpR.load1 rfl (Cell.row .head rfl)) ?_
        refine JL.pure rfl rfl (OpP.len rfl rfl) ?_
        refine JL.decF rfl rfl (OpP.gtr rfl rfl) (by omega) ?_
        refine JL.nil ?_
        refine J.condF rfl ?_
        refine J.seq ?_
        refine J.region ?_
        refine JL.pure rfl rfl (OpP.move rfl) ?_
        refine JL.pure rfl rfl (OpP.move rfl) ?_
        refine JL.decF rfl rfl (OpP.gtr rfl rfl) (by omega) ?_
        refine JL.nil ?_
        refine J.condF rfl ?_
        refine J.skip ?_
        refine J.seq ?_
        refine J.seq ?_
        refine J.region ?_
        refine JL.pure rfl rfl (OpP.move rfl) ?_
        refine JL.pure rfl rfl (OpP.fieldAddr rfl) ?_
        refine JL.read rfl rfl (OpR.load1 rfl (Cell.row .head rfl)) ?_
        refine JL.f3 ?_; refine JL.f3 ?_; refine JL.f3 ?_; refine JL.step rfl rfl (OpW.call (first := []) (captured := []) inferInstance rfl rfl (append_fit (T := List.replicate m zsec) (f := -1) (bs := o.B) hK hb4 hqs (by omega) (by omega) (by omega) (by omega) hRB.ao)) ?_; rintro r63 _ ⟨a', ⟨c', ⟨a11, ⟨c11, ⟨rfl, rfl⟩⟩⟩⟩⟩
        refine JL.pure rfl rfl (OpP.move rfl) ?_
        refine JL.decF rfl rfl (OpP.neq rfl rfl) (by omega) ?_
        refine JL.nil ?_
        refine J.condF rfl ?_
        refine J.skip ?_
        refine J.seq ?_
        refine J.seq ?_
        refine J.region ?_
        refine JL.pure rfl rfl (OpP.move rfl) ?_
        refine JL.decT rfl rfl (OpP.eql rfl rfl) (by omega) ?_
        refine JL.nil ?_
        refine J.condT rfl ?_
        refine J.seq ?_
        refine J.region ?_
        refine JL.pure rfl rfl (OpP.move rfl) ?_
        refine JL.pure rfl rfl (OpP.fieldAddr rfl) ?_
        refine JL.read rfl rfl (OpR.load1 rfl (Cell.row (.tail (.tail (.tail .head))) rfl)) ?_
        refine JL.mem rfl rfl (by apply OpM.buildSlice (by rfl) rfl (by rfl); (repeat (first | exact Fills.nil | (apply Fills.cons rfl rfl rfl; (case' hs => ((repeat (first | exact Spl.nil | apply Spl.here | apply Spl.there)); done)))))) ?_; rintro _ _ ⟨b71, rfl, rfl⟩
        refine JL.f5 ?_; refine JL.mem rfl rfl (OpM.appendH rfl (.inl ⟨_, Sl.und inferInstance⟩) (by rfl) rfl rfl (RdO.src (RdO.ofRow (.tail .head) (by first | exact Nat.le_refl _ | decide | omega)) (by first | assumption | exact fc_length _ _ | (simp; done) | (simp; omega))) (one1 rfl) (by simp only [maxLen]; omega) (by omega)) ?_; rintro _ _ ⟨⟨a72, c72, rfl⟩, rfl⟩
        refine JL.pure rfl rfl (OpP.assign rfl) ?_
        refine JL.nil ?_
        refine J.region ?_
        refine JL.pure rfl rfl (OpP.move rfl) ?_
        refine JL.pure rfl rfl (OpP.move rfl) ?_
        refine JL.pure rfl rfl (OpP.subI rfl rfl (by omega) (by omega)) ?_
        refine JL.pure rfl rfl (OpP.assign rfl) ?_
        refine JL.nil ?_
        have hk' : (qs ++ [(Value.slice a11 o.B.length c11, o.B)]).length = qs.length + 1 := by rw [List.length_append]; rfl
        have he' : (es ++ [(Value.slice ba o.B.length bc, o.B)]).length = es.length + 1 := by rw [List.length_append]; rfl
        have hqs' : recs (qs ++ [(Value.slice a11 o.B.length c11, o.B)]) = (W ++ [(o.B, 1)] : Wr).map (·.1) := by rw [recs, List.map_append, List.map_append, ← hqs]; rfl
        have hes' : recs (es ++ [(Value.slice ba o.B.length bc, o.B)]) = (W ++ [(o.B, 1)] : Wr).map (·.1) := by rw [recs, List.map_append, List.map_append, ← hes]; rfl
        have hql' : ∀ q ∈ qs ++ [(Value.slice a11 o.B.length c11, o.B)], ∃ a c, q.1 = .slice a q.2.length c := fun q hq => by
          rcases List.mem_append.1 hq with hq | hq
          · exact hql q hq
          · simp only [List.mem_singleton] at hq; subst hq; exact ⟨_, _, rfl⟩
        have her' : ∀ p ∈ es ++ [(Value.slice ba o.B.length bc, o.B)], (∃ a c, p.1 = .slice a p.2.length c) ∧ RdO w0 [] p.1 p.2.length (bcells p.2) := fun q hq => by
          rcases List.mem_append.1 hq with hq | hq
          · exact her q hq
          · simp only [List.mem_singleton] at hq; subst hq; exact ⟨⟨_, _, rfl⟩, hRB.o⟩
        have hss' := hss.append (r := o.B) hb4 (by omega) (by omega)
        have hT' : List.drop (cut o.B).length (List.replicate m zsec) = List.replicate (m - n) zsec := by rw [hcn, List.drop_replicate]
        have hlen' : (lay (W ++ [(o.B, 1)])).length + (m - n) = N := by rw [lay_snoc, List.length_append, secsOf_len]; dsimp only; omega
        have hwl' : (W ++ [(o.B, 1)]).length = W.length + 1 := by rw [List.length_append]; rfl
        rw [hT'] at hss' ⊢
        rw [show ((m : Nat) : Int) - ((n : Nat) : Int) = ((m - n : Nat) : Int) by omega, ← hk', ← he']
        refine J.conv (l' := [row k 60 (bkC g (1 : Nat) ((lay (W ++ [(o.B, 1)])).length : Nat) (.slice a' (qs ++ [(Value.slice a11 o.B.length c11, o.B)]).length c') (bkH K (W ++ [(o.B, 1)])) ((qs ++ [(Value.slice a11 o.B.length c11, o.B)]).length : Nat) false), ownP (.slice a' (qs ++ [(Value.slice a11 o.B.length c11, o.B)]).length c') (qs ++ [(Value.slice a11 o.B.length c11, o.B)]), diskR g (clean (-1) (lay (W ++ [(o.B, 1)]) ++ List.replicate (m - n) zsec)), own 26 1 (.slice a72 (es ++ [(Value.slice ba o.B.length bc, o.B)]).length c72) (es ++ [(Value.slice ba o.B.length bc, o.B)]).length ((es ++ [(Value.slice ba o.B.length bc, o.B)]).map (fun q : Value × List UInt8 => q.1))]) (fun _ h => by rw [List.map_append]; exact Own.pick (pre := [_, _, _, _, _, _]) [2, 3, 4, 0] rfl h) ?_
        generalize qs ++ [(Value.slice a11 o.B.length c11, o.B)] = qs' at hk' hqs' hql' ⊢
        generalize es ++ [(Value.slice ba o.B.length bc, o.B)] = es' at he' hes' her' ⊢
        generalize W ++ [(o.B, 1)] = W' at hqs' hes' hss' hlen' hwl' ⊢
        generalize m - n = m' at hss' hlen' ⊢
        refine J.seq ?_
        refine J.region ?_
        refine JL.pure rfl rfl (OpP.move rfl) ?_
        refine JL.f2 ?_; refine JL.f1 ?_; refine JL.step rfl rfl (OpW.call (first := []) (captured := []) inferInstance rfl rfl Room_c) ?_; rintro r77 _ ⟨rfl, rfl⟩
        refine JL.pure rfl rfl (OpP.move rfl) ?_
        refine JL.decF rfl rfl (OpP.neq rfl rfl) (by omega) ?_
        refine JL.pure rfl rfl (OpP.move rfl) ?_
        refine JL.pure rfl rfl (OpP.move rfl) ?_
        refine JL.step rfl rfl (OpW.call (first := []) (captured := []) inferInstance rfl rfl (Over_ok bkH_len)) ?_; rintro r82 _ ⟨rfl, rfl⟩
        refine JL.pure rfl rfl (OpP.pickF rfl rfl) ?_
        refine JL.pure rfl rfl (OpP.move rfl) ?_
        refine JL.pure rfl rfl (OpP.move rfl) ?_
        refine JL.step rfl rfl (OpW.call (first := []) (captured := []) inferInstance rfl rfl (Head_ok bkH_len)) ?_; rintro r86 _ ⟨rfl, rfl⟩
        refine JL.pure rfl rfl (OpP.field1 rfl (hdC_cnt bkH_len)) ?_
        refine JL.pure rfl rfl (OpP.move rfl) ?_
        refine JL.pure rfl rfl (OpP.len rfl rfl) ?_
        refine JL.decF rfl rfl (OpP.neq rfl rfl) (by omega) ?_
        refine JL.pure rfl rfl (OpP.pickF rfl rfl) ?_
        refine JL.nil ?_
        refine J.condF rfl ?_
        refine J.skip ?_
        refine J.inBlock ?_
        refine J.region ?_
        refine JL.pure rfl rfl (OpP.move rfl) ?_
        refine JL.pure rfl rfl (OpP.addI rfl rfl (by omega) (by omega)) ?_
        refine JL.pure rfl rfl (OpP.assign rfl) ?_
        refine JL.nil ?_
        refine back ⟨i + 1, W', m', es', a72, c72, qs', a', c', k⟩ ⟨by dsimp only; omega, by dsimp only; omega, hlen', hss', hes', her', hqs', hql'⟩ (by dsimp only; omega) (by repeat (first | exact SubEnv.nil | refine SubEnv.cons (by first | rfl | exact congrArg (fun z => some (Value.int .i64 z)) (by omega) | (simp; done)) ?_)) (fun _ h => Own.pick (pre := [_, _, _, _]) [0, 2, 1, 3] rfl h)
      · have hbr : ¬ ((n : Nat) : Int) ≤ ((m : Nat) : Int) := by omega
        refine J.seq ?_
        refine J.region ?_
        refine JL.pure rfl rfl (OpP.assign rfl) ?_
        refine JL.nil ?_
        refine J.seq ?_
        refine J.seq ?_
        refine J.region ?_
        refine JL.pure rfl rfl (OpP.fieldAddr rfl) ?_
        refine JL.read rfl rfl (OpR.load1 rfl (Cell.row .head rfl)) ?_
        refine JL.pure rfl rfl (OpP.len rfl rfl) ?_
        refine JL.decF rfl rfl (OpP.gtr rfl rfl) (by omega) ?_
        refine JL.nil ?_
        refine J.condF rfl ?_
        refine J.seq ?_
        refine J.region ?_
        refine JL.pure rfl rfl (OpP.move rfl) ?_
        refine JL.pure rfl rfl (OpP.move rfl) ?_
        refine JL.decT rfl rfl (OpP.gtr rfl rfl) (by omega) ?_
        refine JL.nil ?_
        refine J.condT rfl ?_
        refine J.region ?_
        refine JL.pure rfl rfl (OpP.assign rfl) ?_
        refine JL.nil ?_
        refine J.seq ?_
        refine J.seq ?_
        refine J.region ?_
        refine JL.pure rfl rfl (OpP.move rfl) ?_
        refine JL.pure rfl rfl (OpP.fieldAddr rfl) ?_
        refine JL.read rfl rfl (OpR.load1 rfl (Cell.row .head rfl)) ?_
        refine JL.f3 ?_; refine JL.f3 ?_; refine JL.f3 ?_; refine JL.step rfl rfl (OpW.call (first := []) (captured := []) inferInstance rfl rfl (append_full (T := List.replicate m zsec) (f := -1) (bs := o.B) hK hb4 (by omega) hqs (by omega) (by omega) hRB.ao)) ?_; rintro r63 _ ⟨rfl, rfl⟩
        refine JL.pure rfl rfl (OpP.move rfl) ?_
        refine JL.decF rfl rfl (OpP.neq rfl rfl) (by omega) ?_
        refine JL.nil ?_
        refine J.condF rfl ?_
        refine J.skip ?_
        refine J.seq ?_
        refine J.seq ?_
        refine J.region ?_
        refine JL.pure rfl rfl (OpP.move rfl) ?_
        refine JL.decF rfl rfl (OpP.eql rfl rfl) (by omega) ?_
        refine JL.nil ?_
        refine J.condF rfl ?_
        refine J.skip ?_
        refine J.seq ?_
        refine J.region ?_
        refine JL.pure rfl rfl (OpP.move rfl) ?_
        refine JL.f2 ?_; refine JL.f1 ?_; refine JL.step rfl rfl (OpW.call (first := []) (captured := []) inferInstance rfl rfl Room_c) ?_; rintro r77 _ ⟨rfl, rfl⟩
        refine JL.pure rfl rfl (OpP.move rfl) ?_
        refine JL.decF rfl rfl (OpP.neq rfl rfl) (by omega) ?_
        refine JL.pure rfl rfl (OpP.move rfl) ?_
        refine JL.pure rfl rfl (OpP.move rfl) ?_
        refine JL.step rfl rfl (OpW.call (first := []) (captured := []) inferInstance rfl rfl (Over_ok bkH_len)) ?_; rintro r82 _ ⟨rfl, rfl⟩
        refine JL.pure rfl rfl (OpP.pickF rfl rfl) ?_
        refine JL.pure rfl rfl (OpP.move rfl) ?_
        refine JL.pure rfl rfl (OpP.move rfl) ?_
        refine JL.step rfl rfl (OpW.call (first := []) (captured := []) inferInstance rfl rfl (Head_ok bkH_len)) ?_; rintro r86 _ ⟨rfl, rfl⟩
        refine JL.pure rfl rfl (OpP.field1 rfl (hdC_cnt bkH_len)) ?_
        refine JL.pure rfl rfl (OpP.move rfl) ?_
        refine JL.pure rfl rfl (OpP.len rfl rfl) ?_
        refine JL.decF rfl rfl (OpP.neq rfl rfl) (by omega) ?_
        refine JL.pure rfl rfl (OpP.pickF rfl rfl) ?_
        refine JL.nil ?_
        refine J.condF rfl ?_
        refine J.skip ?_
        refine J.inBlock ?_
        refine J.region ?_
        refine JL.pure rfl rfl (OpP.move rfl) ?_
        refine JL.pure rfl rfl (OpP.addI rfl rfl (by omega) (by omega)) ?_
        refine JL.pure rfl rfl (OpP.assign rfl) ?_
        refine JL.nil ?_
        refine back ⟨i + 1, W, m, es, za, zc, qs, a, c, k⟩ ⟨by dsimp only; omega, by dsimp only; omega, hi3, hss, hes, her, hqs, hql⟩ (by dsimp only; omega) (by repeat (first | exact SubEnv.nil | refine SubEnv.cons (by first | rfl | exact congrArg (fun z => some (Value.int .i64 z)) (by omega) | (simp; done)) ?_)) (fun _ h => Own.pick (pre := [_, _, _, _, _]) [0, 2, 1, 4] rfl h)
    · refine J.seq ?_
      refine J.region ?_
      refine JL.pure rfl rfl (OpP.assign rfl) ?_
      refine JL.nil ?_
      refine J.seq ?_
      refine J.seq ?_
      refine J.region ?_
      refine JL.pure rfl rfl (OpP.fieldAddr rfl) ?_
      refine JL.read rfl rfl (OpR.load1 rfl (Cell.row .head rfl)) ?_
      refine JL.pure rfl rfl (OpP.len rfl rfl) ?_
      refine JL.decT rfl rfl (OpP.gtr rfl rfl) (by omega) ?_
      refine JL.nil ?_
      refine J.condT rfl ?_
      refine J.region ?_
      refine JL.pure rfl rfl (OpP.assign rfl) ?_
      refine JL.nil ?_
      refine J.seq ?_
      refine J.seq ?_
      refine J.region ?_
      refine JL.pure rfl rfl (OpP.move rfl) ?_
      refine JL.pure rfl rfl (OpP.fieldAddr rfl) ?_
      refine JL.read rfl rfl (OpR.load1 rfl (Cell.row .head rfl)) ?_
      refine JL.f3 ?_; refine JL.f3 ?_; refine JL.f3 ?_; refine JL.step rfl rfl (OpW.call (first := []) (captured := []) inferInstance rfl rfl (append_long (T := List.replicate m zsec) (f := -1) (bs := o.B) hK (by omega) (by omega) hqs (by omega) (by omega) hRB.ao)) ?_; rintro r63 _ ⟨rfl, rfl⟩
      refine JL.pure rfl rfl (OpP.move rfl) ?_
      refine JL.decF rfl rfl (OpP.neq rfl rfl) (by omega) ?_
      refine JL.nil ?_
      refine J.condF rfl ?_
      refine J.skip ?_
      refine J.seq ?_
      refine J.seq ?_
      refine J.region ?_
      refine JL.pure rfl rfl (OpP.move rfl) ?_
      refine JL.decF rfl rfl (OpP.eql rfl rfl) (by omega) ?_
      refine JL.nil ?_
      refine J.condF rfl ?_
      refine J.skip ?_
      refine J.seq ?_
      refine J.region ?_
      refine JL.pure rfl rfl (OpP.move rfl) ?_
      refine JL.f2 ?_; refine JL.f1 ?_; refine JL.step rfl rfl (OpW.call (first := []) (captured := []) inferInstance rfl rfl Room_c) ?_; rintro r77 _ ⟨rfl, rfl⟩
      refine JL.pure rfl rfl (OpP.move rfl) ?_
      refine JL.decF rfl rfl (OpP.neq rfl rfl) (by omega) ?_
      refine JL.pure rfl rfl (OpP.move rfl) ?_
      refine JL.pure rfl rfl (OpP.move rfl) ?_
      refine JL.step rfl rfl (OpW.call (first := []) (captured := []) inferInstance rfl rfl (Over_ok bkH_len)) ?_; rintro r82 _ ⟨rfl, rfl⟩
      refine JL.pure rfl rfl (OpP.pickF rfl rfl) ?_
      refine JL.pure rfl rfl (OpP.move rfl) ?_
      refine JL.pure rfl rfl (OpP.move rfl) ?_
      refine JL.step rfl rfl (OpW.call (first := []) (captured := []) inferInstance rfl rfl (Head_ok bkH_len)) ?_; rintro r86 _ ⟨rfl, rfl⟩
      refine JL.pure rfl rfl (OpP.field1 rfl (hdC_cnt bkH_len)) ?_
      refine JL.pure rfl rfl (OpP.move rfl) ?_
      refine JL.pure rfl rfl (OpP.len rfl rfl) ?_
      refine JL.decF rfl rfl (OpP.neq rfl rfl) (by omega) ?_
      refine JL.pure rfl rfl (OpP.pickF rfl rfl) ?_
      refine JL.nil ?_
      refine J.condF rfl ?_
      refine J.skip ?_
      refine J.inBlock ?_
      refine J.region ?_
      refine JL.pure rfl rfl (OpP.move rfl) ?_
      refine JL.pure rfl rfl (OpP.addI rfl rfl (by omega) (by omega)) ?_
      refine JL.pure rfl rfl (OpP.assign rfl) ?_
      refine JL.nil ?_
      refine back ⟨i + 1, W, m, es, za, zc, qs, a, c, k⟩ ⟨by dsimp only; omega, by dsimp only; omega, hi3, hss, hes, her, hqs, hql⟩ (by dsimp only; omega) (by repeat (first | exact SubEnv.nil | refine SubEnv.cons (by first | rfl | exact congrArg (fun z => some (Value.int .i64 z)) (by omega) | (simp; done)) ?_)) (fun _ h => Own.pick (pre := [_, _, _, _, _]) [0, 2, 1, 4] rfl h)
  · have : i = l.length := by omega
    subst this
    have hlq : qs.length = W.length := by have := congrArg List.length hqs; simpa using this
    have hle : es.length = W.length := by have := congrArg List.length hes; simpa using this
    have hE : recs qs = recs es := by rw [hqs, hes]
    have hq8 := recs_le hss.m hqs
    have hes8 := recs_le hss.m hes
    have hPes := es_parts (v := .slice za es.length zc) her
    have hH : bkH K W = hsh K h0 (recs es) := by rw [hes]; rfl
    have hF : List.take 32 (List.drop 0 (hdC (bkH K W) ((qs.length : Nat) : Int)).toArray.toList) = bcells (bkH K W) := by
      rw [List.drop_zero, hdC]
      exact List.take_left' (by rw [bcells_length, bkH_len])
    refine J.seq ?_
    refine J.seq ?_
    refine J.region ?_
    refine JL.pure rfl rfl (OpP.move rfl) ?_
    refine JL.pure rfl rfl (OpP.move rfl) ?_
    refine JL.pure rfl rfl (OpP.len rfl rfl) ?_
    refine JL.decF rfl rfl (OpP.lss rfl rfl) (by omega) ?_
    refine JL.nil ?_
    refine J.condF rfl ?_
    refine J.exit rfl ?_
    refine J.seq ?_
    refine J.region ?_
    refine JL.pure rfl rfl (OpP.move rfl) ?_
    refine JL.f2 ?_; refine JL.step rfl rfl (OpW.call (first := []) (captured := []) inferInstance rfl rfl All_c) ?_; rintro r94 _ ⟨a1, ⟨c1, ⟨qs1, ⟨h94, ⟨h941, ⟨rfl, rfl⟩⟩⟩⟩⟩⟩
    refine JL.step rfl rfl (OpW.call (first := []) (captured := []) inferInstance rfl rfl (Read_c (W := W) (m := m) (cur := 1) (by assumption) (by assumption) hss.m (by decide) (by omega) (by omega))) ?_; rintro r95 _ ⟨a2, ⟨c2, ⟨qs2, ⟨h95, ⟨h951, ⟨rfl, rfl⟩⟩⟩⟩⟩⟩
    refine JL.pure rfl rfl (OpP.move rfl) ?_
    refine JL.pure rfl rfl (OpP.extract rfl rfl) ?_
    refine JL.pure rfl rfl (OpP.extract rfl rfl) ?_
    refine JL.pure rfl rfl (OpP.extract rfl rfl) ?_
    refine JL.pure rfl rfl (OpP.assign rfl) ?_
    refine JL.pure rfl rfl (OpP.assign rfl) ?_
    refine JL.pure rfl rfl (OpP.assign rfl) ?_
    refine JL.nil ?_
    refine J.conv (l' := [row k 60 (bkC g (1 : Nat) ((lay W).length : Nat) (.slice a qs.length c) (bkH K W) (qs.length : Nat) false), ownP (.slice a qs.length c) qs, diskR g (clean (-1) (lay W ++ List.replicate m zsec)), ownP (.slice a2 qs2.length c2) qs2, own 26 1 (.slice za es.length zc) es.length (es.map (fun q : Value × List UInt8 => q.1))]) (fun _ h => Own.pick (pre := [_, _, _, _, _, _]) [3, 4, 2, 0, 5] rfl h) ?_
    have hE2 : recs qs2 = recs es := by rw [hes]; assumption
    have hl2 : qs2.length = es.length := by have := congrArg List.length hE2; simpa using this
    refine J.seq ?_
    refine J.region ?_
    refine JL.pure rfl rfl (OpP.move rfl) ?_
    refine JL.step rfl rfl (OpW.call (first := []) (captured := []) inferInstance rfl rfl (Records_o (ps := qs) (by omega) hq8 hql)) ?_; rintro r100 _ ⟨a21, ⟨c21, ⟨qs3, ⟨rfl, ⟨h100, ⟨h1001, ⟨h1002, rfl⟩⟩⟩⟩⟩⟩⟩
    refine JL.pure rfl rfl (OpP.move rfl) ?_
    refine JL.step rfl rfl (OpW.call (first := []) (captured := []) inferInstance rfl rfl (Same_ok (ps2 := es) (by omega) (by omega) (Parts.conv (fun _ h => Own.pick (pre := [_, _, _, _, _, _]) [0] rfl h) (Parts.ofOwn (F := []) (by assumption))) (hPes.conv (fun _ h => Own.pick (pre := [_, _, _, _, _, _]) [5] rfl h)))) ?_; rintro r102 _ ⟨rfl, rfl⟩
    refine JL.pure rfl rfl (OpP.move rfl) ?_
    refine JL.decAt 103 rfl (fun h103 => ?_) (fun h103 => ?_)
    focus
      refine JL.pure rfl rfl (OpP.move rfl) ?_
      refine JL.pure rfl rfl (OpP.move rfl) ?_
      refine JL.step rfl rfl (OpW.call (first := []) (captured := []) inferInstance rfl rfl (Same_ok (ps2 := es) (by omega) (by omega) (Parts.conv (fun _ h => Own.pick (pre := [_, _, _, _, _, _]) [4] rfl h) (Parts.ofOwn (F := []) (by assumption))) (hPes.conv (fun _ h => Own.pick (pre := [_, _, _, _, _, _]) [5] rfl h)))) ?_; rintro r106 _ ⟨rfl, rfl⟩
      refine JL.pure rfl rfl (OpP.pickT rfl rfl) ?_
      refine JL.pure rfl rfl (OpP.move rfl) ?_
      refine JL.decAt 108 rfl (fun h108 => ?_) (fun h108 => ?_)
      focus
        refine JL.pure rfl rfl (OpP.move rfl) ?_
        refine JL.pure rfl rfl (OpP.move rfl) ?_
        refine JL.f3 ?_; refine JL.step rfl rfl (OpW.call (first := []) (captured := []) inferInstance rfl rfl Sectors_c) ?_; rintro r111 _ ⟨rfl, rfl⟩
        refine JL.pure rfl rfl (OpP.move rfl) ?_
        refine JL.pure rfl rfl (OpP.subI rfl rfl (by omega) (by omega)) ?_
        refine JL.decT rfl rfl (OpP.eql rfl rfl) (by omega) ?_
        refine JL.pure rfl rfl (OpP.pickT rfl rfl) ?_
        refine JL.pure rfl rfl (OpP.move rfl) ?_
        refine JL.pure rfl rfl (OpP.move rfl) ?_
        refine JL.f2 ?_; refine JL.step rfl rfl (OpW.call (first := []) (captured := []) inferInstance rfl rfl (Head_ok bkH_len)) ?_; rintro r118 _ ⟨rfl, rfl⟩
        refine JL.pure rfl rfl (OpP.fieldN rfl rfl) ?_
        refine JL.pure rfl rfl (OpP.move rfl) ?_
        refine JL.step rfl rfl (OpW.call (first := []) (captured := []) inferInstance rfl rfl (Hash_ok (ps := es) hK2 hes8 (by omega) (hPes.conv (fun _ h => Own.pick (pre := [_, _, _, _, _, _]) [5] rfl h)))) ?_; rintro r121 _ ⟨rfl, rfl⟩
      rotate_left 1
      focus
        refine JL.skip rfl rfl ?_
        refine JL.skip rfl rfl ?_
        refine JL.skip rfl rfl ?_
        refine JL.skip rfl rfl ?_
        refine JL.skip rfl rfl ?_
        refine JL.skip rfl rfl ?_
        refine JL.pure rfl rfl (OpP.pickF rfl rfl) ?_
        refine JL.pure rfl rfl (OpP.move rfl) ?_
        refine JL.skip rfl rfl ?_
        refine JL.skip rfl rfl ?_
        refine JL.skip rfl rfl ?_
        refine JL.skip rfl rfl ?_
        refine JL.skip rfl rfl ?_
        refine JL.skip rfl rfl ?_
        refine JL.pure rfl rfl (OpP.pickF rfl rfl) ?_
        refine JL.pure rfl rfl (OpP.move rfl) ?_
        refine JL.skip rfl rfl ?_
        refine JL.skip rfl rfl ?_
        refine JL.skip rfl rfl ?_
        refine JL.pure rfl rfl (OpP.pickF rfl rfl) ?_
        refine JL.pure rfl rfl (OpP.assign rfl) ?_
        refine JL.nil ?_
        refine J.ret1 rfl rfl ?_
      rotate_left 1
    rotate_left 2
    focus
      refine JL.skip rfl rfl ?_
      refine JL.skip rfl rfl ?_
      refine JL.skip rfl rfl ?_
      refine JL.pure rfl rfl (OpP.pickF rfl rfl) ?_
      refine JL.pure rfl rfl (OpP.move rfl) ?_
      refine JL.skip rfl rfl ?_
      refine JL.skip rfl rfl ?_
      refine JL.skip rfl rfl ?_
      refine JL.skip rfl rfl ?_
      refine JL.skip rfl rfl ?_
      refine JL.skip rfl rfl ?_
      refine JL.pure rfl rfl (OpP.pickF rfl rfl) ?_
      refine JL.pure rfl rfl (OpP.move rfl) ?_
      refine JL.skip rfl rfl ?_
      refine JL.skip rfl rfl ?_
      refine JL.skip rfl rfl ?_
      refine JL.skip rfl rfl ?_
      refine JL.skip rfl rfl ?_
      refine JL.skip rfl rfl ?_
      refine JL.pure rfl rfl (OpP.pickF rfl rfl) ?_
      refine JL.pure rfl rfl (OpP.move rfl) ?_
      refine JL.skip rfl rfl ?_
      refine JL.skip rfl rfl ?_
      refine JL.skip rfl rfl ?_
      refine JL.pure rfl rfl (OpP.pickF rfl rfl) ?_
      refine JL.pure rfl rfl (OpP.assign rfl) ?_
      refine JL.nil ?_
      refine J.ret1 rfl rfl ?_
    rotate_left 1
    · have hB1 : (bkH K W).length = 32 := bkH_len
      have hB2 : (hsh K h0 (recs es)).length = 32 := hsh_len (by simp [h0]) _
      rw [hF]
      refine JL.pure rfl rfl (OpP.eqBytes rfl rfl (by first | assumption | exact shaB_length _ _ | solve_by_elim) (by first | assumption | exact shaB_length _ _ | solve_by_elim)) ?_
      refine JL.pure rfl rfl (OpP.pickT rfl rfl) ?_
      refine JL.pure rfl rfl (OpP.move rfl) ?_
      refine JL.decAt 124 rfl (fun h124 => ?_) (fun h124 => ?_)
      focus
        refine JL.pure rfl rfl (OpP.move rfl) ?_
        refine JL.f1 ?_; refine JL.step rfl rfl (OpW.call (first := []) (captured := []) inferInstance rfl rfl Waits_c) ?_; rintro r126 _ ⟨rfl, rfl⟩
        refine JL.decT rfl rfl (OpP.eql rfl rfl) (by omega) ?_
        refine JL.pure rfl rfl (OpP.pickT rfl rfl) ?_
        refine JL.pure rfl rfl (OpP.assign rfl) ?_
        refine JL.nil ?_
        refine J.ret1 rfl rfl ?_
      rotate_left 1
      focus
        refine JL.skip rfl rfl ?_
        refine JL.skip rfl rfl ?_
        refine JL.skip rfl rfl ?_
        refine JL.pure rfl rfl (OpP.pickF rfl rfl) ?_
        refine JL.pure rfl rfl (OpP.assign rfl) ?_
        refine JL.nil ?_
        refine J.ret1 rfl rfl ?_
      rotate_left 1
      · rfl
      · exact absurd hH (by assumption)
    · exact absurd hE2 (by assumption)
    · exact absurd (Eq.trans (‹recs qs3 = recs qs›) hE) (by assumption)
theorem BookPlays_law {W : World} {x : Int} {a : Option Addr} {n c : Nat} (hK : Tab W 0 64 fun j => w32 (Kc j)) (w : (Lit.int .u8 x).wf = true) (h : Fm Tryd.prog W 42 [.slice a n c]) :
    Calls Tryd.prog 5 #[.int .u8 x, .slice a n c] W fun e w' => e = .returned (.bool true) ∧ Below W.heap.size W w' := by
  obtain ⟨l, hl, _, hr⟩ := Fm.rows (f := ocell) (Q := fun o => o.Ok W) Tryd.underlying42 (sz := 4) (by kernel_rfl) (by decide) h fun cs _ hf => Fm.opF hf
  have hx : 0 ≤ x ∧ x ≤ 255 := by simpa [Lit.wf, IntKind.min, IntKind.max, IntKind.signed, IntKind.bits] using w
  obtain ⟨y, rfl⟩ : ∃ y : Nat, x = (y : Nat) := ⟨x.toNat, by omega⟩
  exact FnO.law (args := [.int .u8 (y : Nat), .slice a n c]) (BookPlays_ok (fun _ => awake_ok hK) hK hexKc (by omega) (hr []) fun o ho => (hl o ho).1) (Own.nil W)
end Go.Proofs.F
