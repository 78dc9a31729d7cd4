/- A text of the proof of a statement about the given program: its part CA2. No person has read it. -/
import Derived.Test.YtaodplndajeckaaCA1
import Derived.Test.YtaodplndajeckaaCJ2
-- seat c
namespace Go.Proofs.C
open Go Go.Gp Go.RowKit

theorem refDo1_ok {w0 : World} {F : List HProp} {c : Nat} {a : Option Addr} {gs : List Gr} {o : Oc} (wf : Wf gs) (ho : o.Ok) (hk : o.k % 2 = 1) :
    FnO Try.prog w0 31 [.slice a gs.length c, .agg (ocl o).toArray] (own 62 7 (.slice a gs.length c) gs.length (gs.flatMap gcl) :: F) (fun r l' => ∃ a' c', r = .tuple #[.slice a' (doF gs o).1.length c', .int .i64 (doF gs o).2.1, .int .i64 (doF gs o).2.2] ∧ l' = own 62 7 (.slice a' (doF gs o).1.length c') (doF gs o).1.length ((doF gs o).1.flatMap gcl) :: F) := by
  have wf1 := wf.1
  obtain ⟨⟨hk1, hk2⟩, ha, hb⟩ := ho
  have h7 := chunk7 gs
  have hone : ∀ u ∈ gs.flatMap gcl, u.oneCell' = true := gcls_one
  have hlen : ∀ g ∈ gs, (gcl g).length = 7 := fun _ _ => rfl
  refine FnO.weak ?_
  refine FnO.intro (n := 174) Try.func31 rfl rfl rfl ?_
  have hR := fun (l : List HProp) (hr : RdO w0 l (.slice a gs.length c) gs.length (gs.flatMap gcl)) => refRevoke_ok (o := o) hr wf ha
  rw [doF, if_pos hk]
  by_cases hz : revF gs o.now o.n o.a = 0
  · rw [if_pos hz]
    rw [hz] at hR
    have hin : (1 ≤ o.n ∧ o.n ≤ gs.length) ∧ ∃ g, gs[(o.n - 1).toNat]? = some g := by
      by_cases hin : 1 ≤ o.n ∧ o.n ≤ gs.length
      · exact ⟨hin, _, List.getElem?_eq_getElem (by omega)⟩
      · unfold revF at hz
        split at hz
        · cases hz
        · cases hz
    obtain ⟨hin, g, hg⟩ := hin
    rw [setRev, hg]
    dsimp only
    refine J.seq ?_
    refine J.region ?_
    refine JL.mem rfl rfl (OpM.box rfl rfl) ?_; rintro _ _ ⟨b3, rfl, rfl⟩
    refine JL.pure rfl rfl (OpP.assign rfl) ?_
    refine JL.pure rfl rfl (OpP.assign rfl) ?_
    refine JL.pure rfl rfl (OpP.assign rfl) ?_
    refine JL.nil ?_
    refine J.seq ?_
    refine J.seq ?_
    refine J.region ?_
    refine JL.pure rfl rfl (OpP.fieldAddr rfl) ?_
    refine JL.read rfl rfl (OpR.load1 rfl (Cell.row .head rfl)) ?_
    refine JL.pure rfl rfl (OpP.remI rfl rfl (by first | omega | exact Int.natCast_nonneg _) (by omega)) ?_
    refine JL.decT rfl rfl (OpP.eql rfl rfl) (by omega) ?_
    refine JL.nil ?_
    refine J.condT rfl ?_
    refine J.seq ?_
    refine J.region ?_
    refine JL.pure rfl rfl (OpP.move rfl) ?_
    refine JL.read rfl rfl (OpR.loadN rfl (Cells.full .head) rfl) ?_
    refine JL.step rfl rfl (OpW.call (first := []) (captured := []) inferInstance rfl rfl (hR _ (RdO.own (.tail .head)))) ?_; rintro r20 _ ⟨rfl, rfl⟩
    refine JL.pure rfl rfl (OpP.assign rfl) ?_
    refine JL.nil ?_
    refine J.seq ?_
    refine J.seq ?_
    refine J.region ?_
    refine JL.pure rfl rfl (OpP.move rfl) ?_
    refine JL.decF rfl rfl (OpP.neq rfl rfl) (by omega) ?_
    refine JL.nil ?_
    refine J.condF rfl ?_
    refine J.skip ?_
    refine J.seq ?_
    refine J.region ?_
    refine JL.mem rfl rfl (by apply OpM.buildSlice (by rfl) rfl (by rfl); (repeat (first | exact Fills.nil | (apply Fills.cons rfl rfl rfl; (case' hs => ((repeat (first | exact Spl.nil | apply Spl.here | apply Spl.there)); done)))))) ?_; rintro _ _ ⟨b25, rfl, rfl⟩
    refine JL.pure rfl rfl (OpP.move rfl) ?_
    refine JL.ownRow (n := 0) (sz := 7) (by decide) rfl ?_
    refine JL.mem rfl rfl (OpM.appendH0 rfl rfl (.inl ⟨_, Sl.und inferInstance⟩) (by rfl) rfl rfl (RdO.src (RdO.own (.tail (.tail .head))) (by first | assumption | exact fc_length _ _ | (simp; done) | (simp; omega))) (by first | exact bcells_one _ | exact scells_one _ | exact icells_one _ | assumption | exact fc_one fun _ => rfl) (by simp only [maxLen]; omega) (by omega)) ?_; rintro _ _ ⟨⟨a27, c27, rfl⟩, rfl⟩
    refine JL.pure rfl rfl (OpP.assign rfl) ?_
    refine JL.nil ?_
    refine J.seq ?_
    refine J.region ?_
    refine JL.pure rfl rfl (OpP.move rfl) ?_
    refine JL.pure rfl rfl (OpP.fieldAddr rfl) ?_
    refine JL.read rfl rfl (OpR.load1 rfl (Cell.row (.tail .head) rfl)) ?_
    refine JL.pure rfl rfl (OpP.subI rfl rfl (by omega) (by omega)) ?_
    refine JL.ownSome .head (by omega) fun ga27 pa27 ea27 ka27 => ?_; subst ea27
    refine JL.pure rfl rfl (OpP.indexAddr rfl rfl (by omega) (by omega)) ?_
    refine JL.pure rfl rfl (OpP.fieldAddr rfl) ?_
    refine JL.mem0 rfl (OpM.storeOwn (j := (o.n - 1).toNat * 7 + 6) rfl rfl rfl (by omega) (by rw [chunk7]; omega)) ?_
    rintro _ _ ⟨rfl, rfl⟩
    rw [chunk_set (f := gcl) (n := 7) (j := 6) (a := g) (a' := { g with rev := true }) (v := .bool true) rfl (by decide) hlen hg]
    refine JL.nil ?_
    refine J.seq ?_
    refine J.region ?_
    refine JL.pure rfl rfl (OpP.move rfl) ?_
    refine JL.pure rfl rfl (OpP.assign rfl) ?_
    refine JL.pure rfl rfl (OpP.assign rfl) ?_
    refine JL.pure rfl rfl (OpP.assign rfl) ?_
    refine JL.nil ?_
    refine J.ret3 rfl rfl rfl rfl ?_
    refine ⟨_, ⟨_, c27, by rw [List.length_set], rfl⟩, fun _ h => ?_⟩
    rw [List.length_set]
    exact Own.pick (pre := [_, _, _]) [0] rfl h
  · rw [if_neg hz]
    refine J.seq ?_
    refine J.region ?_
    refine JL.mem rfl rfl (OpM.box rfl rfl) ?_; rintro _ _ ⟨b3, rfl, rfl⟩
    refine JL.pure rfl rfl (OpP.assign rfl) ?_
    refine JL.pure rfl rfl (OpP.assign rfl) ?_
    refine JL.pure rfl rfl (OpP.assign rfl) ?_
    refine JL.nil ?_
    refine J.seq ?_
    refine J.seq ?_
    refine J.region ?_
    refine JL.pure rfl rfl (OpP.fieldAddr rfl) ?_
    refine JL.read rfl rfl (OpR.load1 rfl (Cell.row .head rfl)) ?_
    refine JL.pure rfl rfl (OpP.remI rfl rfl (by first | omega | exact Int.natCast_nonneg _) (by omega)) ?_
    refine JL.decT rfl rfl (OpP.eql rfl rfl) (by omega) ?_
    refine JL.nil ?_
    refine J.condT rfl ?_
    refine J.seq ?_
    refine J.region ?_
    refine JL.pure rfl rfl (OpP.move rfl) ?_
    refine JL.read rfl rfl (OpR.loadN rfl (Cells.full .head) rfl) ?_
    refine JL.step rfl rfl (OpW.call (first := []) (captured := []) inferInstance rfl rfl (hR _ (RdO.own (.tail .head)))) ?_; rintro r20 _ ⟨rfl, rfl⟩
    refine JL.pure rfl rfl (OpP.assign rfl) ?_
    refine JL.nil ?_
    refine J.seq ?_
    refine J.seq ?_
    refine J.region ?_
    refine JL.pure rfl rfl (OpP.move rfl) ?_
    refine JL.decT rfl rfl (OpP.neq rfl rfl) (by omega) ?_
    refine JL.nil ?_
    refine J.condT rfl ?_
    refine J.seq ?_
    refine J.region ?_
    refine JL.pure rfl rfl (OpP.move rfl) ?_
    refine JL.pure rfl rfl (OpP.move rfl) ?_
    refine JL.pure rfl rfl (OpP.assign rfl) ?_
    refine JL.pure rfl rfl (OpP.assign rfl) ?_
    refine JL.pure rfl rfl (OpP.assign rfl) ?_
    refine JL.nil ?_
    refine J.ret3 rfl rfl rfl rfl ?_
    exact ⟨_, ⟨a, c, rfl, rfl⟩, fun _ h => h.tail⟩
/-- The parent that is chosen, and till when it holds, as the reference finds them. -/
def bestF : List Gr → Int × Int
  | [] => (-1, 0)
  | h :: l => ((lateF h l).til, (lateF h l).num)
theorem lateF_mem : ∀ (l : List Gr) (b : Gr), lateF b l ∈ b :: l
  | [], b => .head _
  | g :: l, b => by
    rw [lateF]
    rcases List.mem_cons.1 (lateF_mem l (if b.til < g.til then g else b)) with h | h
    · rw [h]; split
      · exact .tail _ (.head _)
      · exact .head _
    · exact .tail _ (.tail _ h)
theorem bestF_snoc {hs : List Gr} {g : Gr} (hg : 0 ≤ g.til) : bestF (hs ++ [g]) = if (bestF hs).1 < g.til then (g.til, g.num) else bestF hs := by
  cases hs with
  | nil => exact (if_pos (show (-1 : Int) < g.til by omega)).symm
  | cons h l => 
    rw [List.cons_append, bestF, lateF_snoc, bestF]
    dsimp only
    split <;> rfl
theorem parF_best {gs : List Gr} {now d : Int} {who : Str} (h : who ≠ rootS) : parF gs now who d = (bestF (moreL d (heldL gs now who gs))).2 := by
  rw [parF, if_neg h]
  cases moreL d (heldL gs now who gs) <;> rfl
theorem best_step {gs : List Gr} {now d : Int} {who : Str} {j : Nat} {g : Gr} (hg : gs[j]? = some g) (ht : 0 ≤ g.til) :
    bestF (moreL d (heldL gs now who (gs.take (j + 1)))) = if hasB gs now who g = true ∧ d < g.dep ∧ (bestF (moreL d (heldL gs now who (gs.take j)))).1 < g.til then (g.til, g.num) else bestF (moreL d (heldL gs now who (gs.take j))) := by
  rw [held_take hg (hasB gs now who g) rfl]
  cases hb : hasB gs now who g with
  | false => rw [cond_false, List.append_nil, if_neg (fun q => by cases q.1)]
  | true =>
    rw [cond_true, show ∀ hs, moreL d (hs ++ [g]) = moreL d hs ++ (if decide (d < g.dep) = true then [g] else []) from fun hs => by rw [moreL, List.filter_append, List.filter_cons]; rfl]
    by_cases hd : d < g.dep
    · rw [if_pos (by simpa using hd), bestF_snoc ht]
      by_cases hu : (bestF (moreL d (heldL gs now who (gs.take j)))).1 < g.til
      · rw [if_pos hu, if_pos ⟨rfl, hd, hu⟩]
      · rw [if_neg hu, if_neg (fun q => hu q.2.2)]
    · rw [if_neg (by simpa using hd), List.append_nil, if_neg (fun q => hd q.2.1)]
set_option maxHeartbeats 1600000 in
theorem refDo2_ok {w0 : World} {F : List HProp} {c : Nat} {a : Option Addr} {gs : List Gr} {o : Oc} (wf : Wf gs) (hd : ∀ g ∈ gs, DepOk g) (htil : ∀ g ∈ gs, 0 ≤ g.til) (ho : o.Ok) (hk : ¬ o.k % 2 = 1) :
    FnO Try.prog w0 31 [.slice a gs.length c, .agg (ocl o).toArray] (own 62 7 (.slice a gs.length c) gs.length (gs.flatMap gcl) :: F) (fun r l' => ∃ a' c', r = .tuple #[.slice a' (doF gs o).1.length c', .int .i64 (doF gs o).2.1, .int .i64 (doF gs o).2.2] ∧ l' = own 62 7 (.slice a' (doF gs o).1.length c') (doF gs o).1.length ((doF gs o).1.flatMap gcl) :: F) := by
  have wf1 := wf.1
  obtain ⟨⟨hk1, hk2⟩, ha, hb⟩ := ho
  have h7 := chunk7 gs
  have hone : ∀ u ∈ gs.flatMap gcl, u.oneCell' = true := gcls_one
  have hlen : ∀ g ∈ gs, (gcl g).length = 7 := fun _ _ => rfl
  refine FnO.weak ?_
  refine FnO.intro (n := 174) Try.func31 rfl rfl rfl ?_
  rw [doF, if_neg hk]
  have hA := fun (l : List HProp) (hr : RdO w0 l (.slice a gs.length c) gs.length (gs.flatMap gcl)) => refAuth_ok (now := o.now) (who := o.a) hr wf hd
  refine J.seq ?_
  refine J.region ?_
  refine JL.mem rfl rfl (OpM.box rfl rfl) ?_; rintro _ _ ⟨b3, rfl, rfl⟩
  refine JL.pure rfl rfl (OpP.assign rfl) ?_
  refine JL.pure rfl rfl (OpP.assign rfl) ?_
  refine JL.pure rfl rfl (OpP.assign rfl) ?_
  refine JL.nil ?_
  refine J.seq ?_
  refine J.seq ?_
  refine J.region ?_
  refine JL.pure rfl rfl (OpP.fieldAddr rfl) ?_
  refine JL.read rfl rfl (OpR.load1 rfl (Cell.row .head rfl)) ?_
  refine JL.pure rfl rfl (OpP.remI rfl rfl (by first | omega | exact Int.natCast_nonneg _) (by omega)) ?_
  refine JL.decF rfl rfl (OpP.eql rfl rfl) (by omega) ?_
  refine JL.nil ?_
  refine J.condF rfl ?_
  refine J.skip ?_
  refine J.seq ?_
  refine J.seq ?_
  refine J.region ?_
  refine JL.pure rfl rfl (OpP.fieldAddr rfl) ?_
  refine JL.read rfl rfl (OpR.load1 rfl (Cell.row .head rfl)) ?_
  refine JL.step rfl rfl (OpW.call (first := []) (captured := []) inferInstance rfl rfl Time_ok) ?_; rintro r37 _ ⟨rfl, rfl⟩
  refine JL.pure rfl rfl (OpP.notB rfl) ?_
  refine JL.pure rfl rfl (OpP.move rfl) ?_
  refine JL.splitAt 39 rfl (fun h39 => ?_) (fun h39 => ?_)
  focus
    refine JL.skip rfl rfl ?_
    refine JL.skip rfl rfl ?_
    refine JL.skip rfl rfl ?_
    refine JL.skip rfl rfl ?_
    refine JL.pure rfl rfl (OpP.pickT rfl rfl) ?_
    refine JL.pure rfl rfl (OpP.move rfl) ?_
    refine JL.skip rfl rfl ?_
    refine JL.skip rfl rfl ?_
    refine JL.skip rfl rfl ?_
    refine JL.skip rfl rfl ?_
    refine JL.pure rfl rfl (OpP.pickT rfl rfl) ?_
    refine JL.pure rfl rfl (OpP.move rfl) ?_
    refine JL.skip rfl rfl ?_
    refine JL.skip rfl rfl ?_
    refine JL.skip rfl rfl ?_
    refine JL.skip rfl rfl ?_
    refine JL.pure rfl rfl (OpP.pickT rfl rfl) ?_
    refine JL.pure rfl rfl (OpP.move rfl) ?_
    refine JL.skip rfl rfl ?_
    refine JL.skip rfl rfl ?_
    refine JL.skip rfl rfl ?_
    refine JL.pure rfl rfl (OpP.pickT rfl rfl) ?_
    refine JL.pure rfl rfl (OpP.move rfl) ?_
    refine JL.skip rfl rfl ?_
    refine JL.skip rfl rfl ?_
    refine JL.skip rfl rfl ?_
    refine JL.pure rfl rfl (OpP.pickT rfl rfl) ?_
    refine JL.pure rfl rfl (OpP.move rfl) ?_
    refine JL.skip rfl rfl ?_
    refine JL.skip rfl rfl ?_
    refine JL.skip rfl rfl ?_
    refine JL.pure rfl rfl (OpP.pickT rfl rfl) ?_
    refine JL.nil ?_
    refine J.condT rfl ?_
    refine J.seq ?_
    refine J.region ?_
    refine JL.pure rfl rfl (OpP.move rfl) ?_
    refine JL.pure rfl rfl (OpP.assign rfl) ?_
    refine JL.pure rfl rfl (OpP.assign rfl) ?_
    refine JL.pure rfl rfl (OpP.assign rfl) ?_
    refine JL.nil ?_
    refine J.ret3 rfl rfl rfl rfl ?_
  rotate_left 1
  focus
    refine JL.pure rfl rfl (OpP.fieldAddr rfl) ?_
    refine JL.read rfl rfl (OpR.load1 rfl (Cell.row .head rfl)) ?_
    refine JL.step rfl rfl (OpW.call (first := []) (captured := []) inferInstance rfl rfl Time_ok) ?_; rintro r42 _ ⟨rfl, rfl⟩
    refine JL.pure rfl rfl (OpP.notB rfl) ?_
    refine JL.pure rfl rfl (OpP.pickF rfl rfl) ?_
    refine JL.pure rfl rfl (OpP.move rfl) ?_
    refine JL.splitAt 45 rfl (fun h45 => ?_) (fun h45 => ?_)
    focus
      refine JL.skip rfl rfl ?_
      refine JL.skip rfl rfl ?_
      refine JL.skip rfl rfl ?_
      refine JL.skip rfl rfl ?_
      refine JL.pure rfl rfl (OpP.pickT rfl rfl) ?_
      refine JL.pure rfl rfl (OpP.move rfl) ?_
      refine JL.skip rfl rfl ?_
      refine JL.skip rfl rfl ?_
      refine JL.skip rfl rfl ?_
      refine JL.skip rfl rfl ?_
      refine JL.pure rfl rfl (OpP.pickT rfl rfl) ?_
      refine JL.pure rfl rfl (OpP.move rfl) ?_
      refine JL.skip rfl rfl ?_
      refine JL.skip rfl rfl ?_
      refine JL.skip rfl rfl ?_
      refine JL.pure rfl rfl (OpP.pickT rfl rfl) ?_
      refine JL.pure rfl rfl (OpP.move rfl) ?_
      refine JL.skip rfl rfl ?_
      refine JL.skip rfl rfl ?_
      refine JL.skip rfl rfl ?_
      refine JL.pure rfl rfl (OpP.pickT rfl rfl) ?_
      refine JL.pure rfl rfl (OpP.move rfl) ?_
      refine JL.skip rfl rfl ?_
      refine JL.skip rfl rfl ?_
      refine JL.skip rfl rfl ?_
      refine JL.pure rfl rfl (OpP.pickT rfl rfl) ?_
      refine JL.nil ?_
      refine J.condT rfl ?_
      refine J.seq ?_
      refine J.region ?_
      refine JL.pure rfl rfl (OpP.move rfl) ?_
      refine JL.pure rfl rfl (OpP.assign rfl) ?_
      refine JL.pure rfl rfl (OpP.assign rfl) ?_
      refine JL.pure rfl rfl (OpP.assign rfl) ?_
      refine JL.nil ?_
      refine J.ret3 rfl rfl rfl rfl ?_
    rotate_left 1
    focus
      refine JL.pure rfl rfl (OpP.fieldAddr rfl) ?_
      refine JL.read rfl rfl (OpR.load1 rfl (Cell.row .head rfl)) ?_
      refine JL.step rfl rfl (OpW.call (first := []) (captured := []) inferInstance rfl rfl (Name_ok (by first | assumption | omega | rfl | exact Nat.le_of_ble_eq_true rfl | (simp; omega)))) ?_; rintro r48 _ ⟨rfl, rfl⟩
      refine JL.pure rfl rfl (OpP.notB rfl) ?_
      refine JL.pure rfl rfl (OpP.pickF rfl rfl) ?_
      refine JL.pure rfl rfl (OpP.move rfl) ?_
      refine JL.splitAt 51 rfl (fun h51 => ?_) (fun h51 => ?_)
      focus
        refine JL.skip rfl rfl ?_
        refine JL.skip rfl rfl ?_
        refine JL.skip rfl rfl ?_
        refine JL.skip rfl rfl ?_
        refine JL.pure rfl rfl (OpP.pickT rfl rfl) ?_
        refine JL.pure rfl rfl (OpP.move rfl) ?_
        refine JL.skip rfl rfl ?_
        refine JL.skip rfl rfl ?_
        refine JL.skip rfl rfl ?_
        refine JL.pure rfl rfl (OpP.pickT rfl rfl) ?_
        refine JL.pure rfl rfl (OpP.move rfl) ?_
        refine JL.skip rfl rfl ?_
        refine JL.skip rfl rfl ?_
        refine JL.skip rfl rfl ?_
        refine JL.pure rfl rfl (OpP.pickT rfl rfl) ?_
        refine JL.pure rfl rfl (OpP.move rfl) ?_
        refine JL.skip rfl rfl ?_
        refine JL.skip rfl rfl ?_
        refine JL.skip rfl rfl ?_
        refine JL.pure rfl rfl (OpP.pickT rfl rfl) ?_
        refine JL.nil ?_
        refine J.condT rfl ?_
        refine J.seq ?_
        refine J.region ?_
        refine JL.pure rfl rfl (OpP.move rfl) ?_
        refine JL.pure rfl rfl (OpP.assign rfl) ?_
        refine JL.pure rfl rfl (OpP.assign rfl) ?_
        refine JL.pure rfl rfl (OpP.assign rfl) ?_
        refine JL.nil ?_
        refine J.ret3 rfl rfl rfl rfl ?_
      rotate_left 1
      focus
        refine JL.pure rfl rfl (OpP.fieldAddr rfl) ?_
        refine JL.read rfl rfl (OpR.load1 rfl (Cell.row .head rfl)) ?_
        refine JL.step rfl rfl (OpW.call (first := []) (captured := []) inferInstance rfl rfl (Name_ok (by first | assumption | omega | rfl | exact Nat.le_of_ble_eq_true rfl | (simp; omega)))) ?_; rintro r54 _ ⟨rfl, rfl⟩
        refine JL.pure rfl rfl (OpP.notB rfl) ?_
        refine JL.pure rfl rfl (OpP.pickF rfl rfl) ?_
        refine JL.pure rfl rfl (OpP.move rfl) ?_
        refine JL.splitAt 57 rfl (fun h57 => ?_) (fun h57 => ?_)
        focus
          refine JL.skip rfl rfl ?_
          refine JL.skip rfl rfl ?_
          refine JL.skip rfl rfl ?_
          refine JL.pure rfl rfl (OpP.pickT rfl rfl) ?_
          refine JL.pure rfl rfl (OpP.move rfl) ?_
          refine JL.skip rfl rfl ?_
          refine JL.skip rfl rfl ?_
          refine JL.skip rfl rfl ?_
          refine JL.pure rfl rfl (OpP.pickT rfl rfl) ?_
          refine JL.pure rfl rfl (OpP.move rfl) ?_
          refine JL.skip rfl rfl ?_
          refine JL.skip rfl rfl ?_
          refine JL.skip rfl rfl ?_
          refine JL.pure rfl rfl (OpP.pickT rfl rfl) ?_
          refine JL.nil ?_
          refine J.condT rfl ?_
          refine J.seq ?_
          refine J.region ?_
          refine JL.pure rfl rfl (OpP.move rfl) ?_
          refine JL.pure rfl rfl (OpP.assign rfl) ?_
          refine JL.pure rfl rfl (OpP.assign rfl) ?_
          refine JL.pure rfl rfl (OpP.assign rfl) ?_
          refine JL.nil ?_
          refine J.ret3 rfl rfl rfl rfl ?_
        rotate_left 1
        focus
          refine JL.pure rfl rfl (OpP.fieldAddr rfl) ?_
          refine JL.read rfl rfl (OpR.load1 rfl (Cell.row .head rfl)) ?_
          refine JL.dec rfl rfl (OpP.eqStr rfl rfl) (fun h60 => ?_) (fun h60 => ?_)
          focus
            refine JL.pure rfl rfl (OpP.pickF rfl rfl) ?_
            refine JL.pure rfl rfl (OpP.move rfl) ?_
            refine JL.skip rfl rfl ?_
            refine JL.skip rfl rfl ?_
            refine JL.skip rfl rfl ?_
            refine JL.pure rfl rfl (OpP.pickT rfl rfl) ?_
            refine JL.pure rfl rfl (OpP.move rfl) ?_
            refine JL.skip rfl rfl ?_
            refine JL.skip rfl rfl ?_
            refine JL.skip rfl rfl ?_
            refine JL.pure rfl rfl (OpP.pickT rfl rfl) ?_
            refine JL.nil ?_
            refine J.condT rfl ?_
            refine J.seq ?_
            refine J.region ?_
            refine JL.pure rfl rfl (OpP.move rfl) ?_
            refine JL.pure rfl rfl (OpP.assign rfl) ?_
            refine JL.pure rfl rfl (OpP.assign rfl) ?_
            refine JL.pure rfl rfl (OpP.assign rfl) ?_
            refine JL.nil ?_
            refine J.ret3 rfl rfl rfl rfl ?_
          rotate_left 1
          focus
            refine JL.pure rfl rfl (OpP.pickF rfl rfl) ?_
            refine JL.pure rfl rfl (OpP.move rfl) ?_
            refine JL.pure rfl rfl (OpP.fieldAddr rfl) ?_
            refine JL.read rfl rfl (OpR.load1 rfl (Cell.row .head rfl)) ?_
            refine JL.dec rfl rfl (OpP.lss rfl rfl) (fun h65 => ?_) (fun h65 => ?_)
            focus
              refine JL.pure rfl rfl (OpP.pickF rfl rfl) ?_
              refine JL.pure rfl rfl (OpP.move rfl) ?_
              refine JL.skip rfl rfl ?_
              refine JL.skip rfl rfl ?_
              refine JL.skip rfl rfl ?_
              refine JL.pure rfl rfl (OpP.pickT rfl rfl) ?_
              refine JL.nil ?_
              refine J.condT rfl ?_
              refine J.seq ?_
              refine J.region ?_
              refine JL.pure rfl rfl (OpP.move rfl) ?_
              refine JL.pure rfl rfl (OpP.assign rfl) ?_
              refine JL.pure rfl rfl (OpP.assign rfl) ?_
              refine JL.pure rfl rfl (OpP.assign rfl) ?_
              refine JL.nil ?_
              refine J.ret3 rfl rfl rfl rfl ?_
            rotate_left 1
            focus
              refine JL.pure rfl rfl (OpP.pickF rfl rfl) ?_
              refine JL.pure rfl rfl (OpP.move rfl) ?_
              refine JL.pure rfl rfl (OpP.fieldAddr rfl) ?_
              refine JL.read rfl rfl (OpR.load1 rfl (Cell.row .head rfl)) ?_
              refine JL.dec rfl rfl (OpP.gtr rfl rfl) (fun h70 => ?_) (fun h70 => ?_)
              focus
                refine JL.pure rfl rfl (OpP.pickF rfl rfl) ?_
                refine JL.nil ?_
                refine J.condT rfl ?_
                refine J.seq ?_
                refine J.region ?_
                refine JL.pure rfl rfl (OpP.move rfl) ?_
                refine JL.pure rfl rfl (OpP.assign rfl) ?_
                refine JL.pure rfl rfl (OpP.assign rfl) ?_
                refine JL.pure rfl rfl (OpP.assign rfl) ?_
                refine JL.nil ?_
                refine J.ret3 rfl rfl rfl rfl ?_
              rotate_left 1
              focus
                refine JL.pure rfl rfl (OpP.pickF rfl rfl) ?_
                refine JL.nil ?_
                refine J.condF rfl ?_
                refine J.skip ?_
                refine J.seq ?_
              rotate_left 1
            rotate_left 2
          rotate_left 3
        rotate_left 4
      rotate_left 5
    rotate_left 6
  rotate_left 7
  iterate 7
    · have e : wrongF gs o.now (askG gs o) = 1 := by rw [wrongF, if_pos (fun q => by obtain ⟨⟨q1, q2⟩, ⟨q3, q4⟩, ⟨q5, q6⟩, ⟨q7, q8⟩, q9, q10, q11⟩ := q; dsimp only at *; first | omega | simp_all | (simp_all; omega))]
      rw [e, if_neg (by decide)]
      exact ⟨_, ⟨a, c, rfl, rfl⟩, fun _ h => h.tail⟩
  have harg : argP o.now (askG gs o) := by
    unfold argP timeP nameP
    simp only [Bool.not_eq_false', decide_eq_true_eq] at *
    refine ⟨by assumption, by assumption, by assumption, by assumption, by assumption, by omega, by omega⟩
  refine J.seq ?_
  refine J.region ?_
  refine JL.pure rfl rfl (OpP.fieldAddr rfl) ?_
  refine JL.read rfl rfl (OpR.load1 rfl (Cell.row .head rfl)) ?_
  refine JL.pure rfl rfl (OpP.fieldAddr rfl) ?_
  refine JL.read rfl rfl (OpR.load1 rfl (Cell.row .head rfl)) ?_
  refine JL.dec rfl rfl (OpP.leq rfl rfl) (fun h77 => ?_) (fun h77 => ?_)
  focus
    refine JL.nil ?_
    refine J.condT rfl ?_
    refine J.seq ?_
    refine J.region ?_
    refine JL.pure rfl rfl (OpP.move rfl) ?_
    refine JL.pure rfl rfl (OpP.assign rfl) ?_
    refine JL.pure rfl rfl (OpP.assign rfl) ?_
    refine JL.pure rfl rfl (OpP.assign rfl) ?_
    refine JL.nil ?_
    refine J.ret3 rfl rfl rfl rfl ?_
  rotate_left 1
  focus
    refine JL.nil ?_
    refine J.condF rfl ?_
    refine J.skip ?_
    refine J.seq ?_
    refine J.region ?_
    refine JL.pure rfl rfl (OpP.move rfl) ?_
    refine JL.pure rfl rfl (OpP.fieldAddr rfl) ?_
    refine JL.read rfl rfl (OpR.load1 rfl (Cell.row .head rfl)) ?_
    refine JL.pure rfl rfl (OpP.fieldAddr rfl) ?_
    refine JL.read rfl rfl (OpR.load1 rfl (Cell.row .head rfl)) ?_
    refine JL.step rfl rfl (OpW.call (first := []) (captured := []) inferInstance rfl rfl (hA _ (RdO.own (.tail .head)))) ?_; rintro r85 _ ⟨rfl, rfl⟩
    refine JL.pure rfl rfl (OpP.move rfl) ?_
    refine JL.pure rfl rfl (OpP.extract rfl rfl) ?_
    refine JL.pure rfl rfl (OpP.extract rfl rfl) ?_
    refine JL.pure rfl rfl (OpP.assign rfl) ?_
    refine JL.pure rfl rfl (OpP.assign rfl) ?_
    refine JL.nil ?_
    refine J.seq ?_
    refine J.seq ?_
    refine J.region ?_
    refine JL.pure rfl rfl (OpP.move rfl) ?_
    refine JL.pure rfl rfl (OpP.notB rfl) ?_
    refine JL.nil ?_
    refine J.splitAt 89 rfl (fun h89 => ?_) (fun h89 => ?_)
    focus
      refine J.condT rfl ?_
      refine J.seq ?_
      refine J.region ?_
      refine JL.pure rfl rfl (OpP.move rfl) ?_
      refine JL.pure rfl rfl (OpP.assign rfl) ?_
      refine JL.pure rfl rfl (OpP.assign rfl) ?_
      refine JL.pure rfl rfl (OpP.assign rfl) ?_
      refine JL.nil ?_
      refine J.ret3 rfl rfl rfl rfl ?_
    rotate_left 1
    focus
      refine J.condF rfl ?_
      refine J.skip ?_
      refine J.seq ?_
      refine J.seq ?_
      refine J.region ?_
      refine JL.pure rfl rfl (OpP.fieldAddr rfl) ?_
      refine JL.read rfl rfl (OpR.load1 rfl (Cell.row .head rfl)) ?_
      refine JL.pure rfl rfl (OpP.move rfl) ?_
      refine JL.dec rfl rfl (OpP.geq rfl rfl) (fun h94 => ?_) (fun h94 => ?_)
      focus
        refine JL.nil ?_
        refine J.condT rfl ?_
        refine J.seq ?_
        refine J.region ?_
        refine JL.pure rfl rfl (OpP.move rfl) ?_
        refine JL.pure rfl rfl (OpP.assign rfl) ?_
        refine JL.pure rfl rfl (OpP.assign rfl) ?_
        refine JL.pure rfl rfl (OpP.assign rfl) ?_
        refine JL.nil ?_
        refine J.ret3 rfl rfl rfl rfl ?_
      rotate_left 1
      focus
        refine JL.nil ?_
        refine J.condF rfl ?_
        refine J.skip ?_
        refine J.seq ?_
        refine J.seq ?_
        refine J.region ?_
        refine JL.pure rfl rfl (OpP.move rfl) ?_
        refine JL.pure rfl rfl (OpP.len rfl rfl) ?_
        refine JL.dec rfl rfl (OpP.geq rfl rfl) (fun h98 => ?_) (fun h98 => ?_)
        focus
          refine JL.nil ?_
          refine J.condT rfl ?_
          refine J.seq ?_
          refine J.region ?_
          refine JL.pure rfl rfl (OpP.move rfl) ?_
          refine JL.pure rfl rfl (OpP.assign rfl) ?_
          refine JL.pure rfl rfl (OpP.assign rfl) ?_
          refine JL.pure rfl rfl (OpP.assign rfl) ?_
          refine JL.nil ?_
          refine J.ret3 rfl rfl rfl rfl ?_
        rotate_left 1
        focus
          refine JL.nil ?_
          refine J.condF rfl ?_
          refine J.skip ?_
        rotate_left 1
      rotate_left 2
    rotate_left 3
  rotate_left 4
  · have e : wrongF gs o.now (askG gs o) = 12 := by
      rw [wrongF, if_neg (fun h => h harg)]
      dsimp only
      rw [if_pos (by omega)]
    rw [e, if_neg (by decide)]
    exact ⟨_, ⟨a, c, rfl, rfl⟩, fun _ h => h.tail⟩
  · have e : wrongF gs o.now (askG gs o) = 15 := by
      rw [wrongF, if_neg (fun h => h harg)]
      dsimp only
      rw [if_neg (by omega), if_pos (by simp_all)]
    rw [e, if_neg (by decide)]
    exact ⟨_, ⟨a, c, rfl, rfl⟩, fun _ h => h.tail⟩
  · have e : wrongF gs o.now (askG gs o) = 11 := by
      rw [wrongF, if_neg (fun h => h harg)]
      dsimp only
      rw [if_neg (by omega), if_neg (by simp_all), if_pos (by omega)]
    rw [e, if_neg (by decide)]
    exact ⟨_, ⟨a, c, rfl, rfl⟩, fun _ h => h.tail⟩
  · have e : wrongF gs o.now (askG gs o) = 13 := by
      rw [wrongF, if_neg (fun h => h harg)]
      dsimp only
      rw [if_neg (by omega), if_neg (by simp_all), if_neg (by omega), if_pos (by omega)]
    rw [e, if_neg (by decide)]
    exact ⟨_, ⟨a, c, rfl, rfl⟩, fun _ h => h.tail⟩
  have e : wrongF gs o.now (askG gs o) = 0 := by
    rw [wrongF, if_neg (fun h => h harg)]
    dsimp only
    rw [if_neg (by omega), if_neg (by simp_all), if_neg (by omega), if_neg (by omega)]
  rw [if_pos e]
  dsimp only
  refine J.seq ?_
  refine J.region ?_
  refine JL.pure rfl rfl (OpP.move rfl) ?_
  refine JL.pure rfl rfl (OpP.len rfl rfl) ?_
  refine JL.pure rfl rfl (OpP.addI rfl rfl (by omega) (by omega)) ?_
  refine JL.pure rfl rfl (OpP.fieldAddr rfl) ?_
  refine JL.read rfl rfl (OpR.load1 rfl (Cell.row .head rfl)) ?_
  refine JL.pure rfl rfl (OpP.fieldAddr rfl) ?_
  refine JL.read rfl rfl (OpR.load1 rfl (Cell.row .head rfl)) ?_
  refine JL.pure rfl rfl (OpP.fieldAddr rfl) ?_
  refine JL.read rfl rfl (OpR.load1 rfl (Cell.row .head rfl)) ?_
  refine JL.pure rfl rfl (OpP.fieldAddr rfl) ?_
  refine JL.read rfl rfl (OpR.load1 rfl (Cell.row .head rfl)) ?_
  refine JL.pure rfl rfl (OpP.build rfl (by (repeat (first | exact Fills.nil | (apply Fills.cons rfl rfl rfl; (case' hs => ((repeat (first | exact Spl.nil | apply Spl.here | apply Spl.there)); done))))))) ?_
  refine JL.mem rfl rfl OpM.alloc ?_; rintro _ _ ⟨b11, rfl, rfl⟩
  refine JL.mem0 rfl (by apply OpM.storeN rfl rfl (by rfl) (oneC rfl (oneC rfl (oneC rfl (oneC rfl (oneC rfl (oneC rfl (one1 rfl))))))); (case' hu => exact .head); (case' hs => exact (.here (.here (.here (.here (.here (.here (.here .nil)))))))); done) ?_; rintro _ _ ⟨rfl, rfl⟩
  refine JL.nil ?_
  refine J.seq ?_
  refine J.region ?_
  refine JL.pure rfl rfl (OpP.assign rfl) ?_
  refine JL.nil ?_
  refine J.seq ?_
  refine J.seq ?_
  refine J.region ?_
  refine JL.pure rfl rfl (OpP.assign rfl) ?_
  refine JL.nil ?_
  refine J.block ?_
  refine J.loopI (fun x : Nat × Int × Int => gs.length - x.1) (fun x => x.1 ≤ gs.length ∧ (o.a = rootS → x = ((0 : Nat), (-1 : Int), (0 : Int))) ∧ (o.a ≠ rootS → x.2 = bestF (moreL o.n (heldL gs o.now o.a (gs.take x.1)))))
    (fun z => [(13, .int .i64 (z.1 : Nat)), (12, .int .i64 z.2.1), (11, .pointer (some ⟨b11, 0, none⟩)), (3, .pointer (some ⟨b3, 0, none⟩)), (0, .slice a gs.length c)])
    (fun x => row b11 62 [.int .i64 ((gs.length : Int) + 1), .string o.a, .string o.b, .int .i64 o.n, .int .i64 o.til, .int .i64 x.2.2, .bool false] :: row b3 57 (ocl o) :: own 62 7 (.slice a gs.length c) gs.length (gs.flatMap gcl) :: F) (0, -1, 0) ⟨Nat.zero_le _, fun _ => rfl, fun _ => rfl⟩ (by repeat (first | exact SubEnv.nil | refine SubEnv.cons (by first | rfl | exact congrArg (fun z => some (Value.int .i64 z)) (by omega) | (simp; done)) ?_)) (fun _ h => h) (fun ⟨j, u, p⟩ hi back => ?_)
  dsimp only at hi back ⊢
  obtain ⟨hj, hroot, hb⟩ := hi
  by_cases hw : o.a = rootS
  · obtain ⟨rfl, hr2⟩ := Prod.mk.inj (hroot hw)
    obtain ⟨rfl, rfl⟩ := Prod.mk.inj hr2
    have e2 : parF gs o.now o.a o.n = 0 := by rw [parF, if_pos hw]
    have hw2 : ¬ o.a ≠ ⟨#[114, 111, 111, 116]⟩ := fun q => q hw
    refine J.seq ?_
    refine J.seq ?_
    refine J.region ?_
    refine JL.pure rfl rfl (OpP.move rfl) ?_
    refine JL.pure rfl rfl (OpP.move rfl) ?_
    refine JL.pure rfl rfl (OpP.len rfl rfl) ?_
    refine JL.dec rfl rfl (OpP.lss rfl rfl) (fun h115 => ?_) (fun h115 => ?_)
    focus
      refine JL.pure rfl rfl (OpP.move rfl) ?_
      refine JL.pure rfl rfl (OpP.fieldAddr rfl) ?_
      refine JL.read rfl rfl (OpR.load1 rfl (Cell.row (.tail .head) rfl)) ?_
      refine JL.decF rfl rfl (OpP.neStr rfl rfl) (by omega) ?_
      refine JL.pure rfl rfl (OpP.pickT rfl rfl) ?_
      refine JL.nil ?_
      refine J.condF rfl ?_
      refine J.exit rfl ?_
      refine J.seq ?_
      refine J.regionD [3, 7] (by kernel_rfl) ?_
      refine DL.pure (i := 1) (by kernel_rfl) (by kernel_rfl) rfl rfl rfl (OpP.move rfl) ?_
      refine DL.read (i := 3) (by kernel_rfl) (by kernel_rfl) rfl rfl rfl (fun _ h => h) (OpR.loadN rfl (Cells.full .head) rfl) ?_
      refine DL.pure (i := 6) (by kernel_rfl) (by kernel_rfl) rfl rfl rfl (OpP.fieldAddr rfl) ?_
      refine DL.read (i := 7) (by kernel_rfl) (by kernel_rfl) rfl rfl rfl (fun _ h => h) (OpR.load1 rfl (Cell.row .head rfl)) ?_
      refine DL.two (i := 0) (j := 4) (by kernel_rfl) ?_ ?_
      focus
        refine DL1.stepK rfl rfl rfl (OpM.w (by apply OpM.buildSlice (by rfl) rfl (by rfl); (repeat (first | exact Fills.nil | (apply Fills.cons rfl rfl rfl; (case' hs => ((repeat (first | exact Spl.nil | apply Spl.here | apply Spl.there)); done))))))) (by rintro _ _ ⟨b166, rfl, rfl⟩ _ h; exact Own.pick (pre := [_, _, _, _]) [1, 2, 3] rfl h) ?_; rintro _ _ ⟨b166, rfl, rfl⟩
        refine DL.two (i := 2) (j := 4) (by kernel_rfl) ?_ ?_
        focus
          refine DL1.ownRow (n := 0) (sz := 7) (by decide) rfl ?_
          refine DL1.stepK rfl rfl rfl (OpM.w (OpM.appendH0 rfl rfl (.inl ⟨_, Sl.und inferInstance⟩) (by rfl) rfl rfl (RdO.src (RdO.own (.tail (.tail (.tail .head)))) (by first | assumption | exact fc_length _ _ | (simp; done) | (simp; omega))) (by first | exact bcells_one _ | exact scells_one _ | exact icells_one _ | assumption | exact fc_one fun _ => rfl) (by simp only [maxLen]; omega) (by omega))) (by rintro _ _ ⟨⟨a168, c168, rfl⟩, rfl⟩ _ h; exact Own.pick (pre := [_, _, _, _]) [1, 2, 3] rfl h) ?_; rintro _ _ ⟨⟨a168, c168, rfl⟩, rfl⟩
          refine DL.only (i := 4) (by kernel_rfl) ?_
          refine DL1.stepK rfl rfl rfl (OpM.w (by apply OpM.buildSlice (by rfl) rfl (by rfl); (repeat (first | exact Fills.nil | (apply Fills.cons rfl rfl rfl; (case' hs => ((repeat (first | exact Spl.nil | apply Spl.here | apply Spl.there)); done))))))) (by rintro _ _ ⟨b170, rfl, rfl⟩ _ h; exact Own.pick (pre := [_, _, _, _, _]) [2, 3, 4] rfl h) ?_; rintro _ _ ⟨b170, rfl, rfl⟩
          refine DL.only (i := 5) (by kernel_rfl) ?_
          refine DL1.f1 ?_; refine DL1.stepK rfl rfl rfl (OpM.w (OpM.appendH rfl (.inl ⟨_, Sl.und inferInstance⟩) (by rfl) rfl rfl (RdO.src (RdO.ofRow (.tail .head) (by first | exact Nat.le_refl _ | decide | omega)) (by first | assumption | exact fc_length _ _ | (simp; done) | (simp; omega))) (oneC rfl (oneC rfl (oneC rfl (oneC rfl (oneC rfl (oneC rfl (one1 rfl))))))) (by simp only [maxLen]; omega) (by omega))) (by rintro _ _ ⟨⟨a171, c171, rfl⟩, rfl⟩ _ h; exact Own.pick (pre := [_, _, _, _, _]) [2, 3, 4] rfl h) ?_; rintro _ _ ⟨⟨a171, c171, rfl⟩, rfl⟩
          refine DL.pure (i := 8) (by kernel_rfl) (by kernel_rfl) rfl rfl rfl (OpP.assign rfl) ?_
          refine DL.pure (i := 9) (by kernel_rfl) (by kernel_rfl) rfl rfl rfl (OpP.assign rfl) ?_
          refine DL.pure (i := 10) (by kernel_rfl) (by kernel_rfl) rfl rfl rfl (OpP.assign rfl) ?_
          refine DL.done (by kernel_rfl) ?_
          refine J.ret3 rfl rfl rfl rfl ?_
        rotate_left 1
        focus
          refine DL1.stepK rfl rfl rfl (OpM.w (by apply OpM.buildSlice (by rfl) rfl (by rfl); (repeat (first | exact Fills.nil | (apply Fills.cons rfl rfl rfl; (case' hs => ((repeat (first | exact Spl.nil | apply Spl.here | apply Spl.there)); done))))))) (by rintro _ _ ⟨b170, rfl, rfl⟩ _ h; exact Own.pick (pre := [_, _, _, _, _]) [2, 3, 4] rfl h) ?_; rintro _ _ ⟨b170, rfl, rfl⟩
          refine DL.only (i := 2) (by kernel_rfl) ?_
          refine DL1.f1 ?_; refine DL1.ownRow (n := 0) (sz := 7) (by decide) rfl ?_
          refine DL1.stepK rfl rfl rfl (OpM.w (OpM.appendH0 rfl rfl (.inl ⟨_, Sl.und inferInstance⟩) (by rfl) rfl rfl (RdO.src (RdO.own (.tail (.tail (.tail (.tail .head))))) (by first | assumption | exact fc_length _ _ | (simp; done) | (simp; omega))) (by first | exact bcells_one _ | exact scells_one _ | exact icells_one _ | assumption | exact fc_one fun _ => rfl) (by simp only [maxLen]; omega) (by omega))) (by rintro _ _ ⟨⟨a168, c168, rfl⟩, rfl⟩ _ h; exact Own.pick (pre := [_, _, _, _, _]) [2, 3, 4] rfl h) ?_; rintro _ _ ⟨⟨a168, c168, rfl⟩, rfl⟩
          refine DL.only (i := 5) (by kernel_rfl) ?_
          refine DL1.stepK rfl rfl rfl (OpM.w (OpM.appendH rfl (.inl ⟨_, Sl.und inferInstance⟩) (by rfl) rfl rfl (RdO.src (RdO.ofRow (.tail .head) (by first | exact Nat.le_refl _ | decide | omega)) (by first | assumption | exact fc_length _ _ | (simp; done) | (simp; omega))) (oneC rfl (oneC rfl (oneC rfl (oneC rfl (oneC rfl (oneC rfl (one1 rfl))))))) (by simp only [maxLen]; omega) (by omega))) (by rintro _ _ ⟨⟨a171, c171, rfl⟩, rfl⟩ _ h; exact Own.pick (pre := [_, _, _, _, _]) [2, 3, 4] rfl h) ?_; rintro _ _ ⟨⟨a171, c171, rfl⟩, rfl⟩
          refine DL.pure (i := 8) (by kernel_rfl) (by kernel_rfl) rfl rfl rfl (OpP.assign rfl) ?_
          refine DL.pure (i := 9) (by kernel_rfl) (by kernel_rfl) rfl rfl rfl (OpP.assign rfl) ?_
          refine DL.pure (i := 10) (by kernel_rfl) (by kernel_rfl) rfl rfl rfl (OpP.assign rfl) ?_
          refine DL.done (by kernel_rfl) ?_
          refine J.ret3 rfl rfl rfl rfl ?_
        rotate_left 1
      rotate_left 2
      focus
        refine DL1.stepK rfl rfl rfl (OpM.w (by apply OpM.buildSlice (by rfl) rfl (by rfl); (repeat (first | exact Fills.nil | (apply Fills.cons rfl rfl rfl; (case' hs => ((repeat (first | exact Spl.nil | apply Spl.here | apply Spl.there)); done))))))) (by rintro _ _ ⟨b170, rfl, rfl⟩ _ h; exact Own.pick (pre := [_, _, _, _]) [1, 2, 3] rfl h) ?_; rintro _ _ ⟨b170, rfl, rfl⟩
        refine DL.only (i := 0) (by kernel_rfl) ?_
        refine DL1.stepK rfl rfl rfl (OpM.w (by apply OpM.buildSlice (by rfl) rfl (by rfl); (repeat (first | exact Fills.nil | (apply Fills.cons rfl rfl rfl; (case' hs => ((repeat (first | exact Spl.nil | apply Spl.here | apply Spl.there)); done))))))) (by rintro _ _ ⟨b166, rfl, rfl⟩ _ h; exact Own.pick (pre := [_, _, _, _, _]) [2, 3, 4] rfl h) ?_; rintro _ _ ⟨b166, rfl, rfl⟩
        refine DL.only (i := 2) (by kernel_rfl) ?_
        refine DL1.ownRow (n := 0) (sz := 7) (by decide) rfl ?_
        refine DL1.stepK rfl rfl rfl (OpM.w (OpM.appendH0 rfl rfl (.inl ⟨_, Sl.und inferInstance⟩) (by rfl) rfl rfl (RdO.src (RdO.own (.tail (.tail (.tail (.tail .head))))) (by first | assumption | exact fc_length _ _ | (simp; done) | (simp; omega))) (by first | exact bcells_one _ | exact scells_one _ | exact icells_one _ | assumption | exact fc_one fun _ => rfl) (by simp only [maxLen]; omega) (by omega))) (by rintro _ _ ⟨⟨a168, c168, rfl⟩, rfl⟩ _ h; exact Own.pick (pre := [_, _, _, _, _]) [2, 3, 4] rfl h) ?_; rintro _ _ ⟨⟨a168, c168, rfl⟩, rfl⟩
        refine DL.only (i := 5) (by kernel_rfl) ?_
        refine DL1.stepK rfl rfl rfl (OpM.w (OpM.appendH rfl (.inl ⟨_, Sl.und inferInstance⟩) (by rfl) rfl rfl (RdO.src (RdO.ofRow (.tail .head) (by first | exact Nat.le_refl _ | decide | omega)) (by first | assumption | exact fc_length _ _ | (simp; done) | (simp; omega))) (oneC rfl (oneC rfl (oneC rfl (oneC rfl (oneC rfl (oneC rfl (one1 rfl))))))) (by simp only [maxLen]; omega) (by omega))) (by rintro _ _ ⟨⟨a171, c171, rfl⟩, rfl⟩ _ h; exact Own.pick (pre := [_, _, _, _, _]) [2, 3, 4] rfl h) ?_; rintro _ _ ⟨⟨a171, c171, rfl⟩, rfl⟩
        refine DL.pure (i := 8) (by kernel_rfl) (by kernel_rfl) rfl rfl rfl (OpP.assign rfl) ?_
        refine DL.pure (i := 9) (by kernel_rfl) (by kernel_rfl) rfl rfl rfl (OpP.assign rfl) ?_
        refine DL.pure (i := 10) (by kernel_rfl) (by kernel_rfl) rfl rfl rfl (OpP.assign rfl) ?_
        refine DL.done (by kernel_rfl) ?_
        refine J.ret3 rfl rfl rfl rfl ?_
      rotate_left 1
    rotate_left 3
    focus
      refine JL.pure rfl rfl (OpP.move rfl) ?_
      refine JL.skip rfl rfl ?_
      refine JL.skip rfl rfl ?_
      refine JL.skip rfl rfl ?_
      refine JL.pure rfl rfl (OpP.pickF rfl rfl) ?_
      refine JL.nil ?_
      refine J.condF rfl ?_
      refine J.exit rfl ?_
      refine J.seq ?_
      refine J.regionD [3, 7] (by kernel_rfl) ?_
      refine DL.pure (i := 1) (by kernel_rfl) (by kernel_rfl) rfl rfl rfl (OpP.move rfl) ?_
      refine DL.read (i := 3) (by kernel_rfl) (by kernel_rfl) rfl rfl rfl (fun _ h => h) (OpR.loadN rfl (Cells.full .head) rfl) ?_
      refine DL.pure (i := 6) (by kernel_rfl) (by kernel_rfl) rfl rfl rfl (OpP.fieldAddr rfl) ?_
      refine DL.read (i := 7) (by kernel_rfl) (by kernel_rfl) rfl rfl rfl (fun _ h => h) (OpR.load1 rfl (Cell.row .head rfl)) ?_
      refine DL.two (i := 0) (j := 4) (by kernel_rfl) ?_ ?_
      focus
        refine DL1.stepK rfl rfl rfl (OpM.w (by apply OpM.buildSlice (by rfl) rfl (by rfl); (repeat (first | exact Fills.nil | (apply Fills.cons rfl rfl rfl; (case' hs => ((repeat (first | exact Spl.nil | apply Spl.here | apply Spl.there)); done))))))) (by rintro _ _ ⟨b166, rfl, rfl⟩ _ h; exact Own.pick (pre := [_, _, _, _]) [1, 2, 3] rfl h) ?_; rintro _ _ ⟨b166, rfl, rfl⟩
        refine DL.two (i := 2) (j := 4) (by kernel_rfl) ?_ ?_
        focus
          refine DL1.ownRow (n := 0) (sz := 7) (by decide) rfl ?_
          refine DL1.stepK rfl rfl rfl (OpM.w (OpM.appendH0 rfl rfl (.inl ⟨_, Sl.und inferInstance⟩) (by rfl) rfl rfl (RdO.src (RdO.own (.tail (.tail (.tail .head)))) (by first | assumption | exact fc_length _ _ | (simp; done) | (simp; omega))) (by first | exact bcells_one _ | exact scells_one _ | exact icells_one _ | assumption | exact fc_one fun _ => rfl) (by simp only [maxLen]; omega) (by omega))) (by rintro _ _ ⟨⟨a168, c168, rfl⟩, rfl⟩ _ h; exact Own.pick (pre := [_, _, _, _]) [1, 2, 3] rfl h) ?_; rintro _ _ ⟨⟨a168, c168, rfl⟩, rfl⟩
          refine DL.only (i := 4) (by kernel_rfl) ?_
          refine DL1.stepK rfl rfl rfl (OpM.w (by apply OpM.buildSlice (by rfl) rfl (by rfl); (repeat (first | exact Fills.nil | (apply Fills.cons rfl rfl rfl; (case' hs => ((repeat (first | exact Spl.nil | apply Spl.here | apply Spl.there)); done))))))) (by rintro _ _ ⟨b170, rfl, rfl⟩ _ h; exact Own.pick (pre := [_, _, _, _, _]) [2, 3, 4] rfl h) ?_; rintro _ _ ⟨b170, rfl, rfl⟩
          refine DL.only (i := 5) (by kernel_rfl) ?_
          refine DL1.f1 ?_; refine DL1.stepK rfl rfl rfl (OpM.w (OpM.appendH rfl (.inl ⟨_, Sl.und inferInstance⟩) (by rfl) rfl rfl (RdO.src (RdO.ofRow (.tail .head) (by first | exact Nat.le_refl _ | decide | omega)) (by first | assumption | exact fc_length _ _ | (simp; done) | (simp; omega))) (oneC rfl (oneC rfl (oneC rfl (oneC rfl (oneC rfl (oneC rfl (one1 rfl))))))) (by simp only [maxLen]; omega) (by omega))) (by rintro _ _ ⟨⟨a171, c171, rfl⟩, rfl⟩ _ h; exact Own.pick (pre := [_, _, _, _, _]) [2, 3, 4] rfl h) ?_; rintro _ _ ⟨⟨a171, c171, rfl⟩, rfl⟩
          refine DL.pure (i := 8) (by kernel_rfl) (by kernel_rfl) rfl rfl rfl (OpP.assign rfl) ?_
          refine DL.pure (i := 9) (by kernel_rfl) (by kernel_rfl) rfl rfl rfl (OpP.assign rfl) ?_
          refine DL.pure (i := 10) (by kernel_rfl) (by kernel_rfl) rfl rfl rfl (OpP.assign rfl) ?_
          refine DL.done (by kernel_rfl) ?_
          refine J.ret3 rfl rfl rfl rfl ?_
        rotate_left 1
        focus
          refine DL1.stepK rfl rfl rfl (OpM.w (by apply OpM.buildSlice (by rfl) rfl (by rfl); (repeat (first | exact Fills.nil | (apply Fills.cons rfl rfl rfl; (case' hs => ((repeat (first | exact Spl.nil | apply Spl.here | apply Spl.there)); done))))))) (by rintro _ _ ⟨b170, rfl, rfl⟩ _ h; exact Own.pick (pre := [_, _, _, _, _]) [2, 3, 4] rfl h) ?_; rintro _ _ ⟨b170, rfl, rfl⟩
          refine DL.only (i := 2) (by kernel_rfl) ?_
          refine DL1.f1 ?_; refine DL1.ownRow (n := 0) (sz := 7) (by decide) rfl ?_
          refine DL1.stepK rfl rfl rfl (OpM.w (OpM.appendH0 rfl rfl (.inl ⟨_, Sl.und inferInstance⟩) (by rfl) rfl rfl (RdO.src (RdO.own (.tail (.tail (.tail (.tail .head))))) (by first | assumption | exact fc_length _ _ | (simp; done) | (simp; omega))) (by first | exact bcells_one _ | exact scells_one _ | exact icells_one _ | assumption | exact fc_one fun _ => rfl) (by simp only [maxLen]; omega) (by omega))) (by rintro _ _ ⟨⟨a168, c168, rfl⟩, rfl⟩ _ h; exact Own.pick (pre := [_, _, _, _, _]) [2, 3, 4] rfl h) ?_; rintro _ _ ⟨⟨a168, c168, rfl⟩, rfl⟩
          refine DL.only (i := 5) (by kernel_rfl) ?_
          refine DL1.stepK rfl rfl rfl (OpM.w (OpM.appendH rfl (.inl ⟨_, Sl.und inferInstance⟩) (by rfl) rfl rfl (RdO.src (RdO.ofRow (.tail .head) (by first | exact Nat.le_refl _ | decide | omega)) (by first | assumption | exact fc_length _ _ | (simp; done) | (simp; omega))) (oneC rfl (oneC rfl (oneC rfl (oneC rfl (oneC rfl (oneC rfl (one1 rfl))))))) (by simp only [maxLen]; omega) (by omega))) (by rintro _ _ ⟨⟨a171, c171, rfl⟩, rfl⟩ _ h; exact Own.pick (pre := [_, _, _, _, _]) [2, 3, 4] rfl h) ?_; rintro _ _ ⟨⟨a171, c171, rfl⟩, rfl⟩
          refine DL.pure (i := 8) (by kernel_rfl) (by kernel_rfl) rfl rfl rfl (OpP.assign rfl) ?_
          refine DL.pure (i := 9) (by kernel_rfl) (by kernel_rfl) rfl rfl rfl (OpP.assign rfl) ?_
          refine DL.pure (i := 10) (by kernel_rfl) (by kernel_rfl) rfl rfl rfl (OpP.assign rfl) ?_
          refine DL.done (by kernel_rfl) ?_
          refine J.ret3 rfl rfl rfl rfl ?_
        rotate_left 1
      rotate_left 2
      focus
        refine DL1.stepK rfl rfl rfl (OpM.w (by apply OpM.buildSlice (by rfl) rfl (by rfl); (repeat (first | exact Fills.nil | (apply Fills.cons rfl rfl rfl; (case' hs => ((repeat (first | exact Spl.nil | apply Spl.here | apply Spl.there)); done))))))) (by rintro _ _ ⟨b170, rfl, rfl⟩ _ h; exact Own.pick (pre := [_, _, _, _]) [1, 2, 3] rfl h) ?_; rintro _ _ ⟨b170, rfl, rfl⟩
        refine DL.only (i := 0) (by kernel_rfl) ?_
        refine DL1.stepK rfl rfl rfl (OpM.w (by apply OpM.buildSlice (by rfl) rfl (by rfl); (repeat (first | exact Fills.nil | (apply Fills.cons rfl rfl rfl; (case' hs => ((repeat (first | exact Spl.nil | apply Spl.here | apply Spl.there)); done))))))) (by rintro _ _ ⟨b166, rfl, rfl⟩ _ h; exact Own.pick (pre := [_, _, _, _, _]) [2, 3, 4] rfl h) ?_; rintro _ _ ⟨b166, rfl, rfl⟩
        refine DL.only (i := 2) (by kernel_rfl) ?_
        refine DL1.ownRow (n := 0) (sz := 7) (by decide) rfl ?_
        refine DL1.stepK rfl rfl rfl (OpM.w (OpM.appendH0 rfl rfl (.inl ⟨_, Sl.und inferInstance⟩) (by rfl) rfl rfl (RdO.src (RdO.own (.tail (.tail (.tail (.tail .head))))) (by first | assumption | exact fc_length _ _ | (simp; done) | (simp; omega))) (by first | exact bcells_one _ | exact scells_one _ | exact icells_one _ | assumption | exact fc_one fun _ => rfl) (by simp only [maxLen]; omega) (by omega))) (by rintro _ _ ⟨⟨a168, c168, rfl⟩, rfl⟩ _ h; exact Own.pick (pre := [_, _, _, _, _]) [2, 3, 4] rfl h) ?_; rintro _ _ ⟨⟨a168, c168, rfl⟩, rfl⟩
        refine DL.only (i := 5) (by kernel_rfl) ?_
        refine DL1.stepK rfl rfl rfl (OpM.w (OpM.appendH rfl (.inl ⟨_, Sl.und inferInstance⟩) (by rfl) rfl rfl (RdO.src (RdO.ofRow (.tail .head) (by first | exact Nat.le_refl _ | decide | omega)) (by first | assumption | exact fc_length _ _ | (simp; done) | (simp; omega))) (oneC rfl (oneC rfl (oneC rfl (oneC rfl (oneC rfl (oneC rfl (one1 rfl))))))) (by simp only [maxLen]; omega) (by omega))) (by rintro _ _ ⟨⟨a171, c171, rfl⟩, rfl⟩ _ h; exact Own.pick (pre := [_, _, _, _, _]) [2, 3, 4] rfl h) ?_; rintro _ _ ⟨⟨a171, c171, rfl⟩, rfl⟩
        refine DL.pure (i := 8) (by kernel_rfl) (by kernel_rfl) rfl rfl rfl (OpP.assign rfl) ?_
        refine DL.pure (i := 9) (by kernel_rfl) (by kernel_rfl) rfl rfl rfl (OpP.assign rfl) ?_
        refine DL.pure (i := 10) (by kernel_rfl) (by kernel_rfl) rfl rfl rfl (OpP.assign rfl) ?_
        refine DL.done (by kernel_rfl) ?_
        refine J.ret3 rfl rfl rfl rfl ?_
      rotate_left 1
    rotate_left 3
    all_goals refine ⟨_, ⟨a171, c171, by rw [List.length_append]; rfl, rfl⟩, fun _ h => ?_⟩
    all_goals rw [List.length_append, List.flatMap_append, giveG, e2]
    all_goals first | exact Own.pick (pre := [_, _, _]) [0] rfl h | exact Own.pick (pre := [_, _, _, _]) [0] rfl h | exact Own.pick (pre := [_, _, _, _, _]) [0] rfl h | exact Own.pick (pre := [_, _, _, _, _, _]) [0] rfl h | exact Own.pick (pre := [_, _, _, _, _, _, _]) [0] rfl h | exact Own.pick (pre := [_, _, _, _, _, _, _, _]) [0] rfl h
  · replace hb := hb hw
    by_cases hlt : j < gs.length
    · obtain ⟨g, hg⟩ : ∃ e, gs[j]? = some e := ⟨_, List.getElem?_eq_getElem hlt⟩
      have hgn := (wf.2 _ _ hg).2.2
      have hgt := htil g (List.mem_of_getElem? hg)
      have hnx := best_step (now := o.now) (who := o.a) (d := o.n) hg hgt
      rw [← hb] at hnx
      dsimp only at hnx
      have al := fun (l : List HProp) (hr : RdO w0 l (.slice a gs.length c) gs.length (gs.flatMap gcl)) => refAlive_ok (now := o.now) hr wf gs.length ((j : Int) + 1) (by omega)
      refine J.rd (RdO.own (.tail (.tail .head))) fun hr1 => ?_
      obtain ⟨ga, pa, qa, ea, ka, hcs⟩ := hr1.pos (by omega)
      cases ea
      refine J.seq ?_
      refine J.seq ?_
      refine J.region ?_
      refine JL.pure rfl rfl (OpP.move rfl) ?_
      refine JL.pure rfl rfl (OpP.move rfl) ?_
      refine JL.pure rfl rfl (OpP.len rfl rfl) ?_
      refine JL.decT rfl rfl (OpP.lss rfl rfl) (by omega) ?_
      refine JL.pure rfl rfl (OpP.move rfl) ?_
      refine JL.pure rfl rfl (OpP.fieldAddr rfl) ?_
      refine JL.read rfl rfl (OpR.load1 rfl (Cell.row (.tail .head) rfl)) ?_
      refine JL.decT rfl rfl (OpP.neStr rfl rfl) (by omega) ?_
      refine JL.pure rfl rfl (OpP.pickT rfl rfl) ?_
      refine JL.nil ?_
      refine J.condT rfl ?_
      refine J.skip ?_
      refine J.seq ?_
      refine J.block ?_
      refine J.seq ?_
      refine J.regionD [4, 6, 13, 15, 21, 31] (by kernel_rfl) ?_
      refine DL.pure (i := 0) (by kernel_rfl) (by kernel_rfl) rfl rfl rfl (OpP.move rfl) ?_
      refine DL.pure (i := 1) (by kernel_rfl) (by kernel_rfl) rfl rfl rfl (OpP.move rfl) ?_
      refine DL.pure (i := 2) (by kernel_rfl) (by kernel_rfl) rfl rfl rfl (OpP.indexAddr rfl rfl (by omega) (by omega)) ?_
      refine DL.pure (i := 3) (by kernel_rfl) (by kernel_rfl) rfl rfl rfl (OpP.fieldAddr rfl) ?_
      refine DL.read (i := 4) (by kernel_rfl) (by kernel_rfl) rfl rfl rfl (fun _ h => h) (OpR.load1 rfl (by apply Cells.cellChunk (j := 2) (Cells.own (.tail (.tail .head))) (fun _ h => h); (case' h => assumption); (case' hi => assumption); (case' hv => rfl); (case' ho => omega); done)) ?_
      refine DL.pure (i := 5) (by kernel_rfl) (by kernel_rfl) rfl rfl rfl (OpP.fieldAddr rfl) ?_
      refine DL.read (i := 6) (by kernel_rfl) (by kernel_rfl) rfl rfl rfl (fun _ h => h) (OpR.load1 rfl (Cell.row (.tail .head) rfl)) ?_
      refine DL.dec (i := 7) (by kernel_rfl) (by kernel_rfl) rfl rfl rfl (OpP.eqStr rfl rfl) (fun h130 => ?_) (fun h130 => ?_)
      focus
        refine DL.pure (i := 8) (by kernel_rfl) (by kernel_rfl) rfl rfl rfl (OpP.move rfl) ?_
        refine DL.pure (i := 9) (by kernel_rfl) (by kernel_rfl) rfl rfl rfl (OpP.move rfl) ?_
        refine DL.pure (i := 10) (by kernel_rfl) (by kernel_rfl) rfl rfl rfl (OpP.move rfl) ?_
        refine DL.pure (i := 11) (by kernel_rfl) (by kernel_rfl) rfl rfl rfl (OpP.indexAddr rfl rfl (by omega) (by omega)) ?_
        refine DL.pure (i := 12) (by kernel_rfl) (by kernel_rfl) rfl rfl rfl (OpP.fieldAddr rfl) ?_
        refine DL.read (i := 13) (by kernel_rfl) (by kernel_rfl) rfl rfl rfl (fun _ h => h) (OpR.load1 rfl (by apply Cells.cellChunk (j := 3) (Cells.own (.tail (.tail .head))) (fun _ h => h); (case' h => assumption); (case' hi => assumption); (case' hv => rfl); (case' ho => omega); done)) ?_
        refine DL.pure (i := 14) (by kernel_rfl) (by kernel_rfl) rfl rfl rfl (OpP.fieldAddr rfl) ?_
        refine DL.read (i := 15) (by kernel_rfl) (by kernel_rfl) rfl rfl rfl (fun _ h => h) (OpR.load1 rfl (Cell.row (.tail .head) rfl)) ?_
        refine DL.dec (i := 16) (by kernel_rfl) (by kernel_rfl) rfl rfl rfl (OpP.gtr rfl rfl) (fun h139 => ?_) (fun h139 => ?_)
        focus
          refine DL.pure (i := 17) (by kernel_rfl) (by kernel_rfl) rfl rfl rfl (OpP.pickT rfl rfl) ?_
          refine DL.pure (i := 18) (by kernel_rfl) (by kernel_rfl) rfl rfl rfl (OpP.move rfl) ?_
          refine DL.pure (i := 19) (by kernel_rfl) (by kernel_rfl) rfl rfl rfl (OpP.move rfl) ?_
          refine DL.pure (i := 20) (by kernel_rfl) (by kernel_rfl) rfl rfl rfl (OpP.fieldAddr rfl) ?_
          refine DL.read (i := 21) (by kernel_rfl) (by kernel_rfl) rfl rfl rfl (fun _ h => h) (OpR.load1 rfl (Cell.row (.tail .head) rfl)) ?_
          refine DL.pure (i := 22) (by kernel_rfl) (by kernel_rfl) rfl rfl rfl (OpP.move rfl) ?_
          refine DL.pure (i := 23) (by kernel_rfl) (by kernel_rfl) rfl rfl rfl (OpP.addI rfl rfl (by omega) (by omega)) ?_
          refine DL.only (i := 24) (by kernel_rfl) ?_
          refine DL1.stepK rfl rfl rfl (by exact OpW.call (first := []) (captured := []) inferInstance rfl rfl (al _ (RdO.own (.tail (.tail .head))))) (by rintro _ _ ⟨rfl, rfl⟩ _ h; exact Own.pick (pre := [_, _, _]) [0, 1, 2] rfl h) ?_; rintro r147 _ ⟨rfl, rfl⟩
          refine DL.pure (i := 25) (by kernel_rfl) (by kernel_rfl) rfl rfl rfl (OpP.pickT rfl rfl) ?_
          refine DL.pure (i := 26) (by kernel_rfl) (by kernel_rfl) rfl rfl rfl (OpP.move rfl) ?_
          refine DL.decAt 149 rfl (fun h149 => ?_) (fun h149 => ?_)
          focus
            refine DL.pure (i := 27) (by kernel_rfl) (by kernel_rfl) rfl rfl rfl (OpP.move rfl) ?_
            refine DL.pure (i := 28) (by kernel_rfl) (by kernel_rfl) rfl rfl rfl (OpP.move rfl) ?_
            refine DL.pure (i := 29) (by kernel_rfl) (by kernel_rfl) rfl rfl rfl (OpP.indexAddr rfl rfl (by omega) (by omega)) ?_
            refine DL.pure (i := 30) (by kernel_rfl) (by kernel_rfl) rfl rfl rfl (OpP.fieldAddr rfl) ?_
            refine DL.read (i := 31) (by kernel_rfl) (by kernel_rfl) rfl rfl rfl (fun _ h => h) (OpR.load1 rfl (by apply Cells.cellChunk (j := 4) (Cells.own (.tail (.tail .head))) (fun _ h => h); (case' h => assumption); (case' hi => assumption); (case' hv => rfl); (case' ho => omega); done)) ?_
            refine DL.pure (i := 32) (by kernel_rfl) (by kernel_rfl) rfl rfl rfl (OpP.move rfl) ?_
            refine DL.dec (i := 33) (by kernel_rfl) (by kernel_rfl) rfl rfl rfl (OpP.gtr rfl rfl) (fun h156 => ?_) (fun h156 => ?_)
            focus
              refine DL.pure (i := 34) (by kernel_rfl) (by kernel_rfl) rfl rfl rfl (OpP.pickT rfl rfl) ?_
              refine DL.done (by kernel_rfl) ?_
              refine J.condT rfl ?_
              refine J.seq ?_
              refine J.region ?_
              refine JL.pure rfl rfl (OpP.move rfl) ?_
              refine JL.pure rfl rfl (OpP.move rfl) ?_
              refine JL.pure rfl rfl (OpP.indexAddr rfl rfl (by omega) (by omega)) ?_
              refine JL.pure rfl rfl (OpP.fieldAddr rfl) ?_
              refine JL.read rfl rfl (OpR.load1 rfl (by apply Cells.cellChunk (j := 4) (Cells.own (.tail (.tail .head))) (fun _ h => h); (case' h => assumption); (case' hi => assumption); (case' hv => rfl); (case' ho => omega); done)) ?_
              refine JL.pure rfl rfl (OpP.assign rfl) ?_
              refine JL.nil ?_
              refine J.region ?_
              refine JL.pure rfl rfl (OpP.move rfl) ?_
              refine JL.pure rfl rfl (OpP.addI rfl rfl (by omega) (by omega)) ?_
              refine JL.pure rfl rfl (OpP.fieldAddr rfl) ?_
              refine JL.mem0 rfl (by apply OpM.store1 rfl rfl rfl; (case' hu => exact .head); (case' hs => exact (.there (.there (.there (.there (.there (.here .nil))))))); done) ?_; rintro _ _ ⟨rfl, rfl⟩
              refine JL.nil ?_
              refine J.inBlock ?_
              refine J.region ?_
              refine JL.pure rfl rfl (OpP.move rfl) ?_
              refine JL.pure rfl rfl (OpP.addI rfl rfl (by omega) (by omega)) ?_
              refine JL.pure rfl rfl (OpP.assign rfl) ?_
              refine JL.nil ?_
            rotate_left 1
            focus
              refine DL.pure (i := 34) (by kernel_rfl) (by kernel_rfl) rfl rfl rfl (OpP.pickT rfl rfl) ?_
              refine DL.done (by kernel_rfl) ?_
              refine J.condF rfl ?_
              refine J.skip ?_
              refine J.inBlock ?_
              refine J.region ?_
              refine JL.pure rfl rfl (OpP.move rfl) ?_
              refine JL.pure rfl rfl (OpP.addI rfl rfl (by omega) (by omega)) ?_
              refine JL.pure rfl rfl (OpP.assign rfl) ?_
              refine JL.nil ?_
            rotate_left 1
          rotate_left 2
          focus
            refine DL.skip (i := 27) (by kernel_rfl) (by kernel_rfl) rfl rfl rfl ?_
            refine DL.skip (i := 28) (by kernel_rfl) (by kernel_rfl) rfl rfl rfl ?_
            refine DL.skip (i := 29) (by kernel_rfl) (by kernel_rfl) rfl rfl rfl ?_
            refine DL.skip (i := 30) (by kernel_rfl) (by kernel_rfl) rfl rfl rfl ?_
            refine DL.skip (i := 31) (by kernel_rfl) (by kernel_rfl) rfl rfl rfl ?_
            refine DL.skip (i := 32) (by kernel_rfl) (by kernel_rfl) rfl rfl rfl ?_
            refine DL.skip (i := 33) (by kernel_rfl) (by kernel_rfl) rfl rfl rfl ?_
            refine DL.pure (i := 34) (by kernel_rfl) (by kernel_rfl) rfl rfl rfl (OpP.pickF rfl rfl) ?_
            refine DL.done (by kernel_rfl) ?_
            refine J.condF rfl ?_
            refine J.skip ?_
            refine J.inBlock ?_
            refine J.region ?_
            refine JL.pure rfl rfl (OpP.move rfl) ?_
            refine JL.pure rfl rfl (OpP.addI rfl rfl (by omega) (by omega)) ?_
            refine JL.pure rfl rfl (OpP.assign rfl) ?_
            refine JL.nil ?_
          rotate_left 1
        rotate_left 3
        focus
          refine DL.pure (i := 17) (by kernel_rfl) (by kernel_rfl) rfl rfl rfl (OpP.pickT rfl rfl) ?_
          refine DL.pure (i := 18) (by kernel_rfl) (by kernel_rfl) rfl rfl rfl (OpP.move rfl) ?_
          refine DL.skip (i := 19) (by kernel_rfl) (by kernel_rfl) rfl rfl rfl ?_
          refine DL.skip (i := 20) (by kernel_rfl) (by kernel_rfl) rfl rfl rfl ?_
          refine DL.skip (i := 21) (by kernel_rfl) (by kernel_rfl) rfl rfl rfl ?_
          refine DL.skip (i := 22) (by kernel_rfl) (by kernel_rfl) rfl rfl rfl ?_
          refine DL.skip (i := 23) (by kernel_rfl) (by kernel_rfl) rfl rfl rfl ?_
          refine DL.skip (i := 24) (by kernel_rfl) (by kernel_rfl) rfl rfl rfl ?_
          refine DL.pure (i := 25) (by kernel_rfl) (by kernel_rfl) rfl rfl rfl (OpP.pickF rfl rfl) ?_
          refine DL.pure (i := 26) (by kernel_rfl) (by kernel_rfl) rfl rfl rfl (OpP.move rfl) ?_
          refine DL.skip (i := 27) (by kernel_rfl) (by kernel_rfl) rfl rfl rfl ?_
          refine DL.skip (i := 28) (by kernel_rfl) (by kernel_rfl) rfl rfl rfl ?_
          refine DL.skip (i := 29) (by kernel_rfl) (by kernel_rfl) rfl rfl rfl ?_
          refine DL.skip (i := 30) (by kernel_rfl) (by kernel_rfl) rfl rfl rfl ?_
          refine DL.skip (i := 31) (by kernel_rfl) (by kernel_rfl) rfl rfl rfl ?_
          refine DL.skip (i := 32) (by kernel_rfl) (by kernel_rfl) rfl rfl rfl ?_
          refine DL.skip (i := 33) (by kernel_rfl) (by kernel_rfl) rfl rfl rfl ?_
          refine DL.pure (i := 34) (by kernel_rfl) (by kernel_rfl) rfl rfl rfl (OpP.pickF rfl rfl) ?_
          refine DL.done (by kernel_rfl) ?_
          refine J.condF rfl ?_
          refine J.skip ?_
          refine J.inBlock ?_
          refine J.region ?_
          refine JL.pure rfl rfl (OpP.move rfl) ?_
          refine JL.pure rfl rfl (OpP.addI rfl rfl (by omega) (by omega)) ?_
          refine JL.pure rfl rfl (OpP.assign rfl) ?_
          refine JL.nil ?_
        rotate_left 1
      rotate_left 4
      focus
        refine DL.pure (i := 8) (by kernel_rfl) (by kernel_rfl) rfl rfl rfl (OpP.move rfl) ?_
        refine DL.skip (i := 9) (by kernel_rfl) (by kernel_rfl) rfl rfl rfl ?_
        refine DL.skip (i := 10) (by kernel_rfl) (by kernel_rfl) rfl rfl rfl ?_
        refine DL.skip (i := 11) (by kernel_rfl) (by kernel_rfl) rfl rfl rfl ?_
        refine DL.skip (i := 12) (by kernel_rfl) (by kernel_rfl) rfl rfl rfl ?_
        refine DL.skip (i := 13) (by kernel_rfl) (by kernel_rfl) rfl rfl rfl ?_
        refine DL.skip (i := 14) (by kernel_rfl) (by kernel_rfl) rfl rfl rfl ?_
        refine DL.skip (i := 15) (by kernel_rfl) (by kernel_rfl) rfl rfl rfl ?_
        refine DL.skip (i := 16) (by kernel_rfl) (by kernel_rfl) rfl rfl rfl ?_
        refine DL.pure (i := 17) (by kernel_rfl) (by kernel_rfl) rfl rfl rfl (OpP.pickF rfl rfl) ?_
        refine DL.pure (i := 18) (by kernel_rfl) (by kernel_rfl) rfl rfl rfl (OpP.move rfl) ?_
        refine DL.skip (i := 19) (by kernel_rfl) (by kernel_rfl) rfl rfl rfl ?_
        refine DL.skip (i := 20) (by kernel_rfl) (by kernel_rfl) rfl rfl rfl ?_
        refine DL.skip (i := 21) (by kernel_rfl) (by kernel_rfl) rfl rfl rfl ?_
        refine DL.skip (i := 22) (by kernel_rfl) (by kernel_rfl) rfl rfl rfl ?_
        refine DL.skip (i := 23) (by kernel_rfl) (by kernel_rfl) rfl rfl rfl ?_
        refine DL.skip (i := 24) (by kernel_rfl) (by kernel_rfl) rfl rfl rfl ?_
        refine DL.pure (i := 25) (by kernel_rfl) (by kernel_rfl) rfl rfl rfl (OpP.pickF rfl rfl) ?_
        refine DL.pure (i := 26) (by kernel_rfl) (by kernel_rfl) rfl rfl rfl (OpP.move rfl) ?_
        refine DL.skip (i := 27) (by kernel_rfl) (by kernel_rfl) rfl rfl rfl ?_
        refine DL.skip (i := 28) (by kernel_rfl) (by kernel_rfl) rfl rfl rfl ?_
        refine DL.skip (i := 29) (by kernel_rfl) (by kernel_rfl) rfl rfl rfl ?_
        refine DL.skip (i := 30) (by kernel_rfl) (by kernel_rfl) rfl rfl rfl ?_
        refine DL.skip (i := 31) (by kernel_rfl) (by kernel_rfl) rfl rfl rfl ?_
        refine DL.skip (i := 32) (by kernel_rfl) (by kernel_rfl) rfl rfl rfl ?_
        refine DL.skip (i := 33) (by kernel_rfl) (by kernel_rfl) rfl rfl rfl ?_
        refine DL.pure (i := 34) (by kernel_rfl) (by kernel_rfl) rfl rfl rfl (OpP.pickF rfl rfl) ?_
        refine DL.done (by kernel_rfl) ?_
        refine J.condF rfl ?_
        refine J.skip ?_
        refine J.inBlock ?_
        refine J.region ?_
        refine JL.pure rfl rfl (OpP.move rfl) ?_
        refine JL.pure rfl rfl (OpP.addI rfl rfl (by omega) (by omega)) ?_
        refine JL.pure rfl rfl (OpP.assign rfl) ?_
        refine JL.nil ?_
      rotate_left 1
      · exact back (j + 1, g.til, (j : Int) + 1) ⟨by dsimp only; omega, fun q => absurd q hw, fun _ => by dsimp only; rw [hnx, if_pos ⟨by simp [hasB, *], by omega, by omega⟩, hgn]⟩ (by dsimp only; omega) (by repeat (first | exact SubEnv.nil | refine SubEnv.cons (by first | rfl | exact congrArg (fun z => some (Value.int .i64 z)) (by omega) | (simp; done)) ?_)) (fun _ h => h)
      · exact back (j + 1, u, p) ⟨by dsimp only; omega, fun q => absurd q hw, fun _ => by dsimp only; rw [hnx, if_neg (fun q => by first | omega | (simp [hasB, *] at q; done) | (simp [hasB, *] at q; omega))]⟩ (by dsimp only; omega) (by repeat (first | exact SubEnv.nil | refine SubEnv.cons (by first | rfl | exact congrArg (fun z => some (Value.int .i64 z)) (by omega) | (simp; done)) ?_)) (fun _ h => h)
      · exact back (j + 1, u, p) ⟨by dsimp only; omega, fun q => absurd q hw, fun _ => by dsimp only; rw [hnx, if_neg (fun q => by first | omega | (simp [hasB, *] at q; done) | (simp [hasB, *] at q; omega))]⟩ (by dsimp only; omega) (by repeat (first | exact SubEnv.nil | refine SubEnv.cons (by first | rfl | exact congrArg (fun z => some (Value.int .i64 z)) (by omega) | (simp; done)) ?_)) (fun _ h => h)
      · exact back (j + 1, u, p) ⟨by dsimp only; omega, fun q => absurd q hw, fun _ => by dsimp only; rw [hnx, if_neg (fun q => by first | omega | (simp [hasB, *] at q; done) | (simp [hasB, *] at q; omega))]⟩ (by dsimp only; omega) (by repeat (first | exact SubEnv.nil | refine SubEnv.cons (by first | rfl | exact congrArg (fun z => some (Value.int .i64 z)) (by omega) | (simp; done)) ?_)) (fun _ h => h)
      · exact back (j + 1, u, p) ⟨by dsimp only; omega, fun q => absurd q hw, fun _ => by dsimp only; rw [hnx, if_neg (fun q => by first | omega | (simp [hasB, *] at q; done) | (simp [hasB, *] at q; omega))]⟩ (by dsimp only; omega) (by repeat (first | exact SubEnv.nil | refine SubEnv.cons (by first | rfl | exact congrArg (fun z => some (Value.int .i64 z)) (by omega) | (simp; done)) ?_)) (fun _ h => h)
    · have : j = gs.length := by omega
      subst this
      rw [List.take_length] at hb
      have e2 : parF gs o.now o.a o.n = p := by rw [parF_best hw, ← hb]
      refine J.seq ?_
      refine J.seq ?_
      refine J.region ?_
      refine JL.pure rfl rfl (OpP.move rfl) ?_
      refine JL.pure rfl rfl (OpP.move rfl) ?_
      refine JL.pure rfl rfl (OpP.len rfl rfl) ?_
      refine JL.decF rfl rfl (OpP.lss rfl rfl) (by omega) ?_
      refine JL.pure rfl rfl (OpP.move rfl) ?_
      refine JL.skip rfl rfl ?_
      refine JL.skip rfl rfl ?_
      refine JL.skip rfl rfl ?_
      refine JL.pure rfl rfl (OpP.pickF rfl rfl) ?_
      refine JL.nil ?_
      refine J.condF rfl ?_
      refine J.exit rfl ?_
      refine J.seq ?_
      refine J.regionD [3, 7] (by kernel_rfl) ?_
      refine DL.pure (i := 1) (by kernel_rfl) (by kernel_rfl) rfl rfl rfl (OpP.move rfl) ?_
      refine DL.read (i := 3) (by kernel_rfl) (by kernel_rfl) rfl rfl rfl (fun _ h => h) (OpR.loadN rfl (Cells.full .head) rfl) ?_
      refine DL.pure (i := 6) (by kernel_rfl) (by kernel_rfl) rfl rfl rfl (OpP.fieldAddr rfl) ?_
      refine DL.read (i := 7) (by kernel_rfl) (by kernel_rfl) rfl rfl rfl (fun _ h => h) (OpR.load1 rfl (Cell.row .head rfl)) ?_
      refine DL.two (i := 0) (j := 4) (by kernel_rfl) ?_ ?_
      focus
        refine DL1.stepK rfl rfl rfl (OpM.w (by apply OpM.buildSlice (by rfl) rfl (by rfl); (repeat (first | exact Fills.nil | (apply Fills.cons rfl rfl rfl; (case' hs => ((repeat (first | exact Spl.nil | apply Spl.here | apply Spl.there)); done))))))) (by rintro _ _ ⟨b166, rfl, rfl⟩ _ h; exact Own.pick (pre := [_, _, _, _]) [1, 2, 3] rfl h) ?_; rintro _ _ ⟨b166, rfl, rfl⟩
        refine DL.two (i := 2) (j := 4) (by kernel_rfl) ?_ ?_
        focus
          refine DL1.ownRow (n := 0) (sz := 7) (by decide) rfl ?_
          refine DL1.stepK rfl rfl rfl (OpM.w (OpM.appendH0 rfl rfl (.inl ⟨_, Sl.und inferInstance⟩) (by rfl) rfl rfl (RdO.src (RdO.own (.tail (.tail (.tail .head)))) (by first | assumption | exact fc_length _ _ | (simp; done) | (simp; omega))) (by first | exact bcells_one _ | exact scells_one _ | exact icells_one _ | assumption | exact fc_one fun _ => rfl) (by simp only [maxLen]; omega) (by omega))) (by rintro _ _ ⟨⟨a168, c168, rfl⟩, rfl⟩ _ h; exact Own.pick (pre := [_, _, _, _]) [1, 2, 3] rfl h) ?_; rintro _ _ ⟨⟨a168, c168, rfl⟩, rfl⟩
          refine DL.only (i := 4) (by kernel_rfl) ?_
          refine DL1.stepK rfl rfl rfl (OpM.w (by apply OpM.buildSlice (by rfl) rfl (by rfl); (repeat (first | exact Fills.nil | (apply Fills.cons rfl rfl rfl; (case' hs => ((repeat (first | exact Spl.nil | apply Spl.here | apply Spl.there)); done))))))) (by rintro _ _ ⟨b170, rfl, rfl⟩ _ h; exact Own.pick (pre := [_, _, _, _, _]) [2, 3, 4] rfl h) ?_; rintro _ _ ⟨b170, rfl, rfl⟩
          refine DL.only (i := 5) (by kernel_rfl) ?_
          refine DL1.f1 ?_; refine DL1.stepK rfl rfl rfl (OpM.w (OpM.appendH rfl (.inl ⟨_, Sl.und inferInstance⟩) (by rfl) rfl rfl (RdO.src (RdO.ofRow (.tail .head) (by first | exact Nat.le_refl _ | decide | omega)) (by first | assumption | exact fc_length _ _ | (simp; done) | (simp; omega))) (oneC rfl (oneC rfl (oneC rfl (oneC rfl (oneC rfl (oneC rfl (one1 rfl))))))) (by simp only [maxLen]; omega) (by omega))) (by rintro _ _ ⟨⟨a171, c171, rfl⟩, rfl⟩ _ h; exact Own.pick (pre := [_, _, _, _, _]) [2, 3, 4] rfl h) ?_; rintro _ _ ⟨⟨a171, c171, rfl⟩, rfl⟩
          refine DL.pure (i := 8) (by kernel_rfl) (by kernel_rfl) rfl rfl rfl (OpP.assign rfl) ?_
          refine DL.pure (i := 9) (by kernel_rfl) (by kernel_rfl) rfl rfl rfl (OpP.assign rfl) ?_
          refine DL.pure (i := 10) (by kernel_rfl) (by kernel_rfl) rfl rfl rfl (OpP.assign rfl) ?_
          refine DL.done (by kernel_rfl) ?_
          refine J.ret3 rfl rfl rfl rfl ?_
        rotate_left 1
        focus
          refine DL1.stepK rfl rfl rfl (OpM.w (by apply OpM.buildSlice (by rfl) rfl (by rfl); (repeat (first | exact Fills.nil | (apply Fills.cons rfl rfl rfl; (case' hs => ((repeat (first | exact Spl.nil | apply Spl.here | apply Spl.there)); done))))))) (by rintro _ _ ⟨b170, rfl, rfl⟩ _ h; exact Own.pick (pre := [_, _, _, _, _]) [2, 3, 4] rfl h) ?_; rintro _ _ ⟨b170, rfl, rfl⟩
          refine DL.only (i := 2) (by kernel_rfl) ?_
          refine DL1.f1 ?_; refine DL1.ownRow (n := 0) (sz := 7) (by decide) rfl ?_
          refine DL1.stepK rfl rfl rfl (OpM.w (OpM.appendH0 rfl rfl (.inl ⟨_, Sl.und inferInstance⟩) (by rfl) rfl rfl (RdO.src (RdO.own (.tail (.tail (.tail (.tail .head))))) (by first | assumption | exact fc_length _ _ | (simp; done) | (simp; omega))) (by first | exact bcells_one _ | exact scells_one _ | exact icells_one _ | assumption | exact fc_one fun _ => rfl) (by simp only [maxLen]; omega) (by omega))) (by rintro _ _ ⟨⟨a168, c168, rfl⟩, rfl⟩ _ h; exact Own.pick (pre := [_, _, _, _, _]) [2, 3, 4] rfl h) ?_; rintro _ _ ⟨⟨a168, c168, rfl⟩, rfl⟩
          refine DL.only (i := 5) (by kernel_rfl) ?_
          refine DL1.stepK rfl rfl rfl (OpM.w (OpM.appendH rfl (.inl ⟨_, Sl.und inferInstance⟩) (by rfl) rfl rfl (RdO.src (RdO.ofRow (.tail .head) (by first | exact Nat.le_refl _ | decide | omega)) (by first | assumption | exact fc_length _ _ | (simp; done) | (simp; omega))) (oneC rfl (oneC rfl (oneC rfl (oneC rfl (oneC rfl (oneC rfl (one1 rfl))))))) (by simp only [maxLen]; omega) (by omega))) (by rintro _ _ ⟨⟨a171, c171, rfl⟩, rfl⟩ _ h; exact Own.pick (pre := [_, _, _, _, _]) [2, 3, 4] rfl h) ?_; rintro _ _ ⟨⟨a171, c171, rfl⟩, rfl⟩
          refine DL.pure (i := 8) (by kernel_rfl) (by kernel_rfl) rfl rfl rfl (OpP.assign rfl) ?_
          refine DL.pure (i := 9) (by kernel_rfl) (by kernel_rfl) rfl rfl rfl (OpP.assign rfl) ?_
          refine DL.pure (i := 10) (by kernel_rfl) (by kernel_rfl) rfl rfl rfl (OpP.assign rfl) ?_
          refine DL.done (by kernel_rfl) ?_
          refine J.ret3 rfl rfl rfl rfl ?_
        rotate_left 1
      rotate_left 2
      focus
        refine DL1.stepK rfl rfl rfl (OpM.w (by apply OpM.buildSlice (by rfl) rfl (by rfl); (repeat (first | exact Fills.nil | (apply Fills.cons rfl rfl rfl; (case' hs => ((repeat (first | exact Spl.nil | apply Spl.here | apply Spl.there)); done))))))) (by rintro _ _ ⟨b170, rfl, rfl⟩ _ h; exact Own.pick (pre := [_, _, _, _]) [1, 2, 3] rfl h) ?_; rintro _ _ ⟨b170, rfl, rfl⟩
        refine DL.only (i := 0) (by kernel_rfl) ?_
        refine DL1.stepK rfl rfl rfl (OpM.w (by apply OpM.buildSlice (by rfl) rfl (by rfl); (repeat (first | exact Fills.nil | (apply Fills.cons rfl rfl rfl; (case' hs => ((repeat (first | exact Spl.nil | apply Spl.here | apply Spl.there)); done))))))) (by rintro _ _ ⟨b166, rfl, rfl⟩ _ h; exact Own.pick (pre := [_, _, _, _, _]) [2, 3, 4] rfl h) ?_; rintro _ _ ⟨b166, rfl, rfl⟩
        refine DL.only (i := 2) (by kernel_rfl) ?_
        refine DL1.ownRow (n := 0) (sz := 7) (by decide) rfl ?_
        refine DL1.stepK rfl rfl rfl (OpM.w (OpM.appendH0 rfl rfl (.inl ⟨_, Sl.und inferInstance⟩) (by rfl) rfl rfl (RdO.src (RdO.own (.tail (.tail (.tail (.tail .head))))) (by first | assumption | exact fc_length _ _ | (simp; done) | (simp; omega))) (by first | exact bcells_one _ | exact scells_one _ | exact icells_one _ | assumption | exact fc_one fun _ => rfl) (by simp only [maxLen]; omega) (by omega))) (by rintro _ _ ⟨⟨a168, c168, rfl⟩, rfl⟩ _ h; exact Own.pick (pre := [_, _, _, _, _]) [2, 3, 4] rfl h) ?_; rintro _ _ ⟨⟨a168, c168, rfl⟩, rfl⟩
        refine DL.only (i := 5) (by kernel_rfl) ?_
        refine DL1.stepK rfl rfl rfl (OpM.w (OpM.appendH rfl (.inl ⟨_, Sl.und inferInstance⟩) (by rfl) rfl rfl (RdO.src (RdO.ofRow (.tail .head) (by first | exact Nat.le_refl _ | decide | omega)) (by first | assumption | exact fc_length _ _ | (simp; done) | (simp; omega))) (oneC rfl (oneC rfl (oneC rfl (oneC rfl (oneC rfl (oneC rfl (one1 rfl))))))) (by simp only [maxLen]; omega) (by omega))) (by rintro _ _ ⟨⟨a171, c171, rfl⟩, rfl⟩ _ h; exact Own.pick (pre := [_, _, _, _, _]) [2, 3, 4] rfl h) ?_; rintro _ _ ⟨⟨a171, c171, rfl⟩, rfl⟩
        refine DL.pure (i := 8) (by kernel_rfl) (by kernel_rfl) rfl rfl rfl (OpP.assign rfl) ?_
        refine DL.pure (i := 9) (by kernel_rfl) (by kernel_rfl) rfl rfl rfl (OpP.assign rfl) ?_
        refine DL.pure (i := 10) (by kernel_rfl) (by kernel_rfl) rfl rfl rfl (OpP.assign rfl) ?_
        refine DL.done (by kernel_rfl) ?_
        refine J.ret3 rfl rfl rfl rfl ?_
      rotate_left 1
      all_goals refine ⟨_, ⟨a171, c171, by rw [List.length_append]; rfl, rfl⟩, fun _ h => ?_⟩
      all_goals rw [List.length_append, List.flatMap_append, giveG, e2]
      all_goals first | exact Own.pick (pre := [_, _, _]) [0] rfl h | exact Own.pick (pre := [_, _, _, _]) [0] rfl h | exact Own.pick (pre := [_, _, _, _, _]) [0] rfl h | exact Own.pick (pre := [_, _, _, _, _, _]) [0] rfl h | exact Own.pick (pre := [_, _, _, _, _, _, _]) [0] rfl h | exact Own.pick (pre := [_, _, _, _, _, _, _, _]) [0] rfl h
end Go.Proofs.C

-- seat c
namespace Go.Proofs.C
open Go Go.Gp Go.RowKit

/-- What is so of every ledger that comes of calls. -/
structure Inv (gs : List Gr) : Prop where
  len : gs.length ≤ 40
  at_ : ∀ (i : Nat) (g : Gr), gs[i]? = some g → g.num = (i : Int) + 1 ∧ DepOk g ∧ (timeP g.til ∧ nameP g.fr ∧ nameP g.to) ∧
    ((g.fr = rootS ∧ g.par = 0) ∨ (g.fr ≠ rootS ∧ ∃ (j : Nat) (p : Gr), g.par = (j : Int) + 1 ∧ j < i ∧ gs[j]? = some p ∧ p.to = g.fr ∧ g.dep < p.dep))
theorem Inv.wf {gs : List Gr} (h : Inv gs) : Wf gs := by
  refine ⟨Nat.le_trans h.len (by decide), fun i g hg => ?_⟩
  obtain ⟨h1, _, _, ⟨_, h2⟩ | ⟨_, j, _, h2, h3, _⟩⟩ := h.at_ i g hg
  · omega
  · omega
theorem Inv.mem {gs : List Gr} (h : Inv gs) {g : Gr} (hg : g ∈ gs) : ∃ i : Nat, gs[i]? = some g ∧ g.num = (i : Int) + 1 ∧ DepOk g ∧ timeP g.til ∧ nameP g.fr ∧ nameP g.to := by
  obtain ⟨i, hi⟩ := List.getElem?_of_mem hg
  obtain ⟨h1, h2, h3, _⟩ := h.at_ i g hi
  exact ⟨i, hi, h1, h2, h3⟩
theorem Inv.dep {gs : List Gr} (h : Inv gs) : ∀ g ∈ gs, DepOk g := fun g hg => let ⟨_, _, _, h, _⟩ := h.mem hg; h
theorem Inv.til {gs : List Gr} (h : Inv gs) : ∀ g ∈ gs, 0 ≤ g.til := fun g hg => let ⟨_, _, _, _, h⟩ := h.mem hg; h.1.1
theorem Inv.nil : Inv [] := ⟨by decide, fun i g h => by simp at h⟩
theorem setRev_get {gs : List Gr} {n : Int} {i : Nat} : (∀ g, (setRev gs n)[i]? = some g → ∃ h, gs[i]? = some h ∧ (g = h ∨ g = { h with rev := true })) ∧ (∀ h, gs[i]? = some h → ∃ g, (setRev gs n)[i]? = some g ∧ (g = h ∨ g = { h with rev := true })) := by
  rw [setRev]
  cases hg : gs[(n - 1).toNat]? with
  | none => exact ⟨fun g h => ⟨g, h, .inl rfl⟩, fun g h => ⟨g, h, .inl rfl⟩⟩
  | some g0 =>
    by_cases hi : (n - 1).toNat = i
    · subst hi
      have e : (gs.set (n - 1).toNat { g0 with rev := true })[(n - 1).toNat]? = some { g0 with rev := true } := by
        rw [List.getElem?_set_self (List.getElem?_eq_some_iff.1 hg).1]
      dsimp only
      rw [e, hg]
      exact ⟨fun g h => ⟨g0, rfl, .inr (Option.some.inj h).symm⟩, fun g h => ⟨_, rfl, .inr (by rw [Option.some.inj h])⟩⟩
    · dsimp only
      rw [List.getElem?_set_ne hi]
      exact ⟨fun g h => ⟨g, h, .inl rfl⟩, fun g h => ⟨g, h, .inl rfl⟩⟩
theorem setRev_length {gs : List Gr} {n : Int} : (setRev gs n).length = gs.length := by
  rw [setRev]; split
  · exact List.length_set
  · rfl
theorem Inv.rev {gs : List Gr} (h : Inv gs) (n : Int) : Inv (setRev gs n) := by
  refine ⟨by rw [setRev_length]; exact h.len, fun i g hg => ?_⟩
  obtain ⟨g0, hg0, e⟩ := setRev_get.1 g hg
  have h0 := h.at_ i g0 hg0
  have e2 : g.num = g0.num ∧ g.dep = g0.dep ∧ g.til = g0.til ∧ g.fr = g0.fr ∧ g.par = g0.par ∧ g.to = g0.to := by
    rcases e with rfl | rfl <;> exact ⟨rfl, rfl, rfl, rfl, rfl, rfl⟩
  obtain ⟨q1, q2, q3, q4, q5, q6⟩ := e2
  unfold DepOk at *
  rw [q1, q2, q3, q4, q5, q6]
  refine ⟨h0.1, h0.2.1, h0.2.2.1, ?_⟩
  rcases h0.2.2.2 with h1 | ⟨h1, j, p, h2, h3, h4, h5, h6⟩
  · exact .inl h1
  · obtain ⟨p', hp', e'⟩ := (setRev_get (n := n)).2 p h4
    refine .inr ⟨h1, j, p', h2, h3, hp', ?_, ?_⟩ <;> rcases e' with rfl | rfl <;> assumption
theorem parF_spec {gs : List Gr} (hI : Inv gs) {now d : Int} {who : Str} (hw : who ≠ rootS) (h1 : (authF gs now who).2 = true) (h2 : d < (authF gs now who).1) :
    ∃ (j : Nat) (p : Gr), parF gs now who d = (j : Int) + 1 ∧ gs[j]? = some p ∧ p.to = who ∧ d < p.dep ∧ aliveP gs now p.num := by
  rw [authF, if_neg hw] at h1 h2
  obtain ⟨h, l, e⟩ := topG_more (d := d) h1 (by omega)
  rw [parF, if_neg hw, e]
  dsimp only
  have hm := lateF_mem l h
  rw [← e] at hm
  obtain ⟨hm1, hm2⟩ := List.mem_filter.1 hm
  obtain ⟨hm1, hm3⟩ := List.mem_filter.1 hm1
  obtain ⟨i, hi, q, _⟩ := hI.mem hm1
  simp only [hasB, Bool.and_eq_true, decide_eq_true_eq] at hm3 hm2
  exact ⟨i, _, q, hi, hm3.1, hm2, hm3.2⟩
theorem inv_do {gs : List Gr} (h : Inv gs) (o : Oc) : Inv (doF gs o).1 := by
  rw [doF]
  split
  · split
    · exact h.rev _
    · exact h
  · split
    · rename_i hz
      obtain ⟨⟨_, w1, n1, n2, _, w2, w3⟩, _, w4, w5, w6⟩ := wrong0 hz
      dsimp only at w1 w2 w3 w4 w5
      refine ⟨by rw [List.length_append]; simp; omega, fun i g hg => ?_⟩
      by_cases hi : i < gs.length
      · rw [List.getElem?_append_left hi] at hg
        obtain ⟨q1, q2, q3, q4⟩ := h.at_ i g hg
        refine ⟨q1, q2, q3, q4.imp id fun ⟨a, j, p, b, c, d, e⟩ => ⟨a, j, p, b, c, ?_, e⟩⟩
        rw [List.getElem?_append_left (by omega)]; exact d
      · rw [List.getElem?_append_right (by omega)] at hg
        have hi2 : i - gs.length = 0 := by
          rcases Nat.eq_zero_or_pos (i - gs.length) with h | h
          · exact h
          · rw [List.getElem?_eq_none (by simp; omega)] at hg; cases hg
        rw [hi2] at hg
        obtain rfl := Option.some.inj hg
        have hil : i = gs.length := by omega
        subst hil
        refine ⟨rfl, ⟨w2, by dsimp only; omega⟩, ⟨w1, n1, n2⟩, ?_⟩
        dsimp only
        by_cases hr : o.a = rootS
        · exact .inl ⟨hr, by rw [parF, if_pos hr]⟩
        · obtain ⟨j, p, e1, e2, e3, e4, _⟩ := parF_spec h hr w4 w5
          have hj := (List.getElem?_eq_some_iff.1 e2).1
          exact .inr ⟨hr, j, p, e1, hj, by rw [List.getElem?_append_left hj]; exact e2, e3, e4⟩
    · exact h
end Go.Proofs.C

-- seat c
namespace Go.Proofs.C
open Go Go.Gp Go.RowKit

abbrev annS : Str := ⟨#[97, 110, 110]⟩
theorem awake_ok {w0 : World} {F : List HProp} : FnO Try.prog w0 21 [] F (fun r l' => r = .bool true ∧ l' = F) := by
  refine FnO.weak ?_
  refine FnO.intro (n := 27) Try.func21 rfl rfl rfl ?_
  have hw : wrongF [] 1 ⟨((([] : List Gr).length : Nat) : Int) + 1, rootS, annS, 2, 9, 0, false⟩ = 0 := by decide
  have hG := fun (G : List HProp) (x c : Nat) (a : Option Addr) => Give_ok (w0 := w0) (F := G) (x := x) (a := a) (c := c) (gs := []) (now := 1) (d := 2) (til := 9) (fr := rootS) (to := annS) Inv.nil.wf (by simp) (by decide) (by decide)
  have hp : parF [] 1 rootS 2 = 0 := by decide
  simp only [hw, hp, ne_eq, not_true_eq_false, false_and, false_or, true_and] at hG
  have wf : Wf [⟨1, rootS, annS, 2, 9, 0, false⟩] := by
    refine ⟨by decide, fun i g hg => ?_⟩
    match i, hg with
    | 0, hg => cases hg; exact ⟨by decide, by decide, by decide⟩
  have h1 : decide (aliveP [⟨1, rootS, annS, 2, 9, 0, false⟩] 1 1) = true := by decide
  have h2 : decide (aliveP [⟨1, rootS, annS, 2, 9, 0, false⟩] 9 1) = false := by decide
  have hA1 := fun (G : List HProp) (x c : Nat) (a : Option Addr) => alive_ok (w0 := w0) (F := ledL x a c [⟨1, rootS, annS, 2, 9, 0, false⟩] G) (now := 1) (n := 1) led_of wf
  have hA2 := fun (G : List HProp) (x c : Nat) (a : Option Addr) => alive_ok (w0 := w0) (F := ledL x a c [⟨1, rootS, annS, 2, 9, 0, false⟩] G) (now := 9) (n := 1) led_of wf
  rw [h1] at hA1
  rw [h2] at hA2
  have hN := fun (G : List HProp) => New_ok (w0 := w0) (F := G)
  unfold ledL at *
  refine J.seq ?_
  refine J.region ?_
  refine JL.pure rfl rfl (OpP.assign rfl) ?_
  refine JL.nil ?_
  refine J.seq ?_
  refine J.region ?_
  refine JL.step rfl rfl (OpW.call (first := []) (captured := []) inferInstance rfl rfl (hN _)) ?_; rintro r4 _ ⟨y, ⟨rfl, rfl⟩⟩
  refine JL.pure rfl rfl (OpP.assign rfl) ?_
  refine JL.nil ?_
  refine J.seq ?_
  refine J.seq ?_
  refine J.region ?_
  refine JL.pure rfl rfl (OpP.move rfl) ?_
  refine JL.pure rfl rfl (OpP.eqPtrNil rfl rfl) ?_
  refine JL.nil ?_
  refine J.condF rfl ?_
  refine J.skip ?_
  refine J.seq ?_
  refine J.region ?_
  refine JL.pure rfl rfl (OpP.move rfl) ?_
  refine JL.step rfl rfl (OpW.call (first := []) (captured := []) inferInstance rfl rfl (hG _ _ _ _)) ?_; rintro r9 _ ⟨rfl, ⟨a, ⟨c, rfl⟩⟩⟩
  refine JL.pure rfl rfl (OpP.move rfl) ?_
  refine JL.pure rfl rfl (OpP.extract rfl rfl) ?_
  refine JL.pure rfl rfl (OpP.extract rfl rfl) ?_
  refine JL.pure rfl rfl (OpP.assign rfl) ?_
  refine JL.pure rfl rfl (OpP.assign rfl) ?_
  refine JL.nil ?_
  refine J.seq ?_
  refine J.region ?_
  refine JL.pure rfl rfl (OpP.move rfl) ?_
  refine JL.decT rfl rfl (OpP.eql rfl rfl) (by omega) ?_
  refine JL.pure rfl rfl (OpP.move rfl) ?_
  refine JL.pure rfl rfl (OpP.move rfl) ?_
  refine JL.decT rfl rfl (OpP.eql rfl rfl) (by decide) ?_
  refine JL.pure rfl rfl (OpP.pickT rfl rfl) ?_
  refine JL.pure rfl rfl (OpP.move rfl) ?_
  refine JL.pure rfl rfl (OpP.move rfl) ?_
  refine JL.step rfl rfl (OpW.call (first := []) (captured := []) inferInstance rfl rfl (hA1 _ _ _ _)) ?_; rintro r20 _ ⟨rfl, rfl⟩
  refine JL.pure rfl rfl (OpP.pickT rfl rfl) ?_
  refine JL.pure rfl rfl (OpP.move rfl) ?_
  refine JL.pure rfl rfl (OpP.move rfl) ?_
  refine JL.step rfl rfl (OpW.call (first := []) (captured := []) inferInstance rfl rfl (hA2 _ _ _ _)) ?_; rintro r24 _ ⟨rfl, rfl⟩
  refine JL.pure rfl rfl (OpP.notB rfl) ?_
  refine JL.pure rfl rfl (OpP.pickT rfl rfl) ?_
  refine JL.pure rfl rfl (OpP.assign rfl) ?_
  refine JL.nil ?_
  refine J.ret1 rfl rfl ?_
  exact ⟨_, ⟨rfl, rfl⟩, fun _ h => h.tail.tail⟩
theorem few_ok {w0 : World} {F : List HProp} {a : Option Addr} {c : Nat} {m : Int} {os : List Oc} (hn : os.length ≤ 9223372036854775807) (hr : RdO w0 F (.slice a os.length c) os.length (os.flatMap ocl)) :
    FnO Try.prog w0 22 [.slice a os.length c, .int .i64 m] F (fun r l' => ∃ b, r = .bool b ∧ l' = F ∧ (b = true → (os.length : Int) ≤ m ∧ ∀ (j : Nat) (o : Oc), j < 200 → os[j]? = some o → o.a.size ≤ 100 ∧ o.b.size ≤ 100)) := by
  have hlen : ∀ o ∈ os, (ocl o).length = 6 := fun _ _ => rfl
  refine FnO.rd hr fun hr1 => ?_
  refine FnO.intro (n := 36) Try.func22 rfl rfl rfl ?_
  refine J.seq ?_
  refine J.region ?_
  refine JL.pure rfl rfl (OpP.assign rfl) ?_
  refine JL.nil ?_
  refine J.seq ?_
  refine J.seq ?_
  refine J.region ?_
  refine JL.pure rfl rfl (OpP.assign rfl) ?_
  refine JL.nil ?_
  refine J.block ?_
  refine J.loopI (fun j : Nat => os.length - j) (fun j => j ≤ os.length ∧ j ≤ 200 ∧ ∀ (q : Nat) (p : Oc), q < j → os[q]? = some p → p.a.size ≤ 100 ∧ p.b.size ≤ 100) (fun j => [(5, .int .i64 (j : Nat)), (0, .slice a os.length c), (1, .int .i64 m)])
    (fun _ => F) 0 ⟨Nat.zero_le _, Nat.zero_le _, fun _ _ h => absurd h (Nat.not_lt_zero _)⟩ (by repeat (first | exact SubEnv.nil | refine SubEnv.cons (by first | rfl | exact congrArg (fun z => some (Value.int .i64 z)) (by omega) | (simp; done)) ?_)) (fun _ h => h) (fun j hi back => ?_)
  dsimp only at hi back ⊢
  obtain ⟨hj, hj2, hg⟩ := hi
  by_cases hlt : j < os.length
  · by_cases h200 : j < 200
    · obtain ⟨o, ho⟩ : ∃ e, os[j]? = some e := ⟨_, List.getElem?_eq_getElem hlt⟩
      obtain ⟨ga, pa, qa, ea, ka, hcs⟩ := hr1.pos (by omega)
      cases ea
      refine J.seq ?_
      refine J.seq ?_
      refine J.region ?_
      refine JL.pure rfl rfl (OpP.move rfl) ?_
      refine JL.pure rfl rfl (OpP.move rfl) ?_
      refine JL.pure rfl rfl (OpP.len rfl rfl) ?_
      refine JL.decT rfl rfl (OpP.lss rfl rfl) (by omega) ?_
      refine JL.pure rfl rfl (OpP.move rfl) ?_
      refine JL.pure rfl rfl (OpP.move rfl) ?_
      refine JL.decT rfl rfl (OpP.lss rfl rfl) (by omega) ?_
      refine JL.pure rfl rfl (OpP.pickT rfl rfl) ?_
      refine JL.nil ?_
      refine J.condT rfl ?_
      refine J.skip ?_
      refine J.seq ?_
      refine J.block ?_
      refine J.seq ?_
      refine J.region ?_
      refine JL.pure rfl rfl (OpP.move rfl) ?_
      refine JL.pure rfl rfl (OpP.move rfl) ?_
      refine JL.pure rfl rfl (OpP.indexAddr rfl rfl (by omega) (by omega)) ?_
      refine JL.pure rfl rfl (OpP.fieldAddr rfl) ?_
      refine JL.read rfl rfl (OpR.load1 rfl (by apply Cells.cellChunk (j := 2) hcs (fun _ h => h); (case' h => assumption); (case' hi => assumption); (case' hv => rfl); (case' ho => omega); done)) ?_
      refine JL.pure rfl rfl (OpP.lenStr rfl rfl) ?_
      refine JL.dec rfl rfl (OpP.gtr rfl rfl) (fun h22 => ?_) (fun h22 => ?_)
      focus
        refine JL.pure rfl rfl (OpP.move rfl) ?_
        refine JL.skip rfl rfl ?_
        refine JL.skip rfl rfl ?_
        refine JL.skip rfl rfl ?_
        refine JL.skip rfl rfl ?_
        refine JL.skip rfl rfl ?_
        refine JL.skip rfl rfl ?_
        refine JL.skip rfl rfl ?_
        refine JL.pure rfl rfl (OpP.pickT rfl rfl) ?_
        refine JL.nil ?_
        refine J.condT rfl ?_
        refine J.seq ?_
        refine J.region ?_
        refine JL.pure rfl rfl (OpP.assign rfl) ?_
        refine JL.nil ?_
        refine J.ret1 rfl rfl ?_
      rotate_left 1
      focus
        refine JL.pure rfl rfl (OpP.move rfl) ?_
        refine JL.pure rfl rfl (OpP.move rfl) ?_
        refine JL.pure rfl rfl (OpP.move rfl) ?_
        refine JL.pure rfl rfl (OpP.indexAddr rfl rfl (by omega) (by omega)) ?_
        refine JL.pure rfl rfl (OpP.fieldAddr rfl) ?_
        refine JL.read rfl rfl (OpR.load1 rfl (by apply Cells.cellChunk (j := 3) hcs (fun _ h => h); (case' h => assumption); (case' hi => assumption); (case' hv => rfl); (case' ho => omega); done)) ?_
        refine JL.pure rfl rfl (OpP.lenStr rfl rfl) ?_
        refine JL.dec rfl rfl (OpP.gtr rfl rfl) (fun h30 => ?_) (fun h30 => ?_)
        focus
          refine JL.pure rfl rfl (OpP.pickF rfl rfl) ?_
          refine JL.nil ?_
          refine J.condT rfl ?_
          refine J.seq ?_
          refine J.region ?_
          refine JL.pure rfl rfl (OpP.assign rfl) ?_
          refine JL.nil ?_
          refine J.ret1 rfl rfl ?_
        rotate_left 1
        focus
          refine JL.pure rfl rfl (OpP.pickF rfl rfl) ?_
          refine JL.nil ?_
          refine J.condF rfl ?_
          refine J.skip ?_
          refine J.inBlock ?_
          refine J.region ?_
          refine JL.pure rfl rfl (OpP.move rfl) ?_
          refine JL.pure rfl rfl (OpP.addI rfl rfl (by omega) (by omega)) ?_
          refine JL.pure rfl rfl (OpP.assign rfl) ?_
          refine JL.nil ?_
        rotate_left 1
      rotate_left 2
      · exact ⟨_, rfl, rfl, fun q => by cases q⟩
      · exact ⟨_, rfl, rfl, fun q => by cases q⟩
      · refine back (j + 1) ⟨by omega, by omega, fun p u' hp hu' => ?_⟩ (by omega) (by repeat (first | exact SubEnv.nil | refine SubEnv.cons (by first | rfl | exact congrArg (fun z => some (Value.int .i64 z)) (by omega) | (simp; done)) ?_)) (fun _ h => h)
        by_cases hpj : p < j
        · exact hg p u' hpj hu'
        · obtain rfl : p = j := by omega
          obtain rfl : u' = o := Option.some.inj (hu'.symm.trans ho)
          exact ⟨by omega, by omega⟩
    · refine J.seq ?_
      refine J.seq ?_
      refine J.region ?_
      refine JL.pure rfl rfl (OpP.move rfl) ?_
      refine JL.pure rfl rfl (OpP.move rfl) ?_
      refine JL.pure rfl rfl (OpP.len rfl rfl) ?_
      refine JL.decT rfl rfl (OpP.lss rfl rfl) (by omega) ?_
      refine JL.pure rfl rfl (OpP.move rfl) ?_
      refine JL.pure rfl rfl (OpP.move rfl) ?_
      refine JL.decF rfl rfl (OpP.lss rfl rfl) (by omega) ?_
      refine JL.pure rfl rfl (OpP.pickT rfl rfl) ?_
      refine JL.nil ?_
      refine J.condF rfl ?_
      refine J.exit rfl ?_
      refine J.seq ?_
      refine J.region ?_
      refine JL.pure rfl rfl (OpP.move rfl) ?_
      refine JL.pure rfl rfl (OpP.len rfl rfl) ?_
      refine JL.pure rfl rfl (OpP.move rfl) ?_
      refine JL.dec rfl rfl (OpP.leq rfl rfl) (fun h35 => ?_) (fun h35 => ?_)
      focus
        refine JL.pure rfl rfl (OpP.assign rfl) ?_
        refine JL.nil ?_
        refine J.ret1 rfl rfl ?_
      rotate_left 1
      focus
        refine JL.pure rfl rfl (OpP.assign rfl) ?_
        refine JL.nil ?_
        refine J.ret1 rfl rfl ?_
      rotate_left 1
      · exact ⟨_, rfl, rfl, fun _ => ⟨by omega, fun q u hq hu => hg q u (by omega) hu⟩⟩
      · exact ⟨_, rfl, rfl, fun q => by cases q⟩
  · refine J.seq ?_
    refine J.seq ?_
    refine J.region ?_
    refine JL.pure rfl rfl (OpP.move rfl) ?_
    refine JL.pure rfl rfl (OpP.move rfl) ?_
    refine JL.pure rfl rfl (OpP.len rfl rfl) ?_
    refine JL.decF rfl rfl (OpP.lss rfl rfl) (by omega) ?_
    refine JL.pure rfl rfl (OpP.move rfl) ?_
    refine JL.skip rfl rfl ?_
    refine JL.skip rfl rfl ?_
    refine JL.pure rfl rfl (OpP.pickF rfl rfl) ?_
    refine JL.nil ?_
    refine J.condF rfl ?_
    refine J.exit rfl ?_
    refine J.seq ?_
    refine J.region ?_
    refine JL.pure rfl rfl (OpP.move rfl) ?_
    refine JL.pure rfl rfl (OpP.len rfl rfl) ?_
    refine JL.pure rfl rfl (OpP.move rfl) ?_
    refine JL.dec rfl rfl (OpP.leq rfl rfl) (fun h35 => ?_) (fun h35 => ?_)
    focus
      refine JL.pure rfl rfl (OpP.assign rfl) ?_
      refine JL.nil ?_
      refine J.ret1 rfl rfl ?_
    rotate_left 1
    focus
      refine JL.pure rfl rfl (OpP.assign rfl) ?_
      refine JL.nil ?_
      refine J.ret1 rfl rfl ?_
    rotate_left 1
    · exact ⟨_, rfl, rfl, fun _ => ⟨by omega, fun q u hq hu => hg q u (by have := (List.getElem?_eq_some_iff.1 hu).1; omega) hu⟩⟩
    · exact ⟨_, rfl, rfl, fun q => by cases q⟩

def madeF (os : List Oc) : List Gr := os.foldl (fun gs o => (doF gs o).1) []
theorem madeF_take {os : List Oc} {j : Nat} {o : Oc} (h : os[j]? = some o) : madeF (os.take (j + 1)) = (doF (madeF (os.take j)) o).1 := by
  rw [List.take_add_one, h, madeF, List.foldl_append]; rfl
theorem madeF_inv (os : List Oc) : Inv (madeF os) := by
  have : ∀ (os : List Oc) (gs : List Gr), Inv gs → Inv (os.foldl (fun gs o => (doF gs o).1) gs) := by
    intro os
    induction os with
    | nil => exact fun _ h => h
    | cons o os ih => exact fun gs h => ih _ (inv_do h o)
  exact this os [] Inv.nil
theorem refDo_ok {w0 : World} {F : List HProp} {c : Nat} {a : Option Addr} {gs : List Gr} {o : Oc} (hI : Inv gs) (ho : o.Ok) :
    FnO Try.prog w0 31 [.slice a gs.length c, .agg (ocl o).toArray] (own 62 7 (.slice a gs.length c) gs.length (gs.flatMap gcl) :: F) (fun r l' => ∃ a' c', r = .tuple #[.slice a' (doF gs o).1.length c', .int .i64 (doF gs o).2.1, .int .i64 (doF gs o).2.2] ∧ l' = own 62 7 (.slice a' (doF gs o).1.length c') (doF gs o).1.length ((doF gs o).1.flatMap gcl) :: F) := by
  by_cases hk : o.k % 2 = 1
  · exact refDo1_ok hI.wf ho hk
  · exact refDo2_ok hI.wf hI.dep hI.til ho hk
theorem made_ok {w0 : World} {F : List HProp} {a : Option Addr} {c : Nat} {os : List Oc} (hn : os.length ≤ 1000) (ho : ∀ o ∈ os, o.Ok) (hr : RdO w0 F (.slice a os.length c) os.length (os.flatMap ocl)) :
    FnO Try.prog w0 23 [.slice a os.length c] F (fun r l' => ∃ x a c a2 c2, r = .tuple #[.pointer (some ⟨x, 0, none⟩), .slice a2 (madeF os).length c2] ∧ l' = ledL x a c (madeF os) (own 62 7 (.slice a2 (madeF os).length c2) (madeF os).length ((madeF os).flatMap gcl) :: F)) := by
  have hlen : ∀ o ∈ os, (ocl o).length = 6 := fun _ _ => rfl
  refine FnO.rd hr fun hr1 => ?_
  refine FnO.weak ?_
  refine FnO.intro (n := 36) Try.func23 rfl rfl rfl ?_
  have hN := fun (G : List HProp) => New_ok (w0 := w0) (F := G)
  unfold ledL at *
  refine J.seq ?_
  refine J.region ?_
  refine JL.pure rfl rfl (OpP.assign rfl) ?_
  refine JL.pure rfl rfl (OpP.assign rfl) ?_
  refine JL.nil ?_
  refine J.seq ?_
  refine J.region ?_
  refine JL.step rfl rfl (OpW.call (first := []) (captured := []) inferInstance rfl rfl (hN _)) ?_; rintro r10 _ ⟨y, ⟨rfl, rfl⟩⟩
  refine JL.pure rfl rfl (OpP.assign rfl) ?_
  refine JL.nil ?_
  refine J.seq ?_
  refine J.region ?_
  refine JL.pure rfl rfl (OpP.assign rfl) ?_
  refine JL.nil ?_
  refine J.seq ?_
  refine J.seq ?_
  refine J.region ?_
  refine JL.pure rfl rfl (OpP.assign rfl) ?_
  refine JL.nil ?_
  refine J.block ?_
  refine J.loopI (fun x : Nat × (Value × Value) => os.length - x.1) (fun x => x.1 ≤ os.length ∧ (∃ a c, x.2.1 = .slice a (madeF (os.take x.1)).length c) ∧ ∃ a c, x.2.2 = .slice a (madeF (os.take x.1)).length c)
    (fun z => [(6, .int .i64 (z.1 : Nat)), (5, z.2.2), (4, .pointer (some ⟨y, 0, none⟩)), (0, .slice a os.length c)])
    (fun z => row y 82 [z.2.1] :: own 62 7 z.2.1 (madeF (os.take z.1)).length ((madeF (os.take z.1)).flatMap gcl) :: own 62 7 z.2.2 (madeF (os.take z.1)).length ((madeF (os.take z.1)).flatMap gcl) :: F) (0, .slice none 0 0, .slice none 0 0) ⟨Nat.zero_le _, ⟨none, 0, rfl⟩, none, 0, rfl⟩ (by repeat (first | exact SubEnv.nil | refine SubEnv.cons (by first | rfl | exact congrArg (fun z => some (Value.int .i64 z)) (by omega) | (simp; done)) ?_)) (fun _ h => ?_) (fun ⟨j, u, v⟩ hi back => ?_)
  · exact Own.pick (pre := [_, _, _]) [1, 2, 0] rfl h.own_nil
  dsimp only at hi back ⊢
  obtain ⟨hj, ⟨a1, c1, rfl⟩, a2, c2, rfl⟩ := hi
  by_cases hlt : j < os.length
  · obtain ⟨o, hoj⟩ : ∃ e, os[j]? = some e := ⟨_, List.getElem?_eq_getElem hlt⟩
    have hok := ho o (List.mem_of_getElem? hoj)
    have hnx := madeF_take hoj
    have hI := madeF_inv (os.take j)
    generalize madeF (os.take j) = gs at *
    obtain ⟨ga, pa, qa, ea, ka, hcs⟩ := hr1.pos (by omega)
    cases ea
    have hD := fun (G : List HProp) => Do_ok (w0 := w0) (F := G) (x := y) (a := a1) (c := c1) hI.wf hI.dep hok
    have hE := fun (G : List HProp) => refDo_ok (w0 := w0) (F := G) (a := a2) (c := c2) hI hok
    unfold ledL at *
    refine J.seq ?_
    refine J.seq ?_
    refine J.region ?_
    refine JL.pure rfl rfl (OpP.move rfl) ?_
    refine JL.pure rfl rfl (OpP.move rfl) ?_
    refine JL.pure rfl rfl (OpP.len rfl rfl) ?_
    refine JL.decT rfl rfl (OpP.lss rfl rfl) (by omega) ?_
    refine JL.nil ?_
    refine J.condT rfl ?_
    refine J.skip ?_
    refine J.seq ?_
    refine J.block ?_
    refine J.seq ?_
    refine J.region ?_
    refine JL.pure rfl rfl (OpP.move rfl) ?_
    refine JL.pure rfl rfl (OpP.move rfl) ?_
    refine JL.pure rfl rfl (OpP.move rfl) ?_
    refine JL.pure rfl rfl (OpP.indexAddr rfl rfl (by omega) (by omega)) ?_
    refine JL.read rfl rfl (OpR.loadN rfl (by apply Cells.conv (fun _ h => Own.pick (pre := [_, _, _]) [] rfl h); apply Cells.chunkAt hcs; (case' h => assumption); (case' hi => assumption); done) (by first | rfl | assumption)) ?_
    refine JL.step rfl rfl (OpW.call (first := []) (captured := []) inferInstance rfl rfl (hD _)) ?_; rintro r22 _ ⟨rfl, ⟨a, ⟨c3, rfl⟩⟩⟩
    refine JL.nil ?_
    refine J.seq ?_
    refine J.region ?_
    refine JL.pure rfl rfl (OpP.move rfl) ?_
    refine JL.pure rfl rfl (OpP.move rfl) ?_
    refine JL.pure rfl rfl (OpP.move rfl) ?_
    refine JL.pure rfl rfl (OpP.indexAddr rfl rfl (by omega) (by omega)) ?_
    refine JL.read rfl rfl (OpR.loadN rfl (by apply Cells.conv (fun _ h => Own.pick (pre := [_, _, _]) [] rfl h); apply Cells.chunkAt hcs; (case' h => assumption); (case' hi => assumption); done) (by first | rfl | assumption)) ?_
    refine JL.f2 ?_; refine JL.step rfl rfl (OpW.call (first := []) (captured := []) inferInstance rfl rfl (hE _)) ?_; rintro r29 _ ⟨a', ⟨c', ⟨rfl, rfl⟩⟩⟩
    refine JL.pure rfl rfl (OpP.move rfl) ?_
    refine JL.pure rfl rfl (OpP.extract rfl rfl) ?_
    refine JL.pure rfl rfl (OpP.extract rfl rfl) ?_
    refine JL.pure rfl rfl (OpP.extract rfl rfl) ?_
    refine JL.pure rfl rfl (OpP.assign rfl) ?_
    refine JL.pure rfl rfl (OpP.assign rfl) ?_
    refine JL.pure rfl rfl (OpP.assign rfl) ?_
    refine JL.nil ?_
    refine J.region ?_
    refine JL.pure rfl rfl (OpP.move rfl) ?_
    refine JL.pure rfl rfl (OpP.assign rfl) ?_
    refine JL.nil ?_
    refine J.inBlock ?_
    refine J.region ?_
    refine JL.pure rfl rfl (OpP.move rfl) ?_
    refine JL.pure rfl rfl (OpP.addI rfl rfl (by omega) (by omega)) ?_
    refine JL.pure rfl rfl (OpP.assign rfl) ?_
    refine JL.nil ?_
    refine back (j + 1, .slice a (doF gs o).1.length c3, .slice a' (doF gs o).1.length c') ⟨by dsimp only; omega, ⟨a, c3, by dsimp only; rw [hnx]⟩, a', c', by dsimp only; rw [hnx]⟩ (by dsimp only; omega) (by repeat (first | exact SubEnv.nil | refine SubEnv.cons (by first | rfl | exact congrArg (fun z => some (Value.int .i64 z)) (by omega) | (simp; done)) ?_)) (fun _ h => ?_)
    dsimp only
    rw [hnx]
    exact Own.pick (pre := [_, _, _]) [1, 2, 0] rfl h
  · have : j = os.length := by omega
    subst this
    rw [List.take_length]
    refine J.seq ?_
    refine J.seq ?_
    refine J.region ?_
    refine JL.pure rfl rfl (OpP.move rfl) ?_
    refine JL.pure rfl rfl (OpP.move rfl) ?_
    refine JL.pure rfl rfl (OpP.len rfl rfl) ?_
    refine JL.decF rfl rfl (OpP.lss rfl rfl) (by omega) ?_
    refine JL.nil ?_
    refine J.condF rfl ?_
    refine J.exit rfl ?_
    refine J.seq ?_
    refine J.region ?_
    refine JL.pure rfl rfl (OpP.move rfl) ?_
    refine JL.pure rfl rfl (OpP.move rfl) ?_
    refine JL.pure rfl rfl (OpP.assign rfl) ?_
    refine JL.pure rfl rfl (OpP.assign rfl) ?_
    refine JL.nil ?_
    refine J.ret2 rfl rfl rfl ?_
    exact ⟨_, ⟨y, a1, c1, a2, c2, rfl, rfl⟩, fun _ h => h⟩
end Go.Proofs.C

-- seat c
namespace Go.Proofs.C
open Go Go.Gp Go.RowKit

theorem Fm.oc {w0 : World} {cs : List Value} (h : Fm Try.prog w0 57 cs) : ∃ o : Oc, (0 ≤ o.k ∧ o.k ≤ 255) ∧ cs = ocl o := by
  have h := h.fields (l := [(5, 1), (2, 1), (9, 1), (9, 1), (3, 1), (2, 1)]) (by kernel_rfl)
  obtain ⟨c0, cs, rfl, f0, h⟩ := h.one
  obtain ⟨c1, cs, rfl, f1, h⟩ := h.one
  obtain ⟨c2, cs, rfl, f2, h⟩ := h.one
  obtain ⟨c3, cs, rfl, f3, h⟩ := h.one
  obtain ⟨c4, cs, rfl, f4, h⟩ := h.one
  obtain ⟨c5, cs, rfl, f5, h⟩ := h.one
  cases h
  obtain ⟨k, e0, k0⟩ := f0.int (k := .u8) (by kernel_rfl)
  obtain ⟨n1, e1, _⟩ := f1.int (k := .i64) (by kernel_rfl)
  obtain ⟨s2, e2, _⟩ := f2.str (by kernel_rfl)
  obtain ⟨s3, e3, _⟩ := f3.str (by kernel_rfl)
  obtain ⟨n4, e4, _⟩ := f4.int (k := .i64) (by kernel_rfl)
  obtain ⟨n5, e5, _⟩ := f5.int (k := .i64) (by kernel_rfl)
  simp [Lit.wf, IntKind.min, IntKind.max, IntKind.signed, IntKind.bits] at k0
  cases e0; cases e1; cases e2; cases e3; cases e4; cases e5
  exact ⟨⟨k, n1, s2, s3, n4, n5⟩, k0, rfl⟩
theorem ocs_ok {os : List Oc} (hk : ∀ o ∈ os, 0 ≤ o.k ∧ o.k ≤ 255) (hf : (os.length : Int) ≤ 60 ∧ ∀ (j : Nat) (o : Oc), j < 200 → os[j]? = some o → o.a.size ≤ 100 ∧ o.b.size ≤ 100) : ∀ o ∈ os, o.Ok := by
  intro o ho
  obtain ⟨j, hj⟩ := List.getElem?_of_mem ho
  have := (List.getElem?_eq_some_iff.1 hj).1
  obtain ⟨h1, h2⟩ := hf.2 j o (by omega) hj
  exact ⟨hk o ho, by omega, by omega⟩
end Go.Proofs.C

-- seat c
namespace Go.Proofs.C
open Go Go.Gp Go.RowKit

end Go.Proofs.C

-- seat c
namespace Go.Proofs.C
open Go Go.Gp Go.RowKit

instance : KeyT Try.prog 62 3 := ⟨by kernel_rfl, by decide, by kernel_rfl, by kernel_rfl⟩
end Go.Proofs.C
