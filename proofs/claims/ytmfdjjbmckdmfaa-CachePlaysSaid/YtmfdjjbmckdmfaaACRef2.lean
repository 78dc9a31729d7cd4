/- A text of the proof of a statement about the given program: its part ACRef2. No person has read it. -/
import Derived.Test.YtmfdjjbmckdmfaaACRef
import Derived.Test.YtmfdjjbmckdmfaaJ20
-- seat a
namespace Go.Proofs.A
open Go Go.Gp Go.RowKit

theorem eraseP_noneO {p : OpC → Bool} {es : List OpC} (h : ∀ e ∈ es, p e = false) : es.eraseP p = es := List.eraseP_of_forall_not fun e he => by simp [h e he]
theorem withoutI_ok {w0 : World} {F : List HProp} {n x : Int} (i : Nat) {v : Value} {L : List OpC} (hx : x = (i : Nat)) (hr : RdO w0 F v L.length (L.flatMap ocl)) (hl : L.length ≤ 1000) (hi : i < L.length) (ho : ∀ o ∈ L, o.Ok w0) :
    FnO Try.prog w0 49 [.agg #[.int .i64 n, v], .int .i64 x] F (fun u l' => ∃ v', u = .agg #[.int .i64 n, v'] ∧ l' = own 71 8 v' (L.length - 1) ((L.eraseIdx i).flatMap ocl) :: F) := by
  subst hx; exact without_ok hr hl hi ho
theorem tO_iff {who name : Str} {e : OpC} : tO who name e = true ↔ (who = sSub ∧ e.a = name ∨ who = sRes ∧ e.b = name) := by simp [tO]
theorem RDo_ok {w0 : World} {F : List HProp} {cap : Nat} {o : OpC} {v : Value} {L : List OpC} (hcap : cap ≤ 16) (hl : L.length ≤ 100) (ho : ∀ e ∈ L, e.Ok w0) (hok : o.Ok w0) (hf : o.few) :
    FnO Try.prog w0 36 [.agg #[.int .i64 (cap : Nat), v], .agg (ocl o).toArray] (own 71 8 v L.length (L.flatMap ocl) :: F) (fun u l' => ∃ v', u = .agg #[.int .i64 (cap : Nat), v'] ∧ l' = own 71 8 v' (doO cap L o).length ((doO cap L o).flatMap ocl) :: F) := by
  refine FnO.rd (RdO.own .head) fun hr => ?_
  obtain ⟨a, c, rfl⟩ := hr.lit
  refine FnO.weak ?_
  refine FnO.intro (n := 118) Try.func36 rfl rfl rfl ?_
  have k0 := hok.k0
  have k1 := hok.k1
  have p0 := hok.p0
  have p1 := hok.p1
  have hk : o.k % 4 = 0 ∨ o.k % 4 = 1 ∨ o.k % 4 = 2 ∨ o.k % 4 = 3 := by omega
  rcases hk with hk | hk | hk | hk
  · have hdo : doO cap L o = putO cap L o := by rw [doO, if_pos hk]
    rw [hdo]
    refine J.seq ?_
    refine J.region ?_
    refine JL.mem rfl rfl (OpM.box rfl rfl) ?_; rintro _ _ ⟨b2, rfl, rfl⟩
    refine JL.mem rfl rfl (OpM.box rfl rfl) ?_; rintro _ _ ⟨b3, rfl, rfl⟩
    refine JL.mem rfl rfl OpM.alloc ?_; rintro _ _ ⟨b4, rfl, rfl⟩
    refine JL.nil ?_
    refine J.seq ?_
    refine J.seq ?_
    refine J.region ?_
    refine JL.pure rfl rfl (OpP.fieldAddr rfl) ?_
    refine JL.read rfl rfl (OpR.load1 rfl (Cell.row (.tail .head) rfl)) ?_
    refine JL.pure rfl rfl (OpP.remI rfl rfl (by omega) (by omega)) ?_
    refine JL.nil ?_
    refine J.block ?_
    refine J.seq ?_
    refine J.region ?_
    refine JL.decT rfl rfl (OpP.eql rfl rfl) (by omega) ?_
    refine JL.pure rfl rfl (OpP.assign rfl) ?_
    refine JL.nil ?_
    refine J.condT rfl ?_
    refine J.seq ?_
    refine J.region ?_
    refine JL.read rfl rfl (OpR.loadN rfl (Cells.full (.tail (.tail .head))) rfl) ?_
    refine JL.pure rfl rfl (OpP.fieldAddr rfl) ?_
    refine JL.read rfl rfl (OpR.load1 rfl (Cell.row (.tail .head) rfl)) ?_
    refine JL.step rfl rfl (OpW.call (first := []) (captured := []) inferInstance rfl rfl (RFind_ok (L := L) (RdO.own (.tail (.tail (.tail .head)))) (by omega))) ?_; rintro r17 _ ⟨⟨x, ⟨rfl, h17⟩⟩, rfl⟩
    refine JL.pure rfl rfl (OpP.assign rfl) ?_
    refine JL.nil ?_
    refine J.seq ?_
    refine J.cut (σ := Value) (fun _ => True) (fun _ => [(4, .pointer (some ⟨b4, 0, none⟩)), (3, .pointer (some ⟨b3, 0, none⟩)), (2, .pointer (some ⟨b2, 0, none⟩))])
      (fun v1 => row b2 77 [.int .i64 (cap : Nat), v1] :: own 71 8 v1 (L.eraseP (kO o.key)).length ((L.eraseP (kO o.key)).flatMap ocl) :: row b4 77 [.int .i64 0, .slice none 0 0] :: row b3 71 (ocl o) :: F) (fun v1 _ => ?_) (fun k' go => ?_)
    · have hl1 : (L.eraseP (kO o.key)).length ≤ L.length := List.eraseP_sublist.length_le
      have ho1 : ∀ e ∈ L.eraseP (kO o.key), e.Ok w0 := fun e he => ho e (List.eraseP_sublist.subset he)
      unfold putO
      generalize L.eraseP (kO o.key) = L1 at hl1 ho1 ⊢
      refine J.lit (.tail .head) fun av1 cv1 ev1 => ?_; subst ev1
      refine J.seq ?_
      refine J.cut (σ := Value) (fun _ => True) (fun _ => [(4, .pointer (some ⟨b4, 0, none⟩)), (3, .pointer (some ⟨b3, 0, none⟩)), (2, .pointer (some ⟨b2, 0, none⟩))])
        (fun v2 => row b2 77 [.int .i64 (cap : Nat), v2] :: own 71 8 v2 (if cap = 0 then L1 else cutO L1 cap o.pick).length ((if cap = 0 then L1 else cutO L1 cap o.pick).flatMap ocl) :: row b4 77 [.int .i64 0, .slice none 0 0] :: row b3 71 (ocl o) :: F) (fun v2 _ => ?_) (fun k' go => ?_)
      · by_cases hc : cap = 0
        · rw [if_pos hc, if_pos hc]
          refine J.lit (.tail .head) fun av2 cv2 ev2 => ?_; subst ev2
          refine J.seq ?_
          refine J.region ?_
          refine JL.pure rfl rfl (OpP.fieldAddr rfl) ?_
          refine JL.read rfl rfl (OpR.load1 rfl (Cell.row .head rfl)) ?_
          refine JL.decF rfl rfl (OpP.gtr rfl rfl) (by omega) ?_
          refine JL.nil ?_
          refine J.condF rfl ?_
          refine J.skip ?_
          refine J.inBlock ?_
          refine J.seq ?_
          refine J.region ?_
          refine JL.read rfl rfl (OpR.loadN rfl (Cells.full .head) rfl) ?_
          refine JL.mem0 rfl (by apply OpM.storeN rfl rfl (by rfl) (oneC rfl (one1 rfl)); (case' hu => exact (.tail (.tail .head))); (case' hs => exact (.here (.here .nil))); done) ?_; rintro _ _ ⟨rfl, rfl⟩
          refine JL.nil ?_
          refine J.retC rfl rfl (by apply Cells.full; (with_reducible repeat (first | exact .head | apply Has.tail))) (by rfl) ?_
          exact ⟨_, ⟨_, rfl, rfl⟩, fun _ h => Own.pick (pre := [_, _, _, _]) [1] rfl h⟩
        · rw [if_neg hc, if_neg hc]
          have ho2 : ∀ e ∈ cutO L1 cap o.pick, e.Ok w0 := fun e he => ho1 e (by
            unfold cutO at he; split at he
            · exact (List.eraseIdx_sublist _ _).subset he
            · exact he)
          have hl2 : (cutO L1 cap o.pick).length ≤ 100 := by
            unfold cutO; split
            · exact Nat.le_trans (List.eraseIdx_sublist _ _).length_le (by omega)
            · omega
          generalize cutO L1 cap o.pick = L2 at ho2 hl2 ⊢
          have hone2 := ocls_one ho2
          have hone := ocl_one hok
          have hc8 : (L2.flatMap ocl).length = L2.length * 8 := chunk_length (ocl_len _)
          have e1 : (L2 ++ [o]).length = L2.length + 1 := by simp
          have e2 : (L2 ++ [o]).flatMap ocl = L2.flatMap ocl ++ ocl o := by simp [List.flatMap_append]
          rw [e1, e2]
          refine J.lit (.tail .head) fun av2 cv2 ev2 => ?_; subst ev2
          refine J.seq ?_
          refine J.region ?_
          refine JL.pure rfl rfl (OpP.fieldAddr rfl) ?_
          refine JL.read rfl rfl (OpR.load1 rfl (Cell.row .head rfl)) ?_
          refine JL.decT rfl rfl (OpP.gtr rfl rfl) (by omega) ?_
          refine JL.nil ?_
          refine J.condT rfl ?_
          refine J.seq ?_
          refine J.regionD [1, 4, 6] (by kernel_rfl) ?_
          refine DL.pure (i := 0) (by kernel_rfl) (by kernel_rfl) rfl rfl rfl (OpP.fieldAddr rfl) ?_
          refine DL.read (i := 1) (by kernel_rfl) (by kernel_rfl) rfl rfl rfl (fun _ h => h) (OpR.load1 rfl (Cell.row .head rfl)) ?_
          refine DL.pure (i := 3) (by kernel_rfl) (by kernel_rfl) rfl rfl rfl (OpP.fieldAddr rfl) ?_
          refine DL.read (i := 4) (by kernel_rfl) (by kernel_rfl) rfl rfl rfl (fun _ h => h) (OpR.load1 rfl (Cell.row .head rfl)) ?_
          refine DL.read (i := 6) (by kernel_rfl) (by kernel_rfl) rfl rfl rfl (fun _ h => h) (OpR.loadN rfl (Cells.full (.tail (.tail (.tail .head)))) rfl) ?_
          refine DL.two (i := 2) (j := 7) (by kernel_rfl) ?_ ?_
          focus
            refine DL1.stepK rfl rfl rfl (OpM.w (by apply OpM.buildSlice (by rfl) rfl (by rfl); (repeat (first | exact Fills.nil | (apply Fills.cons rfl rfl rfl; (case' hs => ((repeat (first | exact Spl.nil | apply Spl.here | apply Spl.there)); done))))))) (by rintro _ _ ⟨b52, rfl, rfl⟩ _ h; exact Own.pick (pre := [_, _, _, _, _]) [1, 2, 3, 4] rfl h) ?_; rintro _ _ ⟨b52, rfl, rfl⟩
            refine DL.two (i := 5) (j := 7) (by kernel_rfl) ?_ ?_
            focus
              refine DL1.ownRow (n := 0) (sz := 8) (by decide) rfl ?_
              refine DL1.stepK rfl rfl rfl (OpM.w (OpM.appendH0 rfl rfl (.inl ⟨_, Sl.und inferInstance⟩) (by rfl) rfl rfl (RdO.src (RdO.own (.tail (.tail .head))) (by first | assumption | (simp; done) | (simp; omega))) (by first | exact bcells_one _ | exact scells_one _ | exact icells_one _ | assumption) (by simp only [maxLen]; omega) (by omega))) (by rintro _ _ ⟨⟨a55, c55, rfl⟩, rfl⟩ _ h; exact Own.pick (pre := [_, _, _, _, _]) [1, 2, 3, 4] rfl h) ?_; rintro _ _ ⟨⟨a55, c55, rfl⟩, rfl⟩
              refine DL.only (i := 7) (by kernel_rfl) ?_
              refine DL1.stepK rfl rfl rfl (OpM.w (by apply OpM.buildSlice (by rfl) rfl (by rfl); (repeat (first | exact Fills.nil | (apply Fills.cons rfl rfl rfl; (case' hs => ((repeat (first | exact Spl.nil | apply Spl.here | apply Spl.there)); done))))))) (by rintro _ _ ⟨b57, rfl, rfl⟩ _ h; exact Own.pick (pre := [_, _, _, _, _, _]) [2, 3, 4, 5] rfl h) ?_; rintro _ _ ⟨b57, rfl, rfl⟩
              refine DL.only (i := 8) (by kernel_rfl) ?_
              refine DL1.f1 ?_; refine DL1.stepK rfl rfl rfl (OpM.w (OpM.appendH rfl (.inl ⟨_, Sl.und inferInstance⟩) (by rfl) rfl rfl (RdO.src (RdO.ofRow (.tail .head) (by first | decide | omega)) (by first | assumption | (simp; done) | (simp; omega))) (by first | exact bcells_one _ | exact scells_one _ | exact icells_one _ | assumption) (by simp only [maxLen]; omega) (by omega))) (by rintro _ _ ⟨⟨a58, c58, rfl⟩, rfl⟩ _ h; exact Own.pick (pre := [_, _, _, _, _, _]) [2, 3, 4, 5] rfl h) ?_; rintro _ _ ⟨⟨a58, c58, rfl⟩, rfl⟩
              refine DL.pure (i := 9) (by kernel_rfl) (by kernel_rfl) rfl rfl rfl (OpP.build rfl (by (repeat (first | exact Fills.nil | (apply Fills.cons rfl rfl rfl; (case' hs => ((repeat (first | exact Spl.nil | apply Spl.here | apply Spl.there)); done))))))) ?_
              refine DL.only (i := 10) (by kernel_rfl) ?_
              refine DL1.stepF0 rfl rfl (by kernel_rfl) (OpM.w (by apply OpM.storeN rfl rfl (by rfl) (oneC rfl (one1 rfl)); (case' hu => exact (.tail (.tail (.tail (.tail .head))))); (case' hs => exact (.here (.here .nil))); done)) ?_; rintro _ _ ⟨rfl, rfl⟩
              refine DL.done (by kernel_rfl) ?_
              refine J.retC rfl rfl (by apply Cells.full; (with_reducible repeat (first | exact .head | apply Has.tail))) (by rfl) ?_
            rotate_left 1
            focus
              refine DL1.stepK rfl rfl rfl (OpM.w (by apply OpM.buildSlice (by rfl) rfl (by rfl); (repeat (first | exact Fills.nil | (apply Fills.cons rfl rfl rfl; (case' hs => ((repeat (first | exact Spl.nil | apply Spl.here | apply Spl.there)); done))))))) (by rintro _ _ ⟨b57, rfl, rfl⟩ _ h; exact Own.pick (pre := [_, _, _, _, _, _]) [2, 3, 4, 5] rfl h) ?_; rintro _ _ ⟨b57, rfl, rfl⟩
              refine DL.only (i := 5) (by kernel_rfl) ?_
              refine DL1.f1 ?_; refine DL1.ownRow (n := 0) (sz := 8) (by decide) rfl ?_
              refine DL1.stepK rfl rfl rfl (OpM.w (OpM.appendH0 rfl rfl (.inl ⟨_, Sl.und inferInstance⟩) (by rfl) rfl rfl (RdO.src (RdO.own (.tail (.tail (.tail .head)))) (by first | assumption | (simp; done) | (simp; omega))) (by first | exact bcells_one _ | exact scells_one _ | exact icells_one _ | assumption) (by simp only [maxLen]; omega) (by omega))) (by rintro _ _ ⟨⟨a55, c55, rfl⟩, rfl⟩ _ h; exact Own.pick (pre := [_, _, _, _, _, _]) [2, 3, 4, 5] rfl h) ?_; rintro _ _ ⟨⟨a55, c55, rfl⟩, rfl⟩
              refine DL.only (i := 8) (by kernel_rfl) ?_
              refine DL1.stepK rfl rfl rfl (OpM.w (OpM.appendH rfl (.inl ⟨_, Sl.und inferInstance⟩) (by rfl) rfl rfl (RdO.src (RdO.ofRow (.tail .head) (by first | decide | omega)) (by first | assumption | (simp; done) | (simp; omega))) (by first | exact bcells_one _ | exact scells_one _ | exact icells_one _ | assumption) (by simp only [maxLen]; omega) (by omega))) (by rintro _ _ ⟨⟨a58, c58, rfl⟩, rfl⟩ _ h; exact Own.pick (pre := [_, _, _, _, _, _]) [2, 3, 4, 5] rfl h) ?_; rintro _ _ ⟨⟨a58, c58, rfl⟩, rfl⟩
              refine DL.pure (i := 9) (by kernel_rfl) (by kernel_rfl) rfl rfl rfl (OpP.build rfl (by (repeat (first | exact Fills.nil | (apply Fills.cons rfl rfl rfl; (case' hs => ((repeat (first | exact Spl.nil | apply Spl.here | apply Spl.there)); done))))))) ?_
              refine DL.only (i := 10) (by kernel_rfl) ?_
              refine DL1.stepF0 rfl rfl (by kernel_rfl) (OpM.w (by apply OpM.storeN rfl rfl (by rfl) (oneC rfl (one1 rfl)); (case' hu => exact (.tail (.tail (.tail (.tail .head))))); (case' hs => exact (.here (.here .nil))); done)) ?_; rintro _ _ ⟨rfl, rfl⟩
              refine DL.done (by kernel_rfl) ?_
              refine J.retC rfl rfl (by apply Cells.full; (with_reducible repeat (first | exact .head | apply Has.tail))) (by rfl) ?_
            rotate_left 1
          rotate_left 2
          focus
            refine DL1.stepK rfl rfl rfl (OpM.w (by apply OpM.buildSlice (by rfl) rfl (by rfl); (repeat (first | exact Fills.nil | (apply Fills.cons rfl rfl rfl; (case' hs => ((repeat (first | exact Spl.nil | apply Spl.here | apply Spl.there)); done))))))) (by rintro _ _ ⟨b57, rfl, rfl⟩ _ h; exact Own.pick (pre := [_, _, _, _, _]) [1, 2, 3, 4] rfl h) ?_; rintro _ _ ⟨b57, rfl, rfl⟩
            refine DL.only (i := 2) (by kernel_rfl) ?_
            refine DL1.stepK rfl rfl rfl (OpM.w (by apply OpM.buildSlice (by rfl) rfl (by rfl); (repeat (first | exact Fills.nil | (apply Fills.cons rfl rfl rfl; (case' hs => ((repeat (first | exact Spl.nil | apply Spl.here | apply Spl.there)); done))))))) (by rintro _ _ ⟨b52, rfl, rfl⟩ _ h; exact Own.pick (pre := [_, _, _, _, _, _]) [2, 3, 4, 5] rfl h) ?_; rintro _ _ ⟨b52, rfl, rfl⟩
            refine DL.only (i := 5) (by kernel_rfl) ?_
            refine DL1.ownRow (n := 0) (sz := 8) (by decide) rfl ?_
            refine DL1.stepK rfl rfl rfl (OpM.w (OpM.appendH0 rfl rfl (.inl ⟨_, Sl.und inferInstance⟩) (by rfl) rfl rfl (RdO.src (RdO.own (.tail (.tail (.tail .head)))) (by first | assumption | (simp; done) | (simp; omega))) (by first | exact bcells_one _ | exact scells_one _ | exact icells_one _ | assumption) (by simp only [maxLen]; omega) (by omega))) (by rintro _ _ ⟨⟨a55, c55, rfl⟩, rfl⟩ _ h; exact Own.pick (pre := [_, _, _, _, _, _]) [2, 3, 4, 5] rfl h) ?_; rintro _ _ ⟨⟨a55, c55, rfl⟩, rfl⟩
            refine DL.only (i := 8) (by kernel_rfl) ?_
            refine DL1.stepK rfl rfl rfl (OpM.w (OpM.appendH rfl (.inl ⟨_, Sl.und inferInstance⟩) (by rfl) rfl rfl (RdO.src (RdO.ofRow (.tail .head) (by first | decide | omega)) (by first | assumption | (simp; done) | (simp; omega))) (by first | exact bcells_one _ | exact scells_one _ | exact icells_one _ | assumption) (by simp only [maxLen]; omega) (by omega))) (by rintro _ _ ⟨⟨a58, c58, rfl⟩, rfl⟩ _ h; exact Own.pick (pre := [_, _, _, _, _, _]) [2, 3, 4, 5] rfl h) ?_; rintro _ _ ⟨⟨a58, c58, rfl⟩, rfl⟩
            refine DL.pure (i := 9) (by kernel_rfl) (by kernel_rfl) rfl rfl rfl (OpP.build rfl (by (repeat (first | exact Fills.nil | (apply Fills.cons rfl rfl rfl; (case' hs => ((repeat (first | exact Spl.nil | apply Spl.here | apply Spl.there)); done))))))) ?_
            refine DL.only (i := 10) (by kernel_rfl) ?_
            refine DL1.stepF0 rfl rfl (by kernel_rfl) (OpM.w (by apply OpM.storeN rfl rfl (by rfl) (oneC rfl (one1 rfl)); (case' hu => exact (.tail (.tail (.tail (.tail .head))))); (case' hs => exact (.here (.here .nil))); done)) ?_; rintro _ _ ⟨rfl, rfl⟩
            refine DL.done (by kernel_rfl) ?_
            refine J.retC rfl rfl (by apply Cells.full; (with_reducible repeat (first | exact .head | apply Has.tail))) (by rfl) ?_
          rotate_left 1
          all_goals exact ⟨_, ⟨_, rfl, rfl⟩, fun _ h => Own.pick (pre := [_, _, _, _, _, _]) [0] rfl h⟩
      · have hpl := place_lt (pick := o.pick) (n := L1.length)
        have hpn : 0 < L1.length → o.pick < 0 → (-1 - o.pick) % (L1.length : Int) = (place o.pick L1.length : Nat) := fun h1 h2 => by
          rw [place, if_pos h2, Int.toNat_of_nonneg (Int.emod_nonneg _ (by omega))]; congr 1; omega
        have hpp : 0 < L1.length → ¬ o.pick < 0 → o.pick % (L1.length : Int) = (place o.pick L1.length : Nat) := fun h1 h2 => by
          rw [place, if_neg h2, Int.toNat_of_nonneg (Int.emod_nonneg _ (by omega))]
        by_cases hfull : L1.length = cap ∧ cap ≠ 0
        · have hcut : (if cap = 0 then L1 else cutO L1 cap o.pick) = L1.eraseIdx (place o.pick L1.length) := by rw [if_neg hfull.2, cutO, if_pos hfull.1]
          have hpl' := hpl (by omega)
          rw [hcut] at go
          rw [List.length_eraseIdx_of_lt hpl'] at go
          by_cases hneg : o.pick < 0
          · have hx := hpn (by omega) hneg
            refine J.seq ?_
            refine J.region ?_
            refine JL.pure rfl rfl (OpP.fieldAddr rfl) ?_
            refine JL.read rfl rfl (OpR.load1 rfl (Cell.row .head rfl)) ?_
            refine JL.pure rfl rfl (OpP.len rfl rfl) ?_
            refine JL.pure rfl rfl (OpP.fieldAddr rfl) ?_
            refine JL.read rfl rfl (OpR.load1 rfl (Cell.row .head rfl)) ?_
            refine JL.decT rfl rfl (OpP.eql rfl rfl) (by omega) ?_
            refine JL.pure rfl rfl (OpP.move rfl) ?_
            refine JL.pure rfl rfl (OpP.fieldAddr rfl) ?_
            refine JL.read rfl rfl (OpR.load1 rfl (Cell.row .head rfl)) ?_
            refine JL.decT rfl rfl (OpP.gtr rfl rfl) (by omega) ?_
            refine JL.pure rfl rfl (OpP.pickT rfl rfl) ?_
            refine JL.nil ?_
            refine J.condT rfl ?_
            refine J.seq ?_
            refine J.region ?_
            refine JL.pure rfl rfl (OpP.fieldAddr rfl) ?_
            refine JL.read rfl rfl (OpR.load1 rfl (Cell.row (.tail (.tail (.tail .head))) rfl)) ?_
            refine JL.pure rfl rfl (OpP.assign rfl) ?_
            refine JL.nil ?_
            refine J.seq ?_
            refine J.seq ?_
            refine J.region ?_
            refine JL.pure rfl rfl (OpP.move rfl) ?_
            refine JL.decT rfl rfl (OpP.lss rfl rfl) (by omega) ?_
            refine JL.nil ?_
            refine J.condT rfl ?_
            refine J.region ?_
            refine JL.pure rfl rfl (OpP.move rfl) ?_
            refine JL.pure rfl rfl (OpP.subI rfl rfl (by omega) (by omega)) ?_
            refine JL.pure rfl rfl (OpP.assign rfl) ?_
            refine JL.nil ?_
            refine J.regionD [0, 3] (by kernel_rfl) ?_
            refine DL.read (i := 0) (by kernel_rfl) (by kernel_rfl) rfl rfl rfl (fun _ h => h) (OpR.loadN rfl (Cells.full .head) rfl) ?_
            refine DL.pure (i := 1) (by kernel_rfl) (by kernel_rfl) rfl rfl rfl (OpP.move rfl) ?_
            refine DL.pure (i := 2) (by kernel_rfl) (by kernel_rfl) rfl rfl rfl (OpP.fieldAddr rfl) ?_
            refine DL.read (i := 3) (by kernel_rfl) (by kernel_rfl) rfl rfl rfl (fun _ h => h) (OpR.load1 rfl (Cell.row .head rfl)) ?_
            refine DL.pure (i := 4) (by kernel_rfl) (by kernel_rfl) rfl rfl rfl (OpP.len rfl rfl) ?_
            refine DL.pure (i := 5) (by kernel_rfl) (by kernel_rfl) rfl rfl rfl (OpP.remI rfl rfl (by omega) (by omega)) ?_
            refine DL.only (i := 6) (by kernel_rfl) ?_
            refine DL1.stepF rfl rfl rfl (by kernel_rfl) (by exact OpW.call (first := []) (captured := []) inferInstance rfl rfl (withoutI_ok (place o.pick L1.length) hx (L := L1) (RdO.own (.tail .head)) (by omega) hpl' ho1)) ?_; rintro r46 _ ⟨v', ⟨rfl, rfl⟩⟩
            refine DL.lit .head fun av' cv' ev' => ?_; subst ev'
            refine DL.only (i := 7) (by kernel_rfl) ?_
            refine DL1.stepF0 rfl rfl (by kernel_rfl) (OpM.w (by apply OpM.storeN rfl rfl (by rfl) (oneC rfl (one1 rfl)); (case' hu => exact (.tail .head)); (case' hs => exact (.here (.here .nil))); done)) ?_; rintro _ _ ⟨rfl, rfl⟩
            refine DL.done (by kernel_rfl) ?_
            exact go _ trivial (by repeat (first | exact SubEnv.nil | refine SubEnv.cons (by first | rfl | exact congrArg (fun z => some (Value.int .i64 z)) (by omega) | (simp; done)) ?_)) (fun _ h => Own.pick (pre := [_, _, _, _, _]) [1, 0, 3, 4] rfl h)
          · have hx := hpp (by omega) hneg
            refine J.seq ?_
            refine J.region ?_
            refine JL.pure rfl rfl (OpP.fieldAddr rfl) ?_
            refine JL.read rfl rfl (OpR.load1 rfl (Cell.row .head rfl)) ?_
            refine JL.pure rfl rfl (OpP.len rfl rfl) ?_
            refine JL.pure rfl rfl (OpP.fieldAddr rfl) ?_
            refine JL.read rfl rfl (OpR.load1 rfl (Cell.row .head rfl)) ?_
            refine JL.decT rfl rfl (OpP.eql rfl rfl) (by omega) ?_
            refine JL.pure rfl rfl (OpP.move rfl) ?_
            refine JL.pure rfl rfl (OpP.fieldAddr rfl) ?_
            refine JL.read rfl rfl (OpR.load1 rfl (Cell.row .head rfl)) ?_
            refine JL.decT rfl rfl (OpP.gtr rfl rfl) (by omega) ?_
            refine JL.pure rfl rfl (OpP.pickT rfl rfl) ?_
            refine JL.nil ?_
            refine J.condT rfl ?_
            refine J.seq ?_
            refine J.region ?_
            refine JL.pure rfl rfl (OpP.fieldAddr rfl) ?_
            refine JL.read rfl rfl (OpR.load1 rfl (Cell.row (.tail (.tail (.tail .head))) rfl)) ?_
            refine JL.pure rfl rfl (OpP.assign rfl) ?_
            refine JL.nil ?_
            refine J.seq ?_
            refine J.seq ?_
            refine J.region ?_
            refine JL.pure rfl rfl (OpP.move rfl) ?_
            refine JL.decF rfl rfl (OpP.lss rfl rfl) (by omega) ?_
            refine JL.nil ?_
            refine J.condF rfl ?_
            refine J.skip ?_
            refine J.regionD [0, 3] (by kernel_rfl) ?_
            refine DL.read (i := 0) (by kernel_rfl) (by kernel_rfl) rfl rfl rfl (fun _ h => h) (OpR.loadN rfl (Cells.full .head) rfl) ?_
            refine DL.pure (i := 1) (by kernel_rfl) (by kernel_rfl) rfl rfl rfl (OpP.move rfl) ?_
            refine DL.pure (i := 2) (by kernel_rfl) (by kernel_rfl) rfl rfl rfl (OpP.fieldAddr rfl) ?_
            refine DL.read (i := 3) (by kernel_rfl) (by kernel_rfl) rfl rfl rfl (fun _ h => h) (OpR.load1 rfl (Cell.row .head rfl)) ?_
            refine DL.pure (i := 4) (by kernel_rfl) (by kernel_rfl) rfl rfl rfl (OpP.len rfl rfl) ?_
            refine DL.pure (i := 5) (by kernel_rfl) (by kernel_rfl) rfl rfl rfl (OpP.remI rfl rfl (by omega) (by omega)) ?_
            refine DL.only (i := 6) (by kernel_rfl) ?_
            refine DL1.stepF rfl rfl rfl (by kernel_rfl) (by exact OpW.call (first := []) (captured := []) inferInstance rfl rfl (withoutI_ok (place o.pick L1.length) hx (L := L1) (RdO.own (.tail .head)) (by omega) hpl' ho1)) ?_; rintro r46 _ ⟨v', ⟨rfl, rfl⟩⟩
            refine DL.lit .head fun av' cv' ev' => ?_; subst ev'
            refine DL.only (i := 7) (by kernel_rfl) ?_
            refine DL1.stepF0 rfl rfl (by kernel_rfl) (OpM.w (by apply OpM.storeN rfl rfl (by rfl) (oneC rfl (one1 rfl)); (case' hu => exact (.tail .head)); (case' hs => exact (.here (.here .nil))); done)) ?_; rintro _ _ ⟨rfl, rfl⟩
            refine DL.done (by kernel_rfl) ?_
            exact go _ trivial (by repeat (first | exact SubEnv.nil | refine SubEnv.cons (by first | rfl | exact congrArg (fun z => some (Value.int .i64 z)) (by omega) | (simp; done)) ?_)) (fun _ h => Own.pick (pre := [_, _, _, _, _]) [1, 0, 3, 4] rfl h)
        · have hcut : (if cap = 0 then L1 else cutO L1 cap o.pick) = L1 := by
            by_cases hc : cap = 0
            · rw [if_pos hc]
            · rw [if_neg hc, cutO, if_neg (fun q => hfull ⟨q, hc⟩)]
          rw [hcut] at go
          refine J.seq ?_
          refine J.region ?_
          refine JL.pure rfl rfl (OpP.fieldAddr rfl) ?_
          refine JL.read rfl rfl (OpR.load1 rfl (Cell.row .head rfl)) ?_
          refine JL.pure rfl rfl (OpP.len rfl rfl) ?_
          refine JL.pure rfl rfl (OpP.fieldAddr rfl) ?_
          refine JL.read rfl rfl (OpR.load1 rfl (Cell.row .head rfl)) ?_
          refine JL.dec rfl rfl (OpP.eql rfl rfl) (fun h28 => ?_) (fun h28 => ?_)
          focus
            refine JL.pure rfl rfl (OpP.move rfl) ?_
            refine JL.pure rfl rfl (OpP.fieldAddr rfl) ?_
            refine JL.read rfl rfl (OpR.load1 rfl (Cell.row .head rfl)) ?_
            refine JL.decF rfl rfl (OpP.gtr rfl rfl) (by omega) ?_
            refine JL.pure rfl rfl (OpP.pickT rfl rfl) ?_
            refine JL.nil ?_
            refine J.condF rfl ?_
            refine J.skip ?_
          rotate_left 1
          focus
            refine JL.pure rfl rfl (OpP.move rfl) ?_
            refine JL.skip rfl rfl ?_
            refine JL.skip rfl rfl ?_
            refine JL.skip rfl rfl ?_
            refine JL.pure rfl rfl (OpP.pickF rfl rfl) ?_
            refine JL.nil ?_
            refine J.condF rfl ?_
            refine J.skip ?_
          rotate_left 1
          all_goals exact go _ trivial (by repeat (first | exact SubEnv.nil | refine SubEnv.cons (by first | rfl | exact congrArg (fun z => some (Value.int .i64 z)) (by omega) | (simp; done)) ?_)) (fun _ h => h)
    · rcases h17 with ⟨i, e, hxi, hie, hpe, hbef⟩ | ⟨hxi, hall⟩
      · subst hxi
        have hi : i < L.length := (List.getElem?_eq_some_iff.1 hie).1
        have he : L.eraseP (kO o.key) = L.eraseIdx i := eraseP_firstO hie hpe hbef
        rw [he, List.length_eraseIdx_of_lt hi] at go
        refine J.seq ?_
        refine J.region ?_
        refine JL.pure rfl rfl (OpP.move rfl) ?_
        refine JL.decT rfl rfl (OpP.geq rfl rfl) (by omega) ?_
        refine JL.nil ?_
        refine J.condT rfl ?_
        refine J.region ?_
        refine JL.read rfl rfl (OpR.loadN rfl (Cells.full (.tail (.tail .head))) rfl) ?_
        refine JL.pure rfl rfl (OpP.move rfl) ?_
        refine JL.step rfl rfl (OpW.call (first := []) (captured := []) inferInstance rfl rfl (without_ok (L := L) (i := i) (RdO.own (.tail (.tail (.tail .head)))) (by omega) hi ho)) ?_; rintro r22 _ ⟨v', ⟨rfl, rfl⟩⟩
        refine JL.lit .head fun av' cv' ev' => ?_; subst ev'
        refine JL.mem0 rfl (by apply OpM.storeN rfl rfl (by rfl) (oneC rfl (one1 rfl)); (case' hu => exact (.tail (.tail (.tail .head)))); (case' hs => exact (.here (.here .nil))); done) ?_; rintro _ _ ⟨rfl, rfl⟩
        refine JL.nil ?_
        exact go _ trivial (by repeat (first | exact SubEnv.nil | refine SubEnv.cons (by first | rfl | exact congrArg (fun z => some (Value.int .i64 z)) (by omega) | (simp; done)) ?_)) (fun _ h => Own.pick (pre := [_, _, _, _, _]) [3, 0, 1, 2] rfl h)
      · refine J.seq ?_
        refine J.region ?_
        refine JL.pure rfl rfl (OpP.move rfl) ?_
        refine JL.decF rfl rfl (OpP.geq rfl rfl) (by omega) ?_
        refine JL.nil ?_
        refine J.condF rfl ?_
        refine J.skip ?_
        rw [eraseP_noneO hall] at go
        exact go _ trivial (by repeat (first | exact SubEnv.nil | refine SubEnv.cons (by first | rfl | exact congrArg (fun z => some (Value.int .i64 z)) (by omega) | (simp; done)) ?_)) (fun _ h => Own.pick (pre := [_, _, _, _]) [2, 3, 0, 1] rfl h)
  · have hdo : doO cap L o = L := by simp [doO, hk]
    rw [hdo]
    refine J.seq ?_
    refine J.region ?_
    refine JL.mem rfl rfl (OpM.box rfl rfl) ?_; rintro _ _ ⟨b2, rfl, rfl⟩
    refine JL.mem rfl rfl (OpM.box rfl rfl) ?_; rintro _ _ ⟨b3, rfl, rfl⟩
    refine JL.mem rfl rfl OpM.alloc ?_; rintro _ _ ⟨b4, rfl, rfl⟩
    refine JL.nil ?_
    refine J.seq ?_
    refine J.seq ?_
    refine J.region ?_
    refine JL.pure rfl rfl (OpP.fieldAddr rfl) ?_
    refine JL.read rfl rfl (OpR.load1 rfl (Cell.row (.tail .head) rfl)) ?_
    refine JL.pure rfl rfl (OpP.remI rfl rfl (by omega) (by omega)) ?_
    refine JL.nil ?_
    refine J.block ?_
    refine J.seq ?_
    refine J.region ?_
    refine JL.decF rfl rfl (OpP.eql rfl rfl) (by omega) ?_
    refine JL.pure rfl rfl (OpP.assign rfl) ?_
    refine JL.nil ?_
    refine J.condF rfl ?_
    refine J.seq ?_
    refine J.region ?_
    refine JL.decF rfl rfl (OpP.eql rfl rfl) (by omega) ?_
    refine JL.pure rfl rfl (OpP.assign rfl) ?_
    refine JL.nil ?_
    refine J.condF rfl ?_
    refine J.seq ?_
    refine J.region ?_
    refine JL.decF rfl rfl (OpP.eql rfl rfl) (by omega) ?_
    refine JL.pure rfl rfl (OpP.assign rfl) ?_
    refine JL.nil ?_
    refine J.condF rfl ?_
    refine J.skip ?_
    refine J.inBlock ?_
    refine J.seq ?_
    refine J.region ?_
    refine JL.read rfl rfl (OpR.loadN rfl (Cells.full (.tail (.tail .head))) rfl) ?_
    refine JL.mem0 rfl (by apply OpM.storeN rfl rfl (by rfl) (oneC rfl (one1 rfl)); (case' hu => exact .head); (case' hs => exact (.here (.here .nil))); done) ?_; rintro _ _ ⟨rfl, rfl⟩
    refine JL.nil ?_
    refine J.retC rfl rfl (by apply Cells.full; (with_reducible repeat (first | exact .head | apply Has.tail))) (by rfl) ?_
    exact ⟨_, ⟨_, rfl, rfl⟩, fun _ h => Own.pick (pre := [_, _, _, _]) [3] rfl h⟩
  · have hdo : doO cap L o = L.filter (fun e => !tO o.a o.b e) := by simp [doO, hk]
    rw [hdo]
    refine J.seq ?_
    refine J.region ?_
    refine JL.mem rfl rfl (OpM.box rfl rfl) ?_; rintro _ _ ⟨b2, rfl, rfl⟩
    refine JL.mem rfl rfl (OpM.box rfl rfl) ?_; rintro _ _ ⟨b3, rfl, rfl⟩
    refine JL.mem rfl rfl OpM.alloc ?_; rintro _ _ ⟨b4, rfl, rfl⟩
    refine JL.nil ?_
    refine J.seq ?_
    refine J.seq ?_
    refine J.region ?_
    refine JL.pure rfl rfl (OpP.fieldAddr rfl) ?_
    refine JL.read rfl rfl (OpR.load1 rfl (Cell.row (.tail .head) rfl)) ?_
    refine JL.pure rfl rfl (OpP.remI rfl rfl (by omega) (by omega)) ?_
    refine JL.nil ?_
    refine J.block ?_
    refine J.seq ?_
    refine J.region ?_
    refine JL.decF rfl rfl (OpP.eql rfl rfl) (by omega) ?_
    refine JL.pure rfl rfl (OpP.assign rfl) ?_
    refine JL.nil ?_
    refine J.condF rfl ?_
    refine J.seq ?_
    refine J.region ?_
    refine JL.decT rfl rfl (OpP.eql rfl rfl) (by omega) ?_
    refine JL.pure rfl rfl (OpP.assign rfl) ?_
    refine JL.nil ?_
    refine J.condT rfl ?_
    refine J.seq ?_
    refine J.region ?_
    refine JL.pure rfl rfl (OpP.assign rfl) ?_
    refine JL.nil ?_
    refine J.seq ?_
    refine J.seq ?_
    refine J.region ?_
    refine JL.pure rfl rfl (OpP.assign rfl) ?_
    refine JL.nil ?_
    refine J.block ?_
    refine J.loopI (fun x : Nat × Value => L.length - x.1) (fun x => x.1 ≤ L.length) (fun x => [(8, .int .i64 (x.1 : Nat)), (7, x.2), (4, .pointer (some ⟨b4, 0, none⟩)), (3, .pointer (some ⟨b3, 0, none⟩)), (2, .pointer (some ⟨b2, 0, none⟩))])
      (fun x => own 71 8 x.2 ((L.take x.1).filter (fun e => !tO o.a o.b e)).length (((L.take x.1).filter (fun e => !tO o.a o.b e)).flatMap ocl) :: row b4 77 [.int .i64 0, .slice none 0 0] :: row b3 71 (ocl o) :: row b2 77 [.int .i64 (cap : Nat), .slice a L.length c] :: own 71 8 (.slice a L.length c) L.length (L.flatMap ocl) :: F) (0, .slice none 0 0) (Nat.zero_le _) (by repeat (first | exact SubEnv.nil | refine SubEnv.cons (by first | rfl | exact congrArg (fun z => some (Value.int .i64 z)) (by omega) | (simp; done)) ?_)) (fun _ h => Own.own_nil h) (fun ⟨i, kv⟩ hi back => ?_)
    dsimp only at hi back ⊢
    have h8 := ocl_len L
    by_cases hlt : i < L.length
    · obtain ⟨e, he⟩ : ∃ e, L[i]? = some e := ⟨_, List.getElem?_eq_getElem hlt⟩
      have hfil := filter_take_succ' (q := fun e => !tO o.a o.b e) he
      have hone := ocl_one (ho e (List.mem_of_getElem? he))
      have hfl : ((L.take i).filter (fun e => !tO o.a o.b e)).length ≤ 100 := Nat.le_trans (List.length_filter_le _ _) (by rw [List.length_take]; omega)
      have h8' : (ocl e).length = 8 := rfl
      generalize (L.take i).filter (fun e => !tO o.a o.b e) = K at hfil hfl ⊢
      have hfil : (L.take (i + 1)).filter (fun e => !tO o.a o.b e) = K ++ (if !tO o.a o.b e then [e] else []) := hfil
      refine J.lit .head fun akv ckv ekv => ?_; subst ekv
      refine J.seq ?_
      refine J.seq ?_
      refine J.region ?_
      refine JL.pure rfl rfl (OpP.move rfl) ?_
      refine JL.pure rfl rfl (OpP.fieldAddr rfl) ?_
      refine JL.read rfl rfl (OpR.load1 rfl (Cell.row (.tail (.tail (.tail .head))) rfl)) ?_
      refine JL.pure rfl rfl (OpP.len rfl rfl) ?_
      refine JL.decT rfl rfl (OpP.lss rfl rfl) (by omega) ?_
      refine JL.nil ?_
      refine J.condT rfl ?_
      refine J.skip ?_
      refine J.seq ?_
      refine J.block ?_
      refine J.seq ?_
      refine J.regionD [1, 5, 9, 11, 16, 20, 24, 26] (by kernel_rfl) ?_
      refine DL.pure (i := 0) (by kernel_rfl) (by kernel_rfl) rfl rfl rfl (OpP.fieldAddr rfl) ?_
      refine DL.read (i := 1) (by kernel_rfl) (by kernel_rfl) rfl rfl rfl (fun _ h => h) (OpR.load1 rfl (Cell.row (.tail (.tail .head)) rfl)) ?_
      refine DL.dec (i := 2) (by kernel_rfl) (by kernel_rfl) rfl rfl rfl (OpP.eqStr rfl rfl) (fun h71 => ?_) (fun h71 => ?_)
      focus
        refine DL.pure (i := 3) (by kernel_rfl) (by kernel_rfl) rfl rfl rfl (OpP.move rfl) ?_
        refine DL.pure (i := 4) (by kernel_rfl) (by kernel_rfl) rfl rfl rfl (OpP.fieldAddr rfl) ?_
        refine DL.read (i := 5) (by kernel_rfl) (by kernel_rfl) rfl rfl rfl (fun _ h => h) (OpR.load1 rfl (Cell.row (.tail (.tail (.tail .head))) rfl)) ?_
        refine DL.pure (i := 6) (by kernel_rfl) (by kernel_rfl) rfl rfl rfl (OpP.move rfl) ?_
        refine DL.ownSome (.tail (.tail (.tail (.tail .head)))) (by omega) fun ga pa ea ka => ?_; subst ea
        refine DL.pure (i := 7) (by kernel_rfl) (by kernel_rfl) rfl rfl rfl (OpP.indexAddr rfl rfl (by omega) (by omega)) ?_
        refine DL.pure (i := 8) (by kernel_rfl) (by kernel_rfl) rfl rfl rfl (OpP.fieldAddr rfl) ?_
        refine DL.read (i := 9) (by kernel_rfl) (by kernel_rfl) rfl rfl rfl (fun _ h => h) (OpR.load1 rfl (by apply Cells.cellChunk (j := 2) (Cells.own (.tail (.tail (.tail (.tail .head))))) (fun _ h => h); (case' h => assumption); (case' hi => assumption); (case' hv => rfl); (case' ho => omega); done)) ?_
        refine DL.pure (i := 10) (by kernel_rfl) (by kernel_rfl) rfl rfl rfl (OpP.fieldAddr rfl) ?_
        refine DL.read (i := 11) (by kernel_rfl) (by kernel_rfl) rfl rfl rfl (fun _ h => h) (OpR.load1 rfl (Cell.row (.tail (.tail .head)) rfl)) ?_
        refine DL.dec (i := 12) (by kernel_rfl) (by kernel_rfl) rfl rfl rfl (OpP.eqStr rfl rfl) (fun h81 => ?_) (fun h81 => ?_)
        focus
          refine DL.pure (i := 13) (by kernel_rfl) (by kernel_rfl) rfl rfl rfl (OpP.pickT rfl rfl) ?_
          refine DL.pure (i := 14) (by kernel_rfl) (by kernel_rfl) rfl rfl rfl (OpP.move rfl) ?_
          refine DL.skip (i := 15) (by kernel_rfl) (by kernel_rfl) rfl rfl rfl ?_
          refine DL.skip (i := 16) (by kernel_rfl) (by kernel_rfl) rfl rfl rfl ?_
          refine DL.skip (i := 17) (by kernel_rfl) (by kernel_rfl) rfl rfl rfl ?_
          refine DL.skip (i := 18) (by kernel_rfl) (by kernel_rfl) rfl rfl rfl ?_
          refine DL.skip (i := 19) (by kernel_rfl) (by kernel_rfl) rfl rfl rfl ?_
          refine DL.skip (i := 20) (by kernel_rfl) (by kernel_rfl) rfl rfl rfl ?_
          refine DL.skip (i := 21) (by kernel_rfl) (by kernel_rfl) rfl rfl rfl ?_
          refine DL.skip (i := 22) (by kernel_rfl) (by kernel_rfl) rfl rfl rfl ?_
          refine DL.skip (i := 23) (by kernel_rfl) (by kernel_rfl) rfl rfl rfl ?_
          refine DL.skip (i := 24) (by kernel_rfl) (by kernel_rfl) rfl rfl rfl ?_
          refine DL.skip (i := 25) (by kernel_rfl) (by kernel_rfl) rfl rfl rfl ?_
          refine DL.skip (i := 26) (by kernel_rfl) (by kernel_rfl) rfl rfl rfl ?_
          refine DL.skip (i := 27) (by kernel_rfl) (by kernel_rfl) rfl rfl rfl ?_
          refine DL.skip (i := 28) (by kernel_rfl) (by kernel_rfl) rfl rfl rfl ?_
          refine DL.pure (i := 29) (by kernel_rfl) (by kernel_rfl) rfl rfl rfl (OpP.pickT rfl rfl) ?_
          refine DL.pure (i := 30) (by kernel_rfl) (by kernel_rfl) rfl rfl rfl (OpP.notB rfl) ?_
          refine DL.done (by kernel_rfl) ?_
          refine J.condF rfl ?_
          refine J.skip ?_
          refine J.inBlock ?_
          refine J.region ?_
          refine JL.pure rfl rfl (OpP.move rfl) ?_
          refine JL.pure rfl rfl (OpP.addI rfl rfl (by omega) (by omega)) ?_
          refine JL.pure rfl rfl (OpP.assign rfl) ?_
          refine JL.nil ?_
        rotate_left 1
        focus
          refine DL.pure (i := 13) (by kernel_rfl) (by kernel_rfl) rfl rfl rfl (OpP.pickT rfl rfl) ?_
          refine DL.pure (i := 14) (by kernel_rfl) (by kernel_rfl) rfl rfl rfl (OpP.move rfl) ?_
          refine DL.pure (i := 15) (by kernel_rfl) (by kernel_rfl) rfl rfl rfl (OpP.fieldAddr rfl) ?_
          refine DL.read (i := 16) (by kernel_rfl) (by kernel_rfl) rfl rfl rfl (fun _ h => h) (OpR.load1 rfl (Cell.row (.tail (.tail .head)) rfl)) ?_
          refine DL.dec (i := 17) (by kernel_rfl) (by kernel_rfl) rfl rfl rfl (OpP.eqStr rfl rfl) (fun h86 => ?_) (fun h86 => ?_)
          focus
            refine DL.pure (i := 18) (by kernel_rfl) (by kernel_rfl) rfl rfl rfl (OpP.move rfl) ?_
            refine DL.pure (i := 19) (by kernel_rfl) (by kernel_rfl) rfl rfl rfl (OpP.fieldAddr rfl) ?_
            refine DL.read (i := 20) (by kernel_rfl) (by kernel_rfl) rfl rfl rfl (fun _ h => h) (OpR.load1 rfl (Cell.row (.tail (.tail (.tail .head))) rfl)) ?_
            refine DL.pure (i := 21) (by kernel_rfl) (by kernel_rfl) rfl rfl rfl (OpP.move rfl) ?_
            refine DL.pure (i := 22) (by kernel_rfl) (by kernel_rfl) rfl rfl rfl (OpP.indexAddr rfl rfl (by omega) (by omega)) ?_
            refine DL.pure (i := 23) (by kernel_rfl) (by kernel_rfl) rfl rfl rfl (OpP.fieldAddr rfl) ?_
            refine DL.read (i := 24) (by kernel_rfl) (by kernel_rfl) rfl rfl rfl (fun _ h => h) (OpR.load1 rfl (by apply Cells.cellChunk (j := 3) (Cells.own (.tail (.tail (.tail (.tail .head))))) (fun _ h => h); (case' h => assumption); (case' hi => assumption); (case' hv => rfl); (case' ho => omega); done)) ?_
            refine DL.pure (i := 25) (by kernel_rfl) (by kernel_rfl) rfl rfl rfl (OpP.fieldAddr rfl) ?_
            refine DL.read (i := 26) (by kernel_rfl) (by kernel_rfl) rfl rfl rfl (fun _ h => h) (OpR.load1 rfl (Cell.row (.tail (.tail .head)) rfl)) ?_
            refine DL.dec (i := 27) (by kernel_rfl) (by kernel_rfl) rfl rfl rfl (OpP.eqStr rfl rfl) (fun h96 => ?_) (fun h96 => ?_)
            focus
              refine DL.pure (i := 28) (by kernel_rfl) (by kernel_rfl) rfl rfl rfl (OpP.pickT rfl rfl) ?_
              refine DL.pure (i := 29) (by kernel_rfl) (by kernel_rfl) rfl rfl rfl (OpP.pickF rfl rfl) ?_
              refine DL.pure (i := 30) (by kernel_rfl) (by kernel_rfl) rfl rfl rfl (OpP.notB rfl) ?_
              refine DL.done (by kernel_rfl) ?_
              refine J.condF rfl ?_
              refine J.skip ?_
              refine J.inBlock ?_
              refine J.region ?_
              refine JL.pure rfl rfl (OpP.move rfl) ?_
              refine JL.pure rfl rfl (OpP.addI rfl rfl (by omega) (by omega)) ?_
              refine JL.pure rfl rfl (OpP.assign rfl) ?_
              refine JL.nil ?_
            rotate_left 1
            focus
              refine DL.pure (i := 28) (by kernel_rfl) (by kernel_rfl) rfl rfl rfl (OpP.pickT rfl rfl) ?_
              refine DL.pure (i := 29) (by kernel_rfl) (by kernel_rfl) rfl rfl rfl (OpP.pickF rfl rfl) ?_
              refine DL.pure (i := 30) (by kernel_rfl) (by kernel_rfl) rfl rfl rfl (OpP.notB rfl) ?_
              refine DL.done (by kernel_rfl) ?_
              refine J.condT rfl ?_
              refine J.region ?_
              refine JL.pure rfl rfl (OpP.move rfl) ?_
              refine JL.pure rfl rfl (OpP.fieldAddr rfl) ?_
              refine JL.read rfl rfl (OpR.load1 rfl (Cell.row (.tail (.tail (.tail .head))) rfl)) ?_
              refine JL.pure rfl rfl (OpP.move rfl) ?_
              refine JL.pure rfl rfl (OpP.indexAddr rfl rfl (by omega) (by omega)) ?_
              refine JL.read rfl rfl (OpR.loadN rfl (by apply Cells.chunkAt (Cells.own (.tail (.tail (.tail (.tail .head))))); (case' h => assumption); (case' hi => assumption); done) (by first | rfl | assumption)) ?_
              refine JL.mem rfl rfl (by apply OpM.buildSlice (by rfl) rfl (by rfl); (repeat (first | exact Fills.nil | (apply Fills.cons rfl rfl rfl; (case' hs => ((repeat (first | exact Spl.nil | apply Spl.here | apply Spl.there)); done)))))) ?_; rintro _ _ ⟨b106, rfl, rfl⟩
              refine JL.f1 ?_; refine JL.mem rfl rfl (OpM.appendH rfl (.inl ⟨_, Sl.und inferInstance⟩) (by rfl) rfl rfl (RdO.src (RdO.ofRow (.tail .head) (by first | decide | omega)) (by first | assumption | (simp; done) | (simp; omega))) (by first | exact bcells_one _ | exact scells_one _ | exact icells_one _ | assumption) (by simp only [maxLen]; omega) (by omega)) ?_; rintro _ _ ⟨⟨a107, c107, rfl⟩, rfl⟩
              refine JL.pure rfl rfl (OpP.assign rfl) ?_
              refine JL.nil ?_
              refine J.inBlock ?_
              refine J.region ?_
              refine JL.pure rfl rfl (OpP.move rfl) ?_
              refine JL.pure rfl rfl (OpP.addI rfl rfl (by omega) (by omega)) ?_
              refine JL.pure rfl rfl (OpP.assign rfl) ?_
              refine JL.nil ?_
            rotate_left 1
          rotate_left 2
          focus
            refine DL.pure (i := 18) (by kernel_rfl) (by kernel_rfl) rfl rfl rfl (OpP.move rfl) ?_
            refine DL.skip (i := 19) (by kernel_rfl) (by kernel_rfl) rfl rfl rfl ?_
            refine DL.skip (i := 20) (by kernel_rfl) (by kernel_rfl) rfl rfl rfl ?_
            refine DL.skip (i := 21) (by kernel_rfl) (by kernel_rfl) rfl rfl rfl ?_
            refine DL.skip (i := 22) (by kernel_rfl) (by kernel_rfl) rfl rfl rfl ?_
            refine DL.skip (i := 23) (by kernel_rfl) (by kernel_rfl) rfl rfl rfl ?_
            refine DL.skip (i := 24) (by kernel_rfl) (by kernel_rfl) rfl rfl rfl ?_
            refine DL.skip (i := 25) (by kernel_rfl) (by kernel_rfl) rfl rfl rfl ?_
            refine DL.skip (i := 26) (by kernel_rfl) (by kernel_rfl) rfl rfl rfl ?_
            refine DL.skip (i := 27) (by kernel_rfl) (by kernel_rfl) rfl rfl rfl ?_
            refine DL.pure (i := 28) (by kernel_rfl) (by kernel_rfl) rfl rfl rfl (OpP.pickF rfl rfl) ?_
            refine DL.pure (i := 29) (by kernel_rfl) (by kernel_rfl) rfl rfl rfl (OpP.pickF rfl rfl) ?_
            refine DL.pure (i := 30) (by kernel_rfl) (by kernel_rfl) rfl rfl rfl (OpP.notB rfl) ?_
            refine DL.done (by kernel_rfl) ?_
            refine J.condT rfl ?_
            refine J.region ?_
            refine JL.pure rfl rfl (OpP.move rfl) ?_
            refine JL.pure rfl rfl (OpP.fieldAddr rfl) ?_
            refine JL.read rfl rfl (OpR.load1 rfl (Cell.row (.tail (.tail (.tail .head))) rfl)) ?_
            refine JL.pure rfl rfl (OpP.move rfl) ?_
            refine JL.pure rfl rfl (OpP.indexAddr rfl rfl (by omega) (by omega)) ?_
            refine JL.read rfl rfl (OpR.loadN rfl (by apply Cells.chunkAt (Cells.own (.tail (.tail (.tail (.tail .head))))); (case' h => assumption); (case' hi => assumption); done) (by first | rfl | assumption)) ?_
            refine JL.mem rfl rfl (by apply OpM.buildSlice (by rfl) rfl (by rfl); (repeat (first | exact Fills.nil | (apply Fills.cons rfl rfl rfl; (case' hs => ((repeat (first | exact Spl.nil | apply Spl.here | apply Spl.there)); done)))))) ?_; rintro _ _ ⟨b106, rfl, rfl⟩
            refine JL.f1 ?_; refine JL.mem rfl rfl (OpM.appendH rfl (.inl ⟨_, Sl.und inferInstance⟩) (by rfl) rfl rfl (RdO.src (RdO.ofRow (.tail .head) (by first | decide | omega)) (by first | assumption | (simp; done) | (simp; omega))) (by first | exact bcells_one _ | exact scells_one _ | exact icells_one _ | assumption) (by simp only [maxLen]; omega) (by omega)) ?_; rintro _ _ ⟨⟨a107, c107, rfl⟩, rfl⟩
            refine JL.pure rfl rfl (OpP.assign rfl) ?_
            refine JL.nil ?_
            refine J.inBlock ?_
            refine J.region ?_
            refine JL.pure rfl rfl (OpP.move rfl) ?_
            refine JL.pure rfl rfl (OpP.addI rfl rfl (by omega) (by omega)) ?_
            refine JL.pure rfl rfl (OpP.assign rfl) ?_
            refine JL.nil ?_
          rotate_left 1
        rotate_left 3
      rotate_left 4
      focus
        refine DL.pure (i := 3) (by kernel_rfl) (by kernel_rfl) rfl rfl rfl (OpP.move rfl) ?_
        refine DL.skip (i := 4) (by kernel_rfl) (by kernel_rfl) rfl rfl rfl ?_
        refine DL.skip (i := 5) (by kernel_rfl) (by kernel_rfl) rfl rfl rfl ?_
        refine DL.skip (i := 6) (by kernel_rfl) (by kernel_rfl) rfl rfl rfl ?_
        refine DL.skip (i := 7) (by kernel_rfl) (by kernel_rfl) rfl rfl rfl ?_
        refine DL.skip (i := 8) (by kernel_rfl) (by kernel_rfl) rfl rfl rfl ?_
        refine DL.skip (i := 9) (by kernel_rfl) (by kernel_rfl) rfl rfl rfl ?_
        refine DL.skip (i := 10) (by kernel_rfl) (by kernel_rfl) rfl rfl rfl ?_
        refine DL.skip (i := 11) (by kernel_rfl) (by kernel_rfl) rfl rfl rfl ?_
        refine DL.skip (i := 12) (by kernel_rfl) (by kernel_rfl) rfl rfl rfl ?_
        refine DL.pure (i := 13) (by kernel_rfl) (by kernel_rfl) rfl rfl rfl (OpP.pickF rfl rfl) ?_
        refine DL.pure (i := 14) (by kernel_rfl) (by kernel_rfl) rfl rfl rfl (OpP.move rfl) ?_
        refine DL.pure (i := 15) (by kernel_rfl) (by kernel_rfl) rfl rfl rfl (OpP.fieldAddr rfl) ?_
        refine DL.read (i := 16) (by kernel_rfl) (by kernel_rfl) rfl rfl rfl (fun _ h => h) (OpR.load1 rfl (Cell.row (.tail (.tail .head)) rfl)) ?_
        refine DL.dec (i := 17) (by kernel_rfl) (by kernel_rfl) rfl rfl rfl (OpP.eqStr rfl rfl) (fun h86 => ?_) (fun h86 => ?_)
        focus
          refine DL.pure (i := 18) (by kernel_rfl) (by kernel_rfl) rfl rfl rfl (OpP.move rfl) ?_
          refine DL.pure (i := 19) (by kernel_rfl) (by kernel_rfl) rfl rfl rfl (OpP.fieldAddr rfl) ?_
          refine DL.read (i := 20) (by kernel_rfl) (by kernel_rfl) rfl rfl rfl (fun _ h => h) (OpR.load1 rfl (Cell.row (.tail (.tail (.tail .head))) rfl)) ?_
          refine DL.pure (i := 21) (by kernel_rfl) (by kernel_rfl) rfl rfl rfl (OpP.move rfl) ?_
          refine DL.ownSome (.tail (.tail (.tail (.tail .head)))) (by omega) fun ga pa ea ka => ?_; subst ea
          refine DL.pure (i := 22) (by kernel_rfl) (by kernel_rfl) rfl rfl rfl (OpP.indexAddr rfl rfl (by omega) (by omega)) ?_
          refine DL.pure (i := 23) (by kernel_rfl) (by kernel_rfl) rfl rfl rfl (OpP.fieldAddr rfl) ?_
          refine DL.read (i := 24) (by kernel_rfl) (by kernel_rfl) rfl rfl rfl (fun _ h => h) (OpR.load1 rfl (by apply Cells.cellChunk (j := 3) (Cells.own (.tail (.tail (.tail (.tail .head))))) (fun _ h => h); (case' h => assumption); (case' hi => assumption); (case' hv => rfl); (case' ho => omega); done)) ?_
          refine DL.pure (i := 25) (by kernel_rfl) (by kernel_rfl) rfl rfl rfl (OpP.fieldAddr rfl) ?_
          refine DL.read (i := 26) (by kernel_rfl) (by kernel_rfl) rfl rfl rfl (fun _ h => h) (OpR.load1 rfl (Cell.row (.tail (.tail .head)) rfl)) ?_
          refine DL.dec (i := 27) (by kernel_rfl) (by kernel_rfl) rfl rfl rfl (OpP.eqStr rfl rfl) (fun h96 => ?_) (fun h96 => ?_)
          focus
            refine DL.pure (i := 28) (by kernel_rfl) (by kernel_rfl) rfl rfl rfl (OpP.pickT rfl rfl) ?_
            refine DL.pure (i := 29) (by kernel_rfl) (by kernel_rfl) rfl rfl rfl (OpP.pickF rfl rfl) ?_
            refine DL.pure (i := 30) (by kernel_rfl) (by kernel_rfl) rfl rfl rfl (OpP.notB rfl) ?_
            refine DL.done (by kernel_rfl) ?_
            refine J.condF rfl ?_
            refine J.skip ?_
            refine J.inBlock ?_
            refine J.region ?_
            refine JL.pure rfl rfl (OpP.move rfl) ?_
            refine JL.pure rfl rfl (OpP.addI rfl rfl (by omega) (by omega)) ?_
            refine JL.pure rfl rfl (OpP.assign rfl) ?_
            refine JL.nil ?_
          rotate_left 1
          focus
            refine DL.pure (i := 28) (by kernel_rfl) (by kernel_rfl) rfl rfl rfl (OpP.pickT rfl rfl) ?_
            refine DL.pure (i := 29) (by kernel_rfl) (by kernel_rfl) rfl rfl rfl (OpP.pickF rfl rfl) ?_
            refine DL.pure (i := 30) (by kernel_rfl) (by kernel_rfl) rfl rfl rfl (OpP.notB rfl) ?_
            refine DL.done (by kernel_rfl) ?_
            refine J.condT rfl ?_
            refine J.region ?_
            refine JL.pure rfl rfl (OpP.move rfl) ?_
            refine JL.pure rfl rfl (OpP.fieldAddr rfl) ?_
            refine JL.read rfl rfl (OpR.load1 rfl (Cell.row (.tail (.tail (.tail .head))) rfl)) ?_
            refine JL.pure rfl rfl (OpP.move rfl) ?_
            refine JL.pure rfl rfl (OpP.indexAddr rfl rfl (by omega) (by omega)) ?_
            refine JL.read rfl rfl (OpR.loadN rfl (by apply Cells.chunkAt (Cells.own (.tail (.tail (.tail (.tail .head))))); (case' h => assumption); (case' hi => assumption); done) (by first | rfl | assumption)) ?_
            refine JL.mem rfl rfl (by apply OpM.buildSlice (by rfl) rfl (by rfl); (repeat (first | exact Fills.nil | (apply Fills.cons rfl rfl rfl; (case' hs => ((repeat (first | exact Spl.nil | apply Spl.here | apply Spl.there)); done)))))) ?_; rintro _ _ ⟨b106, rfl, rfl⟩
            refine JL.f1 ?_; refine JL.mem rfl rfl (OpM.appendH rfl (.inl ⟨_, Sl.und inferInstance⟩) (by rfl) rfl rfl (RdO.src (RdO.ofRow (.tail .head) (by first | decide | omega)) (by first | assumption | (simp; done) | (simp; omega))) (by first | exact bcells_one _ | exact scells_one _ | exact icells_one _ | assumption) (by simp only [maxLen]; omega) (by omega)) ?_; rintro _ _ ⟨⟨a107, c107, rfl⟩, rfl⟩
            refine JL.pure rfl rfl (OpP.assign rfl) ?_
            refine JL.nil ?_
            refine J.inBlock ?_
            refine J.region ?_
            refine JL.pure rfl rfl (OpP.move rfl) ?_
            refine JL.pure rfl rfl (OpP.addI rfl rfl (by omega) (by omega)) ?_
            refine JL.pure rfl rfl (OpP.assign rfl) ?_
            refine JL.nil ?_
          rotate_left 1
        rotate_left 2
        focus
          refine DL.pure (i := 18) (by kernel_rfl) (by kernel_rfl) rfl rfl rfl (OpP.move rfl) ?_
          refine DL.skip (i := 19) (by kernel_rfl) (by kernel_rfl) rfl rfl rfl ?_
          refine DL.skip (i := 20) (by kernel_rfl) (by kernel_rfl) rfl rfl rfl ?_
          refine DL.skip (i := 21) (by kernel_rfl) (by kernel_rfl) rfl rfl rfl ?_
          refine DL.skip (i := 22) (by kernel_rfl) (by kernel_rfl) rfl rfl rfl ?_
          refine DL.skip (i := 23) (by kernel_rfl) (by kernel_rfl) rfl rfl rfl ?_
          refine DL.skip (i := 24) (by kernel_rfl) (by kernel_rfl) rfl rfl rfl ?_
          refine DL.skip (i := 25) (by kernel_rfl) (by kernel_rfl) rfl rfl rfl ?_
          refine DL.skip (i := 26) (by kernel_rfl) (by kernel_rfl) rfl rfl rfl ?_
          refine DL.skip (i := 27) (by kernel_rfl) (by kernel_rfl) rfl rfl rfl ?_
          refine DL.pure (i := 28) (by kernel_rfl) (by kernel_rfl) rfl rfl rfl (OpP.pickF rfl rfl) ?_
          refine DL.pure (i := 29) (by kernel_rfl) (by kernel_rfl) rfl rfl rfl (OpP.pickF rfl rfl) ?_
          refine DL.pure (i := 30) (by kernel_rfl) (by kernel_rfl) rfl rfl rfl (OpP.notB rfl) ?_
          refine DL.done (by kernel_rfl) ?_
          refine J.condT rfl ?_
          refine J.region ?_
          refine JL.pure rfl rfl (OpP.move rfl) ?_
          refine JL.pure rfl rfl (OpP.fieldAddr rfl) ?_
          refine JL.read rfl rfl (OpR.load1 rfl (Cell.row (.tail (.tail (.tail .head))) rfl)) ?_
          refine JL.pure rfl rfl (OpP.move rfl) ?_
          refine JL.ownSome (.tail (.tail (.tail (.tail .head)))) (by omega) fun ga pa ea ka => ?_; subst ea
          refine JL.pure rfl rfl (OpP.indexAddr rfl rfl (by omega) (by omega)) ?_
          refine JL.read rfl rfl (OpR.loadN rfl (by apply Cells.chunkAt (Cells.own (.tail (.tail (.tail (.tail .head))))); (case' h => assumption); (case' hi => assumption); done) (by first | rfl | assumption)) ?_
          refine JL.mem rfl rfl (by apply OpM.buildSlice (by rfl) rfl (by rfl); (repeat (first | exact Fills.nil | (apply Fills.cons rfl rfl rfl; (case' hs => ((repeat (first | exact Spl.nil | apply Spl.here | apply Spl.there)); done)))))) ?_; rintro _ _ ⟨b106, rfl, rfl⟩
          refine JL.f1 ?_; refine JL.mem rfl rfl (OpM.appendH rfl (.inl ⟨_, Sl.und inferInstance⟩) (by rfl) rfl rfl (RdO.src (RdO.ofRow (.tail .head) (by first | decide | omega)) (by first | assumption | (simp; done) | (simp; omega))) (by first | exact bcells_one _ | exact scells_one _ | exact icells_one _ | assumption) (by simp only [maxLen]; omega) (by omega)) ?_; rintro _ _ ⟨⟨a107, c107, rfl⟩, rfl⟩
          refine JL.pure rfl rfl (OpP.assign rfl) ?_
          refine JL.nil ?_
          refine J.inBlock ?_
          refine J.region ?_
          refine JL.pure rfl rfl (OpP.move rfl) ?_
          refine JL.pure rfl rfl (OpP.addI rfl rfl (by omega) (by omega)) ?_
          refine JL.pure rfl rfl (OpP.assign rfl) ?_
          refine JL.nil ?_
        rotate_left 1
      rotate_left 3
      all_goals first
        | (have ht : tO o.a o.b e = true := tO_iff.2 (by first | exact .inl ⟨by assumption, by assumption⟩ | exact .inr ⟨by assumption, by assumption⟩)
           rw [ht] at hfil
           have hfil2 : (L.take (i + 1)).filter (fun e => !tO o.a o.b e) = K := hfil.trans (List.append_nil K)
           exact back (i + 1, _) (by dsimp only; omega) (by dsimp only; omega) (by repeat (first | exact SubEnv.nil | refine SubEnv.cons (by first | rfl | exact congrArg (fun z => some (Value.int .i64 z)) (by omega) | (simp; done)) ?_)) (fun _ h => by dsimp only; rw [hfil2]; exact h))
        | (have ht : tO o.a o.b e = false := by
             cases q : tO o.a o.b e with
             | false => rfl
             | true => rcases tO_iff.1 q with ⟨h1, h2⟩ | ⟨h1, h2⟩ <;> first | exact absurd h1 (by assumption) | exact absurd h2 (by assumption)
           rw [ht] at hfil
           have hfil2 : (L.take (i + 1)).filter (fun e => !tO o.a o.b e) = K ++ [e] := hfil
           have e1 : (K ++ [e]).length = K.length + 1 := by simp
           have e2 : (K ++ [e]).flatMap ocl = K.flatMap ocl ++ ocl e := by simp [List.flatMap_append]
           exact back (i + 1, _) (by dsimp only; omega) (by dsimp only; omega) (by repeat (first | exact SubEnv.nil | refine SubEnv.cons (by first | rfl | exact congrArg (fun z => some (Value.int .i64 z)) (by omega) | (simp; done)) ?_)) (fun _ h => by dsimp only; rw [hfil2, e1, e2]; exact Own.pick (pre := [_, _, _, _, _, _]) [0, 2, 3, 4, 5] rfl h))
    · have hil : i = L.length := by omega
      subst hil
      rw [List.take_length]
      refine J.lit .head fun akv ckv ekv => ?_; subst ekv
      refine J.seq ?_
      refine J.seq ?_
      refine J.region ?_
      refine JL.pure rfl rfl (OpP.move rfl) ?_
      refine JL.pure rfl rfl (OpP.fieldAddr rfl) ?_
      refine JL.read rfl rfl (OpR.load1 rfl (Cell.row (.tail (.tail (.tail .head))) rfl)) ?_
      refine JL.pure rfl rfl (OpP.len rfl rfl) ?_
      refine JL.decF rfl rfl (OpP.lss rfl rfl) (by omega) ?_
      refine JL.nil ?_
      refine J.condF rfl ?_
      refine J.exit rfl ?_
      refine J.seq ?_
      refine J.region ?_
      refine JL.pure rfl rfl (OpP.fieldAddr rfl) ?_
      refine JL.read rfl rfl (OpR.load1 rfl (Cell.row (.tail (.tail (.tail .head))) rfl)) ?_
      refine JL.pure rfl rfl (OpP.move rfl) ?_
      refine JL.pure rfl rfl (OpP.build rfl (by (repeat (first | exact Fills.nil | (apply Fills.cons rfl rfl rfl; (case' hs => ((repeat (first | exact Spl.nil | apply Spl.here | apply Spl.there)); done))))))) ?_
      refine JL.mem0 rfl (by apply OpM.storeN rfl rfl (by rfl) (oneC rfl (one1 rfl)); (case' hu => exact (.tail .head)); (case' hs => exact (.here (.here .nil))); done) ?_; rintro _ _ ⟨rfl, rfl⟩
      refine JL.nil ?_
      refine J.retC rfl rfl (by apply Cells.full; (with_reducible repeat (first | exact .head | apply Has.tail))) (by rfl) ?_
      exact ⟨_, ⟨_, rfl, rfl⟩, fun _ h => Own.pick (pre := [_, _, _, _, _]) [0] rfl h⟩
  · have hdo : doO cap L o = [] := by simp [doO, hk]
    rw [hdo]
    refine J.seq ?_
    refine J.region ?_
    refine JL.mem rfl rfl (OpM.box rfl rfl) ?_; rintro _ _ ⟨b2, rfl, rfl⟩
    refine JL.mem rfl rfl (OpM.box rfl rfl) ?_; rintro _ _ ⟨b3, rfl, rfl⟩
    refine JL.mem rfl rfl OpM.alloc ?_; rintro _ _ ⟨b4, rfl, rfl⟩
    refine JL.nil ?_
    refine J.seq ?_
    refine J.seq ?_
    refine J.region ?_
    refine JL.pure rfl rfl (OpP.fieldAddr rfl) ?_
    refine JL.read rfl rfl (OpR.load1 rfl (Cell.row (.tail .head) rfl)) ?_
    refine JL.pure rfl rfl (OpP.remI rfl rfl (by omega) (by omega)) ?_
    refine JL.nil ?_
    refine J.block ?_
    refine J.seq ?_
    refine J.region ?_
    refine JL.decF rfl rfl (OpP.eql rfl rfl) (by omega) ?_
    refine JL.pure rfl rfl (OpP.assign rfl) ?_
    refine JL.nil ?_
    refine J.condF rfl ?_
    refine J.seq ?_
    refine J.region ?_
    refine JL.decF rfl rfl (OpP.eql rfl rfl) (by omega) ?_
    refine JL.pure rfl rfl (OpP.assign rfl) ?_
    refine JL.nil ?_
    refine J.condF rfl ?_
    refine J.seq ?_
    refine J.region ?_
    refine JL.decT rfl rfl (OpP.eql rfl rfl) (by omega) ?_
    refine JL.pure rfl rfl (OpP.assign rfl) ?_
    refine JL.nil ?_
    refine J.condT rfl ?_
    refine J.seq ?_
    refine J.region ?_
    refine JL.pure rfl rfl (OpP.fieldAddr rfl) ?_
    refine JL.read rfl rfl (OpR.load1 rfl (Cell.row (.tail (.tail .head)) rfl)) ?_
    refine JL.pure rfl rfl (OpP.build rfl (by (repeat (first | exact Fills.nil | (apply Fills.cons rfl rfl rfl; (case' hs => ((repeat (first | exact Spl.nil | apply Spl.here | apply Spl.there)); done))))))) ?_
    refine JL.mem0 rfl (by apply OpM.storeN rfl rfl (by rfl) (oneC rfl (one1 rfl)); (case' hu => exact .head); (case' hs => exact (.here (.here .nil))); done) ?_; rintro _ _ ⟨rfl, rfl⟩
    refine JL.nil ?_
    refine J.retC rfl rfl (by apply Cells.full; (with_reducible repeat (first | exact .head | apply Has.tail))) (by rfl) ?_
    exact ⟨_, ⟨_, rfl, rfl⟩, fun _ h => Own.own_nil (Own.pick (pre := [_, _, _, _]) [] rfl h)⟩
end Go.Proofs.A
