/- A text of the proof of a statement about the given program: its part ACacheLast. No person has read it. -/
import Derived.Test.YtmfdjjbmckdmfaaACacheLaw
import Derived.Test.YtmfdjjbmckdmfaaJ17
-- seat a
namespace Go.Proofs.A
open Go Go.Gp Go.RowKit

/-- What was put last, if it may be there. -/
def touched (o last : OpC) : Bool := decide (o.k % 4 = 3) || decide (o.k % 4 = 2) && (decide (o.a = sSub) && decide (o.b = last.a) || decide (o.a = sRes) && decide (o.b = last.b))
theorem touched_iff {o last : OpC} : touched o last = true ↔ (o.k % 4 = 3 ∨ o.k % 4 = 2 ∧ (o.a = sSub ∧ o.b = last.a ∨ o.a = sRes ∧ o.b = last.b)) := by simp [touched]
def nextLast (key : Str) (o last : OpC) : OpC := if o.k % 4 = 0 ∧ o.key = key then o else last
def nextThere (key : Str) (o last : OpC) (there : Bool) : Bool := if touched o (nextLast key o last) then false else if o.k % 4 = 0 ∧ o.key = key then true else there
/-- Whatever is there with that key is what was put last. -/
def LastOk (key : Str) (L : List E) (last : OpC) (there : Bool) : Prop := ∀ e ∈ L, e.key = key → there = true ∧ e = opE last

theorem lastOk_step {cap : Nat} {key : Str} {L : List E} {o last : OpC} {there : Bool} (_ : 0 ≤ o.k) (hk : KeysOnce L) (h : LastOk key L last there) : LastOk key (doE cap L o) (nextLast key o last) (nextThere key o last there) := by
  intro e he hek
  have hk4 : o.k % 4 = 0 ∨ o.k % 4 = 1 ∨ o.k % 4 = 2 ∨ o.k % 4 = 3 := by omega
  rcases hk4 with h4 | h4 | h4 | h4
  · have ht : ∀ z, touched o z = false := fun z => by simp [touched, h4]
    rw [doE, if_pos h4, putE] at he
    by_cases hkk : o.key = key
    · have : nextThere key o last there = true ∧ nextLast key o last = o := by simp [nextThere, nextLast, ht, h4, hkk]
      rw [this.1, this.2]
      split at he
      · exact absurd (hek.trans hkk.symm) (eraseP_gone hk e he)
      · rcases List.mem_append.1 he with he | he
        · exact absurd (hek.trans hkk.symm) (eraseP_gone hk e ((cut2_sub _ _ _).subset he))
        · exact ⟨rfl, List.mem_singleton.1 he⟩
    · have : nextThere key o last there = there ∧ nextLast key o last = last := by simp [nextThere, nextLast, ht, h4, hkk]
      rw [this.1, this.2]
      split at he
      · exact h e (List.eraseP_sublist.subset he) hek
      · rcases List.mem_append.1 he with he | he
        · exact h e (List.eraseP_sublist.subset ((cut2_sub _ _ _).subset he)) hek
        · rw [List.mem_singleton.1 he] at hek; exact absurd hek hkk
  · have : nextThere key o last there = there ∧ nextLast key o last = last := by simp [nextThere, nextLast, touched, h4]
    rw [this.1, this.2]
    simp [doE, h4] at he
    exact h e he hek
  · have hl : nextLast key o last = last := by simp [nextLast, h4]
    simp [doE, h4] at he
    obtain ⟨q1, q2⟩ := h e he.1 hek
    rw [hl]
    refine ⟨?_, q2⟩
    have hnt : touched o last = false := by
      have := he.2
      rw [q2] at this
      simp only [tE, opE] at this
      simp only [touched, h4]
      rw [Bool.or_eq_false_iff] at this ⊢
      refine ⟨rfl, ?_⟩
      simp only [decide_true, Bool.true_and]
      rw [Bool.or_eq_false_iff]
      rw [Bool.and_eq_false_iff, Bool.and_eq_false_iff] at this ⊢
      exact ⟨this.1.imp id fun h => decide_eq_false fun q => of_decide_eq_false h q.symm, this.2.imp id fun h => decide_eq_false fun q => of_decide_eq_false h q.symm⟩
    simp [nextThere, hl, hnt, h4, q1]
  · simp [doE, h4] at he

theorem CacheLast_ok {w0 : World} {n : Int} {l : List OpC} {v : Value} {key : Str} (h0 : 0 ≤ n) (h1 : n ≤ 255) (hr : Rd w0 [] v l.length (l.flatMap ocl)) (ho : ∀ o ∈ l, o.Ok w0) :
    FnO Try.prog w0 9 [.int .u8 n, v, .string key] [] (fun u _ => u = .bool true) := by
  obtain ⟨a, c, rfl⟩ := hr.lit
  refine FnO.intro (n := 107) Try.func9 rfl rfl rfl ?_
  refine J.seq ?_
  refine J.region ?_
  refine JL.pure rfl rfl (OpP.assign rfl) ?_
  refine JL.nil ?_
  refine J.seq ?_
  refine J.seq ?_
  refine J.region ?_
  refine JL.step rfl rfl (OpW.call (first := []) (captured := []) inferInstance rfl rfl Cawake_ok) ?_; rintro r14 _ ⟨rfl, rfl⟩
  refine JL.pure rfl rfl (OpP.notB rfl) ?_
  refine JL.pure rfl rfl (OpP.move rfl) ?_
  refine JL.pure rfl rfl (OpP.move rfl) ?_
  refine JL.step rfl rfl (OpW.call (first := []) (captured := []) inferInstance rfl rfl (Few_ok hr ho (by decide))) ?_; rintro r18 _ ⟨rfl, ⟨b, ⟨rfl, h18⟩⟩⟩
  refine JL.pure rfl rfl (OpP.notB rfl) ?_
  refine JL.pure rfl rfl (OpP.pickF rfl rfl) ?_
  refine JL.pure rfl rfl (OpP.move rfl) ?_
  refine JL.splitAt 21 rfl (fun h21 => ?_) (fun h21 => ?_)
  focus
    refine JL.skip rfl rfl ?_
    refine JL.skip rfl rfl ?_
    refine JL.skip rfl rfl ?_
    refine JL.pure rfl rfl (OpP.pickT rfl rfl) ?_
    refine JL.nil ?_
    refine J.condT rfl ?_
    refine J.seq ?_
    refine J.region ?_
    refine JL.step rfl rfl (OpW.call (first := []) (captured := []) inferInstance rfl rfl Cawake_ok) ?_; rintro r26 _ ⟨rfl, rfl⟩
    refine JL.pure rfl rfl (OpP.assign rfl) ?_
    refine JL.nil ?_
    refine J.ret1 rfl rfl ?_
  rotate_left 1
  focus
    refine JL.pure rfl rfl (OpP.move rfl) ?_
    refine JL.pure rfl rfl (OpP.lenStr rfl rfl) ?_
    refine JL.dec rfl rfl (OpP.gtr rfl rfl) (fun h24 => ?_) (fun h24 => ?_)
    focus
      refine JL.pure rfl rfl (OpP.pickF rfl rfl) ?_
      refine JL.nil ?_
      refine J.condT rfl ?_
      refine J.seq ?_
      refine J.region ?_
      refine JL.step rfl rfl (OpW.call (first := []) (captured := []) inferInstance rfl rfl Cawake_ok) ?_; rintro r26 _ ⟨rfl, rfl⟩
      refine JL.pure rfl rfl (OpP.assign rfl) ?_
      refine JL.nil ?_
      refine J.ret1 rfl rfl ?_
    rotate_left 1
    focus
      refine JL.pure rfl rfl (OpP.pickF rfl rfl) ?_
      refine JL.nil ?_
      refine J.condF rfl ?_
      refine J.skip ?_
      refine J.seq ?_
      refine J.region ?_
      refine JL.pure rfl rfl (OpP.move rfl) ?_
      refine JL.pure rfl rfl (OpP.remI rfl rfl (by omega) (by omega)) ?_
      refine JL.pure rfl rfl (OpP.convI64 rfl (by omega) (by omega)) ?_
      refine JL.pure rfl rfl (OpP.addI rfl rfl (by omega) (by omega)) ?_
      refine JL.step rfl rfl (OpW.call (first := []) (captured := []) inferInstance rfl rfl ENew_ok) ?_; rintro r31 _ ⟨g, ⟨rfl, rfl⟩⟩
      refine JL.pure rfl rfl (OpP.assign rfl) ?_
      refine JL.nil ?_
      refine J.seq ?_
      refine J.region ?_
      refine JL.mem rfl rfl OpM.alloc ?_; rintro _ _ ⟨b8, rfl, rfl⟩
      refine JL.nil ?_
      refine J.seq ?_
      refine J.region ?_
      refine JL.pure rfl rfl (OpP.assign rfl) ?_
      refine JL.nil ?_
      refine J.seq ?_
      refine J.seq ?_
      refine J.region ?_
      refine JL.pure rfl rfl (OpP.assign rfl) ?_
      refine JL.nil ?_
      refine J.block ?_
    rotate_left 1
  rotate_left 2
  · rfl
  · rfl
  obtain ⟨hl60, hfew⟩ := h18 (by simpa using h21)
  generalize capOf (1 + n % 16) = cap
  refine J.loopI (fun x : Nat × OpC × Bool × List E => l.length - x.1) (fun x => x.1 ≤ l.length ∧ KeysOnce x.2.2.2 ∧ LastOk key x.2.2.2 x.2.1 x.2.2.1 ∧ x.2.1.Ok w0 ∧ x.2.1.few) (fun x => [(10, .int .i64 (x.1 : Nat)), (9, .bool x.2.2.1), (8, .pointer (some ⟨b8, 0, none⟩)), (7, .pointer (some ⟨g, 0, none⟩)), (1, .slice a l.length c), (2, .string key)])
    (fun x => [row b8 71 (ocl x.2.1), cacheE g cap x.2.2.2]) (0, ⟨0, ByteArray.empty, ByteArray.empty, ByteArray.empty, ⟨0, .slice none 0 0, .slice none 0 0, [], []⟩, 0⟩, false, []) ⟨Nat.zero_le _, by simp [KeysOnce], fun e he => by simp at he, ⟨by decide, by decide, by decide, by decide, .inl ⟨_, _, rfl, rfl, rfl⟩, .inl ⟨_, _, rfl, rfl, rfl⟩⟩, ⟨Nat.zero_le _, Nat.zero_le _⟩⟩ (by repeat (first | exact SubEnv.nil | refine SubEnv.cons (by first | rfl | exact congrArg (fun z => some (Value.int .i64 z)) (by omega) | (simp; done)) ?_)) (fun _ h => h) (fun ⟨i, last, there, L⟩ ⟨hi, hk, hlast, hlok, hlf⟩ back => ?_)
  dsimp only at hi hk hlast hlok hlf back ⊢
  have h8 := ocl_len l
  by_cases hlt : i < l.length
  · obtain ⟨o, hoi⟩ : ∃ o, l[i]? = some o := ⟨_, List.getElem?_eq_getElem hlt⟩
    have hmem := List.mem_of_getElem? hoi
    have hok := ho o hmem
    have hk' := doE_once (cap := cap) (o := o) hk
    have k0 := hok.k0
    have k1 := hok.k1
    have hlast' := lastOk_step (cap := cap) (key := key) (o := o) k0 hk hlast
    have h8' : (ocl o).length = 8 := rfl
    have hone : ∀ u ∈ ocl o, u.oneCell' = true := by
      obtain ⟨da, dc, hd⟩ := hok.dv.lit
      obtain ⟨aa, ac, ha⟩ := hok.av.lit
      exact oneC rfl (oneC rfl (oneC rfl (oneC rfl (oneC rfl (oneC (by rw [hd]; rfl) (oneC (by rw [ha]; rfl) (one1 rfl)))))))
    refine J.seq ?_
    refine J.seq ?_
    refine J.region ?_
    refine JL.pure rfl rfl (OpP.move rfl) ?_
    refine JL.pure rfl rfl (OpP.move rfl) ?_
    refine JL.pure rfl rfl (OpP.len rfl rfl) ?_
    refine JL.decT rfl rfl (OpP.lss rfl rfl) (by omega) ?_
    refine JL.nil ?_
    refine J.condT rfl ?_
    refine J.skip ?_
    refine J.seq ?_
    refine J.block ?_
    refine J.seq ?_
    refine J.region ?_
    refine JL.pure rfl rfl (OpP.move rfl) ?_
    refine JL.pure rfl rfl (OpP.move rfl) ?_
    obtain ⟨ga, pa, qa, ea, ka, ca⟩ := hr.pos (by omega); cases ea
    refine JL.pure rfl rfl (OpP.indexAddr rfl rfl (by omega) (by omega)) ?_
    refine JL.read rfl rfl (OpR.loadN rfl (by apply Cells.conv (fun _ h => h.none); apply Cells.chunkAt ca; (case' h => assumption); (case' hi => assumption); done) (by first | rfl | assumption)) ?_
    refine JL.mem rfl rfl OpM.alloc ?_; rintro _ _ ⟨b11, rfl, rfl⟩
    refine JL.mem0 rfl (by apply OpM.storeN rfl rfl (by first | rfl | assumption) (by assumption); (case' hu => exact .head); (case' hs => exact (.here (.here (.here (.here (.here (.here (.here (.here .nil))))))))); done) ?_; rintro _ _ ⟨rfl, rfl⟩
    refine JL.nil ?_
    refine J.seq ?_
    refine J.region ?_
    refine JL.pure rfl rfl (OpP.move rfl) ?_
    refine JL.read rfl rfl (OpR.loadN rfl (Cells.full .head) rfl) ?_
    refine JL.f2 ?_; refine JL.step rfl rfl (OpW.call (first := []) (captured := []) inferInstance rfl rfl (Cdo_ok hok (hfew o hmem))) ?_; rintro r44 _ ⟨rfl, rfl⟩
    refine JL.nil ?_
    refine J.seq ?_
    refine J.cut (σ := Unit) (fun _ => True) (fun _ => [(11, .pointer (some ⟨b11, 0, none⟩)), (10, .int .i64 (i : Nat)), (9, .bool (if o.k % 4 = 0 ∧ o.key = key then true else there)), (8, .pointer (some ⟨b8, 0, none⟩)), (7, .pointer (some ⟨g, 0, none⟩)), (1, .slice (some ⟨ga, pa, none⟩) l.length c), (2, .string key)])
      (fun _ => [cacheE g cap (doE cap L o), row b11 71 (ocl o), row b8 71 (ocl (nextLast key o last))]) (fun _ _ => ?_) (fun k' go => ?_)
    · have hlf' : (nextLast key o last).few := by unfold nextLast; split; exact hfew o hmem; exact hlf
      have hlok' : (nextLast key o last).Ok w0 := by unfold nextLast; split; exact hok; exact hlok
      have hth : nextThere key o last there = if touched o (nextLast key o last) then false else (if o.k % 4 = 0 ∧ o.key = key then true else there) := rfl
      rw [hth] at hlast'
      generalize (if o.k % 4 = 0 ∧ o.key = key then true else there) = there2 at hlast' ⊢
      generalize nextLast key o last = last2 at hlast' hlf' hlok' ⊢
      refine J.seq ?_
      refine J.region ?_
      refine JL.pure rfl rfl (OpP.fieldAddr rfl) ?_
      refine JL.read rfl rfl (OpR.load1 rfl (Cell.row (.tail .head) rfl)) ?_
      refine JL.pure rfl rfl (OpP.remI rfl rfl (by omega) (by omega)) ?_
      refine JL.dec rfl rfl (OpP.eql rfl rfl) (fun h59 => ?_) (fun h59 => ?_)
      focus
        refine JL.pure rfl rfl (OpP.move rfl) ?_
        refine JL.skip rfl rfl ?_
        refine JL.skip rfl rfl ?_
        refine JL.skip rfl rfl ?_
        refine JL.skip rfl rfl ?_
        refine JL.skip rfl rfl ?_
        refine JL.skip rfl rfl ?_
        refine JL.skip rfl rfl ?_
        refine JL.skip rfl rfl ?_
        refine JL.skip rfl rfl ?_
        refine JL.skip rfl rfl ?_
        refine JL.skip rfl rfl ?_
        refine JL.skip rfl rfl ?_
        refine JL.skip rfl rfl ?_
        refine JL.skip rfl rfl ?_
        refine JL.skip rfl rfl ?_
        refine JL.skip rfl rfl ?_
        refine JL.skip rfl rfl ?_
        refine JL.skip rfl rfl ?_
        refine JL.skip rfl rfl ?_
        refine JL.skip rfl rfl ?_
        refine JL.skip rfl rfl ?_
        refine JL.skip rfl rfl ?_
        refine JL.skip rfl rfl ?_
        refine JL.skip rfl rfl ?_
        refine JL.skip rfl rfl ?_
        refine JL.skip rfl rfl ?_
        refine JL.skip rfl rfl ?_
        refine JL.skip rfl rfl ?_
        refine JL.pure rfl rfl (OpP.pickT rfl rfl) ?_
        refine JL.nil ?_
        refine J.condT rfl ?_
        refine J.region ?_
        refine JL.pure rfl rfl (OpP.assign rfl) ?_
        refine JL.nil ?_
        refine J.inBlock ?_
        refine J.region ?_
        refine JL.pure rfl rfl (OpP.move rfl) ?_
        refine JL.pure rfl rfl (OpP.addI rfl rfl (by omega) (by omega)) ?_
        refine JL.pure rfl rfl (OpP.assign rfl) ?_
        refine JL.nil ?_
      rotate_left 1
      focus
        refine JL.pure rfl rfl (OpP.move rfl) ?_
        refine JL.pure rfl rfl (OpP.fieldAddr rfl) ?_
        refine JL.read rfl rfl (OpR.load1 rfl (Cell.row (.tail .head) rfl)) ?_
        refine JL.pure rfl rfl (OpP.remI rfl rfl (by omega) (by omega)) ?_
        refine JL.dec rfl rfl (OpP.eql rfl rfl) (fun h64 => ?_) (fun h64 => ?_)
        focus
          refine JL.pure rfl rfl (OpP.move rfl) ?_
          refine JL.pure rfl rfl (OpP.fieldAddr rfl) ?_
          refine JL.read rfl rfl (OpR.load1 rfl (Cell.row (.tail .head) rfl)) ?_
          refine JL.dec rfl rfl (OpP.eqStr rfl rfl) (fun h68 => ?_) (fun h68 => ?_)
          focus
            refine JL.pure rfl rfl (OpP.move rfl) ?_
            refine JL.pure rfl rfl (OpP.fieldAddr rfl) ?_
            refine JL.read rfl rfl (OpR.load1 rfl (Cell.row (.tail .head) rfl)) ?_
            refine JL.pure rfl rfl (OpP.fieldAddr rfl) ?_
            refine JL.read rfl rfl (OpR.load1 rfl (Cell.row (.tail (.tail .head)) rfl)) ?_
            refine JL.dec rfl rfl (OpP.eqStr rfl rfl) (fun h74 => ?_) (fun h74 => ?_)
            focus
              refine JL.pure rfl rfl (OpP.pickT rfl rfl) ?_
              refine JL.pure rfl rfl (OpP.move rfl) ?_
              refine JL.skip rfl rfl ?_
              refine JL.skip rfl rfl ?_
              refine JL.skip rfl rfl ?_
              refine JL.skip rfl rfl ?_
              refine JL.skip rfl rfl ?_
              refine JL.skip rfl rfl ?_
              refine JL.skip rfl rfl ?_
              refine JL.skip rfl rfl ?_
              refine JL.skip rfl rfl ?_
              refine JL.skip rfl rfl ?_
              refine JL.pure rfl rfl (OpP.pickT rfl rfl) ?_
              refine JL.pure rfl rfl (OpP.pickT rfl rfl) ?_
              refine JL.pure rfl rfl (OpP.pickF rfl rfl) ?_
              refine JL.nil ?_
              refine J.condT rfl ?_
              refine J.region ?_
              refine JL.pure rfl rfl (OpP.assign rfl) ?_
              refine JL.nil ?_
              refine J.inBlock ?_
              refine J.region ?_
              refine JL.pure rfl rfl (OpP.move rfl) ?_
              refine JL.pure rfl rfl (OpP.addI rfl rfl (by omega) (by omega)) ?_
              refine JL.pure rfl rfl (OpP.assign rfl) ?_
              refine JL.nil ?_
            rotate_left 1
            focus
              refine JL.pure rfl rfl (OpP.pickT rfl rfl) ?_
              refine JL.pure rfl rfl (OpP.move rfl) ?_
              refine JL.pure rfl rfl (OpP.fieldAddr rfl) ?_
              refine JL.read rfl rfl (OpR.load1 rfl (Cell.row (.tail .head) rfl)) ?_
              refine JL.dec rfl rfl (OpP.eqStr rfl rfl) (fun h79 => ?_) (fun h79 => ?_)
              focus
                refine JL.pure rfl rfl (OpP.move rfl) ?_
                refine JL.pure rfl rfl (OpP.fieldAddr rfl) ?_
                refine JL.read rfl rfl (OpR.load1 rfl (Cell.row (.tail .head) rfl)) ?_
                refine JL.pure rfl rfl (OpP.fieldAddr rfl) ?_
                refine JL.read rfl rfl (OpR.load1 rfl (Cell.row (.tail (.tail .head)) rfl)) ?_
                refine JL.dec rfl rfl (OpP.eqStr rfl rfl) (fun h85 => ?_) (fun h85 => ?_)
                focus
                  refine JL.pure rfl rfl (OpP.pickT rfl rfl) ?_
                  refine JL.pure rfl rfl (OpP.pickF rfl rfl) ?_
                  refine JL.pure rfl rfl (OpP.pickT rfl rfl) ?_
                  refine JL.pure rfl rfl (OpP.pickF rfl rfl) ?_
                  refine JL.nil ?_
                  refine J.condT rfl ?_
                  refine J.region ?_
                  refine JL.pure rfl rfl (OpP.assign rfl) ?_
                  refine JL.nil ?_
                  refine J.inBlock ?_
                  refine J.region ?_
                  refine JL.pure rfl rfl (OpP.move rfl) ?_
                  refine JL.pure rfl rfl (OpP.addI rfl rfl (by omega) (by omega)) ?_
                  refine JL.pure rfl rfl (OpP.assign rfl) ?_
                  refine JL.nil ?_
                rotate_left 1
                focus
                  refine JL.pure rfl rfl (OpP.pickT rfl rfl) ?_
                  refine JL.pure rfl rfl (OpP.pickF rfl rfl) ?_
                  refine JL.pure rfl rfl (OpP.pickT rfl rfl) ?_
                  refine JL.pure rfl rfl (OpP.pickF rfl rfl) ?_
                  refine JL.nil ?_
                  refine J.condF rfl ?_
                  refine J.skip ?_
                  refine J.inBlock ?_
                  refine J.region ?_
                  refine JL.pure rfl rfl (OpP.move rfl) ?_
                  refine JL.pure rfl rfl (OpP.addI rfl rfl (by omega) (by omega)) ?_
                  refine JL.pure rfl rfl (OpP.assign rfl) ?_
                  refine JL.nil ?_
                rotate_left 1
              rotate_left 2
              focus
                refine JL.pure rfl rfl (OpP.move rfl) ?_
                refine JL.skip rfl rfl ?_
                refine JL.skip rfl rfl ?_
                refine JL.skip rfl rfl ?_
                refine JL.skip rfl rfl ?_
                refine JL.skip rfl rfl ?_
                refine JL.pure rfl rfl (OpP.pickF rfl rfl) ?_
                refine JL.pure rfl rfl (OpP.pickF rfl rfl) ?_
                refine JL.pure rfl rfl (OpP.pickT rfl rfl) ?_
                refine JL.pure rfl rfl (OpP.pickF rfl rfl) ?_
                refine JL.nil ?_
                refine J.condF rfl ?_
                refine J.skip ?_
                refine J.inBlock ?_
                refine J.region ?_
                refine JL.pure rfl rfl (OpP.move rfl) ?_
                refine JL.pure rfl rfl (OpP.addI rfl rfl (by omega) (by omega)) ?_
                refine JL.pure rfl rfl (OpP.assign rfl) ?_
                refine JL.nil ?_
              rotate_left 1
            rotate_left 3
          rotate_left 4
          focus
            refine JL.pure rfl rfl (OpP.move rfl) ?_
            refine JL.skip rfl rfl ?_
            refine JL.skip rfl rfl ?_
            refine JL.skip rfl rfl ?_
            refine JL.skip rfl rfl ?_
            refine JL.skip rfl rfl ?_
            refine JL.pure rfl rfl (OpP.pickF rfl rfl) ?_
            refine JL.pure rfl rfl (OpP.move rfl) ?_
            refine JL.pure rfl rfl (OpP.fieldAddr rfl) ?_
            refine JL.read rfl rfl (OpR.load1 rfl (Cell.row (.tail .head) rfl)) ?_
            refine JL.dec rfl rfl (OpP.eqStr rfl rfl) (fun h79 => ?_) (fun h79 => ?_)
            focus
              refine JL.pure rfl rfl (OpP.move rfl) ?_
              refine JL.pure rfl rfl (OpP.fieldAddr rfl) ?_
              refine JL.read rfl rfl (OpR.load1 rfl (Cell.row (.tail .head) rfl)) ?_
              refine JL.pure rfl rfl (OpP.fieldAddr rfl) ?_
              refine JL.read rfl rfl (OpR.load1 rfl (Cell.row (.tail (.tail .head)) rfl)) ?_
              refine JL.dec rfl rfl (OpP.eqStr rfl rfl) (fun h85 => ?_) (fun h85 => ?_)
              focus
                refine JL.pure rfl rfl (OpP.pickT rfl rfl) ?_
                refine JL.pure rfl rfl (OpP.pickF rfl rfl) ?_
                refine JL.pure rfl rfl (OpP.pickT rfl rfl) ?_
                refine JL.pure rfl rfl (OpP.pickF rfl rfl) ?_
                refine JL.nil ?_
                refine J.condT rfl ?_
                refine J.region ?_
                refine JL.pure rfl rfl (OpP.assign rfl) ?_
                refine JL.nil ?_
                refine J.inBlock ?_
                refine J.region ?_
                refine JL.pure rfl rfl (OpP.move rfl) ?_
                refine JL.pure rfl rfl (OpP.addI rfl rfl (by omega) (by omega)) ?_
                refine JL.pure rfl rfl (OpP.assign rfl) ?_
                refine JL.nil ?_
              rotate_left 1
              focus
                refine JL.pure rfl rfl (OpP.pickT rfl rfl) ?_
                refine JL.pure rfl rfl (OpP.pickF rfl rfl) ?_
                refine JL.pure rfl rfl (OpP.pickT rfl rfl) ?_
                refine JL.pure rfl rfl (OpP.pickF rfl rfl) ?_
                refine JL.nil ?_
                refine J.condF rfl ?_
                refine J.skip ?_
                refine J.inBlock ?_
                refine J.region ?_
                refine JL.pure rfl rfl (OpP.move rfl) ?_
                refine JL.pure rfl rfl (OpP.addI rfl rfl (by omega) (by omega)) ?_
                refine JL.pure rfl rfl (OpP.assign rfl) ?_
                refine JL.nil ?_
              rotate_left 1
            rotate_left 2
            focus
              refine JL.pure rfl rfl (OpP.move rfl) ?_
              refine JL.skip rfl rfl ?_
              refine JL.skip rfl rfl ?_
              refine JL.skip rfl rfl ?_
              refine JL.skip rfl rfl ?_
              refine JL.skip rfl rfl ?_
              refine JL.pure rfl rfl (OpP.pickF rfl rfl) ?_
              refine JL.pure rfl rfl (OpP.pickF rfl rfl) ?_
              refine JL.pure rfl rfl (OpP.pickT rfl rfl) ?_
              refine JL.pure rfl rfl (OpP.pickF rfl rfl) ?_
              refine JL.nil ?_
              refine J.condF rfl ?_
              refine J.skip ?_
              refine J.inBlock ?_
              refine J.region ?_
              refine JL.pure rfl rfl (OpP.move rfl) ?_
              refine JL.pure rfl rfl (OpP.addI rfl rfl (by omega) (by omega)) ?_
              refine JL.pure rfl rfl (OpP.assign rfl) ?_
              refine JL.nil ?_
            rotate_left 1
          rotate_left 3
        rotate_left 7
        focus
          refine JL.pure rfl rfl (OpP.move rfl) ?_
          refine JL.skip rfl rfl ?_
          refine JL.skip rfl rfl ?_
          refine JL.skip rfl rfl ?_
          refine JL.skip rfl rfl ?_
          refine JL.skip rfl rfl ?_
          refine JL.skip rfl rfl ?_
          refine JL.skip rfl rfl ?_
          refine JL.skip rfl rfl ?_
          refine JL.skip rfl rfl ?_
          refine JL.skip rfl rfl ?_
          refine JL.skip rfl rfl ?_
          refine JL.skip rfl rfl ?_
          refine JL.skip rfl rfl ?_
          refine JL.skip rfl rfl ?_
          refine JL.skip rfl rfl ?_
          refine JL.skip rfl rfl ?_
          refine JL.skip rfl rfl ?_
          refine JL.skip rfl rfl ?_
          refine JL.skip rfl rfl ?_
          refine JL.skip rfl rfl ?_
          refine JL.skip rfl rfl ?_
          refine JL.skip rfl rfl ?_
          refine JL.pure rfl rfl (OpP.pickF rfl rfl) ?_
          refine JL.pure rfl rfl (OpP.pickF rfl rfl) ?_
          refine JL.nil ?_
          refine J.condF rfl ?_
          refine J.skip ?_
          refine J.inBlock ?_
          refine J.region ?_
          refine JL.pure rfl rfl (OpP.move rfl) ?_
          refine JL.pure rfl rfl (OpP.addI rfl rfl (by omega) (by omega)) ?_
          refine JL.pure rfl rfl (OpP.assign rfl) ?_
          refine JL.nil ?_
        rotate_left 1
      rotate_left 8
      all_goals first
        | (have ht : touched o last2 = true := touched_iff.2 (by first | exact .inl (by assumption) | exact .inr ⟨by assumption, .inl ⟨by assumption, by assumption⟩⟩ | exact .inr ⟨by assumption, .inr ⟨by assumption, by assumption⟩⟩)
           rw [if_pos ht] at hlast'
           exact back (i + 1, last2, false, doE cap L o) ⟨by dsimp only; omega, hk', hlast', hlok', hlf'⟩ (by dsimp only; omega) (by repeat (first | exact SubEnv.nil | refine SubEnv.cons (by first | rfl | exact congrArg (fun z => some (Value.int .i64 z)) (by omega) | (simp; done)) ?_)) (fun _ h => Own.pick (pre := [_, _, _]) [2, 0] rfl h))
        | (have ht : ¬ touched o last2 = true := fun q => by rcases touched_iff.1 q with h | ⟨h, ⟨h1, h2⟩ | ⟨h1, h2⟩⟩ <;> first | exact absurd h (by assumption) | exact absurd h1 (by assumption) | exact absurd h2 (by assumption)
           rw [if_neg ht] at hlast'
           exact back (i + 1, last2, there2, doE cap L o) ⟨by dsimp only; omega, hk', hlast', hlok', hlf'⟩ (by dsimp only; omega) (by repeat (first | exact SubEnv.nil | refine SubEnv.cons (by first | rfl | exact congrArg (fun z => some (Value.int .i64 z)) (by omega) | (simp; done)) ?_)) (fun _ h => Own.pick (pre := [_, _, _]) [2, 0] rfl h))
    · refine J.seq ?_
      refine J.region ?_
      refine JL.pure rfl rfl (OpP.fieldAddr rfl) ?_
      refine JL.read rfl rfl (OpR.load1 rfl (Cell.row (.tail .head) rfl)) ?_
      refine JL.pure rfl rfl (OpP.remI rfl rfl (by omega) (by omega)) ?_
      refine JL.dec rfl rfl (OpP.eql rfl rfl) (fun h48 => ?_) (fun h48 => ?_)
      focus
        refine JL.pure rfl rfl (OpP.move rfl) ?_
        refine JL.pure rfl rfl (OpP.fieldAddr rfl) ?_
        refine JL.read rfl rfl (OpR.load1 rfl (Cell.row (.tail .head) rfl)) ?_
        refine JL.pure rfl rfl (OpP.move rfl) ?_
        refine JL.dec rfl rfl (OpP.eqStr rfl rfl) (fun h53 => ?_) (fun h53 => ?_)
        focus
          refine JL.pure rfl rfl (OpP.pickT rfl rfl) ?_
          refine JL.nil ?_
          refine J.condT rfl ?_
          refine J.seq ?_
          refine J.region ?_
          refine JL.read rfl rfl (OpR.loadN rfl (Cells.full (.tail .head)) rfl) ?_
          refine JL.mem0 rfl (by apply OpM.storeN rfl rfl (by first | rfl | assumption) (by assumption); (case' hu => exact (.tail (.tail .head))); (case' hs => exact (.here (.here (.here (.here (.here (.here (.here (.here .nil))))))))); done) ?_; rintro _ _ ⟨rfl, rfl⟩
          refine JL.nil ?_
          refine J.region ?_
          refine JL.pure rfl rfl (OpP.assign rfl) ?_
          refine JL.nil ?_
        rotate_left 1
        focus
          refine JL.pure rfl rfl (OpP.pickT rfl rfl) ?_
          refine JL.nil ?_
          refine J.condF rfl ?_
          refine J.skip ?_
        rotate_left 1
      rotate_left 2
      focus
        refine JL.pure rfl rfl (OpP.move rfl) ?_
        refine JL.skip rfl rfl ?_
        refine JL.skip rfl rfl ?_
        refine JL.skip rfl rfl ?_
        refine JL.skip rfl rfl ?_
        refine JL.pure rfl rfl (OpP.pickF rfl rfl) ?_
        refine JL.nil ?_
        refine J.condF rfl ?_
        refine J.skip ?_
      rotate_left 1
      · have hc : (if o.k % 4 = 0 ∧ o.key = key then true else there) = true := if_pos ⟨by assumption, by assumption⟩
        have hn : nextLast key o last = o := if_pos ⟨by assumption, by assumption⟩
        rw [hc, hn] at go
        exact go () trivial (by repeat (first | exact SubEnv.nil | refine SubEnv.cons (by first | rfl | exact congrArg (fun z => some (Value.int .i64 z)) (by omega) | (simp; done)) ?_)) (fun _ h => h)
      all_goals
        have hq : ¬ (o.k % 4 = 0 ∧ o.key = key) := fun ⟨q1, q2⟩ => by first | exact absurd q1 (by assumption) | exact absurd q2 (by assumption)
        have hc : (if o.k % 4 = 0 ∧ o.key = key then true else there) = there := if_neg hq
        have hn : nextLast key o last = last := if_neg hq
        rw [hc, hn] at go
        exact go () trivial (by repeat (first | exact SubEnv.nil | refine SubEnv.cons (by first | rfl | exact congrArg (fun z => some (Value.int .i64 z)) (by omega) | (simp; done)) ?_)) (fun _ h => h)
  · refine J.seq ?_
    refine J.seq ?_
    refine J.region ?_
    refine JL.pure rfl rfl (OpP.move rfl) ?_
    refine JL.pure rfl rfl (OpP.move rfl) ?_
    refine JL.pure rfl rfl (OpP.len rfl rfl) ?_
    refine JL.decF rfl rfl (OpP.lss rfl rfl) (by omega) ?_
    refine JL.nil ?_
    refine J.condF rfl ?_
    refine J.exit rfl ?_
    refine J.seq ?_
    refine J.region ?_
    refine JL.pure rfl rfl (OpP.move rfl) ?_
    refine JL.pure rfl rfl (OpP.move rfl) ?_
    refine JL.f1 ?_; refine JL.step rfl rfl (OpW.call (first := []) (captured := []) inferInstance rfl rfl EGet_ok) ?_; rintro r93 _ (⟨h93, ⟨rfl, rfl⟩⟩ | ⟨e, ⟨u1, ⟨u2, ⟨h931, ⟨h932, ⟨h933, ⟨rfl, rfl⟩⟩⟩⟩⟩⟩⟩)
    focus
      refine JL.pure rfl rfl (OpP.move rfl) ?_
      refine JL.pure rfl rfl (OpP.extract rfl rfl) ?_
      refine JL.pure rfl rfl (OpP.extract rfl rfl) ?_
      refine JL.mem rfl rfl OpM.alloc ?_; rintro _ _ ⟨b12, rfl, rfl⟩
      refine JL.mem0 rfl (by apply OpM.storeN rfl rfl (by rfl) (oneC rfl (oneC rfl (one1 rfl))); (case' hu => exact .head); (case' hs => exact (.here (.here (.here .nil)))); done) ?_; rintro _ _ ⟨rfl, rfl⟩
      refine JL.pure rfl rfl (OpP.assign rfl) ?_
      refine JL.nil ?_
      refine J.seq ?_
      refine J.region ?_
      refine JL.pure rfl rfl (OpP.move rfl) ?_
      refine JL.pure rfl rfl (OpP.notB rfl) ?_
      refine JL.pure rfl rfl (OpP.move rfl) ?_
      refine JL.skip rfl rfl ?_
      refine JL.skip rfl rfl ?_
      refine JL.skip rfl rfl ?_
      refine JL.skip rfl rfl ?_
      refine JL.skip rfl rfl ?_
      refine JL.skip rfl rfl ?_
      refine JL.skip rfl rfl ?_
      refine JL.pure rfl rfl (OpP.pickT rfl rfl) ?_
      refine JL.pure rfl rfl (OpP.assign rfl) ?_
      refine JL.nil ?_
      refine J.ret1 rfl rfl ?_
    rotate_left 1
    focus
      refine JL.lit .head fun au1 cu1 eu1 => ?_; subst eu1
      refine JL.lit (.tail .head) fun au2 cu2 eu2 => ?_; subst eu2
      refine JL.pure rfl rfl (OpP.move rfl) ?_
      refine JL.pure rfl rfl (OpP.extract rfl rfl) ?_
      refine JL.pure rfl rfl (OpP.extract rfl rfl) ?_
      refine JL.mem rfl rfl OpM.alloc ?_; rintro _ _ ⟨b12, rfl, rfl⟩
      refine JL.mem0 rfl (by apply OpM.storeN rfl rfl (by rfl) (oneC rfl (oneC rfl (one1 rfl))); (case' hu => exact .head); (case' hs => exact (.here (.here (.here .nil)))); done) ?_; rintro _ _ ⟨rfl, rfl⟩
      refine JL.pure rfl rfl (OpP.assign rfl) ?_
      refine JL.nil ?_
      refine J.seq ?_
      refine J.region ?_
      refine JL.pure rfl rfl (OpP.move rfl) ?_
      refine JL.pure rfl rfl (OpP.notB rfl) ?_
      refine JL.pure rfl rfl (OpP.move rfl) ?_
      refine JL.pure rfl rfl (OpP.move rfl) ?_
      refine JL.pure rfl rfl (OpP.move rfl) ?_
      refine JL.splitAt 100 rfl (fun h100 => ?_) (fun h100 => ?_)
      focus
        refine JL.read rfl rfl (OpR.loadN rfl (Cells.full .head) rfl) ?_
        refine JL.pure rfl rfl (OpP.fieldAddr rfl) ?_
        refine JL.read rfl rfl (OpR.loadN rfl (Cells.sub 3 (.tail (.tail (.tail (.tail .head)))) rfl) rfl) ?_
      rotate_left 1
      focus
        refine JL.skip rfl rfl ?_
        refine JL.skip rfl rfl ?_
        refine JL.skip rfl rfl ?_
        refine JL.skip rfl rfl ?_
        refine JL.pure rfl rfl (OpP.pickF rfl rfl) ?_
        refine JL.pure rfl rfl (OpP.pickF rfl rfl) ?_
        refine JL.pure rfl rfl (OpP.assign rfl) ?_
        refine JL.nil ?_
        refine J.ret1 rfl rfl ?_
      rotate_left 1
    rotate_left 2
    · rfl
    · refine JL.step rfl rfl (OpW.call (first := []) (captured := []) inferInstance rfl rfl (Same_ok (d := ⟨e.an, .slice au1 e.dl.length cu1, .slice au2 e.al.length cu2, e.dl, e.al⟩) (e := last.d) ⟨RdO.own (.tail .head), RdO.own (.tail (.tail .head)), by assumption, by assumption⟩ (hlok.rd hlf))) ?_; rintro r104 _ ⟨rfl, rfl⟩
      refine JL.pure rfl rfl (OpP.pickT rfl rfl) ?_
      refine JL.pure rfl rfl (OpP.pickF rfl rfl) ?_
      refine JL.pure rfl rfl (OpP.assign rfl) ?_
      refine JL.nil ?_
      refine J.ret1 rfl rfl ?_
      obtain ⟨_, rfl⟩ := hlast e (List.mem_of_find?_eq_some h931) (by simpa [kE] using List.find?_some h931)
      simp [sameD, opE]
    · have q := (hlast e (List.mem_of_find?_eq_some h931) (by simpa [kE] using List.find?_some h931)).1
      subst q
      cases h100

theorem CacheLast_law {W : World} {a0 : Int} {a : Option Addr} {n c : Nat} {key : Str} (h0 : (Lit.int .u8 a0).wf = true) (h : Fm Try.prog W 68 [.slice a n c]) (_ : key.size ≤ 140737488351232) :
    Calls Try.prog 9 #[.int .u8 a0, .slice a n c, .string key] W fun e w' => e = .returned (.bool true) ∧ Below W.heap.size W w' := by
  obtain ⟨l, hl, _, hr⟩ := Fm.rows (f := ocl) (Q := fun o => o.Ok W) Try.underlying68 (sz := 8) (by kernel_rfl) (by decide) h fun cs _ hf => Fm.opC hf
  simp [Lit.wf, IntKind.min, IntKind.max, IntKind.signed, IntKind.bits] at h0
  exact FnO.law (args := [.int .u8 a0, .slice a n c, .string key]) (CacheLast_ok h0.1 h0.2 (hr []) fun o ho => (hl o ho).1) (Own.nil W)
end Go.Proofs.A
