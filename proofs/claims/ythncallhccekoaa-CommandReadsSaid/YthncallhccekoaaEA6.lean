/- A text of the proof of a statement about the given program: its part EA6. No person has read it. -/
import Derived.Test.YthncallhccekoaaEA5
import Derived.Test.YthncallhccekoaaEJ2
-- seat e
namespace Go.Proofs.E
open Go Go.Gp Go.RowKit

abbrev VRaw (w0 : World) (F : List HProp) (u : Va) : Prop := RdO w0 F (.slice u.a u.xs.length u.c) u.xs.length (u.xs.flatMap ecl)
/-- What a command is from outside. -/
structure CmRaw (w0 : World) (F : List HProp) (c : Cm) : Prop where
  v : VRaw w0 F c.row.v
  n : c.hs.length ≤ 9223372036854775807
  r : RdO w0 F (.slice c.ha c.hs.length c.hc) c.hs.length (c.hs.flatMap hcl)
  h : ∀ h ∈ c.hs, VRaw w0 F h.v
theorem CmRaw.conv {w0 : World} {F G : List HProp} {c : Cm} (hl : ∀ w, Own w0 w G → Own w0 w F) (h : CmRaw w0 F c) : CmRaw w0 G c := ⟨h.v.conv hl, h.n, h.r.conv hl, fun x hx => (h.h x hx).conv hl⟩
theorem CmRaw.sub {w0 : World} {F : List HProp} {A : HProp} {c : Cm} (h : CmRaw w0 F c) : CmRaw w0 (A :: F) c := h.conv fun _ h => h.tail
def FewH (h : Hd) : Prop := h.who.length ≤ 300 ∧ h.name.length ≤ 300 ∧ FewU h.v
structure FewC (c : Cm) : Prop where
  hn : c.hs.length ≤ 260
  text : c.text.length ≤ 5000
  a : c.a.length ≤ 5000
  b : c.b.length ≤ 5000
  who : c.row.who.length ≤ 500
  name : c.row.name.length ≤ 500
  attr : c.row.attr.length ≤ 500
  v : FewU c.row.v
  h : ∀ h ∈ c.hs, FewH h
theorem vOk_of {w0 : World} {F : List HProp} {u : Va} (hr : VRaw w0 F u) (hf : FewU u) : VOk w0 F u := by
  obtain ⟨h1, h2, h3⟩ := few_okE (k := u.k) (i := u.i) (s := u.s) (xs := u.xs) (a := u.a) (c := u.c) hf
  exact ⟨Nat.le_trans h2 (by decide), h1, h3, hr⟩
theorem CmRaw.ok {w0 : World} {F : List HProp} {c : Cm} (h : CmRaw w0 F c) (hf : FewC c) : CmOk w0 F c :=
  ⟨vOk_of h.v hf.v, ⟨h.n, fun x hx => vOk_of (h.h x hx) (hf.h x hx).2.2, h.r⟩⟩
theorem FewC.sz {c : Cm} (hf : FewC c) : CmSz c :=
  ⟨hf.text, Nat.le_trans hf.who (by decide), Nat.le_trans hf.name (by decide), Nat.le_trans hf.attr (by decide), hf.a, hf.b, fun h hh => ⟨Nat.le_trans (hf.h h hh).1 (by decide), Nat.le_trans (hf.h h hh).2.1 (by decide), (hf.h h hh).2.2⟩, hf.v⟩
theorem few1V {w0 : World} {F : List HProp} {b c : Nat} {u : Va} (hc : 1 ≤ c) (hr : Has (row b 29 (vac u)) F) (h1 : VRaw w0 F u) :
    FnO Try.prog w0 25 [.slice (some ⟨b, 0, none⟩) 1 c, .int .i64 1] F (fun r l' => ∃ b, r = .bool b ∧ l' = F ∧ (b = true → FewU u)) :=
  few1_ok (k := u.k) (i := u.i) (s := u.s) (xs := u.xs) (a := u.a) (c := u.c) (RdO.ofRow hr hc) h1
theorem few37_ok {w0 : World} {F : List HProp} {c : Cm} (hc : CmRaw w0 F c) :
    FnO Try.prog w0 37 [.agg c.cells.toArray] F (fun r l' => ∃ b, r = .bool b ∧ l' = F ∧ (b = true → FewC c)) := by
  have hlen : ∀ e ∈ c.hs, (hcl e).length = 6 := fun _ _ => rfl
  have hn := hc.n
  have pv := fun (A B : HProp) (b : Nat) (m : Nat) (hm : 1 ≤ m) (hr : Has (row b 29 (vac c.row.v)) (A :: B :: F)) => few1V (F := A :: B :: F) hm hr hc.v.sub.sub
  refine FnO.rdF (fun _ h => h) hc.r fun hd1 => ?_
  have e1 := strB_size c.text
  have e2 := strB_size c.a
  have e3 := strB_size c.b
  have e4 := strB_size c.row.who
  have e5 := strB_size c.row.name
  have e6 := strB_size c.row.attr
  refine FnO.weak ?_
  refine FnO.intro (n := 94) Try.func37 rfl rfl rfl ?_
  refine J.seq ?_
  refine J.region ?_
  refine JL.mem rfl rfl (OpM.box rfl rfl) ?_; rintro _ _ ⟨b1, rfl, rfl⟩
  refine JL.pure rfl rfl (OpP.assign rfl) ?_
  refine JL.nil ?_
  refine J.seq ?_
  refine J.seq ?_
  refine J.region ?_
  refine JL.pure rfl rfl (OpP.assign rfl) ?_
  refine JL.nil ?_
  refine J.block ?_
  refine J.loopI (fun j : Nat => c.hs.length - j) (fun j => j ≤ c.hs.length ∧ j ≤ 300 ∧ ∀ (m : Nat) (x : Hd), m < j → c.hs[m]? = some x → FewH x) (fun j => [(3, .int .i64 (j : Nat)), (1, .pointer (some ⟨b1, 0, none⟩))])
    (fun _ => row b1 66 c.cells :: F) 0 ⟨Nat.zero_le _, Nat.zero_le _, fun _ _ h => absurd h (Nat.not_lt_zero _)⟩ (by repeat (first | exact SubEnv.nil | refine SubEnv.cons (by first | rfl | exact congrArg (fun z => some (Value.int .i64 z)) (by omega) | (simp; done)) ?_)) (fun _ h => h) (fun j hi back => ?_)
  try dsimp only at hi back ⊢
  obtain ⟨hj, hj3, hg⟩ := hi
  by_cases hlt : j < c.hs.length ∧ j < 300
  · have hlt1 := hlt.1
    have hlt2 := hlt.2
    obtain ⟨x, hxj⟩ : ∃ e, c.hs[j]? = some e := ⟨_, List.getElem?_eq_getElem hlt1⟩
    have f1 := strB_size x.who
    have f2 := strB_size x.name
    have pb := fun (A B : HProp) (b : Nat) (m : Nat) (hm : 1 ≤ m) (hr : Has (row b 29 (vac x.v)) (A :: B :: F)) => few1V (F := A :: B :: F) hm hr (hc.h x (List.mem_of_getElem? hxj)).sub.sub
    obtain ⟨ga, pa, qa, ea, ka, hcs⟩ := hd1.pos (by omega)
    refine J.conv (l' := row b1 66 (c.cellsAt (.slice (some ⟨ga, pa, none⟩) c.hs.length qa)) :: F) (fun _ h => by rw [← ea]; exact h) ?_
    rw [ea] at hd1
    refine J.seq ?_
    refine J.seq ?_
    refine J.region ?_
    refine JL.pure rfl rfl (OpP.move rfl) ?_
    refine JL.pure rfl rfl (OpP.fieldAddr rfl) ?_
    refine JL.read rfl rfl (OpR.load1 rfl (Cell.row .head rfl)) ?_
    refine JL.pure rfl rfl (OpP.len rfl rfl) ?_
    refine JL.decT rfl rfl (OpP.lss rfl rfl) (by omega) ?_
    refine JL.pure rfl rfl (OpP.move rfl) ?_
    refine JL.pure rfl rfl (OpP.move rfl) ?_
    refine JL.decT rfl rfl (OpP.lss rfl rfl) (by omega) ?_
    refine JL.pure rfl rfl (OpP.pickT rfl rfl) ?_
    refine JL.nil ?_
    refine J.condT rfl ?_
    refine J.skip ?_
    refine J.seq ?_
    refine J.block ?_
    refine J.seq ?_
    refine J.region ?_
    refine JL.pure rfl rfl (OpP.fieldAddr rfl) ?_
    refine JL.read rfl rfl (OpR.load1 rfl (Cell.row .head rfl)) ?_
    refine JL.pure rfl rfl (OpP.move rfl) ?_
    refine JL.pure rfl rfl (OpP.indexAddr rfl rfl (by omega) (by omega)) ?_
    refine JL.pure rfl rfl (OpP.fieldAddr rfl) ?_
    refine JL.read rfl rfl (OpR.load1 rfl (by apply Cells.cellChunk (j := 0) hcs (fun _ h => Own.pick (pre := [_]) [] rfl h); (case' h => assumption); (case' hi => assumption); (case' hv => rfl); (case' ho => omega); done)) ?_
    refine JL.pure rfl rfl (OpP.lenStr rfl rfl) ?_
    refine JL.dec rfl rfl (OpP.gtr rfl rfl) (fun h22 => ?_) (fun h22 => ?_)
    focus
      refine JL.pure rfl rfl (OpP.move rfl) ?_
      refine JL.skip rfl rfl ?_
      refine JL.skip rfl rfl ?_
      refine JL.skip rfl rfl ?_
      refine JL.skip rfl rfl ?_
      refine JL.skip rfl rfl ?_
      refine JL.skip rfl rfl ?_
      refine JL.skip rfl rfl ?_
      refine JL.skip rfl rfl ?_
      refine JL.pure rfl rfl (OpP.pickT rfl rfl) ?_
      refine JL.pure rfl rfl (OpP.move rfl) ?_
      refine JL.skip rfl rfl ?_
      refine JL.skip rfl rfl ?_
      refine JL.skip rfl rfl ?_
      refine JL.skip rfl rfl ?_
      refine JL.skip rfl rfl ?_
      refine JL.skip rfl rfl ?_
      refine JL.skip rfl rfl ?_
      refine JL.skip rfl rfl ?_
      refine JL.skip rfl rfl ?_
      refine JL.pure rfl rfl (OpP.pickT rfl rfl) ?_
      refine JL.nil ?_
      refine J.condT rfl ?_
      refine J.seq ?_
      refine J.region ?_
      refine JL.pure rfl rfl (OpP.assign rfl) ?_
      refine JL.nil ?_
      refine J.ret1 rfl rfl ?_
    rotate_left 1
    focus
      refine JL.pure rfl rfl (OpP.move rfl) ?_
      refine JL.pure rfl rfl (OpP.fieldAddr rfl) ?_
      refine JL.read rfl rfl (OpR.load1 rfl (Cell.row .head rfl)) ?_
      refine JL.pure rfl rfl (OpP.move rfl) ?_
      refine JL.pure rfl rfl (OpP.indexAddr rfl rfl (by omega) (by omega)) ?_
      refine JL.pure rfl rfl (OpP.fieldAddr rfl) ?_
      refine JL.read rfl rfl (OpR.load1 rfl (by apply Cells.cellChunk (j := 1) hcs (fun _ h => Own.pick (pre := [_]) [] rfl h); (case' h => assumption); (case' hi => assumption); (case' hv => rfl); (case' ho => omega); done)) ?_
      refine JL.pure rfl rfl (OpP.lenStr rfl rfl) ?_
      refine JL.dec rfl rfl (OpP.gtr rfl rfl) (fun h31 => ?_) (fun h31 => ?_)
      focus
        refine JL.pure rfl rfl (OpP.pickF rfl rfl) ?_
        refine JL.pure rfl rfl (OpP.move rfl) ?_
        refine JL.skip rfl rfl ?_
        refine JL.skip rfl rfl ?_
        refine JL.skip rfl rfl ?_
        refine JL.skip rfl rfl ?_
        refine JL.skip rfl rfl ?_
        refine JL.skip rfl rfl ?_
        refine JL.skip rfl rfl ?_
        refine JL.skip rfl rfl ?_
        refine JL.skip rfl rfl ?_
        refine JL.pure rfl rfl (OpP.pickT rfl rfl) ?_
        refine JL.nil ?_
        refine J.condT rfl ?_
        refine J.seq ?_
        refine J.region ?_
        refine JL.pure rfl rfl (OpP.assign rfl) ?_
        refine JL.nil ?_
        refine J.ret1 rfl rfl ?_
      rotate_left 1
      focus
        refine JL.pure rfl rfl (OpP.pickF rfl rfl) ?_
        refine JL.pure rfl rfl (OpP.move rfl) ?_
        refine JL.pure rfl rfl (OpP.fieldAddr rfl) ?_
        refine JL.read rfl rfl (OpR.load1 rfl (Cell.row .head rfl)) ?_
        refine JL.pure rfl rfl (OpP.move rfl) ?_
        refine JL.pure rfl rfl (OpP.indexAddr rfl rfl (by omega) (by omega)) ?_
        refine JL.pure rfl rfl (OpP.fieldAddr rfl) ?_
        refine JL.read rfl rfl (OpR.loadN rfl (by apply Cells.chunkSub (j := 2) (m := 4) hcs (fun _ h => Own.pick (pre := [_]) [] rfl h); (case' h => assumption); (case' hi => assumption); (case' hv => rfl); (case' ho => omega); done) (by rfl)) ?_
        refine JL.mem rfl rfl (by apply OpM.buildSlice (by rfl) rfl (by rfl); (repeat (first | exact Fills.nil | (apply Fills.cons rfl rfl rfl; (case' hs => ((repeat (first | exact Spl.nil | apply Spl.here | apply Spl.there)); done)))))) ?_; rintro _ _ ⟨b40, rfl, rfl⟩
        refine JL.step rfl rfl (OpW.call (first := []) (captured := []) inferInstance rfl rfl (pb _ _ _ _ (by omega) (by first | exact .head | exact .tail .head))) ?_; rintro r41 _ ⟨b, ⟨rfl, ⟨rfl, h41⟩⟩⟩
        refine JL.pure rfl rfl (OpP.notB rfl) ?_
        refine JL.pure rfl rfl (OpP.pickF rfl rfl) ?_
        refine JL.nil ?_
        refine J.splitAt 43 rfl (fun h43 => ?_) (fun h43 => ?_)
        focus
          refine J.condT rfl ?_
          refine J.seq ?_
          refine J.region ?_
          refine JL.pure rfl rfl (OpP.assign rfl) ?_
          refine JL.nil ?_
          refine J.ret1 rfl rfl ?_
        rotate_left 1
        focus
          refine J.condF rfl ?_
          refine J.skip ?_
          refine J.inBlock ?_
          refine J.region ?_
          refine JL.pure rfl rfl (OpP.move rfl) ?_
          refine JL.pure rfl rfl (OpP.addI rfl rfl (by omega) (by omega)) ?_
          refine JL.pure rfl rfl (OpP.assign rfl) ?_
          refine JL.nil ?_
        rotate_left 1
      rotate_left 2
    rotate_left 3
    · exact ⟨_, ⟨_, rfl, rfl, fun q => absurd q Bool.false_ne_true⟩, fun _ h => h.tail⟩
    · exact ⟨_, ⟨_, rfl, rfl, fun q => absurd q Bool.false_ne_true⟩, fun _ h => h.tail⟩
    · exact ⟨_, ⟨_, rfl, rfl, fun q => absurd q Bool.false_ne_true⟩, fun _ h => h.tail.tail⟩
    · have hxy : FewH x := ⟨by omega, by omega, h41 (by cases b <;> first | rfl | cases h43)⟩
      refine back (j + 1) ⟨by omega, by omega, fun m x' hm hx' => ?_⟩ (by omega) (by repeat (first | exact SubEnv.nil | refine SubEnv.cons (by first | rfl | exact congrArg (fun z => some (Value.int .i64 z)) (by omega) | (simp; done)) ?_)) (fun _ h => by rw [← ea] at h; exact h.tail)
      rcases Nat.lt_or_ge m j with hmj | hmj
      · exact hg m x' hmj hx'
      · obtain rfl : m = j := by omega
        obtain rfl : x' = x := Option.some.inj (hx'.symm.trans hxj)
        exact hxy
  by_cases hlt2 : j < c.hs.length
  · refine J.seq ?_
    refine J.seq ?_
    refine J.region ?_
    refine JL.pure rfl rfl (OpP.move rfl) ?_
    refine JL.pure rfl rfl (OpP.fieldAddr rfl) ?_
    refine JL.read rfl rfl (OpR.load1 rfl (Cell.row .head rfl)) ?_
    refine JL.pure rfl rfl (OpP.len rfl rfl) ?_
    refine JL.decT rfl rfl (OpP.lss rfl rfl) (by omega) ?_
    refine JL.pure rfl rfl (OpP.move rfl) ?_
    refine JL.pure rfl rfl (OpP.move rfl) ?_
    refine JL.decF rfl rfl (OpP.lss rfl rfl) (by omega) ?_
    refine JL.pure rfl rfl (OpP.pickT rfl rfl) ?_
    refine JL.nil ?_
    refine J.condF rfl ?_
    refine J.exit rfl ?_
    refine J.seq ?_
    refine J.region ?_
    refine JL.pure rfl rfl (OpP.fieldAddr rfl) ?_
    refine JL.read rfl rfl (OpR.load1 rfl (Cell.row .head rfl)) ?_
    refine JL.pure rfl rfl (OpP.len rfl rfl) ?_
    refine JL.decF rfl rfl (OpP.leq rfl rfl) (by omega) ?_
    refine JL.pure rfl rfl (OpP.move rfl) ?_
    refine JL.skip rfl rfl ?_
    refine JL.skip rfl rfl ?_
    refine JL.skip rfl rfl ?_
    refine JL.skip rfl rfl ?_
    refine JL.pure rfl rfl (OpP.pickF rfl rfl) ?_
    refine JL.pure rfl rfl (OpP.move rfl) ?_
    refine JL.skip rfl rfl ?_
    refine JL.skip rfl rfl ?_
    refine JL.skip rfl rfl ?_
    refine JL.skip rfl rfl ?_
    refine JL.pure rfl rfl (OpP.pickF rfl rfl) ?_
    refine JL.pure rfl rfl (OpP.move rfl) ?_
    refine JL.skip rfl rfl ?_
    refine JL.skip rfl rfl ?_
    refine JL.skip rfl rfl ?_
    refine JL.skip rfl rfl ?_
    refine JL.pure rfl rfl (OpP.pickF rfl rfl) ?_
    refine JL.pure rfl rfl (OpP.move rfl) ?_
    refine JL.skip rfl rfl ?_
    refine JL.skip rfl rfl ?_
    refine JL.skip rfl rfl ?_
    refine JL.skip rfl rfl ?_
    refine JL.skip rfl rfl ?_
    refine JL.pure rfl rfl (OpP.pickF rfl rfl) ?_
    refine JL.pure rfl rfl (OpP.move rfl) ?_
    refine JL.skip rfl rfl ?_
    refine JL.skip rfl rfl ?_
    refine JL.skip rfl rfl ?_
    refine JL.skip rfl rfl ?_
    refine JL.skip rfl rfl ?_
    refine JL.pure rfl rfl (OpP.pickF rfl rfl) ?_
    refine JL.pure rfl rfl (OpP.move rfl) ?_
    refine JL.skip rfl rfl ?_
    refine JL.skip rfl rfl ?_
    refine JL.skip rfl rfl ?_
    refine JL.skip rfl rfl ?_
    refine JL.skip rfl rfl ?_
    refine JL.pure rfl rfl (OpP.pickF rfl rfl) ?_
    refine JL.pure rfl rfl (OpP.move rfl) ?_
    refine JL.skip rfl rfl ?_
    refine JL.skip rfl rfl ?_
    refine JL.skip rfl rfl ?_
    refine JL.skip rfl rfl ?_
    refine JL.skip rfl rfl ?_
    refine JL.pure rfl rfl (OpP.pickF rfl rfl) ?_
    refine JL.pure rfl rfl (OpP.assign rfl) ?_
    refine JL.nil ?_
    refine J.ret1 rfl rfl ?_
    all_goals exact ⟨_, ⟨_, rfl, rfl, fun q => absurd q Bool.false_ne_true⟩, fun _ h => h.tail⟩
  · refine J.seq ?_
    refine J.seq ?_
    refine J.region ?_
    refine JL.pure rfl rfl (OpP.move rfl) ?_
    refine JL.pure rfl rfl (OpP.fieldAddr rfl) ?_
    refine JL.read rfl rfl (OpR.load1 rfl (Cell.row .head rfl)) ?_
    refine JL.pure rfl rfl (OpP.len rfl rfl) ?_
    refine JL.decF rfl rfl (OpP.lss rfl rfl) (by omega) ?_
    refine JL.pure rfl rfl (OpP.move rfl) ?_
    refine JL.skip rfl rfl ?_
    refine JL.skip rfl rfl ?_
    refine JL.pure rfl rfl (OpP.pickF rfl rfl) ?_
    refine JL.nil ?_
    refine J.condF rfl ?_
    refine J.exit rfl ?_
    refine J.seq ?_
    refine J.region ?_
    refine JL.pure rfl rfl (OpP.fieldAddr rfl) ?_
    refine JL.read rfl rfl (OpR.load1 rfl (Cell.row .head rfl)) ?_
    refine JL.pure rfl rfl (OpP.len rfl rfl) ?_
    refine JL.dec rfl rfl (OpP.leq rfl rfl) (fun h47 => ?_) (fun h47 => ?_)
    focus
      refine JL.pure rfl rfl (OpP.move rfl) ?_
      refine JL.pure rfl rfl (OpP.fieldAddr rfl) ?_
      refine JL.read rfl rfl (OpR.load1 rfl (Cell.row .head rfl)) ?_
      refine JL.pure rfl rfl (OpP.lenStr rfl rfl) ?_
      refine JL.dec rfl rfl (OpP.leq rfl rfl) (fun h52 => ?_) (fun h52 => ?_)
      focus
        refine JL.pure rfl rfl (OpP.pickT rfl rfl) ?_
        refine JL.pure rfl rfl (OpP.move rfl) ?_
        refine JL.pure rfl rfl (OpP.fieldAddr rfl) ?_
        refine JL.read rfl rfl (OpR.load1 rfl (Cell.row .head rfl)) ?_
        refine JL.pure rfl rfl (OpP.lenStr rfl rfl) ?_
        refine JL.dec rfl rfl (OpP.leq rfl rfl) (fun h58 => ?_) (fun h58 => ?_)
        focus
          refine JL.pure rfl rfl (OpP.pickT rfl rfl) ?_
          refine JL.pure rfl rfl (OpP.move rfl) ?_
          refine JL.pure rfl rfl (OpP.fieldAddr rfl) ?_
          refine JL.read rfl rfl (OpR.load1 rfl (Cell.row .head rfl)) ?_
          refine JL.pure rfl rfl (OpP.lenStr rfl rfl) ?_
          refine JL.dec rfl rfl (OpP.leq rfl rfl) (fun h64 => ?_) (fun h64 => ?_)
          focus
            refine JL.pure rfl rfl (OpP.pickT rfl rfl) ?_
            refine JL.pure rfl rfl (OpP.move rfl) ?_
            refine JL.pure rfl rfl (OpP.fieldAddr rfl) ?_
            refine JL.pure rfl rfl (OpP.fieldAddr rfl) ?_
            refine JL.read rfl rfl (OpR.load1 rfl (Cell.row .head rfl)) ?_
            refine JL.pure rfl rfl (OpP.lenStr rfl rfl) ?_
            refine JL.dec rfl rfl (OpP.leq rfl rfl) (fun h71 => ?_) (fun h71 => ?_)
            focus
              refine JL.pure rfl rfl (OpP.pickT rfl rfl) ?_
              refine JL.pure rfl rfl (OpP.move rfl) ?_
              refine JL.pure rfl rfl (OpP.fieldAddr rfl) ?_
              refine JL.pure rfl rfl (OpP.fieldAddr rfl) ?_
              refine JL.read rfl rfl (OpR.load1 rfl (Cell.row .head rfl)) ?_
              refine JL.pure rfl rfl (OpP.lenStr rfl rfl) ?_
              refine JL.dec rfl rfl (OpP.leq rfl rfl) (fun h78 => ?_) (fun h78 => ?_)
              focus
                refine JL.pure rfl rfl (OpP.pickT rfl rfl) ?_
                refine JL.pure rfl rfl (OpP.move rfl) ?_
                refine JL.pure rfl rfl (OpP.fieldAddr rfl) ?_
                refine JL.pure rfl rfl (OpP.fieldAddr rfl) ?_
                refine JL.read rfl rfl (OpR.load1 rfl (Cell.row .head rfl)) ?_
                refine JL.pure rfl rfl (OpP.lenStr rfl rfl) ?_
                refine JL.dec rfl rfl (OpP.leq rfl rfl) (fun h85 => ?_) (fun h85 => ?_)
                focus
                  refine JL.pure rfl rfl (OpP.pickT rfl rfl) ?_
                  refine JL.pure rfl rfl (OpP.move rfl) ?_
                  refine JL.pure rfl rfl (OpP.fieldAddr rfl) ?_
                  refine JL.pure rfl rfl (OpP.fieldAddr rfl) ?_
                  refine JL.read rfl rfl (OpR.loadN rfl (Cells.sub 4 .head rfl) rfl) ?_
                  refine JL.mem rfl rfl (by apply OpM.buildSlice (by rfl) rfl (by rfl); (repeat (first | exact Fills.nil | (apply Fills.cons rfl rfl rfl; (case' hs => ((repeat (first | exact Spl.nil | apply Spl.here | apply Spl.there)); done)))))) ?_; rintro _ _ ⟨b91, rfl, rfl⟩
                  refine JL.step rfl rfl (OpW.call (first := []) (captured := []) inferInstance rfl rfl (pv _ _ _ _ (by omega) (by first | exact .head | exact .tail .head))) ?_; rintro r92 _ ⟨b, ⟨rfl, ⟨rfl, h92⟩⟩⟩
                  refine JL.pure rfl rfl (OpP.pickT rfl rfl) ?_
                  refine JL.pure rfl rfl (OpP.assign rfl) ?_
                  refine JL.nil ?_
                  refine J.ret1 rfl rfl ?_
                rotate_left 1
                focus
                  refine JL.pure rfl rfl (OpP.pickT rfl rfl) ?_
                  refine JL.pure rfl rfl (OpP.move rfl) ?_
                  refine JL.skip rfl rfl ?_
                  refine JL.skip rfl rfl ?_
                  refine JL.skip rfl rfl ?_
                  refine JL.skip rfl rfl ?_
                  refine JL.skip rfl rfl ?_
                  refine JL.pure rfl rfl (OpP.pickF rfl rfl) ?_
                  refine JL.pure rfl rfl (OpP.assign rfl) ?_
                  refine JL.nil ?_
                  refine J.ret1 rfl rfl ?_
                rotate_left 1
              rotate_left 2
              focus
                refine JL.pure rfl rfl (OpP.pickT rfl rfl) ?_
                refine JL.pure rfl rfl (OpP.move rfl) ?_
                refine JL.skip rfl rfl ?_
                refine JL.skip rfl rfl ?_
                refine JL.skip rfl rfl ?_
                refine JL.skip rfl rfl ?_
                refine JL.skip rfl rfl ?_
                refine JL.pure rfl rfl (OpP.pickF rfl rfl) ?_
                refine JL.pure rfl rfl (OpP.move rfl) ?_
                refine JL.skip rfl rfl ?_
                refine JL.skip rfl rfl ?_
                refine JL.skip rfl rfl ?_
                refine JL.skip rfl rfl ?_
                refine JL.skip rfl rfl ?_
                refine JL.pure rfl rfl (OpP.pickF rfl rfl) ?_
                refine JL.pure rfl rfl (OpP.assign rfl) ?_
                refine JL.nil ?_
                refine J.ret1 rfl rfl ?_
              rotate_left 1
            rotate_left 3
            focus
              refine JL.pure rfl rfl (OpP.pickT rfl rfl) ?_
              refine JL.pure rfl rfl (OpP.move rfl) ?_
              refine JL.skip rfl rfl ?_
              refine JL.skip rfl rfl ?_
              refine JL.skip rfl rfl ?_
              refine JL.skip rfl rfl ?_
              refine JL.skip rfl rfl ?_
              refine JL.pure rfl rfl (OpP.pickF rfl rfl) ?_
              refine JL.pure rfl rfl (OpP.move rfl) ?_
              refine JL.skip rfl rfl ?_
              refine JL.skip rfl rfl ?_
              refine JL.skip rfl rfl ?_
              refine JL.skip rfl rfl ?_
              refine JL.skip rfl rfl ?_
              refine JL.pure rfl rfl (OpP.pickF rfl rfl) ?_
              refine JL.pure rfl rfl (OpP.move rfl) ?_
              refine JL.skip rfl rfl ?_
              refine JL.skip rfl rfl ?_
              refine JL.skip rfl rfl ?_
              refine JL.skip rfl rfl ?_
              refine JL.skip rfl rfl ?_
              refine JL.pure rfl rfl (OpP.pickF rfl rfl) ?_
              refine JL.pure rfl rfl (OpP.assign rfl) ?_
              refine JL.nil ?_
              refine J.ret1 rfl rfl ?_
            rotate_left 1
          rotate_left 4
          focus
            refine JL.pure rfl rfl (OpP.pickT rfl rfl) ?_
            refine JL.pure rfl rfl (OpP.move rfl) ?_
            refine JL.skip rfl rfl ?_
            refine JL.skip rfl rfl ?_
            refine JL.skip rfl rfl ?_
            refine JL.skip rfl rfl ?_
            refine JL.skip rfl rfl ?_
            refine JL.pure rfl rfl (OpP.pickF rfl rfl) ?_
            refine JL.pure rfl rfl (OpP.move rfl) ?_
            refine JL.skip rfl rfl ?_
            refine JL.skip rfl rfl ?_
            refine JL.skip rfl rfl ?_
            refine JL.skip rfl rfl ?_
            refine JL.skip rfl rfl ?_
            refine JL.pure rfl rfl (OpP.pickF rfl rfl) ?_
            refine JL.pure rfl rfl (OpP.move rfl) ?_
            refine JL.skip rfl rfl ?_
            refine JL.skip rfl rfl ?_
            refine JL.skip rfl rfl ?_
            refine JL.skip rfl rfl ?_
            refine JL.skip rfl rfl ?_
            refine JL.pure rfl rfl (OpP.pickF rfl rfl) ?_
            refine JL.pure rfl rfl (OpP.move rfl) ?_
            refine JL.skip rfl rfl ?_
            refine JL.skip rfl rfl ?_
            refine JL.skip rfl rfl ?_
            refine JL.skip rfl rfl ?_
            refine JL.skip rfl rfl ?_
            refine JL.pure rfl rfl (OpP.pickF rfl rfl) ?_
            refine JL.pure rfl rfl (OpP.assign rfl) ?_
            refine JL.nil ?_
            refine J.ret1 rfl rfl ?_
          rotate_left 1
        rotate_left 5
        focus
          refine JL.pure rfl rfl (OpP.pickT rfl rfl) ?_
          refine JL.pure rfl rfl (OpP.move rfl) ?_
          refine JL.skip rfl rfl ?_
          refine JL.skip rfl rfl ?_
          refine JL.skip rfl rfl ?_
          refine JL.skip rfl rfl ?_
          refine JL.pure rfl rfl (OpP.pickF rfl rfl) ?_
          refine JL.pure rfl rfl (OpP.move rfl) ?_
          refine JL.skip rfl rfl ?_
          refine JL.skip rfl rfl ?_
          refine JL.skip rfl rfl ?_
          refine JL.skip rfl rfl ?_
          refine JL.skip rfl rfl ?_
          refine JL.pure rfl rfl (OpP.pickF rfl rfl) ?_
          refine JL.pure rfl rfl (OpP.move rfl) ?_
          refine JL.skip rfl rfl ?_
          refine JL.skip rfl rfl ?_
          refine JL.skip rfl rfl ?_
          refine JL.skip rfl rfl ?_
          refine JL.skip rfl rfl ?_
          refine JL.pure rfl rfl (OpP.pickF rfl rfl) ?_
          refine JL.pure rfl rfl (OpP.move rfl) ?_
          refine JL.skip rfl rfl ?_
          refine JL.skip rfl rfl ?_
          refine JL.skip rfl rfl ?_
          refine JL.skip rfl rfl ?_
          refine JL.skip rfl rfl ?_
          refine JL.pure rfl rfl (OpP.pickF rfl rfl) ?_
          refine JL.pure rfl rfl (OpP.move rfl) ?_
          refine JL.skip rfl rfl ?_
          refine JL.skip rfl rfl ?_
          refine JL.skip rfl rfl ?_
          refine JL.skip rfl rfl ?_
          refine JL.skip rfl rfl ?_
          refine JL.pure rfl rfl (OpP.pickF rfl rfl) ?_
          refine JL.pure rfl rfl (OpP.assign rfl) ?_
          refine JL.nil ?_
          refine J.ret1 rfl rfl ?_
        rotate_left 1
      rotate_left 6
      focus
        refine JL.pure rfl rfl (OpP.pickT rfl rfl) ?_
        refine JL.pure rfl rfl (OpP.move rfl) ?_
        refine JL.skip rfl rfl ?_
        refine JL.skip rfl rfl ?_
        refine JL.skip rfl rfl ?_
        refine JL.skip rfl rfl ?_
        refine JL.pure rfl rfl (OpP.pickF rfl rfl) ?_
        refine JL.pure rfl rfl (OpP.move rfl) ?_
        refine JL.skip rfl rfl ?_
        refine JL.skip rfl rfl ?_
        refine JL.skip rfl rfl ?_
        refine JL.skip rfl rfl ?_
        refine JL.pure rfl rfl (OpP.pickF rfl rfl) ?_
        refine JL.pure rfl rfl (OpP.move rfl) ?_
        refine JL.skip rfl rfl ?_
        refine JL.skip rfl rfl ?_
        refine JL.skip rfl rfl ?_
        refine JL.skip rfl rfl ?_
        refine JL.skip rfl rfl ?_
        refine JL.pure rfl rfl (OpP.pickF rfl rfl) ?_
        refine JL.pure rfl rfl (OpP.move rfl) ?_
        refine JL.skip rfl rfl ?_
        refine JL.skip rfl rfl ?_
        refine JL.skip rfl rfl ?_
        refine JL.skip rfl rfl ?_
        refine JL.skip rfl rfl ?_
        refine JL.pure rfl rfl (OpP.pickF rfl rfl) ?_
        refine JL.pure rfl rfl (OpP.move rfl) ?_
        refine JL.skip rfl rfl ?_
        refine JL.skip rfl rfl ?_
        refine JL.skip rfl rfl ?_
        refine JL.skip rfl rfl ?_
        refine JL.skip rfl rfl ?_
        refine JL.pure rfl rfl (OpP.pickF rfl rfl) ?_
        refine JL.pure rfl rfl (OpP.move rfl) ?_
        refine JL.skip rfl rfl ?_
        refine JL.skip rfl rfl ?_
        refine JL.skip rfl rfl ?_
        refine JL.skip rfl rfl ?_
        refine JL.skip rfl rfl ?_
        refine JL.pure rfl rfl (OpP.pickF rfl rfl) ?_
        refine JL.pure rfl rfl (OpP.assign rfl) ?_
        refine JL.nil ?_
        refine J.ret1 rfl rfl ?_
      rotate_left 1
    rotate_left 7
    focus
      refine JL.pure rfl rfl (OpP.move rfl) ?_
      refine JL.skip rfl rfl ?_
      refine JL.skip rfl rfl ?_
      refine JL.skip rfl rfl ?_
      refine JL.skip rfl rfl ?_
      refine JL.pure rfl rfl (OpP.pickF rfl rfl) ?_
      refine JL.pure rfl rfl (OpP.move rfl) ?_
      refine JL.skip rfl rfl ?_
      refine JL.skip rfl rfl ?_
      refine JL.skip rfl rfl ?_
      refine JL.skip rfl rfl ?_
      refine JL.pure rfl rfl (OpP.pickF rfl rfl) ?_
      refine JL.pure rfl rfl (OpP.move rfl) ?_
      refine JL.skip rfl rfl ?_
      refine JL.skip rfl rfl ?_
      refine JL.skip rfl rfl ?_
      refine JL.skip rfl rfl ?_
      refine JL.pure rfl rfl (OpP.pickF rfl rfl) ?_
      refine JL.pure rfl rfl (OpP.move rfl) ?_
      refine JL.skip rfl rfl ?_
      refine JL.skip rfl rfl ?_
      refine JL.skip rfl rfl ?_
      refine JL.skip rfl rfl ?_
      refine JL.skip rfl rfl ?_
      refine JL.pure rfl rfl (OpP.pickF rfl rfl) ?_
      refine JL.pure rfl rfl (OpP.move rfl) ?_
      refine JL.skip rfl rfl ?_
      refine JL.skip rfl rfl ?_
      refine JL.skip rfl rfl ?_
      refine JL.skip rfl rfl ?_
      refine JL.skip rfl rfl ?_
      refine JL.pure rfl rfl (OpP.pickF rfl rfl) ?_
      refine JL.pure rfl rfl (OpP.move rfl) ?_
      refine JL.skip rfl rfl ?_
      refine JL.skip rfl rfl ?_
      refine JL.skip rfl rfl ?_
      refine JL.skip rfl rfl ?_
      refine JL.skip rfl rfl ?_
      refine JL.pure rfl rfl (OpP.pickF rfl rfl) ?_
      refine JL.pure rfl rfl (OpP.move rfl) ?_
      refine JL.skip rfl rfl ?_
      refine JL.skip rfl rfl ?_
      refine JL.skip rfl rfl ?_
      refine JL.skip rfl rfl ?_
      refine JL.skip rfl rfl ?_
      refine JL.pure rfl rfl (OpP.pickF rfl rfl) ?_
      refine JL.pure rfl rfl (OpP.assign rfl) ?_
      refine JL.nil ?_
      refine J.ret1 rfl rfl ?_
    rotate_left 1
    · exact ⟨_, ⟨_, rfl, rfl, fun q => ⟨by omega, by omega, by omega, by omega, by omega, by omega, by omega, h92 q, fun x hx => by obtain ⟨m, hm⟩ := List.getElem?_of_mem hx; exact hg m x (by have := (List.getElem?_eq_some_iff.1 hm).1; omega) hm⟩⟩, fun _ h => h.tail.tail⟩
    all_goals exact ⟨_, ⟨_, rfl, rfl, fun q => absurd q Bool.false_ne_true⟩, fun _ h => h.tail⟩
end Go.Proofs.E

-- seat e
namespace Go.Proofs.E
open Go Go.Gp Go.RowKit

/-- Numbers are in range. -/
structure CmRng (c : Cm) : Prop where
  t : -9223372036854775808 ≤ c.t ∧ c.t ≤ 9223372036854775807
  v : InR c.row.v.i c.row.v.xs
  h : ∀ h ∈ c.hs, InR h.v.i h.v.xs
theorem Fm.had {w0 : World} {cs : List Value} (h : Fm Try.prog w0 99 cs) : ∃ x : Hd, (InR x.v.i x.v.xs ∧ ∀ l, VRaw w0 l x.v) ∧ cs = hcl x := by
  have h := h.fields (l := [(9, 1), (9, 1), (29, 4)]) (by kernel_rfl)
  obtain ⟨c0, cs, rfl, f0, h⟩ := h.one
  obtain ⟨c1, cs, rfl, f1, h⟩ := h.one
  obtain ⟨d, cs, rfl, _, f2, h⟩ := h.many
  cases h
  obtain ⟨who, e0, _⟩ := f0.str (by kernel_rfl)
  obtain ⟨name, e1, _⟩ := f1.str (by kernel_rfl)
  obtain ⟨k, i, s, a, c, xs, hI, e, hr⟩ := Fm.val f2
  cases e0; cases e1; subst e
  exact ⟨⟨who.data.toList, name.data.toList, ⟨k, i, s, xs, a, c⟩⟩, ⟨hI, fun l => (hr l).o⟩, by simp [hcl, vcl, strB]⟩
theorem Fm.cmd {w0 : World} {cs : List Value} (h : Fm Try.prog w0 66 cs) : ∃ c : Cm, (∀ l, CmRaw w0 l c) ∧ CmRng c ∧ cs = c.cells := by
  have h := h.fields (l := [(3, 1), (9, 1), (63, 7), (9, 1), (9, 1), (3, 1), (2, 1), (64, 1)]) (by kernel_rfl)
  obtain ⟨c0, cs, rfl, f0, h⟩ := h.one
  obtain ⟨c1, cs, rfl, f1, h⟩ := h.one
  obtain ⟨d, cs, rfl, _, f2, h⟩ := h.many
  obtain ⟨c3, cs, rfl, f3, h⟩ := h.one
  obtain ⟨c4, cs, rfl, f4, h⟩ := h.one
  obtain ⟨c5, cs, rfl, f5, h⟩ := h.one
  obtain ⟨c6, cs, rfl, f6, h⟩ := h.one
  obtain ⟨c7, cs, rfl, f7, h⟩ := h.one
  cases h
  have h := f2.fields (l := [(9, 1), (9, 1), (9, 1), (29, 4)]) (by kernel_rfl)
  obtain ⟨r0, cs, rfl, g0, h⟩ := h.one
  obtain ⟨r1, cs, rfl, g1, h⟩ := h.one
  obtain ⟨r2, cs, rfl, g2, h⟩ := h.one
  obtain ⟨d2, cs, rfl, _, g3, h⟩ := h.many
  cases h
  obtain ⟨kind, e0, _⟩ := f0.int (k := .i64) (by kernel_rfl)
  obtain ⟨text, e1, _⟩ := f1.str (by kernel_rfl)
  obtain ⟨who, j0, _⟩ := g0.str (by kernel_rfl)
  obtain ⟨name, j1, _⟩ := g1.str (by kernel_rfl)
  obtain ⟨attr, j2, _⟩ := g2.str (by kernel_rfl)
  obtain ⟨k, i, s, a, c, xs, hI, e, hr⟩ := Fm.val g3
  obtain ⟨ca, e3, _⟩ := f3.str (by kernel_rfl)
  obtain ⟨cb, e4, _⟩ := f4.str (by kernel_rfl)
  obtain ⟨n, e5, _⟩ := f5.int (k := .i64) (by kernel_rfl)
  obtain ⟨t, e6, k6⟩ := f6.int (k := .i64) (by kernel_rfl)
  simp [Lit.wf, IntKind.min, IntKind.max, IntKind.signed, IntKind.bits] at k6
  obtain ⟨hs, hp, hm, hrs⟩ := Fm.rows (f := hcl) (Q := fun x => InR x.v.i x.v.xs ∧ ∀ l, VRaw w0 l x.v) (e := 99) (by kernel_rfl) (sz := 6) (by kernel_rfl) (by decide) f7 fun cs _ hf => Fm.had hf
  obtain ⟨ha, hc, e7⟩ := (hrs []).lit
  have hm2 : maxLen ≤ 9223372036854775807 := by decide
  cases e0; cases e1; cases j0; cases j1; cases j2; cases e3; cases e4; cases e5; cases e6; subst e; subst e7
  exact ⟨⟨kind, text.data.toList, ⟨who.data.toList, name.data.toList, attr.data.toList, ⟨k, i, s, xs, a, c⟩⟩, ca.data.toList, cb.data.toList, n, t, hs, ha, hc⟩, fun l => ⟨(hr l).o, by dsimp only; omega, (hrs l).o, fun x hx => (hp x hx).1.2 l⟩, ⟨k6, hI, fun x hx => (hp x hx).1.1⟩, by simp [vcl, strB]⟩
end Go.Proofs.E

-- seat e
namespace Go.Proofs.E
open Go Go.Gp Go.RowKit

theorem had_len (hs : List Hd) : (hs.flatMap hadP).length = 3 * hs.length := by
  induction hs with
  | nil => rfl
  | cons x hs ih => rw [List.flatMap_cons, List.length_append, ih, List.length_cons, show (hadP x).length = 3 from rfl]; omega
theorem parts_ok {w0 : World} {F : List HProp} {c : Cm} (hc : CmOk w0 F c) (hb : c.hs.length ≤ 255) :
    FnO Try.prog w0 81 [.agg c.cells.toArray] F (fun r l' => ∃ a k, r = .slice a (cmP c).length k ∧ l' = own 31 7 (.slice a (cmP c).length k) (cmP c).length ((cmP c).flatMap pac) :: F) := by
  obtain ⟨t1, t2, t3, t8, t9, t10, t11, td⟩ := tail_of c
  have hlen : ∀ e ∈ c.hs, (hcl e).length = 6 := fun _ _ => rfl
  have hn := hc.h.n
  refine FnO.rdF (fun _ h => h) hc.h.r fun hd1 => ?_
  refine FnO.weak ?_
  refine FnO.intro (n := 149) Try.func81 rfl rfl rfl ?_
  by_cases k1 : c.kind = 1
  · have ht := t1 k1
    refine J.seq ?_
    refine J.region ?_
    refine JL.mem rfl rfl (OpM.box rfl rfl) ?_; rintro _ _ ⟨b1, rfl, rfl⟩
    refine JL.pure rfl rfl (OpP.assign rfl) ?_
    refine JL.nil ?_
    refine J.seq ?_
    refine J.region ?_
    refine JL.pure rfl rfl (OpP.fieldAddr rfl) ?_
    refine JL.read rfl rfl (OpR.load1 rfl (Cell.row .head rfl)) ?_
    refine JL.step rfl rfl (OpW.call (first := []) (captured := []) inferInstance rfl rfl byteOf_ok) ?_; rintro r7 _ ⟨rfl, rfl⟩
    refine JL.mem rfl rfl (by apply OpM.buildSlice (by rfl) rfl (by rfl); (repeat (first | exact Fills.nil | (apply Fills.cons rfl rfl rfl; (case' hs => ((repeat (first | exact Spl.nil | apply Spl.here | apply Spl.there)); done)))))) ?_; rintro _ _ ⟨b8, rfl, rfl⟩
    refine JL.pure rfl rfl (OpP.assign rfl) ?_
    refine JL.nil ?_
    refine J.seq ?_
    refine J.seq ?_
    refine J.region ?_
    refine JL.pure rfl rfl (OpP.fieldAddr rfl) ?_
    refine JL.read rfl rfl (OpR.load1 rfl (Cell.row (.tail .head) rfl)) ?_
    refine JL.nil ?_
    refine J.block ?_
    refine J.seq ?_
    refine J.region ?_
    refine JL.decT rfl rfl (OpP.eql rfl rfl) (by omega) ?_
    refine JL.pure rfl rfl (OpP.assign rfl) ?_
    refine JL.nil ?_
    refine J.condT rfl ?_
    refine J.seq ?_
    refine J.region ?_
    refine JL.pure rfl rfl (OpP.move rfl) ?_
    refine JL.pure rfl rfl (OpP.fieldAddr rfl) ?_
    refine JL.read rfl rfl (OpR.load1 rfl (Cell.row (.tail .head) rfl)) ?_
    refine JL.step rfl rfl (OpW.call (first := []) (captured := []) inferInstance rfl rfl textOf_ok) ?_; rintro r16 _ ⟨rfl, rfl⟩
    refine JL.mem rfl rfl (by apply OpM.buildSlice (by rfl) rfl (by rfl); (repeat (first | exact Fills.nil | (apply Fills.cons rfl rfl rfl; (case' hs => ((repeat (first | exact Spl.nil | apply Spl.here | apply Spl.there)); done)))))) ?_; rintro _ _ ⟨b17, rfl, rfl⟩
    refine JL.f1 ?_; refine JL.ownRow (n := 1) (sz := 7) (by decide) rfl ?_
    refine JL.mem rfl rfl (OpM.appendH rfl (.inl ⟨_, Sl.und inferInstance⟩) (by rfl) rfl rfl (RdO.src (RdO.ofRow (.tail .head) (by first | exact Nat.le_refl _ | decide | omega)) (by first | assumption | exact fc_length _ _ | (simp; done) | (simp; omega))) (oneC rfl (oneC rfl (oneC rfl (oneC rfl (oneC rfl (oneC rfl (one1 rfl))))))) (by simp only [maxLen]; omega) (by omega)) ?_; rintro _ _ ⟨⟨a18, c18, rfl⟩, rfl⟩
    refine JL.pure rfl rfl (OpP.assign rfl) ?_
    refine JL.nil ?_
    refine J.ret1 rfl rfl ?_
    rw [cmP, ht]
    exact ⟨_, ⟨_, _, rfl, rfl⟩, fun _ h => Own.pick (pre := [_, _, _]) [0] rfl h⟩
  by_cases k2 : c.kind = 2
  · have ht := t2 k2
    refine J.seq ?_
    refine J.region ?_
    refine JL.mem rfl rfl (OpM.box rfl rfl) ?_; rintro _ _ ⟨b1, rfl, rfl⟩
    refine JL.pure rfl rfl (OpP.assign rfl) ?_
    refine JL.nil ?_
    refine J.seq ?_
    refine J.region ?_
    refine JL.pure rfl rfl (OpP.fieldAddr rfl) ?_
    refine JL.read rfl rfl (OpR.load1 rfl (Cell.row .head rfl)) ?_
    refine JL.step rfl rfl (OpW.call (first := []) (captured := []) inferInstance rfl rfl byteOf_ok) ?_; rintro r7 _ ⟨rfl, rfl⟩
    refine JL.mem rfl rfl (by apply OpM.buildSlice (by rfl) rfl (by rfl); (repeat (first | exact Fills.nil | (apply Fills.cons rfl rfl rfl; (case' hs => ((repeat (first | exact Spl.nil | apply Spl.here | apply Spl.there)); done)))))) ?_; rintro _ _ ⟨b8, rfl, rfl⟩
    refine JL.pure rfl rfl (OpP.assign rfl) ?_
    refine JL.nil ?_
    refine J.seq ?_
    refine J.seq ?_
    refine J.region ?_
    refine JL.pure rfl rfl (OpP.fieldAddr rfl) ?_
    refine JL.read rfl rfl (OpR.load1 rfl (Cell.row (.tail .head) rfl)) ?_
    refine JL.nil ?_
    refine J.block ?_
    refine J.seq ?_
    refine J.region ?_
    refine JL.decF rfl rfl (OpP.eql rfl rfl) (by omega) ?_
    refine JL.pure rfl rfl (OpP.assign rfl) ?_
    refine JL.nil ?_
    refine J.condF rfl ?_
    refine J.seq ?_
    refine J.region ?_
    refine JL.decT rfl rfl (OpP.eql rfl rfl) (by omega) ?_
    refine JL.pure rfl rfl (OpP.assign rfl) ?_
    refine JL.nil ?_
    refine J.condT rfl ?_
    refine J.seq ?_
    refine J.regionD [3, 7, 11, 15] (by kernel_rfl) ?_
    refine DL.pure (i := 0) (by kernel_rfl) (by kernel_rfl) rfl rfl rfl (OpP.move rfl) ?_
    refine DL.pure (i := 1) (by kernel_rfl) (by kernel_rfl) rfl rfl rfl (OpP.fieldAddr rfl) ?_
    refine DL.pure (i := 2) (by kernel_rfl) (by kernel_rfl) rfl rfl rfl (OpP.fieldAddr rfl) ?_
    refine DL.read (i := 3) (by kernel_rfl) (by kernel_rfl) rfl rfl rfl (fun _ h => h) (OpR.load1 rfl (Cell.row (.tail .head) rfl)) ?_
    refine DL.pure (i := 5) (by kernel_rfl) (by kernel_rfl) rfl rfl rfl (OpP.fieldAddr rfl) ?_
    refine DL.pure (i := 6) (by kernel_rfl) (by kernel_rfl) rfl rfl rfl (OpP.fieldAddr rfl) ?_
    refine DL.read (i := 7) (by kernel_rfl) (by kernel_rfl) rfl rfl rfl (fun _ h => h) (OpR.load1 rfl (Cell.row (.tail .head) rfl)) ?_
    refine DL.pure (i := 9) (by kernel_rfl) (by kernel_rfl) rfl rfl rfl (OpP.fieldAddr rfl) ?_
    refine DL.pure (i := 10) (by kernel_rfl) (by kernel_rfl) rfl rfl rfl (OpP.fieldAddr rfl) ?_
    refine DL.read (i := 11) (by kernel_rfl) (by kernel_rfl) rfl rfl rfl (fun _ h => h) (OpR.load1 rfl (Cell.row (.tail .head) rfl)) ?_
    refine DL.pure (i := 13) (by kernel_rfl) (by kernel_rfl) rfl rfl rfl (OpP.fieldAddr rfl) ?_
    refine DL.pure (i := 14) (by kernel_rfl) (by kernel_rfl) rfl rfl rfl (OpP.fieldAddr rfl) ?_
    refine DL.read (i := 15) (by kernel_rfl) (by kernel_rfl) rfl rfl rfl (fun _ h => h) (OpR.loadN rfl (Cells.sub 4 (.tail .head) rfl) rfl) ?_
    refine DL.only (i := 4) (by kernel_rfl) ?_
    refine DL1.stepK rfl rfl rfl (by exact OpW.call (first := []) (captured := []) inferInstance rfl rfl textOf_ok) (by rintro _ _ ⟨rfl, rfl⟩ _ h; exact Own.pick (pre := [_, _]) [0, 1] rfl h) ?_; rintro r25 _ ⟨rfl, rfl⟩
    refine DL.only (i := 8) (by kernel_rfl) ?_
    refine DL1.stepK rfl rfl rfl (by exact OpW.call (first := []) (captured := []) inferInstance rfl rfl textOf_ok) (by rintro _ _ ⟨rfl, rfl⟩ _ h; exact Own.pick (pre := [_, _]) [0, 1] rfl h) ?_; rintro r29 _ ⟨rfl, rfl⟩
    refine DL.only (i := 12) (by kernel_rfl) ?_
    refine DL1.stepK rfl rfl rfl (by exact OpW.call (first := []) (captured := []) inferInstance rfl rfl textOf_ok) (by rintro _ _ ⟨rfl, rfl⟩ _ h; exact Own.pick (pre := [_, _]) [0, 1] rfl h) ?_; rintro r33 _ ⟨rfl, rfl⟩
    refine DL.only (i := 16) (by kernel_rfl) ?_
    refine DL1.stepF rfl rfl rfl (by kernel_rfl) (by exact OpW.call (first := []) (captured := []) inferInstance rfl rfl (valueOf_ok (u := c.row.v))) ?_; rintro r37 _ ⟨rfl, rfl⟩
    refine DL.only (i := 17) (by kernel_rfl) ?_
    refine DL1.stepF rfl rfl rfl (by kernel_rfl) (OpM.w (by apply OpM.buildSlice (by rfl) rfl (by rfl); (repeat (first | exact Fills.nil | (apply Fills.cons rfl rfl rfl; (case' hs => ((repeat (first | exact Spl.nil | apply Spl.here | apply Spl.there)); done))))))) ?_; rintro _ _ ⟨b38, rfl, rfl⟩
    refine DL.only (i := 18) (by kernel_rfl) ?_
    refine DL1.f1 ?_; refine DL1.ownRow (n := 1) (sz := 7) (by decide) rfl ?_
    refine DL1.stepF rfl rfl rfl (by kernel_rfl) (OpM.w (OpM.appendH rfl (.inl ⟨_, Sl.und inferInstance⟩) (by rfl) rfl rfl (RdO.src (RdO.ofRow (.tail .head) (by first | exact Nat.le_refl _ | decide | omega)) (by first | assumption | exact fc_length _ _ | (simp; done) | (simp; omega))) (oneC rfl (oneC rfl (oneC rfl (oneC rfl (oneC rfl (oneC rfl (oneC rfl (oneC rfl (oneC rfl (oneC rfl (oneC rfl (oneC rfl (oneC rfl (oneC rfl (oneC rfl (oneC rfl (oneC rfl (oneC rfl (oneC rfl (oneC rfl (oneC rfl (oneC rfl (oneC rfl (oneC rfl (oneC rfl (oneC rfl (oneC rfl (one1 rfl)))))))))))))))))))))))))))) (by simp only [maxLen]; omega) (by omega))) ?_; rintro _ _ ⟨⟨a39, c39, rfl⟩, rfl⟩
    refine DL.pure (i := 19) (by kernel_rfl) (by kernel_rfl) rfl rfl rfl (OpP.assign rfl) ?_
    refine DL.done (by kernel_rfl) ?_
    refine J.ret1 rfl rfl ?_
    rw [cmP, ht]
    exact ⟨_, ⟨_, _, rfl, rfl⟩, fun _ h => Own.pick (pre := [_, _, _]) [0] rfl h⟩
  by_cases k3 : c.kind = 3
  · have ht := t3 k3
    refine J.seq ?_
    refine J.region ?_
    refine JL.mem rfl rfl (OpM.box rfl rfl) ?_; rintro _ _ ⟨b1, rfl, rfl⟩
    refine JL.pure rfl rfl (OpP.assign rfl) ?_
    refine JL.nil ?_
    refine J.seq ?_
    refine J.region ?_
    refine JL.pure rfl rfl (OpP.fieldAddr rfl) ?_
    refine JL.read rfl rfl (OpR.load1 rfl (Cell.row .head rfl)) ?_
    refine JL.step rfl rfl (OpW.call (first := []) (captured := []) inferInstance rfl rfl byteOf_ok) ?_; rintro r7 _ ⟨rfl, rfl⟩
    refine JL.mem rfl rfl (by apply OpM.buildSlice (by rfl) rfl (by rfl); (repeat (first | exact Fills.nil | (apply Fills.cons rfl rfl rfl; (case' hs => ((repeat (first | exact Spl.nil | apply Spl.here | apply Spl.there)); done)))))) ?_; rintro _ _ ⟨b8, rfl, rfl⟩
    refine JL.pure rfl rfl (OpP.assign rfl) ?_
    refine JL.nil ?_
    refine J.seq ?_
    refine J.seq ?_
    refine J.region ?_
    refine JL.pure rfl rfl (OpP.fieldAddr rfl) ?_
    refine JL.read rfl rfl (OpR.load1 rfl (Cell.row (.tail .head) rfl)) ?_
    refine JL.nil ?_
    refine J.block ?_
    refine J.seq ?_
    refine J.region ?_
    refine JL.decF rfl rfl (OpP.eql rfl rfl) (by omega) ?_
    refine JL.pure rfl rfl (OpP.assign rfl) ?_
    refine JL.nil ?_
    refine J.condF rfl ?_
    refine J.seq ?_
    refine J.region ?_
    refine JL.decF rfl rfl (OpP.eql rfl rfl) (by omega) ?_
    refine JL.pure rfl rfl (OpP.assign rfl) ?_
    refine JL.nil ?_
    refine J.condF rfl ?_
    refine J.seq ?_
    refine J.region ?_
    refine JL.decT rfl rfl (OpP.eql rfl rfl) (by omega) ?_
    refine JL.pure rfl rfl (OpP.assign rfl) ?_
    refine JL.nil ?_
    refine J.condT rfl ?_
    refine J.seq ?_
    refine J.regionD [3, 7, 11] (by kernel_rfl) ?_
    refine DL.pure (i := 0) (by kernel_rfl) (by kernel_rfl) rfl rfl rfl (OpP.move rfl) ?_
    refine DL.pure (i := 1) (by kernel_rfl) (by kernel_rfl) rfl rfl rfl (OpP.fieldAddr rfl) ?_
    refine DL.pure (i := 2) (by kernel_rfl) (by kernel_rfl) rfl rfl rfl (OpP.fieldAddr rfl) ?_
    refine DL.read (i := 3) (by kernel_rfl) (by kernel_rfl) rfl rfl rfl (fun _ h => h) (OpR.load1 rfl (Cell.row (.tail .head) rfl)) ?_
    refine DL.pure (i := 5) (by kernel_rfl) (by kernel_rfl) rfl rfl rfl (OpP.fieldAddr rfl) ?_
    refine DL.pure (i := 6) (by kernel_rfl) (by kernel_rfl) rfl rfl rfl (OpP.fieldAddr rfl) ?_
    refine DL.read (i := 7) (by kernel_rfl) (by kernel_rfl) rfl rfl rfl (fun _ h => h) (OpR.load1 rfl (Cell.row (.tail .head) rfl)) ?_
    refine DL.pure (i := 9) (by kernel_rfl) (by kernel_rfl) rfl rfl rfl (OpP.fieldAddr rfl) ?_
    refine DL.pure (i := 10) (by kernel_rfl) (by kernel_rfl) rfl rfl rfl (OpP.fieldAddr rfl) ?_
    refine DL.read (i := 11) (by kernel_rfl) (by kernel_rfl) rfl rfl rfl (fun _ h => h) (OpR.load1 rfl (Cell.row (.tail .head) rfl)) ?_
    refine DL.only (i := 4) (by kernel_rfl) ?_
    refine DL1.stepK rfl rfl rfl (by exact OpW.call (first := []) (captured := []) inferInstance rfl rfl textOf_ok) (by rintro _ _ ⟨rfl, rfl⟩ _ h; exact Own.pick (pre := [_, _]) [0, 1] rfl h) ?_; rintro r46 _ ⟨rfl, rfl⟩
    refine DL.only (i := 8) (by kernel_rfl) ?_
    refine DL1.stepK rfl rfl rfl (by exact OpW.call (first := []) (captured := []) inferInstance rfl rfl textOf_ok) (by rintro _ _ ⟨rfl, rfl⟩ _ h; exact Own.pick (pre := [_, _]) [0, 1] rfl h) ?_; rintro r50 _ ⟨rfl, rfl⟩
    refine DL.only (i := 12) (by kernel_rfl) ?_
    refine DL1.stepF rfl rfl rfl (by kernel_rfl) (by exact OpW.call (first := []) (captured := []) inferInstance rfl rfl textOf_ok) ?_; rintro r54 _ ⟨rfl, rfl⟩
    refine DL.only (i := 13) (by kernel_rfl) ?_
    refine DL1.stepF rfl rfl rfl (by kernel_rfl) (OpM.w (by apply OpM.buildSlice (by rfl) rfl (by rfl); (repeat (first | exact Fills.nil | (apply Fills.cons rfl rfl rfl; (case' hs => ((repeat (first | exact Spl.nil | apply Spl.here | apply Spl.there)); done))))))) ?_; rintro _ _ ⟨b55, rfl, rfl⟩
    refine DL.only (i := 14) (by kernel_rfl) ?_
    refine DL1.f1 ?_; refine DL1.ownRow (n := 1) (sz := 7) (by decide) rfl ?_
    refine DL1.stepF rfl rfl rfl (by kernel_rfl) (OpM.w (OpM.appendH rfl (.inl ⟨_, Sl.und inferInstance⟩) (by rfl) rfl rfl (RdO.src (RdO.ofRow (.tail .head) (by first | exact Nat.le_refl _ | decide | omega)) (by first | assumption | exact fc_length _ _ | (simp; done) | (simp; omega))) (oneC rfl (oneC rfl (oneC rfl (oneC rfl (oneC rfl (oneC rfl (oneC rfl (oneC rfl (oneC rfl (oneC rfl (oneC rfl (oneC rfl (oneC rfl (oneC rfl (oneC rfl (oneC rfl (oneC rfl (oneC rfl (oneC rfl (oneC rfl (one1 rfl))))))))))))))))))))) (by simp only [maxLen]; omega) (by omega))) ?_; rintro _ _ ⟨⟨a56, c56, rfl⟩, rfl⟩
    refine DL.pure (i := 15) (by kernel_rfl) (by kernel_rfl) rfl rfl rfl (OpP.assign rfl) ?_
    refine DL.done (by kernel_rfl) ?_
    refine J.ret1 rfl rfl ?_
    rw [cmP, ht]
    exact ⟨_, ⟨_, _, rfl, rfl⟩, fun _ h => Own.pick (pre := [_, _, _]) [0] rfl h⟩
  by_cases k8 : c.kind = 8
  · have ht := t8 k8
    refine J.seq ?_
    refine J.region ?_
    refine JL.mem rfl rfl (OpM.box rfl rfl) ?_; rintro _ _ ⟨b1, rfl, rfl⟩
    refine JL.pure rfl rfl (OpP.assign rfl) ?_
    refine JL.nil ?_
    refine J.seq ?_
    refine J.region ?_
    refine JL.pure rfl rfl (OpP.fieldAddr rfl) ?_
    refine JL.read rfl rfl (OpR.load1 rfl (Cell.row .head rfl)) ?_
    refine JL.step rfl rfl (OpW.call (first := []) (captured := []) inferInstance rfl rfl byteOf_ok) ?_; rintro r7 _ ⟨rfl, rfl⟩
    refine JL.mem rfl rfl (by apply OpM.buildSlice (by rfl) rfl (by rfl); (repeat (first | exact Fills.nil | (apply Fills.cons rfl rfl rfl; (case' hs => ((repeat (first | exact Spl.nil | apply Spl.here | apply Spl.there)); done)))))) ?_; rintro _ _ ⟨b8, rfl, rfl⟩
    refine JL.pure rfl rfl (OpP.assign rfl) ?_
    refine JL.nil ?_
    refine J.seq ?_
    refine J.seq ?_
    refine J.region ?_
    refine JL.pure rfl rfl (OpP.fieldAddr rfl) ?_
    refine JL.read rfl rfl (OpR.load1 rfl (Cell.row (.tail .head) rfl)) ?_
    refine JL.nil ?_
    refine J.block ?_
    refine J.seq ?_
    refine J.region ?_
    refine JL.decF rfl rfl (OpP.eql rfl rfl) (by omega) ?_
    refine JL.pure rfl rfl (OpP.assign rfl) ?_
    refine JL.nil ?_
    refine J.condF rfl ?_
    refine J.seq ?_
    refine J.region ?_
    refine JL.decF rfl rfl (OpP.eql rfl rfl) (by omega) ?_
    refine JL.pure rfl rfl (OpP.assign rfl) ?_
    refine JL.nil ?_
    refine J.condF rfl ?_
    refine J.seq ?_
    refine J.region ?_
    refine JL.decF rfl rfl (OpP.eql rfl rfl) (by omega) ?_
    refine JL.pure rfl rfl (OpP.assign rfl) ?_
    refine JL.nil ?_
    refine J.condF rfl ?_
    refine J.seq ?_
    refine J.region ?_
    refine JL.decT rfl rfl (OpP.eql rfl rfl) (by omega) ?_
    refine JL.pure rfl rfl (OpP.assign rfl) ?_
    refine JL.nil ?_
    refine J.condT rfl ?_
    refine J.seq ?_
    refine J.regionD [2, 5, 8, 11] (by kernel_rfl) ?_
    refine DL.pure (i := 0) (by kernel_rfl) (by kernel_rfl) rfl rfl rfl (OpP.move rfl) ?_
    refine DL.pure (i := 1) (by kernel_rfl) (by kernel_rfl) rfl rfl rfl (OpP.fieldAddr rfl) ?_
    refine DL.read (i := 2) (by kernel_rfl) (by kernel_rfl) rfl rfl rfl (fun _ h => h) (OpR.load1 rfl (Cell.row (.tail .head) rfl)) ?_
    refine DL.pure (i := 4) (by kernel_rfl) (by kernel_rfl) rfl rfl rfl (OpP.fieldAddr rfl) ?_
    refine DL.read (i := 5) (by kernel_rfl) (by kernel_rfl) rfl rfl rfl (fun _ h => h) (OpR.load1 rfl (Cell.row (.tail .head) rfl)) ?_
    refine DL.pure (i := 7) (by kernel_rfl) (by kernel_rfl) rfl rfl rfl (OpP.fieldAddr rfl) ?_
    refine DL.read (i := 8) (by kernel_rfl) (by kernel_rfl) rfl rfl rfl (fun _ h => h) (OpR.load1 rfl (Cell.row (.tail .head) rfl)) ?_
    refine DL.pure (i := 10) (by kernel_rfl) (by kernel_rfl) rfl rfl rfl (OpP.fieldAddr rfl) ?_
    refine DL.read (i := 11) (by kernel_rfl) (by kernel_rfl) rfl rfl rfl (fun _ h => h) (OpR.load1 rfl (Cell.row (.tail .head) rfl)) ?_
    refine DL.only (i := 3) (by kernel_rfl) ?_
    refine DL1.stepK rfl rfl rfl (by exact OpW.call (first := []) (captured := []) inferInstance rfl rfl textOf_ok) (by rintro _ _ ⟨rfl, rfl⟩ _ h; exact Own.pick (pre := [_, _]) [0, 1] rfl h) ?_; rintro r62 _ ⟨rfl, rfl⟩
    refine DL.only (i := 6) (by kernel_rfl) ?_
    refine DL1.stepK rfl rfl rfl (by exact OpW.call (first := []) (captured := []) inferInstance rfl rfl textOf_ok) (by rintro _ _ ⟨rfl, rfl⟩ _ h; exact Own.pick (pre := [_, _]) [0, 1] rfl h) ?_; rintro r65 _ ⟨rfl, rfl⟩
    refine DL.only (i := 9) (by kernel_rfl) ?_
    refine DL1.stepK rfl rfl rfl (by exact OpW.call (first := []) (captured := []) inferInstance rfl rfl byteOf_ok) (by rintro _ _ ⟨rfl, rfl⟩ _ h; exact Own.pick (pre := [_, _]) [0, 1] rfl h) ?_; rintro r68 _ ⟨rfl, rfl⟩
    refine DL.only (i := 12) (by kernel_rfl) ?_
    refine DL1.stepF rfl rfl rfl (by kernel_rfl) (by exact OpW.call (first := []) (captured := []) inferInstance rfl rfl longOf_ok) ?_; rintro r71 _ ⟨rfl, rfl⟩
    refine DL.only (i := 13) (by kernel_rfl) ?_
    refine DL1.stepF rfl rfl rfl (by kernel_rfl) (OpM.w (by apply OpM.buildSlice (by rfl) rfl (by rfl); (repeat (first | exact Fills.nil | (apply Fills.cons rfl rfl rfl; (case' hs => ((repeat (first | exact Spl.nil | apply Spl.here | apply Spl.there)); done))))))) ?_; rintro _ _ ⟨b72, rfl, rfl⟩
    refine DL.only (i := 14) (by kernel_rfl) ?_
    refine DL1.f1 ?_; refine DL1.ownRow (n := 1) (sz := 7) (by decide) rfl ?_
    refine DL1.stepF rfl rfl rfl (by kernel_rfl) (OpM.w (OpM.appendH rfl (.inl ⟨_, Sl.und inferInstance⟩) (by rfl) rfl rfl (RdO.src (RdO.ofRow (.tail .head) (by first | exact Nat.le_refl _ | decide | omega)) (by first | assumption | exact fc_length _ _ | (simp; done) | (simp; omega))) (oneC rfl (oneC rfl (oneC rfl (oneC rfl (oneC rfl (oneC rfl (oneC rfl (oneC rfl (oneC rfl (oneC rfl (oneC rfl (oneC rfl (oneC rfl (oneC rfl (oneC rfl (oneC rfl (oneC rfl (oneC rfl (oneC rfl (oneC rfl (oneC rfl (oneC rfl (oneC rfl (oneC rfl (oneC rfl (oneC rfl (oneC rfl (one1 rfl)))))))))))))))))))))))))))) (by simp only [maxLen]; omega) (by omega))) ?_; rintro _ _ ⟨⟨a73, c73, rfl⟩, rfl⟩
    refine DL.pure (i := 15) (by kernel_rfl) (by kernel_rfl) rfl rfl rfl (OpP.assign rfl) ?_
    refine DL.done (by kernel_rfl) ?_
    refine J.ret1 rfl rfl ?_
    rw [cmP, ht]
    exact ⟨_, ⟨_, _, rfl, rfl⟩, fun _ h => Own.pick (pre := [_, _, _]) [0] rfl h⟩
  by_cases k9 : c.kind = 9
  · have ht := t9 k9
    refine J.seq ?_
    refine J.region ?_
    refine JL.mem rfl rfl (OpM.box rfl rfl) ?_; rintro _ _ ⟨b1, rfl, rfl⟩
    refine JL.pure rfl rfl (OpP.assign rfl) ?_
    refine JL.nil ?_
    refine J.seq ?_
    refine J.region ?_
    refine JL.pure rfl rfl (OpP.fieldAddr rfl) ?_
    refine JL.read rfl rfl (OpR.load1 rfl (Cell.row .head rfl)) ?_
    refine JL.step rfl rfl (OpW.call (first := []) (captured := []) inferInstance rfl rfl byteOf_ok) ?_; rintro r7 _ ⟨rfl, rfl⟩
    refine JL.mem rfl rfl (by apply OpM.buildSlice (by rfl) rfl (by rfl); (repeat (first | exact Fills.nil | (apply Fills.cons rfl rfl rfl; (case' hs => ((repeat (first | exact Spl.nil | apply Spl.here | apply Spl.there)); done)))))) ?_; rintro _ _ ⟨b8, rfl, rfl⟩
    refine JL.pure rfl rfl (OpP.assign rfl) ?_
    refine JL.nil ?_
    refine J.seq ?_
    refine J.seq ?_
    refine J.region ?_
    refine JL.pure rfl rfl (OpP.fieldAddr rfl) ?_
    refine JL.read rfl rfl (OpR.load1 rfl (Cell.row (.tail .head) rfl)) ?_
    refine JL.nil ?_
    refine J.block ?_
    refine J.seq ?_
    refine J.region ?_
    refine JL.decF rfl rfl (OpP.eql rfl rfl) (by omega) ?_
    refine JL.pure rfl rfl (OpP.assign rfl) ?_
    refine JL.nil ?_
    refine J.condF rfl ?_
    refine J.seq ?_
    refine J.region ?_
    refine JL.decF rfl rfl (OpP.eql rfl rfl) (by omega) ?_
    refine JL.pure rfl rfl (OpP.assign rfl) ?_
    refine JL.nil ?_
    refine J.condF rfl ?_
    refine J.seq ?_
    refine J.region ?_
    refine JL.decF rfl rfl (OpP.eql rfl rfl) (by omega) ?_
    refine JL.pure rfl rfl (OpP.assign rfl) ?_
    refine JL.nil ?_
    refine J.condF rfl ?_
    refine J.seq ?_
    refine J.region ?_
    refine JL.decF rfl rfl (OpP.eql rfl rfl) (by omega) ?_
    refine JL.pure rfl rfl (OpP.assign rfl) ?_
    refine JL.nil ?_
    refine J.condF rfl ?_
    refine J.seq ?_
    refine J.region ?_
    refine JL.decT rfl rfl (OpP.eql rfl rfl) (by omega) ?_
    refine JL.pure rfl rfl (OpP.assign rfl) ?_
    refine JL.nil ?_
    refine J.condT rfl ?_
    refine J.seq ?_
    refine J.regionD [2, 5] (by kernel_rfl) ?_
    refine DL.pure (i := 0) (by kernel_rfl) (by kernel_rfl) rfl rfl rfl (OpP.move rfl) ?_
    refine DL.pure (i := 1) (by kernel_rfl) (by kernel_rfl) rfl rfl rfl (OpP.fieldAddr rfl) ?_
    refine DL.read (i := 2) (by kernel_rfl) (by kernel_rfl) rfl rfl rfl (fun _ h => h) (OpR.load1 rfl (Cell.row (.tail .head) rfl)) ?_
    refine DL.pure (i := 4) (by kernel_rfl) (by kernel_rfl) rfl rfl rfl (OpP.fieldAddr rfl) ?_
    refine DL.read (i := 5) (by kernel_rfl) (by kernel_rfl) rfl rfl rfl (fun _ h => h) (OpR.load1 rfl (Cell.row (.tail .head) rfl)) ?_
    refine DL.only (i := 3) (by kernel_rfl) ?_
    refine DL1.stepK rfl rfl rfl (by exact OpW.call (first := []) (captured := []) inferInstance rfl rfl textOf_ok) (by rintro _ _ ⟨rfl, rfl⟩ _ h; exact Own.pick (pre := [_, _]) [0, 1] rfl h) ?_; rintro r79 _ ⟨rfl, rfl⟩
    refine DL.only (i := 6) (by kernel_rfl) ?_
    refine DL1.stepF rfl rfl rfl (by kernel_rfl) (by exact OpW.call (first := []) (captured := []) inferInstance rfl rfl shortOf_ok) ?_; rintro r82 _ ⟨rfl, rfl⟩
    refine DL.only (i := 7) (by kernel_rfl) ?_
    refine DL1.stepF rfl rfl rfl (by kernel_rfl) (OpM.w (by apply OpM.buildSlice (by rfl) rfl (by rfl); (repeat (first | exact Fills.nil | (apply Fills.cons rfl rfl rfl; (case' hs => ((repeat (first | exact Spl.nil | apply Spl.here | apply Spl.there)); done))))))) ?_; rintro _ _ ⟨b83, rfl, rfl⟩
    refine DL.only (i := 8) (by kernel_rfl) ?_
    refine DL1.f1 ?_; refine DL1.ownRow (n := 1) (sz := 7) (by decide) rfl ?_
    refine DL1.stepF rfl rfl rfl (by kernel_rfl) (OpM.w (OpM.appendH rfl (.inl ⟨_, Sl.und inferInstance⟩) (by rfl) rfl rfl (RdO.src (RdO.ofRow (.tail .head) (by first | exact Nat.le_refl _ | decide | omega)) (by first | assumption | exact fc_length _ _ | (simp; done) | (simp; omega))) (oneC rfl (oneC rfl (oneC rfl (oneC rfl (oneC rfl (oneC rfl (oneC rfl (oneC rfl (oneC rfl (oneC rfl (oneC rfl (oneC rfl (oneC rfl (one1 rfl)))))))))))))) (by simp only [maxLen]; omega) (by omega))) ?_; rintro _ _ ⟨⟨a84, c84, rfl⟩, rfl⟩
    refine DL.pure (i := 9) (by kernel_rfl) (by kernel_rfl) rfl rfl rfl (OpP.assign rfl) ?_
    refine DL.done (by kernel_rfl) ?_
    refine J.ret1 rfl rfl ?_
    rw [cmP, ht]
    exact ⟨_, ⟨_, _, rfl, rfl⟩, fun _ h => Own.pick (pre := [_, _, _]) [0] rfl h⟩
  by_cases k10 : c.kind = 10
  · have ht := t10 k10
    refine J.seq ?_
    refine J.region ?_
    refine JL.mem rfl rfl (OpM.box rfl rfl) ?_; rintro _ _ ⟨b1, rfl, rfl⟩
    refine JL.pure rfl rfl (OpP.assign rfl) ?_
    refine JL.nil ?_
    refine J.seq ?_
    refine J.region ?_
    refine JL.pure rfl rfl (OpP.fieldAddr rfl) ?_
    refine JL.read rfl rfl (OpR.load1 rfl (Cell.row .head rfl)) ?_
    refine JL.step rfl rfl (OpW.call (first := []) (captured := []) inferInstance rfl rfl byteOf_ok) ?_; rintro r7 _ ⟨rfl, rfl⟩
    refine JL.mem rfl rfl (by apply OpM.buildSlice (by rfl) rfl (by rfl); (repeat (first | exact Fills.nil | (apply Fills.cons rfl rfl rfl; (case' hs => ((repeat (first | exact Spl.nil | apply Spl.here | apply Spl.there)); done)))))) ?_; rintro _ _ ⟨b8, rfl, rfl⟩
    refine JL.pure rfl rfl (OpP.assign rfl) ?_
    refine JL.nil ?_
    refine J.seq ?_
    refine J.seq ?_
    refine J.region ?_
    refine JL.pure rfl rfl (OpP.fieldAddr rfl) ?_
    refine JL.read rfl rfl (OpR.load1 rfl (Cell.row (.tail .head) rfl)) ?_
    refine JL.nil ?_
    refine J.block ?_
    refine J.seq ?_
    refine J.region ?_
    refine JL.decF rfl rfl (OpP.eql rfl rfl) (by omega) ?_
    refine JL.pure rfl rfl (OpP.assign rfl) ?_
    refine JL.nil ?_
    refine J.condF rfl ?_
    refine J.seq ?_
    refine J.region ?_
    refine JL.decF rfl rfl (OpP.eql rfl rfl) (by omega) ?_
    refine JL.pure rfl rfl (OpP.assign rfl) ?_
    refine JL.nil ?_
    refine J.condF rfl ?_
    refine J.seq ?_
    refine J.region ?_
    refine JL.decF rfl rfl (OpP.eql rfl rfl) (by omega) ?_
    refine JL.pure rfl rfl (OpP.assign rfl) ?_
    refine JL.nil ?_
    refine J.condF rfl ?_
    refine J.seq ?_
    refine J.region ?_
    refine JL.decF rfl rfl (OpP.eql rfl rfl) (by omega) ?_
    refine JL.pure rfl rfl (OpP.assign rfl) ?_
    refine JL.nil ?_
    refine J.condF rfl ?_
    refine J.seq ?_
    refine J.region ?_
    refine JL.decF rfl rfl (OpP.eql rfl rfl) (by omega) ?_
    refine JL.pure rfl rfl (OpP.assign rfl) ?_
    refine JL.nil ?_
    refine J.condF rfl ?_
    refine J.seq ?_
    refine J.region ?_
    refine JL.decT rfl rfl (OpP.eql rfl rfl) (by omega) ?_
    refine JL.pure rfl rfl (OpP.assign rfl) ?_
    refine JL.nil ?_
    refine J.condT rfl ?_
    refine J.seq ?_
    refine J.region ?_
    refine JL.pure rfl rfl (OpP.move rfl) ?_
    refine JL.pure rfl rfl (OpP.fieldAddr rfl) ?_
    refine JL.read rfl rfl (OpR.load1 rfl (Cell.row (.tail .head) rfl)) ?_
    refine JL.step rfl rfl (OpW.call (first := []) (captured := []) inferInstance rfl rfl longOf_ok) ?_; rintro r90 _ ⟨rfl, rfl⟩
    refine JL.mem rfl rfl (by apply OpM.buildSlice (by rfl) rfl (by rfl); (repeat (first | exact Fills.nil | (apply Fills.cons rfl rfl rfl; (case' hs => ((repeat (first | exact Spl.nil | apply Spl.here | apply Spl.there)); done)))))) ?_; rintro _ _ ⟨b91, rfl, rfl⟩
    refine JL.f1 ?_; refine JL.ownRow (n := 1) (sz := 7) (by decide) rfl ?_
    refine JL.mem rfl rfl (OpM.appendH rfl (.inl ⟨_, Sl.und inferInstance⟩) (by rfl) rfl rfl (RdO.src (RdO.ofRow (.tail .head) (by first | exact Nat.le_refl _ | decide | omega)) (by first | assumption | exact fc_length _ _ | (simp; done) | (simp; omega))) (oneC rfl (oneC rfl (oneC rfl (oneC rfl (oneC rfl (oneC rfl (one1 rfl))))))) (by simp only [maxLen]; omega) (by omega)) ?_; rintro _ _ ⟨⟨a92, c92, rfl⟩, rfl⟩
    refine JL.pure rfl rfl (OpP.assign rfl) ?_
    refine JL.nil ?_
    refine J.ret1 rfl rfl ?_
    rw [cmP, ht]
    exact ⟨_, ⟨_, _, rfl, rfl⟩, fun _ h => Own.pick (pre := [_, _, _]) [0] rfl h⟩
  by_cases k11 : c.kind = 11
  · have ht := t11 k11
    refine J.seq ?_
    refine J.region ?_
    refine JL.mem rfl rfl (OpM.box rfl rfl) ?_; rintro _ _ ⟨b1, rfl, rfl⟩
    refine JL.pure rfl rfl (OpP.assign rfl) ?_
    refine JL.nil ?_
    refine J.seq ?_
    refine J.region ?_
    refine JL.pure rfl rfl (OpP.fieldAddr rfl) ?_
    refine JL.read rfl rfl (OpR.load1 rfl (Cell.row .head rfl)) ?_
    refine JL.step rfl rfl (OpW.call (first := []) (captured := []) inferInstance rfl rfl byteOf_ok) ?_; rintro r7 _ ⟨rfl, rfl⟩
    refine JL.mem rfl rfl (by apply OpM.buildSlice (by rfl) rfl (by rfl); (repeat (first | exact Fills.nil | (apply Fills.cons rfl rfl rfl; (case' hs => ((repeat (first | exact Spl.nil | apply Spl.here | apply Spl.there)); done)))))) ?_; rintro _ _ ⟨b8, rfl, rfl⟩
    refine JL.pure rfl rfl (OpP.assign rfl) ?_
    refine JL.nil ?_
    refine J.seq ?_
    refine J.seq ?_
    refine J.region ?_
    refine JL.pure rfl rfl (OpP.fieldAddr rfl) ?_
    refine JL.read rfl rfl (OpR.load1 rfl (Cell.row (.tail .head) rfl)) ?_
    refine JL.nil ?_
    refine J.block ?_
    refine J.seq ?_
    refine J.region ?_
    refine JL.decF rfl rfl (OpP.eql rfl rfl) (by omega) ?_
    refine JL.pure rfl rfl (OpP.assign rfl) ?_
    refine JL.nil ?_
    refine J.condF rfl ?_
    refine J.seq ?_
    refine J.region ?_
    refine JL.decF rfl rfl (OpP.eql rfl rfl) (by omega) ?_
    refine JL.pure rfl rfl (OpP.assign rfl) ?_
    refine JL.nil ?_
    refine J.condF rfl ?_
    refine J.seq ?_
    refine J.region ?_
    refine JL.decF rfl rfl (OpP.eql rfl rfl) (by omega) ?_
    refine JL.pure rfl rfl (OpP.assign rfl) ?_
    refine JL.nil ?_
    refine J.condF rfl ?_
    refine J.seq ?_
    refine J.region ?_
    refine JL.decF rfl rfl (OpP.eql rfl rfl) (by omega) ?_
    refine JL.pure rfl rfl (OpP.assign rfl) ?_
    refine JL.nil ?_
    refine J.condF rfl ?_
    refine J.seq ?_
    refine J.region ?_
    refine JL.decF rfl rfl (OpP.eql rfl rfl) (by omega) ?_
    refine JL.pure rfl rfl (OpP.assign rfl) ?_
    refine JL.nil ?_
    refine J.condF rfl ?_
    refine J.seq ?_
    refine J.region ?_
    refine JL.decF rfl rfl (OpP.eql rfl rfl) (by omega) ?_
    refine JL.pure rfl rfl (OpP.assign rfl) ?_
    refine JL.nil ?_
    refine J.condF rfl ?_
    refine J.seq ?_
    refine J.region ?_
    refine JL.decT rfl rfl (OpP.eql rfl rfl) (by omega) ?_
    refine JL.pure rfl rfl (OpP.assign rfl) ?_
    refine JL.nil ?_
    refine J.condT rfl ?_
    refine J.seq ?_
    refine J.regionD [2, 5, 8] (by kernel_rfl) ?_
    refine DL.pure (i := 0) (by kernel_rfl) (by kernel_rfl) rfl rfl rfl (OpP.move rfl) ?_
    refine DL.pure (i := 1) (by kernel_rfl) (by kernel_rfl) rfl rfl rfl (OpP.fieldAddr rfl) ?_
    refine DL.read (i := 2) (by kernel_rfl) (by kernel_rfl) rfl rfl rfl (fun _ h => h) (OpR.load1 rfl (Cell.row (.tail .head) rfl)) ?_
    refine DL.pure (i := 4) (by kernel_rfl) (by kernel_rfl) rfl rfl rfl (OpP.fieldAddr rfl) ?_
    refine DL.read (i := 5) (by kernel_rfl) (by kernel_rfl) rfl rfl rfl (fun _ h => h) (OpR.load1 rfl (Cell.row (.tail .head) rfl)) ?_
    refine DL.pure (i := 7) (by kernel_rfl) (by kernel_rfl) rfl rfl rfl (OpP.fieldAddr rfl) ?_
    refine DL.read (i := 8) (by kernel_rfl) (by kernel_rfl) rfl rfl rfl (fun _ h => h) (OpR.load1 rfl (Cell.row (.tail .head) rfl)) ?_
    refine DL.pure (i := 9) (by kernel_rfl) (by kernel_rfl) rfl rfl rfl (OpP.len rfl rfl) ?_
    refine DL.only (i := 3) (by kernel_rfl) ?_
    refine DL1.stepK rfl rfl rfl (by exact OpW.call (first := []) (captured := []) inferInstance rfl rfl textOf_ok) (by rintro _ _ ⟨rfl, rfl⟩ _ h; exact Own.pick (pre := [_, _]) [0, 1] rfl h) ?_; rintro r98 _ ⟨rfl, rfl⟩
    refine DL.only (i := 6) (by kernel_rfl) ?_
    refine DL1.stepK rfl rfl rfl (by exact OpW.call (first := []) (captured := []) inferInstance rfl rfl textOf_ok) (by rintro _ _ ⟨rfl, rfl⟩ _ h; exact Own.pick (pre := [_, _]) [0, 1] rfl h) ?_; rintro r101 _ ⟨rfl, rfl⟩
    refine DL.only (i := 10) (by kernel_rfl) ?_
    refine DL1.stepF rfl rfl rfl (by kernel_rfl) (by exact OpW.call (first := []) (captured := []) inferInstance rfl rfl byteOf_ok) ?_; rintro r105 _ ⟨rfl, rfl⟩
    refine DL.only (i := 11) (by kernel_rfl) ?_
    refine DL1.stepF rfl rfl rfl (by kernel_rfl) (OpM.w (by apply OpM.buildSlice (by rfl) rfl (by rfl); (repeat (first | exact Fills.nil | (apply Fills.cons rfl rfl rfl; (case' hs => ((repeat (first | exact Spl.nil | apply Spl.here | apply Spl.there)); done))))))) ?_; rintro _ _ ⟨b106, rfl, rfl⟩
    refine DL.only (i := 12) (by kernel_rfl) ?_
    refine DL1.f1 ?_; refine DL1.ownRow (n := 1) (sz := 7) (by decide) rfl ?_
    refine DL1.stepF rfl rfl rfl (by kernel_rfl) (OpM.w (OpM.appendH rfl (.inl ⟨_, Sl.und inferInstance⟩) (by rfl) rfl rfl (RdO.src (RdO.ofRow (.tail .head) (by first | exact Nat.le_refl _ | decide | omega)) (by first | assumption | exact fc_length _ _ | (simp; done) | (simp; omega))) (oneC rfl (oneC rfl (oneC rfl (oneC rfl (oneC rfl (oneC rfl (oneC rfl (oneC rfl (oneC rfl (oneC rfl (oneC rfl (oneC rfl (oneC rfl (oneC rfl (oneC rfl (oneC rfl (oneC rfl (oneC rfl (oneC rfl (oneC rfl (one1 rfl))))))))))))))))))))) (by simp only [maxLen]; omega) (by omega))) ?_; rintro _ _ ⟨⟨a107, c107, rfl⟩, rfl⟩
    refine DL.pure (i := 13) (by kernel_rfl) (by kernel_rfl) rfl rfl rfl (OpP.assign rfl) ?_
    refine DL.done (by kernel_rfl) ?_
    refine J.seq ?_
    refine J.seq ?_
    refine J.region ?_
    refine JL.pure rfl rfl (OpP.assign rfl) ?_
    refine JL.nil ?_
    refine J.block ?_
    refine J.loopI (fun x : Nat × Value => c.hs.length - x.1) (fun x => x.1 ≤ c.hs.length) (fun x => [(4, .int .i64 (x.1 : Nat)), (3, x.2), (1, .pointer (some ⟨b1, 0, none⟩))])
      (fun x => own 31 7 x.2 (4 + 3 * x.1) (([pNum 0 c.kind, tP c.a, tP c.b, pNum 0 c.hs.length] ++ (c.hs.take x.1).flatMap hadP).flatMap pac) :: row b1 66 c.cells :: F) (0, .slice a107 (1 + 3) c107) (Nat.zero_le _) (by repeat (first | exact SubEnv.nil | refine SubEnv.cons (by first | rfl | exact congrArg (fun z => some (Value.int .i64 z)) (by omega) | (simp; done)) ?_)) (fun _ h => Own.pick (pre := [_, _, _]) [0, 2] rfl h) (fun ⟨j, u⟩ hi back => ?_)
    try dsimp only at hi back ⊢
    by_cases hlt : j < c.hs.length
    · obtain ⟨x, hxj⟩ : ∃ e, c.hs[j]? = some e := ⟨_, List.getElem?_eq_getElem hlt⟩
      obtain ⟨ga, pa, qa, ea, ka, hcs⟩ := hd1.pos (by omega)
      refine J.conv (l' := own 31 7 u (4 + 3 * j) (([pNum 0 c.kind, tP c.a, tP c.b, pNum 0 c.hs.length] ++ (c.hs.take j).flatMap hadP).flatMap pac) :: row b1 66 (c.cellsAt (.slice (some ⟨ga, pa, none⟩) c.hs.length qa)) :: F) (fun _ h => by rw [← ea]; exact h) ?_
      rw [ea] at hd1
      refine J.lit .head fun au cu eu => ?_; subst eu
      refine J.seq ?_
      refine J.seq ?_
      refine J.region ?_
      refine JL.pure rfl rfl (OpP.move rfl) ?_
      refine JL.pure rfl rfl (OpP.fieldAddr rfl) ?_
      refine JL.read rfl rfl (OpR.load1 rfl (Cell.row (.tail .head) rfl)) ?_
      refine JL.pure rfl rfl (OpP.len rfl rfl) ?_
      refine JL.decT rfl rfl (OpP.lss rfl rfl) (by omega) ?_
      refine JL.nil ?_
      refine J.condT rfl ?_
      refine J.skip ?_
      refine J.seq ?_
      refine J.block ?_
      refine J.regionX0 [2, 6, 9, 13, 16, 20] (by kernel_rfl) ?_
      refine DL.pure (i := 0) (by kernel_rfl) (by kernel_rfl) rfl rfl rfl (OpP.move rfl) ?_
      refine DL.pure (i := 1) (by kernel_rfl) (by kernel_rfl) rfl rfl rfl (OpP.fieldAddr rfl) ?_
      refine DL.read (i := 2) (by kernel_rfl) (by kernel_rfl) rfl rfl rfl (fun _ h => Own.pick (pre := [_, _]) [1] rfl h) (OpR.load1 rfl (Cell.row .head rfl)) ?_
      refine DL.pure (i := 3) (by kernel_rfl) (by kernel_rfl) rfl rfl rfl (OpP.move rfl) ?_
      refine DL.pure (i := 4) (by kernel_rfl) (by kernel_rfl) rfl rfl rfl (OpP.indexAddr rfl rfl (by omega) (by omega)) ?_
      refine DL.pure (i := 5) (by kernel_rfl) (by kernel_rfl) rfl rfl rfl (OpP.fieldAddr rfl) ?_
      refine DL.read (i := 6) (by kernel_rfl) (by kernel_rfl) rfl rfl rfl (fun _ h => Own.pick (pre := [_, _]) [1] rfl h) (OpR.load1 rfl (by apply Cells.cellChunk (j := 0) hcs (fun _ h => Own.pick (pre := [_]) [] rfl h); (case' h => assumption); (case' hi => assumption); (case' hv => rfl); (case' ho => omega); done)) ?_
      refine DL.pure (i := 8) (by kernel_rfl) (by kernel_rfl) rfl rfl rfl (OpP.fieldAddr rfl) ?_
      refine DL.read (i := 9) (by kernel_rfl) (by kernel_rfl) rfl rfl rfl (fun _ h => Own.pick (pre := [_, _]) [1] rfl h) (OpR.load1 rfl (Cell.row .head rfl)) ?_
      refine DL.pure (i := 10) (by kernel_rfl) (by kernel_rfl) rfl rfl rfl (OpP.move rfl) ?_
      refine DL.pure (i := 11) (by kernel_rfl) (by kernel_rfl) rfl rfl rfl (OpP.indexAddr rfl rfl (by omega) (by omega)) ?_
      refine DL.pure (i := 12) (by kernel_rfl) (by kernel_rfl) rfl rfl rfl (OpP.fieldAddr rfl) ?_
      refine DL.read (i := 13) (by kernel_rfl) (by kernel_rfl) rfl rfl rfl (fun _ h => Own.pick (pre := [_, _]) [1] rfl h) (OpR.load1 rfl (by apply Cells.cellChunk (j := 1) hcs (fun _ h => Own.pick (pre := [_]) [] rfl h); (case' h => assumption); (case' hi => assumption); (case' hv => rfl); (case' ho => omega); done)) ?_
      refine DL.pure (i := 15) (by kernel_rfl) (by kernel_rfl) rfl rfl rfl (OpP.fieldAddr rfl) ?_
      refine DL.read (i := 16) (by kernel_rfl) (by kernel_rfl) rfl rfl rfl (fun _ h => Own.pick (pre := [_, _]) [1] rfl h) (OpR.load1 rfl (Cell.row .head rfl)) ?_
      refine DL.pure (i := 17) (by kernel_rfl) (by kernel_rfl) rfl rfl rfl (OpP.move rfl) ?_
      refine DL.pure (i := 18) (by kernel_rfl) (by kernel_rfl) rfl rfl rfl (OpP.indexAddr rfl rfl (by omega) (by omega)) ?_
      refine DL.pure (i := 19) (by kernel_rfl) (by kernel_rfl) rfl rfl rfl (OpP.fieldAddr rfl) ?_
      refine DL.read (i := 20) (by kernel_rfl) (by kernel_rfl) rfl rfl rfl (fun _ h => Own.pick (pre := [_, _]) [1] rfl h) (OpR.loadN rfl (by apply Cells.chunkSub (j := 2) (m := 4) hcs (fun _ h => Own.pick (pre := [_]) [] rfl h); (case' h => assumption); (case' hi => assumption); (case' hv => rfl); (case' ho => omega); done) (by rfl)) ?_
      refine DL.only (i := 7) (by kernel_rfl) ?_
      refine DL1.stepK rfl rfl rfl (by exact OpW.call (first := []) (captured := []) inferInstance rfl rfl textOf_ok) (by rintro _ _ ⟨rfl, rfl⟩ _ h; exact Own.pick (pre := [_, _]) [1] rfl h) ?_; rintro r122 _ ⟨rfl, rfl⟩
      refine DL.only (i := 14) (by kernel_rfl) ?_
      refine DL1.stepK rfl rfl rfl (by exact OpW.call (first := []) (captured := []) inferInstance rfl rfl textOf_ok) (by rintro _ _ ⟨rfl, rfl⟩ _ h; exact Own.pick (pre := [_, _]) [1] rfl h) ?_; rintro r129 _ ⟨rfl, rfl⟩
      refine DL.only (i := 21) (by kernel_rfl) ?_
      refine DL1.stepF rfl rfl rfl (by kernel_rfl) (by exact OpW.call (first := []) (captured := []) inferInstance rfl rfl (valueOf_ok (u := x.v))) ?_; rintro r136 _ ⟨rfl, rfl⟩
      refine DL.only (i := 22) (by kernel_rfl) ?_
      refine DL1.stepF rfl rfl rfl (by kernel_rfl) (OpM.w (by apply OpM.buildSlice (by rfl) rfl (by rfl); (repeat (first | exact Fills.nil | (apply Fills.cons rfl rfl rfl; (case' hs => ((repeat (first | exact Spl.nil | apply Spl.here | apply Spl.there)); done))))))) ?_; rintro _ _ ⟨b137, rfl, rfl⟩
      refine DL.only (i := 23) (by kernel_rfl) ?_
      refine DL1.f1 ?_; refine DL1.stepF rfl rfl rfl (by kernel_rfl) (OpM.w (OpM.appendH rfl (.inl ⟨_, Sl.und inferInstance⟩) (by rfl) rfl rfl (RdO.src (RdO.ofRow (.tail .head) (by first | exact Nat.le_refl _ | decide | omega)) (by first | assumption | exact fc_length _ _ | (simp; done) | (simp; omega))) (oneC rfl (oneC rfl (oneC rfl (oneC rfl (oneC rfl (oneC rfl (oneC rfl (oneC rfl (oneC rfl (oneC rfl (oneC rfl (oneC rfl (oneC rfl (oneC rfl (oneC rfl (oneC rfl (oneC rfl (oneC rfl (oneC rfl (oneC rfl (one1 rfl))))))))))))))))))))) (by simp only [maxLen]; omega) (by omega))) ?_; rintro _ _ ⟨⟨a138, c138, rfl⟩, rfl⟩
      refine DL.pure (i := 24) (by kernel_rfl) (by kernel_rfl) rfl rfl rfl (OpP.assign rfl) ?_
      refine DL.done (by kernel_rfl) ?_
      refine J.inBlock ?_
      refine J.region ?_
      refine JL.pure rfl rfl (OpP.move rfl) ?_
      refine JL.pure rfl rfl (OpP.addI rfl rfl (by omega) (by omega)) ?_
      refine JL.pure rfl rfl (OpP.assign rfl) ?_
      refine JL.nil ?_
      refine back (j + 1, .slice a138 (4 + 3 * j + 3) c138) (by dsimp only; omega) (by dsimp only; omega) (by repeat (first | exact SubEnv.nil | refine SubEnv.cons (by first | rfl | exact congrArg (fun z => some (Value.int .i64 z)) (by omega) | (simp; done)) ?_)) (fun _ h => ?_)
      dsimp only
      rw [List.take_add_one, hxj, Option.toList_some, show (c.hs.take j ++ [x]).flatMap hadP = (c.hs.take j).flatMap hadP ++ [x].flatMap hadP from List.flatMap_append, ← List.append_assoc, List.flatMap_append]
      rw [← ea] at h
      exact Own.pick (pre := [_, _, _]) [0, 2] rfl h
    · obtain rfl : j = c.hs.length := by omega
      rw [List.take_length]
      refine J.lit .head fun au cu eu => ?_; subst eu
      refine J.seq ?_
      refine J.seq ?_
      refine J.region ?_
      refine JL.pure rfl rfl (OpP.move rfl) ?_
      refine JL.pure rfl rfl (OpP.fieldAddr rfl) ?_
      refine JL.read rfl rfl (OpR.load1 rfl (Cell.row (.tail .head) rfl)) ?_
      refine JL.pure rfl rfl (OpP.len rfl rfl) ?_
      refine JL.decF rfl rfl (OpP.lss rfl rfl) (by omega) ?_
      refine JL.nil ?_
      refine J.condF rfl ?_
      refine J.exit rfl ?_
      refine J.seq ?_
      refine J.region ?_
      refine JL.pure rfl rfl (OpP.move rfl) ?_
      refine JL.pure rfl rfl (OpP.assign rfl) ?_
      refine JL.nil ?_
      refine J.ret1 rfl rfl ?_
      have hcl : (cmP c).length = 4 + 3 * c.hs.length := by rw [cmP, ht]; simp only [List.length_cons, List.length_append, List.length_nil, had_len]; omega
      rw [hcl, cmP, ht]
      exact ⟨_, ⟨_, _, rfl, rfl⟩, fun _ h => Own.pick (pre := [_, _]) [0] rfl h⟩
  have ht := td k1 k2 k3 k8 k9 k10 k11
  refine J.seq ?_
  refine J.region ?_
  refine JL.mem rfl rfl (OpM.box rfl rfl) ?_; rintro _ _ ⟨b1, rfl, rfl⟩
  refine JL.pure rfl rfl (OpP.assign rfl) ?_
  refine JL.nil ?_
  refine J.seq ?_
  refine J.region ?_
  refine JL.pure rfl rfl (OpP.fieldAddr rfl) ?_
  refine JL.read rfl rfl (OpR.load1 rfl (Cell.row .head rfl)) ?_
  refine JL.step rfl rfl (OpW.call (first := []) (captured := []) inferInstance rfl rfl byteOf_ok) ?_; rintro r7 _ ⟨rfl, rfl⟩
  refine JL.mem rfl rfl (by apply OpM.buildSlice (by rfl) rfl (by rfl); (repeat (first | exact Fills.nil | (apply Fills.cons rfl rfl rfl; (case' hs => ((repeat (first | exact Spl.nil | apply Spl.here | apply Spl.there)); done)))))) ?_; rintro _ _ ⟨b8, rfl, rfl⟩
  refine JL.pure rfl rfl (OpP.assign rfl) ?_
  refine JL.nil ?_
  refine J.seq ?_
  refine J.seq ?_
  refine J.region ?_
  refine JL.pure rfl rfl (OpP.fieldAddr rfl) ?_
  refine JL.read rfl rfl (OpR.load1 rfl (Cell.row (.tail .head) rfl)) ?_
  refine JL.nil ?_
  refine J.block ?_
  refine J.seq ?_
  refine J.region ?_
  refine JL.decF rfl rfl (OpP.eql rfl rfl) (by omega) ?_
  refine JL.pure rfl rfl (OpP.assign rfl) ?_
  refine JL.nil ?_
  refine J.condF rfl ?_
  refine J.seq ?_
  refine J.region ?_
  refine JL.decF rfl rfl (OpP.eql rfl rfl) (by omega) ?_
  refine JL.pure rfl rfl (OpP.assign rfl) ?_
  refine JL.nil ?_
  refine J.condF rfl ?_
  refine J.seq ?_
  refine J.region ?_
  refine JL.decF rfl rfl (OpP.eql rfl rfl) (by omega) ?_
  refine JL.pure rfl rfl (OpP.assign rfl) ?_
  refine JL.nil ?_
  refine J.condF rfl ?_
  refine J.seq ?_
  refine J.region ?_
  refine JL.decF rfl rfl (OpP.eql rfl rfl) (by omega) ?_
  refine JL.pure rfl rfl (OpP.assign rfl) ?_
  refine JL.nil ?_
  refine J.condF rfl ?_
  refine J.seq ?_
  refine J.region ?_
  refine JL.decF rfl rfl (OpP.eql rfl rfl) (by omega) ?_
  refine JL.pure rfl rfl (OpP.assign rfl) ?_
  refine JL.nil ?_
  refine J.condF rfl ?_
  refine J.seq ?_
  refine J.region ?_
  refine JL.decF rfl rfl (OpP.eql rfl rfl) (by omega) ?_
  refine JL.pure rfl rfl (OpP.assign rfl) ?_
  refine JL.nil ?_
  refine J.condF rfl ?_
  refine J.seq ?_
  refine J.region ?_
  refine JL.decF rfl rfl (OpP.eql rfl rfl) (by omega) ?_
  refine JL.pure rfl rfl (OpP.assign rfl) ?_
  refine JL.nil ?_
  refine J.condF rfl ?_
  refine J.skip ?_
  refine J.inBlock ?_
  refine J.seq ?_
  refine J.regionD [2, 5] (by kernel_rfl) ?_
  refine DL.pure (i := 0) (by kernel_rfl) (by kernel_rfl) rfl rfl rfl (OpP.move rfl) ?_
  refine DL.pure (i := 1) (by kernel_rfl) (by kernel_rfl) rfl rfl rfl (OpP.fieldAddr rfl) ?_
  refine DL.read (i := 2) (by kernel_rfl) (by kernel_rfl) rfl rfl rfl (fun _ h => h) (OpR.load1 rfl (Cell.row (.tail .head) rfl)) ?_
  refine DL.pure (i := 4) (by kernel_rfl) (by kernel_rfl) rfl rfl rfl (OpP.fieldAddr rfl) ?_
  refine DL.read (i := 5) (by kernel_rfl) (by kernel_rfl) rfl rfl rfl (fun _ h => h) (OpR.load1 rfl (Cell.row (.tail .head) rfl)) ?_
  refine DL.only (i := 3) (by kernel_rfl) ?_
  refine DL1.stepK rfl rfl rfl (by exact OpW.call (first := []) (captured := []) inferInstance rfl rfl textOf_ok) (by rintro _ _ ⟨rfl, rfl⟩ _ h; exact Own.pick (pre := [_, _]) [0, 1] rfl h) ?_; rintro r143 _ ⟨rfl, rfl⟩
  refine DL.only (i := 6) (by kernel_rfl) ?_
  refine DL1.stepF rfl rfl rfl (by kernel_rfl) (by exact OpW.call (first := []) (captured := []) inferInstance rfl rfl textOf_ok) ?_; rintro r146 _ ⟨rfl, rfl⟩
  refine DL.only (i := 7) (by kernel_rfl) ?_
  refine DL1.stepF rfl rfl rfl (by kernel_rfl) (OpM.w (by apply OpM.buildSlice (by rfl) rfl (by rfl); (repeat (first | exact Fills.nil | (apply Fills.cons rfl rfl rfl; (case' hs => ((repeat (first | exact Spl.nil | apply Spl.here | apply Spl.there)); done))))))) ?_; rintro _ _ ⟨b147, rfl, rfl⟩
  refine DL.only (i := 8) (by kernel_rfl) ?_
  refine DL1.f1 ?_; refine DL1.ownRow (n := 1) (sz := 7) (by decide) rfl ?_
  refine DL1.stepF rfl rfl rfl (by kernel_rfl) (OpM.w (OpM.appendH rfl (.inl ⟨_, Sl.und inferInstance⟩) (by rfl) rfl rfl (RdO.src (RdO.ofRow (.tail .head) (by first | exact Nat.le_refl _ | decide | omega)) (by first | assumption | exact fc_length _ _ | (simp; done) | (simp; omega))) (oneC rfl (oneC rfl (oneC rfl (oneC rfl (oneC rfl (oneC rfl (oneC rfl (oneC rfl (oneC rfl (oneC rfl (oneC rfl (oneC rfl (oneC rfl (one1 rfl)))))))))))))) (by simp only [maxLen]; omega) (by omega))) ?_; rintro _ _ ⟨⟨a148, c148, rfl⟩, rfl⟩
  refine DL.pure (i := 9) (by kernel_rfl) (by kernel_rfl) rfl rfl rfl (OpP.assign rfl) ?_
  refine DL.done (by kernel_rfl) ?_
  refine J.ret1 rfl rfl ?_
  rw [cmP, ht]
  exact ⟨_, ⟨_, _, rfl, rfl⟩, fun _ h => Own.pick (pre := [_, _, _]) [0] rfl h⟩
end Go.Proofs.E

-- seat e
namespace Go.Proofs.E
open Go Go.Gp Go.RowKit

theorem cmP_few {w0 : World} {F : List HProp} {c : Cm} (hc : CmOk w0 F c) (hz : CmSz c) (hm : MayP c) (ht : -9223372036854775808 ≤ c.t ∧ c.t ≤ 9223372036854775807) : ∀ p ∈ cmP c, (0 ≤ p.kd ∧ p.kd ≤ 255) ∧ (-9223372036854775808 ≤ p.n ∧ p.n ≤ 9223372036854775807) ∧ FewP p ∧ RdO w0 F (.slice p.u.a p.u.xs.length p.u.c) p.u.xs.length (p.u.xs.flatMap ecl) := by
  obtain ⟨t1, t2, t3, t8, t9, t10, t11, td⟩ := tail_of c
  have hk := hm.1.1
  have hN := hm.2.2.2.1
  have hN1 := hN.1
  have hN2 := hN.2.2.1
  have hN3 := hN.2.2.2.1
  have txt : ∀ {s : List UInt8}, s.length ≤ 5000 → (0 ≤ (tP s).kd ∧ (tP s).kd ≤ 255) ∧ (-9223372036854775808 ≤ (tP s).n ∧ (tP s).n ≤ 9223372036854775807) ∧ FewP (tP s) ∧ RdO w0 F (.slice (tP s).u.a (tP s).u.xs.length (tP s).u.c) (tP s).u.xs.length ((tP s).u.xs.flatMap ecl) := fun h => ⟨by dsimp only; omega, by dsimp only; omega, ⟨h, few_zVa⟩, rd_zVa⟩
  have num : ∀ {kd n : Int}, (0 ≤ kd ∧ kd ≤ 255) → -9223372036854775808 ≤ n → n ≤ 9223372036854775807 → (0 ≤ (pNum kd n).kd ∧ (pNum kd n).kd ≤ 255) ∧ (-9223372036854775808 ≤ (pNum kd n).n ∧ (pNum kd n).n ≤ 9223372036854775807) ∧ FewP (pNum kd n) ∧ RdO w0 F (.slice (pNum kd n).u.a (pNum kd n).u.xs.length (pNum kd n).u.c) (pNum kd n).u.xs.length ((pNum kd n).u.xs.flatMap ecl) := fun h h1 h2 => ⟨h, ⟨h1, h2⟩, ⟨Nat.zero_le _, few_zVa⟩, rd_zVa⟩
  have val : ∀ {u : Va}, VOk w0 F u → FewU u → (0 ≤ (pVal u).kd ∧ (pVal u).kd ≤ 255) ∧ (-9223372036854775808 ≤ (pVal u).n ∧ (pVal u).n ≤ 9223372036854775807) ∧ FewP (pVal u) ∧ RdO w0 F (.slice (pVal u).u.a (pVal u).u.xs.length (pVal u).u.c) (pVal u).u.xs.length ((pVal u).u.xs.flatMap ecl) := fun h h2 => ⟨by dsimp only; omega, by dsimp only; omega, ⟨Nat.zero_le _, h2⟩, h.r⟩
  intro p hp
  rw [cmP] at hp
  rcases List.mem_cons.1 hp with rfl | hp
  · exact num ⟨by decide, by decide⟩ (by omega) (by omega)
  by_cases k1 : c.kind = 1
  · rw [t1 k1] at hp
    simp only [List.mem_cons, List.not_mem_nil, or_false] at hp
    subst hp
    exact txt hz.text
  by_cases k2 : c.kind = 2
  · rw [t2 k2] at hp
    simp only [List.mem_cons, List.not_mem_nil, or_false] at hp
    rcases hp with rfl | rfl | rfl | rfl
    · exact txt hz.who
    · exact txt hz.name
    · exact txt hz.attr
    · exact val hc.v hz.v
  by_cases k3 : c.kind = 3
  · rw [t3 k3] at hp
    simp only [List.mem_cons, List.not_mem_nil, or_false] at hp
    rcases hp with rfl | rfl | rfl
    · exact txt hz.who
    · exact txt hz.name
    · exact txt hz.attr
  by_cases k8 : c.kind = 8
  · rw [t8 k8] at hp
    simp only [List.mem_cons, List.not_mem_nil, or_false] at hp
    rcases hp with rfl | rfl | rfl | rfl
    · exact txt hz.a
    · exact txt hz.b
    · exact num ⟨by decide, by decide⟩ (by omega) (by omega)
    · exact num ⟨by decide, by decide⟩ ht.1 ht.2
  by_cases k9 : c.kind = 9
  · rw [t9 k9] at hp
    simp only [List.mem_cons, List.not_mem_nil, or_false] at hp
    rcases hp with rfl | rfl
    · exact txt hz.a
    · exact num ⟨by decide, by decide⟩ (by omega) (by omega)
  by_cases k10 : c.kind = 10
  · rw [t10 k10] at hp
    simp only [List.mem_cons, List.not_mem_nil, or_false] at hp
    subst hp
    exact num ⟨by decide, by decide⟩ ht.1 ht.2
  by_cases k11 : c.kind = 11
  · rw [t11 k11] at hp
    simp only [List.mem_append, List.mem_cons, List.not_mem_nil, or_false, List.mem_flatMap, hadP] at hp
    rcases hp with (rfl | rfl | rfl) | ⟨x, hx, h⟩
    · exact txt hz.a
    · exact txt hz.b
    · exact num ⟨by decide, by decide⟩ (by omega) (by omega)
    · obtain ⟨z1, z2, z3⟩ := hz.h x hx
      rcases h with rfl | rfl | rfl
      · exact txt z1
      · exact txt z2
      · exact val (hc.h.v x hx) z3
  · rw [td k1 k2 k3 k8 k9 k10 k11] at hp
    simp only [List.mem_cons, List.not_mem_nil, or_false] at hp
    rcases hp with rfl | rfl
    · exact txt hz.a
    · exact txt hz.b
/-- The reference: the bytes of a command. -/
theorem refBytes_ok {w0 : World} {F : List HProp} {c : Cm} (hc : CmOk w0 F c) (hz : CmSz c) (ht : -9223372036854775808 ≤ c.t ∧ c.t ≤ 9223372036854775807) :
    FnO Try.prog w0 47 [.agg c.cells.toArray] F (EncP (MayP c) (cmO c) F) := by
  have p1 := fun (A : HProp) => may_ok (F := A :: F) hc.sub (by have := hz.who; have := hz.name; have := hz.attr; omega) (by have := hz.a; have := hz.b; omega)
  refine FnO.weak ?_
  refine FnO.intro (n := 18) Try.func47 rfl rfl rfl ?_
  refine J.seq ?_
  refine J.region ?_
  refine JL.mem rfl rfl (OpM.box rfl rfl) ?_; rintro _ _ ⟨b1, rfl, rfl⟩
  refine JL.pure rfl rfl (OpP.assign rfl) ?_
  refine JL.pure rfl rfl (OpP.assign rfl) ?_
  refine JL.nil ?_
  refine J.seq ?_
  refine J.seq ?_
  refine J.region ?_
  refine JL.read rfl rfl (OpR.loadN rfl (Cells.full .head) rfl) ?_
  refine JL.step rfl rfl (OpW.call (first := []) (captured := []) inferInstance rfl rfl (p1 _)) ?_; rintro r7 _ ⟨b, ⟨rfl, ⟨rfl, h7⟩⟩⟩
  refine JL.pure rfl rfl (OpP.notB rfl) ?_
  refine JL.nil ?_
  refine J.splitAt 8 rfl (fun h8 => ?_) (fun h8 => ?_)
  focus
    refine J.condT rfl ?_
    refine J.seq ?_
    refine J.region ?_
    refine JL.pure rfl rfl (OpP.assign rfl) ?_
    refine JL.pure rfl rfl (OpP.assign rfl) ?_
    refine JL.nil ?_
    refine J.ret2 rfl rfl rfl ?_
  rotate_left 1
  focus
    refine J.condF rfl ?_
    refine J.skip ?_
  rotate_left 1
  · exact ⟨_, .inr (.inr ⟨fun q => (by have := h7.2 q; rw [this] at h8; cases h8), rfl, rfl⟩), fun _ h => h.tail⟩
  have hm : MayP c := h7.1 (by cases b <;> first | rfl | cases h8)
  have hN3 := hm.2.2.2.1.2.2.2.1
  have hcl : (cmP c).length ≤ 9223372036854775807 := by
    obtain ⟨t1, t2, t3, t8, t9, t10, t11, td⟩ := tail_of c
    rw [cmP, List.length_cons]
    by_cases k11 : c.kind = 11
    · rw [t11 k11]; simp only [List.length_append, List.length_cons, List.length_nil, had_len]; omega
    have : (tailP c).length ≤ 4 := by
      unfold tailP
      rw [if_neg k11]
      repeat' split
      all_goals simp
    omega
  have pp := fun (A : HProp) => parts_ok (F := A :: F) hc.sub hN3
  have hF := cmP_few hc hz hm ht
  have pa := fun (A : HProp) (a : Option Addr) (k : Nat) => all_ok (w0 := w0) (F := own 31 7 (.slice a (cmP c).length k) (cmP c).length ((cmP c).flatMap pac) :: A :: F) (a := a) (c := k) (ps := cmP c) hcl (fun p hp => (hF p hp).1) (fun p hp => (hF p hp).2.1) (fun p hp => (hF p hp).2.2.1) (RdO.own .head) (fun p hp => (hF p hp).2.2.2.sub.sub)
  refine J.seq ?_
  refine J.region ?_
  refine JL.read rfl rfl (OpR.loadN rfl (Cells.full .head) rfl) ?_
  refine JL.step rfl rfl (OpW.call (first := []) (captured := []) inferInstance rfl rfl (pp _)) ?_; rintro r11 _ ⟨a, ⟨k, ⟨rfl, rfl⟩⟩⟩
  refine JL.step rfl rfl (OpW.call (first := []) (captured := []) inferInstance rfl rfl (pa _ _ _)) ?_; rintro r12 _ (⟨bs, ⟨a1, ⟨c1, ⟨h12, ⟨h121, ⟨rfl, rfl⟩⟩⟩⟩⟩⟩ | ⟨h122, ⟨rfl, rfl⟩⟩)
  focus
    refine JL.pure rfl rfl (OpP.move rfl) ?_
    refine JL.pure rfl rfl (OpP.extract rfl rfl) ?_
    refine JL.pure rfl rfl (OpP.extract rfl rfl) ?_
    refine JL.pure rfl rfl (OpP.assign rfl) ?_
    refine JL.pure rfl rfl (OpP.assign rfl) ?_
    refine JL.nil ?_
    refine J.seq ?_
    refine J.seq ?_
    refine J.region ?_
    refine JL.pure rfl rfl (OpP.move rfl) ?_
    refine JL.pure rfl rfl (OpP.notB rfl) ?_
    refine JL.nil ?_
    refine J.condF rfl ?_
    refine J.skip ?_
    refine J.seq ?_
    refine J.region ?_
    refine JL.pure rfl rfl (OpP.move rfl) ?_
    refine JL.pure rfl rfl (OpP.assign rfl) ?_
    refine JL.pure rfl rfl (OpP.assign rfl) ?_
    refine JL.nil ?_
    refine J.ret2 rfl rfl rfl ?_
  rotate_left 1
  focus
    refine JL.pure rfl rfl (OpP.move rfl) ?_
    refine JL.pure rfl rfl (OpP.extract rfl rfl) ?_
    refine JL.pure rfl rfl (OpP.extract rfl rfl) ?_
    refine JL.pure rfl rfl (OpP.assign rfl) ?_
    refine JL.pure rfl rfl (OpP.assign rfl) ?_
    refine JL.nil ?_
    refine J.seq ?_
    refine J.seq ?_
    refine J.region ?_
    refine JL.pure rfl rfl (OpP.move rfl) ?_
    refine JL.pure rfl rfl (OpP.notB rfl) ?_
    refine JL.nil ?_
    refine J.condT rfl ?_
    refine J.seq ?_
    refine J.region ?_
    refine JL.pure rfl rfl (OpP.assign rfl) ?_
    refine JL.pure rfl rfl (OpP.assign rfl) ?_
    refine JL.nil ?_
    refine J.ret2 rfl rfl rfl ?_
  rotate_left 1
  · exact ⟨_, .inl ⟨bs, a1, c1, hm, (by show allF _ _ = _; assumption), by assumption, rfl, rfl⟩, fun _ h => Own.pick (pre := [_, _, _]) [0] rfl h⟩
  · exact ⟨_, .inr (.inl ⟨hm, (by show allF _ _ = _; assumption), rfl, rfl⟩), fun _ h => Own.pick (pre := [_, _]) [] rfl h⟩
end Go.Proofs.E

-- seat e
namespace Go.Proofs.E
open Go Go.Gp Go.RowKit

open Classical in
/-- A value that is read: what is left. -/
noncomputable def valO (o : Option (List UInt8)) : Option (List UInt8) := if (decV o).Formed then decO o else none
abbrev toVa (V : Vv) (a : Option Addr) (c : Nat) : Va := ⟨V.k, V.i, V.s, V.xs, a, c⟩
open Classical in
/-- A value that is read. -/
noncomputable def valV (o : Option (List UInt8)) : Va := if valO o = none then zVa else toVa (decV o) none 0
theorem decV_few {o : Option (List UInt8)} {a : Option Addr} {c : Nat} (hf : (decV o).Formed) : FewU (toVa (decV o) a c) := by
  unfold Vv.Formed FormedP at hf
  split at hf
  · have h1 := hf.1
    have h2 := hf.2.1
    exact ⟨by dsimp only; omega, by dsimp only; omega, fun j e he => by have := (List.getElem?_eq_some_iff.1 he).1; dsimp only at this; omega⟩
  · obtain ⟨f1, f2, f3, f4⟩ := hf
    refine ⟨by dsimp only; omega, by dsimp only; omega, fun j e he => ?_⟩
    obtain ⟨g1, _⟩ := f4 j e he
    exact ⟨by have := g1.2.1; omega, g1.1⟩
theorem rval_ok {w0 : World} {F : List HProp} {g : Nat} {bad : Bool} {v : Value} {M : List UInt8} (hM : M.length ≤ 1000000000) :
    FnO Try.prog w0 22 [.pointer (some ⟨g, 0, none⟩)] (inL g bad v M F) (fun r l' => ∃ bad' v' M' u, M'.length ≤ 1000000000 ∧ absO bad' M' = valO (absO bad M) ∧ VaEq u (valV (absO bad M)) ∧ FewU u ∧ u.Fm ∧ r = .agg #[.int .i64 u.k, .int .i64 u.i, .string (strB u.s), .slice u.a u.xs.length u.c] ∧ l' = own 29 4 (.slice u.a u.xs.length u.c) u.xs.length (u.xs.flatMap ecl) :: inL g bad' v' M' F) := by
  refine FnO.weak ((inVal_ok' hM).mono fun r l' h => ?_)
  rcases h with ⟨v', M', a, c, h1, h2, h3, h4, h5⟩ | ⟨v', M', h1, h2, h3, h4⟩
  · have hv : valO (absO bad M) = some M' := by rw [valO, if_pos h3, h2]
    have hu : valV (absO bad M) = toVa (decV (absO bad M)) none 0 := by rw [valV, if_neg (by rw [hv]; simp)]
    exact ⟨_, ⟨false, v', M', toVa (decV (absO bad M)) a c, h1, hv.symm, by rw [hu]; exact ⟨rfl, rfl, rfl, rfl⟩, decV_few h3, h3, h4, rfl⟩, fun w hw => by rw [h5] at hw; exact hw⟩
  · have hv : valO (absO bad M) = none := by
      unfold valO
      split
      · rcases h2 with h2 | h2
        · exact h2
        · exact absurd (by assumption) h2
      · rfl
    have hu : valV (absO bad M) = zVa := by rw [valV, if_pos hv]
    exact ⟨_, ⟨true, v', M', zVa, h1, hv.symm, by rw [hu]; exact VaEq.rfl, few_zVa, zVa_fm, h3, rfl⟩, fun w hw => by rw [h4] at hw; exact hw.own_nil⟩
/-- What is had, read. -/
noncomputable def hsl : Nat → Option (List UInt8) → Option (List UInt8) × List Hd
  | 0, o => (o, [])
  | m + 1, o => ((hsl m (valO (textR (textR o 4096) 4096))).1, ⟨textV o 4096, textV (textR o 4096) 4096, valV (textR (textR o 4096) 4096)⟩ :: (hsl m (valO (textR (textR o 4096) 4096))).2)
def GoodH (x : Hd) : Prop := x.who.length ≤ 4096 ∧ x.name.length ≤ 4096 ∧ FewU x.v ∧ x.v.Fm
theorem HsEq.snoc {xs ys : List Hd} {x y : Hd} (h : HsEq xs ys) (hx : x.Eq y) : HsEq (xs ++ [x]) (ys ++ [y]) := by
  refine ⟨by rw [List.length_append, List.length_append, h.1]; rfl, fun j u w hu hw => ?_⟩
  rcases Nat.lt_or_ge j xs.length with hj | hj
  · rw [List.getElem?_append_left hj] at hu
    rw [List.getElem?_append_left (by rw [← h.1]; exact hj)] at hw
    exact h.2 j u w hu hw
  · rw [List.getElem?_append_right hj] at hu
    rw [List.getElem?_append_right (by rw [← h.1]; exact hj), ← h.1] at hw
    have h0 : j - xs.length = 0 := by
      have := (List.getElem?_eq_some_iff.1 hu).1
      simp only [List.length_cons, List.length_nil] at this
      omega
    rw [h0] at hu hw
    obtain rfl := Option.some.inj hu
    obtain rfl := Option.some.inj hw
    exact hx
theorem RdO.star {w0 : World} {A B : HProp} {l : List HProp} {v : Value} {n : Nat} {cs : List Value} (h : RdO w0 (A :: B :: l) v n cs) : RdO w0 (star A B :: l) v n cs := h.conv fun _ h => h.star_out
theorem rhas_ok {w0 : World} {F : List HProp} {g : Nat} {bad : Bool} {v : Value} {M : List UInt8} (hM : M.length ≤ 1000000000) :
    FnO Try.prog w0 101 [.agg #[.pointer (some ⟨g, 0, none⟩)]] (inL g bad v M F) (fun r l' => ∃ bad' v' M' a c hs H, M'.length ≤ 1000000000 ∧ HsEq hs (hsl (numI (absO bad M) 1) (restO (absO bad M) 1)).2 ∧ absO bad' M' = (hsl (numI (absO bad M) 1) (restO (absO bad M) 1)).1 ∧ (∀ x ∈ hs, GoodH x) ∧ (∀ l, HsOk w0 (H :: l) a c hs) ∧ r = .slice a hs.length c ∧ l' = H :: inL g bad' v' M' F) := by
  have hn : numI (absO bad M) 1 < 256 := numI_lt
  refine FnO.weak ?_
  refine FnO.intro (n := 22) Try.func101 rfl rfl rfl ?_
  refine J.lit (.tail .head) fun av cv ev => ?_; subst ev
  refine J.seq ?_
  refine J.region ?_
  refine JL.mem rfl rfl (OpM.box rfl rfl) ?_; rintro _ _ ⟨b1, rfl, rfl⟩
  refine JL.pure rfl rfl (OpP.assign rfl) ?_
  refine JL.nil ?_
  refine J.conv (l' := inL g bad _ M (row b1 110 [.pointer (some ⟨g, 0, none⟩)] :: F)) (fun _ h => Own.pick (pre := [_, _, _]) [1, 2, 0] rfl h) ?_
  refine J.seq ?_
  refine J.region ?_
  refine JL.pure rfl rfl (OpP.assign rfl) ?_
  refine JL.nil ?_
  refine J.seq ?_
  refine J.seq ?_
  refine J.region ?_
  refine JL.pure rfl rfl (OpP.fieldAddr rfl) ?_
  refine JL.read rfl rfl (OpR.load1 rfl (Cell.row (.tail (.tail .head)) rfl)) ?_
  refine JL.step rfl rfl (OpW.call (first := []) (captured := []) inferInstance rfl rfl (inU8_ok hM)) ?_; rintro r6 _ ⟨bad', ⟨v', ⟨M', ⟨h6, ⟨h61, ⟨rfl, rfl⟩⟩⟩⟩⟩⟩
  refine JL.lit (.tail .head) fun av' cv' ev' => ?_; subst ev'
  refine JL.pure rfl rfl (OpP.move rfl) ?_
  refine JL.nil ?_
  refine J.block ?_
  generalize numI (absO bad M) 1 = N at hn
  generalize restO (absO bad M) 1 = O at h61
  refine J.loopI (fun x : Nat × Bool × Value × List UInt8 × Value × List Hd × List Hd × HProp => N - x.1) (fun x => x.1 ≤ N ∧ x.2.2.2.1.length ≤ 1000000000 ∧ x.2.2.2.2.2.1.length = x.1 ∧ hsl N O = ((hsl (N - x.1) (absO x.2.1 x.2.2.2.1)).1, x.2.2.2.2.2.2.1 ++ (hsl (N - x.1) (absO x.2.1 x.2.2.2.1)).2) ∧ HsEq x.2.2.2.2.2.1 x.2.2.2.2.2.2.1 ∧ ∀ y ∈ x.2.2.2.2.2.1, GoodH y ∧ ∀ l, VRaw w0 (x.2.2.2.2.2.2.2 :: l) y.v) (fun x => [(7, .int .i64 (x.1 : Nat)), (6, .int .i64 (N : Nat)), (3, x.2.2.2.2.1), (1, .pointer (some ⟨b1, 0, none⟩))])
    (fun x => x.2.2.2.2.2.2.2 :: own 99 6 x.2.2.2.2.1 x.1 (x.2.2.2.2.2.1.flatMap hcl) :: inL g x.2.1 x.2.2.1 x.2.2.2.1 (row b1 110 [.pointer (some ⟨g, 0, none⟩)] :: F))
    (0, bad', .slice av' M'.length cv', M', .slice none 0 0, [], [], emp) ⟨Nat.zero_le _, h6, rfl, by dsimp only; rw [h61]; rfl, HsEq.rfl, fun y hy => by cases hy⟩ (by repeat (first | exact SubEnv.nil | refine SubEnv.cons (by first | rfl | exact congrArg (fun z => some (Value.int .i64 z)) (by omega) | (simp; done)) ?_)) (fun _ h => Own.emp_in h.own_nil) (fun ⟨j, bd, z, Q, u, hs, pre, H⟩ hi back => ?_)
  dsimp only at hi back ⊢
  obtain ⟨hj, hQ, hl, he, hq, hgd⟩ := hi
  by_cases hlt : j < N
  · obtain ⟨m, hm⟩ : ∃ m, N - j = m + 1 := ⟨N - j - 1, by omega⟩
    rw [hm, hsl] at he
    refine J.lit (.tail .head) fun au cu eu => ?_; subst eu
    refine J.lit (.tail (.tail (.tail .head))) fun az cz ez => ?_; subst ez
    refine J.seq ?_
    refine J.region ?_
    refine JL.decT rfl rfl (OpP.lss rfl rfl) (by omega) ?_
    refine JL.nil ?_
    refine J.seq ?_
    refine J.condT rfl ?_
    refine J.skip ?_
    refine J.seq ?_
    refine J.block ?_
    refine J.regionDC (cl := row b1 110 [.pointer (some ⟨g, 0, none⟩)] :: F) [1, 3, 6] (by kernel_rfl) ?_
    refine DL.pure (i := 0) (by kernel_rfl) (by kernel_rfl) rfl rfl rfl (OpP.move rfl) ?_
    refine DL.read (i := 1) (by kernel_rfl) (by kernel_rfl) rfl rfl rfl (fun _ h => Own.pick (pre := [_, _, _, _, _]) [4] rfl h) (OpR.loadN rfl (Cells.full .head) rfl) ?_
    refine DL.read (i := 3) (by kernel_rfl) (by kernel_rfl) rfl rfl rfl (fun _ h => Own.pick (pre := [_, _, _, _, _]) [4] rfl h) (OpR.loadN rfl (Cells.full .head) rfl) ?_
    refine DL.pure (i := 5) (by kernel_rfl) (by kernel_rfl) rfl rfl rfl (OpP.fieldAddr rfl) ?_
    refine DL.read (i := 6) (by kernel_rfl) (by kernel_rfl) rfl rfl rfl (fun _ h => Own.pick (pre := [_, _, _, _, _]) [4] rfl h) (OpR.load1 rfl (Cell.row .head rfl)) ?_
    refine DL.only (i := 2) (by kernel_rfl) ?_
    refine DL1.f3 ?_; refine DL1.f3 ?_; refine DL1.stepK rfl rfl rfl (by exact OpW.call (first := []) (captured := []) inferInstance rfl rfl (rtext_ok hQ)) (by rintro _ _ ⟨bad'1, ⟨v', ⟨M'1, ⟨h11, ⟨h111, ⟨rfl, rfl⟩⟩⟩⟩⟩⟩ _ h; exact Own.pick (pre := [_, _, _, _, _]) [4] rfl h) ?_; rintro r11 _ ⟨bad'1, ⟨v', ⟨M'1, ⟨h11, ⟨h111, ⟨rfl, rfl⟩⟩⟩⟩⟩⟩
    refine DL.lit (.tail .head) fun av' cv' ev' => ?_; subst ev'
    refine DL.only (i := 4) (by kernel_rfl) ?_
    refine DL1.stepK rfl rfl rfl (by exact OpW.call (first := []) (captured := []) inferInstance rfl rfl (rtext_ok (by assumption))) (by rintro _ _ ⟨bad'2, ⟨v', ⟨M'2, ⟨h13, ⟨h131, ⟨rfl, rfl⟩⟩⟩⟩⟩⟩ _ h; exact Own.pick (pre := [_, _, _, _, _]) [4] rfl h) ?_; rintro r13 _ ⟨bad'2, ⟨v', ⟨M'2, ⟨h13, ⟨h131, ⟨rfl, rfl⟩⟩⟩⟩⟩⟩
    refine DL.lit (.tail .head) fun av' cv' ev' => ?_; subst ev'
    refine DL.only (i := 7) (by kernel_rfl) ?_
    refine DL1.stepF rfl rfl rfl (by kernel_rfl) (by exact OpW.call (first := []) (captured := []) inferInstance rfl rfl (rval_ok (by assumption))) ?_; rintro r16 _ ⟨bad'3, ⟨v', ⟨M'3, ⟨u, ⟨h16, ⟨h161, ⟨h162, ⟨h163, ⟨h164, ⟨rfl, rfl⟩⟩⟩⟩⟩⟩⟩⟩⟩⟩
    refine DL.lit (.tail (.tail .head)) fun av' cv' ev' => ?_; subst ev'
    refine DL.pure (i := 8) (by kernel_rfl) (by kernel_rfl) rfl rfl rfl (OpP.build rfl (by (repeat (first | exact Fills.nil | (apply Fills.cons rfl rfl rfl; (case' hs => ((repeat (first | exact Spl.nil | apply Spl.here | apply Spl.there)); done))))))) ?_
    refine DL.only (i := 9) (by kernel_rfl) ?_
    refine DL1.stepF rfl rfl rfl (by kernel_rfl) (OpM.w (by apply OpM.buildSlice (by rfl) rfl (by rfl); (repeat (first | exact Fills.nil | (apply Fills.cons rfl rfl rfl; (case' hs => ((repeat (first | exact Spl.nil | apply Spl.here | apply Spl.there)); done))))))) ?_; rintro _ _ ⟨b18, rfl, rfl⟩
    refine DL.only (i := 10) (by kernel_rfl) ?_
    refine DL1.f5 ?_; refine DL1.stepF rfl rfl rfl (by kernel_rfl) (OpM.w (OpM.appendH rfl (.inl ⟨_, Sl.und inferInstance⟩) (by rfl) rfl rfl (RdO.src (RdO.ofRow (.tail .head) (by first | exact Nat.le_refl _ | decide | omega)) (by first | assumption | exact fc_length _ _ | (simp; done) | (simp; omega))) (oneC rfl (oneC rfl (oneC rfl (oneC rfl (oneC rfl (one1 rfl)))))) (by simp only [maxLen]; omega) (by omega))) ?_; rintro _ _ ⟨⟨a19, c19, rfl⟩, rfl⟩
    refine DL.pure (i := 11) (by kernel_rfl) (by kernel_rfl) rfl rfl rfl (OpP.assign rfl) ?_
    refine DL.done (by kernel_rfl) ?_
    refine J.inBlock ?_
    refine J.region ?_
    refine JL.pure rfl rfl (OpP.addI rfl rfl (by omega) (by omega)) ?_
    refine JL.pure rfl rfl (OpP.move rfl) ?_
    refine JL.nil ?_
    have hx : Hd.Eq ⟨textV (absO bd Q) 4096, textV (absO bad'1 M'1) 4096, u⟩ ⟨textV (absO bd Q) 4096, textV (textR (absO bd Q) 4096) 4096, valV (textR (textR (absO bd Q) 4096) 4096)⟩ := ⟨rfl, by rw [h111], by rw [h131, h111] at h162; exact h162⟩
    refine back (j + 1, bad'3, .slice av' M'3.length cv', M'3, .slice a19 (j + 1) c19, hs ++ [⟨textV (absO bd Q) 4096, textV (absO bad'1 M'1) 4096, u⟩], pre ++ [⟨textV (absO bd Q) 4096, textV (textR (absO bd Q) 4096) 4096, valV (textR (textR (absO bd Q) 4096) 4096)⟩], star (own 29 4 (.slice u.a u.xs.length u.c) u.xs.length (u.xs.flatMap ecl)) H) ⟨by dsimp only; omega, h16, by dsimp only; rw [List.length_append, hl]; rfl, ?_, hq.snoc hx, fun y hy => ?_⟩ (by dsimp only; omega) (by repeat (first | exact SubEnv.nil | refine SubEnv.cons (by first | rfl | exact congrArg (fun z => some (Value.int .i64 z)) (by omega) | (simp; done)) ?_)) (fun _ h => ?_)
    · dsimp only
      rw [he, show N - (j + 1) = m by omega, h161, h131, h111, List.append_assoc]; rfl
    · dsimp only at hy ⊢
      rcases List.mem_append.1 hy with hy | hy
      · exact ⟨(hgd y hy).1, fun l => RdO.star (RdO.sub ((hgd y hy).2 l))⟩
      · obtain rfl := List.mem_singleton.1 hy
        exact ⟨⟨textV_le4, textV_le4, h163, h164⟩, fun l => RdO.star (RdO.own .head)⟩
    · dsimp only
      rw [List.flatMap_append]
      exact Own.star_in (Own.pick (pre := [_, _, _, _, _, _, _]) [2, 5, 0, 3, 4, 6] rfl h)
  · obtain rfl : j = N := by omega
    rw [Nat.sub_self, show ∀ o, hsl 0 o = (o, []) from fun _ => rfl, List.append_nil] at he
    subst hl
    refine J.lit (.tail .head) fun au cu eu => ?_; subst eu
    refine J.lit (.tail (.tail (.tail .head))) fun az cz ez => ?_; subst ez
    refine J.seq ?_
    refine J.region ?_
    refine JL.decF rfl rfl (OpP.lss rfl rfl) (by omega) ?_
    refine JL.nil ?_
    refine J.seq ?_
    refine J.condF rfl ?_
    refine J.exit rfl ?_
    refine J.seq ?_
    refine J.region ?_
    refine JL.pure rfl rfl (OpP.move rfl) ?_
    refine JL.pure rfl rfl (OpP.assign rfl) ?_
    refine JL.nil ?_
    refine J.ret1 rfl rfl ?_
    refine ⟨_, ⟨bd, _, Q, _, _, hs, star H (own 99 6 (.slice au hs.length cu) hs.length (hs.flatMap hcl)), hQ, by rw [he]; exact hq, by rw [he], fun x hx => (hgd x hx).1, fun l => ⟨by omega, fun x hx => vOk_of (RdO.star ((hgd x hx).2 _)) (hgd x hx).1.2.2.1, RdO.star (RdO.own (.tail .head))⟩, rfl, rfl⟩, fun _ h => Own.star_in (Own.pick (pre := [_, _, _, _, _]) [0, 1, 2, 3] rfl h)⟩
end Go.Proofs.E

-- seat e
namespace Go.Proofs.E
open Go Go.Gp Go.RowKit

/-- A command that is read: what is left, and what is in it. -/
noncomputable def rcm (o : Option (List UInt8)) : Option (List UInt8) × Cm :=
  let k : Int := (numI o 1 : Nat)
  let o1 := restO o 1
  let a := textV o1 4096
  let o2 := textR o1 4096
  let b := textV o2 4096
  let o3 := textR o2 4096
  let c := textV o3 4096
  let o4 := textR o3 4096
  if k = 1 then (o2, ⟨k, a, zRw, [], [], 0, 0, [], none, 0⟩)
  else if k = 2 then (valO o4, ⟨k, [], ⟨a, b, c, valV o4⟩, [], [], 0, 0, [], none, 0⟩)
  else if k = 3 then (o4, ⟨k, [], ⟨a, b, c, zVa⟩, [], [], 0, 0, [], none, 0⟩)
  else if k = 9 then (restO o2 2, ⟨k, [], zRw, a, [], (numI o2 2 : Nat), 0, [], none, 0⟩)
  else if k = 10 then (restO o1 8, ⟨k, [], zRw, [], [], 0, i64 (numI o1 8), [], none, 0⟩)
  else if k = 8 then (restO (restO o3 1) 8, ⟨k, [], zRw, a, b, (numI o3 1 : Nat), i64 (numI (restO o3 1) 8), [], none, 0⟩)
  else if k = 11 then ((hsl (numI o3 1) (restO o3 1)).1, ⟨k, [], zRw, a, b, 0, 0, (hsl (numI o3 1) (restO o3 1)).2, none, 0⟩)
  else (o3, ⟨k, [], zRw, a, b, 0, 0, [], none, 0⟩)
theorem t5 {o : Option (List UInt8)} : (textV o 4096).length ≤ 5000 := Nat.le_trans textV_le4 (by decide)
theorem rcmd_ok {w0 : World} {F : List HProp} {g : Nat} {bad : Bool} {v : Value} {M : List UInt8} (hM : M.length ≤ 1000000000) :
    FnO Try.prog w0 82 [.agg #[.pointer (some ⟨g, 0, none⟩)]] (inL g bad v M F) (fun r l' => ∃ bad' v' M' c H, M'.length ≤ 1000000000 ∧ absO bad' M' = (rcm (absO bad M)).1 ∧ Cm.Eq c (rcm (absO bad M)).2 ∧ CmSz c ∧ c.row.v.Fm ∧ (∀ x ∈ c.hs, x.v.Fm) ∧ (∀ l, CmOk w0 (H :: l) c) ∧ r = .agg c.cells.toArray ∧ l' = H :: inL g bad' v' M' F) := by
  have hkb : numI (absO bad M) 1 < 256 := numI_lt
  refine FnO.weak ?_
  refine FnO.intro (n := 77) Try.func82 rfl rfl rfl ?_
  refine J.lit (.tail .head) fun av cv ev => ?_; subst ev
  refine J.seq ?_
  refine J.region ?_
  refine JL.mem rfl rfl (OpM.box rfl rfl) ?_; rintro _ _ ⟨b1, rfl, rfl⟩
  refine JL.mem rfl rfl OpM.alloc ?_; rintro _ _ ⟨b2, rfl, rfl⟩
  refine JL.nil ?_
  refine J.seq ?_
  refine J.region ?_
  refine JL.pure rfl rfl (OpP.fieldAddr rfl) ?_
  refine JL.read rfl rfl (OpR.load1 rfl (Cell.row (.tail .head) rfl)) ?_
  refine JL.f3 ?_; refine JL.f3 ?_; refine JL.step rfl rfl (OpW.call (first := []) (captured := []) inferInstance rfl rfl (inU8_ok hM)) ?_; rintro r6 _ ⟨bad', ⟨v', ⟨M', ⟨h6, ⟨h61, ⟨rfl, rfl⟩⟩⟩⟩⟩⟩
  refine JL.lit (.tail .head) fun av' cv' ev' => ?_; subst ev'
  refine JL.pure rfl rfl (OpP.build rfl (by (repeat (first | exact Fills.nil | (apply Fills.cons rfl rfl rfl; (case' hs => ((repeat (first | exact Spl.nil | apply Spl.here | apply Spl.there)); done))))))) ?_
  refine JL.mem rfl rfl OpM.alloc ?_; rintro _ _ ⟨b3, rfl, rfl⟩
  refine JL.mem0 rfl (by apply OpM.storeN rfl rfl (by rfl) (oneC rfl (oneC rfl (oneC rfl (oneC rfl (oneC rfl (oneC rfl (oneC rfl (oneC rfl (oneC rfl (oneC rfl (oneC rfl (oneC rfl (oneC rfl (one1 rfl)))))))))))))); (case' hu => exact .head); (case' hs => exact (.here (.here (.here (.here (.here (.here (.here (.here (.here (.here (.here (.here (.here (.here .nil))))))))))))))); done) ?_; rintro _ _ ⟨rfl, rfl⟩
  refine JL.nil ?_
  refine J.seq ?_
  generalize hO : restO (absO bad M) 1 = O at h61
  by_cases k1 : numI (absO bad M) 1 = 1
  · rw [k1]
    refine J.seq ?_
    refine J.region ?_
    refine JL.pure rfl rfl (OpP.fieldAddr rfl) ?_
    refine JL.read rfl rfl (OpR.load1 rfl (Cell.row .head rfl)) ?_
    refine JL.nil ?_
    refine J.block ?_
    refine J.seq ?_
    refine J.region ?_
    refine JL.decT rfl rfl (OpP.eql rfl rfl) (by omega) ?_
    refine JL.pure rfl rfl (OpP.assign rfl) ?_
    refine JL.nil ?_
    refine J.condT rfl ?_
    refine J.region ?_
    refine JL.read rfl rfl (OpR.loadN rfl (Cells.full (.tail (.tail (.tail (.tail .head))))) rfl) ?_
    refine JL.f2 ?_; refine JL.f2 ?_; refine JL.step rfl rfl (OpW.call (first := []) (captured := []) inferInstance rfl rfl (rtext_ok (by assumption))) ?_; rintro r19 _ ⟨bad'1, ⟨v', ⟨M'1, ⟨h19, ⟨h191, ⟨rfl, rfl⟩⟩⟩⟩⟩⟩
    refine JL.lit (.tail .head) fun av' cv' ev' => ?_; subst ev'
    refine JL.pure rfl rfl (OpP.fieldAddr rfl) ?_
    refine JL.mem0 rfl (by apply OpM.store1 rfl rfl rfl; (case' hu => exact (.tail (.tail .head))); (case' hs => exact (.there (.here .nil))); done) ?_; rintro _ _ ⟨rfl, rfl⟩
    refine JL.nil ?_
    refine J.inBlock ?_
    refine J.seq ?_
    refine J.seq ?_
    refine J.region ?_
    refine JL.pure rfl rfl (OpP.fieldAddr rfl) ?_
    refine JL.read rfl rfl (OpR.load1 rfl (Cell.row (.tail (.tail .head)) rfl)) ?_
    refine JL.nil ?_
    refine J.block ?_
    refine J.seq ?_
    refine J.region ?_
    refine JL.decF rfl rfl (OpP.eql rfl rfl) (by omega) ?_
    refine JL.pure rfl rfl (OpP.assign rfl) ?_
    refine JL.nil ?_
    refine J.condF rfl ?_
    refine J.seq ?_
    refine J.region ?_
    refine JL.decF rfl rfl (OpP.eql rfl rfl) (by omega) ?_
    refine JL.pure rfl rfl (OpP.assign rfl) ?_
    refine JL.nil ?_
    refine J.condF rfl ?_
    refine J.skip ?_
    refine J.inBlock ?_
    refine J.seq ?_
    refine J.region ?_
    refine JL.read rfl rfl (OpR.loadN rfl (Cells.full (.tail (.tail .head))) rfl) ?_
    refine JL.mem0 rfl (by apply OpM.storeN rfl rfl (by rfl) (oneC rfl (oneC rfl (oneC rfl (oneC rfl (oneC rfl (oneC rfl (oneC rfl (oneC rfl (oneC rfl (oneC rfl (oneC rfl (oneC rfl (oneC rfl (one1 rfl)))))))))))))); (case' hu => exact (.tail (.tail (.tail .head)))); (case' hs => exact (.here (.here (.here (.here (.here (.here (.here (.here (.here (.here (.here (.here (.here (.here .nil))))))))))))))); done) ?_; rintro _ _ ⟨rfl, rfl⟩
    refine JL.nil ?_
    refine J.retC rfl rfl (by apply Cells.full; (with_reducible repeat (first | exact .head | apply Has.tail))) (by first | (rw [List.length_append, hdC_len (by first | assumption | exact Go.Proofs.B.shaB_length _ _ | solve_by_elim)]; rfl) | exact hdC_len (by first | assumption | exact Go.Proofs.B.shaB_length _ _ | solve_by_elim) | (rw [bcells_length]; first | assumption | exact Go.Proofs.B.shaB_length _ _ | solve_by_elim) | exact fc_length _ _ | exact fB_length _ _ | rfl) ?_
    have hr : rcm (absO bad M) = (textR O 4096, ⟨((1 : Nat) : Int), textV O 4096, zRw, [], [], 0, 0, [], none, 0⟩) := by dsimp only [rcm]; rw [k1, hO]; rw [if_pos (by decide)]
    rw [h61] at h191
    rw [h61]
    refine ⟨_, ⟨bad'1, _, M'1, ⟨((1 : Nat) : Int), textV O 4096, zRw, [], [], 0, 0, [], none, 0⟩, emp, h19, by rw [hr]; exact h191, by rw [hr]; exact ⟨rfl, rfl, Rw.Eq.rfl, rfl, rfl, rfl, rfl, HsEq.rfl⟩, ⟨t5, Nat.zero_le _, Nat.zero_le _, Nat.zero_le _, Nat.zero_le _, Nat.zero_le _, by simp, few_zVa⟩, zVa_fm, (fun x hx => by cases hx), fun l => ⟨vOk_z, hsOk_z⟩, rfl, rfl⟩, fun _ h => Own.emp_in (Own.pick (pre := [_, _, _, _, _]) [0, 1] rfl h)⟩
  by_cases k2 : numI (absO bad M) 1 = 2
  · rw [k2]
    refine J.seq ?_
    refine J.region ?_
    refine JL.pure rfl rfl (OpP.fieldAddr rfl) ?_
    refine JL.read rfl rfl (OpR.load1 rfl (Cell.row .head rfl)) ?_
    refine JL.nil ?_
    refine J.block ?_
    refine J.seq ?_
    refine J.region ?_
    refine JL.decF rfl rfl (OpP.eql rfl rfl) (by omega) ?_
    refine JL.pure rfl rfl (OpP.assign rfl) ?_
    refine JL.nil ?_
    refine J.condF rfl ?_
    refine J.seq ?_
    refine J.region ?_
    refine JL.decT rfl rfl (OpP.eql rfl rfl) (by omega) ?_
    refine JL.pure rfl rfl (OpP.assign rfl) ?_
    refine JL.nil ?_
    refine J.condT rfl ?_
    refine J.regionDC (cl := row b1 110 [.pointer (some ⟨g, 0, none⟩)] :: F) [0, 2, 4, 7] (by kernel_rfl) ?_
    refine DL.read (i := 0) (by kernel_rfl) (by kernel_rfl) rfl rfl rfl (fun _ h => Own.pick (pre := [_, _, _, _, _]) [4] rfl h) (OpR.loadN rfl (Cells.full .head) rfl) ?_
    refine DL.read (i := 2) (by kernel_rfl) (by kernel_rfl) rfl rfl rfl (fun _ h => Own.pick (pre := [_, _, _, _, _]) [4] rfl h) (OpR.loadN rfl (Cells.full .head) rfl) ?_
    refine DL.read (i := 4) (by kernel_rfl) (by kernel_rfl) rfl rfl rfl (fun _ h => Own.pick (pre := [_, _, _, _, _]) [4] rfl h) (OpR.loadN rfl (Cells.full .head) rfl) ?_
    refine DL.pure (i := 6) (by kernel_rfl) (by kernel_rfl) rfl rfl rfl (OpP.fieldAddr rfl) ?_
    refine DL.read (i := 7) (by kernel_rfl) (by kernel_rfl) rfl rfl rfl (fun _ h => Own.pick (pre := [_, _, _, _, _]) [4] rfl h) (OpR.load1 rfl (Cell.row .head rfl)) ?_
    refine DL.only (i := 1) (by kernel_rfl) ?_
    refine DL1.f2 ?_; refine DL1.f2 ?_; refine DL1.stepK rfl rfl rfl (by exact OpW.call (first := []) (captured := []) inferInstance rfl rfl (rtext_ok (by assumption))) (by rintro _ _ ⟨bad'1, ⟨v', ⟨M'1, ⟨h24, ⟨h241, ⟨rfl, rfl⟩⟩⟩⟩⟩⟩ _ h; exact Own.pick (pre := [_, _, _, _, _]) [4] rfl h) ?_; rintro r24 _ ⟨bad'1, ⟨v', ⟨M'1, ⟨h24, ⟨h241, ⟨rfl, rfl⟩⟩⟩⟩⟩⟩
    refine DL.lit (.tail .head) fun av' cv' ev' => ?_; subst ev'
    refine DL.only (i := 3) (by kernel_rfl) ?_
    refine DL1.stepK rfl rfl rfl (by exact OpW.call (first := []) (captured := []) inferInstance rfl rfl (rtext_ok (by assumption))) (by rintro _ _ ⟨bad'2, ⟨v', ⟨M'2, ⟨h26, ⟨h261, ⟨rfl, rfl⟩⟩⟩⟩⟩⟩ _ h; exact Own.pick (pre := [_, _, _, _, _]) [4] rfl h) ?_; rintro r26 _ ⟨bad'2, ⟨v', ⟨M'2, ⟨h26, ⟨h261, ⟨rfl, rfl⟩⟩⟩⟩⟩⟩
    refine DL.lit (.tail .head) fun av' cv' ev' => ?_; subst ev'
    refine DL.only (i := 5) (by kernel_rfl) ?_
    refine DL1.stepK rfl rfl rfl (by exact OpW.call (first := []) (captured := []) inferInstance rfl rfl (rtext_ok (by assumption))) (by rintro _ _ ⟨bad'3, ⟨v', ⟨M'3, ⟨h28, ⟨h281, ⟨rfl, rfl⟩⟩⟩⟩⟩⟩ _ h; exact Own.pick (pre := [_, _, _, _, _]) [4] rfl h) ?_; rintro r28 _ ⟨bad'3, ⟨v', ⟨M'3, ⟨h28, ⟨h281, ⟨rfl, rfl⟩⟩⟩⟩⟩⟩
    refine DL.lit (.tail .head) fun av' cv' ev' => ?_; subst ev'
    refine DL.only (i := 8) (by kernel_rfl) ?_
    refine DL1.stepF rfl rfl rfl (by kernel_rfl) (by exact OpW.call (first := []) (captured := []) inferInstance rfl rfl (rval_ok (by assumption))) ?_; rintro r31 _ ⟨bad'4, ⟨v', ⟨M'4, ⟨u, ⟨h31, ⟨h311, ⟨h312, ⟨h313, ⟨h314, ⟨rfl, rfl⟩⟩⟩⟩⟩⟩⟩⟩⟩⟩
    refine DL.lit (.tail (.tail .head)) fun av' cv' ev' => ?_; subst ev'
    refine DL.pure (i := 9) (by kernel_rfl) (by kernel_rfl) rfl rfl rfl (OpP.build rfl (by (repeat (first | exact Fills.nil | (apply Fills.cons rfl rfl rfl; (case' hs => ((repeat (first | exact Spl.nil | apply Spl.here | apply Spl.there)); done))))))) ?_
    refine DL.pure (i := 10) (by kernel_rfl) (by kernel_rfl) rfl rfl rfl (OpP.fieldAddr rfl) ?_
    refine DL.only (i := 11) (by kernel_rfl) ?_
    refine DL1.stepF0 rfl rfl (by kernel_rfl) (OpM.w (by apply OpM.storeN rfl rfl (by rfl) (oneC rfl (oneC rfl (oneC rfl (oneC rfl (oneC rfl (oneC rfl (one1 rfl))))))); (case' hu => exact (.tail (.tail (.tail .head)))); (case' hs => exact (.there (.there (.here (.here (.here (.here (.here (.here (.here .nil)))))))))); done)) ?_; rintro _ _ ⟨rfl, rfl⟩
    refine DL.done (by kernel_rfl) ?_
    refine J.inBlock ?_
    refine J.seq ?_
    refine J.seq ?_
    refine J.region ?_
    refine JL.pure rfl rfl (OpP.fieldAddr rfl) ?_
    refine JL.read rfl rfl (OpR.load1 rfl (Cell.row (.tail (.tail (.tail .head))) rfl)) ?_
    refine JL.nil ?_
    refine J.block ?_
    refine J.seq ?_
    refine J.region ?_
    refine JL.decF rfl rfl (OpP.eql rfl rfl) (by omega) ?_
    refine JL.pure rfl rfl (OpP.assign rfl) ?_
    refine JL.nil ?_
    refine J.condF rfl ?_
    refine J.seq ?_
    refine J.region ?_
    refine JL.decF rfl rfl (OpP.eql rfl rfl) (by omega) ?_
    refine JL.pure rfl rfl (OpP.assign rfl) ?_
    refine JL.nil ?_
    refine J.condF rfl ?_
    refine J.skip ?_
    refine J.inBlock ?_
    refine J.seq ?_
    refine J.region ?_
    refine JL.read rfl rfl (OpR.loadN rfl (Cells.full (.tail (.tail (.tail .head)))) rfl) ?_
    refine JL.mem0 rfl (by apply OpM.storeN rfl rfl (by rfl) (oneC rfl (oneC rfl (oneC rfl (oneC rfl (oneC rfl (oneC rfl (oneC rfl (oneC rfl (oneC rfl (oneC rfl (oneC rfl (oneC rfl (oneC rfl (one1 rfl)))))))))))))); (case' hu => exact (.tail (.tail (.tail (.tail .head))))); (case' hs => exact (.here (.here (.here (.here (.here (.here (.here (.here (.here (.here (.here (.here (.here (.here .nil))))))))))))))); done) ?_; rintro _ _ ⟨rfl, rfl⟩
    refine JL.nil ?_
    refine J.retC rfl rfl (by apply Cells.full; (with_reducible repeat (first | exact .head | apply Has.tail))) (by first | (rw [List.length_append, hdC_len (by first | assumption | exact Go.Proofs.B.shaB_length _ _ | solve_by_elim)]; rfl) | exact hdC_len (by first | assumption | exact Go.Proofs.B.shaB_length _ _ | solve_by_elim) | (rw [bcells_length]; first | assumption | exact Go.Proofs.B.shaB_length _ _ | solve_by_elim) | exact fc_length _ _ | exact fB_length _ _ | rfl) ?_
    have hr : rcm (absO bad M) = (valO (textR (textR (textR O 4096) 4096) 4096), ⟨((2 : Nat) : Int), [], ⟨textV O 4096, textV (textR O 4096) 4096, textV (textR (textR O 4096) 4096) 4096, valV (textR (textR (textR O 4096) 4096) 4096)⟩, [], [], 0, 0, [], none, 0⟩) := by dsimp only [rcm]; rw [k2, hO]; rw [if_neg (by decide)]; rw [if_pos (by decide)]
    rw [h61] at h241
    rw [h241] at h261
    rw [h261] at h281
    rw [h281] at h311 h312
    rw [h61, h241, h261]
    refine ⟨_, ⟨bad'4, _, M'4, ⟨((2 : Nat) : Int), [], ⟨textV O 4096, textV (textR O 4096) 4096, textV (textR (textR O 4096) 4096) 4096, u⟩, [], [], 0, 0, [], none, 0⟩, own 29 4 (.slice u.a u.xs.length u.c) u.xs.length (u.xs.flatMap ecl), h31, by rw [hr]; exact h311, by rw [hr]; exact ⟨rfl, rfl, ⟨rfl, rfl, rfl, h312⟩, rfl, rfl, rfl, rfl, HsEq.rfl⟩, ⟨Nat.zero_le _, t5, t5, t5, Nat.zero_le _, Nat.zero_le _, by simp, h313⟩, h314, (fun x hx => by cases hx), fun l => ⟨vOk_of (RdO.own .head) h313, hsOk_z⟩, rfl, rfl⟩, fun _ h => (Own.pick (pre := [_, _, _, _, _, _]) [0, 1, 2] rfl h)⟩
  by_cases k3 : numI (absO bad M) 1 = 3
  · rw [k3]
    refine J.seq ?_
    refine J.region ?_
    refine JL.pure rfl rfl (OpP.fieldAddr rfl) ?_
    refine JL.read rfl rfl (OpR.load1 rfl (Cell.row .head rfl)) ?_
    refine JL.nil ?_
    refine J.block ?_
    refine J.seq ?_
    refine J.region ?_
    refine JL.decF rfl rfl (OpP.eql rfl rfl) (by omega) ?_
    refine JL.pure rfl rfl (OpP.assign rfl) ?_
    refine JL.nil ?_
    refine J.condF rfl ?_
    refine J.seq ?_
    refine J.region ?_
    refine JL.decF rfl rfl (OpP.eql rfl rfl) (by omega) ?_
    refine JL.pure rfl rfl (OpP.assign rfl) ?_
    refine JL.nil ?_
    refine J.condF rfl ?_
    refine J.seq ?_
    refine J.region ?_
    refine JL.decT rfl rfl (OpP.eql rfl rfl) (by omega) ?_
    refine JL.pure rfl rfl (OpP.assign rfl) ?_
    refine JL.nil ?_
    refine J.condT rfl ?_
    refine J.regionDC (cl := row b1 110 [.pointer (some ⟨g, 0, none⟩)] :: F) [0, 2, 4] (by kernel_rfl) ?_
    refine DL.read (i := 0) (by kernel_rfl) (by kernel_rfl) rfl rfl rfl (fun _ h => Own.pick (pre := [_, _, _, _, _]) [4] rfl h) (OpR.loadN rfl (Cells.full .head) rfl) ?_
    refine DL.read (i := 2) (by kernel_rfl) (by kernel_rfl) rfl rfl rfl (fun _ h => Own.pick (pre := [_, _, _, _, _]) [4] rfl h) (OpR.loadN rfl (Cells.full .head) rfl) ?_
    refine DL.read (i := 4) (by kernel_rfl) (by kernel_rfl) rfl rfl rfl (fun _ h => Own.pick (pre := [_, _, _, _, _]) [4] rfl h) (OpR.loadN rfl (Cells.full .head) rfl) ?_
    refine DL.only (i := 1) (by kernel_rfl) ?_
    refine DL1.f2 ?_; refine DL1.f2 ?_; refine DL1.stepK rfl rfl rfl (by exact OpW.call (first := []) (captured := []) inferInstance rfl rfl (rtext_ok (by assumption))) (by rintro _ _ ⟨bad'1, ⟨v', ⟨M'1, ⟨h37, ⟨h371, ⟨rfl, rfl⟩⟩⟩⟩⟩⟩ _ h; exact Own.pick (pre := [_, _, _, _, _]) [4] rfl h) ?_; rintro r37 _ ⟨bad'1, ⟨v', ⟨M'1, ⟨h37, ⟨h371, ⟨rfl, rfl⟩⟩⟩⟩⟩⟩
    refine DL.lit (.tail .head) fun av' cv' ev' => ?_; subst ev'
    refine DL.only (i := 3) (by kernel_rfl) ?_
    refine DL1.stepK rfl rfl rfl (by exact OpW.call (first := []) (captured := []) inferInstance rfl rfl (rtext_ok (by assumption))) (by rintro _ _ ⟨bad'2, ⟨v', ⟨M'2, ⟨h39, ⟨h391, ⟨rfl, rfl⟩⟩⟩⟩⟩⟩ _ h; exact Own.pick (pre := [_, _, _, _, _]) [4] rfl h) ?_; rintro r39 _ ⟨bad'2, ⟨v', ⟨M'2, ⟨h39, ⟨h391, ⟨rfl, rfl⟩⟩⟩⟩⟩⟩
    refine DL.lit (.tail .head) fun av' cv' ev' => ?_; subst ev'
    refine DL.only (i := 5) (by kernel_rfl) ?_
    refine DL1.stepF rfl rfl rfl (by kernel_rfl) (by exact OpW.call (first := []) (captured := []) inferInstance rfl rfl (rtext_ok (by assumption))) ?_; rintro r41 _ ⟨bad'3, ⟨v', ⟨M'3, ⟨h41, ⟨h411, ⟨rfl, rfl⟩⟩⟩⟩⟩⟩
    refine DL.lit (.tail .head) fun av' cv' ev' => ?_; subst ev'
    refine DL.pure (i := 6) (by kernel_rfl) (by kernel_rfl) rfl rfl rfl (OpP.build rfl (by (repeat (first | exact Fills.nil | (apply Fills.cons rfl rfl rfl; (case' hs => ((repeat (first | exact Spl.nil | apply Spl.here | apply Spl.there)); done))))))) ?_
    refine DL.pure (i := 7) (by kernel_rfl) (by kernel_rfl) rfl rfl rfl (OpP.fieldAddr rfl) ?_
    refine DL.only (i := 8) (by kernel_rfl) ?_
    refine DL1.stepF0 rfl rfl (by kernel_rfl) (OpM.w (by apply OpM.storeN rfl rfl (by rfl) (oneC rfl (oneC rfl (oneC rfl (oneC rfl (oneC rfl (oneC rfl (one1 rfl))))))); (case' hu => exact (.tail (.tail .head))); (case' hs => exact (.there (.there (.here (.here (.here (.here (.here (.here (.here .nil)))))))))); done)) ?_; rintro _ _ ⟨rfl, rfl⟩
    refine DL.done (by kernel_rfl) ?_
    refine J.inBlock ?_
    refine J.seq ?_
    refine J.seq ?_
    refine J.region ?_
    refine JL.pure rfl rfl (OpP.fieldAddr rfl) ?_
    refine JL.read rfl rfl (OpR.load1 rfl (Cell.row (.tail (.tail .head)) rfl)) ?_
    refine JL.nil ?_
    refine J.block ?_
    refine J.seq ?_
    refine J.region ?_
    refine JL.decF rfl rfl (OpP.eql rfl rfl) (by omega) ?_
    refine JL.pure rfl rfl (OpP.assign rfl) ?_
    refine JL.nil ?_
    refine J.condF rfl ?_
    refine J.seq ?_
    refine J.region ?_
    refine JL.decF rfl rfl (OpP.eql rfl rfl) (by omega) ?_
    refine JL.pure rfl rfl (OpP.assign rfl) ?_
    refine JL.nil ?_
    refine J.condF rfl ?_
    refine J.skip ?_
    refine J.inBlock ?_
    refine J.seq ?_
    refine J.region ?_
    refine JL.read rfl rfl (OpR.loadN rfl (Cells.full (.tail (.tail .head))) rfl) ?_
    refine JL.mem0 rfl (by apply OpM.storeN rfl rfl (by rfl) (oneC rfl (oneC rfl (oneC rfl (oneC rfl (oneC rfl (oneC rfl (oneC rfl (oneC rfl (oneC rfl (oneC rfl (oneC rfl (oneC rfl (oneC rfl (one1 rfl)))))))))))))); (case' hu => exact (.tail (.tail (.tail .head)))); (case' hs => exact (.here (.here (.here (.here (.here (.here (.here (.here (.here (.here (.here (.here (.here (.here .nil))))))))))))))); done) ?_; rintro _ _ ⟨rfl, rfl⟩
    refine JL.nil ?_
    refine J.retC rfl rfl (by apply Cells.full; (with_reducible repeat (first | exact .head | apply Has.tail))) (by first | (rw [List.length_append, hdC_len (by first | assumption | exact Go.Proofs.B.shaB_length _ _ | solve_by_elim)]; rfl) | exact hdC_len (by first | assumption | exact Go.Proofs.B.shaB_length _ _ | solve_by_elim) | (rw [bcells_length]; first | assumption | exact Go.Proofs.B.shaB_length _ _ | solve_by_elim) | exact fc_length _ _ | exact fB_length _ _ | rfl) ?_
    have hr : rcm (absO bad M) = (textR (textR (textR O 4096) 4096) 4096, ⟨((3 : Nat) : Int), [], ⟨textV O 4096, textV (textR O 4096) 4096, textV (textR (textR O 4096) 4096) 4096, zVa⟩, [], [], 0, 0, [], none, 0⟩) := by dsimp only [rcm]; rw [k3, hO]; rw [if_neg (by decide)]; rw [if_neg (by decide)]; rw [if_pos (by decide)]
    rw [h61] at h371
    rw [h371] at h391
    rw [h391] at h411
    rw [h61, h371, h391]
    refine ⟨_, ⟨bad'3, _, M'3, ⟨((3 : Nat) : Int), [], ⟨textV O 4096, textV (textR O 4096) 4096, textV (textR (textR O 4096) 4096) 4096, zVa⟩, [], [], 0, 0, [], none, 0⟩, emp, h41, by rw [hr]; exact h411, by rw [hr]; exact ⟨rfl, rfl, Rw.Eq.rfl, rfl, rfl, rfl, rfl, HsEq.rfl⟩, ⟨Nat.zero_le _, t5, t5, t5, Nat.zero_le _, Nat.zero_le _, by simp, few_zVa⟩, zVa_fm, (fun x hx => by cases hx), fun l => ⟨vOk_z, hsOk_z⟩, rfl, rfl⟩, fun _ h => Own.emp_in (Own.pick (pre := [_, _, _, _, _]) [0, 1] rfl h)⟩
  by_cases k9 : numI (absO bad M) 1 = 9
  · rw [k9]
    refine J.seq ?_
    refine J.region ?_
    refine JL.pure rfl rfl (OpP.fieldAddr rfl) ?_
    refine JL.read rfl rfl (OpR.load1 rfl (Cell.row .head rfl)) ?_
    refine JL.nil ?_
    refine J.block ?_
    refine J.seq ?_
    refine J.region ?_
    refine JL.decF rfl rfl (OpP.eql rfl rfl) (by omega) ?_
    refine JL.pure rfl rfl (OpP.assign rfl) ?_
    refine JL.nil ?_
    refine J.condF rfl ?_
    refine J.seq ?_
    refine J.region ?_
    refine JL.decF rfl rfl (OpP.eql rfl rfl) (by omega) ?_
    refine JL.pure rfl rfl (OpP.assign rfl) ?_
    refine JL.nil ?_
    refine J.condF rfl ?_
    refine J.seq ?_
    refine J.region ?_
    refine JL.decF rfl rfl (OpP.eql rfl rfl) (by omega) ?_
    refine JL.pure rfl rfl (OpP.assign rfl) ?_
    refine JL.nil ?_
    refine J.condF rfl ?_
    refine J.seq ?_
    refine J.region ?_
    refine JL.decT rfl rfl (OpP.eql rfl rfl) (by omega) ?_
    refine JL.pure rfl rfl (OpP.assign rfl) ?_
    refine JL.nil ?_
    refine J.condT rfl ?_
    refine J.regionDC (cl := row b1 110 [.pointer (some ⟨g, 0, none⟩)] :: F) [0, 3] (by kernel_rfl) ?_
    refine DL.read (i := 0) (by kernel_rfl) (by kernel_rfl) rfl rfl rfl (fun _ h => Own.pick (pre := [_, _, _, _, _]) [4] rfl h) (OpR.loadN rfl (Cells.full .head) rfl) ?_
    refine DL.pure (i := 2) (by kernel_rfl) (by kernel_rfl) rfl rfl rfl (OpP.fieldAddr rfl) ?_
    refine DL.read (i := 3) (by kernel_rfl) (by kernel_rfl) rfl rfl rfl (fun _ h => Own.pick (pre := [_, _, _, _, _]) [4] rfl h) (OpR.load1 rfl (Cell.row .head rfl)) ?_
    refine DL.only (i := 1) (by kernel_rfl) ?_
    refine DL1.f2 ?_; refine DL1.f2 ?_; refine DL1.stepK rfl rfl rfl (by exact OpW.call (first := []) (captured := []) inferInstance rfl rfl (rtext_ok (by assumption))) (by rintro _ _ ⟨bad'1, ⟨v', ⟨M'1, ⟨h47, ⟨h471, ⟨rfl, rfl⟩⟩⟩⟩⟩⟩ _ h; exact Own.pick (pre := [_, _, _, _, _]) [4] rfl h) ?_; rintro r47 _ ⟨bad'1, ⟨v', ⟨M'1, ⟨h47, ⟨h471, ⟨rfl, rfl⟩⟩⟩⟩⟩⟩
    refine DL.lit (.tail .head) fun av' cv' ev' => ?_; subst ev'
    refine DL.pure (i := 5) (by kernel_rfl) (by kernel_rfl) rfl rfl rfl (OpP.fieldAddr rfl) ?_
    refine DL.only (i := 4) (by kernel_rfl) ?_
    refine DL1.stepF rfl rfl rfl (by kernel_rfl) (by exact OpW.call (first := []) (captured := []) inferInstance rfl rfl (inU16_ok (by assumption))) ?_; rintro r50 _ ⟨bad'2, ⟨v', ⟨M'2, ⟨h50, ⟨h501, ⟨rfl, rfl⟩⟩⟩⟩⟩⟩
    refine DL.lit (.tail .head) fun av' cv' ev' => ?_; subst ev'
    refine DL.only (i := 6) (by kernel_rfl) ?_
    refine DL1.stepF0 rfl rfl (by kernel_rfl) (OpM.w (by apply OpM.store1 rfl rfl rfl; (case' hu => exact (.tail (.tail .head))); (case' hs => exact (.there (.there (.there (.there (.there (.there (.there (.there (.there (.here .nil))))))))))); done)) ?_; rintro _ _ ⟨rfl, rfl⟩
    refine DL.pure (i := 7) (by kernel_rfl) (by kernel_rfl) rfl rfl rfl (OpP.fieldAddr rfl) ?_
    refine DL.only (i := 8) (by kernel_rfl) ?_
    refine DL1.stepF0 rfl rfl (by kernel_rfl) (OpM.w (by apply OpM.store1 rfl rfl rfl; (case' hu => exact (.tail (.tail .head))); (case' hs => exact (.there (.there (.there (.there (.there (.there (.there (.there (.there (.there (.there (.here .nil))))))))))))); done)) ?_; rintro _ _ ⟨rfl, rfl⟩
    refine DL.done (by kernel_rfl) ?_
    refine J.inBlock ?_
    refine J.seq ?_
    refine J.seq ?_
    refine J.region ?_
    refine JL.pure rfl rfl (OpP.fieldAddr rfl) ?_
    refine JL.read rfl rfl (OpR.load1 rfl (Cell.row (.tail (.tail .head)) rfl)) ?_
    refine JL.nil ?_
    refine J.block ?_
    refine J.seq ?_
    refine J.region ?_
    refine JL.decF rfl rfl (OpP.eql rfl rfl) (by omega) ?_
    refine JL.pure rfl rfl (OpP.assign rfl) ?_
    refine JL.nil ?_
    refine J.condF rfl ?_
    refine J.seq ?_
    refine J.region ?_
    refine JL.decF rfl rfl (OpP.eql rfl rfl) (by omega) ?_
    refine JL.pure rfl rfl (OpP.assign rfl) ?_
    refine JL.nil ?_
    refine J.condF rfl ?_
    refine J.skip ?_
    refine J.inBlock ?_
    refine J.seq ?_
    refine J.region ?_
    refine JL.read rfl rfl (OpR.loadN rfl (Cells.full (.tail (.tail .head))) rfl) ?_
    refine JL.mem0 rfl (by apply OpM.storeN rfl rfl (by rfl) (oneC rfl (oneC rfl (oneC rfl (oneC rfl (oneC rfl (oneC rfl (oneC rfl (oneC rfl (oneC rfl (oneC rfl (oneC rfl (oneC rfl (oneC rfl (one1 rfl)))))))))))))); (case' hu => exact (.tail (.tail (.tail .head)))); (case' hs => exact (.here (.here (.here (.here (.here (.here (.here (.here (.here (.here (.here (.here (.here (.here .nil))))))))))))))); done) ?_; rintro _ _ ⟨rfl, rfl⟩
    refine JL.nil ?_
    refine J.retC rfl rfl (by apply Cells.full; (with_reducible repeat (first | exact .head | apply Has.tail))) (by first | (rw [List.length_append, hdC_len (by first | assumption | exact Go.Proofs.B.shaB_length _ _ | solve_by_elim)]; rfl) | exact hdC_len (by first | assumption | exact Go.Proofs.B.shaB_length _ _ | solve_by_elim) | (rw [bcells_length]; first | assumption | exact Go.Proofs.B.shaB_length _ _ | solve_by_elim) | exact fc_length _ _ | exact fB_length _ _ | rfl) ?_
    have hr : rcm (absO bad M) = (restO (textR O 4096) 2, ⟨((9 : Nat) : Int), [], zRw, textV O 4096, [], (numI (textR O 4096) 2 : Nat), 0, [], none, 0⟩) := by dsimp only [rcm]; rw [k9, hO]; rw [if_neg (by decide)]; rw [if_neg (by decide)]; rw [if_neg (by decide)]; rw [if_pos (by decide)]
    rw [h61] at h471
    rw [h471] at h501
    rw [h61, h471]
    refine ⟨_, ⟨bad'2, _, M'2, ⟨((9 : Nat) : Int), [], zRw, textV O 4096, [], (numI (textR O 4096) 2 : Nat), 0, [], none, 0⟩, emp, h50, by rw [hr]; exact h501, by rw [hr]; exact ⟨rfl, rfl, Rw.Eq.rfl, rfl, rfl, rfl, rfl, HsEq.rfl⟩, ⟨Nat.zero_le _, Nat.zero_le _, Nat.zero_le _, Nat.zero_le _, t5, Nat.zero_le _, by simp, few_zVa⟩, zVa_fm, (fun x hx => by cases hx), fun l => ⟨vOk_z, hsOk_z⟩, rfl, rfl⟩, fun _ h => Own.emp_in (Own.pick (pre := [_, _, _, _, _]) [0, 1] rfl h)⟩
  by_cases k10 : numI (absO bad M) 1 = 10
  · rw [k10]
    refine J.seq ?_
    refine J.region ?_
    refine JL.pure rfl rfl (OpP.fieldAddr rfl) ?_
    refine JL.read rfl rfl (OpR.load1 rfl (Cell.row .head rfl)) ?_
    refine JL.nil ?_
    refine J.block ?_
    refine J.seq ?_
    refine J.region ?_
    refine JL.decF rfl rfl (OpP.eql rfl rfl) (by omega) ?_
    refine JL.pure rfl rfl (OpP.assign rfl) ?_
    refine JL.nil ?_
    refine J.condF rfl ?_
    refine J.seq ?_
    refine J.region ?_
    refine JL.decF rfl rfl (OpP.eql rfl rfl) (by omega) ?_
    refine JL.pure rfl rfl (OpP.assign rfl) ?_
    refine JL.nil ?_
    refine J.condF rfl ?_
    refine J.seq ?_
    refine J.region ?_
    refine JL.decF rfl rfl (OpP.eql rfl rfl) (by omega) ?_
    refine JL.pure rfl rfl (OpP.assign rfl) ?_
    refine JL.nil ?_
    refine J.condF rfl ?_
    refine J.seq ?_
    refine J.region ?_
    refine JL.decF rfl rfl (OpP.eql rfl rfl) (by omega) ?_
    refine JL.pure rfl rfl (OpP.assign rfl) ?_
    refine JL.nil ?_
    refine J.condF rfl ?_
    refine J.seq ?_
    refine J.region ?_
    refine JL.decT rfl rfl (OpP.eql rfl rfl) (by omega) ?_
    refine JL.pure rfl rfl (OpP.assign rfl) ?_
    refine JL.nil ?_
    refine J.condT rfl ?_
    refine J.region ?_
    refine JL.pure rfl rfl (OpP.fieldAddr rfl) ?_
    refine JL.read rfl rfl (OpR.load1 rfl (Cell.row (.tail (.tail (.tail (.tail .head)))) rfl)) ?_
    refine JL.f2 ?_; refine JL.f2 ?_; refine JL.step rfl rfl (OpW.call (first := []) (captured := []) inferInstance rfl rfl (inI64_ok (by assumption))) ?_; rintro r57 _ ⟨bad'1, ⟨v', ⟨M'1, ⟨h57, ⟨h571, ⟨rfl, rfl⟩⟩⟩⟩⟩⟩
    refine JL.lit (.tail .head) fun av' cv' ev' => ?_; subst ev'
    refine JL.pure rfl rfl (OpP.fieldAddr rfl) ?_
    refine JL.mem0 rfl (by apply OpM.store1 rfl rfl rfl; (case' hu => exact (.tail (.tail .head))); (case' hs => exact (.there (.there (.there (.there (.there (.there (.there (.there (.there (.there (.there (.there (.here .nil)))))))))))))); done) ?_; rintro _ _ ⟨rfl, rfl⟩
    refine JL.nil ?_
    refine J.inBlock ?_
    refine J.seq ?_
    refine J.seq ?_
    refine J.region ?_
    refine JL.pure rfl rfl (OpP.fieldAddr rfl) ?_
    refine JL.read rfl rfl (OpR.load1 rfl (Cell.row (.tail (.tail .head)) rfl)) ?_
    refine JL.nil ?_
    refine J.block ?_
    refine J.seq ?_
    refine J.region ?_
    refine JL.decF rfl rfl (OpP.eql rfl rfl) (by omega) ?_
    refine JL.pure rfl rfl (OpP.assign rfl) ?_
    refine JL.nil ?_
    refine J.condF rfl ?_
    refine J.seq ?_
    refine J.region ?_
    refine JL.decF rfl rfl (OpP.eql rfl rfl) (by omega) ?_
    refine JL.pure rfl rfl (OpP.assign rfl) ?_
    refine JL.nil ?_
    refine J.condF rfl ?_
    refine J.skip ?_
    refine J.inBlock ?_
    refine J.seq ?_
    refine J.region ?_
    refine JL.read rfl rfl (OpR.loadN rfl (Cells.full (.tail (.tail .head))) rfl) ?_
    refine JL.mem0 rfl (by apply OpM.storeN rfl rfl (by rfl) (oneC rfl (oneC rfl (oneC rfl (oneC rfl (oneC rfl (oneC rfl (oneC rfl (oneC rfl (oneC rfl (oneC rfl (oneC rfl (oneC rfl (oneC rfl (one1 rfl)))))))))))))); (case' hu => exact (.tail (.tail (.tail .head)))); (case' hs => exact (.here (.here (.here (.here (.here (.here (.here (.here (.here (.here (.here (.here (.here (.here .nil))))))))))))))); done) ?_; rintro _ _ ⟨rfl, rfl⟩
    refine JL.nil ?_
    refine J.retC rfl rfl (by apply Cells.full; (with_reducible repeat (first | exact .head | apply Has.tail))) (by first | (rw [List.length_append, hdC_len (by first | assumption | exact Go.Proofs.B.shaB_length _ _ | solve_by_elim)]; rfl) | exact hdC_len (by first | assumption | exact Go.Proofs.B.shaB_length _ _ | solve_by_elim) | (rw [bcells_length]; first | assumption | exact Go.Proofs.B.shaB_length _ _ | solve_by_elim) | exact fc_length _ _ | exact fB_length _ _ | rfl) ?_
    have hr : rcm (absO bad M) = (restO O 8, ⟨((10 : Nat) : Int), [], zRw, [], [], 0, i64 (numI O 8), [], none, 0⟩) := by dsimp only [rcm]; rw [k10, hO]; rw [if_neg (by decide)]; rw [if_neg (by decide)]; rw [if_neg (by decide)]; rw [if_neg (by decide)]; rw [if_pos (by decide)]
    rw [h61] at h571
    rw [h61]
    refine ⟨_, ⟨bad'1, _, M'1, ⟨((10 : Nat) : Int), [], zRw, [], [], 0, i64 (numI O 8), [], none, 0⟩, emp, h57, by rw [hr]; exact h571, by rw [hr]; exact ⟨rfl, rfl, Rw.Eq.rfl, rfl, rfl, rfl, rfl, HsEq.rfl⟩, ⟨Nat.zero_le _, Nat.zero_le _, Nat.zero_le _, Nat.zero_le _, Nat.zero_le _, Nat.zero_le _, by simp, few_zVa⟩, zVa_fm, (fun x hx => by cases hx), fun l => ⟨vOk_z, hsOk_z⟩, rfl, rfl⟩, fun _ h => Own.emp_in (Own.pick (pre := [_, _, _, _, _]) [0, 1] rfl h)⟩
  by_cases k8 : numI (absO bad M) 1 = 8
  · rw [k8]
    refine J.seq ?_
    refine J.region ?_
    refine JL.pure rfl rfl (OpP.fieldAddr rfl) ?_
    refine JL.read rfl rfl (OpR.load1 rfl (Cell.row .head rfl)) ?_
    refine JL.nil ?_
    refine J.block ?_
    refine J.seq ?_
    refine J.region ?_
    refine JL.decF rfl rfl (OpP.eql rfl rfl) (by omega) ?_
    refine JL.pure rfl rfl (OpP.assign rfl) ?_
    refine JL.nil ?_
    refine J.condF rfl ?_
    refine J.seq ?_
    refine J.region ?_
    refine JL.decF rfl rfl (OpP.eql rfl rfl) (by omega) ?_
    refine JL.pure rfl rfl (OpP.assign rfl) ?_
    refine JL.nil ?_
    refine J.condF rfl ?_
    refine J.seq ?_
    refine J.region ?_
    refine JL.decF rfl rfl (OpP.eql rfl rfl) (by omega) ?_
    refine JL.pure rfl rfl (OpP.assign rfl) ?_
    refine JL.nil ?_
    refine J.condF rfl ?_
    refine J.seq ?_
    refine J.region ?_
    refine JL.decF rfl rfl (OpP.eql rfl rfl) (by omega) ?_
    refine JL.pure rfl rfl (OpP.assign rfl) ?_
    refine JL.nil ?_
    refine J.condF rfl ?_
    refine J.seq ?_
    refine J.region ?_
    refine JL.decF rfl rfl (OpP.eql rfl rfl) (by omega) ?_
    refine JL.pure rfl rfl (OpP.assign rfl) ?_
    refine JL.nil ?_
    refine J.condF rfl ?_
    refine J.regionDC (cl := row b1 110 [.pointer (some ⟨g, 0, none⟩)] :: F) [0, 2] (by kernel_rfl) ?_
    refine DL.read (i := 0) (by kernel_rfl) (by kernel_rfl) rfl rfl rfl (fun _ h => Own.pick (pre := [_, _, _, _, _]) [4] rfl h) (OpR.loadN rfl (Cells.full .head) rfl) ?_
    refine DL.read (i := 2) (by kernel_rfl) (by kernel_rfl) rfl rfl rfl (fun _ h => Own.pick (pre := [_, _, _, _, _]) [4] rfl h) (OpR.loadN rfl (Cells.full .head) rfl) ?_
    refine DL.only (i := 1) (by kernel_rfl) ?_
    refine DL1.f2 ?_; refine DL1.f2 ?_; refine DL1.stepK rfl rfl rfl (by exact OpW.call (first := []) (captured := []) inferInstance rfl rfl (rtext_ok (by assumption))) (by rintro _ _ ⟨bad'1, ⟨v', ⟨M'1, ⟨h11, ⟨h111, ⟨rfl, rfl⟩⟩⟩⟩⟩⟩ _ h; exact Own.pick (pre := [_, _, _, _, _]) [4] rfl h) ?_; rintro r11 _ ⟨bad'1, ⟨v', ⟨M'1, ⟨h11, ⟨h111, ⟨rfl, rfl⟩⟩⟩⟩⟩⟩
    refine DL.lit (.tail .head) fun av' cv' ev' => ?_; subst ev'
    refine DL.pure (i := 4) (by kernel_rfl) (by kernel_rfl) rfl rfl rfl (OpP.fieldAddr rfl) ?_
    refine DL.only (i := 3) (by kernel_rfl) ?_
    refine DL1.stepF rfl rfl rfl (by kernel_rfl) (by exact OpW.call (first := []) (captured := []) inferInstance rfl rfl (rtext_ok (by assumption))) ?_; rintro r13 _ ⟨bad'2, ⟨v', ⟨M'2, ⟨h13, ⟨h131, ⟨rfl, rfl⟩⟩⟩⟩⟩⟩
    refine DL.lit (.tail .head) fun av' cv' ev' => ?_; subst ev'
    refine DL.only (i := 5) (by kernel_rfl) ?_
    refine DL1.stepF0 rfl rfl (by kernel_rfl) (OpM.w (by apply OpM.store1 rfl rfl rfl; (case' hu => exact (.tail (.tail .head))); (case' hs => exact (.there (.there (.there (.there (.there (.there (.there (.there (.there (.here .nil))))))))))); done)) ?_; rintro _ _ ⟨rfl, rfl⟩
    refine DL.pure (i := 6) (by kernel_rfl) (by kernel_rfl) rfl rfl rfl (OpP.fieldAddr rfl) ?_
    refine DL.only (i := 7) (by kernel_rfl) ?_
    refine DL1.stepF0 rfl rfl (by kernel_rfl) (OpM.w (by apply OpM.store1 rfl rfl rfl; (case' hu => exact (.tail (.tail .head))); (case' hs => exact (.there (.there (.there (.there (.there (.there (.there (.there (.there (.there (.here .nil)))))))))))); done)) ?_; rintro _ _ ⟨rfl, rfl⟩
    refine DL.done (by kernel_rfl) ?_
    refine J.inBlock ?_
    refine J.seq ?_
    refine J.seq ?_
    refine J.region ?_
    refine JL.pure rfl rfl (OpP.fieldAddr rfl) ?_
    refine JL.read rfl rfl (OpR.load1 rfl (Cell.row (.tail (.tail .head)) rfl)) ?_
    refine JL.nil ?_
    refine J.block ?_
    refine J.seq ?_
    refine J.region ?_
    refine JL.decT rfl rfl (OpP.eql rfl rfl) (by omega) ?_
    refine JL.pure rfl rfl (OpP.assign rfl) ?_
    refine JL.nil ?_
    refine J.condT rfl ?_
    refine J.regionDC (cl := row b1 110 [.pointer (some ⟨g, 0, none⟩)] :: F) [1, 4] (by kernel_rfl) ?_
    refine DL.pure (i := 0) (by kernel_rfl) (by kernel_rfl) rfl rfl rfl (OpP.fieldAddr rfl) ?_
    refine DL.read (i := 1) (by kernel_rfl) (by kernel_rfl) rfl rfl rfl (fun _ h => Own.pick (pre := [_, _, _, _, _]) [4] rfl h) (OpR.load1 rfl (Cell.row .head rfl)) ?_
    refine DL.pure (i := 3) (by kernel_rfl) (by kernel_rfl) rfl rfl rfl (OpP.fieldAddr rfl) ?_
    refine DL.read (i := 4) (by kernel_rfl) (by kernel_rfl) rfl rfl rfl (fun _ h => Own.pick (pre := [_, _, _, _, _]) [4] rfl h) (OpR.load1 rfl (Cell.row .head rfl)) ?_
    refine DL.only (i := 2) (by kernel_rfl) ?_
    refine DL1.stepK rfl rfl rfl (by exact OpW.call (first := []) (captured := []) inferInstance rfl rfl (inU8_ok (by assumption))) (by rintro _ _ ⟨bad'3, ⟨v', ⟨M'3, ⟨h65, ⟨h651, ⟨rfl, rfl⟩⟩⟩⟩⟩⟩ _ h; exact Own.pick (pre := [_, _, _, _, _]) [4] rfl h) ?_; rintro r65 _ ⟨bad'3, ⟨v', ⟨M'3, ⟨h65, ⟨h651, ⟨rfl, rfl⟩⟩⟩⟩⟩⟩
    refine DL.lit (.tail .head) fun av' cv' ev' => ?_; subst ev'
    refine DL.pure (i := 6) (by kernel_rfl) (by kernel_rfl) rfl rfl rfl (OpP.fieldAddr rfl) ?_
    refine DL.only (i := 5) (by kernel_rfl) ?_
    refine DL1.stepF rfl rfl rfl (by kernel_rfl) (by exact OpW.call (first := []) (captured := []) inferInstance rfl rfl (inI64_ok (by assumption))) ?_; rintro r68 _ ⟨bad'4, ⟨v', ⟨M'4, ⟨h68, ⟨h681, ⟨rfl, rfl⟩⟩⟩⟩⟩⟩
    refine DL.lit (.tail .head) fun av' cv' ev' => ?_; subst ev'
    refine DL.only (i := 7) (by kernel_rfl) ?_
    refine DL1.stepF0 rfl rfl (by kernel_rfl) (OpM.w (by apply OpM.store1 rfl rfl rfl; (case' hu => exact (.tail (.tail .head))); (case' hs => exact (.there (.there (.there (.there (.there (.there (.there (.there (.there (.there (.there (.here .nil))))))))))))); done)) ?_; rintro _ _ ⟨rfl, rfl⟩
    refine DL.pure (i := 8) (by kernel_rfl) (by kernel_rfl) rfl rfl rfl (OpP.fieldAddr rfl) ?_
    refine DL.only (i := 9) (by kernel_rfl) ?_
    refine DL1.stepF0 rfl rfl (by kernel_rfl) (OpM.w (by apply OpM.store1 rfl rfl rfl; (case' hu => exact (.tail (.tail .head))); (case' hs => exact (.there (.there (.there (.there (.there (.there (.there (.there (.there (.there (.there (.there (.here .nil)))))))))))))); done)) ?_; rintro _ _ ⟨rfl, rfl⟩
    refine DL.done (by kernel_rfl) ?_
    refine J.inBlock ?_
    refine J.seq ?_
    refine J.region ?_
    refine JL.read rfl rfl (OpR.loadN rfl (Cells.full (.tail (.tail .head))) rfl) ?_
    refine JL.mem0 rfl (by apply OpM.storeN rfl rfl (by rfl) (oneC rfl (oneC rfl (oneC rfl (oneC rfl (oneC rfl (oneC rfl (oneC rfl (oneC rfl (oneC rfl (oneC rfl (oneC rfl (oneC rfl (oneC rfl (one1 rfl)))))))))))))); (case' hu => exact (.tail (.tail (.tail .head)))); (case' hs => exact (.here (.here (.here (.here (.here (.here (.here (.here (.here (.here (.here (.here (.here (.here .nil))))))))))))))); done) ?_; rintro _ _ ⟨rfl, rfl⟩
    refine JL.nil ?_
    refine J.retC rfl rfl (by apply Cells.full; (with_reducible repeat (first | exact .head | apply Has.tail))) (by first | (rw [List.length_append, hdC_len (by first | assumption | exact Go.Proofs.B.shaB_length _ _ | solve_by_elim)]; rfl) | exact hdC_len (by first | assumption | exact Go.Proofs.B.shaB_length _ _ | solve_by_elim) | (rw [bcells_length]; first | assumption | exact Go.Proofs.B.shaB_length _ _ | solve_by_elim) | exact fc_length _ _ | exact fB_length _ _ | rfl) ?_
    have hr : rcm (absO bad M) = (restO (restO (textR (textR O 4096) 4096) 1) 8, ⟨((8 : Nat) : Int), [], zRw, textV O 4096, textV (textR O 4096) 4096, (numI (textR (textR O 4096) 4096) 1 : Nat), i64 (numI (restO (textR (textR O 4096) 4096) 1) 8), [], none, 0⟩) := by dsimp only [rcm]; rw [k8, hO]; rw [if_neg (by decide)]; rw [if_neg (by decide)]; rw [if_neg (by decide)]; rw [if_neg (by decide)]; rw [if_neg (by decide)]; rw [if_pos (by decide)]
    rw [h61] at h111
    rw [h111] at h131
    rw [h131] at h651
    rw [h651] at h681
    rw [h61, h111, h131, h651]
    refine ⟨_, ⟨bad'4, _, M'4, ⟨((8 : Nat) : Int), [], zRw, textV O 4096, textV (textR O 4096) 4096, (numI (textR (textR O 4096) 4096) 1 : Nat), i64 (numI (restO (textR (textR O 4096) 4096) 1) 8), [], none, 0⟩, emp, h68, by rw [hr]; exact h681, by rw [hr]; exact ⟨rfl, rfl, Rw.Eq.rfl, rfl, rfl, rfl, rfl, HsEq.rfl⟩, ⟨Nat.zero_le _, Nat.zero_le _, Nat.zero_le _, Nat.zero_le _, t5, t5, by simp, few_zVa⟩, zVa_fm, (fun x hx => by cases hx), fun l => ⟨vOk_z, hsOk_z⟩, rfl, rfl⟩, fun _ h => Own.emp_in (Own.pick (pre := [_, _, _, _, _]) [0, 1] rfl h)⟩
  by_cases k11 : numI (absO bad M) 1 = 11
  · rw [k11]
    refine J.seq ?_
    refine J.region ?_
    refine JL.pure rfl rfl (OpP.fieldAddr rfl) ?_
    refine JL.read rfl rfl (OpR.load1 rfl (Cell.row .head rfl)) ?_
    refine JL.nil ?_
    refine J.block ?_
    refine J.seq ?_
    refine J.region ?_
    refine JL.decF rfl rfl (OpP.eql rfl rfl) (by omega) ?_
    refine JL.pure rfl rfl (OpP.assign rfl) ?_
    refine JL.nil ?_
    refine J.condF rfl ?_
    refine J.seq ?_
    refine J.region ?_
    refine JL.decF rfl rfl (OpP.eql rfl rfl) (by omega) ?_
    refine JL.pure rfl rfl (OpP.assign rfl) ?_
    refine JL.nil ?_
    refine J.condF rfl ?_
    refine J.seq ?_
    refine J.region ?_
    refine JL.decF rfl rfl (OpP.eql rfl rfl) (by omega) ?_
    refine JL.pure rfl rfl (OpP.assign rfl) ?_
    refine JL.nil ?_
    refine J.condF rfl ?_
    refine J.seq ?_
    refine J.region ?_
    refine JL.decF rfl rfl (OpP.eql rfl rfl) (by omega) ?_
    refine JL.pure rfl rfl (OpP.assign rfl) ?_
    refine JL.nil ?_
    refine J.condF rfl ?_
    refine J.seq ?_
    refine J.region ?_
    refine JL.decF rfl rfl (OpP.eql rfl rfl) (by omega) ?_
    refine JL.pure rfl rfl (OpP.assign rfl) ?_
    refine JL.nil ?_
    refine J.condF rfl ?_
    refine J.regionDC (cl := row b1 110 [.pointer (some ⟨g, 0, none⟩)] :: F) [0, 2] (by kernel_rfl) ?_
    refine DL.read (i := 0) (by kernel_rfl) (by kernel_rfl) rfl rfl rfl (fun _ h => Own.pick (pre := [_, _, _, _, _]) [4] rfl h) (OpR.loadN rfl (Cells.full .head) rfl) ?_
    refine DL.read (i := 2) (by kernel_rfl) (by kernel_rfl) rfl rfl rfl (fun _ h => Own.pick (pre := [_, _, _, _, _]) [4] rfl h) (OpR.loadN rfl (Cells.full .head) rfl) ?_
    refine DL.only (i := 1) (by kernel_rfl) ?_
    refine DL1.f2 ?_; refine DL1.f2 ?_; refine DL1.stepK rfl rfl rfl (by exact OpW.call (first := []) (captured := []) inferInstance rfl rfl (rtext_ok (by assumption))) (by rintro _ _ ⟨bad'1, ⟨v', ⟨M'1, ⟨h11, ⟨h111, ⟨rfl, rfl⟩⟩⟩⟩⟩⟩ _ h; exact Own.pick (pre := [_, _, _, _, _]) [4] rfl h) ?_; rintro r11 _ ⟨bad'1, ⟨v', ⟨M'1, ⟨h11, ⟨h111, ⟨rfl, rfl⟩⟩⟩⟩⟩⟩
    refine DL.lit (.tail .head) fun av' cv' ev' => ?_; subst ev'
    refine DL.pure (i := 4) (by kernel_rfl) (by kernel_rfl) rfl rfl rfl (OpP.fieldAddr rfl) ?_
    refine DL.only (i := 3) (by kernel_rfl) ?_
    refine DL1.stepF rfl rfl rfl (by kernel_rfl) (by exact OpW.call (first := []) (captured := []) inferInstance rfl rfl (rtext_ok (by assumption))) ?_; rintro r13 _ ⟨bad'2, ⟨v', ⟨M'2, ⟨h13, ⟨h131, ⟨rfl, rfl⟩⟩⟩⟩⟩⟩
    refine DL.lit (.tail .head) fun av' cv' ev' => ?_; subst ev'
    refine DL.only (i := 5) (by kernel_rfl) ?_
    refine DL1.stepF0 rfl rfl (by kernel_rfl) (OpM.w (by apply OpM.store1 rfl rfl rfl; (case' hu => exact (.tail (.tail .head))); (case' hs => exact (.there (.there (.there (.there (.there (.there (.there (.there (.there (.here .nil))))))))))); done)) ?_; rintro _ _ ⟨rfl, rfl⟩
    refine DL.pure (i := 6) (by kernel_rfl) (by kernel_rfl) rfl rfl rfl (OpP.fieldAddr rfl) ?_
    refine DL.only (i := 7) (by kernel_rfl) ?_
    refine DL1.stepF0 rfl rfl (by kernel_rfl) (OpM.w (by apply OpM.store1 rfl rfl rfl; (case' hu => exact (.tail (.tail .head))); (case' hs => exact (.there (.there (.there (.there (.there (.there (.there (.there (.there (.there (.here .nil)))))))))))); done)) ?_; rintro _ _ ⟨rfl, rfl⟩
    refine DL.done (by kernel_rfl) ?_
    refine J.inBlock ?_
    refine J.seq ?_
    refine J.seq ?_
    refine J.region ?_
    refine JL.pure rfl rfl (OpP.fieldAddr rfl) ?_
    refine JL.read rfl rfl (OpR.load1 rfl (Cell.row (.tail (.tail .head)) rfl)) ?_
    refine JL.nil ?_
    refine J.block ?_
    refine J.seq ?_
    refine J.region ?_
    refine JL.decF rfl rfl (OpP.eql rfl rfl) (by omega) ?_
    refine JL.pure rfl rfl (OpP.assign rfl) ?_
    refine JL.nil ?_
    refine J.condF rfl ?_
    refine J.seq ?_
    refine J.region ?_
    refine JL.decT rfl rfl (OpP.eql rfl rfl) (by omega) ?_
    refine JL.pure rfl rfl (OpP.assign rfl) ?_
    refine JL.nil ?_
    refine J.condT rfl ?_
    refine J.region ?_
    refine JL.read rfl rfl (OpR.loadN rfl (Cells.full (.tail (.tail (.tail (.tail .head))))) rfl) ?_
    refine JL.step rfl rfl (OpW.call (first := []) (captured := []) inferInstance rfl rfl (rhas_ok (by assumption))) ?_; rintro r74 _ ⟨bad'3, ⟨v', ⟨M'3, ⟨a, ⟨c, ⟨hs, ⟨H, ⟨h74, ⟨h741, ⟨h742, ⟨h743, ⟨h744, ⟨rfl, rfl⟩⟩⟩⟩⟩⟩⟩⟩⟩⟩⟩⟩⟩
    refine JL.lit (.tail (.tail .head)) fun av' cv' ev' => ?_; subst ev'
    refine JL.pure rfl rfl (OpP.fieldAddr rfl) ?_
    refine JL.mem0 rfl (by apply OpM.store1 rfl rfl rfl; (case' hu => exact (.tail (.tail (.tail .head)))); (case' hs => exact (.there (.there (.there (.there (.there (.there (.there (.there (.there (.there (.there (.there (.there (.here .nil))))))))))))))); done) ?_; rintro _ _ ⟨rfl, rfl⟩
    refine JL.nil ?_
    refine J.inBlock ?_
    refine J.seq ?_
    refine J.region ?_
    refine JL.read rfl rfl (OpR.loadN rfl (Cells.full (.tail (.tail (.tail .head)))) rfl) ?_
    refine JL.mem0 rfl (by apply OpM.storeN rfl rfl (by rfl) (oneC rfl (oneC rfl (oneC rfl (oneC rfl (oneC rfl (oneC rfl (oneC rfl (oneC rfl (oneC rfl (oneC rfl (oneC rfl (oneC rfl (oneC rfl (one1 rfl)))))))))))))); (case' hu => exact (.tail (.tail (.tail (.tail .head))))); (case' hs => exact (.here (.here (.here (.here (.here (.here (.here (.here (.here (.here (.here (.here (.here (.here .nil))))))))))))))); done) ?_; rintro _ _ ⟨rfl, rfl⟩
    refine JL.nil ?_
    refine J.retC rfl rfl (by apply Cells.full; (with_reducible repeat (first | exact .head | apply Has.tail))) (by first | (rw [List.length_append, hdC_len (by first | assumption | exact Go.Proofs.B.shaB_length _ _ | solve_by_elim)]; rfl) | exact hdC_len (by first | assumption | exact Go.Proofs.B.shaB_length _ _ | solve_by_elim) | (rw [bcells_length]; first | assumption | exact Go.Proofs.B.shaB_length _ _ | solve_by_elim) | exact fc_length _ _ | exact fB_length _ _ | rfl) ?_
    have hr : rcm (absO bad M) = ((hsl (numI (textR (textR O 4096) 4096) 1) (restO (textR (textR O 4096) 4096) 1)).1, ⟨((11 : Nat) : Int), [], zRw, textV O 4096, textV (textR O 4096) 4096, 0, 0, (hsl (numI (textR (textR O 4096) 4096) 1) (restO (textR (textR O 4096) 4096) 1)).2, none, 0⟩) := by dsimp only [rcm]; rw [k11, hO]; rw [if_neg (by decide)]; rw [if_neg (by decide)]; rw [if_neg (by decide)]; rw [if_neg (by decide)]; rw [if_neg (by decide)]; rw [if_neg (by decide)]; rw [if_pos (by decide)]
    rw [h61] at h111
    rw [h111] at h131
    rw [h131] at h741 h742
    rw [h61, h111]
    refine ⟨_, ⟨bad'3, _, M'3, ⟨((11 : Nat) : Int), [], zRw, textV O 4096, textV (textR O 4096) 4096, 0, 0, hs, a, c⟩, H, h74, by rw [hr]; exact h742, by rw [hr]; exact ⟨rfl, rfl, Rw.Eq.rfl, rfl, rfl, rfl, rfl, h741⟩, ⟨Nat.zero_le _, Nat.zero_le _, Nat.zero_le _, Nat.zero_le _, t5, t5, fun x hx => ⟨Nat.le_trans (h743 x hx).1 (by decide), Nat.le_trans (h743 x hx).2.1 (by decide), (h743 x hx).2.2.1⟩, few_zVa⟩, zVa_fm, fun x hx => (h743 x hx).2.2.2, fun l => ⟨vOk_z, h744 l⟩, rfl, rfl⟩, fun _ h => (Own.pick (pre := [_, _, _, _, _, _]) [0, 1, 2] rfl h)⟩
  refine J.seq ?_
  refine J.region ?_
  refine JL.pure rfl rfl (OpP.fieldAddr rfl) ?_
  refine JL.read rfl rfl (OpR.load1 rfl (Cell.row .head rfl)) ?_
  refine JL.nil ?_
  refine J.block ?_
  refine J.seq ?_
  refine J.region ?_
  refine JL.decF rfl rfl (OpP.eql rfl rfl) (by omega) ?_
  refine JL.pure rfl rfl (OpP.assign rfl) ?_
  refine JL.nil ?_
  refine J.condF rfl ?_
  refine J.seq ?_
  refine J.region ?_
  refine JL.decF rfl rfl (OpP.eql rfl rfl) (by omega) ?_
  refine JL.pure rfl rfl (OpP.assign rfl) ?_
  refine JL.nil ?_
  refine J.condF rfl ?_
  refine J.seq ?_
  refine J.region ?_
  refine JL.decF rfl rfl (OpP.eql rfl rfl) (by omega) ?_
  refine JL.pure rfl rfl (OpP.assign rfl) ?_
  refine JL.nil ?_
  refine J.condF rfl ?_
  refine J.seq ?_
  refine J.region ?_
  refine JL.decF rfl rfl (OpP.eql rfl rfl) (by omega) ?_
  refine JL.pure rfl rfl (OpP.assign rfl) ?_
  refine JL.nil ?_
  refine J.condF rfl ?_
  refine J.seq ?_
  refine J.region ?_
  refine JL.decF rfl rfl (OpP.eql rfl rfl) (by omega) ?_
  refine JL.pure rfl rfl (OpP.assign rfl) ?_
  refine JL.nil ?_
  refine J.condF rfl ?_
  refine J.regionDC (cl := row b1 110 [.pointer (some ⟨g, 0, none⟩)] :: F) [0, 2] (by kernel_rfl) ?_
  refine DL.read (i := 0) (by kernel_rfl) (by kernel_rfl) rfl rfl rfl (fun _ h => Own.pick (pre := [_, _, _, _, _]) [4] rfl h) (OpR.loadN rfl (Cells.full .head) rfl) ?_
  refine DL.read (i := 2) (by kernel_rfl) (by kernel_rfl) rfl rfl rfl (fun _ h => Own.pick (pre := [_, _, _, _, _]) [4] rfl h) (OpR.loadN rfl (Cells.full .head) rfl) ?_
  refine DL.only (i := 1) (by kernel_rfl) ?_
  refine DL1.f2 ?_; refine DL1.f2 ?_; refine DL1.stepK rfl rfl rfl (by exact OpW.call (first := []) (captured := []) inferInstance rfl rfl (rtext_ok (by assumption))) (by rintro _ _ ⟨bad'1, ⟨v', ⟨M'1, ⟨h11, ⟨h111, ⟨rfl, rfl⟩⟩⟩⟩⟩⟩ _ h; exact Own.pick (pre := [_, _, _, _, _]) [4] rfl h) ?_; rintro r11 _ ⟨bad'1, ⟨v', ⟨M'1, ⟨h11, ⟨h111, ⟨rfl, rfl⟩⟩⟩⟩⟩⟩
  refine DL.lit (.tail .head) fun av' cv' ev' => ?_; subst ev'
  refine DL.pure (i := 4) (by kernel_rfl) (by kernel_rfl) rfl rfl rfl (OpP.fieldAddr rfl) ?_
  refine DL.only (i := 3) (by kernel_rfl) ?_
  refine DL1.stepF rfl rfl rfl (by kernel_rfl) (by exact OpW.call (first := []) (captured := []) inferInstance rfl rfl (rtext_ok (by assumption))) ?_; rintro r13 _ ⟨bad'2, ⟨v', ⟨M'2, ⟨h13, ⟨h131, ⟨rfl, rfl⟩⟩⟩⟩⟩⟩
  refine DL.lit (.tail .head) fun av' cv' ev' => ?_; subst ev'
  refine DL.only (i := 5) (by kernel_rfl) ?_
  refine DL1.stepF0 rfl rfl (by kernel_rfl) (OpM.w (by apply OpM.store1 rfl rfl rfl; (case' hu => exact (.tail (.tail .head))); (case' hs => exact (.there (.there (.there (.there (.there (.there (.there (.there (.there (.here .nil))))))))))); done)) ?_; rintro _ _ ⟨rfl, rfl⟩
  refine DL.pure (i := 6) (by kernel_rfl) (by kernel_rfl) rfl rfl rfl (OpP.fieldAddr rfl) ?_
  refine DL.only (i := 7) (by kernel_rfl) ?_
  refine DL1.stepF0 rfl rfl (by kernel_rfl) (OpM.w (by apply OpM.store1 rfl rfl rfl; (case' hu => exact (.tail (.tail .head))); (case' hs => exact (.there (.there (.there (.there (.there (.there (.there (.there (.there (.there (.here .nil)))))))))))); done)) ?_; rintro _ _ ⟨rfl, rfl⟩
  refine DL.done (by kernel_rfl) ?_
  refine J.inBlock ?_
  refine J.seq ?_
  refine J.seq ?_
  refine J.region ?_
  refine JL.pure rfl rfl (OpP.fieldAddr rfl) ?_
  refine JL.read rfl rfl (OpR.load1 rfl (Cell.row (.tail (.tail .head)) rfl)) ?_
  refine JL.nil ?_
  refine J.block ?_
  refine J.seq ?_
  refine J.region ?_
  refine JL.decF rfl rfl (OpP.eql rfl rfl) (by omega) ?_
  refine JL.pure rfl rfl (OpP.assign rfl) ?_
  refine JL.nil ?_
  refine J.condF rfl ?_
  refine J.seq ?_
  refine J.region ?_
  refine JL.decF rfl rfl (OpP.eql rfl rfl) (by omega) ?_
  refine JL.pure rfl rfl (OpP.assign rfl) ?_
  refine JL.nil ?_
  refine J.condF rfl ?_
  refine J.skip ?_
  refine J.inBlock ?_
  refine J.seq ?_
  refine J.region ?_
  refine JL.read rfl rfl (OpR.loadN rfl (Cells.full (.tail (.tail .head))) rfl) ?_
  refine JL.mem0 rfl (by apply OpM.storeN rfl rfl (by rfl) (oneC rfl (oneC rfl (oneC rfl (oneC rfl (oneC rfl (oneC rfl (oneC rfl (oneC rfl (oneC rfl (oneC rfl (oneC rfl (oneC rfl (oneC rfl (one1 rfl)))))))))))))); (case' hu => exact (.tail (.tail (.tail .head)))); (case' hs => exact (.here (.here (.here (.here (.here (.here (.here (.here (.here (.here (.here (.here (.here (.here .nil))))))))))))))); done) ?_; rintro _ _ ⟨rfl, rfl⟩
  refine JL.nil ?_
  refine J.retC rfl rfl (by apply Cells.full; (with_reducible repeat (first | exact .head | apply Has.tail))) (by first | (rw [List.length_append, hdC_len (by first | assumption | exact Go.Proofs.B.shaB_length _ _ | solve_by_elim)]; rfl) | exact hdC_len (by first | assumption | exact Go.Proofs.B.shaB_length _ _ | solve_by_elim) | (rw [bcells_length]; first | assumption | exact Go.Proofs.B.shaB_length _ _ | solve_by_elim) | exact fc_length _ _ | exact fB_length _ _ | rfl) ?_
  have hr : rcm (absO bad M) = (textR (textR O 4096) 4096, ⟨(numI (absO bad M) 1 : Nat), [], zRw, textV O 4096, textV (textR O 4096) 4096, 0, 0, [], none, 0⟩) := by dsimp only [rcm]; rw [hO, if_neg (by omega), if_neg (by omega), if_neg (by omega), if_neg (by omega), if_neg (by omega), if_neg (by omega), if_neg (by omega)]
  rw [h61] at h111
  rw [h111] at h131
  rw [h61, h111]
  refine ⟨_, ⟨bad'2, _, M'2, ⟨(numI (absO bad M) 1 : Nat), [], zRw, textV O 4096, textV (textR O 4096) 4096, 0, 0, [], none, 0⟩, emp, h13, by rw [hr]; exact h131, by rw [hr]; exact ⟨rfl, rfl, Rw.Eq.rfl, rfl, rfl, rfl, rfl, HsEq.rfl⟩, ⟨Nat.zero_le _, Nat.zero_le _, Nat.zero_le _, Nat.zero_le _, t5, t5, by simp, few_zVa⟩, zVa_fm, (fun x hx => by cases hx), fun l => ⟨vOk_z, hsOk_z⟩, rfl, rfl⟩, fun _ h => Own.emp_in (Own.pick (pre := [_, _, _, _, _]) [0, 1] rfl h)⟩
end Go.Proofs.E

-- seat e
namespace Go.Proofs.E
open Go Go.Gp Go.RowKit

/-- Do the bytes decode as a command? -/
def DecOk (l : List UInt8) (c : Cm) : Prop := (rcm (some l)).1 = some [] ∧ MayP c ∧ cmO c = some l
theorem decCm_ok {w0 : World} {F : List HProp} {v : Value} {l : List UInt8} (hl : l.length ≤ 1000000) (hr : RdO w0 F v l.length (bcells l)) :
    FnO Try.prog w0 48 [v] F (fun r l' => ∃ c H, Cm.Eq c (rcm (some l)).2 ∧ CmSz c ∧ c.row.v.Fm ∧ (∀ x ∈ c.hs, x.v.Fm) ∧ (∀ l, CmOk w0 (H :: l) c) ∧ ((DecOk l c ∧ r = .tuple #[.agg c.cells.toArray, .int .i64 0] ∧ l' = H :: F) ∨ (¬ DecOk l c ∧ r = .tuple #[.agg zCm.cells.toArray, .int .i64 2] ∧ l' = F))) := by
  refine FnO.rdF (fun _ h => h) hr fun hr1 => ?_
  obtain ⟨a1, c1, rfl⟩ := hr1.lit
  have hl9 : l.length ≤ 1000000000 := by omega
  refine FnO.weak ?_
  refine FnO.intro (n := 34) Try.func48 rfl rfl rfl ?_
  refine J.seq ?_
  refine J.region ?_
  refine JL.mem rfl rfl OpM.alloc ?_; rintro _ _ ⟨b2, rfl, rfl⟩
  refine JL.pure rfl rfl (OpP.assign rfl) ?_
  refine JL.nil ?_
  refine J.seq ?_
  refine J.region ?_
  refine JL.pure rfl rfl (OpP.move rfl) ?_
  refine JL.step rfl rfl (OpW.call (first := []) (captured := []) inferInstance rfl rfl (read_ok (l := l) hl9 (hr.conv fun _ h => Own.pick (pre := [_]) [] rfl h))) ?_; rintro r9 _ ⟨g, ⟨v', ⟨rfl, rfl⟩⟩⟩
  refine JL.lit (.tail .head) fun av' cv' ev' => ?_; subst ev'
  refine JL.pure rfl rfl (OpP.build rfl (by (repeat (first | exact Fills.nil | (apply Fills.cons rfl rfl rfl; (case' hs => ((repeat (first | exact Spl.nil | apply Spl.here | apply Spl.there)); done))))))) ?_
  refine JL.mem rfl rfl OpM.alloc ?_; rintro _ _ ⟨b4, rfl, rfl⟩
  refine JL.mem0 rfl (by apply OpM.storeN rfl rfl (by rfl) (one1 rfl); (case' hu => exact .head); (case' hs => exact (.here .nil)); done) ?_; rintro _ _ ⟨rfl, rfl⟩
  refine JL.nil ?_
  refine J.seq ?_
  refine J.region ?_
  refine JL.read rfl rfl (OpR.loadN rfl (Cells.full .head) rfl) ?_
  refine JL.f2 ?_; refine JL.f2 ?_; refine JL.step rfl rfl (OpW.call (first := []) (captured := []) inferInstance rfl rfl (rcmd_ok hl9)) ?_; rintro r12 _ ⟨bad', ⟨v', ⟨M', ⟨c, ⟨H, ⟨h12, ⟨h121, ⟨h122, ⟨h123, ⟨h124, ⟨h125, ⟨h126, ⟨rfl, rfl⟩⟩⟩⟩⟩⟩⟩⟩⟩⟩⟩⟩⟩
  refine JL.lit (.tail (.tail .head)) fun av' cv' ev' => ?_; subst ev'
  refine JL.mem rfl rfl OpM.alloc ?_; rintro _ _ ⟨b5, rfl, rfl⟩
  refine JL.mem0 rfl (by apply OpM.storeN rfl rfl (by rfl) (oneC rfl (oneC rfl (oneC rfl (oneC rfl (oneC rfl (oneC rfl (oneC rfl (oneC rfl (oneC rfl (oneC rfl (oneC rfl (oneC rfl (oneC rfl (one1 rfl)))))))))))))); (case' hu => exact .head); (case' hs => exact (.here (.here (.here (.here (.here (.here (.here (.here (.here (.here (.here (.here (.here (.here .nil))))))))))))))); done) ?_; rintro _ _ ⟨rfl, rfl⟩
  refine JL.nil ?_
  refine J.seq ?_
  have pb := fun (A : HProp) (l : List HProp) => enc_out (encCm_ok (w0 := w0) (F := A :: H :: l) (c := c) (h126 l).sub h123)
  have hov : absO bad' M' = some [] ↔ bad' = false ∧ M' = [] := by cases bad' <;> simp [absO]
  have hrc : absO bad' M' = (rcm (some l)).1 := h121
  refine J.seq ?_
  refine J.region ?_
  refine JL.read rfl rfl (OpR.loadN rfl (Cells.full .head) rfl) ?_
  refine JL.step rfl rfl (OpW.call (first := []) (captured := []) inferInstance rfl rfl (pb _ _)) ?_; rintro r15 _ (⟨bs, ⟨a, ⟨c2, ⟨h15, ⟨h151, ⟨h152, ⟨rfl, rfl⟩⟩⟩⟩⟩⟩⟩ | (⟨h153, ⟨h154, ⟨rfl, rfl⟩⟩⟩ | ⟨h155, ⟨rfl, rfl⟩⟩))
  focus
    refine JL.pure rfl rfl (OpP.move rfl) ?_
    refine JL.pure rfl rfl (OpP.extract rfl rfl) ?_
    refine JL.pure rfl rfl (OpP.extract rfl rfl) ?_
    refine JL.pure rfl rfl (OpP.assign rfl) ?_
    refine JL.pure rfl rfl (OpP.assign rfl) ?_
    refine JL.nil ?_
    refine J.seq ?_
    refine J.region ?_
    refine JL.pure rfl rfl (OpP.fieldAddr rfl) ?_
    refine JL.read rfl rfl (OpR.load1 rfl (Cell.row (.tail (.tail (.tail (.tail (.tail .head))))) rfl)) ?_
    refine JL.f4 ?_; refine JL.f4 ?_; refine JL.step rfl rfl (OpW.call (first := []) (captured := []) inferInstance rfl rfl over_ok) ?_; rintro r20 _ ⟨rfl, rfl⟩
    refine JL.pure rfl rfl (OpP.notB rfl) ?_
    refine JL.pure rfl rfl (OpP.move rfl) ?_
    refine JL.splitAt 22 rfl (fun h22 => ?_) (fun h22 => ?_)
    focus
      refine JL.skip rfl rfl ?_
      refine JL.skip rfl rfl ?_
      refine JL.pure rfl rfl (OpP.pickT rfl rfl) ?_
      refine JL.pure rfl rfl (OpP.move rfl) ?_
      refine JL.skip rfl rfl ?_
      refine JL.skip rfl rfl ?_
      refine JL.skip rfl rfl ?_
      refine JL.skip rfl rfl ?_
      refine JL.pure rfl rfl (OpP.pickT rfl rfl) ?_
      refine JL.nil ?_
      refine J.condT rfl ?_
      refine J.seq ?_
      refine J.region ?_
      refine JL.pure rfl rfl (OpP.build rfl (by (repeat (first | exact Fills.nil | (apply Fills.cons rfl rfl rfl; (case' hs => ((repeat (first | exact Spl.nil | apply Spl.here | apply Spl.there)); done))))))) ?_
      refine JL.mem0 rfl (by apply OpM.storeN rfl rfl (by rfl) (oneC rfl (oneC rfl (oneC rfl (oneC rfl (oneC rfl (oneC rfl (oneC rfl (oneC rfl (oneC rfl (oneC rfl (oneC rfl (oneC rfl (oneC rfl (one1 rfl)))))))))))))); (case' hu => exact (.tail (.tail (.tail (.tail (.tail (.tail .head))))))); (case' hs => exact (.here (.here (.here (.here (.here (.here (.here (.here (.here (.here (.here (.here (.here (.here .nil))))))))))))))); done) ?_; rintro _ _ ⟨rfl, rfl⟩
      refine JL.pure rfl rfl (OpP.assign rfl) ?_
      refine JL.nil ?_
      refine J.retC2 rfl rfl (by apply Cells.full; (with_reducible repeat (first | exact .head | apply Has.tail))) (by first | (rw [List.length_append, hdC_len (by first | assumption | exact Go.Proofs.B.shaB_length _ _ | solve_by_elim)]; rfl) | exact hdC_len (by first | assumption | exact Go.Proofs.B.shaB_length _ _ | solve_by_elim) | (rw [bcells_length]; first | assumption | exact Go.Proofs.B.shaB_length _ _ | solve_by_elim) | exact fc_length _ _ | exact fB_length _ _ | rfl) rfl ?_
    rotate_left 1
    focus
      refine JL.pure rfl rfl (OpP.move rfl) ?_
      refine JL.decF rfl rfl (OpP.neq rfl rfl) (by omega) ?_
      refine JL.pure rfl rfl (OpP.pickF rfl rfl) ?_
      refine JL.pure rfl rfl (OpP.move rfl) ?_
      refine JL.pure rfl rfl (OpP.move rfl) ?_
      refine JL.pure rfl rfl (OpP.move rfl) ?_
      refine JL.step rfl rfl (OpW.call (first := []) (captured := []) inferInstance rfl rfl (equal_ok (RdO.own (.tail (.tail .head))) (hr.conv fun _ h => Own.pick (pre := [_, _, _, _, _, _, _]) [] rfl h))) ?_; rintro r29 _ ⟨rfl, rfl⟩
      refine JL.pure rfl rfl (OpP.notB rfl) ?_
      refine JL.pure rfl rfl (OpP.pickF rfl rfl) ?_
      refine JL.nil ?_
      refine J.splitAt 31 rfl (fun h31 => ?_) (fun h31 => ?_)
      focus
        refine J.condT rfl ?_
        refine J.seq ?_
        refine J.region ?_
        refine JL.pure rfl rfl (OpP.build rfl (by (repeat (first | exact Fills.nil | (apply Fills.cons rfl rfl rfl; (case' hs => ((repeat (first | exact Spl.nil | apply Spl.here | apply Spl.there)); done))))))) ?_
        refine JL.mem0 rfl (by apply OpM.storeN rfl rfl (by rfl) (oneC rfl (oneC rfl (oneC rfl (oneC rfl (oneC rfl (oneC rfl (oneC rfl (oneC rfl (oneC rfl (oneC rfl (oneC rfl (oneC rfl (oneC rfl (one1 rfl)))))))))))))); (case' hu => exact (.tail (.tail (.tail (.tail (.tail (.tail .head))))))); (case' hs => exact (.here (.here (.here (.here (.here (.here (.here (.here (.here (.here (.here (.here (.here (.here .nil))))))))))))))); done) ?_; rintro _ _ ⟨rfl, rfl⟩
        refine JL.pure rfl rfl (OpP.assign rfl) ?_
        refine JL.nil ?_
        refine J.retC2 rfl rfl (by apply Cells.full; (with_reducible repeat (first | exact .head | apply Has.tail))) (by first | (rw [List.length_append, hdC_len (by first | assumption | exact Go.Proofs.B.shaB_length _ _ | solve_by_elim)]; rfl) | exact hdC_len (by first | assumption | exact Go.Proofs.B.shaB_length _ _ | solve_by_elim) | (rw [bcells_length]; first | assumption | exact Go.Proofs.B.shaB_length _ _ | solve_by_elim) | exact fc_length _ _ | exact fB_length _ _ | rfl) rfl ?_
      rotate_left 1
      focus
        refine J.condF rfl ?_
        refine J.skip ?_
        refine J.seq ?_
        refine J.region ?_
        refine JL.read rfl rfl (OpR.loadN rfl (Cells.full (.tail (.tail (.tail .head)))) rfl) ?_
        refine JL.mem0 rfl (by apply OpM.storeN rfl rfl (by rfl) (oneC rfl (oneC rfl (oneC rfl (oneC rfl (oneC rfl (oneC rfl (oneC rfl (oneC rfl (oneC rfl (oneC rfl (oneC rfl (oneC rfl (oneC rfl (one1 rfl)))))))))))))); (case' hu => exact (.tail (.tail (.tail (.tail (.tail (.tail .head))))))); (case' hs => exact (.here (.here (.here (.here (.here (.here (.here (.here (.here (.here (.here (.here (.here (.here .nil))))))))))))))); done) ?_; rintro _ _ ⟨rfl, rfl⟩
        refine JL.pure rfl rfl (OpP.assign rfl) ?_
        refine JL.nil ?_
        refine J.retC2 rfl rfl (by apply Cells.full; (with_reducible repeat (first | exact .head | apply Has.tail))) (by first | (rw [List.length_append, hdC_len (by first | assumption | exact Go.Proofs.B.shaB_length _ _ | solve_by_elim)]; rfl) | exact hdC_len (by first | assumption | exact Go.Proofs.B.shaB_length _ _ | solve_by_elim) | (rw [bcells_length]; first | assumption | exact Go.Proofs.B.shaB_length _ _ | solve_by_elim) | exact fc_length _ _ | exact fB_length _ _ | rfl) rfl ?_
      rotate_left 1
    rotate_left 2
  rotate_left 3
  focus
    refine JL.pure rfl rfl (OpP.move rfl) ?_
    refine JL.pure rfl rfl (OpP.extract rfl rfl) ?_
    refine JL.pure rfl rfl (OpP.extract rfl rfl) ?_
    refine JL.pure rfl rfl (OpP.assign rfl) ?_
    refine JL.pure rfl rfl (OpP.assign rfl) ?_
    refine JL.nil ?_
    refine J.seq ?_
    refine J.region ?_
    refine JL.pure rfl rfl (OpP.fieldAddr rfl) ?_
    refine JL.read rfl rfl (OpR.load1 rfl (Cell.row (.tail (.tail (.tail (.tail .head)))) rfl)) ?_
    refine JL.f3 ?_; refine JL.f3 ?_; refine JL.step rfl rfl (OpW.call (first := []) (captured := []) inferInstance rfl rfl over_ok) ?_; rintro r20 _ ⟨rfl, rfl⟩
    refine JL.pure rfl rfl (OpP.notB rfl) ?_
    refine JL.pure rfl rfl (OpP.move rfl) ?_
    refine JL.splitAt 22 rfl (fun h22 => ?_) (fun h22 => ?_)
    focus
      refine JL.skip rfl rfl ?_
      refine JL.skip rfl rfl ?_
      refine JL.pure rfl rfl (OpP.pickT rfl rfl) ?_
      refine JL.pure rfl rfl (OpP.move rfl) ?_
      refine JL.skip rfl rfl ?_
      refine JL.skip rfl rfl ?_
      refine JL.skip rfl rfl ?_
      refine JL.skip rfl rfl ?_
      refine JL.pure rfl rfl (OpP.pickT rfl rfl) ?_
      refine JL.nil ?_
      refine J.condT rfl ?_
      refine J.seq ?_
      refine J.region ?_
      refine JL.pure rfl rfl (OpP.build rfl (by (repeat (first | exact Fills.nil | (apply Fills.cons rfl rfl rfl; (case' hs => ((repeat (first | exact Spl.nil | apply Spl.here | apply Spl.there)); done))))))) ?_
      refine JL.mem0 rfl (by apply OpM.storeN rfl rfl (by rfl) (oneC rfl (oneC rfl (oneC rfl (oneC rfl (oneC rfl (oneC rfl (oneC rfl (oneC rfl (oneC rfl (oneC rfl (oneC rfl (oneC rfl (oneC rfl (one1 rfl)))))))))))))); (case' hu => exact (.tail (.tail (.tail (.tail (.tail .head)))))); (case' hs => exact (.here (.here (.here (.here (.here (.here (.here (.here (.here (.here (.here (.here (.here (.here .nil))))))))))))))); done) ?_; rintro _ _ ⟨rfl, rfl⟩
      refine JL.pure rfl rfl (OpP.assign rfl) ?_
      refine JL.nil ?_
      refine J.retC2 rfl rfl (by apply Cells.full; (with_reducible repeat (first | exact .head | apply Has.tail))) (by first | (rw [List.length_append, hdC_len (by first | assumption | exact Go.Proofs.B.shaB_length _ _ | solve_by_elim)]; rfl) | exact hdC_len (by first | assumption | exact Go.Proofs.B.shaB_length _ _ | solve_by_elim) | (rw [bcells_length]; first | assumption | exact Go.Proofs.B.shaB_length _ _ | solve_by_elim) | exact fc_length _ _ | exact fB_length _ _ | rfl) rfl ?_
    rotate_left 1
    focus
      refine JL.pure rfl rfl (OpP.move rfl) ?_
      refine JL.decT rfl rfl (OpP.neq rfl rfl) (by omega) ?_
      refine JL.pure rfl rfl (OpP.pickF rfl rfl) ?_
      refine JL.pure rfl rfl (OpP.move rfl) ?_
      refine JL.skip rfl rfl ?_
      refine JL.skip rfl rfl ?_
      refine JL.skip rfl rfl ?_
      refine JL.skip rfl rfl ?_
      refine JL.pure rfl rfl (OpP.pickT rfl rfl) ?_
      refine JL.nil ?_
      refine J.condT rfl ?_
      refine J.seq ?_
      refine J.region ?_
      refine JL.pure rfl rfl (OpP.build rfl (by (repeat (first | exact Fills.nil | (apply Fills.cons rfl rfl rfl; (case' hs => ((repeat (first | exact Spl.nil | apply Spl.here | apply Spl.there)); done))))))) ?_
      refine JL.mem0 rfl (by apply OpM.storeN rfl rfl (by rfl) (oneC rfl (oneC rfl (oneC rfl (oneC rfl (oneC rfl (oneC rfl (oneC rfl (oneC rfl (oneC rfl (oneC rfl (oneC rfl (oneC rfl (oneC rfl (one1 rfl)))))))))))))); (case' hu => exact (.tail (.tail (.tail (.tail (.tail .head)))))); (case' hs => exact (.here (.here (.here (.here (.here (.here (.here (.here (.here (.here (.here (.here (.here (.here .nil))))))))))))))); done) ?_; rintro _ _ ⟨rfl, rfl⟩
      refine JL.pure rfl rfl (OpP.assign rfl) ?_
      refine JL.nil ?_
      refine J.retC2 rfl rfl (by apply Cells.full; (with_reducible repeat (first | exact .head | apply Has.tail))) (by first | (rw [List.length_append, hdC_len (by first | assumption | exact Go.Proofs.B.shaB_length _ _ | solve_by_elim)]; rfl) | exact hdC_len (by first | assumption | exact Go.Proofs.B.shaB_length _ _ | solve_by_elim) | (rw [bcells_length]; first | assumption | exact Go.Proofs.B.shaB_length _ _ | solve_by_elim) | exact fc_length _ _ | exact fB_length _ _ | rfl) rfl ?_
    rotate_left 1
  rotate_left 2
  focus
    refine JL.pure rfl rfl (OpP.move rfl) ?_
    refine JL.pure rfl rfl (OpP.extract rfl rfl) ?_
    refine JL.pure rfl rfl (OpP.extract rfl rfl) ?_
    refine JL.pure rfl rfl (OpP.assign rfl) ?_
    refine JL.pure rfl rfl (OpP.assign rfl) ?_
    refine JL.nil ?_
    refine J.seq ?_
    refine J.region ?_
    refine JL.pure rfl rfl (OpP.fieldAddr rfl) ?_
    refine JL.read rfl rfl (OpR.load1 rfl (Cell.row (.tail (.tail (.tail (.tail .head)))) rfl)) ?_
    refine JL.f3 ?_; refine JL.f3 ?_; refine JL.step rfl rfl (OpW.call (first := []) (captured := []) inferInstance rfl rfl over_ok) ?_; rintro r20 _ ⟨rfl, rfl⟩
    refine JL.pure rfl rfl (OpP.notB rfl) ?_
    refine JL.pure rfl rfl (OpP.move rfl) ?_
    refine JL.splitAt 22 rfl (fun h22 => ?_) (fun h22 => ?_)
    focus
      refine JL.skip rfl rfl ?_
      refine JL.skip rfl rfl ?_
      refine JL.pure rfl rfl (OpP.pickT rfl rfl) ?_
      refine JL.pure rfl rfl (OpP.move rfl) ?_
      refine JL.skip rfl rfl ?_
      refine JL.skip rfl rfl ?_
      refine JL.skip rfl rfl ?_
      refine JL.skip rfl rfl ?_
      refine JL.pure rfl rfl (OpP.pickT rfl rfl) ?_
      refine JL.nil ?_
      refine J.condT rfl ?_
      refine J.seq ?_
      refine J.region ?_
      refine JL.pure rfl rfl (OpP.build rfl (by (repeat (first | exact Fills.nil | (apply Fills.cons rfl rfl rfl; (case' hs => ((repeat (first | exact Spl.nil | apply Spl.here | apply Spl.there)); done))))))) ?_
      refine JL.mem0 rfl (by apply OpM.storeN rfl rfl (by rfl) (oneC rfl (oneC rfl (oneC rfl (oneC rfl (oneC rfl (oneC rfl (oneC rfl (oneC rfl (oneC rfl (oneC rfl (oneC rfl (oneC rfl (oneC rfl (one1 rfl)))))))))))))); (case' hu => exact (.tail (.tail (.tail (.tail (.tail .head)))))); (case' hs => exact (.here (.here (.here (.here (.here (.here (.here (.here (.here (.here (.here (.here (.here (.here .nil))))))))))))))); done) ?_; rintro _ _ ⟨rfl, rfl⟩
      refine JL.pure rfl rfl (OpP.assign rfl) ?_
      refine JL.nil ?_
      refine J.retC2 rfl rfl (by apply Cells.full; (with_reducible repeat (first | exact .head | apply Has.tail))) (by first | (rw [List.length_append, hdC_len (by first | assumption | exact Go.Proofs.B.shaB_length _ _ | solve_by_elim)]; rfl) | exact hdC_len (by first | assumption | exact Go.Proofs.B.shaB_length _ _ | solve_by_elim) | (rw [bcells_length]; first | assumption | exact Go.Proofs.B.shaB_length _ _ | solve_by_elim) | exact fc_length _ _ | exact fB_length _ _ | rfl) rfl ?_
    rotate_left 1
    focus
      refine JL.pure rfl rfl (OpP.move rfl) ?_
      refine JL.decT rfl rfl (OpP.neq rfl rfl) (by omega) ?_
      refine JL.pure rfl rfl (OpP.pickF rfl rfl) ?_
      refine JL.pure rfl rfl (OpP.move rfl) ?_
      refine JL.skip rfl rfl ?_
      refine JL.skip rfl rfl ?_
      refine JL.skip rfl rfl ?_
      refine JL.skip rfl rfl ?_
      refine JL.pure rfl rfl (OpP.pickT rfl rfl) ?_
      refine JL.nil ?_
      refine J.condT rfl ?_
      refine J.seq ?_
      refine J.region ?_
      refine JL.pure rfl rfl (OpP.build rfl (by (repeat (first | exact Fills.nil | (apply Fills.cons rfl rfl rfl; (case' hs => ((repeat (first | exact Spl.nil | apply Spl.here | apply Spl.there)); done))))))) ?_
      refine JL.mem0 rfl (by apply OpM.storeN rfl rfl (by rfl) (oneC rfl (oneC rfl (oneC rfl (oneC rfl (oneC rfl (oneC rfl (oneC rfl (oneC rfl (oneC rfl (oneC rfl (oneC rfl (oneC rfl (oneC rfl (one1 rfl)))))))))))))); (case' hu => exact (.tail (.tail (.tail (.tail (.tail .head)))))); (case' hs => exact (.here (.here (.here (.here (.here (.here (.here (.here (.here (.here (.here (.here (.here (.here .nil))))))))))))))); done) ?_; rintro _ _ ⟨rfl, rfl⟩
      refine JL.pure rfl rfl (OpP.assign rfl) ?_
      refine JL.nil ?_
      refine J.retC2 rfl rfl (by apply Cells.full; (with_reducible repeat (first | exact .head | apply Has.tail))) (by first | (rw [List.length_append, hdC_len (by first | assumption | exact Go.Proofs.B.shaB_length _ _ | solve_by_elim)]; rfl) | exact hdC_len (by first | assumption | exact Go.Proofs.B.shaB_length _ _ | solve_by_elim) | (rw [bcells_length]; first | assumption | exact Go.Proofs.B.shaB_length _ _ | solve_by_elim) | exact fc_length _ _ | exact fB_length _ _ | rfl) rfl ?_
    rotate_left 1
  rotate_left 2
  · exact ⟨_, ⟨c, H, h122, h123, h124, h125, h126, .inr ⟨fun q => (nd' h22 (hov.1 (hrc.trans q.1))), rfl, rfl⟩⟩, fun _ h => Own.pick (pre := [_, _, _, _, _, _, _]) [] rfl h⟩
  · exact ⟨_, ⟨c, H, h122, h123, h124, h125, h126, .inr ⟨fun q => (nd' h31 (Option.some.inj (h151.symm.trans q.2.2))), rfl, rfl⟩⟩, fun _ h => Own.pick (pre := [_, _, _, _, _, _, _]) [] rfl h⟩
  · have he := nd h31
    subst he
    exact ⟨_, ⟨c, H, h122, h123, h124, h125, h126, .inl ⟨⟨hrc.symm.trans (hov.2 (nd h22)), h15, h151⟩, rfl, rfl⟩⟩, fun _ h => Own.pick (pre := [_, _, _, _, _, _, _]) [4] rfl h⟩
  · exact ⟨_, ⟨c, H, h122, h123, h124, h125, h126, .inr ⟨fun q => (by have := h154.symm.trans q.2.2; cases this), rfl, rfl⟩⟩, fun _ h => Own.pick (pre := [_, _, _, _, _, _]) [] rfl h⟩
  · exact ⟨_, ⟨c, H, h122, h123, h124, h125, h126, .inr ⟨fun q => (by have := h154.symm.trans q.2.2; cases this), rfl, rfl⟩⟩, fun _ h => Own.pick (pre := [_, _, _, _, _, _]) [] rfl h⟩
  · exact ⟨_, ⟨c, H, h122, h123, h124, h125, h126, .inr ⟨fun q => (h155 q.2.1), rfl, rfl⟩⟩, fun _ h => Own.pick (pre := [_, _, _, _, _, _]) [] rfl h⟩
  · exact ⟨_, ⟨c, H, h122, h123, h124, h125, h126, .inr ⟨fun q => (h155 q.2.1), rfl, rfl⟩⟩, fun _ h => Own.pick (pre := [_, _, _, _, _, _]) [] rfl h⟩
end Go.Proofs.E

-- seat e
namespace Go.Proofs.E
open Go Go.Gp Go.RowKit

theorem val_complete {u : Va} {R : List UInt8} (hf : u.Fm) (hz : ∀ e ∈ u.xs, e.n = 0) (hI : InR u.i u.xs) : valO (some (valB u.k u.i u.s u.xs ++ R)) = some R ∧ VaEq (valV (some (valB u.k u.i u.s u.xs ++ R))) u := by
  obtain ⟨d1, d2, d3, d4, d5⟩ := dec_complete (R := R) hf hI
  have hF : (decV (some (valB u.k u.i u.s u.xs ++ R))).Formed := by
    unfold Vv.Formed
    rw [d2, d3, d4, d5]
    exact formed0_iff hz hf
  have hv : valO (some (valB u.k u.i u.s u.xs ++ R)) = some R := by rw [valO, if_pos hF, d1]
  refine ⟨hv, ?_⟩
  rw [valV, if_neg (by rw [hv]; simp)]
  refine ⟨d2, d3, d4, ?_⟩
  dsimp only
  rw [d5, List.map_map]
  rfl
theorem partB_val {u : Va} (h : u.Fm) : partB (pVal u) = some (valB u.k u.i u.s u.xs) := by
  rw [partB, if_neg (by dsimp only; decide), if_neg (by dsimp only; decide), if_neg (by dsimp only; decide), if_neg (by dsimp only; decide), if_neg (by dsimp only; decide), if_neg (by dsimp only; decide), if_neg (by dsimp only; decide), if_pos h]
theorem partB_long {n : Int} : partB (pNum 3 n) = some (be (u64 n) 8) := by rw [partB, if_neg (by dsimp only; decide), if_neg (by dsimp only; decide), if_neg (by dsimp only; decide), if_pos (by dsimp only; decide)]
/-- The bytes of what is had. -/
def hsB (hs : List Hd) : List UInt8 := hs.flatMap fun h => be h.who.length 2 ++ (h.who ++ (be h.name.length 2 ++ (h.name ++ valB h.v.k h.v.i h.v.s h.v.xs)))
theorem hs_complete : ∀ {hs : List Hd} {R : List UInt8}, (∀ h ∈ hs, h.who.length ≤ 4096 ∧ h.name.length ≤ 4096 ∧ h.v.Fm ∧ (∀ e ∈ h.v.xs, e.n = 0) ∧ InR h.v.i h.v.xs) → ∃ hs', hsl hs.length (some (hsB hs ++ R)) = (some R, hs') ∧ HsEq hs' hs
  | [], R, _ => ⟨[], rfl, HsEq.rfl⟩
  | h :: hs, R, hh => by
    obtain ⟨a1, a2, a3, a4, a5⟩ := hh h (by simp)
    obtain ⟨hs', e1, e2⟩ := hs_complete (hs := hs) (R := R) fun x hx => hh x (by simp [hx])
    have e : hsB (h :: hs) ++ R = be h.who.length 2 ++ (h.who ++ (be h.name.length 2 ++ (h.name ++ (valB h.v.k h.v.i h.v.s h.v.xs ++ (hsB hs ++ R))))) := by
      rw [hsB, List.flatMap_cons]
      simp only [List.append_assoc]
      rfl
    obtain ⟨t1, t2⟩ := text_complete (s := h.who) (R := be h.name.length 2 ++ (h.name ++ (valB h.v.k h.v.i h.v.s h.v.xs ++ (hsB hs ++ R)))) a1
    obtain ⟨t3, t4⟩ := text_complete (s := h.name) (R := valB h.v.k h.v.i h.v.s h.v.xs ++ (hsB hs ++ R)) a2
    obtain ⟨t5, t6⟩ := val_complete (R := hsB hs ++ R) a3 a4 a5
    refine ⟨⟨h.who, h.name, valV (some (valB h.v.k h.v.i h.v.s h.v.xs ++ (hsB hs ++ R)))⟩ :: hs', ?_, ?_⟩
    · rw [e, List.length_cons, hsl, t1, t2, t3, t4, t5, e1]
    · refine ⟨by rw [List.length_cons, List.length_cons, e2.1], fun j x y hx hy => ?_⟩
      cases j with
      | zero =>
        rw [List.getElem?_cons_zero] at hx hy
        cases hx; cases hy
        exact ⟨rfl, rfl, t6⟩
      | succ j =>
        rw [List.getElem?_cons_succ] at hx hy
        exact e2.2 j x y hx hy
theorem restP_had : ∀ {hs : List Hd}, (∀ h ∈ hs, h.v.Fm ∧ (∃ bs, partB (tP h.who) = some bs) ∧ ∃ bs, partB (tP h.name) = some bs) → restP (hs.flatMap hadP) = hsB hs
  | [], _ => rfl
  | h :: hs, hh => by
    obtain ⟨h1, ⟨b1, h2⟩, b2, h3⟩ := hh h (by simp)
    rw [List.flatMap_cons, restP_app, restP_had fun x hx => hh x (by simp [hx]), hadP, restP_cons h2, restP_cons h3, restP_cons (partB_val h1), show restP [] = [] from rfl, (partB_text h2).2, (partB_text h3).2, hsB, hsB, List.flatMap_cons]
    simp only [List.append_assoc, List.append_nil]
theorem cm_complete {d : Cm} {bs : List UInt8} (hm : MayP d) (ho : cmO d = some bs) (hR : CmRng d) (hf : FewC d) : (rcm (some bs)).1 = some [] ∧ Cm.Eq (rcm (some bs)).2 d := by
  obtain ⟨h1, h2⟩ := allF_app ho
  rw [List.nil_append] at h1
  obtain ⟨t1, t2, t3, t8, t9, t10, t11, td⟩ := tail_of d
  have hk := hm.1.1
  have hfv := (few_okE (k := d.row.v.k) (i := d.row.v.i) (s := d.row.v.s) (xs := d.row.v.xs) (a := d.row.v.a) (c := d.row.v.c) hf.v).2.2
  have hvF : d.row.v.Fm := hm.2.2.2.1.2.2.2.2
  have hn0 := hm.2.2.2.1.1
  have hn1 := hm.2.2.2.1.2.1
  have hn2 := hm.2.2.2.1.2.2.1
  have hhl := hm.2.2.2.1.2.2.2.1
  have m_text : d.kind ≠ 1 → [] = d.text := fun h => nil_eq.2 (by have := hm.1.2.1; omega)
  have m_n : d.kind ≠ 8 → d.kind ≠ 9 → 0 = d.n := fun h h' => by have := hm.1.2.2.1; omega
  have m_t : d.kind ≠ 8 → d.kind ≠ 10 → 0 = d.t := fun h h' => by have := hm.1.2.2.2.1; omega
  have m_h : d.kind ≠ 11 → HsEq [] d.hs := fun h => HsEq.nil.2 (by have := hm.1.2.2.2.2; omega)
  have m_v : d.kind ≠ 2 → VaEq zVa d.row.v := fun h => by
    rcases hm.2.1.2 with h2 | h2
    · exact absurd h2 h
    · exact h2.symm
  have m_row : d.kind ≠ 2 → d.kind ≠ 3 → zRw.Eq d.row := fun h h' => zRw_eq.2 ⟨by have := hm.2.1.1; omega, (m_v h).symm⟩
  have m_a : d.kind < 4 ∨ d.kind = 10 → [] = d.a := fun h => nil_eq.2 (by have := hm.2.2.1.1; omega)
  have m_b : d.kind < 4 ∨ d.kind = 10 ∨ d.kind = 9 → [] = d.b := fun h => nil_eq.2 (by have q1 := hm.2.2.1.1; have q2 := hm.2.2.1.2; omega)
  have hkb : partB (pNum 0 d.kind) = some (be d.kind.toNat 1) := partB_b (by omega) (by omega)
  rw [cmP, restP_cons hkb] at h1
  have hP : ∀ p ∈ tailP d, ∃ bs, partB p = some bs := fun p hp => h2 p (by rw [cmP]; exact List.mem_cons_of_mem _ hp)
  obtain ⟨n1, n2⟩ := num_be (n := d.kind.toNat) (k := 1) (R := restP (tailP d)) (by omega)
  rw [← h1] at n1 n2
  have n2' : restO (some bs) 1 = some (restP (tailP d)) := n2
  have hkc : ((d.kind.toNat : Nat) : Int) = d.kind := by omega
  dsimp only [rcm]
  rw [n1, n2', hkc]
  by_cases k1 : d.kind = 1
  · rw [t1 k1] at hP ⊢
    obtain ⟨b1, p1⟩ := hP _ (List.mem_cons_self ..)
    rw [if_pos k1, restP_cons p1, (partB_text p1).2, List.append_assoc]
    obtain ⟨c1, c2⟩ := text_complete (R := restP []) (partB_text p1).1
    rw [c1, c2]
    exact ⟨rfl, rfl, rfl, m_row (by omega) (by omega), m_a (by omega), m_b (by omega), m_n (by omega) (by omega), m_t (by omega) (by omega), m_h (by omega)⟩
  rw [if_neg k1]
  by_cases k2 : d.kind = 2
  · rw [t2 k2] at hP ⊢
    obtain ⟨b1, p1⟩ := hP (tP d.row.who) (by simp)
    obtain ⟨b2, p2⟩ := hP (tP d.row.name) (by simp)
    obtain ⟨b3, p3⟩ := hP (tP d.row.attr) (by simp)
    rw [if_pos k2, restP_cons p1, restP_cons p2, restP_cons p3, restP_cons (partB_val hvF), (partB_text p1).2, (partB_text p2).2, (partB_text p3).2, List.append_assoc, List.append_assoc, List.append_assoc]
    obtain ⟨c1, c2⟩ := text_complete (R := be d.row.name.length 2 ++ (d.row.name ++ (be d.row.attr.length 2 ++ (d.row.attr ++ (valB d.row.v.k d.row.v.i d.row.v.s d.row.v.xs ++ restP []))))) (partB_text p1).1
    obtain ⟨c3, c4⟩ := text_complete (R := be d.row.attr.length 2 ++ (d.row.attr ++ (valB d.row.v.k d.row.v.i d.row.v.s d.row.v.xs ++ restP []))) (partB_text p2).1
    obtain ⟨c5, c6⟩ := text_complete (R := valB d.row.v.k d.row.v.i d.row.v.s d.row.v.xs ++ restP []) (partB_text p3).1
    obtain ⟨c7, c8⟩ := val_complete (R := restP []) hvF hfv hR.v
    rw [c1, c2, c3, c4, c5, c6]
    exact ⟨c7, rfl, m_text (by omega), ⟨rfl, rfl, rfl, c8⟩, m_a (by omega), m_b (by omega), m_n (by omega) (by omega), m_t (by omega) (by omega), m_h (by omega)⟩
  rw [if_neg k2]
  by_cases k3 : d.kind = 3
  · rw [t3 k3] at hP ⊢
    obtain ⟨b1, p1⟩ := hP (tP d.row.who) (by simp)
    obtain ⟨b2, p2⟩ := hP (tP d.row.name) (by simp)
    obtain ⟨b3, p3⟩ := hP (tP d.row.attr) (by simp)
    rw [if_pos k3, restP_cons p1, restP_cons p2, restP_cons p3, (partB_text p1).2, (partB_text p2).2, (partB_text p3).2, List.append_assoc, List.append_assoc, List.append_assoc]
    obtain ⟨c1, c2⟩ := text_complete (R := be d.row.name.length 2 ++ (d.row.name ++ (be d.row.attr.length 2 ++ (d.row.attr ++ restP [])))) (partB_text p1).1
    obtain ⟨c3, c4⟩ := text_complete (R := be d.row.attr.length 2 ++ (d.row.attr ++ restP [])) (partB_text p2).1
    obtain ⟨c5, c6⟩ := text_complete (R := restP []) (partB_text p3).1
    rw [c1, c2, c3, c4, c5, c6]
    exact ⟨rfl, rfl, m_text (by omega), ⟨rfl, rfl, rfl, m_v (by omega)⟩, m_a (by omega), m_b (by omega), m_n (by omega) (by omega), m_t (by omega) (by omega), m_h (by omega)⟩
  rw [if_neg k3]
  by_cases k9 : d.kind = 9
  · rw [t9 k9] at hP ⊢
    obtain ⟨b1, p1⟩ := hP (tP d.a) (by simp)
    rw [if_pos k9, restP_cons p1, restP_cons (partB_s hn0 hn2), (partB_text p1).2, List.append_assoc]
    obtain ⟨c1, c2⟩ := text_complete (R := be d.n.toNat 2 ++ restP []) (partB_text p1).1
    obtain ⟨c3, c4⟩ := num_be (n := d.n.toNat) (k := 2) (R := restP []) (by omega)
    have c4' : restO (some (be d.n.toNat 2 ++ restP [])) 2 = some (restP []) := c4
    rw [c1, c2, c3, c4']
    exact ⟨rfl, rfl, m_text (by omega), m_row (by omega) (by omega), rfl, m_b (by omega), by dsimp only; omega, m_t (by omega) (by omega), m_h (by omega)⟩
  rw [if_neg k9]
  by_cases k10 : d.kind = 10
  · rw [t10 k10]
    rw [if_pos k10, restP_cons partB_long]
    obtain ⟨c3, c4⟩ := num_be (n := u64 d.t) (k := 8) (R := restP []) (u64_lt d.t)
    have c4' : restO (some (be (u64 d.t) 8 ++ restP [])) 8 = some (restP []) := c4
    rw [c3, c4', i64_u64 hR.t.1 hR.t.2]
    exact ⟨rfl, rfl, m_text (by omega), m_row (by omega) (by omega), m_a (by omega), m_b (by omega), m_n (by omega) (by omega), rfl, m_h (by omega)⟩
  rw [if_neg k10]
  by_cases k8 : d.kind = 8
  · rw [t8 k8] at hP ⊢
    obtain ⟨b1, p1⟩ := hP (tP d.a) (by simp)
    obtain ⟨b2, p2⟩ := hP (tP d.b) (by simp)
    rw [if_pos k8, restP_cons p1, restP_cons p2, restP_cons (partB_b hn0 (by omega)), restP_cons partB_long, (partB_text p1).2, (partB_text p2).2, List.append_assoc, List.append_assoc]
    obtain ⟨c1, c2⟩ := text_complete (R := be d.b.length 2 ++ (d.b ++ (be d.n.toNat 1 ++ (be (u64 d.t) 8 ++ restP [])))) (partB_text p1).1
    obtain ⟨c3, c4⟩ := text_complete (R := be d.n.toNat 1 ++ (be (u64 d.t) 8 ++ restP [])) (partB_text p2).1
    obtain ⟨c5, c6⟩ := num_be (n := d.n.toNat) (k := 1) (R := be (u64 d.t) 8 ++ restP []) (by omega)
    have c6' : restO (some (be d.n.toNat 1 ++ (be (u64 d.t) 8 ++ restP []))) 1 = some (be (u64 d.t) 8 ++ restP []) := c6
    obtain ⟨c7, c8⟩ := num_be (n := u64 d.t) (k := 8) (R := restP []) (u64_lt d.t)
    have c8' : restO (some (be (u64 d.t) 8 ++ restP [])) 8 = some (restP []) := c8
    rw [c1, c2, c3, c4, c5, c6', c7, c8', i64_u64 hR.t.1 hR.t.2]
    exact ⟨rfl, rfl, m_text (by omega), m_row (by omega) (by omega), rfl, rfl, by dsimp only; omega, rfl, m_h (by omega)⟩
  rw [if_neg k8]
  by_cases k11 : d.kind = 11
  · rw [t11 k11] at hP ⊢
    obtain ⟨b1, p1⟩ := hP (tP d.a) (by simp)
    obtain ⟨b2, p2⟩ := hP (tP d.b) (by simp)
    have hw : ∀ h ∈ d.hs, h.v.Fm ∧ (∃ bs, partB (tP h.who) = some bs) ∧ ∃ bs, partB (tP h.name) = some bs := fun h hh => by
      obtain ⟨j, hj⟩ := List.getElem?_of_mem hh
      exact ⟨hm.2.2.2.2 j h hj, hP _ (List.mem_append_right _ (List.mem_flatMap.2 ⟨h, hh, by simp [hadP]⟩)), hP _ (List.mem_append_right _ (List.mem_flatMap.2 ⟨h, hh, by simp [hadP]⟩))⟩
    have hw2 : ∀ h ∈ d.hs, h.who.length ≤ 4096 ∧ h.name.length ≤ 4096 ∧ h.v.Fm ∧ (∀ e ∈ h.v.xs, e.n = 0) ∧ InR h.v.i h.v.xs := fun h hh => by
      obtain ⟨q1, ⟨_, q2⟩, _, q3⟩ := hw h hh
      exact ⟨(partB_text q2).1, (partB_text q3).1, q1, (few_okE (k := h.v.k) (i := h.v.i) (s := h.v.s) (xs := h.v.xs) (a := h.v.a) (c := h.v.c) (hf.h h hh).2.2).2.2, hR.h h hh⟩
    rw [if_pos k11, restP_app, restP_had hw, restP_cons p1, restP_cons p2, restP_cons (partB_b (by omega) (by omega)), show restP [] = [] from rfl, (partB_text p1).2, (partB_text p2).2, Int.toNat_natCast]
    simp only [List.append_assoc, List.nil_append]
    obtain ⟨c1, c2⟩ := text_complete (R := be d.b.length 2 ++ (d.b ++ (be d.hs.length 1 ++ hsB d.hs))) (partB_text p1).1
    obtain ⟨c3, c4⟩ := text_complete (R := be d.hs.length 1 ++ hsB d.hs) (partB_text p2).1
    obtain ⟨c5, c6⟩ := num_be (n := d.hs.length) (k := 1) (R := hsB d.hs) (by omega)
    have c6' : restO (some (be d.hs.length 1 ++ hsB d.hs)) 1 = some (hsB d.hs) := c6
    obtain ⟨hs', c7, c8⟩ := hs_complete (R := []) hw2
    rw [List.append_nil] at c7
    rw [c1, c2, c3, c4, c5, c6', c7]
    exact ⟨rfl, rfl, m_text (by omega), m_row (by omega) (by omega), rfl, rfl, m_n (by omega) (by omega), m_t (by omega) (by omega), c8⟩
  rw [if_neg k11]
  rw [td k1 k2 k3 k8 k9 k10 k11] at hP ⊢
  obtain ⟨b1, p1⟩ := hP (tP d.a) (by simp)
  obtain ⟨b2, p2⟩ := hP (tP d.b) (by simp)
  rw [restP_cons p1, restP_cons p2, (partB_text p1).2, (partB_text p2).2, List.append_assoc, List.append_assoc]
  obtain ⟨c1, c2⟩ := text_complete (R := be d.b.length 2 ++ (d.b ++ restP [])) (partB_text p1).1
  obtain ⟨c3, c4⟩ := text_complete (R := restP []) (partB_text p2).1
  rw [c1, c2, c3, c4]
  exact ⟨rfl, rfl, m_text (by omega), m_row (by omega) (by omega), rfl, rfl, m_n (by omega) (by omega), m_t (by omega) (by omega), m_h (by omega)⟩
end Go.Proofs.E

-- seat e
namespace Go.Proofs.E
open Go Go.Gp Go.RowKit

theorem VaEq.trans {u v w : Va} (h : VaEq u v) (h2 : VaEq v w) : VaEq u w := ⟨h.1.trans h2.1, h.2.1.trans h2.2.1, h.2.2.1.trans h2.2.2.1, h.2.2.2.trans h2.2.2.2⟩
theorem Hd.Eq.trans {u v w : Hd} (h : u.Eq v) (h2 : v.Eq w) : u.Eq w := ⟨h.1.trans h2.1, h.2.1.trans h2.2.1, h.2.2.trans h2.2.2⟩
theorem Rw.Eq.trans {u v w : Rw} (h : u.Eq v) (h2 : v.Eq w) : u.Eq w := ⟨h.1.trans h2.1, h.2.1.trans h2.2.1, h.2.2.1.trans h2.2.2.1, h.2.2.2.trans h2.2.2.2⟩
theorem HsEq.trans {xs ys zs : List Hd} (h : HsEq xs ys) (h2 : HsEq ys zs) : HsEq xs zs := ⟨h.1.trans h2.1, fun j x z hx hz => by
  obtain ⟨y, hy⟩ : ∃ e, ys[j]? = some e := ⟨_, List.getElem?_eq_getElem (by have := (List.getElem?_eq_some_iff.1 hx).1; rw [← h.1]; exact this)⟩
  exact (h.2 j x y hx hy).trans (h2.2 j y z hy hz)⟩
theorem Cm.Eq.trans {u v w : Cm} (h : u.Eq v) (h2 : v.Eq w) : u.Eq w :=
  ⟨h.1.trans h2.1, h.2.1.trans h2.2.1, h.2.2.1.trans h2.2.2.1, h.2.2.2.1.trans h2.2.2.2.1, h.2.2.2.2.1.trans h2.2.2.2.2.1, h.2.2.2.2.2.1.trans h2.2.2.2.2.2.1, h.2.2.2.2.2.2.1.trans h2.2.2.2.2.2.2.1, h.2.2.2.2.2.2.2.trans h2.2.2.2.2.2.2.2⟩
theorem may_eq {c d : Cm} (h : c.Eq d) (hv : c.row.v.Fm) (hh : ∀ x ∈ c.hs, x.v.Fm) (hm : MayP d) : MayP c := by
  obtain ⟨e1, e2, ⟨r1, r2, r3, r4⟩, e4, e5, e6, e7, e8⟩ := h
  obtain ⟨a1, a2, a3, a4, a5⟩ := hm
  refine ⟨?_, ?_, ?_, ?_, fun j x hx => hh x (List.mem_of_getElem? hx)⟩
  · unfold May1 at a1 ⊢; rw [e1, e2, e6, e7, e8.1]; exact a1
  · obtain ⟨b1, b2⟩ := a2
    exact ⟨by rw [e1, r1, r2, r3]; exact b1, by rw [e1]; exact b2.imp id fun q => r4.trans q⟩
  · unfold May3 at a3 ⊢; rw [e1, e4, e5]; exact a3
  · obtain ⟨b1, b2, b3, b4, _⟩ := a4
    exact ⟨by rw [e6]; exact b1, by rw [e1, e6]; exact b2, by rw [e6]; exact b3, by rw [e8.1]; exact b4, hv⟩
theorem valB_eq {u v : Va} (h : VaEq u v) : valB u.k u.i u.s u.xs = valB v.k v.i v.s v.xs := by
  obtain ⟨h1, h2, h3, hm⟩ := h
  have e : ∀ zs : List El, (zs.flatMap fun e => valP e.k e.i e.s) = (zs.map pl).flatMap fun p => valP p.1 p.2.1 p.2.2 := fun zs => by rw [List.flatMap_map]; rfl
  have hl : u.xs.length = v.xs.length := by have := congrArg List.length hm; simpa using this
  unfold valB
  rw [h1, h2, h3, hl, e, e, hm]
theorem had_eq {o : Option (List UInt8)} {x y : Hd} (h : x.Eq y) (hx : x.v.Fm) (hy : y.v.Fm) : allF o (hadP x) = allF o (hadP y) := by
  rw [allF_had hx, allF_had hy, h.1, h.2.1, valB_eq h.2.2]
theorem hs_eq : ∀ {xs ys : List Hd} {o : Option (List UInt8)}, HsEq xs ys → (∀ x ∈ xs, x.v.Fm) → (∀ y ∈ ys, y.v.Fm) → allF o (xs.flatMap hadP) = allF o (ys.flatMap hadP)
  | [], [], _, _, _, _ => rfl
  | [], _ :: _, _, h, _, _ => by cases h.1
  | _ :: _, [], _, h, _, _ => by cases h.1
  | x :: xs, y :: ys, o, h, hx, hy => by
    rw [List.flatMap_cons, List.flatMap_cons, allF_append, allF_append, had_eq (h.2 0 x y rfl rfl) (hx x (by simp)) (hy y (by simp))]
    exact hs_eq ⟨by have := h.1; simpa using this, fun j u w hu hw => h.2 (j + 1) u w (by rw [List.getElem?_cons_succ]; exact hu) (by rw [List.getElem?_cons_succ]; exact hw)⟩ (fun q hq => hx q (by simp [hq])) (fun q hq => hy q (by simp [hq]))
theorem cmO_eq {c d : Cm} (h : c.Eq d) (hv : c.row.v.Fm) (hh : ∀ x ∈ c.hs, x.v.Fm) (hm : MayP d) : cmO c = cmO d := by
  have hd : ∀ y ∈ d.hs, y.v.Fm := fun y hy => by obtain ⟨j, hj⟩ := List.getElem?_of_mem hy; exact hm.2.2.2.2 j y hj
  have hdv : d.row.v.Fm := hm.2.2.2.1.2.2.2.2
  obtain ⟨e1, e2, ⟨r1, r2, r3, r4⟩, e4, e5, e6, e7, e8⟩ := h
  unfold cmO cmP tailP
  rw [e1, e2, r1, r2, r3, e4, e5, e6, e7, e8.1, allF_cons, allF_cons]
  split
  · rfl
  split
  · simp only [allF_cons, allF_nil, allF_val hv, allF_val hdv, valB_eq r4]
  repeat' split
  all_goals first
    | rfl
    | (rw [allF_append, allF_append]; exact hs_eq e8 hh hd)
theorem rcm_t {o : Option (List UInt8)} : -9223372036854775808 ≤ (rcm o).2.t ∧ (rcm o).2.t ≤ 9223372036854775807 := by
  dsimp only [rcm]
  repeat' split
  all_goals first
    | exact i64_rng _
    | (dsimp only; omega)
theorem CommandReads_ok {w0 : World} {v : Value} {l : List UInt8} (hl : l.length ≤ 9223372036854775807) (hr : RdO w0 [] v l.length (bcells l)) :
    FnO Try.prog w0 12 [v] [] (fun v _ => v = .bool true) := by
  refine FnO.rdF (fun _ h => h) hr fun hr1 => ?_
  obtain ⟨a1, c1, rfl⟩ := hr1.lit
  refine FnO.intro (n := 43) Try.func12 rfl rfl rfl ?_
  refine J.seq ?_
  refine J.region ?_
  refine JL.pure rfl rfl (OpP.assign rfl) ?_
  refine JL.nil ?_
  refine J.seq ?_
  refine J.seq ?_
  refine J.region ?_
  refine JL.step rfl rfl (OpW.call (first := []) (captured := []) inferInstance rfl rfl awake36_ok) ?_; rintro r7 _ ⟨rfl, rfl⟩
  refine JL.pure rfl rfl (OpP.notB rfl) ?_
  refine JL.pure rfl rfl (OpP.move rfl) ?_
  refine JL.pure rfl rfl (OpP.move rfl) ?_
  refine JL.pure rfl rfl (OpP.len rfl rfl) ?_
  refine JL.dec rfl rfl (OpP.gtr rfl rfl) (fun h12 => ?_) (fun h12 => ?_)
  focus
    refine JL.pure rfl rfl (OpP.pickF rfl rfl) ?_
    refine JL.nil ?_
    refine J.condT rfl ?_
    refine J.seq ?_
    refine J.region ?_
    refine JL.step rfl rfl (OpW.call (first := []) (captured := []) inferInstance rfl rfl awake36_ok) ?_; rintro r14 _ ⟨rfl, rfl⟩
    refine JL.pure rfl rfl (OpP.assign rfl) ?_
    refine JL.nil ?_
    refine J.ret1 rfl rfl ?_
  rotate_left 1
  focus
    refine JL.pure rfl rfl (OpP.pickF rfl rfl) ?_
    refine JL.nil ?_
    refine J.condF rfl ?_
    refine J.skip ?_
  rotate_left 1
  · rfl
  have pd := decCm_ok (w0 := w0) (F := []) (l := l) (by omega) hr
  have sz := fun (F : List HProp) => refSameCm_ok (w0 := w0) (F := F) (c := zCm) (d := zCm) cmOk_z cmOk_z
  refine J.seq ?_
  refine J.region ?_
  refine JL.pure rfl rfl (OpP.move rfl) ?_
  refine JL.step rfl rfl (OpW.call (first := []) (captured := []) inferInstance rfl rfl pd) ?_; rintro r17 _ ⟨c, ⟨H, ⟨h17, ⟨h171, ⟨h172, ⟨h173, ⟨h174, (⟨h175, ⟨rfl, rfl⟩⟩ | ⟨h176, ⟨rfl, rfl⟩⟩)⟩⟩⟩⟩⟩⟩⟩
  focus
    refine JL.pure rfl rfl (OpP.move rfl) ?_
    refine JL.pure rfl rfl (OpP.extract rfl rfl) ?_
    refine JL.pure rfl rfl (OpP.extract rfl rfl) ?_
    refine JL.mem rfl rfl OpM.alloc ?_; rintro _ _ ⟨b3, rfl, rfl⟩
    refine JL.mem0 rfl (by apply OpM.storeN rfl rfl (by rfl) (oneC rfl (oneC rfl (oneC rfl (oneC rfl (oneC rfl (oneC rfl (oneC rfl (oneC rfl (oneC rfl (oneC rfl (oneC rfl (oneC rfl (oneC rfl (one1 rfl)))))))))))))); (case' hu => exact .head); (case' hs => exact (.here (.here (.here (.here (.here (.here (.here (.here (.here (.here (.here (.here (.here (.here .nil))))))))))))))); done) ?_; rintro _ _ ⟨rfl, rfl⟩
    refine JL.pure rfl rfl (OpP.assign rfl) ?_
    refine JL.nil ?_
    refine J.seq ?_
    refine J.seq ?_
    refine J.region ?_
    refine JL.pure rfl rfl (OpP.move rfl) ?_
    refine JL.decF rfl rfl (OpP.neq rfl rfl) (by omega) ?_
    refine JL.nil ?_
    refine J.condF rfl ?_
    refine J.skip ?_
  rotate_left 1
  focus
    refine JL.pure rfl rfl (OpP.move rfl) ?_
    refine JL.pure rfl rfl (OpP.extract rfl rfl) ?_
    refine JL.pure rfl rfl (OpP.extract rfl rfl) ?_
    refine JL.mem rfl rfl OpM.alloc ?_; rintro _ _ ⟨b3, rfl, rfl⟩
    refine JL.mem0 rfl (by apply OpM.storeN rfl rfl (by rfl) (oneC rfl (oneC rfl (oneC rfl (oneC rfl (oneC rfl (oneC rfl (oneC rfl (oneC rfl (oneC rfl (oneC rfl (oneC rfl (oneC rfl (oneC rfl (one1 rfl)))))))))))))); (case' hu => exact .head); (case' hs => exact (.here (.here (.here (.here (.here (.here (.here (.here (.here (.here (.here (.here (.here (.here .nil))))))))))))))); done) ?_; rintro _ _ ⟨rfl, rfl⟩
    refine JL.pure rfl rfl (OpP.assign rfl) ?_
    refine JL.nil ?_
    refine J.seq ?_
    refine J.seq ?_
    refine J.region ?_
    refine JL.pure rfl rfl (OpP.move rfl) ?_
    refine JL.decT rfl rfl (OpP.neq rfl rfl) (by omega) ?_
    refine JL.nil ?_
    refine J.condT rfl ?_
    refine J.seq ?_
    refine J.region ?_
    refine JL.pure rfl rfl (OpP.move rfl) ?_
    refine JL.decT rfl rfl (OpP.eql rfl rfl) (by omega) ?_
    refine JL.pure rfl rfl (OpP.move rfl) ?_
    refine JL.read rfl rfl (OpR.loadN rfl (Cells.full .head) rfl) ?_
    refine JL.pure rfl rfl (OpP.build rfl (by (repeat (first | exact Fills.nil | (apply Fills.cons rfl rfl rfl; (case' hs => ((repeat (first | exact Spl.nil | apply Spl.here | apply Spl.there)); done))))))) ?_
    refine JL.step rfl rfl (OpW.call (first := []) (captured := []) inferInstance rfl rfl (sz _)) ?_; rintro r27 _ ⟨b, ⟨rfl, ⟨rfl, h27⟩⟩⟩
    refine JL.pure rfl rfl (OpP.pickT rfl rfl) ?_
    refine JL.pure rfl rfl (OpP.assign rfl) ?_
    refine JL.nil ?_
    refine J.ret1 rfl rfl ?_
  rotate_left 1
  · have ht : -9223372036854775808 ≤ c.t ∧ c.t ≤ 9223372036854775807 := by rw [h17.2.2.2.2.2.2.1]; exact rcm_t
    have pe := fun (A : HProp) => enc1 (refBytes_ok (w0 := w0) (F := [A, H]) (c := c) (h174 []).sub h171 ht) h175.2.1 h175.2.2
    refine J.seq ?_
    refine J.region ?_
    refine JL.read rfl rfl (OpR.loadN rfl (Cells.full .head) rfl) ?_
    refine JL.step rfl rfl (OpW.call (first := []) (captured := []) inferInstance rfl rfl (pe _)) ?_; rintro r31 _ ⟨a, ⟨c2, ⟨rfl, rfl⟩⟩⟩
    refine JL.pure rfl rfl (OpP.move rfl) ?_
    refine JL.pure rfl rfl (OpP.extract rfl rfl) ?_
    refine JL.pure rfl rfl (OpP.extract rfl rfl) ?_
    refine JL.pure rfl rfl (OpP.assign rfl) ?_
    refine JL.pure rfl rfl (OpP.assign rfl) ?_
    refine JL.nil ?_
    refine J.seq ?_
    refine J.region ?_
    refine JL.pure rfl rfl (OpP.move rfl) ?_
    refine JL.decT rfl rfl (OpP.eql rfl rfl) (by omega) ?_
    refine JL.pure rfl rfl (OpP.move rfl) ?_
    refine JL.pure rfl rfl (OpP.move rfl) ?_
    refine JL.read rfl rfl (OpR.rdStr (by rfl) (RdO.own .head) (by rfl)) ?_
    refine JL.pure rfl rfl (OpP.move rfl) ?_
    refine JL.read rfl rfl (OpR.rdStr (by rfl) (hr.conv fun _ h => h.none) (by rfl)) ?_
    refine JL.dec rfl rfl (OpP.eqStr rfl rfl) (fun h41 => ?_) (fun h41 => ?_)
    focus
      refine JL.pure rfl rfl (OpP.pickT rfl rfl) ?_
      refine JL.pure rfl rfl (OpP.assign rfl) ?_
      refine JL.nil ?_
      refine J.ret1 rfl rfl ?_
    rotate_left 1
    focus
      refine JL.pure rfl rfl (OpP.pickT rfl rfl) ?_
      refine JL.pure rfl rfl (OpP.assign rfl) ?_
      refine JL.nil ?_
      refine J.ret1 rfl rfl ?_
    rotate_left 1
    · rfl
    · exact absurd rfl h41
  · exact congrArg Value.bool (h27.2 ⟨rfl, rfl, Rw.Eq.rfl, rfl, rfl, rfl, rfl, HsEq.rfl⟩)
theorem decCmT {w0 : World} {F : List HProp} {v : Value} {d : Cm} {bs : List UInt8} (hm : MayP d) (ho : cmO d = some bs) (hR : CmRng d) (hf : FewC d) (hl : bs.length ≤ 4096) (hr : RdO w0 F v bs.length (bcells bs)) :
    FnO Try.prog w0 48 [v] F (fun r l' => ∃ c H, c.Eq d ∧ (∀ l, CmOk w0 (H :: l) c) ∧ r = .tuple #[.agg c.cells.toArray, .int .i64 0] ∧ l' = H :: F) :=
  (decCm_ok (by omega) hr).mono fun r l' ⟨c, H, e1, e2, e3, e4, e5, e6⟩ => by
    obtain ⟨q1, q2⟩ := cm_complete hm ho hR hf
    have he := e1.trans q2
    have hc : MayP c := may_eq he e3 e4 hm
    have hb : cmO c = some bs := (cmO_eq he e3 e4 hm).trans ho
    rcases e6 with ⟨_, h1, h2⟩ | ⟨h, _⟩
    · exact ⟨c, H, he, e5, h1, h2⟩
    · exact absurd ⟨q1, hc, hb⟩ h
theorem CommandWrites_ok {w0 : World} {c : Cm} (hc : CmRaw w0 [] c) (hR : CmRng c) :
    FnO Try.prog w0 11 [.agg c.cells.toArray] [] (fun v _ => v = .bool true) := by
  have g1 := fun (A : HProp) => few37_ok (F := [A]) hc.sub
  refine FnO.intro (n := 56) Try.func11 rfl rfl rfl ?_
  refine J.seq ?_
  refine J.region ?_
  refine JL.mem rfl rfl (OpM.box rfl rfl) ?_; rintro _ _ ⟨b1, rfl, rfl⟩
  refine JL.pure rfl rfl (OpP.assign rfl) ?_
  refine JL.nil ?_
  refine J.seq ?_
  refine J.seq ?_
  refine J.region ?_
  refine JL.step rfl rfl (OpW.call (first := []) (captured := []) inferInstance rfl rfl awake36_ok) ?_; rintro r9 _ ⟨rfl, rfl⟩
  refine JL.pure rfl rfl (OpP.notB rfl) ?_
  refine JL.pure rfl rfl (OpP.move rfl) ?_
  refine JL.read rfl rfl (OpR.loadN rfl (Cells.full .head) rfl) ?_
  refine JL.step rfl rfl (OpW.call (first := []) (captured := []) inferInstance rfl rfl (g1 _)) ?_; rintro r13 _ ⟨b, ⟨rfl, ⟨rfl, h13⟩⟩⟩
  refine JL.pure rfl rfl (OpP.notB rfl) ?_
  refine JL.pure rfl rfl (OpP.pickF rfl rfl) ?_
  refine JL.nil ?_
  refine J.splitAt 15 rfl (fun h15 => ?_) (fun h15 => ?_)
  focus
    refine J.condT rfl ?_
    refine J.seq ?_
    refine J.region ?_
    refine JL.step rfl rfl (OpW.call (first := []) (captured := []) inferInstance rfl rfl awake36_ok) ?_; rintro r16 _ ⟨rfl, rfl⟩
    refine JL.pure rfl rfl (OpP.assign rfl) ?_
    refine JL.nil ?_
    refine J.ret1 rfl rfl ?_
  rotate_left 1
  focus
    refine J.condF rfl ?_
    refine J.skip ?_
  rotate_left 1
  · rfl
  have fc := h13 (by cases b <;> first | rfl | cases h15)
  have oc := hc.ok fc
  have oa : ∀ F, CmOk w0 F c := fun F => oc.conv fun _ h => h.none
  by_cases hm : MayP c
  · cases ho : cmO c with
    | none =>
      refine J.seq ?_
      refine J.region ?_
      refine JL.read rfl rfl (OpR.loadN rfl (Cells.full .head) rfl) ?_
      refine JL.step rfl rfl (OpW.call (first := []) (captured := []) inferInstance rfl rfl (enc2 (encCm_ok (oa _) fc.sz) hm ho)) ?_; rintro r19 _ ⟨rfl, rfl⟩
      refine JL.pure rfl rfl (OpP.move rfl) ?_
      refine JL.pure rfl rfl (OpP.extract rfl rfl) ?_
      refine JL.pure rfl rfl (OpP.extract rfl rfl) ?_
      refine JL.pure rfl rfl (OpP.assign rfl) ?_
      refine JL.pure rfl rfl (OpP.assign rfl) ?_
      refine JL.nil ?_
      refine J.seq ?_
      refine J.region ?_
      refine JL.read rfl rfl (OpR.loadN rfl (Cells.full .head) rfl) ?_
      refine JL.step rfl rfl (OpW.call (first := []) (captured := []) inferInstance rfl rfl (enc2 (refBytes_ok (oa _) fc.sz hR.t) hm ho)) ?_; rintro r24 _ ⟨rfl, rfl⟩
      refine JL.pure rfl rfl (OpP.move rfl) ?_
      refine JL.pure rfl rfl (OpP.extract rfl rfl) ?_
      refine JL.pure rfl rfl (OpP.extract rfl rfl) ?_
      refine JL.pure rfl rfl (OpP.assign rfl) ?_
      refine JL.pure rfl rfl (OpP.assign rfl) ?_
      refine JL.nil ?_
      refine J.seq ?_
      refine J.seq ?_
      refine J.region ?_
      refine JL.pure rfl rfl (OpP.move rfl) ?_
      refine JL.pure rfl rfl (OpP.move rfl) ?_
      refine JL.decF rfl rfl (OpP.neq rfl rfl) (by omega) ?_
      refine JL.pure rfl rfl (OpP.move rfl) ?_
      refine JL.pure rfl rfl (OpP.move rfl) ?_
      refine JL.read rfl rfl (OpR.rdStr (by rfl) RdO.nilB (by rfl)) ?_
      refine JL.pure rfl rfl (OpP.move rfl) ?_
      refine JL.read rfl rfl (OpR.rdStr (by rfl) RdO.nilB (by rfl)) ?_
      refine JL.decF rfl rfl (OpP.neStr rfl rfl) (by decide) ?_
      refine JL.pure rfl rfl (OpP.pickF rfl rfl) ?_
      refine JL.nil ?_
      refine J.condF rfl ?_
      refine J.skip ?_
      refine J.seq ?_
      refine J.seq ?_
      refine J.region ?_
      refine JL.pure rfl rfl (OpP.move rfl) ?_
      refine JL.decT rfl rfl (OpP.neq rfl rfl) (by omega) ?_
      refine JL.nil ?_
      refine J.condT rfl ?_
      refine J.seq ?_
      refine J.region ?_
      refine JL.pure rfl rfl (OpP.assign rfl) ?_
      refine JL.nil ?_
      refine J.ret1 rfl rfl ?_
      rfl
    | some bs =>
      have hl : bs.length ≤ 4096 := allF_le (M := []) (Nat.zero_le _) ho
      refine J.seq ?_
      refine J.region ?_
      refine JL.read rfl rfl (OpR.loadN rfl (Cells.full .head) rfl) ?_
      refine JL.step rfl rfl (OpW.call (first := []) (captured := []) inferInstance rfl rfl (enc1 (encCm_ok (oa _) fc.sz) hm ho)) ?_; rintro r19 _ ⟨a, ⟨c1, ⟨rfl, rfl⟩⟩⟩
      refine JL.pure rfl rfl (OpP.move rfl) ?_
      refine JL.pure rfl rfl (OpP.extract rfl rfl) ?_
      refine JL.pure rfl rfl (OpP.extract rfl rfl) ?_
      refine JL.pure rfl rfl (OpP.assign rfl) ?_
      refine JL.pure rfl rfl (OpP.assign rfl) ?_
      refine JL.nil ?_
      refine J.seq ?_
      refine J.region ?_
      refine JL.read rfl rfl (OpR.loadN rfl (Cells.full (.tail .head)) rfl) ?_
      refine JL.step rfl rfl (OpW.call (first := []) (captured := []) inferInstance rfl rfl (enc1 (refBytes_ok (oa _) fc.sz hR.t) hm ho)) ?_; rintro r24 _ ⟨a1, ⟨c2, ⟨rfl, rfl⟩⟩⟩
      refine JL.pure rfl rfl (OpP.move rfl) ?_
      refine JL.pure rfl rfl (OpP.extract rfl rfl) ?_
      refine JL.pure rfl rfl (OpP.extract rfl rfl) ?_
      refine JL.pure rfl rfl (OpP.assign rfl) ?_
      refine JL.pure rfl rfl (OpP.assign rfl) ?_
      refine JL.nil ?_
      refine J.seq ?_
      refine J.seq ?_
      refine J.region ?_
      refine JL.pure rfl rfl (OpP.move rfl) ?_
      refine JL.pure rfl rfl (OpP.move rfl) ?_
      refine JL.decF rfl rfl (OpP.neq rfl rfl) (by omega) ?_
      refine JL.pure rfl rfl (OpP.move rfl) ?_
      refine JL.pure rfl rfl (OpP.move rfl) ?_
      refine JL.read rfl rfl (OpR.rdStr (by rfl) (RdO.own (.tail .head)) (by rfl)) ?_
      refine JL.pure rfl rfl (OpP.move rfl) ?_
      refine JL.read rfl rfl (OpR.rdStr (by rfl) (RdO.own .head) (by rfl)) ?_
      refine JL.dec rfl rfl (OpP.neStr rfl rfl) (fun h35 => ?_) (fun h35 => ?_)
      focus
        refine JL.pure rfl rfl (OpP.pickF rfl rfl) ?_
        refine JL.nil ?_
        refine J.condT rfl ?_
        refine J.seq ?_
        refine J.region ?_
        refine JL.pure rfl rfl (OpP.assign rfl) ?_
        refine JL.nil ?_
        refine J.ret1 rfl rfl ?_
      rotate_left 1
      focus
        refine JL.pure rfl rfl (OpP.pickF rfl rfl) ?_
        refine JL.nil ?_
        refine J.condF rfl ?_
        refine J.skip ?_
        refine J.seq ?_
        refine J.seq ?_
        refine J.region ?_
        refine JL.pure rfl rfl (OpP.move rfl) ?_
        refine JL.decF rfl rfl (OpP.neq rfl rfl) (by omega) ?_
        refine JL.nil ?_
        refine J.condF rfl ?_
        refine J.skip ?_
        refine J.seq ?_
        refine J.region ?_
        refine JL.pure rfl rfl (OpP.move rfl) ?_
        refine JL.step rfl rfl (OpW.call (first := []) (captured := []) inferInstance rfl rfl (decCmT hm ho hR fc hl (RdO.own (.tail .head)))) ?_; rintro r41 _ ⟨c3, ⟨H, ⟨h41, ⟨h411, ⟨rfl, rfl⟩⟩⟩⟩⟩
        refine JL.pure rfl rfl (OpP.move rfl) ?_
        refine JL.pure rfl rfl (OpP.extract rfl rfl) ?_
        refine JL.pure rfl rfl (OpP.extract rfl rfl) ?_
        refine JL.mem rfl rfl OpM.alloc ?_; rintro _ _ ⟨b7, rfl, rfl⟩
        refine JL.mem0 rfl (by apply OpM.storeN rfl rfl (by rfl) (oneC rfl (oneC rfl (oneC rfl (oneC rfl (oneC rfl (oneC rfl (oneC rfl (oneC rfl (oneC rfl (oneC rfl (oneC rfl (oneC rfl (oneC rfl (one1 rfl)))))))))))))); (case' hu => exact .head); (case' hs => exact (.here (.here (.here (.here (.here (.here (.here (.here (.here (.here (.here (.here (.here (.here .nil))))))))))))))); done) ?_; rintro _ _ ⟨rfl, rfl⟩
        refine JL.pure rfl rfl (OpP.assign rfl) ?_
        refine JL.nil ?_
      rotate_left 1
      · exact absurd rfl h35
      have s1 := fun (A : HProp) (l : List HProp) => sameCm_ok (w0 := w0) (F := A :: H :: l) (h411 l).sub (oa _)
      have s2 := fun (A : HProp) (l : List HProp) => refSameCm_ok (w0 := w0) (F := A :: H :: l) (h411 l).sub (oa _)
      refine J.seq ?_
      refine J.region ?_
      refine JL.pure rfl rfl (OpP.move rfl) ?_
      refine JL.decT rfl rfl (OpP.eql rfl rfl) (by omega) ?_
      refine JL.pure rfl rfl (OpP.move rfl) ?_
      refine JL.read rfl rfl (OpR.loadN rfl (Cells.full .head) rfl) ?_
      refine JL.read rfl rfl (OpR.loadN rfl (Cells.full (.tail (.tail (.tail (.tail .head))))) rfl) ?_
      refine JL.step rfl rfl (OpW.call (first := []) (captured := []) inferInstance rfl rfl (s2 _ _)) ?_; rintro r49 _ ⟨b2, ⟨rfl, ⟨rfl, h49⟩⟩⟩
      refine JL.pure rfl rfl (OpP.pickT rfl rfl) ?_
      refine JL.pure rfl rfl (OpP.move rfl) ?_
      refine JL.splitAt 51 rfl (fun h51 => ?_) (fun h51 => ?_)
      focus
        refine JL.read rfl rfl (OpR.loadN rfl (Cells.full .head) rfl) ?_
        refine JL.read rfl rfl (OpR.loadN rfl (Cells.full (.tail (.tail (.tail (.tail .head))))) rfl) ?_
        refine JL.step rfl rfl (OpW.call (first := []) (captured := []) inferInstance rfl rfl (s1 _ _)) ?_; rintro r54 _ ⟨b3, ⟨rfl, ⟨rfl, h54⟩⟩⟩
        refine JL.pure rfl rfl (OpP.pickT rfl rfl) ?_
        refine JL.pure rfl rfl (OpP.assign rfl) ?_
        refine JL.nil ?_
        refine J.ret1 rfl rfl ?_
      rotate_left 1
      focus
        refine JL.skip rfl rfl ?_
        refine JL.skip rfl rfl ?_
        refine JL.skip rfl rfl ?_
        refine JL.pure rfl rfl (OpP.pickF rfl rfl) ?_
        refine JL.pure rfl rfl (OpP.assign rfl) ?_
        refine JL.nil ?_
        refine J.ret1 rfl rfl ?_
      rotate_left 1
      · exact congrArg Value.bool (h54.2 h41)
      · have h0 := h49.2 h41
        rw [h51] at h0
        cases h0
  · refine J.seq ?_
    refine J.region ?_
    refine JL.read rfl rfl (OpR.loadN rfl (Cells.full .head) rfl) ?_
    refine JL.step rfl rfl (OpW.call (first := []) (captured := []) inferInstance rfl rfl (enc3 (encCm_ok (oa _) fc.sz) hm)) ?_; rintro r19 _ ⟨rfl, rfl⟩
    refine JL.pure rfl rfl (OpP.move rfl) ?_
    refine JL.pure rfl rfl (OpP.extract rfl rfl) ?_
    refine JL.pure rfl rfl (OpP.extract rfl rfl) ?_
    refine JL.pure rfl rfl (OpP.assign rfl) ?_
    refine JL.pure rfl rfl (OpP.assign rfl) ?_
    refine JL.nil ?_
    refine J.seq ?_
    refine J.region ?_
    refine JL.read rfl rfl (OpR.loadN rfl (Cells.full .head) rfl) ?_
    refine JL.step rfl rfl (OpW.call (first := []) (captured := []) inferInstance rfl rfl (enc3 (refBytes_ok (oa _) fc.sz hR.t) hm)) ?_; rintro r24 _ ⟨rfl, rfl⟩
    refine JL.pure rfl rfl (OpP.move rfl) ?_
    refine JL.pure rfl rfl (OpP.extract rfl rfl) ?_
    refine JL.pure rfl rfl (OpP.extract rfl rfl) ?_
    refine JL.pure rfl rfl (OpP.assign rfl) ?_
    refine JL.pure rfl rfl (OpP.assign rfl) ?_
    refine JL.nil ?_
    refine J.seq ?_
    refine J.seq ?_
    refine J.region ?_
    refine JL.pure rfl rfl (OpP.move rfl) ?_
    refine JL.pure rfl rfl (OpP.move rfl) ?_
    refine JL.decF rfl rfl (OpP.neq rfl rfl) (by omega) ?_
    refine JL.pure rfl rfl (OpP.move rfl) ?_
    refine JL.pure rfl rfl (OpP.move rfl) ?_
    refine JL.read rfl rfl (OpR.rdStr (by rfl) RdO.nilB (by rfl)) ?_
    refine JL.pure rfl rfl (OpP.move rfl) ?_
    refine JL.read rfl rfl (OpR.rdStr (by rfl) RdO.nilB (by rfl)) ?_
    refine JL.decF rfl rfl (OpP.neStr rfl rfl) (by decide) ?_
    refine JL.pure rfl rfl (OpP.pickF rfl rfl) ?_
    refine JL.nil ?_
    refine J.condF rfl ?_
    refine J.skip ?_
    refine J.seq ?_
    refine J.seq ?_
    refine J.region ?_
    refine JL.pure rfl rfl (OpP.move rfl) ?_
    refine JL.decT rfl rfl (OpP.neq rfl rfl) (by omega) ?_
    refine JL.nil ?_
    refine J.condT rfl ?_
    refine J.seq ?_
    refine J.region ?_
    refine JL.pure rfl rfl (OpP.assign rfl) ?_
    refine JL.nil ?_
    refine J.ret1 rfl rfl ?_
    rfl
theorem CommandWrites_law {W : World} {a : Array Value} (ha : Fm Try.prog W 66 a.toList) :
    Calls Try.prog 11 #[.agg a] W fun e w' => e = .returned (.bool true) ∧ Below W.heap.size W w' := by
  obtain ⟨c, hc, hR, e⟩ := Fm.cmd ha
  obtain rfl : a = _ := by rw [← Array.toArray_toList (xs := a), e]
  exact FnO.law (CommandWrites_ok (hc []) hR) (Own.nil W)
theorem CommandReads_law {W : World} {a : Option Addr} {n c : Nat} (h : Fm Try.prog W 22 [.slice a n c]) :
    Calls Try.prog 12 #[.slice a n c] W fun e w' => e = .returned (.bool true) ∧ Below W.heap.size W w' := by
  obtain ⟨l, hl, hr⟩ := h.bytes Try.underlying22 Try.underlying5 (by kernel_rfl)
  exact FnO.law (CommandReads_ok hl hr.o) (Own.nil W)
end Go.Proofs.E
