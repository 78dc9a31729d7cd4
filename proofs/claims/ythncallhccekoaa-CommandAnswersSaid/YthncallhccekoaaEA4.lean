/- A text of the proof of a statement about the given program: its part EA4. No person has read it. -/
import Derived.Test.YthncallhccekoaaEA3
import Derived.Test.YthncallhccekoaaEJ2
-- seat e
namespace Go.Proofs.E
open Go Go.Gp Go.RowKit

abbrev tcl (ts : List (List UInt8)) : List Value := ts.map fun s => .string (strB s)
/-- Texts, one behind the other. -/
def textsO (o : Option (List UInt8)) (ts : List (List UInt8)) : Option (List UInt8) := ts.foldl textO o
theorem textsO_take {o : Option (List UInt8)} {ts : List (List UInt8)} {j : Nat} {s : List UInt8} (h : ts[j]? = some s) : textsO o (ts.take (j + 1)) = textO (textsO o (ts.take j)) s := by
  rw [List.take_add_one, h, Option.toList_some, textsO, List.foldl_append]; rfl
theorem wtexts_ok {w0 : World} {F : List HProp} {oe g : Nat} {bad : Bool} {v : Value} {L : List UInt8} {ts : List (List UInt8)} {a : Option Addr} {c : Nat} (hL : L.length ≤ 4096) (hn : ts.length ≤ 9223372036854775807) (ht : ∀ s ∈ ts, s.length ≤ 1000000000) (hr : RdO w0 F (.slice a ts.length c) ts.length (tcl ts)) :
    Wrote w0 93 [.pointer (some ⟨g, 0, none⟩), .slice a ts.length c] oe g bad v L F (textsO (absO bad L) ts) := by
  refine FnO.rdF (fun _ h => h.tail.tail) hr fun hr1 => ?_
  refine FnO.intro (n := 18) Try.func93 rfl rfl rfl ?_
  refine J.lit (.tail .head) fun av cv ev => ?_; subst ev
  refine J.seq ?_
  refine J.region ?_
  refine JL.pure rfl rfl (OpP.move rfl) ?_
  refine JL.pure rfl rfl (OpP.len rfl rfl) ?_
  refine JL.pure rfl rfl (OpP.move rfl) ?_
  refine JL.nil ?_
  refine J.block ?_
  refine J.loopI (fun x : Nat × Bool × Value × List UInt8 => ts.length - x.1) (fun x => x.1 ≤ ts.length ∧ x.2.2.2.length ≤ 4096 ∧ absO x.2.1 x.2.2.2 = textsO (absO bad L) (ts.take x.1)) (fun x => [(8, .int .i64 (x.1 : Nat)), (7, .int .i64 (ts.length : Nat)), (6, .slice a ts.length c), (0, .pointer (some ⟨g, 0, none⟩))])
    (fun x => outL oe g x.2.1 x.2.2.1 x.2.2.2 F) (0, bad, _, L) ⟨Nat.zero_le _, hL, rfl⟩ (by repeat (first | exact SubEnv.nil | refine SubEnv.cons (by first | rfl | exact congrArg (fun z => some (Value.int .i64 z)) (by omega) | (simp; done)) ?_)) (fun _ h => h) (fun ⟨j, bd, z, Q⟩ hi back => ?_)
  dsimp only at hi back ⊢
  obtain ⟨hj, hQ, hall⟩ := hi
  by_cases hlt : j < ts.length
  · obtain ⟨s, hs⟩ : ∃ e, ts[j]? = some e := ⟨_, List.getElem?_eq_getElem hlt⟩
    have hts := ht s (List.mem_of_getElem? hs)
    have hcell : (tcl ts)[j]? = some (.string (strB s)) := by rw [List.getElem?_map, hs]; rfl
    obtain ⟨ga, pa, qa, ea, ka, hcs⟩ := hr1.pos (by omega)
    cases ea
    refine J.lit (.tail .head) fun az cz ez => ?_; subst ez
    refine J.seq ?_
    refine J.region ?_
    refine JL.decT rfl rfl (OpP.lss rfl rfl) (by omega) ?_
    refine JL.nil ?_
    refine J.seq ?_
    refine J.condT rfl ?_
    refine J.skip ?_
    refine J.seq ?_
    refine J.block ?_
    refine J.seq ?_
    refine J.region ?_
    refine JL.pure rfl rfl (OpP.indexAddr rfl rfl (by omega) (by omega)) ?_
    refine JL.read rfl rfl (OpR.load1 rfl (by apply Cells.cell hcs (fun _ h => Own.pick (pre := [_, _]) [] rfl h); (case' hv => assumption); (case' ho => omega); done)) ?_
    refine JL.pure rfl rfl (OpP.assign rfl) ?_
    refine JL.nil ?_
    refine J.region ?_
    refine JL.pure rfl rfl (OpP.move rfl) ?_
    refine JL.pure rfl rfl (OpP.nilCheck rfl) ?_
    refine JL.pure rfl rfl (OpP.fieldAddr rfl) ?_
    refine JL.pure rfl rfl (OpP.move rfl) ?_
    refine JL.step rfl rfl (OpW.call (first := []) (captured := []) inferInstance rfl rfl (outText_ok hQ hts)) ?_; rintro r16 _ ⟨rfl, ⟨bad', ⟨v', ⟨L', ⟨h16, ⟨h161, rfl⟩⟩⟩⟩⟩⟩
    refine JL.lit (.tail .head) fun av' cv' ev' => ?_; subst ev'
    refine JL.nil ?_
    refine J.inBlock ?_
    refine J.region ?_
    refine JL.pure rfl rfl (OpP.addI rfl rfl (by omega) (by omega)) ?_
    refine JL.pure rfl rfl (OpP.move rfl) ?_
    refine JL.nil ?_
    exact back (j + 1, bad', .slice av' L'.length cv', L') ⟨by dsimp only; omega, h16, by dsimp only; rw [h161, hall, textsO_take hs]⟩ (by dsimp only; omega) (by repeat (first | exact SubEnv.nil | refine SubEnv.cons (by first | rfl | exact congrArg (fun z => some (Value.int .i64 z)) (by omega) | (simp; done)) ?_)) (fun _ h => h)
  · have : j = ts.length := by omega
    subst this
    rw [List.take_length] at hall
    refine J.lit (.tail .head) fun az cz ez => ?_; subst ez
    refine J.seq ?_
    refine J.region ?_
    refine JL.decF rfl rfl (OpP.lss rfl rfl) (by omega) ?_
    refine JL.nil ?_
    refine J.seq ?_
    refine J.condF rfl ?_
    refine J.exit rfl ?_
    refine J.fin0 rfl ?_
    exact ⟨rfl, bd, _, Q, hQ, hall, rfl⟩
theorem wlist_ok {w0 : World} {F : List HProp} {oe g : Nat} {bad : Bool} {v : Value} {L : List UInt8} {ts : List (List UInt8)} {a : Option Addr} {c : Nat} (hL : L.length ≤ 4096) (hn : ts.length ≤ 9223372036854775807) (ht : ∀ s ∈ ts, s.length ≤ 1000000000) (hr : RdO w0 F (.slice a ts.length c) ts.length (tcl ts)) :
    Wrote w0 72 [.pointer (some ⟨g, 0, none⟩), .slice a ts.length c] oe g bad v L F (textsO (smallO (absO bad L) ts.length 1) ts) := by
  refine FnO.intro (n := 13) Try.func72 rfl rfl rfl ?_
  refine J.lit (.tail .head) fun av cv ev => ?_; subst ev
  refine J.seq ?_
  refine J.region ?_
  refine JL.pure rfl rfl (OpP.move rfl) ?_
  refine JL.pure rfl rfl (OpP.nilCheck rfl) ?_
  refine JL.pure rfl rfl (OpP.fieldAddr rfl) ?_
  refine JL.pure rfl rfl (OpP.move rfl) ?_
  refine JL.pure rfl rfl (OpP.len rfl rfl) ?_
  refine JL.step rfl rfl (OpW.call (first := []) (captured := []) inferInstance rfl rfl (outU8_ok hL)) ?_; rintro r9 _ ⟨rfl, ⟨bad', ⟨v', ⟨L', ⟨h9, ⟨h91, rfl⟩⟩⟩⟩⟩⟩
  refine JL.lit (.tail .head) fun av' cv' ev' => ?_; subst ev'
  refine JL.nil ?_
  refine J.region ?_
  refine JL.pure rfl rfl (OpP.move rfl) ?_
  refine JL.pure rfl rfl (OpP.move rfl) ?_
  refine JL.step rfl rfl (OpW.call (first := []) (captured := []) inferInstance rfl rfl (wtexts_ok (ts := ts) (by assumption) hn ht hr)) ?_; rintro r12 _ ⟨rfl, ⟨bad'1, ⟨v', ⟨L'1, ⟨h12, ⟨h121, rfl⟩⟩⟩⟩⟩⟩
  refine JL.lit (.tail .head) fun av' cv' ev' => ?_; subst ev'
  refine JL.nil ?_
  refine J.fin0 rfl ?_
  exact ⟨rfl, bad'1, _, L'1, h12, by rw [h121, h91], rfl⟩
/-- A reply. -/
structure Rp where
  err : Int
  num : Int
  ans : Int
  du : List (List UInt8)
  ad : List (List UInt8)
  da : Option Addr
  dc : Nat
  aa : Option Addr
  ac : Nat
abbrev Rp.cells (r : Rp) : List Value := [.int .i64 r.err, .int .i64 r.num, .int .i64 r.ans, .slice r.da r.du.length r.dc, .slice r.aa r.ad.length r.ac]
abbrev Rp.Ok (r : Rp) : Prop := (0 ≤ r.err ∧ r.err ≤ 255) ∧ (0 ≤ r.num ∧ r.num ≤ 65535) ∧ (0 ≤ r.ans ∧ r.ans ≤ 5) ∧ r.du.length ≤ 255 ∧ r.ad.length ≤ 255
/-- What a reply is from outside. -/
structure Rp.Rd (w0 : World) (F : List HProp) (r : Rp) : Prop where
  dn : r.du.length ≤ 9223372036854775807
  an : r.ad.length ≤ 9223372036854775807
  dr : RdO w0 F (.slice r.da r.du.length r.dc) r.du.length (tcl r.du)
  ar : RdO w0 F (.slice r.aa r.ad.length r.ac) r.ad.length (tcl r.ad)
def repO (r : Rp) : Option (List UInt8) := textsO (smallO (textsO (smallO (smallO (smallO (smallO (some []) r.err 1) r.num 2) r.ans 1) r.du.length 1) r.du) r.ad.length 1) r.ad
/-- What encoding something tells. -/
def EncP (ok : Prop) (o : Option (List UInt8)) (F : List HProp) (v : Value) (l' : List HProp) : Prop :=
  (∃ bs a c, ok ∧ o = some bs ∧ bs.length ≤ 4096 ∧ v = .tuple #[.slice a bs.length c, .int .i64 0] ∧ l' = own 5 1 (.slice a bs.length c) bs.length (bcells bs) :: F) ∨ (ok ∧ o = none ∧ v = .tuple #[.slice none 0 0, .int .i64 3] ∧ l' = F) ∨ (¬ ok ∧ v = .tuple #[.slice none 0 0, .int .i64 1] ∧ l' = F)
theorem encReply_ok {w0 : World} {F : List HProp} {r : Rp} (hR : r.Rd w0 F) (hdt : ∀ s ∈ r.du, s.length ≤ 1000000000) (hat : ∀ s ∈ r.ad, s.length ≤ 1000000000) :
    FnO Try.prog w0 42 [.agg r.cells.toArray] F (EncP r.Ok (repO r) F) := by
  refine FnO.weak ?_
  refine FnO.intro (n := 70) Try.func42 rfl rfl rfl ?_
  refine J.seq ?_
  refine J.region ?_
  refine JL.mem rfl rfl (OpM.box rfl rfl) ?_; rintro _ _ ⟨b1, rfl, rfl⟩
  refine JL.pure rfl rfl (OpP.assign rfl) ?_
  refine JL.pure rfl rfl (OpP.assign rfl) ?_
  refine JL.nil ?_
  refine J.seq ?_
  refine J.region ?_
  refine JL.pure rfl rfl (OpP.fieldAddr rfl) ?_
  refine JL.read rfl rfl (OpR.loadN rfl (Cells.sub 3 .head rfl) rfl) ?_
  refine JL.mem rfl rfl OpM.alloc ?_; rintro _ _ ⟨b4, rfl, rfl⟩
  refine JL.mem0 rfl (by apply OpM.storeN rfl rfl (by rfl) (oneC rfl (oneC rfl (one1 rfl))); (case' hu => exact .head); (case' hs => exact (.here (.here (.here .nil)))); done) ?_; rintro _ _ ⟨rfl, rfl⟩
  refine JL.nil ?_
  refine J.seq ?_
  refine J.seq ?_
  refine J.region ?_
  refine JL.pure rfl rfl (OpP.fieldAddr rfl) ?_
  refine JL.read rfl rfl (OpR.load1 rfl (Cell.row (.tail .head) rfl)) ?_
  refine JL.dec rfl rfl (OpP.lss rfl rfl) (fun h10 => ?_) (fun h10 => ?_)
  focus
    refine JL.pure rfl rfl (OpP.move rfl) ?_
    refine JL.skip rfl rfl ?_
    refine JL.skip rfl rfl ?_
    refine JL.skip rfl rfl ?_
    refine JL.pure rfl rfl (OpP.pickT rfl rfl) ?_
    refine JL.pure rfl rfl (OpP.move rfl) ?_
    refine JL.skip rfl rfl ?_
    refine JL.skip rfl rfl ?_
    refine JL.skip rfl rfl ?_
    refine JL.pure rfl rfl (OpP.pickT rfl rfl) ?_
    refine JL.pure rfl rfl (OpP.move rfl) ?_
    refine JL.skip rfl rfl ?_
    refine JL.skip rfl rfl ?_
    refine JL.skip rfl rfl ?_
    refine JL.pure rfl rfl (OpP.pickT rfl rfl) ?_
    refine JL.pure rfl rfl (OpP.move rfl) ?_
    refine JL.skip rfl rfl ?_
    refine JL.skip rfl rfl ?_
    refine JL.skip rfl rfl ?_
    refine JL.pure rfl rfl (OpP.pickT rfl rfl) ?_
    refine JL.pure rfl rfl (OpP.move rfl) ?_
    refine JL.skip rfl rfl ?_
    refine JL.skip rfl rfl ?_
    refine JL.skip rfl rfl ?_
    refine JL.pure rfl rfl (OpP.pickT rfl rfl) ?_
    refine JL.pure rfl rfl (OpP.move rfl) ?_
    refine JL.skip rfl rfl ?_
    refine JL.skip rfl rfl ?_
    refine JL.skip rfl rfl ?_
    refine JL.skip rfl rfl ?_
    refine JL.pure rfl rfl (OpP.pickT rfl rfl) ?_
    refine JL.pure rfl rfl (OpP.move rfl) ?_
    refine JL.skip rfl rfl ?_
    refine JL.skip rfl rfl ?_
    refine JL.skip rfl rfl ?_
    refine JL.skip rfl rfl ?_
    refine JL.pure rfl rfl (OpP.pickT rfl rfl) ?_
    refine JL.nil ?_
    refine J.condT rfl ?_
    refine J.seq ?_
    refine J.region ?_
    refine JL.pure rfl rfl (OpP.assign rfl) ?_
    refine JL.pure rfl rfl (OpP.assign rfl) ?_
    refine JL.nil ?_
    refine J.ret2 rfl rfl rfl ?_
  rotate_left 1
  focus
    refine JL.pure rfl rfl (OpP.move rfl) ?_
    refine JL.pure rfl rfl (OpP.fieldAddr rfl) ?_
    refine JL.read rfl rfl (OpR.load1 rfl (Cell.row (.tail .head) rfl)) ?_
    refine JL.dec rfl rfl (OpP.gtr rfl rfl) (fun h14 => ?_) (fun h14 => ?_)
    focus
      refine JL.pure rfl rfl (OpP.pickF rfl rfl) ?_
      refine JL.pure rfl rfl (OpP.move rfl) ?_
      refine JL.skip rfl rfl ?_
      refine JL.skip rfl rfl ?_
      refine JL.skip rfl rfl ?_
      refine JL.pure rfl rfl (OpP.pickT rfl rfl) ?_
      refine JL.pure rfl rfl (OpP.move rfl) ?_
      refine JL.skip rfl rfl ?_
      refine JL.skip rfl rfl ?_
      refine JL.skip rfl rfl ?_
      refine JL.pure rfl rfl (OpP.pickT rfl rfl) ?_
      refine JL.pure rfl rfl (OpP.move rfl) ?_
      refine JL.skip rfl rfl ?_
      refine JL.skip rfl rfl ?_
      refine JL.skip rfl rfl ?_
      refine JL.pure rfl rfl (OpP.pickT rfl rfl) ?_
      refine JL.pure rfl rfl (OpP.move rfl) ?_
      refine JL.skip rfl rfl ?_
      refine JL.skip rfl rfl ?_
      refine JL.skip rfl rfl ?_
      refine JL.pure rfl rfl (OpP.pickT rfl rfl) ?_
      refine JL.pure rfl rfl (OpP.move rfl) ?_
      refine JL.skip rfl rfl ?_
      refine JL.skip rfl rfl ?_
      refine JL.skip rfl rfl ?_
      refine JL.skip rfl rfl ?_
      refine JL.pure rfl rfl (OpP.pickT rfl rfl) ?_
      refine JL.pure rfl rfl (OpP.move rfl) ?_
      refine JL.skip rfl rfl ?_
      refine JL.skip rfl rfl ?_
      refine JL.skip rfl rfl ?_
      refine JL.skip rfl rfl ?_
      refine JL.pure rfl rfl (OpP.pickT rfl rfl) ?_
      refine JL.nil ?_
      refine J.condT rfl ?_
      refine J.seq ?_
      refine J.region ?_
      refine JL.pure rfl rfl (OpP.assign rfl) ?_
      refine JL.pure rfl rfl (OpP.assign rfl) ?_
      refine JL.nil ?_
      refine J.ret2 rfl rfl rfl ?_
    rotate_left 1
    focus
      refine JL.pure rfl rfl (OpP.pickF rfl rfl) ?_
      refine JL.pure rfl rfl (OpP.move rfl) ?_
      refine JL.pure rfl rfl (OpP.fieldAddr rfl) ?_
      refine JL.read rfl rfl (OpR.load1 rfl (Cell.row (.tail .head) rfl)) ?_
      refine JL.dec rfl rfl (OpP.lss rfl rfl) (fun h19 => ?_) (fun h19 => ?_)
      focus
        refine JL.pure rfl rfl (OpP.pickF rfl rfl) ?_
        refine JL.pure rfl rfl (OpP.move rfl) ?_
        refine JL.skip rfl rfl ?_
        refine JL.skip rfl rfl ?_
        refine JL.skip rfl rfl ?_
        refine JL.pure rfl rfl (OpP.pickT rfl rfl) ?_
        refine JL.pure rfl rfl (OpP.move rfl) ?_
        refine JL.skip rfl rfl ?_
        refine JL.skip rfl rfl ?_
        refine JL.skip rfl rfl ?_
        refine JL.pure rfl rfl (OpP.pickT rfl rfl) ?_
        refine JL.pure rfl rfl (OpP.move rfl) ?_
        refine JL.skip rfl rfl ?_
        refine JL.skip rfl rfl ?_
        refine JL.skip rfl rfl ?_
        refine JL.pure rfl rfl (OpP.pickT rfl rfl) ?_
        refine JL.pure rfl rfl (OpP.move rfl) ?_
        refine JL.skip rfl rfl ?_
        refine JL.skip rfl rfl ?_
        refine JL.skip rfl rfl ?_
        refine JL.skip rfl rfl ?_
        refine JL.pure rfl rfl (OpP.pickT rfl rfl) ?_
        refine JL.pure rfl rfl (OpP.move rfl) ?_
        refine JL.skip rfl rfl ?_
        refine JL.skip rfl rfl ?_
        refine JL.skip rfl rfl ?_
        refine JL.skip rfl rfl ?_
        refine JL.pure rfl rfl (OpP.pickT rfl rfl) ?_
        refine JL.nil ?_
        refine J.condT rfl ?_
        refine J.seq ?_
        refine J.region ?_
        refine JL.pure rfl rfl (OpP.assign rfl) ?_
        refine JL.pure rfl rfl (OpP.assign rfl) ?_
        refine JL.nil ?_
        refine J.ret2 rfl rfl rfl ?_
      rotate_left 1
      focus
        refine JL.pure rfl rfl (OpP.pickF rfl rfl) ?_
        refine JL.pure rfl rfl (OpP.move rfl) ?_
        refine JL.pure rfl rfl (OpP.fieldAddr rfl) ?_
        refine JL.read rfl rfl (OpR.load1 rfl (Cell.row (.tail .head) rfl)) ?_
        refine JL.dec rfl rfl (OpP.gtr rfl rfl) (fun h24 => ?_) (fun h24 => ?_)
        focus
          refine JL.pure rfl rfl (OpP.pickF rfl rfl) ?_
          refine JL.pure rfl rfl (OpP.move rfl) ?_
          refine JL.skip rfl rfl ?_
          refine JL.skip rfl rfl ?_
          refine JL.skip rfl rfl ?_
          refine JL.pure rfl rfl (OpP.pickT rfl rfl) ?_
          refine JL.pure rfl rfl (OpP.move rfl) ?_
          refine JL.skip rfl rfl ?_
          refine JL.skip rfl rfl ?_
          refine JL.skip rfl rfl ?_
          refine JL.pure rfl rfl (OpP.pickT rfl rfl) ?_
          refine JL.pure rfl rfl (OpP.move rfl) ?_
          refine JL.skip rfl rfl ?_
          refine JL.skip rfl rfl ?_
          refine JL.skip rfl rfl ?_
          refine JL.skip rfl rfl ?_
          refine JL.pure rfl rfl (OpP.pickT rfl rfl) ?_
          refine JL.pure rfl rfl (OpP.move rfl) ?_
          refine JL.skip rfl rfl ?_
          refine JL.skip rfl rfl ?_
          refine JL.skip rfl rfl ?_
          refine JL.skip rfl rfl ?_
          refine JL.pure rfl rfl (OpP.pickT rfl rfl) ?_
          refine JL.nil ?_
          refine J.condT rfl ?_
          refine J.seq ?_
          refine J.region ?_
          refine JL.pure rfl rfl (OpP.assign rfl) ?_
          refine JL.pure rfl rfl (OpP.assign rfl) ?_
          refine JL.nil ?_
          refine J.ret2 rfl rfl rfl ?_
        rotate_left 1
        focus
          refine JL.pure rfl rfl (OpP.pickF rfl rfl) ?_
          refine JL.pure rfl rfl (OpP.move rfl) ?_
          refine JL.pure rfl rfl (OpP.fieldAddr rfl) ?_
          refine JL.read rfl rfl (OpR.load1 rfl (Cell.row .head rfl)) ?_
          refine JL.dec rfl rfl (OpP.lss rfl rfl) (fun h29 => ?_) (fun h29 => ?_)
          focus
            refine JL.pure rfl rfl (OpP.pickF rfl rfl) ?_
            refine JL.pure rfl rfl (OpP.move rfl) ?_
            refine JL.skip rfl rfl ?_
            refine JL.skip rfl rfl ?_
            refine JL.skip rfl rfl ?_
            refine JL.pure rfl rfl (OpP.pickT rfl rfl) ?_
            refine JL.pure rfl rfl (OpP.move rfl) ?_
            refine JL.skip rfl rfl ?_
            refine JL.skip rfl rfl ?_
            refine JL.skip rfl rfl ?_
            refine JL.skip rfl rfl ?_
            refine JL.pure rfl rfl (OpP.pickT rfl rfl) ?_
            refine JL.pure rfl rfl (OpP.move rfl) ?_
            refine JL.skip rfl rfl ?_
            refine JL.skip rfl rfl ?_
            refine JL.skip rfl rfl ?_
            refine JL.skip rfl rfl ?_
            refine JL.pure rfl rfl (OpP.pickT rfl rfl) ?_
            refine JL.nil ?_
            refine J.condT rfl ?_
            refine J.seq ?_
            refine J.region ?_
            refine JL.pure rfl rfl (OpP.assign rfl) ?_
            refine JL.pure rfl rfl (OpP.assign rfl) ?_
            refine JL.nil ?_
            refine J.ret2 rfl rfl rfl ?_
          rotate_left 1
          focus
            refine JL.pure rfl rfl (OpP.pickF rfl rfl) ?_
            refine JL.pure rfl rfl (OpP.move rfl) ?_
            refine JL.pure rfl rfl (OpP.fieldAddr rfl) ?_
            refine JL.read rfl rfl (OpR.load1 rfl (Cell.row .head rfl)) ?_
            refine JL.dec rfl rfl (OpP.gtr rfl rfl) (fun h34 => ?_) (fun h34 => ?_)
            focus
              refine JL.pure rfl rfl (OpP.pickF rfl rfl) ?_
              refine JL.pure rfl rfl (OpP.move rfl) ?_
              refine JL.skip rfl rfl ?_
              refine JL.skip rfl rfl ?_
              refine JL.skip rfl rfl ?_
              refine JL.skip rfl rfl ?_
              refine JL.pure rfl rfl (OpP.pickT rfl rfl) ?_
              refine JL.pure rfl rfl (OpP.move rfl) ?_
              refine JL.skip rfl rfl ?_
              refine JL.skip rfl rfl ?_
              refine JL.skip rfl rfl ?_
              refine JL.skip rfl rfl ?_
              refine JL.pure rfl rfl (OpP.pickT rfl rfl) ?_
              refine JL.nil ?_
              refine J.condT rfl ?_
              refine J.seq ?_
              refine J.region ?_
              refine JL.pure rfl rfl (OpP.assign rfl) ?_
              refine JL.pure rfl rfl (OpP.assign rfl) ?_
              refine JL.nil ?_
              refine J.ret2 rfl rfl rfl ?_
            rotate_left 1
            focus
              refine JL.pure rfl rfl (OpP.pickF rfl rfl) ?_
              refine JL.pure rfl rfl (OpP.move rfl) ?_
              refine JL.pure rfl rfl (OpP.fieldAddr rfl) ?_
              refine JL.read rfl rfl (OpR.load1 rfl (Cell.row .head rfl)) ?_
              refine JL.pure rfl rfl (OpP.len rfl rfl) ?_
              refine JL.dec rfl rfl (OpP.gtr rfl rfl) (fun h40 => ?_) (fun h40 => ?_)
              focus
                refine JL.pure rfl rfl (OpP.pickF rfl rfl) ?_
                refine JL.pure rfl rfl (OpP.move rfl) ?_
                refine JL.skip rfl rfl ?_
                refine JL.skip rfl rfl ?_
                refine JL.skip rfl rfl ?_
                refine JL.skip rfl rfl ?_
                refine JL.pure rfl rfl (OpP.pickT rfl rfl) ?_
                refine JL.nil ?_
                refine J.condT rfl ?_
                refine J.seq ?_
                refine J.region ?_
                refine JL.pure rfl rfl (OpP.assign rfl) ?_
                refine JL.pure rfl rfl (OpP.assign rfl) ?_
                refine JL.nil ?_
                refine J.ret2 rfl rfl rfl ?_
              rotate_left 1
              focus
                refine JL.pure rfl rfl (OpP.pickF rfl rfl) ?_
                refine JL.pure rfl rfl (OpP.move rfl) ?_
                refine JL.pure rfl rfl (OpP.fieldAddr rfl) ?_
                refine JL.read rfl rfl (OpR.load1 rfl (Cell.row .head rfl)) ?_
                refine JL.pure rfl rfl (OpP.len rfl rfl) ?_
                refine JL.dec rfl rfl (OpP.gtr rfl rfl) (fun h46 => ?_) (fun h46 => ?_)
                focus
                  refine JL.pure rfl rfl (OpP.pickF rfl rfl) ?_
                  refine JL.nil ?_
                  refine J.condT rfl ?_
                  refine J.seq ?_
                  refine J.region ?_
                  refine JL.pure rfl rfl (OpP.assign rfl) ?_
                  refine JL.pure rfl rfl (OpP.assign rfl) ?_
                  refine JL.nil ?_
                  refine J.ret2 rfl rfl rfl ?_
                rotate_left 1
                focus
                  refine JL.pure rfl rfl (OpP.pickF rfl rfl) ?_
                  refine JL.nil ?_
                  refine J.condF rfl ?_
                  refine J.skip ?_
                  refine J.seq ?_
                  refine J.region ?_
                  refine JL.mem rfl rfl OpM.alloc ?_; rintro _ _ ⟨b5, rfl, rfl⟩
                  refine JL.nil ?_
                rotate_left 1
              rotate_left 2
            rotate_left 3
          rotate_left 4
        rotate_left 5
      rotate_left 6
    rotate_left 7
  rotate_left 8
  · exact ⟨_, .inr (.inr ⟨fun q => by omega, rfl, rfl⟩), fun _ h => h.tail.tail⟩
  · exact ⟨_, .inr (.inr ⟨fun q => by omega, rfl, rfl⟩), fun _ h => h.tail.tail⟩
  · exact ⟨_, .inr (.inr ⟨fun q => by omega, rfl, rfl⟩), fun _ h => h.tail.tail⟩
  · exact ⟨_, .inr (.inr ⟨fun q => by omega, rfl, rfl⟩), fun _ h => h.tail.tail⟩
  · exact ⟨_, .inr (.inr ⟨fun q => by omega, rfl, rfl⟩), fun _ h => h.tail.tail⟩
  · exact ⟨_, .inr (.inr ⟨fun q => by omega, rfl, rfl⟩), fun _ h => h.tail.tail⟩
  · exact ⟨_, .inr (.inr ⟨fun q => by omega, rfl, rfl⟩), fun _ h => h.tail.tail⟩
  · exact ⟨_, .inr (.inr ⟨fun q => by omega, rfl, rfl⟩), fun _ h => h.tail.tail⟩
  refine J.conv (l' := outL 105 b5 false (.slice none 0 0) [] (row b4 72 [.int .i64 r.ans, .slice r.da r.du.length r.dc, .slice r.aa r.ad.length r.ac] :: row b1 74 r.cells :: F)) (fun _ h => Own.f1 (Own.own_nil h)) ?_
  have hok : r.Ok := by omega
  have hz0 : ([] : List UInt8).length ≤ 4096 := Nat.zero_le _
  have d1 : RdO w0 (row b4 72 [.int .i64 r.ans, .slice r.da r.du.length r.dc, .slice r.aa r.ad.length r.ac] :: row b1 74 r.cells :: F) (.slice r.da r.du.length r.dc) r.du.length (tcl r.du) := hR.dr.sub.sub
  have d2 : RdO w0 (row b4 72 [.int .i64 r.ans, .slice r.da r.du.length r.dc, .slice r.aa r.ad.length r.ac] :: row b1 74 r.cells :: F) (.slice r.aa r.ad.length r.ac) r.ad.length (tcl r.ad) := hR.ar.sub.sub
  refine J.seq ?_
  refine J.region ?_
  refine JL.pure rfl rfl (OpP.fieldAddr rfl) ?_
  refine JL.pure rfl rfl (OpP.fieldAddr rfl) ?_
  refine JL.read rfl rfl (OpR.load1 rfl (Cell.row (.tail (.tail (.tail .head))) rfl)) ?_
  refine JL.step rfl rfl (OpW.call (first := []) (captured := []) inferInstance rfl rfl (outU8_ok (by assumption))) ?_; rintro r51 _ ⟨rfl, ⟨bad', ⟨v', ⟨L', ⟨h51, ⟨h511, rfl⟩⟩⟩⟩⟩⟩
  refine JL.lit (.tail .head) fun av' cv' ev' => ?_; subst ev'
  refine JL.nil ?_
  refine J.seq ?_
  refine J.region ?_
  refine JL.pure rfl rfl (OpP.fieldAddr rfl) ?_
  refine JL.pure rfl rfl (OpP.fieldAddr rfl) ?_
  refine JL.read rfl rfl (OpR.load1 rfl (Cell.row (.tail (.tail (.tail .head))) rfl)) ?_
  refine JL.step rfl rfl (OpW.call (first := []) (captured := []) inferInstance rfl rfl (outU16_ok (by assumption))) ?_; rintro r55 _ ⟨rfl, ⟨bad'1, ⟨v', ⟨L'1, ⟨h55, ⟨h551, rfl⟩⟩⟩⟩⟩⟩
  refine JL.lit (.tail .head) fun av' cv' ev' => ?_; subst ev'
  refine JL.nil ?_
  refine J.seq ?_
  refine J.region ?_
  refine JL.pure rfl rfl (OpP.fieldAddr rfl) ?_
  refine JL.pure rfl rfl (OpP.fieldAddr rfl) ?_
  refine JL.read rfl rfl (OpR.load1 rfl (Cell.row (.tail (.tail .head)) rfl)) ?_
  refine JL.step rfl rfl (OpW.call (first := []) (captured := []) inferInstance rfl rfl (outU8_ok (by assumption))) ?_; rintro r59 _ ⟨rfl, ⟨bad'2, ⟨v', ⟨L'2, ⟨h59, ⟨h591, rfl⟩⟩⟩⟩⟩⟩
  refine JL.lit (.tail .head) fun av' cv' ev' => ?_; subst ev'
  refine JL.nil ?_
  refine J.seq ?_
  refine J.region ?_
  refine JL.pure rfl rfl (OpP.fieldAddr rfl) ?_
  refine JL.read rfl rfl (OpR.load1 rfl (Cell.row (.tail (.tail .head)) rfl)) ?_
  refine JL.step rfl rfl (OpW.call (first := []) (captured := []) inferInstance rfl rfl (wlist_ok (ts := r.du) (by assumption) hR.dn hdt d1)) ?_; rintro r62 _ ⟨rfl, ⟨bad'3, ⟨v', ⟨L'3, ⟨h62, ⟨h621, rfl⟩⟩⟩⟩⟩⟩
  refine JL.lit (.tail .head) fun av' cv' ev' => ?_; subst ev'
  refine JL.nil ?_
  refine J.seq ?_
  refine J.region ?_
  refine JL.pure rfl rfl (OpP.fieldAddr rfl) ?_
  refine JL.read rfl rfl (OpR.load1 rfl (Cell.row (.tail (.tail .head)) rfl)) ?_
  refine JL.step rfl rfl (OpW.call (first := []) (captured := []) inferInstance rfl rfl (wlist_ok (ts := r.ad) (by assumption) hR.an hat d2)) ?_; rintro r65 _ ⟨rfl, ⟨bad'4, ⟨v', ⟨L'4, ⟨h65, ⟨h651, rfl⟩⟩⟩⟩⟩⟩
  refine JL.lit (.tail .head) fun av' cv' ev' => ?_; subst ev'
  refine JL.nil ?_
  have hb : absO bad'4 L'4 = repO r := by rw [h651, h621, h591, h551, h511]; rfl
  cases bad'4
  · refine J.seq ?_
    refine J.region ?_
    refine JL.pure rfl rfl (OpP.fieldAddr rfl) ?_
    refine JL.step rfl rfl (OpW.call (first := []) (captured := []) inferInstance rfl rfl (endGood h65)) ?_; rintro r67 _ ⟨a, ⟨c, ⟨rfl, rfl⟩⟩⟩
    refine JL.pure rfl rfl (OpP.extract rfl rfl) ?_
    refine JL.pure rfl rfl (OpP.extract rfl rfl) ?_
    refine JL.pure rfl rfl (OpP.assign rfl) ?_
    refine JL.pure rfl rfl (OpP.assign rfl) ?_
    refine JL.nil ?_
    refine J.ret2 rfl rfl rfl ?_
    exact ⟨_, .inl ⟨L'4, _, _, hok, hb.symm, h65, rfl, rfl⟩, fun _ h => Own.pick (pre := [_, _, _, _, _]) [0] rfl h⟩
  · refine J.seq ?_
    refine J.region ?_
    refine JL.pure rfl rfl (OpP.fieldAddr rfl) ?_
    refine JL.step rfl rfl (OpW.call (first := []) (captured := []) inferInstance rfl rfl (endBad h65)) ?_; rintro r67 _ ⟨rfl, rfl⟩
    refine JL.pure rfl rfl (OpP.extract rfl rfl) ?_
    refine JL.pure rfl rfl (OpP.extract rfl rfl) ?_
    refine JL.pure rfl rfl (OpP.assign rfl) ?_
    refine JL.pure rfl rfl (OpP.assign rfl) ?_
    refine JL.nil ?_
    refine J.ret2 rfl rfl rfl ?_
    exact ⟨_, .inr (.inl ⟨hok, hb.symm, rfl, rfl⟩), fun _ h => Own.pick (pre := [_, _, _, _]) [] rfl h⟩
end Go.Proofs.E

-- seat e
namespace Go.Proofs.E
open Go Go.Gp Go.RowKit

theorem byteOf_ok {w0 : World} {F : List HProp} {n : Int} : FnO Try.prog w0 73 [.int .i64 n] F (fun r l' => r = .agg (pac (pNum 0 n)).toArray ∧ l' = F) := by
  refine FnO.weak ?_
  refine FnO.intro (n := 5) Try.func73 rfl rfl rfl ?_
  refine J.seq ?_
  refine J.region ?_
  refine JL.mem rfl rfl OpM.alloc ?_; rintro _ _ ⟨b2, rfl, rfl⟩
  refine JL.nil ?_
  refine J.seq ?_
  refine J.region ?_
  refine JL.pure rfl rfl (OpP.move rfl) ?_
  refine JL.pure rfl rfl (OpP.build rfl (by (repeat (first | exact Fills.nil | (apply Fills.cons rfl rfl rfl; (case' hs => ((repeat (first | exact Spl.nil | apply Spl.here | apply Spl.there)); done))))))) ?_
  refine JL.mem0 rfl (by apply OpM.storeN rfl rfl (by rfl) (oneC rfl (oneC rfl (oneC rfl (oneC rfl (oneC rfl (oneC rfl (one1 rfl))))))); (case' hu => exact .head); (case' hs => exact (.here (.here (.here (.here (.here (.here (.here .nil)))))))); done) ?_; rintro _ _ ⟨rfl, rfl⟩
  refine JL.nil ?_
  refine J.retC rfl rfl (by apply Cells.full; (with_reducible repeat (first | exact .head | apply Has.tail))) (by first | (rw [List.length_append, hdC_len (by first | assumption | exact Go.Proofs.B.shaB_length _ _ | solve_by_elim)]; rfl) | exact hdC_len (by first | assumption | exact Go.Proofs.B.shaB_length _ _ | solve_by_elim) | (rw [bcells_length]; first | assumption | exact Go.Proofs.B.shaB_length _ _ | solve_by_elim) | exact fc_length _ _ | exact fB_length _ _ | rfl) ?_
  exact ⟨_, ⟨rfl, rfl⟩, fun _ h => h.tail⟩
theorem shortOf_ok {w0 : World} {F : List HProp} {n : Int} : FnO Try.prog w0 74 [.int .i64 n] F (fun r l' => r = .agg (pac (pNum 1 n)).toArray ∧ l' = F) := by
  refine FnO.weak ?_
  refine FnO.intro (n := 5) Try.func74 rfl rfl rfl ?_
  refine J.seq ?_
  refine J.region ?_
  refine JL.mem rfl rfl OpM.alloc ?_; rintro _ _ ⟨b2, rfl, rfl⟩
  refine JL.nil ?_
  refine J.seq ?_
  refine J.region ?_
  refine JL.pure rfl rfl (OpP.move rfl) ?_
  refine JL.pure rfl rfl (OpP.build rfl (by (repeat (first | exact Fills.nil | (apply Fills.cons rfl rfl rfl; (case' hs => ((repeat (first | exact Spl.nil | apply Spl.here | apply Spl.there)); done))))))) ?_
  refine JL.mem0 rfl (by apply OpM.storeN rfl rfl (by rfl) (oneC rfl (oneC rfl (oneC rfl (oneC rfl (oneC rfl (oneC rfl (one1 rfl))))))); (case' hu => exact .head); (case' hs => exact (.here (.here (.here (.here (.here (.here (.here .nil)))))))); done) ?_; rintro _ _ ⟨rfl, rfl⟩
  refine JL.nil ?_
  refine J.retC rfl rfl (by apply Cells.full; (with_reducible repeat (first | exact .head | apply Has.tail))) (by first | (rw [List.length_append, hdC_len (by first | assumption | exact Go.Proofs.B.shaB_length _ _ | solve_by_elim)]; rfl) | exact hdC_len (by first | assumption | exact Go.Proofs.B.shaB_length _ _ | solve_by_elim) | (rw [bcells_length]; first | assumption | exact Go.Proofs.B.shaB_length _ _ | solve_by_elim) | exact fc_length _ _ | exact fB_length _ _ | rfl) ?_
  exact ⟨_, ⟨rfl, rfl⟩, fun _ h => h.tail⟩
theorem textOf_ok {w0 : World} {F : List HProp} {s : List UInt8} : FnO Try.prog w0 75 [.string (strB s)] F (fun r l' => r = .agg (pac (pTxt 5 s)).toArray ∧ l' = F) := by
  refine FnO.weak ?_
  refine FnO.intro (n := 5) Try.func75 rfl rfl rfl ?_
  refine J.seq ?_
  refine J.region ?_
  refine JL.mem rfl rfl OpM.alloc ?_; rintro _ _ ⟨b2, rfl, rfl⟩
  refine JL.nil ?_
  refine J.seq ?_
  refine J.region ?_
  refine JL.pure rfl rfl (OpP.move rfl) ?_
  refine JL.pure rfl rfl (OpP.build rfl (by (repeat (first | exact Fills.nil | (apply Fills.cons rfl rfl rfl; (case' hs => ((repeat (first | exact Spl.nil | apply Spl.here | apply Spl.there)); done))))))) ?_
  refine JL.mem0 rfl (by apply OpM.storeN rfl rfl (by rfl) (oneC rfl (oneC rfl (oneC rfl (oneC rfl (oneC rfl (oneC rfl (one1 rfl))))))); (case' hu => exact .head); (case' hs => exact (.here (.here (.here (.here (.here (.here (.here .nil)))))))); done) ?_; rintro _ _ ⟨rfl, rfl⟩
  refine JL.nil ?_
  refine J.retC rfl rfl (by apply Cells.full; (with_reducible repeat (first | exact .head | apply Has.tail))) (by first | (rw [List.length_append, hdC_len (by first | assumption | exact Go.Proofs.B.shaB_length _ _ | solve_by_elim)]; rfl) | exact hdC_len (by first | assumption | exact Go.Proofs.B.shaB_length _ _ | solve_by_elim) | (rw [bcells_length]; first | assumption | exact Go.Proofs.B.shaB_length _ _ | solve_by_elim) | exact fc_length _ _ | exact fB_length _ _ | rfl) ?_
  exact ⟨_, ⟨rfl, rfl⟩, fun _ h => h.tail⟩
abbrev pVal (u : Va) : Pa := ⟨7, 0, [], u⟩
theorem allF_num {o : Option (List UInt8)} {kd n : Int} {size : Nat} (h : kd = 0 ∧ size = 1 ∨ kd = 1 ∧ size = 2) : (partB (pNum kd n)).bind (putO o) = smallO o n size := by
  unfold smallO
  rcases h with ⟨rfl, rfl⟩ | ⟨rfl, rfl⟩
  · rw [partB, if_pos (by dsimp only; decide)]; dsimp only; split <;> rfl
  · rw [partB, if_neg (by dsimp only; decide), if_pos (by dsimp only; decide)]; dsimp only; split <;> rfl
theorem allF_long {o : Option (List UInt8)} {n : Int} : (partB (pNum 3 n)).bind (putO o) = putO o (be (u64 n) 8) := by
  rw [partB, if_neg (by dsimp only; decide), if_neg (by dsimp only; decide), if_neg (by dsimp only; decide), if_pos (by dsimp only; decide)]; rfl
theorem allF_text {o : Option (List UInt8)} {s : List UInt8} : (partB (pTxt 5 s)).bind (putO o) = textO o s := by
  rw [partB, if_neg (by dsimp only; decide), if_neg (by dsimp only; decide), if_neg (by dsimp only; decide), if_neg (by dsimp only; decide), if_neg (by dsimp only; decide), if_pos (by dsimp only; decide)]
  unfold textO; dsimp only; split <;> rfl
theorem allF_texts {ts : List (List UInt8)} {o : Option (List UInt8)} : allF o (ts.map fun s => pTxt 5 s) = textsO o ts := by
  induction ts generalizing o with
  | nil => rfl
  | cons s ts ih =>
    rw [List.map_cons, allF, List.foldl_cons, allF_text, textsO, List.foldl_cons]
    exact ih
theorem allF_cons {o : Option (List UInt8)} {p : Pa} {ps : List Pa} : allF o (p :: ps) = allF ((partB p).bind (putO o)) ps := rfl
theorem allF_append {o : Option (List UInt8)} {ps qs : List Pa} : allF o (ps ++ qs) = allF (allF o ps) qs := by rw [allF, List.foldl_append]; rfl
def repP (r : Rp) : List Pa := [pNum 0 r.err, pNum 1 r.num, pNum 0 r.ans, pNum 0 r.du.length] ++ r.du.map (fun s => pTxt 5 s) ++ [pNum 0 r.ad.length] ++ r.ad.map (fun s => pTxt 5 s)
theorem allF_rep (r : Rp) : allF (some []) (repP r) = repO r := by
  rw [repP, allF_append, allF_append, allF_append, allF_cons, allF_cons, allF_cons, allF_cons, allF_num (.inl ⟨rfl, rfl⟩), allF_num (.inr ⟨rfl, rfl⟩), allF_num (.inl ⟨rfl, rfl⟩), allF_num (.inl ⟨rfl, rfl⟩), show ∀ o, allF o [] = o from fun _ => rfl, allF_texts, allF_cons, allF_num (.inl ⟨rfl, rfl⟩), show ∀ o, allF o [] = o from fun _ => rfl, allF_texts]
  rfl
/-- The reference: the bytes of a reply. -/
theorem refReply_ok {w0 : World} {F : List HProp} {r : Rp} (hR : r.Rd w0 F) (hd : ∀ s ∈ r.du, s.length ≤ 5000) (ha : ∀ s ∈ r.ad, s.length ≤ 5000) :
    FnO Try.prog w0 43 [.agg r.cells.toArray] F (EncP r.Ok (repO r) F) := by
  have dn := hR.dn
  have an := hR.an
  refine FnO.rdF (fun _ h => h) hR.dr fun hd1 => ?_
  refine FnO.rdF (fun _ h => h) hR.ar fun ha1 => ?_
  refine FnO.weak ?_
  refine FnO.intro (n := 113) Try.func43 rfl rfl rfl ?_
  refine J.seq ?_
  refine J.region ?_
  refine JL.mem rfl rfl (OpM.box rfl rfl) ?_; rintro _ _ ⟨b1, rfl, rfl⟩
  refine JL.pure rfl rfl (OpP.assign rfl) ?_
  refine JL.pure rfl rfl (OpP.assign rfl) ?_
  refine JL.nil ?_
  refine J.seq ?_
  refine J.region ?_
  refine JL.pure rfl rfl (OpP.fieldAddr rfl) ?_
  refine JL.read rfl rfl (OpR.loadN rfl (Cells.sub 3 .head rfl) rfl) ?_
  refine JL.mem rfl rfl OpM.alloc ?_; rintro _ _ ⟨b4, rfl, rfl⟩
  refine JL.mem0 rfl (by apply OpM.storeN rfl rfl (by rfl) (oneC rfl (oneC rfl (one1 rfl))); (case' hu => exact .head); (case' hs => exact (.here (.here (.here .nil)))); done) ?_; rintro _ _ ⟨rfl, rfl⟩
  refine JL.nil ?_
  refine J.seq ?_
  refine J.seq ?_
  refine J.region ?_
  refine JL.pure rfl rfl (OpP.fieldAddr rfl) ?_
  refine JL.read rfl rfl (OpR.load1 rfl (Cell.row (.tail .head) rfl)) ?_
  refine JL.dec rfl rfl (OpP.lss rfl rfl) (fun h14 => ?_) (fun h14 => ?_)
  focus
    refine JL.pure rfl rfl (OpP.move rfl) ?_
    refine JL.skip rfl rfl ?_
    refine JL.skip rfl rfl ?_
    refine JL.skip rfl rfl ?_
    refine JL.pure rfl rfl (OpP.pickT rfl rfl) ?_
    refine JL.pure rfl rfl (OpP.move rfl) ?_
    refine JL.skip rfl rfl ?_
    refine JL.skip rfl rfl ?_
    refine JL.skip rfl rfl ?_
    refine JL.pure rfl rfl (OpP.pickT rfl rfl) ?_
    refine JL.pure rfl rfl (OpP.move rfl) ?_
    refine JL.skip rfl rfl ?_
    refine JL.skip rfl rfl ?_
    refine JL.skip rfl rfl ?_
    refine JL.pure rfl rfl (OpP.pickT rfl rfl) ?_
    refine JL.pure rfl rfl (OpP.move rfl) ?_
    refine JL.skip rfl rfl ?_
    refine JL.skip rfl rfl ?_
    refine JL.skip rfl rfl ?_
    refine JL.pure rfl rfl (OpP.pickT rfl rfl) ?_
    refine JL.pure rfl rfl (OpP.move rfl) ?_
    refine JL.skip rfl rfl ?_
    refine JL.skip rfl rfl ?_
    refine JL.skip rfl rfl ?_
    refine JL.pure rfl rfl (OpP.pickT rfl rfl) ?_
    refine JL.pure rfl rfl (OpP.move rfl) ?_
    refine JL.skip rfl rfl ?_
    refine JL.skip rfl rfl ?_
    refine JL.skip rfl rfl ?_
    refine JL.skip rfl rfl ?_
    refine JL.pure rfl rfl (OpP.pickT rfl rfl) ?_
    refine JL.pure rfl rfl (OpP.move rfl) ?_
    refine JL.skip rfl rfl ?_
    refine JL.skip rfl rfl ?_
    refine JL.skip rfl rfl ?_
    refine JL.skip rfl rfl ?_
    refine JL.pure rfl rfl (OpP.pickT rfl rfl) ?_
    refine JL.nil ?_
    refine J.condT rfl ?_
    refine J.seq ?_
    refine J.region ?_
    refine JL.pure rfl rfl (OpP.assign rfl) ?_
    refine JL.pure rfl rfl (OpP.assign rfl) ?_
    refine JL.nil ?_
    refine J.ret2 rfl rfl rfl ?_
  rotate_left 1
  focus
    refine JL.pure rfl rfl (OpP.move rfl) ?_
    refine JL.pure rfl rfl (OpP.fieldAddr rfl) ?_
    refine JL.read rfl rfl (OpR.load1 rfl (Cell.row (.tail .head) rfl)) ?_
    refine JL.dec rfl rfl (OpP.gtr rfl rfl) (fun h18 => ?_) (fun h18 => ?_)
    focus
      refine JL.pure rfl rfl (OpP.pickF rfl rfl) ?_
      refine JL.pure rfl rfl (OpP.move rfl) ?_
      refine JL.skip rfl rfl ?_
      refine JL.skip rfl rfl ?_
      refine JL.skip rfl rfl ?_
      refine JL.pure rfl rfl (OpP.pickT rfl rfl) ?_
      refine JL.pure rfl rfl (OpP.move rfl) ?_
      refine JL.skip rfl rfl ?_
      refine JL.skip rfl rfl ?_
      refine JL.skip rfl rfl ?_
      refine JL.pure rfl rfl (OpP.pickT rfl rfl) ?_
      refine JL.pure rfl rfl (OpP.move rfl) ?_
      refine JL.skip rfl rfl ?_
      refine JL.skip rfl rfl ?_
      refine JL.skip rfl rfl ?_
      refine JL.pure rfl rfl (OpP.pickT rfl rfl) ?_
      refine JL.pure rfl rfl (OpP.move rfl) ?_
      refine JL.skip rfl rfl ?_
      refine JL.skip rfl rfl ?_
      refine JL.skip rfl rfl ?_
      refine JL.pure rfl rfl (OpP.pickT rfl rfl) ?_
      refine JL.pure rfl rfl (OpP.move rfl) ?_
      refine JL.skip rfl rfl ?_
      refine JL.skip rfl rfl ?_
      refine JL.skip rfl rfl ?_
      refine JL.skip rfl rfl ?_
      refine JL.pure rfl rfl (OpP.pickT rfl rfl) ?_
      refine JL.pure rfl rfl (OpP.move rfl) ?_
      refine JL.skip rfl rfl ?_
      refine JL.skip rfl rfl ?_
      refine JL.skip rfl rfl ?_
      refine JL.skip rfl rfl ?_
      refine JL.pure rfl rfl (OpP.pickT rfl rfl) ?_
      refine JL.nil ?_
      refine J.condT rfl ?_
      refine J.seq ?_
      refine J.region ?_
      refine JL.pure rfl rfl (OpP.assign rfl) ?_
      refine JL.pure rfl rfl (OpP.assign rfl) ?_
      refine JL.nil ?_
      refine J.ret2 rfl rfl rfl ?_
    rotate_left 1
    focus
      refine JL.pure rfl rfl (OpP.pickF rfl rfl) ?_
      refine JL.pure rfl rfl (OpP.move rfl) ?_
      refine JL.pure rfl rfl (OpP.fieldAddr rfl) ?_
      refine JL.read rfl rfl (OpR.load1 rfl (Cell.row (.tail .head) rfl)) ?_
      refine JL.dec rfl rfl (OpP.lss rfl rfl) (fun h23 => ?_) (fun h23 => ?_)
      focus
        refine JL.pure rfl rfl (OpP.pickF rfl rfl) ?_
        refine JL.pure rfl rfl (OpP.move rfl) ?_
        refine JL.skip rfl rfl ?_
        refine JL.skip rfl rfl ?_
        refine JL.skip rfl rfl ?_
        refine JL.pure rfl rfl (OpP.pickT rfl rfl) ?_
        refine JL.pure rfl rfl (OpP.move rfl) ?_
        refine JL.skip rfl rfl ?_
        refine JL.skip rfl rfl ?_
        refine JL.skip rfl rfl ?_
        refine JL.pure rfl rfl (OpP.pickT rfl rfl) ?_
        refine JL.pure rfl rfl (OpP.move rfl) ?_
        refine JL.skip rfl rfl ?_
        refine JL.skip rfl rfl ?_
        refine JL.skip rfl rfl ?_
        refine JL.pure rfl rfl (OpP.pickT rfl rfl) ?_
        refine JL.pure rfl rfl (OpP.move rfl) ?_
        refine JL.skip rfl rfl ?_
        refine JL.skip rfl rfl ?_
        refine JL.skip rfl rfl ?_
        refine JL.skip rfl rfl ?_
        refine JL.pure rfl rfl (OpP.pickT rfl rfl) ?_
        refine JL.pure rfl rfl (OpP.move rfl) ?_
        refine JL.skip rfl rfl ?_
        refine JL.skip rfl rfl ?_
        refine JL.skip rfl rfl ?_
        refine JL.skip rfl rfl ?_
        refine JL.pure rfl rfl (OpP.pickT rfl rfl) ?_
        refine JL.nil ?_
        refine J.condT rfl ?_
        refine J.seq ?_
        refine J.region ?_
        refine JL.pure rfl rfl (OpP.assign rfl) ?_
        refine JL.pure rfl rfl (OpP.assign rfl) ?_
        refine JL.nil ?_
        refine J.ret2 rfl rfl rfl ?_
      rotate_left 1
      focus
        refine JL.pure rfl rfl (OpP.pickF rfl rfl) ?_
        refine JL.pure rfl rfl (OpP.move rfl) ?_
        refine JL.pure rfl rfl (OpP.fieldAddr rfl) ?_
        refine JL.read rfl rfl (OpR.load1 rfl (Cell.row (.tail .head) rfl)) ?_
        refine JL.dec rfl rfl (OpP.gtr rfl rfl) (fun h28 => ?_) (fun h28 => ?_)
        focus
          refine JL.pure rfl rfl (OpP.pickF rfl rfl) ?_
          refine JL.pure rfl rfl (OpP.move rfl) ?_
          refine JL.skip rfl rfl ?_
          refine JL.skip rfl rfl ?_
          refine JL.skip rfl rfl ?_
          refine JL.pure rfl rfl (OpP.pickT rfl rfl) ?_
          refine JL.pure rfl rfl (OpP.move rfl) ?_
          refine JL.skip rfl rfl ?_
          refine JL.skip rfl rfl ?_
          refine JL.skip rfl rfl ?_
          refine JL.pure rfl rfl (OpP.pickT rfl rfl) ?_
          refine JL.pure rfl rfl (OpP.move rfl) ?_
          refine JL.skip rfl rfl ?_
          refine JL.skip rfl rfl ?_
          refine JL.skip rfl rfl ?_
          refine JL.skip rfl rfl ?_
          refine JL.pure rfl rfl (OpP.pickT rfl rfl) ?_
          refine JL.pure rfl rfl (OpP.move rfl) ?_
          refine JL.skip rfl rfl ?_
          refine JL.skip rfl rfl ?_
          refine JL.skip rfl rfl ?_
          refine JL.skip rfl rfl ?_
          refine JL.pure rfl rfl (OpP.pickT rfl rfl) ?_
          refine JL.nil ?_
          refine J.condT rfl ?_
          refine J.seq ?_
          refine J.region ?_
          refine JL.pure rfl rfl (OpP.assign rfl) ?_
          refine JL.pure rfl rfl (OpP.assign rfl) ?_
          refine JL.nil ?_
          refine J.ret2 rfl rfl rfl ?_
        rotate_left 1
        focus
          refine JL.pure rfl rfl (OpP.pickF rfl rfl) ?_
          refine JL.pure rfl rfl (OpP.move rfl) ?_
          refine JL.pure rfl rfl (OpP.fieldAddr rfl) ?_
          refine JL.read rfl rfl (OpR.load1 rfl (Cell.row .head rfl)) ?_
          refine JL.dec rfl rfl (OpP.lss rfl rfl) (fun h33 => ?_) (fun h33 => ?_)
          focus
            refine JL.pure rfl rfl (OpP.pickF rfl rfl) ?_
            refine JL.pure rfl rfl (OpP.move rfl) ?_
            refine JL.skip rfl rfl ?_
            refine JL.skip rfl rfl ?_
            refine JL.skip rfl rfl ?_
            refine JL.pure rfl rfl (OpP.pickT rfl rfl) ?_
            refine JL.pure rfl rfl (OpP.move rfl) ?_
            refine JL.skip rfl rfl ?_
            refine JL.skip rfl rfl ?_
            refine JL.skip rfl rfl ?_
            refine JL.skip rfl rfl ?_
            refine JL.pure rfl rfl (OpP.pickT rfl rfl) ?_
            refine JL.pure rfl rfl (OpP.move rfl) ?_
            refine JL.skip rfl rfl ?_
            refine JL.skip rfl rfl ?_
            refine JL.skip rfl rfl ?_
            refine JL.skip rfl rfl ?_
            refine JL.pure rfl rfl (OpP.pickT rfl rfl) ?_
            refine JL.nil ?_
            refine J.condT rfl ?_
            refine J.seq ?_
            refine J.region ?_
            refine JL.pure rfl rfl (OpP.assign rfl) ?_
            refine JL.pure rfl rfl (OpP.assign rfl) ?_
            refine JL.nil ?_
            refine J.ret2 rfl rfl rfl ?_
          rotate_left 1
          focus
            refine JL.pure rfl rfl (OpP.pickF rfl rfl) ?_
            refine JL.pure rfl rfl (OpP.move rfl) ?_
            refine JL.pure rfl rfl (OpP.fieldAddr rfl) ?_
            refine JL.read rfl rfl (OpR.load1 rfl (Cell.row .head rfl)) ?_
            refine JL.dec rfl rfl (OpP.gtr rfl rfl) (fun h38 => ?_) (fun h38 => ?_)
            focus
              refine JL.pure rfl rfl (OpP.pickF rfl rfl) ?_
              refine JL.pure rfl rfl (OpP.move rfl) ?_
              refine JL.skip rfl rfl ?_
              refine JL.skip rfl rfl ?_
              refine JL.skip rfl rfl ?_
              refine JL.skip rfl rfl ?_
              refine JL.pure rfl rfl (OpP.pickT rfl rfl) ?_
              refine JL.pure rfl rfl (OpP.move rfl) ?_
              refine JL.skip rfl rfl ?_
              refine JL.skip rfl rfl ?_
              refine JL.skip rfl rfl ?_
              refine JL.skip rfl rfl ?_
              refine JL.pure rfl rfl (OpP.pickT rfl rfl) ?_
              refine JL.nil ?_
              refine J.condT rfl ?_
              refine J.seq ?_
              refine J.region ?_
              refine JL.pure rfl rfl (OpP.assign rfl) ?_
              refine JL.pure rfl rfl (OpP.assign rfl) ?_
              refine JL.nil ?_
              refine J.ret2 rfl rfl rfl ?_
            rotate_left 1
            focus
              refine JL.pure rfl rfl (OpP.pickF rfl rfl) ?_
              refine JL.pure rfl rfl (OpP.move rfl) ?_
              refine JL.pure rfl rfl (OpP.fieldAddr rfl) ?_
              refine JL.read rfl rfl (OpR.load1 rfl (Cell.row .head rfl)) ?_
              refine JL.pure rfl rfl (OpP.len rfl rfl) ?_
              refine JL.dec rfl rfl (OpP.gtr rfl rfl) (fun h44 => ?_) (fun h44 => ?_)
              focus
                refine JL.pure rfl rfl (OpP.pickF rfl rfl) ?_
                refine JL.pure rfl rfl (OpP.move rfl) ?_
                refine JL.skip rfl rfl ?_
                refine JL.skip rfl rfl ?_
                refine JL.skip rfl rfl ?_
                refine JL.skip rfl rfl ?_
                refine JL.pure rfl rfl (OpP.pickT rfl rfl) ?_
                refine JL.nil ?_
                refine J.condT rfl ?_
                refine J.seq ?_
                refine J.region ?_
                refine JL.pure rfl rfl (OpP.assign rfl) ?_
                refine JL.pure rfl rfl (OpP.assign rfl) ?_
                refine JL.nil ?_
                refine J.ret2 rfl rfl rfl ?_
              rotate_left 1
              focus
                refine JL.pure rfl rfl (OpP.pickF rfl rfl) ?_
                refine JL.pure rfl rfl (OpP.move rfl) ?_
                refine JL.pure rfl rfl (OpP.fieldAddr rfl) ?_
                refine JL.read rfl rfl (OpR.load1 rfl (Cell.row .head rfl)) ?_
                refine JL.pure rfl rfl (OpP.len rfl rfl) ?_
                refine JL.dec rfl rfl (OpP.gtr rfl rfl) (fun h50 => ?_) (fun h50 => ?_)
                focus
                  refine JL.pure rfl rfl (OpP.pickF rfl rfl) ?_
                  refine JL.nil ?_
                  refine J.condT rfl ?_
                  refine J.seq ?_
                  refine J.region ?_
                  refine JL.pure rfl rfl (OpP.assign rfl) ?_
                  refine JL.pure rfl rfl (OpP.assign rfl) ?_
                  refine JL.nil ?_
                  refine J.ret2 rfl rfl rfl ?_
                rotate_left 1
                focus
                  refine JL.pure rfl rfl (OpP.pickF rfl rfl) ?_
                  refine JL.nil ?_
                  refine J.condF rfl ?_
                  refine J.skip ?_
                rotate_left 1
              rotate_left 2
            rotate_left 3
          rotate_left 4
        rotate_left 5
      rotate_left 6
    rotate_left 7
  rotate_left 8
  · exact ⟨_, .inr (.inr ⟨fun q => by omega, rfl, rfl⟩), fun _ h => h.tail.tail⟩
  · exact ⟨_, .inr (.inr ⟨fun q => by omega, rfl, rfl⟩), fun _ h => h.tail.tail⟩
  · exact ⟨_, .inr (.inr ⟨fun q => by omega, rfl, rfl⟩), fun _ h => h.tail.tail⟩
  · exact ⟨_, .inr (.inr ⟨fun q => by omega, rfl, rfl⟩), fun _ h => h.tail.tail⟩
  · exact ⟨_, .inr (.inr ⟨fun q => by omega, rfl, rfl⟩), fun _ h => h.tail.tail⟩
  · exact ⟨_, .inr (.inr ⟨fun q => by omega, rfl, rfl⟩), fun _ h => h.tail.tail⟩
  · exact ⟨_, .inr (.inr ⟨fun q => by omega, rfl, rfl⟩), fun _ h => h.tail.tail⟩
  · exact ⟨_, .inr (.inr ⟨fun q => by omega, rfl, rfl⟩), fun _ h => h.tail.tail⟩
  have hok : r.Ok := by omega
  refine J.seq ?_
  refine J.regionD [1, 4, 7, 10] (by kernel_rfl) ?_
  refine DL.pure (i := 0) (by kernel_rfl) (by kernel_rfl) rfl rfl rfl (OpP.fieldAddr rfl) ?_
  refine DL.read (i := 1) (by kernel_rfl) (by kernel_rfl) rfl rfl rfl (fun _ h => h) (OpR.load1 rfl (Cell.row (.tail .head) rfl)) ?_
  refine DL.pure (i := 3) (by kernel_rfl) (by kernel_rfl) rfl rfl rfl (OpP.fieldAddr rfl) ?_
  refine DL.read (i := 4) (by kernel_rfl) (by kernel_rfl) rfl rfl rfl (fun _ h => h) (OpR.load1 rfl (Cell.row (.tail .head) rfl)) ?_
  refine DL.pure (i := 6) (by kernel_rfl) (by kernel_rfl) rfl rfl rfl (OpP.fieldAddr rfl) ?_
  refine DL.read (i := 7) (by kernel_rfl) (by kernel_rfl) rfl rfl rfl (fun _ h => h) (OpR.load1 rfl (Cell.row .head rfl)) ?_
  refine DL.pure (i := 9) (by kernel_rfl) (by kernel_rfl) rfl rfl rfl (OpP.fieldAddr rfl) ?_
  refine DL.read (i := 10) (by kernel_rfl) (by kernel_rfl) rfl rfl rfl (fun _ h => h) (OpR.load1 rfl (Cell.row .head rfl)) ?_
  refine DL.pure (i := 11) (by kernel_rfl) (by kernel_rfl) rfl rfl rfl (OpP.len rfl rfl) ?_
  refine DL.only (i := 2) (by kernel_rfl) ?_
  refine DL1.stepK rfl rfl rfl (by exact OpW.call (first := []) (captured := []) inferInstance rfl rfl byteOf_ok) (by rintro _ _ ⟨rfl, rfl⟩ _ h; exact Own.pick (pre := [_, _]) [0, 1] rfl h) ?_; rintro r54 _ ⟨rfl, rfl⟩
  refine DL.only (i := 5) (by kernel_rfl) ?_
  refine DL1.stepK rfl rfl rfl (by exact OpW.call (first := []) (captured := []) inferInstance rfl rfl shortOf_ok) (by rintro _ _ ⟨rfl, rfl⟩ _ h; exact Own.pick (pre := [_, _]) [0, 1] rfl h) ?_; rintro r57 _ ⟨rfl, rfl⟩
  refine DL.only (i := 8) (by kernel_rfl) ?_
  refine DL1.stepK rfl rfl rfl (by exact OpW.call (first := []) (captured := []) inferInstance rfl rfl byteOf_ok) (by rintro _ _ ⟨rfl, rfl⟩ _ h; exact Own.pick (pre := [_, _]) [0, 1] rfl h) ?_; rintro r60 _ ⟨rfl, rfl⟩
  refine DL.only (i := 12) (by kernel_rfl) ?_
  refine DL1.stepF rfl rfl rfl (by kernel_rfl) (by exact OpW.call (first := []) (captured := []) inferInstance rfl rfl byteOf_ok) ?_; rintro r64 _ ⟨rfl, rfl⟩
  refine DL.only (i := 13) (by kernel_rfl) ?_
  refine DL1.stepF rfl rfl rfl (by kernel_rfl) (OpM.w (by apply OpM.buildSlice (by rfl) rfl (by rfl); (repeat (first | exact Fills.nil | (apply Fills.cons rfl rfl rfl; (case' hs => ((repeat (first | exact Spl.nil | apply Spl.here | apply Spl.there)); done))))))) ?_; rintro _ _ ⟨b65, rfl, rfl⟩
  refine DL.pure (i := 14) (by kernel_rfl) (by kernel_rfl) rfl rfl rfl (OpP.assign rfl) ?_
  refine DL.done (by kernel_rfl) ?_
  refine J.seq ?_
  refine J.seq ?_
  refine J.region ?_
  refine JL.pure rfl rfl (OpP.assign rfl) ?_
  refine JL.nil ?_
  refine J.block ?_
  refine J.conv (l' := own 31 7 (.slice (some ⟨b65, 0, none⟩) 4 4) 4 ([pNum 0 r.err, pNum 1 r.num, pNum 0 r.ans, pNum 0 r.du.length].flatMap pac) :: row b4 72 [.int .i64 r.ans, .slice r.da r.du.length r.dc, .slice r.aa r.ad.length r.ac] :: row b1 74 r.cells :: F) (fun _ h => Own.own_whole (n := 4) (by decide) rfl h) ?_
  refine J.loopI (fun x : Nat × Value => r.du.length - x.1) (fun x => x.1 ≤ r.du.length) (fun x => [(6, .int .i64 (x.1 : Nat)), (5, x.2), (4, .pointer (some ⟨b4, 0, none⟩))])
    (fun x => own 31 7 x.2 (4 + x.1) (([pNum 0 r.err, pNum 1 r.num, pNum 0 r.ans, pNum 0 r.du.length] ++ (r.du.take x.1).map (fun s => pTxt 5 s)).flatMap pac) :: row b4 72 [.int .i64 r.ans, .slice r.da r.du.length r.dc, .slice r.aa r.ad.length r.ac] :: row b1 74 r.cells :: F) (0, _) (Nat.zero_le _) (by repeat (first | exact SubEnv.nil | refine SubEnv.cons (by first | rfl | exact congrArg (fun z => some (Value.int .i64 z)) (by omega) | (simp; done)) ?_)) (fun _ h => h) (fun ⟨j, u⟩ hi back => ?_)
  dsimp only at hi back ⊢
  by_cases hlt : j < r.du.length
  · obtain ⟨s, hs⟩ : ∃ e, r.du[j]? = some e := ⟨_, List.getElem?_eq_getElem hlt⟩
    have hcell : (tcl r.du)[j]? = some (.string (strB s)) := by rw [List.getElem?_map, hs]; rfl
    obtain ⟨ga, pa, qa, ea, ka, hcs⟩ := hd1.pos (by omega)
    rw [ea] at hd1 back ⊢
    refine J.lit .head fun au cu eu => ?_; subst eu
    refine J.seq ?_
    refine J.seq ?_
    refine J.region ?_
    refine JL.pure rfl rfl (OpP.move rfl) ?_
    refine JL.pure rfl rfl (OpP.fieldAddr rfl) ?_
    refine JL.read rfl rfl (OpR.load1 rfl (Cell.row (.tail .head) rfl)) ?_
    refine JL.pure rfl rfl (OpP.len rfl rfl) ?_
    refine JL.decT rfl rfl (OpP.lss rfl rfl) (by omega) ?_
    refine JL.nil ?_
    refine J.condT rfl ?_
    refine J.skip ?_
    refine J.seq ?_
    refine J.block ?_
    refine J.region ?_
    refine JL.pure rfl rfl (OpP.move rfl) ?_
    refine JL.pure rfl rfl (OpP.fieldAddr rfl) ?_
    refine JL.read rfl rfl (OpR.load1 rfl (Cell.row (.tail .head) rfl)) ?_
    refine JL.pure rfl rfl (OpP.move rfl) ?_
    refine JL.pure rfl rfl (OpP.indexAddr rfl rfl (by omega) (by omega)) ?_
    refine JL.read rfl rfl (OpR.load1 rfl (by apply Cells.cell hcs (fun _ h => Own.pick (pre := [_, _, _]) [] rfl h); (case' hv => assumption); (case' ho => omega); done)) ?_
    refine JL.step rfl rfl (OpW.call (first := []) (captured := []) inferInstance rfl rfl textOf_ok) ?_; rintro r79 _ ⟨rfl, rfl⟩
    refine JL.mem rfl rfl (by apply OpM.buildSlice (by rfl) rfl (by rfl); (repeat (first | exact Fills.nil | (apply Fills.cons rfl rfl rfl; (case' hs => ((repeat (first | exact Spl.nil | apply Spl.here | apply Spl.there)); done)))))) ?_; rintro _ _ ⟨b80, rfl, rfl⟩
    refine JL.f1 ?_; refine JL.mem rfl rfl (OpM.appendH rfl (.inl ⟨_, Sl.und inferInstance⟩) (by rfl) rfl rfl (RdO.src (RdO.ofRow (.tail .head) (by first | exact Nat.le_refl _ | decide | omega)) (by first | assumption | exact fc_length _ _ | (simp; done) | (simp; omega))) (oneC rfl (oneC rfl (oneC rfl (oneC rfl (oneC rfl (oneC rfl (one1 rfl))))))) (by simp only [maxLen]; omega) (by omega)) ?_; rintro _ _ ⟨⟨a81, c81, rfl⟩, rfl⟩
    refine JL.pure rfl rfl (OpP.assign rfl) ?_
    refine JL.nil ?_
    refine J.inBlock ?_
    refine J.region ?_
    refine JL.pure rfl rfl (OpP.move rfl) ?_
    refine JL.pure rfl rfl (OpP.addI rfl rfl (by omega) (by omega)) ?_
    refine JL.pure rfl rfl (OpP.assign rfl) ?_
    refine JL.nil ?_
    refine back (j + 1, .slice a81 (4 + j + 1) c81) (by dsimp only; omega) (by dsimp only; omega) (by repeat (first | exact SubEnv.nil | refine SubEnv.cons (by first | rfl | exact congrArg (fun z => some (Value.int .i64 z)) (by omega) | (simp; done)) ?_)) (fun _ h => ?_)
    dsimp only
    rw [← Nat.add_assoc, List.take_add_one, hs, Option.toList_some, List.map_append, ← List.append_assoc, List.flatMap_append]
    exact Own.pick (pre := [_, _, _, _]) [0, 2, 3] rfl h
  · obtain rfl : j = r.du.length := by omega
    rw [List.take_length]
    refine J.lit .head fun au cu eu => ?_; subst eu
    refine J.seq ?_
    refine J.seq ?_
    refine J.region ?_
    refine JL.pure rfl rfl (OpP.move rfl) ?_
    refine JL.pure rfl rfl (OpP.fieldAddr rfl) ?_
    refine JL.read rfl rfl (OpR.load1 rfl (Cell.row (.tail .head) rfl)) ?_
    refine JL.pure rfl rfl (OpP.len rfl rfl) ?_
    refine JL.decF rfl rfl (OpP.lss rfl rfl) (by omega) ?_
    refine JL.nil ?_
    refine J.condF rfl ?_
    refine J.exit rfl ?_
    refine J.seq ?_
    refine J.region ?_
    refine JL.pure rfl rfl (OpP.move rfl) ?_
    refine JL.pure rfl rfl (OpP.fieldAddr rfl) ?_
    refine JL.read rfl rfl (OpR.load1 rfl (Cell.row (.tail .head) rfl)) ?_
    refine JL.pure rfl rfl (OpP.len rfl rfl) ?_
    refine JL.step rfl rfl (OpW.call (first := []) (captured := []) inferInstance rfl rfl byteOf_ok) ?_; rintro r86 _ ⟨rfl, rfl⟩
    refine JL.mem rfl rfl (by apply OpM.buildSlice (by rfl) rfl (by rfl); (repeat (first | exact Fills.nil | (apply Fills.cons rfl rfl rfl; (case' hs => ((repeat (first | exact Spl.nil | apply Spl.here | apply Spl.there)); done)))))) ?_; rintro _ _ ⟨b87, rfl, rfl⟩
    refine JL.f1 ?_; refine JL.mem rfl rfl (OpM.appendH rfl (.inl ⟨_, Sl.und inferInstance⟩) (by rfl) rfl rfl (RdO.src (RdO.ofRow (.tail .head) (by first | exact Nat.le_refl _ | decide | omega)) (by first | assumption | exact fc_length _ _ | (simp; done) | (simp; omega))) (oneC rfl (oneC rfl (oneC rfl (oneC rfl (oneC rfl (oneC rfl (one1 rfl))))))) (by simp only [maxLen]; omega) (by omega)) ?_; rintro _ _ ⟨⟨a88, c88, rfl⟩, rfl⟩
    refine JL.pure rfl rfl (OpP.assign rfl) ?_
    refine JL.nil ?_
    refine J.seq ?_
    refine J.seq ?_
    refine J.region ?_
    refine JL.pure rfl rfl (OpP.assign rfl) ?_
    refine JL.nil ?_
    refine J.block ?_
    refine J.loopI (fun x : Nat × Value => r.ad.length - x.1) (fun x => x.1 ≤ r.ad.length) (fun x => [(7, .int .i64 (x.1 : Nat)), (5, x.2), (4, .pointer (some ⟨b4, 0, none⟩))])
      (fun x => own 31 7 x.2 (4 + r.du.length + 1 + x.1) (([pNum 0 r.err, pNum 1 r.num, pNum 0 r.ans, pNum 0 r.du.length] ++ r.du.map (fun s => pTxt 5 s) ++ [pNum 0 r.ad.length] ++ (r.ad.take x.1).map (fun s => pTxt 5 s)).flatMap pac) :: row b4 72 [.int .i64 r.ans, .slice r.da r.du.length r.dc, .slice r.aa r.ad.length r.ac] :: row b1 74 r.cells :: F) (0, .slice a88 (4 + r.du.length + 1) c88) (Nat.zero_le _) (by repeat (first | exact SubEnv.nil | refine SubEnv.cons (by first | rfl | exact congrArg (fun z => some (Value.int .i64 z)) (by omega) | (simp; done)) ?_)) (fun _ h => ?_) (fun ⟨j, u⟩ hi back => ?_)
    · dsimp only
      rw [List.take_zero, List.map_nil, List.append_nil, List.flatMap_append]
      exact Own.pick (pre := [_, _, _, _]) [0, 2, 3] rfl h
    dsimp only at hi back ⊢
    by_cases hlt : j < r.ad.length
    · obtain ⟨s, hs⟩ : ∃ e, r.ad[j]? = some e := ⟨_, List.getElem?_eq_getElem hlt⟩
      have hcell : (tcl r.ad)[j]? = some (.string (strB s)) := by rw [List.getElem?_map, hs]; rfl
      obtain ⟨ga, pa, qa, ea, ka, hcs⟩ := ha1.pos (by omega)
      rw [ea] at ha1 back ⊢
      refine J.lit .head fun au cu eu => ?_; subst eu
      refine J.seq ?_
      refine J.seq ?_
      refine J.region ?_
      refine JL.pure rfl rfl (OpP.move rfl) ?_
      refine JL.pure rfl rfl (OpP.fieldAddr rfl) ?_
      refine JL.read rfl rfl (OpR.load1 rfl (Cell.row (.tail .head) rfl)) ?_
      refine JL.pure rfl rfl (OpP.len rfl rfl) ?_
      refine JL.decT rfl rfl (OpP.lss rfl rfl) (by omega) ?_
      refine JL.nil ?_
      refine J.condT rfl ?_
      refine J.skip ?_
      refine J.seq ?_
      refine J.block ?_
      refine J.region ?_
      refine JL.pure rfl rfl (OpP.move rfl) ?_
      refine JL.pure rfl rfl (OpP.fieldAddr rfl) ?_
      refine JL.read rfl rfl (OpR.load1 rfl (Cell.row (.tail .head) rfl)) ?_
      refine JL.pure rfl rfl (OpP.move rfl) ?_
      refine JL.pure rfl rfl (OpP.indexAddr rfl rfl (by omega) (by omega)) ?_
      refine JL.read rfl rfl (OpR.load1 rfl (by apply Cells.cell hcs (fun _ h => Own.pick (pre := [_, _, _]) [] rfl h); (case' hv => assumption); (case' ho => omega); done)) ?_
      refine JL.step rfl rfl (OpW.call (first := []) (captured := []) inferInstance rfl rfl textOf_ok) ?_; rintro r102 _ ⟨rfl, rfl⟩
      refine JL.mem rfl rfl (by apply OpM.buildSlice (by rfl) rfl (by rfl); (repeat (first | exact Fills.nil | (apply Fills.cons rfl rfl rfl; (case' hs => ((repeat (first | exact Spl.nil | apply Spl.here | apply Spl.there)); done)))))) ?_; rintro _ _ ⟨b103, rfl, rfl⟩
      refine JL.f1 ?_; refine JL.mem rfl rfl (OpM.appendH rfl (.inl ⟨_, Sl.und inferInstance⟩) (by rfl) rfl rfl (RdO.src (RdO.ofRow (.tail .head) (by first | exact Nat.le_refl _ | decide | omega)) (by first | assumption | exact fc_length _ _ | (simp; done) | (simp; omega))) (oneC rfl (oneC rfl (oneC rfl (oneC rfl (oneC rfl (oneC rfl (one1 rfl))))))) (by simp only [maxLen]; omega) (by omega)) ?_; rintro _ _ ⟨⟨a104, c104, rfl⟩, rfl⟩
      refine JL.pure rfl rfl (OpP.assign rfl) ?_
      refine JL.nil ?_
      refine J.inBlock ?_
      refine J.region ?_
      refine JL.pure rfl rfl (OpP.move rfl) ?_
      refine JL.pure rfl rfl (OpP.addI rfl rfl (by omega) (by omega)) ?_
      refine JL.pure rfl rfl (OpP.assign rfl) ?_
      refine JL.nil ?_
      refine back (j + 1, .slice a104 (4 + r.du.length + 1 + j + 1) c104) (by dsimp only; omega) (by dsimp only; omega) (by repeat (first | exact SubEnv.nil | refine SubEnv.cons (by first | rfl | exact congrArg (fun z => some (Value.int .i64 z)) (by omega) | (simp; done)) ?_)) (fun _ h => ?_)
      dsimp only
      rw [← Nat.add_assoc, List.take_add_one, hs, Option.toList_some, List.map_append, ← List.append_assoc, List.flatMap_append]
      exact Own.pick (pre := [_, _, _, _]) [0, 2, 3] rfl h
    · obtain rfl : j = r.ad.length := by omega
      rw [List.take_length]
      have hpl : (repP r).length = 4 + r.du.length + 1 + r.ad.length := by simp only [repP, List.length_append, List.length_cons, List.length_nil, List.length_map]
      have hP : ∀ p ∈ repP r, (0 ≤ p.kd ∧ p.kd ≤ 255) ∧ (-9223372036854775808 ≤ p.n ∧ p.n ≤ 9223372036854775807) ∧ FewP p ∧ p.u = zVa := by
        intro p hp
        simp only [repP, List.mem_append, List.mem_cons, List.not_mem_nil, or_false, List.mem_map] at hp
        rcases hp with ((h | ⟨s, hs, rfl⟩) | rfl) | ⟨s, hs, rfl⟩
        · rcases h with rfl | rfl | rfl | rfl <;> exact ⟨by dsimp only; omega, by dsimp only; omega, ⟨Nat.zero_le _, few_zVa⟩, rfl⟩
        · exact ⟨by dsimp only; omega, by dsimp only; omega, ⟨hd s hs, few_zVa⟩, rfl⟩
        · exact ⟨by dsimp only; omega, by dsimp only; omega, ⟨Nat.zero_le _, few_zVa⟩, rfl⟩
        · exact ⟨by dsimp only; omega, by dsimp only; omega, ⟨ha s hs, few_zVa⟩, rfl⟩
      have pb := fun (a : Option Addr) (c : Nat) => all_ok (w0 := w0) (F := own 31 7 (.slice a (repP r).length c) (repP r).length ((repP r).flatMap pac) :: row b4 72 [.int .i64 r.ans, .slice r.da r.du.length r.dc, .slice r.aa r.ad.length r.ac] :: row b1 74 r.cells :: F) (a := a) (c := c) (ps := repP r) (by omega) (fun p hp => (hP p hp).1) (fun p hp => (hP p hp).2.1) (fun p hp => (hP p hp).2.2.1) (RdO.own .head) (fun p hp => by rw [(hP p hp).2.2.2]; exact rd_zVa)
      simp only [hpl, allF_rep] at pb
      refine J.lit .head fun au cu eu => ?_; subst eu
      refine J.seq ?_
      refine J.seq ?_
      refine J.region ?_
      refine JL.pure rfl rfl (OpP.move rfl) ?_
      refine JL.pure rfl rfl (OpP.fieldAddr rfl) ?_
      refine JL.read rfl rfl (OpR.load1 rfl (Cell.row (.tail .head) rfl)) ?_
      refine JL.pure rfl rfl (OpP.len rfl rfl) ?_
      refine JL.decF rfl rfl (OpP.lss rfl rfl) (by omega) ?_
      refine JL.nil ?_
      refine J.condF rfl ?_
      refine J.exit rfl ?_
      refine J.seq ?_
      refine J.region ?_
      refine JL.pure rfl rfl (OpP.move rfl) ?_
      refine JL.step rfl rfl (OpW.call (first := []) (captured := []) inferInstance rfl rfl (pb _ _)) ?_; rintro r107 _ (⟨bs, ⟨a, ⟨c, ⟨h107, ⟨h1071, ⟨rfl, rfl⟩⟩⟩⟩⟩⟩ | ⟨h1072, ⟨rfl, rfl⟩⟩)
      focus
        refine JL.pure rfl rfl (OpP.move rfl) ?_
        refine JL.pure rfl rfl (OpP.extract rfl rfl) ?_
        refine JL.pure rfl rfl (OpP.extract rfl rfl) ?_
        refine JL.pure rfl rfl (OpP.assign rfl) ?_
        refine JL.pure rfl rfl (OpP.assign rfl) ?_
        refine JL.nil ?_
        refine J.seq ?_
        refine J.seq ?_
        refine J.region ?_
        refine JL.pure rfl rfl (OpP.move rfl) ?_
        refine JL.pure rfl rfl (OpP.notB rfl) ?_
        refine JL.nil ?_
        refine J.condF rfl ?_
        refine J.skip ?_
        refine J.seq ?_
        refine J.region ?_
        refine JL.pure rfl rfl (OpP.move rfl) ?_
        refine JL.pure rfl rfl (OpP.assign rfl) ?_
        refine JL.pure rfl rfl (OpP.assign rfl) ?_
        refine JL.nil ?_
        refine J.ret2 rfl rfl rfl ?_
      rotate_left 1
      focus
        refine JL.pure rfl rfl (OpP.move rfl) ?_
        refine JL.pure rfl rfl (OpP.extract rfl rfl) ?_
        refine JL.pure rfl rfl (OpP.extract rfl rfl) ?_
        refine JL.pure rfl rfl (OpP.assign rfl) ?_
        refine JL.pure rfl rfl (OpP.assign rfl) ?_
        refine JL.nil ?_
        refine J.seq ?_
        refine J.seq ?_
        refine J.region ?_
        refine JL.pure rfl rfl (OpP.move rfl) ?_
        refine JL.pure rfl rfl (OpP.notB rfl) ?_
        refine JL.nil ?_
        refine J.condT rfl ?_
        refine J.seq ?_
        refine J.region ?_
        refine JL.pure rfl rfl (OpP.assign rfl) ?_
        refine JL.pure rfl rfl (OpP.assign rfl) ?_
        refine JL.nil ?_
        refine J.ret2 rfl rfl rfl ?_
      rotate_left 1
      · exact ⟨_, .inl ⟨bs, a, c, hok, by assumption, by assumption, rfl, rfl⟩, fun _ h => Own.pick (pre := [_, _, _, _]) [0] rfl h⟩
      · exact ⟨_, .inr (.inl ⟨hok, by assumption, rfl, rfl⟩), fun _ h => Own.pick (pre := [_, _, _]) [] rfl h⟩
end Go.Proofs.E

-- seat e
namespace Go.Proofs.E
open Go Go.Gp Go.RowKit

theorem Rp.Rd.sub {w0 : World} {F : List HProp} {A : HProp} {r : Rp} (h : r.Rd w0 F) : r.Rd w0 (A :: F) := ⟨h.dn, h.an, h.dr.sub, h.ar.sub⟩
/-- Are two lists of texts the same? -/
theorem sameTexts_ok {w0 : World} {F : List HProp} {ts us : List (List UInt8)} {a a2 : Option Addr} {c c2 : Nat} (hn : ts.length ≤ 9223372036854775807) (hm : us.length ≤ 9223372036854775807) (hr : RdO w0 F (.slice a ts.length c) ts.length (tcl ts)) (hr2 : RdO w0 F (.slice a2 us.length c2) us.length (tcl us)) :
    FnO Try.prog w0 95 [.slice a ts.length c, .slice a2 us.length c2] F (fun r l' => ∃ b, r = .bool b ∧ l' = F ∧ (b = true ↔ ts = us)) := by
  refine FnO.rdF (fun _ h => h) hr fun hd1 => ?_
  refine FnO.rdF (fun _ h => h) hr2 fun hd2 => ?_
  refine FnO.intro (n := 26) Try.func95 rfl rfl rfl ?_
  refine J.seq ?_
  refine J.region ?_
  refine JL.pure rfl rfl (OpP.assign rfl) ?_
  refine JL.nil ?_
  refine J.seq ?_
  refine J.seq ?_
  refine J.region ?_
  refine JL.pure rfl rfl (OpP.move rfl) ?_
  refine JL.pure rfl rfl (OpP.len rfl rfl) ?_
  refine JL.pure rfl rfl (OpP.move rfl) ?_
  refine JL.pure rfl rfl (OpP.len rfl rfl) ?_
  refine JL.dec rfl rfl (OpP.neq rfl rfl) (fun h10 => ?_) (fun h10 => ?_)
  focus
    refine JL.nil ?_
    refine J.condT rfl ?_
    refine J.seq ?_
    refine J.region ?_
    refine JL.pure rfl rfl (OpP.assign rfl) ?_
    refine JL.nil ?_
    refine J.ret1 rfl rfl ?_
  rotate_left 1
  focus
    refine JL.nil ?_
    refine J.condF rfl ?_
    refine J.skip ?_
    refine J.seq ?_
    refine J.seq ?_
    refine J.region ?_
    refine JL.pure rfl rfl (OpP.assign rfl) ?_
    refine JL.nil ?_
    refine J.block ?_
  rotate_left 1
  · exact ⟨_, rfl, rfl, (fun q => by cases q), fun q => absurd (congrArg List.length q) (by omega)⟩
  refine J.loopI (fun j : Nat => ts.length - j) (fun j => j ≤ ts.length ∧ ts.take j = us.take j) (fun j => [(5, .int .i64 (j : Nat)), (0, .slice a ts.length c), (1, .slice a2 us.length c2)])
    (fun _ => F) 0 ⟨Nat.zero_le _, rfl⟩ (by repeat (first | exact SubEnv.nil | refine SubEnv.cons (by first | rfl | exact congrArg (fun z => some (Value.int .i64 z)) (by omega) | (simp; done)) ?_)) (fun _ h => h) (fun j hi back => ?_)
  dsimp only at hi back ⊢
  obtain ⟨hj, hg⟩ := hi
  by_cases hlt : j < ts.length
  · obtain ⟨s, hs⟩ : ∃ e, ts[j]? = some e := ⟨_, List.getElem?_eq_getElem hlt⟩
    obtain ⟨u, hu⟩ : ∃ e, us[j]? = some e := ⟨_, List.getElem?_eq_getElem (show j < us.length by omega)⟩
    have hc1 : (tcl ts)[j]? = some (.string (strB s)) := by rw [List.getElem?_map, hs]; rfl
    have hc2 : (tcl us)[j]? = some (.string (strB u)) := by rw [List.getElem?_map, hu]; rfl
    obtain ⟨ga, pa, qa, ea, ka, hcs⟩ := hd1.pos (by omega)
    cases ea
    obtain ⟨gb, pb, qb, eb, kb, hcs2⟩ := hd2.pos (by omega)
    cases eb
    refine J.seq ?_
    refine J.seq ?_
    refine J.region ?_
    refine JL.pure rfl rfl (OpP.move rfl) ?_
    refine JL.pure rfl rfl (OpP.move rfl) ?_
    refine JL.pure rfl rfl (OpP.len rfl rfl) ?_
    refine JL.decT rfl rfl (OpP.lss rfl rfl) (by omega) ?_
    refine JL.nil ?_
    refine J.condT rfl ?_
    refine J.skip ?_
    refine J.seq ?_
    refine J.block ?_
    refine J.seq ?_
    refine J.regionD [3, 7] (by kernel_rfl) ?_
    refine DL.pure (i := 0) (by kernel_rfl) (by kernel_rfl) rfl rfl rfl (OpP.move rfl) ?_
    refine DL.pure (i := 1) (by kernel_rfl) (by kernel_rfl) rfl rfl rfl (OpP.move rfl) ?_
    refine DL.pure (i := 2) (by kernel_rfl) (by kernel_rfl) rfl rfl rfl (OpP.indexAddr rfl rfl (by omega) (by omega)) ?_
    refine DL.read (i := 3) (by kernel_rfl) (by kernel_rfl) rfl rfl rfl (fun _ h => h) (OpR.load1 rfl (by apply Cells.cell hcs (fun _ h => h); (case' hv => assumption); (case' ho => omega); done)) ?_
    refine DL.pure (i := 4) (by kernel_rfl) (by kernel_rfl) rfl rfl rfl (OpP.move rfl) ?_
    refine DL.pure (i := 5) (by kernel_rfl) (by kernel_rfl) rfl rfl rfl (OpP.move rfl) ?_
    refine DL.pure (i := 6) (by kernel_rfl) (by kernel_rfl) rfl rfl rfl (OpP.indexAddr rfl rfl (by omega) (by omega)) ?_
    refine DL.read (i := 7) (by kernel_rfl) (by kernel_rfl) rfl rfl rfl (fun _ h => h) (OpR.load1 rfl (by apply Cells.cell hcs2 (fun _ h => h); (case' hv => assumption); (case' ho => omega); done)) ?_
    refine DL.dec (i := 8) (by kernel_rfl) (by kernel_rfl) rfl rfl rfl (OpP.neStr rfl rfl) (fun h25 => ?_) (fun h25 => ?_)
    focus
      refine DL.done (by kernel_rfl) ?_
      refine J.condT rfl ?_
      refine J.seq ?_
      refine J.region ?_
      refine JL.pure rfl rfl (OpP.assign rfl) ?_
      refine JL.nil ?_
      refine J.ret1 rfl rfl ?_
    rotate_left 1
    focus
      refine DL.done (by kernel_rfl) ?_
      refine J.condF rfl ?_
      refine J.skip ?_
      refine J.inBlock ?_
      refine J.region ?_
      refine JL.pure rfl rfl (OpP.move rfl) ?_
      refine JL.pure rfl rfl (OpP.addI rfl rfl (by omega) (by omega)) ?_
      refine JL.pure rfl rfl (OpP.assign rfl) ?_
      refine JL.nil ?_
    rotate_left 1
    · exact ⟨_, rfl, rfl, (fun q => by cases q), fun q => by rw [q, hu] at hs; exact absurd (congrArg strB (Option.some.inj hs)).symm h25⟩
    · refine back (j + 1) ⟨by omega, ?_⟩ (by omega) (by repeat (first | exact SubEnv.nil | refine SubEnv.cons (by first | rfl | exact congrArg (fun z => some (Value.int .i64 z)) (by omega) | (simp; done)) ?_)) (fun _ h => h)
      rw [List.take_add_one, List.take_add_one, hg, hs, hu, strB_inj.1 (Decidable.not_not.1 h25)]
  · refine J.seq ?_
    refine J.seq ?_
    refine J.region ?_
    refine JL.pure rfl rfl (OpP.move rfl) ?_
    refine JL.pure rfl rfl (OpP.move rfl) ?_
    refine JL.pure rfl rfl (OpP.len rfl rfl) ?_
    refine JL.decF rfl rfl (OpP.lss rfl rfl) (by omega) ?_
    refine JL.nil ?_
    refine J.condF rfl ?_
    refine J.exit rfl ?_
    refine J.seq ?_
    refine J.region ?_
    refine JL.pure rfl rfl (OpP.assign rfl) ?_
    refine JL.nil ?_
    refine J.ret1 rfl rfl ?_
    refine ⟨_, rfl, rfl, fun _ => ?_, fun _ => rfl⟩
    rw [List.take_of_length_le (by omega), List.take_of_length_le (by omega)] at hg
    exact hg
/-- Are the texts of a decision few and short enough? -/
theorem fewTexts_ok {w0 : World} {F : List HProp} {n : Int} {ts us : List (List UInt8)} {a a2 : Option Addr} {c c2 : Nat} (hn : ts.length ≤ 9223372036854775807) (hm : us.length ≤ 9223372036854775807) (hr : RdO w0 F (.slice a ts.length c) ts.length (tcl ts)) (hr2 : RdO w0 F (.slice a2 us.length c2) us.length (tcl us)) :
    FnO Try.prog w0 41 [.agg #[.int .i64 n, .slice a ts.length c, .slice a2 us.length c2]] F (fun r l' => ∃ b, r = .bool b ∧ l' = F ∧ (b = true → (∀ s ∈ ts, s.length ≤ 5000) ∧ ∀ s ∈ us, s.length ≤ 5000)) := by
  refine FnO.rdF (fun _ h => h) hr fun hd1 => ?_
  refine FnO.rdF (fun _ h => h) hr2 fun hd2 => ?_
  refine FnO.weak ?_
  refine FnO.intro (n := 51) Try.func41 rfl rfl rfl ?_
  refine J.seq ?_
  refine J.region ?_
  refine JL.mem rfl rfl (OpM.box rfl rfl) ?_; rintro _ _ ⟨b1, rfl, rfl⟩
  refine JL.pure rfl rfl (OpP.assign rfl) ?_
  refine JL.nil ?_
  refine J.seq ?_
  refine J.seq ?_
  refine J.region ?_
  refine JL.pure rfl rfl (OpP.assign rfl) ?_
  refine JL.nil ?_
  refine J.block ?_
  refine J.loopI (fun j : Nat => ts.length - j) (fun j => j ≤ ts.length ∧ j ≤ 300 ∧ ∀ (m : Nat) (s : List UInt8), m < j → ts[m]? = some s → s.length ≤ 5000) (fun j => [(3, .int .i64 (j : Nat)), (1, .pointer (some ⟨b1, 0, none⟩))])
    (fun _ => row b1 72 [.int .i64 n, .slice a ts.length c, .slice a2 us.length c2] :: F) 0 ⟨Nat.zero_le _, Nat.zero_le _, fun _ _ h => absurd h (Nat.not_lt_zero _)⟩ (by repeat (first | exact SubEnv.nil | refine SubEnv.cons (by first | rfl | exact congrArg (fun z => some (Value.int .i64 z)) (by omega) | (simp; done)) ?_)) (fun _ h => h) (fun j hi back => ?_)
  dsimp only at hi back ⊢
  obtain ⟨hj, hj3, hg⟩ := hi
  by_cases hlt : j < ts.length ∧ j < 300
  · obtain ⟨s, hs⟩ : ∃ e, ts[j]? = some e := ⟨_, List.getElem?_eq_getElem hlt.1⟩
    have hc1 : (tcl ts)[j]? = some (.string (strB s)) := by rw [List.getElem?_map, hs]; rfl
    have es := strB_size s
    have hlt1 := hlt.1
    have hlt2 := hlt.2
    obtain ⟨ga, pa, qa, ea, ka, hcs⟩ := hd1.pos (by omega)
    cases ea
    refine J.seq ?_
    refine J.seq ?_
    refine J.region ?_
    refine JL.pure rfl rfl (OpP.move rfl) ?_
    refine JL.pure rfl rfl (OpP.fieldAddr rfl) ?_
    refine JL.read rfl rfl (OpR.load1 rfl (Cell.row .head rfl)) ?_
    refine JL.pure rfl rfl (OpP.len rfl rfl) ?_
    refine JL.decT rfl rfl (OpP.lss rfl rfl) (by omega) ?_
    refine JL.pure rfl rfl (OpP.move rfl) ?_
    refine JL.pure rfl rfl (OpP.move rfl) ?_
    refine JL.decT rfl rfl (OpP.lss rfl rfl) (by omega) ?_
    refine JL.pure rfl rfl (OpP.pickT rfl rfl) ?_
    refine JL.nil ?_
    refine J.condT rfl ?_
    refine J.skip ?_
    refine J.seq ?_
    refine J.block ?_
    refine J.seq ?_
    refine J.region ?_
    refine JL.pure rfl rfl (OpP.fieldAddr rfl) ?_
    refine JL.read rfl rfl (OpR.load1 rfl (Cell.row .head rfl)) ?_
    refine JL.pure rfl rfl (OpP.move rfl) ?_
    refine JL.pure rfl rfl (OpP.indexAddr rfl rfl (by omega) (by omega)) ?_
    refine JL.read rfl rfl (OpR.load1 rfl (by apply Cells.cell hcs (fun _ h => Own.pick (pre := [_]) [] rfl h); (case' hv => assumption); (case' ho => omega); done)) ?_
    refine JL.pure rfl rfl (OpP.lenStr rfl rfl) ?_
    refine JL.dec rfl rfl (OpP.gtr rfl rfl) (fun h22 => ?_) (fun h22 => ?_)
    focus
      refine JL.nil ?_
      refine J.condT rfl ?_
      refine J.seq ?_
      refine J.region ?_
      refine JL.pure rfl rfl (OpP.assign rfl) ?_
      refine JL.nil ?_
      refine J.ret1 rfl rfl ?_
    rotate_left 1
    focus
      refine JL.nil ?_
      refine J.condF rfl ?_
      refine J.skip ?_
      refine J.inBlock ?_
      refine J.region ?_
      refine JL.pure rfl rfl (OpP.move rfl) ?_
      refine JL.pure rfl rfl (OpP.addI rfl rfl (by omega) (by omega)) ?_
      refine JL.pure rfl rfl (OpP.assign rfl) ?_
      refine JL.nil ?_
    rotate_left 1
    · exact ⟨_, ⟨_, rfl, rfl, fun q => by cases q⟩, fun _ h => h.tail⟩
    · refine back (j + 1) ⟨by omega, by omega, fun m s' hm hs' => ?_⟩ (by omega) (by repeat (first | exact SubEnv.nil | refine SubEnv.cons (by first | rfl | exact congrArg (fun z => some (Value.int .i64 z)) (by omega) | (simp; done)) ?_)) (fun _ h => h)
      by_cases hmj : m < j
      · exact hg m s' hmj hs'
      · obtain rfl : m = j := by omega
        obtain rfl : s' = s := Option.some.inj (hs'.symm.trans hs)
        omega
  by_cases hlt2 : j < ts.length
  · refine J.seq ?_
    refine J.seq ?_
    refine J.region ?_
    refine JL.pure rfl rfl (OpP.move rfl) ?_
    refine JL.pure rfl rfl (OpP.fieldAddr rfl) ?_
    refine JL.read rfl rfl (OpR.load1 rfl (Cell.row .head rfl)) ?_
    refine JL.pure rfl rfl (OpP.len rfl rfl) ?_
    refine JL.decT rfl rfl (OpP.lss rfl rfl) (by omega) ?_
    refine JL.pure rfl rfl (OpP.move rfl) ?_
    refine JL.pure rfl rfl (OpP.move rfl) ?_
    refine JL.decF rfl rfl (OpP.lss rfl rfl) (by omega) ?_
    refine JL.pure rfl rfl (OpP.pickT rfl rfl) ?_
    refine JL.nil ?_
    refine J.condF rfl ?_
    refine J.exit rfl ?_
    refine J.seq ?_
    refine J.seq ?_
    refine J.region ?_
    refine JL.pure rfl rfl (OpP.assign rfl) ?_
    refine JL.nil ?_
    refine J.block ?_
    refine J.loopI (fun j : Nat => us.length - j) (fun j => j ≤ us.length ∧ j ≤ 300 ∧ ∀ (m : Nat) (s : List UInt8), m < j → us[m]? = some s → s.length ≤ 5000) (fun j => [(4, .int .i64 (j : Nat)), (1, .pointer (some ⟨b1, 0, none⟩))])
      (fun _ => row b1 72 [.int .i64 n, .slice a ts.length c, .slice a2 us.length c2] :: F) 0 ⟨Nat.zero_le _, Nat.zero_le _, fun _ _ h => absurd h (Nat.not_lt_zero _)⟩ (by repeat (first | exact SubEnv.nil | refine SubEnv.cons (by first | rfl | exact congrArg (fun z => some (Value.int .i64 z)) (by omega) | (simp; done)) ?_)) (fun _ h => h) (fun j' hi back => ?_)
    dsimp only at hi back ⊢
    obtain ⟨hj', hj3', hg'⟩ := hi
    by_cases hlt' : j' < us.length ∧ j' < 300
    · obtain ⟨s, hs⟩ : ∃ e, us[j']? = some e := ⟨_, List.getElem?_eq_getElem hlt'.1⟩
      have hc1 : (tcl us)[j']? = some (.string (strB s)) := by rw [List.getElem?_map, hs]; rfl
      have es := strB_size s
      have hlt1 := hlt'.1
      have hlt2 := hlt'.2
      obtain ⟨ga, pa, qa, ea, ka, hcs⟩ := hd2.pos (by omega)
      cases ea
      refine J.seq ?_
      refine J.seq ?_
      refine J.region ?_
      refine JL.pure rfl rfl (OpP.move rfl) ?_
      refine JL.pure rfl rfl (OpP.fieldAddr rfl) ?_
      refine JL.read rfl rfl (OpR.load1 rfl (Cell.row .head rfl)) ?_
      refine JL.pure rfl rfl (OpP.len rfl rfl) ?_
      refine JL.decT rfl rfl (OpP.lss rfl rfl) (by omega) ?_
      refine JL.pure rfl rfl (OpP.move rfl) ?_
      refine JL.pure rfl rfl (OpP.move rfl) ?_
      refine JL.decT rfl rfl (OpP.lss rfl rfl) (by omega) ?_
      refine JL.pure rfl rfl (OpP.pickT rfl rfl) ?_
      refine JL.nil ?_
      refine J.condT rfl ?_
      refine J.skip ?_
      refine J.seq ?_
      refine J.block ?_
      refine J.seq ?_
      refine J.region ?_
      refine JL.pure rfl rfl (OpP.fieldAddr rfl) ?_
      refine JL.read rfl rfl (OpR.load1 rfl (Cell.row .head rfl)) ?_
      refine JL.pure rfl rfl (OpP.move rfl) ?_
      refine JL.pure rfl rfl (OpP.indexAddr rfl rfl (by omega) (by omega)) ?_
      refine JL.read rfl rfl (OpR.load1 rfl (by apply Cells.cell hcs (fun _ h => Own.pick (pre := [_]) [] rfl h); (case' hv => assumption); (case' ho => omega); done)) ?_
      refine JL.pure rfl rfl (OpP.lenStr rfl rfl) ?_
      refine JL.dec rfl rfl (OpP.gtr rfl rfl) (fun h40 => ?_) (fun h40 => ?_)
      focus
        refine JL.nil ?_
        refine J.condT rfl ?_
        refine J.seq ?_
        refine J.region ?_
        refine JL.pure rfl rfl (OpP.assign rfl) ?_
        refine JL.nil ?_
        refine J.ret1 rfl rfl ?_
      rotate_left 1
      focus
        refine JL.nil ?_
        refine J.condF rfl ?_
        refine J.skip ?_
        refine J.inBlock ?_
        refine J.region ?_
        refine JL.pure rfl rfl (OpP.move rfl) ?_
        refine JL.pure rfl rfl (OpP.addI rfl rfl (by omega) (by omega)) ?_
        refine JL.pure rfl rfl (OpP.assign rfl) ?_
        refine JL.nil ?_
      rotate_left 1
      · exact ⟨_, ⟨_, rfl, rfl, fun q => by cases q⟩, fun _ h => h.tail⟩
      · refine back (j' + 1) ⟨by omega, by omega, fun m s' hm hs' => ?_⟩ (by omega) (by repeat (first | exact SubEnv.nil | refine SubEnv.cons (by first | rfl | exact congrArg (fun z => some (Value.int .i64 z)) (by omega) | (simp; done)) ?_)) (fun _ h => h)
        by_cases hmj : m < j'
        · exact hg' m s' hmj hs'
        · obtain rfl : m = j' := by omega
          obtain rfl : s' = s := Option.some.inj (hs'.symm.trans hs)
          omega
    · refine J.seq ?_
      refine J.seq ?_
      refine J.region ?_
      refine JL.pure rfl rfl (OpP.move rfl) ?_
      refine JL.pure rfl rfl (OpP.fieldAddr rfl) ?_
      refine JL.read rfl rfl (OpR.load1 rfl (Cell.row .head rfl)) ?_
      refine JL.pure rfl rfl (OpP.len rfl rfl) ?_
      refine JL.dec rfl rfl (OpP.lss rfl rfl) (fun h27 => ?_) (fun h27 => ?_)
      focus
        refine JL.pure rfl rfl (OpP.move rfl) ?_
        refine JL.pure rfl rfl (OpP.move rfl) ?_
        refine JL.decF rfl rfl (OpP.lss rfl rfl) (by omega) ?_
        refine JL.pure rfl rfl (OpP.pickT rfl rfl) ?_
        refine JL.nil ?_
        refine J.condF rfl ?_
        refine J.exit rfl ?_
        refine J.seq ?_
        refine J.region ?_
        refine JL.pure rfl rfl (OpP.fieldAddr rfl) ?_
        refine JL.read rfl rfl (OpR.load1 rfl (Cell.row .head rfl)) ?_
        refine JL.pure rfl rfl (OpP.len rfl rfl) ?_
        refine JL.decF rfl rfl (OpP.leq rfl rfl) (by omega) ?_
        refine JL.pure rfl rfl (OpP.move rfl) ?_
        refine JL.skip rfl rfl ?_
        refine JL.skip rfl rfl ?_
        refine JL.skip rfl rfl ?_
        refine JL.skip rfl rfl ?_
        refine JL.pure rfl rfl (OpP.pickF rfl rfl) ?_
        refine JL.pure rfl rfl (OpP.assign rfl) ?_
        refine JL.nil ?_
        refine J.ret1 rfl rfl ?_
      rotate_left 1
      focus
        refine JL.pure rfl rfl (OpP.move rfl) ?_
        refine JL.skip rfl rfl ?_
        refine JL.skip rfl rfl ?_
        refine JL.pure rfl rfl (OpP.pickF rfl rfl) ?_
        refine JL.nil ?_
        refine J.condF rfl ?_
        refine J.exit rfl ?_
        refine J.seq ?_
        refine J.region ?_
        refine JL.pure rfl rfl (OpP.fieldAddr rfl) ?_
        refine JL.read rfl rfl (OpR.load1 rfl (Cell.row .head rfl)) ?_
        refine JL.pure rfl rfl (OpP.len rfl rfl) ?_
        refine JL.decF rfl rfl (OpP.leq rfl rfl) (by omega) ?_
        refine JL.pure rfl rfl (OpP.move rfl) ?_
        refine JL.skip rfl rfl ?_
        refine JL.skip rfl rfl ?_
        refine JL.skip rfl rfl ?_
        refine JL.skip rfl rfl ?_
        refine JL.pure rfl rfl (OpP.pickF rfl rfl) ?_
        refine JL.pure rfl rfl (OpP.assign rfl) ?_
        refine JL.nil ?_
        refine J.ret1 rfl rfl ?_
      rotate_left 1
      all_goals first
        | exact ⟨_, ⟨_, rfl, rfl, fun q => absurd q Bool.false_ne_true⟩, fun _ h => h.tail⟩
        | exact ⟨_, ⟨_, rfl, rfl, fun _ => ⟨fun s hs => by obtain ⟨m, hm'⟩ := List.getElem?_of_mem hs; exact hg m s (by have := (List.getElem?_eq_some_iff.1 hm').1; omega) hm', fun s hs => by obtain ⟨m, hm'⟩ := List.getElem?_of_mem hs; exact hg' m s (by have := (List.getElem?_eq_some_iff.1 hm').1; omega) hm'⟩⟩, fun _ h => h.tail⟩
  · refine J.seq ?_
    refine J.seq ?_
    refine J.region ?_
    refine JL.pure rfl rfl (OpP.move rfl) ?_
    refine JL.pure rfl rfl (OpP.fieldAddr rfl) ?_
    refine JL.read rfl rfl (OpR.load1 rfl (Cell.row .head rfl)) ?_
    refine JL.pure rfl rfl (OpP.len rfl rfl) ?_
    refine JL.decF rfl rfl (OpP.lss rfl rfl) (by omega) ?_
    refine JL.pure rfl rfl (OpP.move rfl) ?_
    refine JL.skip rfl rfl ?_
    refine JL.skip rfl rfl ?_
    refine JL.pure rfl rfl (OpP.pickF rfl rfl) ?_
    refine JL.nil ?_
    refine J.condF rfl ?_
    refine J.exit rfl ?_
    refine J.seq ?_
    refine J.seq ?_
    refine J.region ?_
    refine JL.pure rfl rfl (OpP.assign rfl) ?_
    refine JL.nil ?_
    refine J.block ?_
    refine J.loopI (fun j : Nat => us.length - j) (fun j => j ≤ us.length ∧ j ≤ 300 ∧ ∀ (m : Nat) (s : List UInt8), m < j → us[m]? = some s → s.length ≤ 5000) (fun j => [(4, .int .i64 (j : Nat)), (1, .pointer (some ⟨b1, 0, none⟩))])
      (fun _ => row b1 72 [.int .i64 n, .slice a ts.length c, .slice a2 us.length c2] :: F) 0 ⟨Nat.zero_le _, Nat.zero_le _, fun _ _ h => absurd h (Nat.not_lt_zero _)⟩ (by repeat (first | exact SubEnv.nil | refine SubEnv.cons (by first | rfl | exact congrArg (fun z => some (Value.int .i64 z)) (by omega) | (simp; done)) ?_)) (fun _ h => h) (fun j' hi back => ?_)
    dsimp only at hi back ⊢
    obtain ⟨hj', hj3', hg'⟩ := hi
    by_cases hlt' : j' < us.length ∧ j' < 300
    · obtain ⟨s, hs⟩ : ∃ e, us[j']? = some e := ⟨_, List.getElem?_eq_getElem hlt'.1⟩
      have hc1 : (tcl us)[j']? = some (.string (strB s)) := by rw [List.getElem?_map, hs]; rfl
      have es := strB_size s
      have hlt1 := hlt'.1
      have hlt2 := hlt'.2
      obtain ⟨ga, pa, qa, ea, ka, hcs⟩ := hd2.pos (by omega)
      cases ea
      refine J.seq ?_
      refine J.seq ?_
      refine J.region ?_
      refine JL.pure rfl rfl (OpP.move rfl) ?_
      refine JL.pure rfl rfl (OpP.fieldAddr rfl) ?_
      refine JL.read rfl rfl (OpR.load1 rfl (Cell.row .head rfl)) ?_
      refine JL.pure rfl rfl (OpP.len rfl rfl) ?_
      refine JL.decT rfl rfl (OpP.lss rfl rfl) (by omega) ?_
      refine JL.pure rfl rfl (OpP.move rfl) ?_
      refine JL.pure rfl rfl (OpP.move rfl) ?_
      refine JL.decT rfl rfl (OpP.lss rfl rfl) (by omega) ?_
      refine JL.pure rfl rfl (OpP.pickT rfl rfl) ?_
      refine JL.nil ?_
      refine J.condT rfl ?_
      refine J.skip ?_
      refine J.seq ?_
      refine J.block ?_
      refine J.seq ?_
      refine J.region ?_
      refine JL.pure rfl rfl (OpP.fieldAddr rfl) ?_
      refine JL.read rfl rfl (OpR.load1 rfl (Cell.row .head rfl)) ?_
      refine JL.pure rfl rfl (OpP.move rfl) ?_
      refine JL.pure rfl rfl (OpP.indexAddr rfl rfl (by omega) (by omega)) ?_
      refine JL.read rfl rfl (OpR.load1 rfl (by apply Cells.cell hcs (fun _ h => Own.pick (pre := [_]) [] rfl h); (case' hv => assumption); (case' ho => omega); done)) ?_
      refine JL.pure rfl rfl (OpP.lenStr rfl rfl) ?_
      refine JL.dec rfl rfl (OpP.gtr rfl rfl) (fun h40 => ?_) (fun h40 => ?_)
      focus
        refine JL.nil ?_
        refine J.condT rfl ?_
        refine J.seq ?_
        refine J.region ?_
        refine JL.pure rfl rfl (OpP.assign rfl) ?_
        refine JL.nil ?_
        refine J.ret1 rfl rfl ?_
      rotate_left 1
      focus
        refine JL.nil ?_
        refine J.condF rfl ?_
        refine J.skip ?_
        refine J.inBlock ?_
        refine J.region ?_
        refine JL.pure rfl rfl (OpP.move rfl) ?_
        refine JL.pure rfl rfl (OpP.addI rfl rfl (by omega) (by omega)) ?_
        refine JL.pure rfl rfl (OpP.assign rfl) ?_
        refine JL.nil ?_
      rotate_left 1
      · exact ⟨_, ⟨_, rfl, rfl, fun q => by cases q⟩, fun _ h => h.tail⟩
      · refine back (j' + 1) ⟨by omega, by omega, fun m s' hm hs' => ?_⟩ (by omega) (by repeat (first | exact SubEnv.nil | refine SubEnv.cons (by first | rfl | exact congrArg (fun z => some (Value.int .i64 z)) (by omega) | (simp; done)) ?_)) (fun _ h => h)
        by_cases hmj : m < j'
        · exact hg' m s' hmj hs'
        · obtain rfl : m = j' := by omega
          obtain rfl : s' = s := Option.some.inj (hs'.symm.trans hs)
          omega
    · refine J.seq ?_
      refine J.seq ?_
      refine J.region ?_
      refine JL.pure rfl rfl (OpP.move rfl) ?_
      refine JL.pure rfl rfl (OpP.fieldAddr rfl) ?_
      refine JL.read rfl rfl (OpR.load1 rfl (Cell.row .head rfl)) ?_
      refine JL.pure rfl rfl (OpP.len rfl rfl) ?_
      refine JL.dec rfl rfl (OpP.lss rfl rfl) (fun h27 => ?_) (fun h27 => ?_)
      focus
        refine JL.pure rfl rfl (OpP.move rfl) ?_
        refine JL.pure rfl rfl (OpP.move rfl) ?_
        refine JL.decF rfl rfl (OpP.lss rfl rfl) (by omega) ?_
        refine JL.pure rfl rfl (OpP.pickT rfl rfl) ?_
        refine JL.nil ?_
        refine J.condF rfl ?_
        refine J.exit rfl ?_
        refine J.seq ?_
        refine J.region ?_
        refine JL.pure rfl rfl (OpP.fieldAddr rfl) ?_
        refine JL.read rfl rfl (OpR.load1 rfl (Cell.row .head rfl)) ?_
        refine JL.pure rfl rfl (OpP.len rfl rfl) ?_
        refine JL.dec rfl rfl (OpP.leq rfl rfl) (fun h44 => ?_) (fun h44 => ?_)
        focus
          refine JL.pure rfl rfl (OpP.move rfl) ?_
          refine JL.pure rfl rfl (OpP.fieldAddr rfl) ?_
          refine JL.read rfl rfl (OpR.load1 rfl (Cell.row .head rfl)) ?_
          refine JL.pure rfl rfl (OpP.len rfl rfl) ?_
          refine JL.decF rfl rfl (OpP.leq rfl rfl) (by omega) ?_
          refine JL.pure rfl rfl (OpP.pickT rfl rfl) ?_
          refine JL.pure rfl rfl (OpP.assign rfl) ?_
          refine JL.nil ?_
          refine J.ret1 rfl rfl ?_
        rotate_left 1
        focus
          refine JL.pure rfl rfl (OpP.move rfl) ?_
          refine JL.skip rfl rfl ?_
          refine JL.skip rfl rfl ?_
          refine JL.skip rfl rfl ?_
          refine JL.skip rfl rfl ?_
          refine JL.pure rfl rfl (OpP.pickF rfl rfl) ?_
          refine JL.pure rfl rfl (OpP.assign rfl) ?_
          refine JL.nil ?_
          refine J.ret1 rfl rfl ?_
        rotate_left 1
      rotate_left 2
      focus
        refine JL.pure rfl rfl (OpP.move rfl) ?_
        refine JL.skip rfl rfl ?_
        refine JL.skip rfl rfl ?_
        refine JL.pure rfl rfl (OpP.pickF rfl rfl) ?_
        refine JL.nil ?_
        refine J.condF rfl ?_
        refine J.exit rfl ?_
        refine J.seq ?_
        refine J.region ?_
        refine JL.pure rfl rfl (OpP.fieldAddr rfl) ?_
        refine JL.read rfl rfl (OpR.load1 rfl (Cell.row .head rfl)) ?_
        refine JL.pure rfl rfl (OpP.len rfl rfl) ?_
        refine JL.dec rfl rfl (OpP.leq rfl rfl) (fun h44 => ?_) (fun h44 => ?_)
        focus
          refine JL.pure rfl rfl (OpP.move rfl) ?_
          refine JL.pure rfl rfl (OpP.fieldAddr rfl) ?_
          refine JL.read rfl rfl (OpR.load1 rfl (Cell.row .head rfl)) ?_
          refine JL.pure rfl rfl (OpP.len rfl rfl) ?_
          refine JL.dec rfl rfl (OpP.leq rfl rfl) (fun h49 => ?_) (fun h49 => ?_)
          focus
            refine JL.pure rfl rfl (OpP.pickT rfl rfl) ?_
            refine JL.pure rfl rfl (OpP.assign rfl) ?_
            refine JL.nil ?_
            refine J.ret1 rfl rfl ?_
          rotate_left 1
          focus
            refine JL.pure rfl rfl (OpP.pickT rfl rfl) ?_
            refine JL.pure rfl rfl (OpP.assign rfl) ?_
            refine JL.nil ?_
            refine J.ret1 rfl rfl ?_
          rotate_left 1
        rotate_left 2
        focus
          refine JL.pure rfl rfl (OpP.move rfl) ?_
          refine JL.skip rfl rfl ?_
          refine JL.skip rfl rfl ?_
          refine JL.skip rfl rfl ?_
          refine JL.skip rfl rfl ?_
          refine JL.pure rfl rfl (OpP.pickF rfl rfl) ?_
          refine JL.pure rfl rfl (OpP.assign rfl) ?_
          refine JL.nil ?_
          refine J.ret1 rfl rfl ?_
        rotate_left 1
      rotate_left 3
      all_goals first
        | exact ⟨_, ⟨_, rfl, rfl, fun q => absurd q Bool.false_ne_true⟩, fun _ h => h.tail⟩
        | exact ⟨_, ⟨_, rfl, rfl, fun _ => ⟨fun s hs => by obtain ⟨m, hm'⟩ := List.getElem?_of_mem hs; exact hg m s (by have := (List.getElem?_eq_some_iff.1 hm').1; omega) hm', fun s hs => by obtain ⟨m, hm'⟩ := List.getElem?_of_mem hs; exact hg' m s (by have := (List.getElem?_eq_some_iff.1 hm').1; omega) hm'⟩⟩, fun _ h => h.tail⟩
def Rp.Same (r q : Rp) : Prop := r.err = q.err ∧ r.num = q.num ∧ r.ans = q.ans ∧ r.du = q.du ∧ r.ad = q.ad
theorem sameDec_ok {w0 : World} {F : List HProp} {r q : Rp} (hR : r.Rd w0 F) (hQ : q.Rd w0 F) :
    FnO Try.prog w0 78 [.agg #[.int .i64 r.ans, .slice r.da r.du.length r.dc, .slice r.aa r.ad.length r.ac], .agg #[.int .i64 q.ans, .slice q.da q.du.length q.dc, .slice q.aa q.ad.length q.ac]] F (fun v l' => ∃ b, v = .bool b ∧ l' = F ∧ (b = true ↔ r.ans = q.ans ∧ r.du = q.du ∧ r.ad = q.ad)) := by
  have pd := fun (A B : HProp) => sameTexts_ok (F := A :: B :: F) hR.dn hQ.dn hR.dr.sub.sub hQ.dr.sub.sub
  have pa := fun (A B : HProp) => sameTexts_ok (F := A :: B :: F) hR.an hQ.an hR.ar.sub.sub hQ.ar.sub.sub
  refine FnO.weak ?_
  refine FnO.intro (n := 24) Try.func78 rfl rfl rfl ?_
  refine J.seq ?_
  refine J.region ?_
  refine JL.mem rfl rfl (OpM.box rfl rfl) ?_; rintro _ _ ⟨b2, rfl, rfl⟩
  refine JL.mem rfl rfl (OpM.box rfl rfl) ?_; rintro _ _ ⟨b3, rfl, rfl⟩
  refine JL.pure rfl rfl (OpP.assign rfl) ?_
  refine JL.nil ?_
  refine J.seq ?_
  refine J.region ?_
  refine JL.pure rfl rfl (OpP.fieldAddr rfl) ?_
  refine JL.read rfl rfl (OpR.load1 rfl (Cell.row (.tail .head) rfl)) ?_
  refine JL.pure rfl rfl (OpP.fieldAddr rfl) ?_
  refine JL.read rfl rfl (OpR.load1 rfl (Cell.row .head rfl)) ?_
  refine JL.dec rfl rfl (OpP.eql rfl rfl) (fun h9 => ?_) (fun h9 => ?_)
  focus
    refine JL.pure rfl rfl (OpP.move rfl) ?_
    refine JL.pure rfl rfl (OpP.fieldAddr rfl) ?_
    refine JL.read rfl rfl (OpR.load1 rfl (Cell.row (.tail .head) rfl)) ?_
    refine JL.pure rfl rfl (OpP.fieldAddr rfl) ?_
    refine JL.read rfl rfl (OpR.load1 rfl (Cell.row .head rfl)) ?_
    refine JL.step rfl rfl (OpW.call (first := []) (captured := []) inferInstance rfl rfl (pd _ _)) ?_; rintro r15 _ ⟨b, ⟨rfl, ⟨rfl, h15⟩⟩⟩
    refine JL.pure rfl rfl (OpP.pickT rfl rfl) ?_
    refine JL.pure rfl rfl (OpP.move rfl) ?_
    refine JL.splitAt 17 rfl (fun h17 => ?_) (fun h17 => ?_)
    focus
      refine JL.pure rfl rfl (OpP.fieldAddr rfl) ?_
      refine JL.read rfl rfl (OpR.load1 rfl (Cell.row (.tail .head) rfl)) ?_
      refine JL.pure rfl rfl (OpP.fieldAddr rfl) ?_
      refine JL.read rfl rfl (OpR.load1 rfl (Cell.row .head rfl)) ?_
      refine JL.step rfl rfl (OpW.call (first := []) (captured := []) inferInstance rfl rfl (pa _ _)) ?_; rintro r22 _ ⟨b1, ⟨rfl, ⟨rfl, h22⟩⟩⟩
      refine JL.pure rfl rfl (OpP.pickT rfl rfl) ?_
      refine JL.pure rfl rfl (OpP.assign rfl) ?_
      refine JL.nil ?_
      refine J.ret1 rfl rfl ?_
    rotate_left 1
    focus
      refine JL.skip rfl rfl ?_
      refine JL.skip rfl rfl ?_
      refine JL.skip rfl rfl ?_
      refine JL.skip rfl rfl ?_
      refine JL.skip rfl rfl ?_
      refine JL.pure rfl rfl (OpP.pickF rfl rfl) ?_
      refine JL.pure rfl rfl (OpP.assign rfl) ?_
      refine JL.nil ?_
      refine J.ret1 rfl rfl ?_
    rotate_left 1
  rotate_left 2
  focus
    refine JL.pure rfl rfl (OpP.move rfl) ?_
    refine JL.skip rfl rfl ?_
    refine JL.skip rfl rfl ?_
    refine JL.skip rfl rfl ?_
    refine JL.skip rfl rfl ?_
    refine JL.skip rfl rfl ?_
    refine JL.pure rfl rfl (OpP.pickF rfl rfl) ?_
    refine JL.pure rfl rfl (OpP.move rfl) ?_
    refine JL.skip rfl rfl ?_
    refine JL.skip rfl rfl ?_
    refine JL.skip rfl rfl ?_
    refine JL.skip rfl rfl ?_
    refine JL.skip rfl rfl ?_
    refine JL.pure rfl rfl (OpP.pickF rfl rfl) ?_
    refine JL.pure rfl rfl (OpP.assign rfl) ?_
    refine JL.nil ?_
    refine J.ret1 rfl rfl ?_
  rotate_left 1
  all_goals exact ⟨_, ⟨_, rfl, rfl, by simp_all⟩, fun _ h => h.tail.tail⟩
theorem sameReply_ok {w0 : World} {F : List HProp} {r q : Rp} (hR : r.Rd w0 F) (hQ : q.Rd w0 F) :
    FnO Try.prog w0 45 [.agg r.cells.toArray, .agg q.cells.toArray] F (fun v l' => ∃ b, v = .bool b ∧ l' = F ∧ (b = true ↔ r.Same q)) := by
  have pd := fun (A B : HProp) => sameDec_ok (F := A :: B :: F) (hR.sub.sub) (hQ.sub.sub)
  refine FnO.weak ?_
  refine FnO.intro (n := 24) Try.func45 rfl rfl rfl ?_
  refine J.seq ?_
  refine J.region ?_
  refine JL.mem rfl rfl (OpM.box rfl rfl) ?_; rintro _ _ ⟨b2, rfl, rfl⟩
  refine JL.mem rfl rfl (OpM.box rfl rfl) ?_; rintro _ _ ⟨b3, rfl, rfl⟩
  refine JL.pure rfl rfl (OpP.assign rfl) ?_
  refine JL.nil ?_
  refine J.seq ?_
  refine J.region ?_
  refine JL.pure rfl rfl (OpP.fieldAddr rfl) ?_
  refine JL.read rfl rfl (OpR.load1 rfl (Cell.row (.tail .head) rfl)) ?_
  refine JL.pure rfl rfl (OpP.fieldAddr rfl) ?_
  refine JL.read rfl rfl (OpR.load1 rfl (Cell.row .head rfl)) ?_
  refine JL.dec rfl rfl (OpP.eql rfl rfl) (fun h9 => ?_) (fun h9 => ?_)
  focus
    refine JL.pure rfl rfl (OpP.move rfl) ?_
    refine JL.pure rfl rfl (OpP.fieldAddr rfl) ?_
    refine JL.read rfl rfl (OpR.load1 rfl (Cell.row (.tail .head) rfl)) ?_
    refine JL.pure rfl rfl (OpP.fieldAddr rfl) ?_
    refine JL.read rfl rfl (OpR.load1 rfl (Cell.row .head rfl)) ?_
    refine JL.dec rfl rfl (OpP.eql rfl rfl) (fun h15 => ?_) (fun h15 => ?_)
    focus
      refine JL.pure rfl rfl (OpP.pickT rfl rfl) ?_
      refine JL.pure rfl rfl (OpP.move rfl) ?_
      refine JL.pure rfl rfl (OpP.fieldAddr rfl) ?_
      refine JL.read rfl rfl (OpR.loadN rfl (Cells.sub 3 (.tail .head) rfl) rfl) ?_
      refine JL.pure rfl rfl (OpP.fieldAddr rfl) ?_
      refine JL.read rfl rfl (OpR.loadN rfl (Cells.sub 3 .head rfl) rfl) ?_
      refine JL.step rfl rfl (OpW.call (first := []) (captured := []) inferInstance rfl rfl (pd _ _)) ?_; rintro r22 _ ⟨b, ⟨rfl, ⟨rfl, h22⟩⟩⟩
      refine JL.pure rfl rfl (OpP.pickT rfl rfl) ?_
      refine JL.pure rfl rfl (OpP.assign rfl) ?_
      refine JL.nil ?_
      refine J.ret1 rfl rfl ?_
    rotate_left 1
    focus
      refine JL.pure rfl rfl (OpP.pickT rfl rfl) ?_
      refine JL.pure rfl rfl (OpP.move rfl) ?_
      refine JL.skip rfl rfl ?_
      refine JL.skip rfl rfl ?_
      refine JL.skip rfl rfl ?_
      refine JL.skip rfl rfl ?_
      refine JL.skip rfl rfl ?_
      refine JL.pure rfl rfl (OpP.pickF rfl rfl) ?_
      refine JL.pure rfl rfl (OpP.assign rfl) ?_
      refine JL.nil ?_
      refine J.ret1 rfl rfl ?_
    rotate_left 1
  rotate_left 2
  focus
    refine JL.pure rfl rfl (OpP.move rfl) ?_
    refine JL.skip rfl rfl ?_
    refine JL.skip rfl rfl ?_
    refine JL.skip rfl rfl ?_
    refine JL.skip rfl rfl ?_
    refine JL.skip rfl rfl ?_
    refine JL.pure rfl rfl (OpP.pickF rfl rfl) ?_
    refine JL.pure rfl rfl (OpP.move rfl) ?_
    refine JL.skip rfl rfl ?_
    refine JL.skip rfl rfl ?_
    refine JL.skip rfl rfl ?_
    refine JL.skip rfl rfl ?_
    refine JL.skip rfl rfl ?_
    refine JL.pure rfl rfl (OpP.pickF rfl rfl) ?_
    refine JL.pure rfl rfl (OpP.assign rfl) ?_
    refine JL.nil ?_
    refine J.ret1 rfl rfl ?_
  rotate_left 1
  all_goals exact ⟨_, ⟨_, rfl, rfl, by simp_all [Rp.Same]⟩, fun _ h => h.tail.tail⟩
end Go.Proofs.E

-- seat e
namespace Go.Proofs.E
open Go Go.Gp Go.RowKit

theorem rtext_ok {w0 : World} {F : List HProp} {g : Nat} {bad : Bool} {v : Value} {M : List UInt8} (hM : M.length ≤ 1000000000) : Took w0 94 [.agg #[.pointer (some ⟨g, 0, none⟩)]] g bad v M F (textR (absO bad M) 4096) (.string (strB (textV (absO bad M) 4096))) := by
  refine FnO.weak ?_
  refine FnO.intro (n := 6) Try.func94 rfl rfl rfl ?_
  refine J.lit (.tail .head) fun av cv ev => ?_; subst ev
  refine J.seq ?_
  refine J.region ?_
  refine JL.mem rfl rfl (OpM.box rfl rfl) ?_; rintro _ _ ⟨b1, rfl, rfl⟩
  refine JL.pure rfl rfl (OpP.assign rfl) ?_
  refine JL.nil ?_
  refine J.conv (l' := inL g bad _ M (row b1 110 [.pointer (some ⟨g, 0, none⟩)] :: F)) (fun _ h => Own.pick (pre := [_, _, _]) [1, 2, 0] rfl h) ?_
  refine J.seq ?_
  refine J.region ?_
  refine JL.pure rfl rfl (OpP.fieldAddr rfl) ?_
  refine JL.read rfl rfl (OpR.load1 rfl (Cell.row (.tail (.tail .head)) rfl)) ?_
  refine JL.step rfl rfl (OpW.call (first := []) (captured := []) inferInstance rfl rfl (inText_ok hM)) ?_; rintro r5 _ ⟨bad', ⟨v', ⟨M', ⟨h5, ⟨h51, ⟨rfl, rfl⟩⟩⟩⟩⟩⟩
  refine JL.lit (.tail .head) fun av' cv' ev' => ?_; subst ev'
  refine JL.pure rfl rfl (OpP.assign rfl) ?_
  refine JL.nil ?_
  refine J.ret1 rfl rfl ?_
  exact ⟨_, ⟨bad', _, M', h5, h51, rfl, rfl⟩, fun _ h => Own.pick (pre := [_, _, _]) [0, 1] rfl h⟩
/-- Texts that are read. -/
def txl : Nat → Option (List UInt8) → Option (List UInt8) × List (List UInt8)
  | 0, o => (o, [])
  | m + 1, o => ((txl m (textR o 4096)).1, textV o 4096 :: (txl m (textR o 4096)).2)
theorem txl_len : ∀ (m : Nat) (o : Option (List UInt8)), (txl m o).2.length = m
  | 0, _ => rfl
  | m + 1, o => by rw [txl, List.length_cons, txl_len m]
theorem rlist_ok {w0 : World} {F : List HProp} {g : Nat} {bad : Bool} {v : Value} {M : List UInt8} (hM : M.length ≤ 1000000000) :
    FnO Try.prog w0 76 [.agg #[.pointer (some ⟨g, 0, none⟩)]] (inL g bad v M F) (fun r l' => ∃ bad' v' M' a c ts, M'.length ≤ 1000000000 ∧ txl (numI (absO bad M) 1) (restO (absO bad M) 1) = (absO bad' M', ts) ∧ r = .slice a ts.length c ∧ l' = own 9 1 (.slice a ts.length c) ts.length (tcl ts) :: inL g bad' v' M' F) := by
  have hn : numI (absO bad M) 1 < 256 := numI_lt
  refine FnO.weak ?_
  refine FnO.intro (n := 16) Try.func76 rfl rfl rfl ?_
  refine J.lit (.tail .head) fun av cv ev => ?_; subst ev
  refine J.seq ?_
  refine J.region ?_
  refine JL.mem rfl rfl (OpM.box rfl rfl) ?_; rintro _ _ ⟨b1, rfl, rfl⟩
  refine JL.pure rfl rfl (OpP.assign rfl) ?_
  refine JL.nil ?_
  refine J.conv (l' := inL g bad _ M (row b1 110 [.pointer (some ⟨g, 0, none⟩)] :: F)) (fun _ h => Own.pick (pre := [_, _, _]) [1, 2, 0] rfl h) ?_
  refine J.seq ?_
  refine J.region ?_
  refine JL.pure rfl rfl (OpP.assign rfl) ?_
  refine JL.nil ?_
  refine J.seq ?_
  refine J.seq ?_
  refine J.region ?_
  refine JL.pure rfl rfl (OpP.fieldAddr rfl) ?_
  refine JL.read rfl rfl (OpR.load1 rfl (Cell.row (.tail (.tail .head)) rfl)) ?_
  refine JL.step rfl rfl (OpW.call (first := []) (captured := []) inferInstance rfl rfl (inU8_ok hM)) ?_; rintro r6 _ ⟨bad', ⟨v', ⟨M', ⟨h6, ⟨h61, ⟨rfl, rfl⟩⟩⟩⟩⟩⟩
  refine JL.lit (.tail .head) fun av' cv' ev' => ?_; subst ev'
  refine JL.pure rfl rfl (OpP.move rfl) ?_
  refine JL.nil ?_
  refine J.block ?_
  generalize numI (absO bad M) 1 = N at hn
  generalize restO (absO bad M) 1 = O at h61
  refine J.loopI (fun x : Nat × Bool × Value × List UInt8 × Value × List (List UInt8) => N - x.1) (fun x => x.1 ≤ N ∧ x.2.2.2.1.length ≤ 1000000000 ∧ x.2.2.2.2.2.length = x.1 ∧ txl N O = ((txl (N - x.1) (absO x.2.1 x.2.2.2.1)).1, x.2.2.2.2.2 ++ (txl (N - x.1) (absO x.2.1 x.2.2.2.1)).2)) (fun x => [(7, .int .i64 (x.1 : Nat)), (6, .int .i64 (N : Nat)), (3, x.2.2.2.2.1), (1, .pointer (some ⟨b1, 0, none⟩))])
    (fun x => own 9 1 x.2.2.2.2.1 x.1 (tcl x.2.2.2.2.2) :: inL g x.2.1 x.2.2.1 x.2.2.2.1 (row b1 110 [.pointer (some ⟨g, 0, none⟩)] :: F))
    (0, bad', .slice av' M'.length cv', M', .slice none 0 0, []) ⟨Nat.zero_le _, h6, rfl, by dsimp only; rw [h61]; rfl⟩ (by repeat (first | exact SubEnv.nil | refine SubEnv.cons (by first | rfl | exact congrArg (fun z => some (Value.int .i64 z)) (by omega) | (simp; done)) ?_)) (fun _ h => h.own_nil) (fun ⟨j, bd, z, Q, u, ts⟩ hi back => ?_)
  dsimp only at hi back ⊢
  obtain ⟨hj, hQ, hts, he⟩ := hi
  by_cases hlt : j < N
  · obtain ⟨m, hm⟩ : ∃ m, N - j = m + 1 := ⟨N - j - 1, by omega⟩
    rw [hm, txl] at he
    refine J.lit .head fun au cu eu => ?_; subst eu
    refine J.lit (.tail (.tail .head)) fun az cz ez => ?_; subst ez
    refine J.seq ?_
    refine J.region ?_
    refine JL.decT rfl rfl (OpP.lss rfl rfl) (by omega) ?_
    refine JL.nil ?_
    refine J.seq ?_
    refine J.condT rfl ?_
    refine J.skip ?_
    refine J.seq ?_
    refine J.block ?_
    refine J.region ?_
    refine JL.pure rfl rfl (OpP.move rfl) ?_
    refine JL.read rfl rfl (OpR.loadN rfl (Cells.full (.tail (.tail (.tail .head)))) rfl) ?_
    refine JL.f2 ?_; refine JL.f2 ?_; refine JL.step rfl rfl (OpW.call (first := []) (captured := []) inferInstance rfl rfl (rtext_ok hQ)) ?_; rintro r11 _ ⟨bad'1, ⟨v', ⟨M'1, ⟨h11, ⟨h111, ⟨rfl, rfl⟩⟩⟩⟩⟩⟩
    refine JL.lit (.tail .head) fun av' cv' ev' => ?_; subst ev'
    refine JL.mem rfl rfl (by apply OpM.buildSlice (by rfl) rfl (by rfl); (repeat (first | exact Fills.nil | (apply Fills.cons rfl rfl rfl; (case' hs => ((repeat (first | exact Spl.nil | apply Spl.here | apply Spl.there)); done)))))) ?_; rintro _ _ ⟨b12, rfl, rfl⟩
    refine JL.f3 ?_; refine JL.mem rfl rfl (OpM.appendH rfl (.inl ⟨_, Sl.und inferInstance⟩) (by rfl) rfl rfl (RdO.src (RdO.ofRow (.tail .head) (by first | exact Nat.le_refl _ | decide | omega)) (by first | assumption | exact fc_length _ _ | (simp; done) | (simp; omega))) (one1 rfl) (by simp only [maxLen]; omega) (by omega)) ?_; rintro _ _ ⟨⟨a13, c13, rfl⟩, rfl⟩
    refine JL.pure rfl rfl (OpP.assign rfl) ?_
    refine JL.nil ?_
    refine J.inBlock ?_
    refine J.region ?_
    refine JL.pure rfl rfl (OpP.addI rfl rfl (by omega) (by omega)) ?_
    refine JL.pure rfl rfl (OpP.move rfl) ?_
    refine JL.nil ?_
    refine back (j + 1, bad'1, .slice av' M'1.length cv', M'1, .slice a13 (j + 1) c13, ts ++ [textV (absO bd Q) 4096]) ⟨by dsimp only; omega, h11, by dsimp only; rw [List.length_append, hts]; rfl, ?_⟩ (by dsimp only; omega) (by repeat (first | exact SubEnv.nil | refine SubEnv.cons (by first | rfl | exact congrArg (fun z => some (Value.int .i64 z)) (by omega) | (simp; done)) ?_)) (fun _ h => ?_)
    · dsimp only
      rw [he, show N - (j + 1) = m by omega, h111, List.append_assoc]; rfl
    · dsimp only
      rw [show tcl (ts ++ [textV (absO bd Q) 4096]) = tcl ts ++ tcl [textV (absO bd Q) 4096] from List.map_append]
      exact Own.pick (pre := [_, _, _, _, _]) [0, 2, 3, 4] rfl h
  · obtain rfl : j = N := by omega
    rw [Nat.sub_self, show ∀ o, txl 0 o = (o, []) from fun _ => rfl, List.append_nil] at he
    subst hts
    refine J.lit .head fun au cu eu => ?_; subst eu
    refine J.lit (.tail (.tail .head)) fun az cz ez => ?_; subst ez
    refine J.seq ?_
    refine J.region ?_
    refine JL.decF rfl rfl (OpP.lss rfl rfl) (by omega) ?_
    refine JL.nil ?_
    refine J.seq ?_
    refine J.condF rfl ?_
    refine J.exit rfl ?_
    refine J.seq ?_
    refine J.region ?_
    refine JL.pure rfl rfl (OpP.move rfl) ?_
    refine JL.pure rfl rfl (OpP.assign rfl) ?_
    refine JL.nil ?_
    refine J.ret1 rfl rfl ?_
    exact ⟨_, ⟨bd, _, Q, _, _, ts, hQ, he, rfl, rfl⟩, fun _ h => Own.pick (pre := [_, _, _, _]) [0, 1, 2] rfl h⟩
theorem textV_le4 {o : Option (List UInt8)} {n : Int} : (textV o n).length ≤ 4096 := by
  unfold textV
  split
  · exact Nat.zero_le _
  · have := gotO_le (o := restO o 2) (n := numI o 2)
    omega
theorem txl_le : ∀ (m : Nat) (o : Option (List UInt8)), ∀ s ∈ (txl m o).2, s.length ≤ 4096
  | 0, _, s, h => by cases h
  | m + 1, o, s, h => by
    rw [txl] at h
    rcases List.mem_cons.1 h with rfl | h
    · exact textV_le4
    · exact txl_le m _ s h
theorem enc_out {w0 : World} {F : List HProp} {f : FuncId} {args : List Value} {l : List HProp} {ok : Prop} {o : Option (List UInt8)} (h : FnO Try.prog w0 f args l (EncP ok o F)) :
    FnO Try.prog w0 f args l (fun v l' => (∃ bs a c, ok ∧ o = some bs ∧ bs.length ≤ 4096 ∧ v = .tuple #[.slice a bs.length c, .int .i64 0] ∧ l' = own 5 1 (.slice a bs.length c) bs.length (bcells bs) :: F) ∨ (ok ∧ o = none ∧ v = .tuple #[.slice none 0 0, .int .i64 3] ∧ l' = F) ∨ (¬ ok ∧ v = .tuple #[.slice none 0 0, .int .i64 1] ∧ l' = F)) := h
/-- A reply that is read: what is in it, and the rest. -/
def redO (o : Option (List UInt8)) : Option (List UInt8) × Rp :=
  let o3 := restO (restO (restO o 1) 2) 1
  let d := txl (numI o3 1) (restO o3 1)
  let e := txl (numI d.1 1) (restO d.1 1)
  (e.1, ⟨(numI o 1 : Nat), (numI (restO o 1) 2 : Nat), (numI (restO (restO o 1) 2) 1 : Nat), d.2, e.2, none, 0, none, 0⟩)
/-- The same reply, elsewhere. -/
def Rp.at (r : Rp) (da : Option Addr) (dc : Nat) (aa : Option Addr) (ac : Nat) : Rp := { r with da := da, dc := dc, aa := aa, ac := ac }
theorem equal_ok {w0 : World} {F : List HProp} {s t : List UInt8} {v v2 : Value} (hr : RdO w0 F v s.length (bcells s)) (hr2 : RdO w0 F v2 t.length (bcells t)) :
    FnO Try.prog w0 77 [v, v2] F (fun r l' => r = .bool (decide (s = t)) ∧ l' = F) := by
  refine FnO.rdF (fun _ h => h) hr fun h1 => ?_
  refine FnO.rdF (fun _ h => h) hr2 fun h2 => ?_
  obtain ⟨a1, c1, rfl⟩ := h1.lit
  obtain ⟨a2, c2, rfl⟩ := h2.lit
  refine FnO.intro (n := 10) Try.func77 rfl rfl rfl ?_
  refine J.seq ?_
  refine J.region ?_
  refine JL.pure rfl rfl (OpP.assign rfl) ?_
  refine JL.nil ?_
  refine J.seq ?_
  refine J.region ?_
  refine JL.pure rfl rfl (OpP.move rfl) ?_
  refine JL.read rfl rfl (OpR.rdStr (by rfl) hr (by rfl)) ?_
  refine JL.pure rfl rfl (OpP.move rfl) ?_
  refine JL.read rfl rfl (OpR.rdStr (by rfl) hr2 (by rfl)) ?_
  refine JL.dec rfl rfl (OpP.eqStr rfl rfl) (fun h9 => ?_) (fun h9 => ?_)
  focus
    refine JL.pure rfl rfl (OpP.assign rfl) ?_
    refine JL.nil ?_
    refine J.ret1 rfl rfl ?_
  rotate_left 1
  focus
    refine JL.pure rfl rfl (OpP.assign rfl) ?_
    refine JL.nil ?_
    refine J.ret1 rfl rfl ?_
  rotate_left 1
  · exact ⟨congrArg Value.bool (decide_eq_true (strB_inj.1 h9)).symm, rfl⟩
  · exact ⟨congrArg Value.bool (decide_eq_false fun q => h9 (congrArg strB q)).symm, rfl⟩
theorem decReply_ok {w0 : World} {F : List HProp} {v : Value} {l : List UInt8} (hl : l.length ≤ 1000000) (hr : RdO w0 F v l.length (bcells l)) :
    FnO Try.prog w0 44 [v] F (fun r l' => (((redO (some l)).1 = some [] ∧ (redO (some l)).2.Ok ∧ repO (redO (some l)).2 = some l) ∧ ∃ da dc aa ac, r = .tuple #[.agg ((redO (some l)).2.at da dc aa ac).cells.toArray, .int .i64 0] ∧ l' = own 9 1 (.slice da (redO (some l)).2.du.length dc) (redO (some l)).2.du.length (tcl (redO (some l)).2.du) :: own 9 1 (.slice aa (redO (some l)).2.ad.length ac) (redO (some l)).2.ad.length (tcl (redO (some l)).2.ad) :: F) ∨
      (¬ ((redO (some l)).1 = some [] ∧ (redO (some l)).2.Ok ∧ repO (redO (some l)).2 = some l) ∧ r = .tuple #[.agg #[.int .i64 0, .int .i64 0, .int .i64 0, .slice none 0 0, .slice none 0 0], .int .i64 2] ∧ l' = F)) := by
  refine FnO.rdF (fun _ h => h) hr fun hr1 => ?_
  obtain ⟨a1, c1, rfl⟩ := hr1.lit
  refine FnO.weak ?_
  refine FnO.intro (n := 52) Try.func44 rfl rfl rfl ?_
  have hl9 : l.length ≤ 1000000000 := by omega
  refine J.seq ?_
  refine J.region ?_
  refine JL.mem rfl rfl OpM.alloc ?_; rintro _ _ ⟨b2, rfl, rfl⟩
  refine JL.pure rfl rfl (OpP.assign rfl) ?_
  refine JL.nil ?_
  refine J.seq ?_
  refine J.region ?_
  refine JL.pure rfl rfl (OpP.move rfl) ?_
  refine JL.step rfl rfl (OpW.call (first := []) (captured := []) inferInstance rfl rfl (read_ok (l := l) (by omega) (hr.conv fun _ h => Own.pick (pre := [_]) [] rfl h))) ?_; rintro r9 _ ⟨g, ⟨v', ⟨rfl, rfl⟩⟩⟩
  refine JL.lit (.tail .head) fun av' cv' ev' => ?_; subst ev'
  refine JL.pure rfl rfl (OpP.build rfl (by (repeat (first | exact Fills.nil | (apply Fills.cons rfl rfl rfl; (case' hs => ((repeat (first | exact Spl.nil | apply Spl.here | apply Spl.there)); done))))))) ?_
  refine JL.mem rfl rfl OpM.alloc ?_; rintro _ _ ⟨b4, rfl, rfl⟩
  refine JL.mem0 rfl (by apply OpM.storeN rfl rfl (by rfl) (one1 rfl); (case' hu => exact .head); (case' hs => exact (.here .nil)); done) ?_; rintro _ _ ⟨rfl, rfl⟩
  refine JL.nil ?_
  refine J.seq ?_
  refine J.cut (σ := Nat × Bool × Value × List UInt8) (fun x => x.2.2.2.length ≤ 1000000000 ∧ absO x.2.1 x.2.2.2 = restO (restO (some l) 1) 2) (fun x => [(5, .pointer (some ⟨x.1, 0, none⟩)), (4, .pointer (some ⟨b4, 0, none⟩)), (3, .int .i64 0), (2, .pointer (some ⟨b2, 0, none⟩)), (0, .slice a1 l.length c1)])
    (fun x => row x.1 74 [.int .i64 (numI (some l) 1 : Nat), .int .i64 (numI (restO (some l) 1) 2 : Nat), .int .i64 0, .slice none 0 0, .slice none 0 0] :: inL g x.2.1 x.2.2.1 x.2.2.2 (row b4 110 [.pointer (some ⟨g, 0, none⟩)] :: row b2 74 [.int .i64 0, .int .i64 0, .int .i64 0, .slice none 0 0, .slice none 0 0] :: F)) ?_ ?_
  · rintro ⟨b5, bad, v, M⟩ ⟨hM, hMo⟩
    dsimp only at hM hMo ⊢
    refine J.lit (.tail (.tail .head)) fun av cv ev => ?_; subst ev
    refine J.seq ?_
    refine J.region ?_
    refine JL.pure rfl rfl (OpP.fieldAddr rfl) ?_
    refine JL.read rfl rfl (OpR.load1 rfl (Cell.row (.tail (.tail (.tail .head))) rfl)) ?_
    refine JL.f2 ?_; refine JL.f2 ?_; refine JL.step rfl rfl (OpW.call (first := []) (captured := []) inferInstance rfl rfl (inU8_ok hM)) ?_; rintro r20 _ ⟨bad', ⟨v', ⟨M', ⟨h20, ⟨h201, ⟨rfl, rfl⟩⟩⟩⟩⟩⟩
    refine JL.lit (.tail .head) fun av' cv' ev' => ?_; subst ev'
    refine JL.pure rfl rfl (OpP.fieldAddr rfl) ?_
    refine JL.pure rfl rfl (OpP.fieldAddr rfl) ?_
    refine JL.mem0 rfl (by apply OpM.store1 rfl rfl rfl; (case' hu => exact (.tail (.tail .head))); (case' hs => exact (.there (.there (.here .nil)))); done) ?_; rintro _ _ ⟨rfl, rfl⟩
    refine JL.nil ?_
    rw [hMo]
    rw [hMo] at h201
    refine J.conv (l' := inL g bad' _ M' (row b5 74 [.int .i64 (numI (some l) 1 : Nat), .int .i64 (numI (restO (some l) 1) 2 : Nat), .int .i64 (numI (restO (restO (some l) 1) 2) 1 : Nat), .slice none 0 0, .slice none 0 0] :: row b4 110 [.pointer (some ⟨g, 0, none⟩)] :: row b2 74 [.int .i64 0, .int .i64 0, .int .i64 0, .slice none 0 0, .slice none 0 0] :: F)) (fun _ h => h) ?_
    refine J.seq ?_
    refine J.regionDC (cl := row b4 110 [.pointer (some ⟨g, 0, none⟩)] :: row b2 74 [.int .i64 0, .int .i64 0, .int .i64 0, .slice none 0 0, .slice none 0 0] :: F) [0, 2] (by kernel_rfl) ?_
    refine DL.read (i := 0) (by kernel_rfl) (by kernel_rfl) rfl rfl rfl (fun _ h => Own.pick (pre := [_, _, _, _, _]) [3, 4] rfl h) (OpR.loadN rfl (Cells.full .head) rfl) ?_
    refine DL.read (i := 2) (by kernel_rfl) (by kernel_rfl) rfl rfl rfl (fun _ h => Own.pick (pre := [_, _, _, _, _]) [3, 4] rfl h) (OpR.loadN rfl (Cells.full .head) rfl) ?_
    refine DL.only (i := 1) (by kernel_rfl) ?_
    refine DL1.stepK rfl rfl rfl (by exact OpW.call (first := []) (captured := []) inferInstance rfl rfl (rlist_ok (by assumption))) (by rintro _ _ ⟨bad'1, ⟨v', ⟨M'1, ⟨a, ⟨c, ⟨ts, ⟨h24, ⟨h241, ⟨rfl, rfl⟩⟩⟩⟩⟩⟩⟩⟩⟩ _ h; exact Own.pick (pre := [_, _, _, _, _, _]) [4, 5] rfl h) ?_; rintro r24 _ ⟨bad'1, ⟨v', ⟨M'1, ⟨a, ⟨c, ⟨ts, ⟨h24, ⟨h241, ⟨rfl, rfl⟩⟩⟩⟩⟩⟩⟩⟩⟩
    refine DL.lit (.tail (.tail .head)) fun av' cv' ev' => ?_; subst ev'
    refine DL.pure (i := 4) (by kernel_rfl) (by kernel_rfl) rfl rfl rfl (OpP.fieldAddr rfl) ?_
    refine DL.pure (i := 5) (by kernel_rfl) (by kernel_rfl) rfl rfl rfl (OpP.fieldAddr rfl) ?_
    refine DL.only (i := 3) (by kernel_rfl) ?_
    refine DL1.f2 ?_; refine DL1.f2 ?_; refine DL1.stepF rfl rfl rfl (by kernel_rfl) (by exact OpW.call (first := []) (captured := []) inferInstance rfl rfl (rlist_ok (by assumption))) ?_; rintro r26 _ ⟨bad'2, ⟨v', ⟨M'2, ⟨a2, ⟨c2, ⟨ts1, ⟨h26, ⟨h261, ⟨rfl, rfl⟩⟩⟩⟩⟩⟩⟩⟩⟩
    refine DL.lit (.tail (.tail .head)) fun av' cv' ev' => ?_; subst ev'
    refine DL.only (i := 6) (by kernel_rfl) ?_
    refine DL1.stepF0 rfl rfl (by kernel_rfl) (OpM.w (by apply OpM.store1 rfl rfl rfl; (case' hu => exact (.tail (.tail (.tail (.tail .head))))); (case' hs => exact (.there (.there (.there (.here .nil))))); done)) ?_; rintro _ _ ⟨rfl, rfl⟩
    refine DL.pure (i := 7) (by kernel_rfl) (by kernel_rfl) rfl rfl rfl (OpP.fieldAddr rfl) ?_
    refine DL.pure (i := 8) (by kernel_rfl) (by kernel_rfl) rfl rfl rfl (OpP.fieldAddr rfl) ?_
    refine DL.only (i := 9) (by kernel_rfl) ?_
    refine DL1.stepF0 rfl rfl (by kernel_rfl) (OpM.w (by apply OpM.store1 rfl rfl rfl; (case' hu => exact (.tail (.tail (.tail (.tail .head))))); (case' hs => exact (.there (.there (.there (.there (.here .nil)))))); done)) ?_; rintro _ _ ⟨rfl, rfl⟩
    refine DL.done (by kernel_rfl) ?_
    refine J.seq ?_
    have hd : redO (some l) = (absO bad'2 M'2, ⟨(numI (some l) 1 : Nat), (numI (restO (some l) 1) 2 : Nat), (numI (restO (restO (some l) 1) 2) 1 : Nat), ts, ts1, none, 0, none, 0⟩) := by
      unfold redO
      dsimp only
      rw [← h201, h241]
      dsimp only
      rw [h261]
    have hts1 : ts.length < 256 := by
      have := txl_len (numI (absO bad' M') 1) (restO (absO bad' M') 1)
      rw [h241] at this
      have h2 : numI (absO bad' M') 1 < 256 := numI_lt
      dsimp only at this
      omega
    have hts2 : ts1.length < 256 := by
      have := txl_len (numI (absO bad'1 M'1) 1) (restO (absO bad'1 M'1) 1)
      rw [h261] at this
      have h2 : numI (absO bad'1 M'1) 1 < 256 := numI_lt
      dsimp only at this
      omega
    have hle1 := txl_le (numI (absO bad' M') 1) (restO (absO bad' M') 1)
    rw [h241] at hle1
    have hle2 := txl_le (numI (absO bad'1 M'1) 1) (restO (absO bad'1 M'1) 1)
    rw [h261] at hle2
    dsimp only at hle1 hle2
    rw [hd]
    refine J.conv (l' := own 9 1 (.slice a ts.length c) ts.length (tcl ts) :: own 9 1 (.slice a2 ts1.length c2) ts1.length (tcl ts1) :: inL g bad'2 _ M'2 (row b5 74 (Rp.cells ⟨(numI (some l) 1 : Nat), (numI (restO (some l) 1) 2 : Nat), (numI (restO (restO (some l) 1) 2) 1 : Nat), ts, ts1, a, c, a2, c2⟩) :: row b4 110 [.pointer (some ⟨g, 0, none⟩)] :: row b2 74 [.int .i64 0, .int .i64 0, .int .i64 0, .slice none 0 0, .slice none 0 0] :: F)) (fun _ h => Own.pick (pre := [_, _, _, _, _]) [3, 0, 1, 2, 4] rfl h) ?_
    have pb := fun z => enc_out (encReply_ok (w0 := w0) (F := own 9 1 (.slice a ts.length c) ts.length (tcl ts) :: own 9 1 (.slice a2 ts1.length c2) ts1.length (tcl ts1) :: inL g bad'2 z M'2 (row b5 74 (Rp.cells ⟨(numI (some l) 1 : Nat), (numI (restO (some l) 1) 2 : Nat), (numI (restO (restO (some l) 1) 2) 1 : Nat), ts, ts1, a, c, a2, c2⟩) :: row b4 110 [.pointer (some ⟨g, 0, none⟩)] :: row b2 74 [.int .i64 0, .int .i64 0, .int .i64 0, .slice none 0 0, .slice none 0 0] :: F)) (r := ⟨(numI (some l) 1 : Nat), (numI (restO (some l) 1) 2 : Nat), (numI (restO (restO (some l) 1) 2) 1 : Nat), ts, ts1, a, c, a2, c2⟩) ⟨by dsimp only; omega, by dsimp only; omega, RdO.own .head, RdO.own (.tail .head)⟩ (fun s hs => Nat.le_trans (hle1 s hs) (by decide)) (fun s hs => Nat.le_trans (hle2 s hs) (by decide)))
    have hov : absO bad'2 M'2 = some [] ↔ bad'2 = false ∧ M'2 = [] := by cases bad'2 <;> simp [absO]
    refine J.seq ?_
    refine J.region ?_
    refine JL.read rfl rfl (OpR.loadN rfl (Cells.full (.tail (.tail (.tail (.tail .head))))) rfl) ?_
    refine JL.step rfl rfl (OpW.call (first := []) (captured := []) inferInstance rfl rfl (pb _)) ?_; rintro r33 _ (⟨bs, ⟨a3, ⟨c3, ⟨h33, ⟨h331, ⟨h332, ⟨rfl, rfl⟩⟩⟩⟩⟩⟩⟩ | (⟨h333, ⟨h334, ⟨rfl, rfl⟩⟩⟩ | ⟨h335, ⟨rfl, rfl⟩⟩))
    focus
      refine JL.pure rfl rfl (OpP.move rfl) ?_
      refine JL.pure rfl rfl (OpP.extract rfl rfl) ?_
      refine JL.pure rfl rfl (OpP.extract rfl rfl) ?_
      refine JL.pure rfl rfl (OpP.assign rfl) ?_
      refine JL.pure rfl rfl (OpP.assign rfl) ?_
      refine JL.nil ?_
      refine J.seq ?_
      refine J.region ?_
      refine JL.pure rfl rfl (OpP.fieldAddr rfl) ?_
      refine JL.read rfl rfl (OpR.load1 rfl (Cell.row (.tail (.tail (.tail (.tail (.tail (.tail .head)))))) rfl)) ?_
      refine JL.f4 ?_; refine JL.f4 ?_; refine JL.step rfl rfl (OpW.call (first := []) (captured := []) inferInstance rfl rfl over_ok) ?_; rintro r38 _ ⟨rfl, rfl⟩
      refine JL.pure rfl rfl (OpP.notB rfl) ?_
      refine JL.pure rfl rfl (OpP.move rfl) ?_
      refine JL.splitAt 40 rfl (fun h40 => ?_) (fun h40 => ?_)
      focus
        refine JL.skip rfl rfl ?_
        refine JL.skip rfl rfl ?_
        refine JL.pure rfl rfl (OpP.pickT rfl rfl) ?_
        refine JL.pure rfl rfl (OpP.move rfl) ?_
        refine JL.skip rfl rfl ?_
        refine JL.skip rfl rfl ?_
        refine JL.skip rfl rfl ?_
        refine JL.skip rfl rfl ?_
        refine JL.pure rfl rfl (OpP.pickT rfl rfl) ?_
        refine JL.nil ?_
        refine J.condT rfl ?_
        refine J.seq ?_
        refine J.region ?_
        refine JL.pure rfl rfl (OpP.build rfl (by (repeat (first | exact Fills.nil | (apply Fills.cons rfl rfl rfl; (case' hs => ((repeat (first | exact Spl.nil | apply Spl.here | apply Spl.there)); done))))))) ?_
        refine JL.mem0 rfl (by apply OpM.storeN rfl rfl (by rfl) (oneC rfl (oneC rfl (oneC rfl (oneC rfl (one1 rfl))))); (case' hu => exact (.tail (.tail (.tail (.tail (.tail (.tail (.tail .head)))))))); (case' hs => exact (.here (.here (.here (.here (.here .nil)))))); done) ?_; rintro _ _ ⟨rfl, rfl⟩
        refine JL.pure rfl rfl (OpP.assign rfl) ?_
        refine JL.nil ?_
        refine J.retC2 rfl rfl (by apply Cells.full; (with_reducible repeat (first | exact .head | apply Has.tail))) (by first | (rw [List.length_append, hdC_len (by first | assumption | exact Go.Proofs.B.shaB_length _ _ | solve_by_elim)]; rfl) | exact hdC_len (by first | assumption | exact Go.Proofs.B.shaB_length _ _ | solve_by_elim) | (rw [bcells_length]; first | assumption | exact Go.Proofs.B.shaB_length _ _ | solve_by_elim) | exact fc_length _ _ | exact fB_length _ _ | rfl) rfl ?_
      rotate_left 1
      focus
        refine JL.pure rfl rfl (OpP.move rfl) ?_
        refine JL.decF rfl rfl (OpP.neq rfl rfl) (by omega) ?_
        refine JL.pure rfl rfl (OpP.pickF rfl rfl) ?_
        refine JL.pure rfl rfl (OpP.move rfl) ?_
        refine JL.pure rfl rfl (OpP.move rfl) ?_
        refine JL.pure rfl rfl (OpP.move rfl) ?_
        refine JL.step rfl rfl (OpW.call (first := []) (captured := []) inferInstance rfl rfl (equal_ok (RdO.own (.tail (.tail .head))) (hr.conv fun _ h => Own.pick (pre := [_, _, _, _, _, _, _, _]) [] rfl h))) ?_; rintro r47 _ ⟨rfl, rfl⟩
        refine JL.pure rfl rfl (OpP.notB rfl) ?_
        refine JL.pure rfl rfl (OpP.pickF rfl rfl) ?_
        refine JL.nil ?_
        refine J.splitAt 49 rfl (fun h49 => ?_) (fun h49 => ?_)
        focus
          refine J.condT rfl ?_
          refine J.seq ?_
          refine J.region ?_
          refine JL.pure rfl rfl (OpP.build rfl (by (repeat (first | exact Fills.nil | (apply Fills.cons rfl rfl rfl; (case' hs => ((repeat (first | exact Spl.nil | apply Spl.here | apply Spl.there)); done))))))) ?_
          refine JL.mem0 rfl (by apply OpM.storeN rfl rfl (by rfl) (oneC rfl (oneC rfl (oneC rfl (oneC rfl (one1 rfl))))); (case' hu => exact (.tail (.tail (.tail (.tail (.tail (.tail (.tail .head)))))))); (case' hs => exact (.here (.here (.here (.here (.here .nil)))))); done) ?_; rintro _ _ ⟨rfl, rfl⟩
          refine JL.pure rfl rfl (OpP.assign rfl) ?_
          refine JL.nil ?_
          refine J.retC2 rfl rfl (by apply Cells.full; (with_reducible repeat (first | exact .head | apply Has.tail))) (by first | (rw [List.length_append, hdC_len (by first | assumption | exact Go.Proofs.B.shaB_length _ _ | solve_by_elim)]; rfl) | exact hdC_len (by first | assumption | exact Go.Proofs.B.shaB_length _ _ | solve_by_elim) | (rw [bcells_length]; first | assumption | exact Go.Proofs.B.shaB_length _ _ | solve_by_elim) | exact fc_length _ _ | exact fB_length _ _ | rfl) rfl ?_
        rotate_left 1
        focus
          refine J.condF rfl ?_
          refine J.skip ?_
          refine J.seq ?_
          refine J.region ?_
          refine JL.read rfl rfl (OpR.loadN rfl (Cells.full (.tail (.tail (.tail (.tail (.tail .head)))))) rfl) ?_
          refine JL.mem0 rfl (by apply OpM.storeN rfl rfl (by rfl) (oneC rfl (oneC rfl (oneC rfl (oneC rfl (one1 rfl))))); (case' hu => exact (.tail (.tail (.tail (.tail (.tail (.tail (.tail .head)))))))); (case' hs => exact (.here (.here (.here (.here (.here .nil)))))); done) ?_; rintro _ _ ⟨rfl, rfl⟩
          refine JL.pure rfl rfl (OpP.assign rfl) ?_
          refine JL.nil ?_
          refine J.retC2 rfl rfl (by apply Cells.full; (with_reducible repeat (first | exact .head | apply Has.tail))) (by first | (rw [List.length_append, hdC_len (by first | assumption | exact Go.Proofs.B.shaB_length _ _ | solve_by_elim)]; rfl) | exact hdC_len (by first | assumption | exact Go.Proofs.B.shaB_length _ _ | solve_by_elim) | (rw [bcells_length]; first | assumption | exact Go.Proofs.B.shaB_length _ _ | solve_by_elim) | exact fc_length _ _ | exact fB_length _ _ | rfl) rfl ?_
        rotate_left 1
      rotate_left 2
    rotate_left 3
    focus
      refine JL.pure rfl rfl (OpP.move rfl) ?_
      refine JL.pure rfl rfl (OpP.extract rfl rfl) ?_
      refine JL.pure rfl rfl (OpP.extract rfl rfl) ?_
      refine JL.pure rfl rfl (OpP.assign rfl) ?_
      refine JL.pure rfl rfl (OpP.assign rfl) ?_
      refine JL.nil ?_
      refine J.seq ?_
      refine J.region ?_
      refine JL.pure rfl rfl (OpP.fieldAddr rfl) ?_
      refine JL.read rfl rfl (OpR.load1 rfl (Cell.row (.tail (.tail (.tail (.tail (.tail .head))))) rfl)) ?_
      refine JL.f3 ?_; refine JL.f3 ?_; refine JL.step rfl rfl (OpW.call (first := []) (captured := []) inferInstance rfl rfl over_ok) ?_; rintro r38 _ ⟨rfl, rfl⟩
      refine JL.pure rfl rfl (OpP.notB rfl) ?_
      refine JL.pure rfl rfl (OpP.move rfl) ?_
      refine JL.splitAt 40 rfl (fun h40 => ?_) (fun h40 => ?_)
      focus
        refine JL.skip rfl rfl ?_
        refine JL.skip rfl rfl ?_
        refine JL.pure rfl rfl (OpP.pickT rfl rfl) ?_
        refine JL.pure rfl rfl (OpP.move rfl) ?_
        refine JL.skip rfl rfl ?_
        refine JL.skip rfl rfl ?_
        refine JL.skip rfl rfl ?_
        refine JL.skip rfl rfl ?_
        refine JL.pure rfl rfl (OpP.pickT rfl rfl) ?_
        refine JL.nil ?_
        refine J.condT rfl ?_
        refine J.seq ?_
        refine J.region ?_
        refine JL.pure rfl rfl (OpP.build rfl (by (repeat (first | exact Fills.nil | (apply Fills.cons rfl rfl rfl; (case' hs => ((repeat (first | exact Spl.nil | apply Spl.here | apply Spl.there)); done))))))) ?_
        refine JL.mem0 rfl (by apply OpM.storeN rfl rfl (by rfl) (oneC rfl (oneC rfl (oneC rfl (oneC rfl (one1 rfl))))); (case' hu => exact (.tail (.tail (.tail (.tail (.tail (.tail .head))))))); (case' hs => exact (.here (.here (.here (.here (.here .nil)))))); done) ?_; rintro _ _ ⟨rfl, rfl⟩
        refine JL.pure rfl rfl (OpP.assign rfl) ?_
        refine JL.nil ?_
        refine J.retC2 rfl rfl (by apply Cells.full; (with_reducible repeat (first | exact .head | apply Has.tail))) (by first | (rw [List.length_append, hdC_len (by first | assumption | exact Go.Proofs.B.shaB_length _ _ | solve_by_elim)]; rfl) | exact hdC_len (by first | assumption | exact Go.Proofs.B.shaB_length _ _ | solve_by_elim) | (rw [bcells_length]; first | assumption | exact Go.Proofs.B.shaB_length _ _ | solve_by_elim) | exact fc_length _ _ | exact fB_length _ _ | rfl) rfl ?_
      rotate_left 1
      focus
        refine JL.pure rfl rfl (OpP.move rfl) ?_
        refine JL.decT rfl rfl (OpP.neq rfl rfl) (by omega) ?_
        refine JL.pure rfl rfl (OpP.pickF rfl rfl) ?_
        refine JL.pure rfl rfl (OpP.move rfl) ?_
        refine JL.skip rfl rfl ?_
        refine JL.skip rfl rfl ?_
        refine JL.skip rfl rfl ?_
        refine JL.skip rfl rfl ?_
        refine JL.pure rfl rfl (OpP.pickT rfl rfl) ?_
        refine JL.nil ?_
        refine J.condT rfl ?_
        refine J.seq ?_
        refine J.region ?_
        refine JL.pure rfl rfl (OpP.build rfl (by (repeat (first | exact Fills.nil | (apply Fills.cons rfl rfl rfl; (case' hs => ((repeat (first | exact Spl.nil | apply Spl.here | apply Spl.there)); done))))))) ?_
        refine JL.mem0 rfl (by apply OpM.storeN rfl rfl (by rfl) (oneC rfl (oneC rfl (oneC rfl (oneC rfl (one1 rfl))))); (case' hu => exact (.tail (.tail (.tail (.tail (.tail (.tail .head))))))); (case' hs => exact (.here (.here (.here (.here (.here .nil)))))); done) ?_; rintro _ _ ⟨rfl, rfl⟩
        refine JL.pure rfl rfl (OpP.assign rfl) ?_
        refine JL.nil ?_
        refine J.retC2 rfl rfl (by apply Cells.full; (with_reducible repeat (first | exact .head | apply Has.tail))) (by first | (rw [List.length_append, hdC_len (by first | assumption | exact Go.Proofs.B.shaB_length _ _ | solve_by_elim)]; rfl) | exact hdC_len (by first | assumption | exact Go.Proofs.B.shaB_length _ _ | solve_by_elim) | (rw [bcells_length]; first | assumption | exact Go.Proofs.B.shaB_length _ _ | solve_by_elim) | exact fc_length _ _ | exact fB_length _ _ | rfl) rfl ?_
      rotate_left 1
    rotate_left 2
    focus
      refine JL.pure rfl rfl (OpP.move rfl) ?_
      refine JL.pure rfl rfl (OpP.extract rfl rfl) ?_
      refine JL.pure rfl rfl (OpP.extract rfl rfl) ?_
      refine JL.pure rfl rfl (OpP.assign rfl) ?_
      refine JL.pure rfl rfl (OpP.assign rfl) ?_
      refine JL.nil ?_
      refine J.seq ?_
      refine J.region ?_
      refine JL.pure rfl rfl (OpP.fieldAddr rfl) ?_
      refine JL.read rfl rfl (OpR.load1 rfl (Cell.row (.tail (.tail (.tail (.tail (.tail .head))))) rfl)) ?_
      refine JL.f3 ?_; refine JL.f3 ?_; refine JL.step rfl rfl (OpW.call (first := []) (captured := []) inferInstance rfl rfl over_ok) ?_; rintro r38 _ ⟨rfl, rfl⟩
      refine JL.pure rfl rfl (OpP.notB rfl) ?_
      refine JL.pure rfl rfl (OpP.move rfl) ?_
      refine JL.splitAt 40 rfl (fun h40 => ?_) (fun h40 => ?_)
      focus
        refine JL.skip rfl rfl ?_
        refine JL.skip rfl rfl ?_
        refine JL.pure rfl rfl (OpP.pickT rfl rfl) ?_
        refine JL.pure rfl rfl (OpP.move rfl) ?_
        refine JL.skip rfl rfl ?_
        refine JL.skip rfl rfl ?_
        refine JL.skip rfl rfl ?_
        refine JL.skip rfl rfl ?_
        refine JL.pure rfl rfl (OpP.pickT rfl rfl) ?_
        refine JL.nil ?_
        refine J.condT rfl ?_
        refine J.seq ?_
        refine J.region ?_
        refine JL.pure rfl rfl (OpP.build rfl (by (repeat (first | exact Fills.nil | (apply Fills.cons rfl rfl rfl; (case' hs => ((repeat (first | exact Spl.nil | apply Spl.here | apply Spl.there)); done))))))) ?_
        refine JL.mem0 rfl (by apply OpM.storeN rfl rfl (by rfl) (oneC rfl (oneC rfl (oneC rfl (oneC rfl (one1 rfl))))); (case' hu => exact (.tail (.tail (.tail (.tail (.tail (.tail .head))))))); (case' hs => exact (.here (.here (.here (.here (.here .nil)))))); done) ?_; rintro _ _ ⟨rfl, rfl⟩
        refine JL.pure rfl rfl (OpP.assign rfl) ?_
        refine JL.nil ?_
        refine J.retC2 rfl rfl (by apply Cells.full; (with_reducible repeat (first | exact .head | apply Has.tail))) (by first | (rw [List.length_append, hdC_len (by first | assumption | exact Go.Proofs.B.shaB_length _ _ | solve_by_elim)]; rfl) | exact hdC_len (by first | assumption | exact Go.Proofs.B.shaB_length _ _ | solve_by_elim) | (rw [bcells_length]; first | assumption | exact Go.Proofs.B.shaB_length _ _ | solve_by_elim) | exact fc_length _ _ | exact fB_length _ _ | rfl) rfl ?_
      rotate_left 1
      focus
        refine JL.pure rfl rfl (OpP.move rfl) ?_
        refine JL.decT rfl rfl (OpP.neq rfl rfl) (by omega) ?_
        refine JL.pure rfl rfl (OpP.pickF rfl rfl) ?_
        refine JL.pure rfl rfl (OpP.move rfl) ?_
        refine JL.skip rfl rfl ?_
        refine JL.skip rfl rfl ?_
        refine JL.skip rfl rfl ?_
        refine JL.skip rfl rfl ?_
        refine JL.pure rfl rfl (OpP.pickT rfl rfl) ?_
        refine JL.nil ?_
        refine J.condT rfl ?_
        refine J.seq ?_
        refine J.region ?_
        refine JL.pure rfl rfl (OpP.build rfl (by (repeat (first | exact Fills.nil | (apply Fills.cons rfl rfl rfl; (case' hs => ((repeat (first | exact Spl.nil | apply Spl.here | apply Spl.there)); done))))))) ?_
        refine JL.mem0 rfl (by apply OpM.storeN rfl rfl (by rfl) (oneC rfl (oneC rfl (oneC rfl (oneC rfl (one1 rfl))))); (case' hu => exact (.tail (.tail (.tail (.tail (.tail (.tail .head))))))); (case' hs => exact (.here (.here (.here (.here (.here .nil)))))); done) ?_; rintro _ _ ⟨rfl, rfl⟩
        refine JL.pure rfl rfl (OpP.assign rfl) ?_
        refine JL.nil ?_
        refine J.retC2 rfl rfl (by apply Cells.full; (with_reducible repeat (first | exact .head | apply Has.tail))) (by first | (rw [List.length_append, hdC_len (by first | assumption | exact Go.Proofs.B.shaB_length _ _ | solve_by_elim)]; rfl) | exact hdC_len (by first | assumption | exact Go.Proofs.B.shaB_length _ _ | solve_by_elim) | (rw [bcells_length]; first | assumption | exact Go.Proofs.B.shaB_length _ _ | solve_by_elim) | exact fc_length _ _ | exact fB_length _ _ | rfl) rfl ?_
      rotate_left 1
    rotate_left 2
    · exact ⟨_, .inr ⟨fun q => nd' h40 (hov.1 q.1), rfl, rfl⟩, fun _ h => Own.pick (pre := [_, _, _, _, _, _, _, _]) [] rfl h⟩
    · exact ⟨_, .inr ⟨fun q => nd' h49 (Option.some.inj (h331.symm.trans q.2.2)), rfl, rfl⟩, fun _ h => Own.pick (pre := [_, _, _, _, _, _, _, _]) [] rfl h⟩
    · have he := nd h49
      subst he
      exact ⟨_, .inl ⟨⟨hov.2 (nd h40), h33, h331⟩, a, c, a2, c2, rfl, rfl⟩, fun _ h => Own.pick (pre := [_, _, _, _, _, _, _, _]) [3, 4] rfl h⟩
    · exact ⟨_, .inr ⟨fun q => (by have := h334.symm.trans q.2.2; cases this), rfl, rfl⟩, fun _ h => Own.pick (pre := [_, _, _, _, _, _, _]) [] rfl h⟩
    · exact ⟨_, .inr ⟨fun q => (by have := h334.symm.trans q.2.2; cases this), rfl, rfl⟩, fun _ h => Own.pick (pre := [_, _, _, _, _, _, _]) [] rfl h⟩
    · exact ⟨_, .inr ⟨fun q => h335 q.2.1, rfl, rfl⟩, fun _ h => Own.pick (pre := [_, _, _, _, _, _, _]) [] rfl h⟩
    · exact ⟨_, .inr ⟨fun q => h335 q.2.1, rfl, rfl⟩, fun _ h => Own.pick (pre := [_, _, _, _, _, _, _]) [] rfl h⟩
  intro k' back
  refine J.regionDC (cl := row b4 110 [.pointer (some ⟨g, 0, none⟩)] :: row b2 74 [.int .i64 0, .int .i64 0, .int .i64 0, .slice none 0 0, .slice none 0 0] :: F) [1, 4] (by kernel_rfl) ?_
  refine DL.pure (i := 0) (by kernel_rfl) (by kernel_rfl) rfl rfl rfl (OpP.fieldAddr rfl) ?_
  refine DL.read (i := 1) (by kernel_rfl) (by kernel_rfl) rfl rfl rfl (fun _ h => Own.pick (pre := [_, _, _, _]) [0, 3] rfl h) (OpR.load1 rfl (Cell.row .head rfl)) ?_
  refine DL.pure (i := 3) (by kernel_rfl) (by kernel_rfl) rfl rfl rfl (OpP.fieldAddr rfl) ?_
  refine DL.read (i := 4) (by kernel_rfl) (by kernel_rfl) rfl rfl rfl (fun _ h => Own.pick (pre := [_, _, _, _]) [0, 3] rfl h) (OpR.load1 rfl (Cell.row .head rfl)) ?_
  refine DL.two (i := 2) (j := 7) (by kernel_rfl) ?_ ?_
  focus
    refine DL1.f2 ?_; refine DL1.f2 ?_; refine DL1.stepK rfl rfl rfl (by exact OpW.call (first := []) (captured := []) inferInstance rfl rfl (inU8_ok (by assumption))) (by rintro _ _ ⟨bad', ⟨v', ⟨M', ⟨h13, ⟨h131, ⟨rfl, rfl⟩⟩⟩⟩⟩⟩ _ h; exact Own.pick (pre := [_, _, _, _]) [2, 3] rfl h) ?_; rintro r13 _ ⟨bad', ⟨v', ⟨M', ⟨h13, ⟨h131, ⟨rfl, rfl⟩⟩⟩⟩⟩⟩
    refine DL.lit (.tail .head) fun av' cv' ev' => ?_; subst ev'
    refine DL.two (i := 5) (j := 7) (by kernel_rfl) ?_ ?_
    focus
      refine DL1.stepF rfl rfl rfl (by kernel_rfl) (by exact OpW.call (first := []) (captured := []) inferInstance rfl rfl (inU16_ok (by assumption))) ?_; rintro r16 _ ⟨bad'1, ⟨v', ⟨M'1, ⟨h16, ⟨h161, ⟨rfl, rfl⟩⟩⟩⟩⟩⟩
      refine DL.lit (.tail .head) fun av' cv' ev' => ?_; subst ev'
      refine DL.pure (i := 6) (by kernel_rfl) (by kernel_rfl) rfl rfl rfl (OpP.build rfl (by (repeat (first | exact Fills.nil | (apply Fills.cons rfl rfl rfl; (case' hs => ((repeat (first | exact Spl.nil | apply Spl.here | apply Spl.there)); done))))))) ?_
      refine DL.only (i := 7) (by kernel_rfl) ?_
      refine DL1.stepK rfl rfl rfl (OpM.w OpM.alloc) (by rintro _ _ ⟨b5, rfl, rfl⟩ _ h; exact Own.pick (pre := [_, _, _, _, _]) [3, 4] rfl h) ?_; rintro _ _ ⟨b5, rfl, rfl⟩
      refine DL.only (i := 8) (by kernel_rfl) ?_
      refine DL1.stepF0 rfl rfl (by kernel_rfl) (OpM.w (by apply OpM.storeN rfl rfl (by rfl) (oneC rfl (oneC rfl (oneC rfl (oneC rfl (one1 rfl))))); (case' hu => exact .head); (case' hs => exact (.here (.here (.here (.here (.here .nil)))))); done)) ?_; rintro _ _ ⟨rfl, rfl⟩
      refine DL.done (by kernel_rfl) ?_
    rotate_left 1
    focus
      refine DL1.stepK rfl rfl rfl (OpM.w OpM.alloc) (by rintro _ _ ⟨b5, rfl, rfl⟩ _ h; exact Own.pick (pre := [_, _, _, _, _]) [3, 4] rfl h) ?_; rintro _ _ ⟨b5, rfl, rfl⟩
      refine DL.only (i := 5) (by kernel_rfl) ?_
      refine DL1.f2 ?_; refine DL1.f2 ?_; refine DL1.stepF rfl rfl rfl (by kernel_rfl) (by exact OpW.call (first := []) (captured := []) inferInstance rfl rfl (inU16_ok (by assumption))) ?_; rintro r16 _ ⟨bad'1, ⟨v', ⟨M'1, ⟨h16, ⟨h161, ⟨rfl, rfl⟩⟩⟩⟩⟩⟩
      refine DL.lit (.tail .head) fun av' cv' ev' => ?_; subst ev'
      refine DL.pure (i := 6) (by kernel_rfl) (by kernel_rfl) rfl rfl rfl (OpP.build rfl (by (repeat (first | exact Fills.nil | (apply Fills.cons rfl rfl rfl; (case' hs => ((repeat (first | exact Spl.nil | apply Spl.here | apply Spl.there)); done))))))) ?_
      refine DL.only (i := 8) (by kernel_rfl) ?_
      refine DL1.stepF0 rfl rfl (by kernel_rfl) (OpM.w (by apply OpM.storeN rfl rfl (by rfl) (oneC rfl (oneC rfl (oneC rfl (oneC rfl (one1 rfl))))); (case' hu => exact (.tail (.tail .head))); (case' hs => exact (.here (.here (.here (.here (.here .nil)))))); done)) ?_; rintro _ _ ⟨rfl, rfl⟩
      refine DL.done (by kernel_rfl) ?_
    rotate_left 1
  rotate_left 2
  focus
    refine DL1.stepK rfl rfl rfl (OpM.w OpM.alloc) (by rintro _ _ ⟨b5, rfl, rfl⟩ _ h; exact Own.pick (pre := [_, _, _, _, _]) [1, 4] rfl h) ?_; rintro _ _ ⟨b5, rfl, rfl⟩
    refine DL.only (i := 2) (by kernel_rfl) ?_
    refine DL1.f3 ?_; refine DL1.f3 ?_; refine DL1.stepK rfl rfl rfl (by exact OpW.call (first := []) (captured := []) inferInstance rfl rfl (inU8_ok (by assumption))) (by rintro _ _ ⟨bad', ⟨v', ⟨M', ⟨h13, ⟨h131, ⟨rfl, rfl⟩⟩⟩⟩⟩⟩ _ h; exact Own.pick (pre := [_, _, _, _, _]) [3, 4] rfl h) ?_; rintro r13 _ ⟨bad', ⟨v', ⟨M', ⟨h13, ⟨h131, ⟨rfl, rfl⟩⟩⟩⟩⟩⟩
    refine DL.lit (.tail .head) fun av' cv' ev' => ?_; subst ev'
    refine DL.only (i := 5) (by kernel_rfl) ?_
    refine DL1.stepF rfl rfl rfl (by kernel_rfl) (by exact OpW.call (first := []) (captured := []) inferInstance rfl rfl (inU16_ok (by assumption))) ?_; rintro r16 _ ⟨bad'1, ⟨v', ⟨M'1, ⟨h16, ⟨h161, ⟨rfl, rfl⟩⟩⟩⟩⟩⟩
    refine DL.lit (.tail .head) fun av' cv' ev' => ?_; subst ev'
    refine DL.pure (i := 6) (by kernel_rfl) (by kernel_rfl) rfl rfl rfl (OpP.build rfl (by (repeat (first | exact Fills.nil | (apply Fills.cons rfl rfl rfl; (case' hs => ((repeat (first | exact Spl.nil | apply Spl.here | apply Spl.there)); done))))))) ?_
    refine DL.only (i := 8) (by kernel_rfl) ?_
    refine DL1.stepF0 rfl rfl (by kernel_rfl) (OpM.w (by apply OpM.storeN rfl rfl (by rfl) (oneC rfl (oneC rfl (oneC rfl (oneC rfl (one1 rfl))))); (case' hu => exact (.tail (.tail .head))); (case' hs => exact (.here (.here (.here (.here (.here .nil)))))); done)) ?_; rintro _ _ ⟨rfl, rfl⟩
    refine DL.done (by kernel_rfl) ?_
  rotate_left 1
  all_goals
    refine back (b5, bad'1, .slice av' M'1.length cv', M'1) ⟨by assumption, by dsimp only; rw [h161, h131]; rfl⟩ (by repeat (first | exact SubEnv.nil | refine SubEnv.cons (by first | rfl | exact congrArg (fun z => some (Value.int .i64 z)) (by omega) | (simp; done)) ?_)) (fun _ h => ?_)
    rw [h131] at h
    first
      | exact h
      | exact Own.pick (pre := [_, _, _, _, _]) [2, 0, 1, 3, 4] rfl h
end Go.Proofs.E

-- seat e
namespace Go.Proofs.E
open Go Go.Gp Go.RowKit

theorem ordI0 {a b : Int} : ordI a b = 0 ↔ a = b := by unfold ordI; omega
theorem ordB0 {s t : List UInt8} : ordB s t = 0 ↔ s = t := by
  induction s generalizing t with
  | nil => cases t <;> simp [ordB]
  | cons a s ih =>
    cases t with
    | nil => simp [ordB]
    | cons b t =>
      rw [ordB]
      split
      · rename_i h; constructor
        · intro q; cases q
        · intro q; cases q; exact absurd h (UInt8.lt_irrefl _)
      · split
        · rename_i h; constructor
          · intro q; cases q
          · intro q; cases q; exact absurd h (UInt8.lt_irrefl _)
        · rename_i h1 h2
          have hab : a = b := by
            have h1' : ¬ a.toNat < b.toNat := fun h => h1 (UInt8.lt_iff_toNat_lt.2 h)
            have h2' : ¬ b.toNat < a.toNat := fun h => h2 (UInt8.lt_iff_toNat_lt.2 h)
            exact UInt8.toNat_inj.1 (by omega)
          rw [ih, List.cons.injEq]
          exact ⟨fun q => ⟨hab, q⟩, fun q => q.2⟩
theorem ordV0 {k i k' i' : Int} {s s' : List UInt8} : ordV k i s k' i' s' = 0 ↔ k = k' ∧ i = i' ∧ s = s' := by
  unfold ordV
  split
  · rename_i h; exact ⟨fun q => absurd q h, fun q => absurd (ordI0.2 q.1) h⟩
  · rename_i h
    have h := Decidable.not_not.1 h
    split
    · rename_i h2; exact ⟨fun q => absurd q h2, fun q => absurd (ordI0.2 q.2.1) h2⟩
    · rename_i h2
      have h2 := Decidable.not_not.1 h2
      rw [ordB0]
      exact ⟨fun q => ⟨ordI0.1 h, ordI0.1 h2, q⟩, fun q => q.2.2⟩
theorem orderE_ok {w0 : World} {F : List HProp} {x y : El} (hx : x.n = 0) (hy : y.n = 0) :
    FnO Try.prog w0 69 [.agg (ecl x).toArray, .agg (ecl y).toArray] F (fun r l' => r = .int .i64 (ordV x.k x.i x.s y.k y.i y.s) ∧ l' = F) := by
  obtain ⟨k, i, s, a, n, c⟩ := x
  obtain ⟨k', i', s', a', n', c'⟩ := y
  cases hx; cases hy
  exact order_ok
theorem cmpf2_ok {w0 : World} {F : List HProp} {a a2 : Option Addr} {c c2 : Nat} {xs ys : List El} (hn : xs.length ≤ 9223372036854775807) (hm : ys.length ≤ 9223372036854775807) (hx : ∀ e ∈ xs, e.n = 0) (hy : ∀ e ∈ ys, e.n = 0) (hr : RdO w0 F (.slice a xs.length c) xs.length (xs.flatMap ecl)) (hr2 : RdO w0 F (.slice a2 ys.length c2) ys.length (ys.flatMap ecl)) :
    FnO Try.prog w0 92 [.slice a xs.length c, .slice a2 ys.length c2, .func (.func 69) #[] #[]] F (fun r l' => ∃ n, r = .int .i64 n ∧ l' = F ∧ (n = 0 ↔ xs.map pl = ys.map pl)) := by
  have hlen : ∀ e ∈ xs, (ecl e).length = 4 := fun _ _ => rfl
  have hlen2 : ∀ e ∈ ys, (ecl e).length = 4 := fun _ _ => rfl
  refine FnO.rdF (fun _ h => h) hr fun hd1 => ?_
  refine FnO.rdF (fun _ h => h) hr2 fun hd2 => ?_
  refine FnO.weak ?_
  refine FnO.intro (n := 39) Try.func92 rfl rfl rfl ?_
  refine J.seq ?_
  refine J.region ?_
  refine JL.pure rfl rfl (OpP.assign rfl) ?_
  refine JL.nil ?_
  refine J.seq ?_
  refine J.seq ?_
  refine J.region ?_
  refine JL.pure rfl rfl (OpP.move rfl) ?_
  refine JL.pure rfl rfl (OpP.len rfl rfl) ?_
  refine JL.pure rfl rfl (OpP.move rfl) ?_
  refine JL.nil ?_
  refine J.block ?_
  refine J.loopI (fun j : Nat => xs.length - j) (fun j => j ≤ xs.length ∧ j ≤ ys.length ∧ (xs.take j).map pl = (ys.take j).map pl) (fun j => [(13, .int .i64 (j : Nat)), (12, .int .i64 (xs.length : Nat)), (11, .slice a xs.length c), (2, .func (.func 69) #[] #[]), (1, .slice a2 ys.length c2), (0, .slice a xs.length c)])
    (fun _ => F) 0 ⟨Nat.zero_le _, Nat.zero_le _, rfl⟩ (by repeat (first | exact SubEnv.nil | refine SubEnv.cons (by first | rfl | exact congrArg (fun z => some (Value.int .i64 z)) (by omega) | (simp; done)) ?_)) (fun _ h => h) (fun j hi back => ?_)
  dsimp only at hi back ⊢
  obtain ⟨hj, hj2, hg⟩ := hi
  by_cases hlt : j < xs.length
  · obtain ⟨x, hxj⟩ : ∃ e, xs[j]? = some e := ⟨_, List.getElem?_eq_getElem hlt⟩
    obtain ⟨ga, pa, qa, ea, ka, hcs⟩ := hd1.pos (by omega)
    rw [ea] at hd1 back ⊢
    by_cases hlt2 : j < ys.length
    · obtain ⟨y, hyj⟩ : ∃ e, ys[j]? = some e := ⟨_, List.getElem?_eq_getElem hlt2⟩
      obtain ⟨gb, pb, qb, eb, kb, hcs2⟩ := hd2.pos (by omega)
      rw [eb] at hd2 back ⊢
      have hx0 := hx x (List.mem_of_getElem? hxj)
      have hy0 := hy y (List.mem_of_getElem? hyj)
      refine J.seq ?_
      refine J.region ?_
      refine JL.decT rfl rfl (OpP.lss rfl rfl) (by omega) ?_
      refine JL.nil ?_
      refine J.seq ?_
      refine J.condT rfl ?_
      refine J.skip ?_
      refine J.seq ?_
      refine J.block ?_
      refine J.seq ?_
      refine J.region ?_
      refine JL.pure rfl rfl (OpP.move rfl) ?_
      refine JL.pure rfl rfl (OpP.indexAddr rfl rfl (by omega) (by omega)) ?_
      refine JL.read rfl rfl (OpR.loadN rfl (by apply Cells.conv (fun _ h => h); apply Cells.chunkAt hcs; (case' h => assumption); (case' hi => assumption); done) (by first | rfl | assumption)) ?_
      refine JL.mem rfl rfl OpM.alloc ?_; rintro _ _ ⟨b8, rfl, rfl⟩
      refine JL.pure rfl rfl (OpP.assign rfl) ?_
      refine JL.mem0 rfl (by apply OpM.storeN rfl rfl (by rfl) (oneC rfl (oneC rfl (oneC rfl (one1 rfl)))); (case' hu => exact .head); (case' hs => exact (.here (.here (.here (.here .nil))))); done) ?_; rintro _ _ ⟨rfl, rfl⟩
      refine JL.nil ?_
      refine J.seq ?_
      refine J.seq ?_
      refine J.region ?_
      refine JL.pure rfl rfl (OpP.move rfl) ?_
      refine JL.pure rfl rfl (OpP.move rfl) ?_
      refine JL.pure rfl rfl (OpP.len rfl rfl) ?_
      refine JL.decF rfl rfl (OpP.geq rfl rfl) (by omega) ?_
      refine JL.nil ?_
      refine J.condF rfl ?_
      refine J.skip ?_
      refine J.seq ?_
      refine J.region ?_
      refine JL.pure rfl rfl (OpP.move rfl) ?_
      refine JL.pure rfl rfl (OpP.move rfl) ?_
      refine JL.pure rfl rfl (OpP.indexAddr rfl rfl (by omega) (by omega)) ?_
      refine JL.read rfl rfl (OpR.loadN rfl (by apply Cells.conv (fun _ h => Own.pick (pre := [_]) [] rfl h); apply Cells.chunkAt hcs2; (case' h => assumption); (case' hi => assumption); done) (by first | rfl | assumption)) ?_
      refine JL.mem rfl rfl OpM.alloc ?_; rintro _ _ ⟨b9, rfl, rfl⟩
      refine JL.mem0 rfl (by apply OpM.storeN rfl rfl (by rfl) (oneC rfl (oneC rfl (oneC rfl (one1 rfl)))); (case' hu => exact .head); (case' hs => exact (.here (.here (.here (.here .nil))))); done) ?_; rintro _ _ ⟨rfl, rfl⟩
      refine JL.nil ?_
      refine J.seq ?_
      refine J.region ?_
      refine JL.pure rfl rfl (OpP.move rfl) ?_
      refine JL.read rfl rfl (OpR.loadN rfl (Cells.full (.tail .head)) rfl) ?_
      refine JL.read rfl rfl (OpR.loadN rfl (Cells.full .head) rfl) ?_
      refine JL.step rfl rfl (OpW.call (first := []) (captured := []) inferInstance rfl rfl (orderE_ok hx0 hy0)) ?_; rintro r29 _ ⟨rfl, rfl⟩
      refine JL.pure rfl rfl (OpP.assign rfl) ?_
      refine JL.nil ?_
      refine J.seq ?_
      refine J.region ?_
      refine JL.pure rfl rfl (OpP.move rfl) ?_
      refine JL.dec rfl rfl (OpP.neq rfl rfl) (fun h31 => ?_) (fun h31 => ?_)
      focus
        refine JL.nil ?_
        refine J.condT rfl ?_
        refine J.seq ?_
        refine J.region ?_
        refine JL.pure rfl rfl (OpP.move rfl) ?_
        refine JL.pure rfl rfl (OpP.assign rfl) ?_
        refine JL.nil ?_
        refine J.ret1 rfl rfl ?_
      rotate_left 1
      focus
        refine JL.nil ?_
        refine J.condF rfl ?_
        refine J.skip ?_
        refine J.inBlock ?_
        refine J.region ?_
        refine JL.pure rfl rfl (OpP.addI rfl rfl (by omega) (by omega)) ?_
        refine JL.pure rfl rfl (OpP.move rfl) ?_
        refine JL.nil ?_
      rotate_left 1
      · refine ⟨_, ⟨_, rfl, rfl, fun q => absurd q h31, fun q => absurd ?_ h31⟩, fun _ h => h.tail.tail⟩
        have hq := congrArg (·[j]?) q
        simp only [List.getElem?_map, hxj, hyj, Option.map_some, Option.some.injEq, pl, Prod.mk.injEq] at hq
        exact ordV0.2 hq
      · refine back (j + 1) ⟨by omega, by omega, ?_⟩ (by omega) (by repeat (first | exact SubEnv.nil | refine SubEnv.cons (by first | rfl | exact congrArg (fun z => some (Value.int .i64 z)) (by omega) | (simp; done)) ?_)) (fun _ h => h.tail.tail)
        obtain ⟨q1, q2, q3⟩ := ordV0.1 (Decidable.not_not.1 h31)
        rw [List.take_add_one, List.take_add_one, List.map_append, List.map_append, hg, hxj, hyj]
        simp only [Option.toList_some, List.map_cons, List.map_nil, pl, q1, q2, q3]
    · refine J.seq ?_
      refine J.region ?_
      refine JL.decT rfl rfl (OpP.lss rfl rfl) (by omega) ?_
      refine JL.nil ?_
      refine J.seq ?_
      refine J.condT rfl ?_
      refine J.skip ?_
      refine J.seq ?_
      refine J.block ?_
      refine J.seq ?_
      refine J.region ?_
      refine JL.pure rfl rfl (OpP.move rfl) ?_
      refine JL.pure rfl rfl (OpP.indexAddr rfl rfl (by omega) (by omega)) ?_
      refine JL.read rfl rfl (OpR.loadN rfl (by apply Cells.conv (fun _ h => h); apply Cells.chunkAt hcs; (case' h => assumption); (case' hi => assumption); done) (by first | rfl | assumption)) ?_
      refine JL.mem rfl rfl OpM.alloc ?_; rintro _ _ ⟨b8, rfl, rfl⟩
      refine JL.pure rfl rfl (OpP.assign rfl) ?_
      refine JL.mem0 rfl (by apply OpM.storeN rfl rfl (by rfl) (oneC rfl (oneC rfl (oneC rfl (one1 rfl)))); (case' hu => exact .head); (case' hs => exact (.here (.here (.here (.here .nil))))); done) ?_; rintro _ _ ⟨rfl, rfl⟩
      refine JL.nil ?_
      refine J.seq ?_
      refine J.seq ?_
      refine J.region ?_
      refine JL.pure rfl rfl (OpP.move rfl) ?_
      refine JL.pure rfl rfl (OpP.move rfl) ?_
      refine JL.pure rfl rfl (OpP.len rfl rfl) ?_
      refine JL.decT rfl rfl (OpP.geq rfl rfl) (by omega) ?_
      refine JL.nil ?_
      refine J.condT rfl ?_
      refine J.seq ?_
      refine J.region ?_
      refine JL.pure rfl rfl (OpP.assign rfl) ?_
      refine JL.nil ?_
      refine J.ret1 rfl rfl ?_
      exact ⟨_, ⟨_, rfl, rfl, fun q => absurd q (by decide), fun q => absurd (congrArg List.length q) (by rw [List.length_map, List.length_map]; omega)⟩, fun _ h => h.tail⟩
  · refine J.seq ?_
    refine J.region ?_
    refine JL.decF rfl rfl (OpP.lss rfl rfl) (by omega) ?_
    refine JL.nil ?_
    refine J.seq ?_
    refine J.condF rfl ?_
    refine J.exit rfl ?_
    refine J.seq ?_
    refine J.seq ?_
    refine J.region ?_
    refine JL.pure rfl rfl (OpP.move rfl) ?_
    refine JL.pure rfl rfl (OpP.len rfl rfl) ?_
    refine JL.pure rfl rfl (OpP.move rfl) ?_
    refine JL.pure rfl rfl (OpP.len rfl rfl) ?_
    refine JL.dec rfl rfl (OpP.lss rfl rfl) (fun h38 => ?_) (fun h38 => ?_)
    focus
      refine JL.nil ?_
      refine J.condT rfl ?_
      refine J.seq ?_
      refine J.region ?_
      refine JL.pure rfl rfl (OpP.assign rfl) ?_
      refine JL.nil ?_
      refine J.ret1 rfl rfl ?_
    rotate_left 1
    focus
      refine JL.nil ?_
      refine J.condF rfl ?_
      refine J.skip ?_
      refine J.seq ?_
      refine J.region ?_
      refine JL.pure rfl rfl (OpP.assign rfl) ?_
      refine JL.nil ?_
      refine J.ret1 rfl rfl ?_
    rotate_left 1
    · exact ⟨_, ⟨_, rfl, rfl, fun q => absurd q (by decide), fun q => absurd (congrArg List.length q) (by rw [List.length_map, List.length_map]; omega)⟩, fun _ h => h⟩
    · refine ⟨_, ⟨_, rfl, rfl, fun _ => ?_, fun _ => rfl⟩, fun _ h => h⟩
      rw [List.take_of_length_le (by omega), List.take_of_length_le (by omega)] at hg
      exact hg
/-- Two values that are alike, by the order. -/
theorem orderZ_ok {w0 : World} {F : List HProp} {u v : Va} (hn : u.xs.length ≤ 9223372036854775807) (hm : v.xs.length ≤ 9223372036854775807) (hx : ∀ e ∈ u.xs, e.n = 0) (hy : ∀ e ∈ v.xs, e.n = 0) (hr : RdO w0 F (.slice u.a u.xs.length u.c) u.xs.length (u.xs.flatMap ecl)) (hr2 : RdO w0 F (.slice v.a v.xs.length v.c) v.xs.length (v.xs.flatMap ecl)) :
    FnO Try.prog w0 69 [.agg (vac u).toArray, .agg (vac v).toArray] F (fun r l' => ∃ n, r = .int .i64 n ∧ l' = F ∧ (n = 0 ↔ u.k = v.k ∧ u.i = v.i ∧ u.s = v.s ∧ u.xs.map pl = v.xs.map pl)) := by
  have pb := fun (A B C : HProp) => cmpf2_ok (F := A :: B :: C :: F) hn hm hx hy hr.sub.sub.sub hr2.sub.sub.sub
  refine FnO.weak ?_
  refine FnO.intro (n := 31) Try.func69 rfl rfl rfl ?_
  refine J.seq ?_
  refine J.region ?_
  refine JL.mem rfl rfl (OpM.box rfl rfl) ?_; rintro _ _ ⟨b2, rfl, rfl⟩
  refine JL.mem rfl rfl (OpM.box rfl rfl) ?_; rintro _ _ ⟨b3, rfl, rfl⟩
  refine JL.pure rfl rfl (OpP.assign rfl) ?_
  refine JL.nil ?_
  refine J.seq ?_
  refine J.seq ?_
  refine J.regionD [1, 3, 6, 8, 11, 13] (by kernel_rfl) ?_
  refine DL.pure (i := 0) (by kernel_rfl) (by kernel_rfl) rfl rfl rfl (OpP.fieldAddr rfl) ?_
  refine DL.read (i := 1) (by kernel_rfl) (by kernel_rfl) rfl rfl rfl (fun _ h => h) (OpR.load1 rfl (Cell.row (.tail .head) rfl)) ?_
  refine DL.pure (i := 2) (by kernel_rfl) (by kernel_rfl) rfl rfl rfl (OpP.fieldAddr rfl) ?_
  refine DL.read (i := 3) (by kernel_rfl) (by kernel_rfl) rfl rfl rfl (fun _ h => h) (OpR.load1 rfl (Cell.row .head rfl)) ?_
  refine DL.pure (i := 5) (by kernel_rfl) (by kernel_rfl) rfl rfl rfl (OpP.fieldAddr rfl) ?_
  refine DL.read (i := 6) (by kernel_rfl) (by kernel_rfl) rfl rfl rfl (fun _ h => h) (OpR.load1 rfl (Cell.row (.tail .head) rfl)) ?_
  refine DL.pure (i := 7) (by kernel_rfl) (by kernel_rfl) rfl rfl rfl (OpP.fieldAddr rfl) ?_
  refine DL.read (i := 8) (by kernel_rfl) (by kernel_rfl) rfl rfl rfl (fun _ h => h) (OpR.load1 rfl (Cell.row .head rfl)) ?_
  refine DL.pure (i := 10) (by kernel_rfl) (by kernel_rfl) rfl rfl rfl (OpP.fieldAddr rfl) ?_
  refine DL.read (i := 11) (by kernel_rfl) (by kernel_rfl) rfl rfl rfl (fun _ h => h) (OpR.load1 rfl (Cell.row (.tail .head) rfl)) ?_
  refine DL.pure (i := 12) (by kernel_rfl) (by kernel_rfl) rfl rfl rfl (OpP.fieldAddr rfl) ?_
  refine DL.read (i := 13) (by kernel_rfl) (by kernel_rfl) rfl rfl rfl (fun _ h => h) (OpR.load1 rfl (Cell.row .head rfl)) ?_
  refine DL.only (i := 4) (by kernel_rfl) ?_
  refine DL1.stepK rfl rfl rfl (by exact OpW.call (first := []) (captured := []) inferInstance rfl rfl compare_ok) (by rintro _ _ ⟨rfl, rfl⟩ _ h; exact Own.pick (pre := [_, _]) [0, 1] rfl h) ?_; rintro r10 _ ⟨rfl, rfl⟩
  refine DL.only (i := 9) (by kernel_rfl) ?_
  refine DL1.stepK rfl rfl rfl (by exact OpW.call (first := []) (captured := []) inferInstance rfl rfl compare64_ok) (by rintro _ _ ⟨rfl, rfl⟩ _ h; exact Own.pick (pre := [_, _]) [0, 1] rfl h) ?_; rintro r15 _ ⟨rfl, rfl⟩
  refine DL.only (i := 14) (by kernel_rfl) ?_
  refine DL1.stepF rfl rfl rfl (by kernel_rfl) (by exact OpW.call (first := []) (captured := []) inferInstance rfl rfl strCompare_ok) ?_; rintro r20 _ ⟨rfl, rfl⟩
  refine DL.only (i := 15) (by kernel_rfl) ?_
  refine DL1.stepF rfl rfl rfl (by kernel_rfl) (OpM.w (by apply OpM.buildSlice (by rfl) rfl (by rfl); (repeat (first | exact Fills.nil | (apply Fills.cons rfl rfl rfl; (case' hs => ((repeat (first | exact Spl.nil | apply Spl.here | apply Spl.there)); done))))))) ?_; rintro _ _ ⟨b21, rfl, rfl⟩
  refine DL.only (i := 16) (by kernel_rfl) ?_
  refine DL1.stepF rfl rfl rfl (by kernel_rfl) (by exact OpW.call (first := []) (captured := []) inferInstance rfl rfl or_ok) ?_; rintro r22 _ ⟨rfl, rfl⟩
  refine DL.pure (i := 17) (by kernel_rfl) (by kernel_rfl) rfl rfl rfl (OpP.assign rfl) ?_
  refine DL.done (by kernel_rfl) ?_
  refine J.seq ?_
  refine J.region ?_
  refine JL.pure rfl rfl (OpP.move rfl) ?_
  refine JL.dec rfl rfl (OpP.neq rfl rfl) (fun h24 => ?_) (fun h24 => ?_)
  focus
    refine JL.nil ?_
    refine J.condT rfl ?_
    refine J.seq ?_
    refine J.region ?_
    refine JL.pure rfl rfl (OpP.move rfl) ?_
    refine JL.pure rfl rfl (OpP.assign rfl) ?_
    refine JL.nil ?_
    refine J.ret1 rfl rfl ?_
  rotate_left 1
  focus
    refine JL.nil ?_
    refine J.condF rfl ?_
    refine J.skip ?_
    refine J.seq ?_
    refine J.region ?_
    refine JL.pure rfl rfl (OpP.fieldAddr rfl) ?_
    refine JL.read rfl rfl (OpR.load1 rfl (Cell.row (.tail (.tail .head)) rfl)) ?_
    refine JL.pure rfl rfl (OpP.fieldAddr rfl) ?_
    refine JL.read rfl rfl (OpR.load1 rfl (Cell.row (.tail .head) rfl)) ?_
    refine JL.step rfl rfl (OpW.call (first := []) (captured := []) inferInstance rfl rfl (pb _ _ _)) ?_; rintro r30 _ ⟨n, ⟨rfl, ⟨rfl, h30⟩⟩⟩
    refine JL.pure rfl rfl (OpP.assign rfl) ?_
    refine JL.nil ?_
    refine J.ret1 rfl rfl ?_
  rotate_left 1
  · have h24' : ¬ ordV u.k u.i u.s v.k v.i v.s = 0 := h24
    exact ⟨_, ⟨_, rfl, rfl, fun q => absurd q h24, fun q => absurd (ordV0.2 ⟨q.1, q.2.1, q.2.2.1⟩) h24'⟩, fun _ h => h.tail.tail.tail⟩
  · have h24' : ordV u.k u.i u.s v.k v.i v.s = 0 := Decidable.not_not.1 h24
    obtain ⟨q1, q2, q3⟩ := ordV0.1 h24'
    exact ⟨_, ⟨_, rfl, rfl, fun q => ⟨q1, q2, q3, h30.1 q⟩, fun q => h30.2 q.2.2.2⟩, fun _ h => h.tail.tail.tail⟩
/-- Two values that are alike. -/
def VaEq (u v : Va) : Prop := u.k = v.k ∧ u.i = v.i ∧ u.s = v.s ∧ u.xs.map pl = v.xs.map pl
/-- What a value is from outside. -/
structure VOk (w0 : World) (F : List HProp) (u : Va) : Prop where
  n : u.xs.length ≤ 9223372036854775807
  e : ∀ e ∈ u.xs, e.ok
  z : ∀ e ∈ u.xs, e.n = 0
  r : RdO w0 F (.slice u.a u.xs.length u.c) u.xs.length (u.xs.flatMap ecl)
theorem VOk.conv {w0 : World} {F G : List HProp} {u : Va} (hl : ∀ w, Own w0 w G → Own w0 w F) (h : VOk w0 F u) : VOk w0 G u := ⟨h.n, h.e, h.z, h.r.conv hl⟩
theorem VOk.sub {w0 : World} {F : List HProp} {A : HProp} {u : Va} (h : VOk w0 F u) : VOk w0 (A :: F) u := h.conv fun _ h => h.tail
theorem order0_ok {w0 : World} {F : List HProp} {u v : Va} (hu : VOk w0 F u) (hv : VOk w0 F v) :
    FnO Try.prog w0 69 [.agg (vac u).toArray, .agg (vac v).toArray] F (fun r l' => ∃ n, r = .int .i64 n ∧ l' = F ∧ (n = 0 ↔ VaEq u v)) := orderZ_ok hu.n hv.n hu.z hv.z hu.r hv.r
/-- A row of the store. -/
structure Rw where
  who : List UInt8
  name : List UInt8
  attr : List UInt8
  v : Va
abbrev Rw.cells (r : Rw) : List Value := [.string (strB r.who), .string (strB r.name), .string (strB r.attr), .int .i64 r.v.k, .int .i64 r.v.i, .string (strB r.v.s), .slice r.v.a r.v.xs.length r.v.c]
def Rw.Eq (r q : Rw) : Prop := r.who = q.who ∧ r.name = q.name ∧ r.attr = q.attr ∧ VaEq r.v q.v
theorem sameRow_ok {w0 : World} {F : List HProp} {r q : Rw} (hu : VOk w0 F r.v) (hv : VOk w0 F q.v) :
    FnO Try.prog w0 66 [.agg r.cells.toArray, .agg q.cells.toArray] F (fun v l' => ∃ b, v = .bool b ∧ l' = F ∧ (b = true ↔ r.Eq q)) := by
  have pb := fun (A B : HProp) => order0_ok (F := A :: B :: F) hu.sub.sub hv.sub.sub
  refine FnO.weak ?_
  refine FnO.intro (n := 32) Try.func66 rfl rfl rfl ?_
  refine J.seq ?_
  refine J.region ?_
  refine JL.mem rfl rfl (OpM.box rfl rfl) ?_; rintro _ _ ⟨b2, rfl, rfl⟩
  refine JL.mem rfl rfl (OpM.box rfl rfl) ?_; rintro _ _ ⟨b3, rfl, rfl⟩
  refine JL.pure rfl rfl (OpP.assign rfl) ?_
  refine JL.nil ?_
  refine J.seq ?_
  refine J.region ?_
  refine JL.pure rfl rfl (OpP.fieldAddr rfl) ?_
  refine JL.read rfl rfl (OpR.load1 rfl (Cell.row (.tail .head) rfl)) ?_
  refine JL.pure rfl rfl (OpP.fieldAddr rfl) ?_
  refine JL.read rfl rfl (OpR.load1 rfl (Cell.row .head rfl)) ?_
  refine JL.dec rfl rfl (OpP.eqStr rfl rfl) (fun h9 => ?_) (fun h9 => ?_)
  focus
    refine JL.pure rfl rfl (OpP.move rfl) ?_
    refine JL.pure rfl rfl (OpP.fieldAddr rfl) ?_
    refine JL.read rfl rfl (OpR.load1 rfl (Cell.row (.tail .head) rfl)) ?_
    refine JL.pure rfl rfl (OpP.fieldAddr rfl) ?_
    refine JL.read rfl rfl (OpR.load1 rfl (Cell.row .head rfl)) ?_
    refine JL.dec rfl rfl (OpP.eqStr rfl rfl) (fun h15 => ?_) (fun h15 => ?_)
    focus
      refine JL.pure rfl rfl (OpP.pickT rfl rfl) ?_
      refine JL.pure rfl rfl (OpP.move rfl) ?_
      refine JL.pure rfl rfl (OpP.fieldAddr rfl) ?_
      refine JL.read rfl rfl (OpR.load1 rfl (Cell.row (.tail .head) rfl)) ?_
      refine JL.pure rfl rfl (OpP.fieldAddr rfl) ?_
      refine JL.read rfl rfl (OpR.load1 rfl (Cell.row .head rfl)) ?_
      refine JL.dec rfl rfl (OpP.eqStr rfl rfl) (fun h22 => ?_) (fun h22 => ?_)
      focus
        refine JL.pure rfl rfl (OpP.pickT rfl rfl) ?_
        refine JL.pure rfl rfl (OpP.move rfl) ?_
        refine JL.pure rfl rfl (OpP.fieldAddr rfl) ?_
        refine JL.read rfl rfl (OpR.loadN rfl (Cells.sub 4 (.tail .head) rfl) rfl) ?_
        refine JL.pure rfl rfl (OpP.fieldAddr rfl) ?_
        refine JL.read rfl rfl (OpR.loadN rfl (Cells.sub 4 .head rfl) rfl) ?_
        refine JL.step rfl rfl (OpW.call (first := []) (captured := []) inferInstance rfl rfl (pb _ _)) ?_; rintro r29 _ ⟨n, ⟨rfl, ⟨rfl, h29⟩⟩⟩
        refine JL.dec rfl rfl (OpP.eql rfl rfl) (fun h30 => ?_) (fun h30 => ?_)
        focus
          refine JL.pure rfl rfl (OpP.pickT rfl rfl) ?_
          refine JL.pure rfl rfl (OpP.assign rfl) ?_
          refine JL.nil ?_
          refine J.ret1 rfl rfl ?_
        rotate_left 1
        focus
          refine JL.pure rfl rfl (OpP.pickT rfl rfl) ?_
          refine JL.pure rfl rfl (OpP.assign rfl) ?_
          refine JL.nil ?_
          refine J.ret1 rfl rfl ?_
        rotate_left 1
      rotate_left 2
      focus
        refine JL.pure rfl rfl (OpP.pickT rfl rfl) ?_
        refine JL.pure rfl rfl (OpP.move rfl) ?_
        refine JL.skip rfl rfl ?_
        refine JL.skip rfl rfl ?_
        refine JL.skip rfl rfl ?_
        refine JL.skip rfl rfl ?_
        refine JL.skip rfl rfl ?_
        refine JL.skip rfl rfl ?_
        refine JL.pure rfl rfl (OpP.pickF rfl rfl) ?_
        refine JL.pure rfl rfl (OpP.assign rfl) ?_
        refine JL.nil ?_
        refine J.ret1 rfl rfl ?_
      rotate_left 1
    rotate_left 3
    focus
      refine JL.pure rfl rfl (OpP.pickT rfl rfl) ?_
      refine JL.pure rfl rfl (OpP.move rfl) ?_
      refine JL.skip rfl rfl ?_
      refine JL.skip rfl rfl ?_
      refine JL.skip rfl rfl ?_
      refine JL.skip rfl rfl ?_
      refine JL.skip rfl rfl ?_
      refine JL.pure rfl rfl (OpP.pickF rfl rfl) ?_
      refine JL.pure rfl rfl (OpP.move rfl) ?_
      refine JL.skip rfl rfl ?_
      refine JL.skip rfl rfl ?_
      refine JL.skip rfl rfl ?_
      refine JL.skip rfl rfl ?_
      refine JL.skip rfl rfl ?_
      refine JL.skip rfl rfl ?_
      refine JL.pure rfl rfl (OpP.pickF rfl rfl) ?_
      refine JL.pure rfl rfl (OpP.assign rfl) ?_
      refine JL.nil ?_
      refine J.ret1 rfl rfl ?_
    rotate_left 1
  rotate_left 4
  focus
    refine JL.pure rfl rfl (OpP.move rfl) ?_
    refine JL.skip rfl rfl ?_
    refine JL.skip rfl rfl ?_
    refine JL.skip rfl rfl ?_
    refine JL.skip rfl rfl ?_
    refine JL.skip rfl rfl ?_
    refine JL.pure rfl rfl (OpP.pickF rfl rfl) ?_
    refine JL.pure rfl rfl (OpP.move rfl) ?_
    refine JL.skip rfl rfl ?_
    refine JL.skip rfl rfl ?_
    refine JL.skip rfl rfl ?_
    refine JL.skip rfl rfl ?_
    refine JL.skip rfl rfl ?_
    refine JL.pure rfl rfl (OpP.pickF rfl rfl) ?_
    refine JL.pure rfl rfl (OpP.move rfl) ?_
    refine JL.skip rfl rfl ?_
    refine JL.skip rfl rfl ?_
    refine JL.skip rfl rfl ?_
    refine JL.skip rfl rfl ?_
    refine JL.skip rfl rfl ?_
    refine JL.skip rfl rfl ?_
    refine JL.pure rfl rfl (OpP.pickF rfl rfl) ?_
    refine JL.pure rfl rfl (OpP.assign rfl) ?_
    refine JL.nil ?_
    refine J.ret1 rfl rfl ?_
  rotate_left 1
  all_goals exact ⟨_, ⟨_, rfl, rfl, by simp_all [Rw.Eq, strB_inj]⟩, fun _ h => h.tail.tail⟩
/-- What one has. -/
structure Hd where
  who : List UInt8
  name : List UInt8
  v : Va
abbrev hcl (h : Hd) : List Value := [.string (strB h.who), .string (strB h.name), .int .i64 h.v.k, .int .i64 h.v.i, .string (strB h.v.s), .slice h.v.a h.v.xs.length h.v.c]
def Hd.Eq (r q : Hd) : Prop := r.who = q.who ∧ r.name = q.name ∧ VaEq r.v q.v
theorem sameHad_ok {w0 : World} {F : List HProp} {r q : Hd} (hu : VOk w0 F r.v) (hv : VOk w0 F q.v) :
    FnO Try.prog w0 68 [.agg (hcl r).toArray, .agg (hcl q).toArray] F (fun v l' => ∃ b, v = .bool b ∧ l' = F ∧ (b = true ↔ r.Eq q)) := by
  have pb := fun (A B : HProp) => order0_ok (F := A :: B :: F) hu.sub.sub hv.sub.sub
  refine FnO.weak ?_
  refine FnO.intro (n := 25) Try.func68 rfl rfl rfl ?_
  refine J.seq ?_
  refine J.region ?_
  refine JL.mem rfl rfl (OpM.box rfl rfl) ?_; rintro _ _ ⟨b2, rfl, rfl⟩
  refine JL.mem rfl rfl (OpM.box rfl rfl) ?_; rintro _ _ ⟨b3, rfl, rfl⟩
  refine JL.pure rfl rfl (OpP.assign rfl) ?_
  refine JL.nil ?_
  refine J.seq ?_
  refine J.region ?_
  refine JL.pure rfl rfl (OpP.fieldAddr rfl) ?_
  refine JL.read rfl rfl (OpR.load1 rfl (Cell.row (.tail .head) rfl)) ?_
  refine JL.pure rfl rfl (OpP.fieldAddr rfl) ?_
  refine JL.read rfl rfl (OpR.load1 rfl (Cell.row .head rfl)) ?_
  refine JL.dec rfl rfl (OpP.eqStr rfl rfl) (fun h9 => ?_) (fun h9 => ?_)
  focus
    refine JL.pure rfl rfl (OpP.move rfl) ?_
    refine JL.pure rfl rfl (OpP.fieldAddr rfl) ?_
    refine JL.read rfl rfl (OpR.load1 rfl (Cell.row (.tail .head) rfl)) ?_
    refine JL.pure rfl rfl (OpP.fieldAddr rfl) ?_
    refine JL.read rfl rfl (OpR.load1 rfl (Cell.row .head rfl)) ?_
    refine JL.dec rfl rfl (OpP.eqStr rfl rfl) (fun h15 => ?_) (fun h15 => ?_)
    focus
      refine JL.pure rfl rfl (OpP.pickT rfl rfl) ?_
      refine JL.pure rfl rfl (OpP.move rfl) ?_
      refine JL.pure rfl rfl (OpP.fieldAddr rfl) ?_
      refine JL.read rfl rfl (OpR.loadN rfl (Cells.sub 4 (.tail .head) rfl) rfl) ?_
      refine JL.pure rfl rfl (OpP.fieldAddr rfl) ?_
      refine JL.read rfl rfl (OpR.loadN rfl (Cells.sub 4 .head rfl) rfl) ?_
      refine JL.step rfl rfl (OpW.call (first := []) (captured := []) inferInstance rfl rfl (pb _ _)) ?_; rintro r22 _ ⟨n, ⟨rfl, ⟨rfl, h22⟩⟩⟩
      refine JL.dec rfl rfl (OpP.eql rfl rfl) (fun h23 => ?_) (fun h23 => ?_)
      focus
        refine JL.pure rfl rfl (OpP.pickT rfl rfl) ?_
        refine JL.pure rfl rfl (OpP.assign rfl) ?_
        refine JL.nil ?_
        refine J.ret1 rfl rfl ?_
      rotate_left 1
      focus
        refine JL.pure rfl rfl (OpP.pickT rfl rfl) ?_
        refine JL.pure rfl rfl (OpP.assign rfl) ?_
        refine JL.nil ?_
        refine J.ret1 rfl rfl ?_
      rotate_left 1
    rotate_left 2
    focus
      refine JL.pure rfl rfl (OpP.pickT rfl rfl) ?_
      refine JL.pure rfl rfl (OpP.move rfl) ?_
      refine JL.skip rfl rfl ?_
      refine JL.skip rfl rfl ?_
      refine JL.skip rfl rfl ?_
      refine JL.skip rfl rfl ?_
      refine JL.skip rfl rfl ?_
      refine JL.skip rfl rfl ?_
      refine JL.pure rfl rfl (OpP.pickF rfl rfl) ?_
      refine JL.pure rfl rfl (OpP.assign rfl) ?_
      refine JL.nil ?_
      refine J.ret1 rfl rfl ?_
    rotate_left 1
  rotate_left 3
  focus
    refine JL.pure rfl rfl (OpP.move rfl) ?_
    refine JL.skip rfl rfl ?_
    refine JL.skip rfl rfl ?_
    refine JL.skip rfl rfl ?_
    refine JL.skip rfl rfl ?_
    refine JL.skip rfl rfl ?_
    refine JL.pure rfl rfl (OpP.pickF rfl rfl) ?_
    refine JL.pure rfl rfl (OpP.move rfl) ?_
    refine JL.skip rfl rfl ?_
    refine JL.skip rfl rfl ?_
    refine JL.skip rfl rfl ?_
    refine JL.skip rfl rfl ?_
    refine JL.skip rfl rfl ?_
    refine JL.skip rfl rfl ?_
    refine JL.pure rfl rfl (OpP.pickF rfl rfl) ?_
    refine JL.pure rfl rfl (OpP.assign rfl) ?_
    refine JL.nil ?_
    refine J.ret1 rfl rfl ?_
  rotate_left 1
  all_goals exact ⟨_, ⟨_, rfl, rfl, by simp_all [Hd.Eq, strB_inj]⟩, fun _ h => h.tail.tail⟩
end Go.Proofs.E

-- seat e
namespace Go.Proofs.E
open Go Go.Gp Go.RowKit

/-- Lists of what is had, alike. -/
def HsEq (xs ys : List Hd) : Prop := xs.length = ys.length ∧ ∀ (j : Nat) (x y : Hd), xs[j]? = some x → ys[j]? = some y → x.Eq y
structure HsOk (w0 : World) (F : List HProp) (a : Option Addr) (c : Nat) (xs : List Hd) : Prop where
  n : xs.length ≤ 9223372036854775807
  v : ∀ h ∈ xs, VOk w0 F h.v
  r : RdO w0 F (.slice a xs.length c) xs.length (xs.flatMap hcl)
theorem HsOk.conv {w0 : World} {F G : List HProp} {a : Option Addr} {c : Nat} {xs : List Hd} (hl : ∀ w, Own w0 w G → Own w0 w F) (h : HsOk w0 F a c xs) : HsOk w0 G a c xs := ⟨h.n, fun x hx => (h.v x hx).conv hl, h.r.conv hl⟩
theorem HsOk.sub {w0 : World} {F : List HProp} {A : HProp} {a : Option Addr} {c : Nat} {xs : List Hd} (h : HsOk w0 F a c xs) : HsOk w0 (A :: F) a c xs := h.conv fun _ h => h.tail
theorem eqFunc_ok {w0 : World} {F : List HProp} {a a2 : Option Addr} {c c2 : Nat} {xs ys : List Hd} (hx : HsOk w0 F a c xs) (hy : HsOk w0 F a2 c2 ys) :
    FnO Try.prog w0 67 [.slice a xs.length c, .slice a2 ys.length c2, .func (.func 68) #[] #[]] F (fun r l' => ∃ b, r = .bool b ∧ l' = F ∧ (b = true ↔ HsEq xs ys)) := by
  have hlen : ∀ e ∈ xs, (hcl e).length = 6 := fun _ _ => rfl
  have hlen2 : ∀ e ∈ ys, (hcl e).length = 6 := fun _ _ => rfl
  have hn := hx.n
  have hm := hy.n
  refine FnO.rdF (fun _ h => h) hx.r fun hd1 => ?_
  refine FnO.rdF (fun _ h => h) hy.r fun hd2 => ?_
  refine FnO.weak ?_
  refine FnO.intro (n := 32) Try.func67 rfl rfl rfl ?_
  refine J.seq ?_
  refine J.region ?_
  refine JL.pure rfl rfl (OpP.assign rfl) ?_
  refine JL.nil ?_
  refine J.seq ?_
  refine J.seq ?_
  refine J.region ?_
  refine JL.pure rfl rfl (OpP.move rfl) ?_
  refine JL.pure rfl rfl (OpP.len rfl rfl) ?_
  refine JL.pure rfl rfl (OpP.move rfl) ?_
  refine JL.pure rfl rfl (OpP.len rfl rfl) ?_
  refine JL.dec rfl rfl (OpP.neq rfl rfl) (fun h14 => ?_) (fun h14 => ?_)
  focus
    refine JL.nil ?_
    refine J.condT rfl ?_
    refine J.seq ?_
    refine J.region ?_
    refine JL.pure rfl rfl (OpP.assign rfl) ?_
    refine JL.nil ?_
    refine J.ret1 rfl rfl ?_
  rotate_left 1
  focus
    refine JL.nil ?_
    refine J.condF rfl ?_
    refine J.skip ?_
    refine J.seq ?_
    refine J.seq ?_
    refine J.region ?_
    refine JL.pure rfl rfl (OpP.move rfl) ?_
    refine JL.pure rfl rfl (OpP.len rfl rfl) ?_
    refine JL.pure rfl rfl (OpP.move rfl) ?_
    refine JL.nil ?_
    refine J.block ?_
  rotate_left 1
  · exact ⟨_, ⟨_, rfl, rfl, fun q => absurd q Bool.false_ne_true, fun q => absurd q.1 (by omega)⟩, fun _ h => h⟩
  refine J.loopI (fun j : Nat => xs.length - j) (fun j => j ≤ xs.length ∧ ∀ (m : Nat) (x y : Hd), m < j → xs[m]? = some x → ys[m]? = some y → x.Eq y) (fun j => [(17, .int .i64 (j : Nat)), (16, .int .i64 (xs.length : Nat)), (15, .slice a xs.length c), (2, .func (.func 68) #[] #[]), (1, .slice a2 ys.length c2)])
    (fun _ => F) 0 ⟨Nat.zero_le _, fun _ _ _ h => absurd h (Nat.not_lt_zero _)⟩ (by repeat (first | exact SubEnv.nil | refine SubEnv.cons (by first | rfl | exact congrArg (fun z => some (Value.int .i64 z)) (by omega) | (simp; done)) ?_)) (fun _ h => h) (fun j hi back => ?_)
  dsimp only at hi back ⊢
  obtain ⟨hj, hg⟩ := hi
  by_cases hlt : j < xs.length
  · obtain ⟨x, hxj⟩ : ∃ e, xs[j]? = some e := ⟨_, List.getElem?_eq_getElem hlt⟩
    obtain ⟨y, hyj⟩ : ∃ e, ys[j]? = some e := ⟨_, List.getElem?_eq_getElem (show j < ys.length by omega)⟩
    have pb := fun (A B : HProp) => sameHad_ok (F := A :: B :: F) (hx.v x (List.mem_of_getElem? hxj)).sub.sub (hy.v y (List.mem_of_getElem? hyj)).sub.sub
    obtain ⟨ga, pa, qa, ea, ka, hcs⟩ := hd1.pos (by omega)
    rw [ea] at hd1 back ⊢
    obtain ⟨gb, pb', qb, eb, kb, hcs2⟩ := hd2.pos (by omega)
    rw [eb] at hd2 back ⊢
    refine J.seq ?_
    refine J.region ?_
    refine JL.decT rfl rfl (OpP.lss rfl rfl) (by omega) ?_
    refine JL.nil ?_
    refine J.seq ?_
    refine J.condT rfl ?_
    refine J.skip ?_
    refine J.seq ?_
    refine J.block ?_
    refine J.seq ?_
    refine J.region ?_
    refine JL.pure rfl rfl (OpP.move rfl) ?_
    refine JL.pure rfl rfl (OpP.indexAddr rfl rfl (by omega) (by omega)) ?_
    refine JL.read rfl rfl (OpR.loadN rfl (by apply Cells.conv (fun _ h => h); apply Cells.chunkAt hcs; (case' h => assumption); (case' hi => assumption); done) (by first | rfl | assumption)) ?_
    refine JL.mem rfl rfl OpM.alloc ?_; rintro _ _ ⟨b8, rfl, rfl⟩
    refine JL.pure rfl rfl (OpP.assign rfl) ?_
    refine JL.mem0 rfl (by apply OpM.storeN rfl rfl (by rfl) (oneC rfl (oneC rfl (oneC rfl (oneC rfl (oneC rfl (one1 rfl)))))); (case' hu => exact .head); (case' hs => exact (.here (.here (.here (.here (.here (.here .nil))))))); done) ?_; rintro _ _ ⟨rfl, rfl⟩
    refine JL.nil ?_
    refine J.seq ?_
    refine J.region ?_
    refine JL.pure rfl rfl (OpP.move rfl) ?_
    refine JL.pure rfl rfl (OpP.move rfl) ?_
    refine JL.pure rfl rfl (OpP.indexAddr rfl rfl (by omega) (by omega)) ?_
    refine JL.read rfl rfl (OpR.loadN rfl (by apply Cells.conv (fun _ h => Own.pick (pre := [_]) [] rfl h); apply Cells.chunkAt hcs2; (case' h => assumption); (case' hi => assumption); done) (by first | rfl | assumption)) ?_
    refine JL.mem rfl rfl OpM.alloc ?_; rintro _ _ ⟨b9, rfl, rfl⟩
    refine JL.mem0 rfl (by apply OpM.storeN rfl rfl (by rfl) (oneC rfl (oneC rfl (oneC rfl (oneC rfl (oneC rfl (one1 rfl)))))); (case' hu => exact .head); (case' hs => exact (.here (.here (.here (.here (.here (.here .nil))))))); done) ?_; rintro _ _ ⟨rfl, rfl⟩
    refine JL.nil ?_
    refine J.seq ?_
    refine J.region ?_
    refine JL.pure rfl rfl (OpP.move rfl) ?_
    refine JL.read rfl rfl (OpR.loadN rfl (Cells.full (.tail .head)) rfl) ?_
    refine JL.read rfl rfl (OpR.loadN rfl (Cells.full .head) rfl) ?_
    refine JL.step rfl rfl (OpW.call (first := []) (captured := []) inferInstance rfl rfl (pb _ _)) ?_; rintro r29 _ ⟨b, ⟨rfl, ⟨rfl, h29⟩⟩⟩
    refine JL.pure rfl rfl (OpP.notB rfl) ?_
    refine JL.nil ?_
    refine J.splitAt 30 rfl (fun h30 => ?_) (fun h30 => ?_)
    focus
      refine J.condT rfl ?_
      refine J.seq ?_
      refine J.region ?_
      refine JL.pure rfl rfl (OpP.assign rfl) ?_
      refine JL.nil ?_
      refine J.ret1 rfl rfl ?_
    rotate_left 1
    focus
      refine J.condF rfl ?_
      refine J.skip ?_
      refine J.inBlock ?_
      refine J.region ?_
      refine JL.pure rfl rfl (OpP.addI rfl rfl (by omega) (by omega)) ?_
      refine JL.pure rfl rfl (OpP.move rfl) ?_
      refine JL.nil ?_
    rotate_left 1
    · exact ⟨_, ⟨_, rfl, rfl, fun q => absurd q Bool.false_ne_true, fun q => by have := h29.2 (q.2 j x y hxj hyj); rw [this] at h30; cases h30⟩, fun _ h => h.tail.tail⟩
    · have hxy : x.Eq y := h29.1 (by cases b <;> first | rfl | cases h30)
      refine back (j + 1) ⟨by omega, fun m x' y' hm hx' hy' => ?_⟩ (by omega) (by repeat (first | exact SubEnv.nil | refine SubEnv.cons (by first | rfl | exact congrArg (fun z => some (Value.int .i64 z)) (by omega) | (simp; done)) ?_)) (fun _ h => h.tail.tail)
      rcases Nat.lt_or_ge m j with hmj | hmj
      · exact hg m x' y' hmj hx' hy'
      · obtain rfl : m = j := by omega
        obtain rfl : x' = x := Option.some.inj (hx'.symm.trans hxj)
        obtain rfl : y' = y := Option.some.inj (hy'.symm.trans hyj)
        exact hxy
  · refine J.seq ?_
    refine J.region ?_
    refine JL.decF rfl rfl (OpP.lss rfl rfl) (by omega) ?_
    refine JL.nil ?_
    refine J.seq ?_
    refine J.condF rfl ?_
    refine J.exit rfl ?_
    refine J.seq ?_
    refine J.region ?_
    refine JL.pure rfl rfl (OpP.assign rfl) ?_
    refine JL.nil ?_
    refine J.ret1 rfl rfl ?_
    exact ⟨_, ⟨_, rfl, rfl, fun _ => ⟨by omega, fun j x y hxj hyj => hg j x y (by have := (List.getElem?_eq_some_iff.1 hxj).1; omega) hxj hyj⟩, fun _ => rfl⟩, fun _ h => h⟩
end Go.Proofs.E

-- seat e
namespace Go.Proofs.E
open Go Go.Gp Go.RowKit

/-- A command. -/
structure Cm where
  kind : Int
  text : List UInt8
  row : Rw
  a : List UInt8
  b : List UInt8
  n : Int
  t : Int
  hs : List Hd
  ha : Option Addr
  hc : Nat
abbrev Cm.cells (c : Cm) : List Value := [.int .i64 c.kind, .string (strB c.text), .string (strB c.row.who), .string (strB c.row.name), .string (strB c.row.attr), .int .i64 c.row.v.k, .int .i64 c.row.v.i, .string (strB c.row.v.s), .slice c.row.v.a c.row.v.xs.length c.row.v.c, .string (strB c.a), .string (strB c.b), .int .i64 c.n, .int .i64 c.t, .slice c.ha c.hs.length c.hc]
structure CmOk (w0 : World) (F : List HProp) (c : Cm) : Prop where
  v : VOk w0 F c.row.v
  h : HsOk w0 F c.ha c.hc c.hs
theorem CmOk.conv {w0 : World} {F G : List HProp} {c : Cm} (hl : ∀ w, Own w0 w G → Own w0 w F) (h : CmOk w0 F c) : CmOk w0 G c := ⟨h.v.conv hl, h.h.conv hl⟩
theorem CmOk.sub {w0 : World} {F : List HProp} {A : HProp} {c : Cm} (h : CmOk w0 F c) : CmOk w0 (A :: F) c := h.conv fun _ h => h.tail
def Cm.Eq (c d : Cm) : Prop := c.kind = d.kind ∧ c.text = d.text ∧ c.row.Eq d.row ∧ c.a = d.a ∧ c.b = d.b ∧ c.n = d.n ∧ c.t = d.t ∧ HsEq c.hs d.hs
theorem sameCm_ok {w0 : World} {F : List HProp} {c d : Cm} (hc : CmOk w0 F c) (hd : CmOk w0 F d) :
    FnO Try.prog w0 39 [.agg c.cells.toArray, .agg d.cells.toArray] F (fun v l' => ∃ b, v = .bool b ∧ l' = F ∧ (b = true ↔ c.Eq d)) := by
  have p1 := fun (A B : HProp) => sameRow_ok (F := A :: B :: F) (r := c.row) (q := d.row) hc.v.sub.sub hd.v.sub.sub
  have p2 := fun (A B : HProp) => eqFunc_ok (F := A :: B :: F) hc.h.sub.sub hd.h.sub.sub
  refine FnO.weak ?_
  refine FnO.intro (n := 59) Try.func39 rfl rfl rfl ?_
  refine J.seq ?_
  refine J.region ?_
  refine JL.mem rfl rfl (OpM.box rfl rfl) ?_; rintro _ _ ⟨b2, rfl, rfl⟩
  refine JL.mem rfl rfl (OpM.box rfl rfl) ?_; rintro _ _ ⟨b3, rfl, rfl⟩
  refine JL.pure rfl rfl (OpP.assign rfl) ?_
  refine JL.nil ?_
  refine J.seq ?_
  refine J.region ?_
  refine JL.pure rfl rfl (OpP.fieldAddr rfl) ?_
  refine JL.read rfl rfl (OpR.load1 rfl (Cell.row (.tail .head) rfl)) ?_
  refine JL.pure rfl rfl (OpP.fieldAddr rfl) ?_
  refine JL.read rfl rfl (OpR.load1 rfl (Cell.row .head rfl)) ?_
  refine JL.dec rfl rfl (OpP.eql rfl rfl) (fun h9 => ?_) (fun h9 => ?_)
  focus
    refine JL.pure rfl rfl (OpP.move rfl) ?_
    refine JL.pure rfl rfl (OpP.fieldAddr rfl) ?_
    refine JL.read rfl rfl (OpR.load1 rfl (Cell.row (.tail .head) rfl)) ?_
    refine JL.pure rfl rfl (OpP.fieldAddr rfl) ?_
    refine JL.read rfl rfl (OpR.load1 rfl (Cell.row .head rfl)) ?_
    refine JL.dec rfl rfl (OpP.eqStr rfl rfl) (fun h15 => ?_) (fun h15 => ?_)
    focus
      refine JL.pure rfl rfl (OpP.pickT rfl rfl) ?_
      refine JL.pure rfl rfl (OpP.move rfl) ?_
      refine JL.pure rfl rfl (OpP.fieldAddr rfl) ?_
      refine JL.read rfl rfl (OpR.loadN rfl (Cells.sub 7 (.tail .head) rfl) rfl) ?_
      refine JL.pure rfl rfl (OpP.fieldAddr rfl) ?_
      refine JL.read rfl rfl (OpR.loadN rfl (Cells.sub 7 .head rfl) rfl) ?_
      refine JL.step rfl rfl (OpW.call (first := []) (captured := []) inferInstance rfl rfl (p1 _ _)) ?_; rintro r22 _ ⟨b, ⟨rfl, ⟨rfl, h22⟩⟩⟩
      refine JL.pure rfl rfl (OpP.pickT rfl rfl) ?_
      refine JL.pure rfl rfl (OpP.move rfl) ?_
      refine JL.splitAt 24 rfl (fun h24 => ?_) (fun h24 => ?_)
      focus
        refine JL.pure rfl rfl (OpP.fieldAddr rfl) ?_
        refine JL.read rfl rfl (OpR.load1 rfl (Cell.row (.tail .head) rfl)) ?_
        refine JL.pure rfl rfl (OpP.fieldAddr rfl) ?_
        refine JL.read rfl rfl (OpR.load1 rfl (Cell.row .head rfl)) ?_
        refine JL.dec rfl rfl (OpP.eqStr rfl rfl) (fun h29 => ?_) (fun h29 => ?_)
        focus
          refine JL.pure rfl rfl (OpP.pickT rfl rfl) ?_
          refine JL.pure rfl rfl (OpP.move rfl) ?_
          refine JL.pure rfl rfl (OpP.fieldAddr rfl) ?_
          refine JL.read rfl rfl (OpR.load1 rfl (Cell.row (.tail .head) rfl)) ?_
          refine JL.pure rfl rfl (OpP.fieldAddr rfl) ?_
          refine JL.read rfl rfl (OpR.load1 rfl (Cell.row .head rfl)) ?_
          refine JL.dec rfl rfl (OpP.eqStr rfl rfl) (fun h36 => ?_) (fun h36 => ?_)
          focus
            refine JL.pure rfl rfl (OpP.pickT rfl rfl) ?_
            refine JL.pure rfl rfl (OpP.move rfl) ?_
            refine JL.pure rfl rfl (OpP.fieldAddr rfl) ?_
            refine JL.read rfl rfl (OpR.load1 rfl (Cell.row (.tail .head) rfl)) ?_
            refine JL.pure rfl rfl (OpP.fieldAddr rfl) ?_
            refine JL.read rfl rfl (OpR.load1 rfl (Cell.row .head rfl)) ?_
            refine JL.dec rfl rfl (OpP.eql rfl rfl) (fun h43 => ?_) (fun h43 => ?_)
            focus
              refine JL.pure rfl rfl (OpP.pickT rfl rfl) ?_
              refine JL.pure rfl rfl (OpP.move rfl) ?_
              refine JL.pure rfl rfl (OpP.fieldAddr rfl) ?_
              refine JL.read rfl rfl (OpR.load1 rfl (Cell.row (.tail .head) rfl)) ?_
              refine JL.pure rfl rfl (OpP.fieldAddr rfl) ?_
              refine JL.read rfl rfl (OpR.load1 rfl (Cell.row .head rfl)) ?_
              refine JL.dec rfl rfl (OpP.eql rfl rfl) (fun h50 => ?_) (fun h50 => ?_)
              focus
                refine JL.pure rfl rfl (OpP.pickT rfl rfl) ?_
                refine JL.pure rfl rfl (OpP.move rfl) ?_
                refine JL.pure rfl rfl (OpP.fieldAddr rfl) ?_
                refine JL.read rfl rfl (OpR.load1 rfl (Cell.row (.tail .head) rfl)) ?_
                refine JL.pure rfl rfl (OpP.fieldAddr rfl) ?_
                refine JL.read rfl rfl (OpR.load1 rfl (Cell.row .head rfl)) ?_
                refine JL.step rfl rfl (OpW.call (first := []) (captured := []) inferInstance rfl rfl (p2 _ _)) ?_; rintro r57 _ ⟨b1, ⟨rfl, ⟨rfl, h57⟩⟩⟩
                refine JL.pure rfl rfl (OpP.pickT rfl rfl) ?_
                refine JL.pure rfl rfl (OpP.assign rfl) ?_
                refine JL.nil ?_
                refine J.ret1 rfl rfl ?_
              rotate_left 1
              focus
                refine JL.pure rfl rfl (OpP.pickT rfl rfl) ?_
                refine JL.pure rfl rfl (OpP.move rfl) ?_
                refine JL.skip rfl rfl ?_
                refine JL.skip rfl rfl ?_
                refine JL.skip rfl rfl ?_
                refine JL.skip rfl rfl ?_
                refine JL.skip rfl rfl ?_
                refine JL.pure rfl rfl (OpP.pickF rfl rfl) ?_
                refine JL.pure rfl rfl (OpP.assign rfl) ?_
                refine JL.nil ?_
                refine J.ret1 rfl rfl ?_
              rotate_left 1
            rotate_left 2
            focus
              refine JL.pure rfl rfl (OpP.pickT rfl rfl) ?_
              refine JL.pure rfl rfl (OpP.move rfl) ?_
              refine JL.skip rfl rfl ?_
              refine JL.skip rfl rfl ?_
              refine JL.skip rfl rfl ?_
              refine JL.skip rfl rfl ?_
              refine JL.skip rfl rfl ?_
              refine JL.pure rfl rfl (OpP.pickF rfl rfl) ?_
              refine JL.pure rfl rfl (OpP.move rfl) ?_
              refine JL.skip rfl rfl ?_
              refine JL.skip rfl rfl ?_
              refine JL.skip rfl rfl ?_
              refine JL.skip rfl rfl ?_
              refine JL.skip rfl rfl ?_
              refine JL.pure rfl rfl (OpP.pickF rfl rfl) ?_
              refine JL.pure rfl rfl (OpP.assign rfl) ?_
              refine JL.nil ?_
              refine J.ret1 rfl rfl ?_
            rotate_left 1
          rotate_left 3
          focus
            refine JL.pure rfl rfl (OpP.pickT rfl rfl) ?_
            refine JL.pure rfl rfl (OpP.move rfl) ?_
            refine JL.skip rfl rfl ?_
            refine JL.skip rfl rfl ?_
            refine JL.skip rfl rfl ?_
            refine JL.skip rfl rfl ?_
            refine JL.skip rfl rfl ?_
            refine JL.pure rfl rfl (OpP.pickF rfl rfl) ?_
            refine JL.pure rfl rfl (OpP.move rfl) ?_
            refine JL.skip rfl rfl ?_
            refine JL.skip rfl rfl ?_
            refine JL.skip rfl rfl ?_
            refine JL.skip rfl rfl ?_
            refine JL.skip rfl rfl ?_
            refine JL.pure rfl rfl (OpP.pickF rfl rfl) ?_
            refine JL.pure rfl rfl (OpP.move rfl) ?_
            refine JL.skip rfl rfl ?_
            refine JL.skip rfl rfl ?_
            refine JL.skip rfl rfl ?_
            refine JL.skip rfl rfl ?_
            refine JL.skip rfl rfl ?_
            refine JL.pure rfl rfl (OpP.pickF rfl rfl) ?_
            refine JL.pure rfl rfl (OpP.assign rfl) ?_
            refine JL.nil ?_
            refine J.ret1 rfl rfl ?_
          rotate_left 1
        rotate_left 4
        focus
          refine JL.pure rfl rfl (OpP.pickT rfl rfl) ?_
          refine JL.pure rfl rfl (OpP.move rfl) ?_
          refine JL.skip rfl rfl ?_
          refine JL.skip rfl rfl ?_
          refine JL.skip rfl rfl ?_
          refine JL.skip rfl rfl ?_
          refine JL.skip rfl rfl ?_
          refine JL.pure rfl rfl (OpP.pickF rfl rfl) ?_
          refine JL.pure rfl rfl (OpP.move rfl) ?_
          refine JL.skip rfl rfl ?_
          refine JL.skip rfl rfl ?_
          refine JL.skip rfl rfl ?_
          refine JL.skip rfl rfl ?_
          refine JL.skip rfl rfl ?_
          refine JL.pure rfl rfl (OpP.pickF rfl rfl) ?_
          refine JL.pure rfl rfl (OpP.move rfl) ?_
          refine JL.skip rfl rfl ?_
          refine JL.skip rfl rfl ?_
          refine JL.skip rfl rfl ?_
          refine JL.skip rfl rfl ?_
          refine JL.skip rfl rfl ?_
          refine JL.pure rfl rfl (OpP.pickF rfl rfl) ?_
          refine JL.pure rfl rfl (OpP.move rfl) ?_
          refine JL.skip rfl rfl ?_
          refine JL.skip rfl rfl ?_
          refine JL.skip rfl rfl ?_
          refine JL.skip rfl rfl ?_
          refine JL.skip rfl rfl ?_
          refine JL.pure rfl rfl (OpP.pickF rfl rfl) ?_
          refine JL.pure rfl rfl (OpP.assign rfl) ?_
          refine JL.nil ?_
          refine J.ret1 rfl rfl ?_
        rotate_left 1
      rotate_left 5
      focus
        refine JL.skip rfl rfl ?_
        refine JL.skip rfl rfl ?_
        refine JL.skip rfl rfl ?_
        refine JL.skip rfl rfl ?_
        refine JL.skip rfl rfl ?_
        refine JL.pure rfl rfl (OpP.pickF rfl rfl) ?_
        refine JL.pure rfl rfl (OpP.move rfl) ?_
        refine JL.skip rfl rfl ?_
        refine JL.skip rfl rfl ?_
        refine JL.skip rfl rfl ?_
        refine JL.skip rfl rfl ?_
        refine JL.skip rfl rfl ?_
        refine JL.pure rfl rfl (OpP.pickF rfl rfl) ?_
        refine JL.pure rfl rfl (OpP.move rfl) ?_
        refine JL.skip rfl rfl ?_
        refine JL.skip rfl rfl ?_
        refine JL.skip rfl rfl ?_
        refine JL.skip rfl rfl ?_
        refine JL.skip rfl rfl ?_
        refine JL.pure rfl rfl (OpP.pickF rfl rfl) ?_
        refine JL.pure rfl rfl (OpP.move rfl) ?_
        refine JL.skip rfl rfl ?_
        refine JL.skip rfl rfl ?_
        refine JL.skip rfl rfl ?_
        refine JL.skip rfl rfl ?_
        refine JL.skip rfl rfl ?_
        refine JL.pure rfl rfl (OpP.pickF rfl rfl) ?_
        refine JL.pure rfl rfl (OpP.move rfl) ?_
        refine JL.skip rfl rfl ?_
        refine JL.skip rfl rfl ?_
        refine JL.skip rfl rfl ?_
        refine JL.skip rfl rfl ?_
        refine JL.skip rfl rfl ?_
        refine JL.pure rfl rfl (OpP.pickF rfl rfl) ?_
        refine JL.pure rfl rfl (OpP.assign rfl) ?_
        refine JL.nil ?_
        refine J.ret1 rfl rfl ?_
      rotate_left 1
    rotate_left 6
    focus
      refine JL.pure rfl rfl (OpP.pickT rfl rfl) ?_
      refine JL.pure rfl rfl (OpP.move rfl) ?_
      refine JL.skip rfl rfl ?_
      refine JL.skip rfl rfl ?_
      refine JL.skip rfl rfl ?_
      refine JL.skip rfl rfl ?_
      refine JL.skip rfl rfl ?_
      refine JL.pure rfl rfl (OpP.pickF rfl rfl) ?_
      refine JL.pure rfl rfl (OpP.move rfl) ?_
      refine JL.skip rfl rfl ?_
      refine JL.skip rfl rfl ?_
      refine JL.skip rfl rfl ?_
      refine JL.skip rfl rfl ?_
      refine JL.skip rfl rfl ?_
      refine JL.pure rfl rfl (OpP.pickF rfl rfl) ?_
      refine JL.pure rfl rfl (OpP.move rfl) ?_
      refine JL.skip rfl rfl ?_
      refine JL.skip rfl rfl ?_
      refine JL.skip rfl rfl ?_
      refine JL.skip rfl rfl ?_
      refine JL.skip rfl rfl ?_
      refine JL.pure rfl rfl (OpP.pickF rfl rfl) ?_
      refine JL.pure rfl rfl (OpP.move rfl) ?_
      refine JL.skip rfl rfl ?_
      refine JL.skip rfl rfl ?_
      refine JL.skip rfl rfl ?_
      refine JL.skip rfl rfl ?_
      refine JL.skip rfl rfl ?_
      refine JL.pure rfl rfl (OpP.pickF rfl rfl) ?_
      refine JL.pure rfl rfl (OpP.move rfl) ?_
      refine JL.skip rfl rfl ?_
      refine JL.skip rfl rfl ?_
      refine JL.skip rfl rfl ?_
      refine JL.skip rfl rfl ?_
      refine JL.skip rfl rfl ?_
      refine JL.pure rfl rfl (OpP.pickF rfl rfl) ?_
      refine JL.pure rfl rfl (OpP.move rfl) ?_
      refine JL.skip rfl rfl ?_
      refine JL.skip rfl rfl ?_
      refine JL.skip rfl rfl ?_
      refine JL.skip rfl rfl ?_
      refine JL.skip rfl rfl ?_
      refine JL.pure rfl rfl (OpP.pickF rfl rfl) ?_
      refine JL.pure rfl rfl (OpP.assign rfl) ?_
      refine JL.nil ?_
      refine J.ret1 rfl rfl ?_
    rotate_left 1
  rotate_left 7
  focus
    refine JL.pure rfl rfl (OpP.move rfl) ?_
    refine JL.skip rfl rfl ?_
    refine JL.skip rfl rfl ?_
    refine JL.skip rfl rfl ?_
    refine JL.skip rfl rfl ?_
    refine JL.skip rfl rfl ?_
    refine JL.pure rfl rfl (OpP.pickF rfl rfl) ?_
    refine JL.pure rfl rfl (OpP.move rfl) ?_
    refine JL.skip rfl rfl ?_
    refine JL.skip rfl rfl ?_
    refine JL.skip rfl rfl ?_
    refine JL.skip rfl rfl ?_
    refine JL.skip rfl rfl ?_
    refine JL.pure rfl rfl (OpP.pickF rfl rfl) ?_
    refine JL.pure rfl rfl (OpP.move rfl) ?_
    refine JL.skip rfl rfl ?_
    refine JL.skip rfl rfl ?_
    refine JL.skip rfl rfl ?_
    refine JL.skip rfl rfl ?_
    refine JL.skip rfl rfl ?_
    refine JL.pure rfl rfl (OpP.pickF rfl rfl) ?_
    refine JL.pure rfl rfl (OpP.move rfl) ?_
    refine JL.skip rfl rfl ?_
    refine JL.skip rfl rfl ?_
    refine JL.skip rfl rfl ?_
    refine JL.skip rfl rfl ?_
    refine JL.skip rfl rfl ?_
    refine JL.pure rfl rfl (OpP.pickF rfl rfl) ?_
    refine JL.pure rfl rfl (OpP.move rfl) ?_
    refine JL.skip rfl rfl ?_
    refine JL.skip rfl rfl ?_
    refine JL.skip rfl rfl ?_
    refine JL.skip rfl rfl ?_
    refine JL.skip rfl rfl ?_
    refine JL.pure rfl rfl (OpP.pickF rfl rfl) ?_
    refine JL.pure rfl rfl (OpP.move rfl) ?_
    refine JL.skip rfl rfl ?_
    refine JL.skip rfl rfl ?_
    refine JL.skip rfl rfl ?_
    refine JL.skip rfl rfl ?_
    refine JL.skip rfl rfl ?_
    refine JL.pure rfl rfl (OpP.pickF rfl rfl) ?_
    refine JL.pure rfl rfl (OpP.move rfl) ?_
    refine JL.skip rfl rfl ?_
    refine JL.skip rfl rfl ?_
    refine JL.skip rfl rfl ?_
    refine JL.skip rfl rfl ?_
    refine JL.skip rfl rfl ?_
    refine JL.pure rfl rfl (OpP.pickF rfl rfl) ?_
    refine JL.pure rfl rfl (OpP.assign rfl) ?_
    refine JL.nil ?_
    refine J.ret1 rfl rfl ?_
  rotate_left 1
  all_goals exact ⟨_, ⟨_, rfl, rfl, by simp_all [Cm.Eq, strB_inj]⟩, fun _ h => h.tail.tail⟩
end Go.Proofs.E
