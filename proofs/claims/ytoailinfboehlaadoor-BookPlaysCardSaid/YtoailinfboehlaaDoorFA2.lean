/- A text of the proof of a statement about the given program: its part FA2. No person has read it. -/
import Derived.Test.YtoailinfboehlaaDoorFInstM
import Derived.Test.YtoailinfboehlaaDoorFA1
import Derived.Test.YtoailinfboehlaaDoorFJ1
import Derived.Test.YtoailinfboehlaaDoorFJ2
-- seat f
-- (turned from seat a)
namespace Go.Proofs.F.Disk
open Go Go.Gp Go.RowKit

structure Dk where
  fuse : Int
  fl : List Sec
  now : List Sec
  ws : List (Nat × Sec)

abbrev secs (l : List Sec) : List Value := l.flatMap bcells
def wcell (p : Nat × Sec) : List Value := .int .i64 p.1 :: bcells p.2
abbrev wcells (l : List (Nat × Sec)) : List Value := l.flatMap wcell

structure Dk.Ok (D : Dk) : Prop where
  len : D.fl.length = D.now.length
  small : D.now.length ≤ 8192
  f0 : -1 ≤ D.fuse
  f1 : D.fuse ≤ 9223372036854775807
  fl64 : ∀ s ∈ D.fl, (bcells s).length = 64
  now64 : ∀ s ∈ D.now, (bcells s).length = 64
  ws64 : ∀ p ∈ D.ws, (wcell p).length = 65
  wsn : ∀ p ∈ D.ws, p.1 < D.now.length
  wsm : D.ws.length ≤ 1000

def diskL (g bf bn : Nat) (vw : Value) (D : Dk) : List HProp :=
  [row g 69 [.int .i64 D.fuse, .slice (some ⟨bf, 0, none⟩) D.now.length D.now.length, .slice (some ⟨bn, 0, none⟩) D.now.length D.now.length, vw],
  row bf 77 (secs D.fl), row bn 77 (secs D.now), own 79 65 vw D.ws.length (wcells D.ws)]

def diskR (g : Nat) (D : Dk) : HProp := hex fun bf => hex fun bn => hex fun vw => hpure D.Ok (hall (diskL g bf bn vw D))

theorem disk_out {w0 w : World} {g : Nat} {D : Dk} {F : List HProp} (h : Own w0 w (diskR g D :: F)) : ∃ x : Nat × Nat × Value, D.Ok ∧ Own w0 w (diskL g x.1 x.2.1 x.2.2 D ++ F) := by
  obtain ⟨bf, h⟩ := h.ex_out
  obtain ⟨bn, h⟩ := h.ex_out
  obtain ⟨vw, h⟩ := h.ex_out
  obtain ⟨hok, h⟩ := h.pure_out
  exact ⟨⟨bf, bn, vw⟩, hok, h.hall_out⟩

theorem disk_in {w0 w : World} {g bf bn : Nat} {vw : Value} {D : Dk} {F : List HProp} (hok : D.Ok) (h : Own w0 w (diskL g bf bn vw D ++ F)) : Own w0 w (diskR g D :: F) :=
  .ex_in bf (.ex_in bn (.ex_in vw (.pure_in hok h.hall_in)))

/-- What a call on a disk asks first. -/
theorem J.disk {C : Cx} {k : List Item} {env : Env} {g : Nat} {D : Dk} {F : List HProp} (h : ∀ bf bn wa wc, D.Ok → J C k env (
    row g 69 [.int .i64 D.fuse, .slice (some ⟨bf, 0, none⟩) D.now.length D.now.length, .slice (some ⟨bn, 0, none⟩) D.now.length D.now.length, .slice wa D.ws.length wc] ::
    row bf 77 (secs D.fl) :: row bn 77 (secs D.now) :: own 79 65 (.slice wa D.ws.length wc) D.ws.length (wcells D.ws) :: F)) : J C k env (diskR g D :: F) := by
  refine J.open (α := Nat × Nat × Option Addr × Nat) (p := fun _ => D.Ok) (l' := fun x => diskL g x.1 x.2.1 (.slice x.2.2.1 D.ws.length x.2.2.2) D ++ F) (fun w ho => ?_) fun x hok => h x.1 x.2.1 x.2.2.1 x.2.2.2 hok
  obtain ⟨⟨bf, bn, vw⟩, hok, ho⟩ := disk_out ho
  have hp : Own C.w0 w (own 79 65 vw D.ws.length (wcells D.ws) :: _) := Own.front 3 rfl ho
  obtain ⟨a, c, rfl⟩ := hp.own_lit
  exact ⟨⟨bf, bn, a, c⟩, hok, ho⟩

theorem off_ok {w0 : World} {g : Nat} {f : Int} {l : List HProp} (hm : Cell w0 l ⟨g, 0, none⟩ (.int .i64 f)) :
    FnO Tryd.prog w0 36 [.pointer (some ⟨g, 0 + 0, none⟩)] l (fun v l' => v = .bool (decide (f = 0)) ∧ l' = l) := by
  refine FnO.intro (n := 8) Tryd.func36 rfl rfl rfl ?_
  repeat' (first | refine J.seq ?_ | refine J.region ?_ | refine JL.nil ?_ | refine J.skip ?_ | refine J.block ?_ | refine J.inBlock ?_ | refine J.exit rfl ?_ | refine J.condT rfl ?_ | refine J.condF rfl ?_ | refine JL.skip rfl rfl ?_ | refine JL.skip0 rfl ?_ | refine JL.pure rfl rfl (by first | exact OpP.move rfl | exact OpP.assign rfl | exact OpP.nilCheck rfl | exact OpP.fieldAddr rfl | exact OpP.pickT rfl rfl | exact OpP.pickF rfl rfl | exact OpP.len rfl rfl | exact OpP.addI rfl rfl (by omega) (by omega) | exact OpP.subI rfl rfl (by omega) (by omega) | exact OpP.notB rfl | exact OpP.field1 rfl rfl | exact OpP.extract rfl rfl | exact OpP.indexAddr rfl rfl (by omega) (by omega) | exact OpP.indexAddrA rfl rfl (by omega) (by omega) | exact OpP.lenStr rfl rfl | exact OpP.lenArr rfl rfl | exact OpP.max rfl rfl | exact OpP.min rfl rfl | exact OpP.convI64 rfl (by omega) (by omega) | exact OpP.convStr rfl | exact OpP.add (k := .u8) rfl rfl | exact OpP.sub (k := .u8) rfl rfl | exact OpP.mul (k := .u8) rfl rfl | exact OpP.nePtrNil rfl rfl | exact OpP.eqPtrNil rfl rfl | exact OpP.eqSlNil rfl rfl | exact OpP.neSlNil rfl rfl | exact OpP.remI rfl rfl (by omega) (by omega) | exact OpP.makeFunc rfl rfl | exact OpP.nilCheckFn rfl | exact OpP.arrPtr rfl (by omega) | exact OpP.build rfl (by (repeat (first | exact Fills.nil | (apply Fills.cons rfl rfl rfl; (case' hs => ((repeat (first | exact Spl.nil | apply Spl.here | apply Spl.there)); done)))))) | exact OpP.buildA rfl (by (repeat (first | exact Fills.nil | (apply Fills.cons rfl rfl rfl; (case' hs => ((repeat (first | exact Spl.nil | apply Spl.here | apply Spl.there)); done))))))) ?_ | refine JL.decT rfl rfl (by first | exact OpP.lss rfl rfl | exact OpP.eql rfl rfl | exact OpP.neq rfl rfl | exact OpP.leq rfl rfl | exact OpP.gtr rfl rfl | exact OpP.geq rfl rfl | exact OpP.eqStr rfl rfl | exact OpP.neStr rfl rfl | exact OpP.eqBool rfl rfl | exact OpP.neBool rfl rfl) (by first | omega | assumption) ?_ | refine JL.decF rfl rfl (by first | exact OpP.lss rfl rfl | exact OpP.eql rfl rfl | exact OpP.neq rfl rfl | exact OpP.leq rfl rfl | exact OpP.gtr rfl rfl | exact OpP.geq rfl rfl | exact OpP.eqStr rfl rfl | exact OpP.neStr rfl rfl | exact OpP.eqBool rfl rfl | exact OpP.neBool rfl rfl) (by first | omega | assumption) ?_ | refine JL.read rfl rfl (OpR.load1 rfl (by (first | (apply Cell.row; (with_reducible repeat (first | exact .head | apply Has.tail)); rfl) | exact Cell.base (by assumption) | assumption))) ?_ | refine JL.read rfl rfl (by apply OpR.loadN rfl; apply Cells.full; (with_reducible repeat (first | exact .head | apply Has.tail)); rfl) ?_ | ((refine JL.mem0 rfl (by apply OpM.store1 rfl rfl rfl; (case' hu => (with_reducible repeat (first | exact .head | apply Upd.tail))); (case' hs => ((repeat (first | exact Spl.nil | apply Spl.here | apply Spl.there)); done))) ?_); rintro _ _ ⟨rfl, rfl⟩) | (refine JL.dec rfl rfl (by first | exact OpP.lss rfl rfl | exact OpP.eql rfl rfl | exact OpP.neq rfl rfl | exact OpP.leq rfl rfl | exact OpP.gtr rfl rfl | exact OpP.geq rfl rfl | exact OpP.eqStr rfl rfl | exact OpP.neStr rfl rfl | exact OpP.eqBool rfl rfl | exact OpP.neBool rfl rfl) (fun _ => ?_) (fun _ => ?_)))
  all_goals (first | refine J.ret1 rfl rfl ?_ | refine J.ret2 rfl rfl rfl ?_ | refine J.ret3 rfl rfl rfl rfl ?_ | refine J.ret0 rfl ?_ | refine J.fin0 rfl ?_ | (refine J.retC rfl rfl (by apply Cells.full; (with_reducible repeat (first | exact .head | apply Has.tail))) (by rfl) ?_) | (refine J.retC2 rfl rfl (by apply Cells.full; (with_reducible repeat (first | exact .head | apply Has.tail))) (by rfl) rfl ?_) | (refine J.retC3 rfl rfl (by apply Cells.full; (with_reducible repeat (first | exact .head | apply Has.tail))) (by rfl) rfl rfl ?_))
  all_goals simp [*]

theorem has_ok {w0 : World} {g n c : Nat} {a : Option Addr} {i : Int} {l : List HProp} (hm : Cell w0 l ⟨g, 2, none⟩ (.slice a n c)) :
    FnO Tryd.prog w0 45 [.pointer (some ⟨g, 0, none⟩), .int .i64 i] l (fun v l' => v = .bool (decide (0 ≤ i ∧ i < n)) ∧ l' = l) := by
  refine FnO.intro (n := 16) Tryd.func45 rfl rfl rfl ?_
  repeat' (first | refine J.seq ?_ | refine J.region ?_ | refine JL.nil ?_ | refine J.skip ?_ | refine J.block ?_ | refine J.inBlock ?_ | refine J.exit rfl ?_ | refine J.condT rfl ?_ | refine J.condF rfl ?_ | refine JL.skip rfl rfl ?_ | refine JL.skip0 rfl ?_ | refine JL.pure rfl rfl (by first | exact OpP.move rfl | exact OpP.assign rfl | exact OpP.nilCheck rfl | exact OpP.fieldAddr rfl | exact OpP.pickT rfl rfl | exact OpP.pickF rfl rfl | exact OpP.len rfl rfl | exact OpP.addI rfl rfl (by omega) (by omega) | exact OpP.subI rfl rfl (by omega) (by omega) | exact OpP.notB rfl | exact OpP.field1 rfl rfl | exact OpP.extract rfl rfl | exact OpP.indexAddr rfl rfl (by omega) (by omega) | exact OpP.indexAddrA rfl rfl (by omega) (by omega) | exact OpP.lenStr rfl rfl | exact OpP.lenArr rfl rfl | exact OpP.max rfl rfl | exact OpP.min rfl rfl | exact OpP.convI64 rfl (by omega) (by omega) | exact OpP.convStr rfl | exact OpP.add (k := .u8) rfl rfl | exact OpP.sub (k := .u8) rfl rfl | exact OpP.mul (k := .u8) rfl rfl | exact OpP.nePtrNil rfl rfl | exact OpP.eqPtrNil rfl rfl | exact OpP.eqSlNil rfl rfl | exact OpP.neSlNil rfl rfl | exact OpP.remI rfl rfl (by omega) (by omega) | exact OpP.makeFunc rfl rfl | exact OpP.nilCheckFn rfl | exact OpP.arrPtr rfl (by omega) | exact OpP.build rfl (by (repeat (first | exact Fills.nil | (apply Fills.cons rfl rfl rfl; (case' hs => ((repeat (first | exact Spl.nil | apply Spl.here | apply Spl.there)); done)))))) | exact OpP.buildA rfl (by (repeat (first | exact Fills.nil | (apply Fills.cons rfl rfl rfl; (case' hs => ((repeat (first | exact Spl.nil | apply Spl.here | apply Spl.there)); done))))))) ?_ | refine JL.decT rfl rfl (by first | exact OpP.lss rfl rfl | exact OpP.eql rfl rfl | exact OpP.neq rfl rfl | exact OpP.leq rfl rfl | exact OpP.gtr rfl rfl | exact OpP.geq rfl rfl | exact OpP.eqStr rfl rfl | exact OpP.neStr rfl rfl | exact OpP.eqBool rfl rfl | exact OpP.neBool rfl rfl) (by first | omega | assumption) ?_ | refine JL.decF rfl rfl (by first | exact OpP.lss rfl rfl | exact OpP.eql rfl rfl | exact OpP.neq rfl rfl | exact OpP.leq rfl rfl | exact OpP.gtr rfl rfl | exact OpP.geq rfl rfl | exact OpP.eqStr rfl rfl | exact OpP.neStr rfl rfl | exact OpP.eqBool rfl rfl | exact OpP.neBool rfl rfl) (by first | omega | assumption) ?_ | refine JL.read rfl rfl (OpR.load1 rfl (by (first | (apply Cell.row; (with_reducible repeat (first | exact .head | apply Has.tail)); rfl) | exact Cell.base (by assumption) | assumption))) ?_ | refine JL.read rfl rfl (by apply OpR.loadN rfl; apply Cells.full; (with_reducible repeat (first | exact .head | apply Has.tail)); rfl) ?_ | ((refine JL.mem0 rfl (by apply OpM.store1 rfl rfl rfl; (case' hu => (with_reducible repeat (first | exact .head | apply Upd.tail))); (case' hs => ((repeat (first | exact Spl.nil | apply Spl.here | apply Spl.there)); done))) ?_); rintro _ _ ⟨rfl, rfl⟩) | (refine JL.dec rfl rfl (by first | exact OpP.lss rfl rfl | exact OpP.eql rfl rfl | exact OpP.neq rfl rfl | exact OpP.leq rfl rfl | exact OpP.gtr rfl rfl | exact OpP.geq rfl rfl | exact OpP.eqStr rfl rfl | exact OpP.neStr rfl rfl | exact OpP.eqBool rfl rfl | exact OpP.neBool rfl rfl) (fun _ => ?_) (fun _ => ?_)))
  all_goals (first | refine J.ret1 rfl rfl ?_ | refine J.ret2 rfl rfl rfl ?_ | refine J.ret3 rfl rfl rfl rfl ?_ | refine J.ret0 rfl ?_ | refine J.fin0 rfl ?_ | (refine J.retC rfl rfl (by apply Cells.full; (with_reducible repeat (first | exact .head | apply Has.tail))) (by rfl) ?_) | (refine J.retC2 rfl rfl (by apply Cells.full; (with_reducible repeat (first | exact .head | apply Has.tail))) (by rfl) rfl ?_) | (refine J.retC3 rfl rfl (by apply Cells.full; (with_reducible repeat (first | exact .head | apply Has.tail))) (by rfl) rfl rfl ?_))
  all_goals (refine ⟨?_, rfl⟩; simp; omega)

def burnt (f : Int) : Int := if 0 < f then f - 1 else f

theorem burn_ok {w0 : World} {g : Nat} {f : Int} {t : Nat} {cs : List Value} {l : List HProp} (h0 : -1 ≤ f) (h1 : f ≤ 9223372036854775807) :
    FnO Tryd.prog w0 60 [.pointer (some ⟨g, 0 + 0, none⟩)] (row g t (.int .i64 f :: cs) :: l) (fun v l' => v = .tuple #[] ∧ l' = row g t (.int .i64 (burnt f) :: cs) :: l) := by
  refine FnO.intro (n := 14) Tryd.func60 rfl rfl rfl ?_
  repeat' (first | refine J.seq ?_ | refine J.region ?_ | refine JL.nil ?_ | refine J.skip ?_ | refine J.block ?_ | refine J.inBlock ?_ | refine J.exit rfl ?_ | refine J.condT rfl ?_ | refine J.condF rfl ?_ | refine JL.skip rfl rfl ?_ | refine JL.skip0 rfl ?_ | refine JL.pure rfl rfl (by first | exact OpP.move rfl | exact OpP.assign rfl | exact OpP.nilCheck rfl | exact OpP.fieldAddr rfl | exact OpP.pickT rfl rfl | exact OpP.pickF rfl rfl | exact OpP.len rfl rfl | exact OpP.addI rfl rfl (by omega) (by omega) | exact OpP.subI rfl rfl (by omega) (by omega) | exact OpP.notB rfl | exact OpP.field1 rfl rfl | exact OpP.extract rfl rfl | exact OpP.indexAddr rfl rfl (by omega) (by omega) | exact OpP.indexAddrA rfl rfl (by omega) (by omega) | exact OpP.lenStr rfl rfl | exact OpP.lenArr rfl rfl | exact OpP.max rfl rfl | exact OpP.min rfl rfl | exact OpP.convI64 rfl (by omega) (by omega) | exact OpP.convStr rfl | exact OpP.add (k := .u8) rfl rfl | exact OpP.sub (k := .u8) rfl rfl | exact OpP.mul (k := .u8) rfl rfl | exact OpP.nePtrNil rfl rfl | exact OpP.eqPtrNil rfl rfl | exact OpP.eqSlNil rfl rfl | exact OpP.neSlNil rfl rfl | exact OpP.remI rfl rfl (by omega) (by omega) | exact OpP.makeFunc rfl rfl | exact OpP.nilCheckFn rfl | exact OpP.arrPtr rfl (by omega) | exact OpP.build rfl (by (repeat (first | exact Fills.nil | (apply Fills.cons rfl rfl rfl; (case' hs => ((repeat (first | exact Spl.nil | apply Spl.here | apply Spl.there)); done)))))) | exact OpP.buildA rfl (by (repeat (first | exact Fills.nil | (apply Fills.cons rfl rfl rfl; (case' hs => ((repeat (first | exact Spl.nil | apply Spl.here | apply Spl.there)); done))))))) ?_ | refine JL.decT rfl rfl (by first | exact OpP.lss rfl rfl | exact OpP.eql rfl rfl | exact OpP.neq rfl rfl | exact OpP.leq rfl rfl | exact OpP.gtr rfl rfl | exact OpP.geq rfl rfl | exact OpP.eqStr rfl rfl | exact OpP.neStr rfl rfl | exact OpP.eqBool rfl rfl | exact OpP.neBool rfl rfl) (by first | omega | assumption) ?_ | refine JL.decF rfl rfl (by first | exact OpP.lss rfl rfl | exact OpP.eql rfl rfl | exact OpP.neq rfl rfl | exact OpP.leq rfl rfl | exact OpP.gtr rfl rfl | exact OpP.geq rfl rfl | exact OpP.eqStr rfl rfl | exact OpP.neStr rfl rfl | exact OpP.eqBool rfl rfl | exact OpP.neBool rfl rfl) (by first | omega | assumption) ?_ | refine JL.read rfl rfl (OpR.load1 rfl (by (first | (apply Cell.row; (with_reducible repeat (first | exact .head | apply Has.tail)); rfl) | exact Cell.base (by assumption) | assumption))) ?_ | refine JL.read rfl rfl (by apply OpR.loadN rfl; apply Cells.full; (with_reducible repeat (first | exact .head | apply Has.tail)); rfl) ?_ | ((refine JL.mem0 rfl (by apply OpM.store1 rfl rfl rfl; (case' hu => (with_reducible repeat (first | exact .head | apply Upd.tail))); (case' hs => ((repeat (first | exact Spl.nil | apply Spl.here | apply Spl.there)); done))) ?_); rintro _ _ ⟨rfl, rfl⟩) | (refine JL.dec rfl rfl (by first | exact OpP.lss rfl rfl | exact OpP.eql rfl rfl | exact OpP.neq rfl rfl | exact OpP.leq rfl rfl | exact OpP.gtr rfl rfl | exact OpP.geq rfl rfl | exact OpP.eqStr rfl rfl | exact OpP.neStr rfl rfl | exact OpP.eqBool rfl rfl | exact OpP.neBool rfl rfl) (fun _ => ?_) (fun _ => ?_)))
  all_goals (first | refine J.ret1 rfl rfl ?_ | refine J.ret2 rfl rfl rfl ?_ | refine J.ret3 rfl rfl rfl rfl ?_ | refine J.ret0 rfl ?_ | refine J.fin0 rfl ?_ | (refine J.retC rfl rfl (by apply Cells.full; (with_reducible repeat (first | exact .head | apply Has.tail))) (by rfl) ?_) | (refine J.retC2 rfl rfl (by apply Cells.full; (with_reducible repeat (first | exact .head | apply Has.tail))) (by rfl) rfl ?_) | (refine J.retC3 rfl rfl (by apply Cells.full; (with_reducible repeat (first | exact .head | apply Has.tail))) (by rfl) rfl rfl ?_))
  · rw [burnt, if_pos (by assumption)]; exact ⟨rfl, rfl⟩
  · rw [burnt, if_neg (by assumption)]; exact ⟨rfl, rfl⟩

theorem Waits_ok {w0 : World} {g : Nat} {D : Dk} {F : List HProp} :
    FnO Tryd.prog w0 23 [.pointer (some ⟨g, 0, none⟩)] (diskR g D :: F) (fun v l' => v = .int .i64 D.ws.length ∧ l' = diskR g D :: F) := by
  refine FnO.intro (n := 8) Tryd.func23 rfl rfl rfl ?_
  refine J.disk fun bf bn wa wc hok => ?_
  repeat' (first | refine J.seq ?_ | refine J.region ?_ | refine JL.nil ?_ | refine J.skip ?_ | refine J.block ?_ | refine J.inBlock ?_ | refine J.exit rfl ?_ | refine J.condT rfl ?_ | refine J.condF rfl ?_ | refine JL.skip rfl rfl ?_ | refine JL.skip0 rfl ?_ | refine JL.pure rfl rfl (by first | exact OpP.move rfl | exact OpP.assign rfl | exact OpP.nilCheck rfl | exact OpP.fieldAddr rfl | exact OpP.pickT rfl rfl | exact OpP.pickF rfl rfl | exact OpP.len rfl rfl | exact OpP.addI rfl rfl (by omega) (by omega) | exact OpP.subI rfl rfl (by omega) (by omega) | exact OpP.notB rfl | exact OpP.field1 rfl rfl | exact OpP.extract rfl rfl | exact OpP.indexAddr rfl rfl (by omega) (by omega) | exact OpP.indexAddrA rfl rfl (by omega) (by omega) | exact OpP.lenStr rfl rfl | exact OpP.lenArr rfl rfl | exact OpP.max rfl rfl | exact OpP.min rfl rfl | exact OpP.convI64 rfl (by omega) (by omega) | exact OpP.convStr rfl | exact OpP.add (k := .u8) rfl rfl | exact OpP.sub (k := .u8) rfl rfl | exact OpP.mul (k := .u8) rfl rfl | exact OpP.nePtrNil rfl rfl | exact OpP.eqPtrNil rfl rfl | exact OpP.eqSlNil rfl rfl | exact OpP.neSlNil rfl rfl | exact OpP.remI rfl rfl (by omega) (by omega) | exact OpP.makeFunc rfl rfl | exact OpP.nilCheckFn rfl | exact OpP.arrPtr rfl (by omega) | exact OpP.build rfl (by (repeat (first | exact Fills.nil | (apply Fills.cons rfl rfl rfl; (case' hs => ((repeat (first | exact Spl.nil | apply Spl.here | apply Spl.there)); done)))))) | exact OpP.buildA rfl (by (repeat (first | exact Fills.nil | (apply Fills.cons rfl rfl rfl; (case' hs => ((repeat (first | exact Spl.nil | apply Spl.here | apply Spl.there)); done))))))) ?_ | refine JL.decT rfl rfl (by first | exact OpP.lss rfl rfl | exact OpP.eql rfl rfl | exact OpP.neq rfl rfl | exact OpP.leq rfl rfl | exact OpP.gtr rfl rfl | exact OpP.geq rfl rfl | exact OpP.eqStr rfl rfl | exact OpP.neStr rfl rfl | exact OpP.eqBool rfl rfl | exact OpP.neBool rfl rfl) (by first | omega | assumption) ?_ | refine JL.decF rfl rfl (by first | exact OpP.lss rfl rfl | exact OpP.eql rfl rfl | exact OpP.neq rfl rfl | exact OpP.leq rfl rfl | exact OpP.gtr rfl rfl | exact OpP.geq rfl rfl | exact OpP.eqStr rfl rfl | exact OpP.neStr rfl rfl | exact OpP.eqBool rfl rfl | exact OpP.neBool rfl rfl) (by first | omega | assumption) ?_ | refine JL.read rfl rfl (OpR.load1 rfl (by (first | (apply Cell.row; (with_reducible repeat (first | exact .head | apply Has.tail)); rfl) | exact Cell.base (by assumption) | assumption))) ?_ | refine JL.read rfl rfl (by apply OpR.loadN rfl; apply Cells.full; (with_reducible repeat (first | exact .head | apply Has.tail)); rfl) ?_ | ((refine JL.mem0 rfl (by apply OpM.store1 rfl rfl rfl; (case' hu => (with_reducible repeat (first | exact .head | apply Upd.tail))); (case' hs => ((repeat (first | exact Spl.nil | apply Spl.here | apply Spl.there)); done))) ?_); rintro _ _ ⟨rfl, rfl⟩) | (refine JL.dec rfl rfl (by first | exact OpP.lss rfl rfl | exact OpP.eql rfl rfl | exact OpP.neq rfl rfl | exact OpP.leq rfl rfl | exact OpP.gtr rfl rfl | exact OpP.geq rfl rfl | exact OpP.eqStr rfl rfl | exact OpP.neStr rfl rfl | exact OpP.eqBool rfl rfl | exact OpP.neBool rfl rfl) (fun _ => ?_) (fun _ => ?_)))
  refine J.conv (l' := diskR g D :: F) (fun _ h => disk_in hok h) ?_
  (first | refine J.ret1 rfl rfl ?_ | refine J.ret2 rfl rfl rfl ?_ | refine J.ret3 rfl rfl rfl rfl ?_ | refine J.ret0 rfl ?_ | refine J.fin0 rfl ?_ | (refine J.retC rfl rfl (by apply Cells.full; (with_reducible repeat (first | exact .head | apply Has.tail))) (by rfl) ?_) | (refine J.retC2 rfl rfl (by apply Cells.full; (with_reducible repeat (first | exact .head | apply Has.tail))) (by rfl) rfl ?_) | (refine J.retC3 rfl rfl (by apply Cells.full; (with_reducible repeat (first | exact .head | apply Has.tail))) (by rfl) rfl rfl ?_))
  exact ⟨rfl, rfl⟩

theorem Sectors_ok {w0 : World} {g : Nat} {D : Dk} {F : List HProp} :
    FnO Tryd.prog w0 21 [.pointer (some ⟨g, 0, none⟩)] (diskR g D :: F) (fun v l' => v = .int .i64 D.now.length ∧ l' = diskR g D :: F) := by
  refine FnO.intro (n := 8) Tryd.func21 rfl rfl rfl ?_
  refine J.disk fun bf bn wa wc hok => ?_
  repeat' (first | refine J.seq ?_ | refine J.region ?_ | refine JL.nil ?_ | refine J.skip ?_ | refine J.block ?_ | refine J.inBlock ?_ | refine J.exit rfl ?_ | refine J.condT rfl ?_ | refine J.condF rfl ?_ | refine JL.skip rfl rfl ?_ | refine JL.skip0 rfl ?_ | refine JL.pure rfl rfl (by first | exact OpP.move rfl | exact OpP.assign rfl | exact OpP.nilCheck rfl | exact OpP.fieldAddr rfl | exact OpP.pickT rfl rfl | exact OpP.pickF rfl rfl | exact OpP.len rfl rfl | exact OpP.addI rfl rfl (by omega) (by omega) | exact OpP.subI rfl rfl (by omega) (by omega) | exact OpP.notB rfl | exact OpP.field1 rfl rfl | exact OpP.extract rfl rfl | exact OpP.indexAddr rfl rfl (by omega) (by omega) | exact OpP.indexAddrA rfl rfl (by omega) (by omega) | exact OpP.lenStr rfl rfl | exact OpP.lenArr rfl rfl | exact OpP.max rfl rfl | exact OpP.min rfl rfl | exact OpP.convI64 rfl (by omega) (by omega) | exact OpP.convStr rfl | exact OpP.add (k := .u8) rfl rfl | exact OpP.sub (k := .u8) rfl rfl | exact OpP.mul (k := .u8) rfl rfl | exact OpP.nePtrNil rfl rfl | exact OpP.eqPtrNil rfl rfl | exact OpP.eqSlNil rfl rfl | exact OpP.neSlNil rfl rfl | exact OpP.remI rfl rfl (by omega) (by omega) | exact OpP.makeFunc rfl rfl | exact OpP.nilCheckFn rfl | exact OpP.arrPtr rfl (by omega) | exact OpP.build rfl (by (repeat (first | exact Fills.nil | (apply Fills.cons rfl rfl rfl; (case' hs => ((repeat (first | exact Spl.nil | apply Spl.here | apply Spl.there)); done)))))) | exact OpP.buildA rfl (by (repeat (first | exact Fills.nil | (apply Fills.cons rfl rfl rfl; (case' hs => ((repeat (first | exact Spl.nil | apply Spl.here | apply Spl.there)); done))))))) ?_ | refine JL.decT rfl rfl (by first | exact OpP.lss rfl rfl | exact OpP.eql rfl rfl | exact OpP.neq rfl rfl | exact OpP.leq rfl rfl | exact OpP.gtr rfl rfl | exact OpP.geq rfl rfl | exact OpP.eqStr rfl rfl | exact OpP.neStr rfl rfl | exact OpP.eqBool rfl rfl | exact OpP.neBool rfl rfl) (by first | omega | assumption) ?_ | refine JL.decF rfl rfl (by first | exact OpP.lss rfl rfl | exact OpP.eql rfl rfl | exact OpP.neq rfl rfl | exact OpP.leq rfl rfl | exact OpP.gtr rfl rfl | exact OpP.geq rfl rfl | exact OpP.eqStr rfl rfl | exact OpP.neStr rfl rfl | exact OpP.eqBool rfl rfl | exact OpP.neBool rfl rfl) (by first | omega | assumption) ?_ | refine JL.read rfl rfl (OpR.load1 rfl (by (first | (apply Cell.row; (with_reducible repeat (first | exact .head | apply Has.tail)); rfl) | exact Cell.base (by assumption) | assumption))) ?_ | refine JL.read rfl rfl (by apply OpR.loadN rfl; apply Cells.full; (with_reducible repeat (first | exact .head | apply Has.tail)); rfl) ?_ | ((refine JL.mem0 rfl (by apply OpM.store1 rfl rfl rfl; (case' hu => (with_reducible repeat (first | exact .head | apply Upd.tail))); (case' hs => ((repeat (first | exact Spl.nil | apply Spl.here | apply Spl.there)); done))) ?_); rintro _ _ ⟨rfl, rfl⟩) | (refine JL.dec rfl rfl (by first | exact OpP.lss rfl rfl | exact OpP.eql rfl rfl | exact OpP.neq rfl rfl | exact OpP.leq rfl rfl | exact OpP.gtr rfl rfl | exact OpP.geq rfl rfl | exact OpP.eqStr rfl rfl | exact OpP.neStr rfl rfl | exact OpP.eqBool rfl rfl | exact OpP.neBool rfl rfl) (fun _ => ?_) (fun _ => ?_)))
  refine J.conv (l' := diskR g D :: F) (fun _ h => disk_in hok h) ?_
  (first | refine J.ret1 rfl rfl ?_ | refine J.ret2 rfl rfl rfl ?_ | refine J.ret3 rfl rfl rfl rfl ?_ | refine J.ret0 rfl ?_ | refine J.fin0 rfl ?_ | (refine J.retC rfl rfl (by apply Cells.full; (with_reducible repeat (first | exact .head | apply Has.tail))) (by rfl) ?_) | (refine J.retC2 rfl rfl (by apply Cells.full; (with_reducible repeat (first | exact .head | apply Has.tail))) (by rfl) rfl ?_) | (refine J.retC3 rfl rfl (by apply Cells.full; (with_reducible repeat (first | exact .head | apply Has.tail))) (by rfl) rfl rfl ?_))
  exact ⟨rfl, rfl⟩

theorem secs_len {l : List Sec} (h : ∀ s ∈ l, (bcells s).length = 64) : (secs l).length = l.length * 64 := chunk_length h
theorem secs_one (l : List Sec) : ∀ c ∈ secs l, c.oneCell' = true := by
  intro c hc
  obtain ⟨s, _, hs⟩ := List.mem_flatMap.1 hc
  exact bcells_one s c hs

theorem copy_secs {w0 : World} {l : List HProp} {b n c : Nat} {s : List Sec} (hm : Has (row b 77 (secs s)) l) (h : ∀ x ∈ s, (bcells x).length = 64) (hn : n = s.length) :
    ∀ w, Own w0 w l → (Builtin.firstCells 64 (Nat.min n n) (.slice (some ⟨b, 0, none⟩) n c)).run Tryd.prog w = .ok (secs s).toArray w := by
  intro w ho
  subst hn
  have e : Nat.min s.length s.length = s.length := Nat.min_self _
  rw [e]
  exact run_firstCells_some w 64 s.length _ _ c (secs s) (secs_len h) (fun j v hv => by rw [addr_add]; exact Cells.full (w0 := w0) hm w ho j v hv)

theorem spl_all {a b : List Value} (h : b.length = a.length) : Spl a 0 b b := by
  have := Spl.mk (cs := a) (vs := b) (o := 0) (by omega)
  have e : List.take 0 a ++ b ++ List.drop (0 + b.length) a = b := by simp [h]
  rw [e] at this
  exact this

theorem Flush_ok {w0 : World} {g : Nat} {D : Dk} {F : List HProp} :
    FnO Tryd.prog w0 43 [.pointer (some ⟨g, 0, none⟩)] (diskR g D :: F) (fun v l' => v = .int .i64 (if D.fuse = 0 then 5 else 0) ∧ l' = diskR g (if D.fuse = 0 then D else { D with fl := D.now, ws := [] }) :: F) := by
  refine FnO.intro (n := 19) Tryd.func43 rfl rfl rfl ?_
  refine J.disk fun bf bn wa wc hok => ?_
  repeat' (first | refine J.seq ?_ | refine J.region ?_ | refine JL.nil ?_ | refine J.skip ?_ | refine J.block ?_ | refine J.inBlock ?_ | refine J.exit rfl ?_ | refine J.condT rfl ?_ | refine J.condF rfl ?_ | refine JL.skip rfl rfl ?_ | refine JL.skip0 rfl ?_ | refine JL.pure rfl rfl (by first | exact OpP.move rfl | exact OpP.assign rfl | exact OpP.nilCheck rfl | exact OpP.fieldAddr rfl | exact OpP.pickT rfl rfl | exact OpP.pickF rfl rfl | exact OpP.len rfl rfl | exact OpP.addI rfl rfl (by omega) (by omega) | exact OpP.subI rfl rfl (by omega) (by omega) | exact OpP.notB rfl | exact OpP.field1 rfl rfl | exact OpP.extract rfl rfl | exact OpP.indexAddr rfl rfl (by omega) (by omega) | exact OpP.indexAddrA rfl rfl (by omega) (by omega) | exact OpP.lenStr rfl rfl | exact OpP.lenArr rfl rfl | exact OpP.max rfl rfl | exact OpP.min rfl rfl | exact OpP.convI64 rfl (by omega) (by omega) | exact OpP.convStr rfl | exact OpP.add (k := .u8) rfl rfl | exact OpP.sub (k := .u8) rfl rfl | exact OpP.mul (k := .u8) rfl rfl | exact OpP.nePtrNil rfl rfl | exact OpP.eqPtrNil rfl rfl | exact OpP.eqSlNil rfl rfl | exact OpP.neSlNil rfl rfl | exact OpP.remI rfl rfl (by omega) (by omega) | exact OpP.makeFunc rfl rfl | exact OpP.nilCheckFn rfl | exact OpP.arrPtr rfl (by omega) | exact OpP.build rfl (by (repeat (first | exact Fills.nil | (apply Fills.cons rfl rfl rfl; (case' hs => ((repeat (first | exact Spl.nil | apply Spl.here | apply Spl.there)); done)))))) | exact OpP.buildA rfl (by (repeat (first | exact Fills.nil | (apply Fills.cons rfl rfl rfl; (case' hs => ((repeat (first | exact Spl.nil | apply Spl.here | apply Spl.there)); done))))))) ?_ | refine JL.decT rfl rfl (by first | exact OpP.lss rfl rfl | exact OpP.eql rfl rfl | exact OpP.neq rfl rfl | exact OpP.leq rfl rfl | exact OpP.gtr rfl rfl | exact OpP.geq rfl rfl | exact OpP.eqStr rfl rfl | exact OpP.neStr rfl rfl | exact OpP.eqBool rfl rfl | exact OpP.neBool rfl rfl) (by first | omega | assumption) ?_ | refine JL.decF rfl rfl (by first | exact OpP.lss rfl rfl | exact OpP.eql rfl rfl | exact OpP.neq rfl rfl | exact OpP.leq rfl rfl | exact OpP.gtr rfl rfl | exact OpP.geq rfl rfl | exact OpP.eqStr rfl rfl | exact OpP.neStr rfl rfl | exact OpP.eqBool rfl rfl | exact OpP.neBool rfl rfl) (by first | omega | assumption) ?_ | refine JL.read rfl rfl (OpR.load1 rfl (by (first | (apply Cell.row; (with_reducible repeat (first | exact .head | apply Has.tail)); rfl) | exact Cell.base (by assumption) | assumption))) ?_ | refine JL.read rfl rfl (by apply OpR.loadN rfl; apply Cells.full; (with_reducible repeat (first | exact .head | apply Has.tail)); rfl) ?_ | ((refine JL.mem0 rfl (by apply OpM.store1 rfl rfl rfl; (case' hu => (with_reducible repeat (first | exact .head | apply Upd.tail))); (case' hs => ((repeat (first | exact Spl.nil | apply Spl.here | apply Spl.there)); done))) ?_); rintro _ _ ⟨rfl, rfl⟩) | (refine JL.dec rfl rfl (by first | exact OpP.lss rfl rfl | exact OpP.eql rfl rfl | exact OpP.neq rfl rfl | exact OpP.leq rfl rfl | exact OpP.gtr rfl rfl | exact OpP.geq rfl rfl | exact OpP.eqStr rfl rfl | exact OpP.neStr rfl rfl | exact OpP.eqBool rfl rfl | exact OpP.neBool rfl rfl) (fun _ => ?_) (fun _ => ?_)))
  refine JL.step rfl rfl (OpW.call (first := []) (captured := []) inferInstance rfl rfl  (off_ok (by (first | (apply Cell.row; (with_reducible repeat (first | exact .head | apply Has.tail)); rfl) | exact Cell.base (by assumption) | assumption)))) ?_; rintro _ _ ⟨rfl, rfl⟩
  by_cases h0 : D.fuse = 0
  · rw [decide_eq_true h0]
    repeat' (first | refine J.seq ?_ | refine J.region ?_ | refine JL.nil ?_ | refine J.skip ?_ | refine J.block ?_ | refine J.inBlock ?_ | refine J.exit rfl ?_ | refine J.condT rfl ?_ | refine J.condF rfl ?_ | refine JL.skip rfl rfl ?_ | refine JL.skip0 rfl ?_ | refine JL.pure rfl rfl (by first | exact OpP.move rfl | exact OpP.assign rfl | exact OpP.nilCheck rfl | exact OpP.fieldAddr rfl | exact OpP.pickT rfl rfl | exact OpP.pickF rfl rfl | exact OpP.len rfl rfl | exact OpP.addI rfl rfl (by omega) (by omega) | exact OpP.subI rfl rfl (by omega) (by omega) | exact OpP.notB rfl | exact OpP.field1 rfl rfl | exact OpP.extract rfl rfl | exact OpP.indexAddr rfl rfl (by omega) (by omega) | exact OpP.indexAddrA rfl rfl (by omega) (by omega) | exact OpP.lenStr rfl rfl | exact OpP.lenArr rfl rfl | exact OpP.max rfl rfl | exact OpP.min rfl rfl | exact OpP.convI64 rfl (by omega) (by omega) | exact OpP.convStr rfl | exact OpP.add (k := .u8) rfl rfl | exact OpP.sub (k := .u8) rfl rfl | exact OpP.mul (k := .u8) rfl rfl | exact OpP.nePtrNil rfl rfl | exact OpP.eqPtrNil rfl rfl | exact OpP.eqSlNil rfl rfl | exact OpP.neSlNil rfl rfl | exact OpP.remI rfl rfl (by omega) (by omega) | exact OpP.makeFunc rfl rfl | exact OpP.nilCheckFn rfl | exact OpP.arrPtr rfl (by omega) | exact OpP.build rfl (by (repeat (first | exact Fills.nil | (apply Fills.cons rfl rfl rfl; (case' hs => ((repeat (first | exact Spl.nil | apply Spl.here | apply Spl.there)); done)))))) | exact OpP.buildA rfl (by (repeat (first | exact Fills.nil | (apply Fills.cons rfl rfl rfl; (case' hs => ((repeat (first | exact Spl.nil | apply Spl.here | apply Spl.there)); done))))))) ?_ | refine JL.decT rfl rfl (by first | exact OpP.lss rfl rfl | exact OpP.eql rfl rfl | exact OpP.neq rfl rfl | exact OpP.leq rfl rfl | exact OpP.gtr rfl rfl | exact OpP.geq rfl rfl | exact OpP.eqStr rfl rfl | exact OpP.neStr rfl rfl | exact OpP.eqBool rfl rfl | exact OpP.neBool rfl rfl) (by first | omega | assumption) ?_ | refine JL.decF rfl rfl (by first | exact OpP.lss rfl rfl | exact OpP.eql rfl rfl | exact OpP.neq rfl rfl | exact OpP.leq rfl rfl | exact OpP.gtr rfl rfl | exact OpP.geq rfl rfl | exact OpP.eqStr rfl rfl | exact OpP.neStr rfl rfl | exact OpP.eqBool rfl rfl | exact OpP.neBool rfl rfl) (by first | omega | assumption) ?_ | refine JL.read rfl rfl (OpR.load1 rfl (by (first | (apply Cell.row; (with_reducible repeat (first | exact .head | apply Has.tail)); rfl) | exact Cell.base (by assumption) | assumption))) ?_ | refine JL.read rfl rfl (by apply OpR.loadN rfl; apply Cells.full; (with_reducible repeat (first | exact .head | apply Has.tail)); rfl) ?_ | ((refine JL.mem0 rfl (by apply OpM.store1 rfl rfl rfl; (case' hu => (with_reducible repeat (first | exact .head | apply Upd.tail))); (case' hs => ((repeat (first | exact Spl.nil | apply Spl.here | apply Spl.there)); done))) ?_); rintro _ _ ⟨rfl, rfl⟩) | (refine JL.dec rfl rfl (by first | exact OpP.lss rfl rfl | exact OpP.eql rfl rfl | exact OpP.neq rfl rfl | exact OpP.leq rfl rfl | exact OpP.gtr rfl rfl | exact OpP.geq rfl rfl | exact OpP.eqStr rfl rfl | exact OpP.neStr rfl rfl | exact OpP.eqBool rfl rfl | exact OpP.neBool rfl rfl) (fun _ => ?_) (fun _ => ?_)))
    refine J.conv (l' := diskR g D :: F) (fun _ h => disk_in hok h) ?_
    (first | refine J.ret1 rfl rfl ?_ | refine J.ret2 rfl rfl rfl ?_ | refine J.ret3 rfl rfl rfl rfl ?_ | refine J.ret0 rfl ?_ | refine J.fin0 rfl ?_ | (refine J.retC rfl rfl (by apply Cells.full; (with_reducible repeat (first | exact .head | apply Has.tail))) (by rfl) ?_) | (refine J.retC2 rfl rfl (by apply Cells.full; (with_reducible repeat (first | exact .head | apply Has.tail))) (by rfl) rfl ?_) | (refine J.retC3 rfl rfl (by apply Cells.full; (with_reducible repeat (first | exact .head | apply Has.tail))) (by rfl) rfl rfl ?_))
    simp [h0]
  · rw [decide_eq_false h0]
    repeat' (first | refine J.seq ?_ | refine J.region ?_ | refine JL.nil ?_ | refine J.skip ?_ | refine J.block ?_ | refine J.inBlock ?_ | refine J.exit rfl ?_ | refine J.condT rfl ?_ | refine J.condF rfl ?_ | refine JL.skip rfl rfl ?_ | refine JL.skip0 rfl ?_ | refine JL.pure rfl rfl (by first | exact OpP.move rfl | exact OpP.assign rfl | exact OpP.nilCheck rfl | exact OpP.fieldAddr rfl | exact OpP.pickT rfl rfl | exact OpP.pickF rfl rfl | exact OpP.len rfl rfl | exact OpP.addI rfl rfl (by omega) (by omega) | exact OpP.subI rfl rfl (by omega) (by omega) | exact OpP.notB rfl | exact OpP.field1 rfl rfl | exact OpP.extract rfl rfl | exact OpP.indexAddr rfl rfl (by omega) (by omega) | exact OpP.indexAddrA rfl rfl (by omega) (by omega) | exact OpP.lenStr rfl rfl | exact OpP.lenArr rfl rfl | exact OpP.max rfl rfl | exact OpP.min rfl rfl | exact OpP.convI64 rfl (by omega) (by omega) | exact OpP.convStr rfl | exact OpP.add (k := .u8) rfl rfl | exact OpP.sub (k := .u8) rfl rfl | exact OpP.mul (k := .u8) rfl rfl | exact OpP.nePtrNil rfl rfl | exact OpP.eqPtrNil rfl rfl | exact OpP.eqSlNil rfl rfl | exact OpP.neSlNil rfl rfl | exact OpP.remI rfl rfl (by omega) (by omega) | exact OpP.makeFunc rfl rfl | exact OpP.nilCheckFn rfl | exact OpP.arrPtr rfl (by omega) | exact OpP.build rfl (by (repeat (first | exact Fills.nil | (apply Fills.cons rfl rfl rfl; (case' hs => ((repeat (first | exact Spl.nil | apply Spl.here | apply Spl.there)); done)))))) | exact OpP.buildA rfl (by (repeat (first | exact Fills.nil | (apply Fills.cons rfl rfl rfl; (case' hs => ((repeat (first | exact Spl.nil | apply Spl.here | apply Spl.there)); done))))))) ?_ | refine JL.decT rfl rfl (by first | exact OpP.lss rfl rfl | exact OpP.eql rfl rfl | exact OpP.neq rfl rfl | exact OpP.leq rfl rfl | exact OpP.gtr rfl rfl | exact OpP.geq rfl rfl | exact OpP.eqStr rfl rfl | exact OpP.neStr rfl rfl | exact OpP.eqBool rfl rfl | exact OpP.neBool rfl rfl) (by first | omega | assumption) ?_ | refine JL.decF rfl rfl (by first | exact OpP.lss rfl rfl | exact OpP.eql rfl rfl | exact OpP.neq rfl rfl | exact OpP.leq rfl rfl | exact OpP.gtr rfl rfl | exact OpP.geq rfl rfl | exact OpP.eqStr rfl rfl | exact OpP.neStr rfl rfl | exact OpP.eqBool rfl rfl | exact OpP.neBool rfl rfl) (by first | omega | assumption) ?_ | refine JL.read rfl rfl (OpR.load1 rfl (by (first | (apply Cell.row; (with_reducible repeat (first | exact .head | apply Has.tail)); rfl) | exact Cell.base (by assumption) | assumption))) ?_ | refine JL.read rfl rfl (by apply OpR.loadN rfl; apply Cells.full; (with_reducible repeat (first | exact .head | apply Has.tail)); rfl) ?_ | ((refine JL.mem0 rfl (by apply OpM.store1 rfl rfl rfl; (case' hu => (with_reducible repeat (first | exact .head | apply Upd.tail))); (case' hs => ((repeat (first | exact Spl.nil | apply Spl.here | apply Spl.there)); done))) ?_); rintro _ _ ⟨rfl, rfl⟩) | (refine JL.dec rfl rfl (by first | exact OpP.lss rfl rfl | exact OpP.eql rfl rfl | exact OpP.neq rfl rfl | exact OpP.leq rfl rfl | exact OpP.gtr rfl rfl | exact OpP.geq rfl rfl | exact OpP.eqStr rfl rfl | exact OpP.neStr rfl rfl | exact OpP.eqBool rfl rfl | exact OpP.neBool rfl rfl) (fun _ => ?_) (fun _ => ?_)))
    refine J.regionD [3, 7] (by kernel_rfl) ?_
    (refine DL.pure (i := 0) (by kernel_rfl) (by kernel_rfl) rfl rfl rfl (OpP.move rfl) ?_; refine DL.pure (i := 1) (by kernel_rfl) (by kernel_rfl) rfl rfl rfl (by first | exact OpP.nilCheck rfl | exact OpP.nilCheckFn rfl) ?_; refine DL.pure (i := 2) (by kernel_rfl) (by kernel_rfl) rfl rfl rfl (OpP.fieldAddr rfl) ?_; (first | refine DL.read (i := 3) (by kernel_rfl) (by kernel_rfl) rfl rfl rfl (by first | exact fun _ h => h | exact fun _ h => h.tail | exact fun _ h => h.tail.tail | exact fun _ h => h.tail.tail.tail) (OpR.load1 rfl (by (first | (apply Cell.row; (with_reducible repeat (first | exact .head | apply Has.tail)); rfl) | exact Cell.base (by assumption) | assumption))) ?_ | refine DL.read (i := 3) (by kernel_rfl) (by kernel_rfl) rfl rfl rfl (by first | exact fun _ h => h | exact fun _ h => h.tail | exact fun _ h => h.tail.tail | exact fun _ h => h.tail.tail.tail) (by apply OpR.loadN rfl; apply Cells.full; (with_reducible repeat (first | exact .head | apply Has.tail)); rfl) ?_); refine DL.pure (i := 4) (by kernel_rfl) (by kernel_rfl) rfl rfl rfl (OpP.move rfl) ?_; refine DL.pure (i := 5) (by kernel_rfl) (by kernel_rfl) rfl rfl rfl (by first | exact OpP.nilCheck rfl | exact OpP.nilCheckFn rfl) ?_; refine DL.pure (i := 6) (by kernel_rfl) (by kernel_rfl) rfl rfl rfl (OpP.fieldAddr rfl) ?_; (first | refine DL.read (i := 7) (by kernel_rfl) (by kernel_rfl) rfl rfl rfl (by first | exact fun _ h => h | exact fun _ h => h.tail | exact fun _ h => h.tail.tail | exact fun _ h => h.tail.tail.tail) (OpR.load1 rfl (by (first | (apply Cell.row; (with_reducible repeat (first | exact .head | apply Has.tail)); rfl) | exact Cell.base (by assumption) | assumption))) ?_ | refine DL.read (i := 7) (by kernel_rfl) (by kernel_rfl) rfl rfl rfl (by first | exact fun _ h => h | exact fun _ h => h.tail | exact fun _ h => h.tail.tail | exact fun _ h => h.tail.tail.tail) (by apply OpR.loadN rfl; apply Cells.full; (with_reducible repeat (first | exact .head | apply Has.tail)); rfl) ?_)) -- then: 8 call({callee:=Callee.builtin(Go.Builtin.copy), args:=#[t10, t14], argTypes:=#[66, 66]})
    refine DL.only (i := 8) (by kernel_rfl) ?_
    refine DL1.stepF rfl rfl rfl (by kernel_rfl) (OpM.w (by apply OpM.copy (cs := secs D.fl) rfl rfl rfl (fun _ => rfl) (copy_secs (by (with_reducible repeat (first | exact .head | apply Has.tail))) hok.now64 rfl) (secs_one _) (spl_all (by rw [secs_len hok.now64, secs_len hok.fl64, hok.len])); (with_reducible repeat (first | exact .head | apply Upd.tail)))) ?_
    rintro _ _ ⟨rfl, rfl⟩
    (skip; refine DL.done (by kernel_rfl) ?_) -- then: 
    repeat' (first | refine J.seq ?_ | refine J.region ?_ | refine JL.nil ?_ | refine J.skip ?_ | refine J.block ?_ | refine J.inBlock ?_ | refine J.exit rfl ?_ | refine J.condT rfl ?_ | refine J.condF rfl ?_ | refine JL.skip rfl rfl ?_ | refine JL.skip0 rfl ?_ | refine JL.pure rfl rfl (by first | exact OpP.move rfl | exact OpP.assign rfl | exact OpP.nilCheck rfl | exact OpP.fieldAddr rfl | exact OpP.pickT rfl rfl | exact OpP.pickF rfl rfl | exact OpP.len rfl rfl | exact OpP.addI rfl rfl (by omega) (by omega) | exact OpP.subI rfl rfl (by omega) (by omega) | exact OpP.notB rfl | exact OpP.field1 rfl rfl | exact OpP.extract rfl rfl | exact OpP.indexAddr rfl rfl (by omega) (by omega) | exact OpP.indexAddrA rfl rfl (by omega) (by omega) | exact OpP.lenStr rfl rfl | exact OpP.lenArr rfl rfl | exact OpP.max rfl rfl | exact OpP.min rfl rfl | exact OpP.convI64 rfl (by omega) (by omega) | exact OpP.convStr rfl | exact OpP.add (k := .u8) rfl rfl | exact OpP.sub (k := .u8) rfl rfl | exact OpP.mul (k := .u8) rfl rfl | exact OpP.nePtrNil rfl rfl | exact OpP.eqPtrNil rfl rfl | exact OpP.eqSlNil rfl rfl | exact OpP.neSlNil rfl rfl | exact OpP.remI rfl rfl (by omega) (by omega) | exact OpP.makeFunc rfl rfl | exact OpP.nilCheckFn rfl | exact OpP.arrPtr rfl (by omega) | exact OpP.build rfl (by (repeat (first | exact Fills.nil | (apply Fills.cons rfl rfl rfl; (case' hs => ((repeat (first | exact Spl.nil | apply Spl.here | apply Spl.there)); done)))))) | exact OpP.buildA rfl (by (repeat (first | exact Fills.nil | (apply Fills.cons rfl rfl rfl; (case' hs => ((repeat (first | exact Spl.nil | apply Spl.here | apply Spl.there)); done))))))) ?_ | refine JL.decT rfl rfl (by first | exact OpP.lss rfl rfl | exact OpP.eql rfl rfl | exact OpP.neq rfl rfl | exact OpP.leq rfl rfl | exact OpP.gtr rfl rfl | exact OpP.geq rfl rfl | exact OpP.eqStr rfl rfl | exact OpP.neStr rfl rfl | exact OpP.eqBool rfl rfl | exact OpP.neBool rfl rfl) (by first | omega | assumption) ?_ | refine JL.decF rfl rfl (by first | exact OpP.lss rfl rfl | exact OpP.eql rfl rfl | exact OpP.neq rfl rfl | exact OpP.leq rfl rfl | exact OpP.gtr rfl rfl | exact OpP.geq rfl rfl | exact OpP.eqStr rfl rfl | exact OpP.neStr rfl rfl | exact OpP.eqBool rfl rfl | exact OpP.neBool rfl rfl) (by first | omega | assumption) ?_ | refine JL.read rfl rfl (OpR.load1 rfl (by (first | (apply Cell.row; (with_reducible repeat (first | exact .head | apply Has.tail)); rfl) | exact Cell.base (by assumption) | assumption))) ?_ | refine JL.read rfl rfl (by apply OpR.loadN rfl; apply Cells.full; (with_reducible repeat (first | exact .head | apply Has.tail)); rfl) ?_ | ((refine JL.mem0 rfl (by apply OpM.store1 rfl rfl rfl; (case' hu => (with_reducible repeat (first | exact .head | apply Upd.tail))); (case' hs => ((repeat (first | exact Spl.nil | apply Spl.here | apply Spl.there)); done))) ?_); rintro _ _ ⟨rfl, rfl⟩) | (refine JL.dec rfl rfl (by first | exact OpP.lss rfl rfl | exact OpP.eql rfl rfl | exact OpP.neq rfl rfl | exact OpP.leq rfl rfl | exact OpP.gtr rfl rfl | exact OpP.geq rfl rfl | exact OpP.eqStr rfl rfl | exact OpP.neStr rfl rfl | exact OpP.eqBool rfl rfl | exact OpP.neBool rfl rfl) (fun _ => ?_) (fun _ => ?_)))
    refine J.conv (l' := diskR g { D with fl := D.now, ws := [] } :: F) (fun _ h => ?_) ?_
    · refine disk_in (D := { D with fl := D.now, ws := [] }) (bf := bf) (bn := bn) (vw := .slice none 0 0) { hok with len := rfl, fl64 := hok.now64, ws64 := by simp, wsn := by simp, wsm := by simp } ?_
      exact Own.pick (pre := [_, _, _, _]) [1, 2, 3, 0] rfl (Own.own_nil (Own.pick (pre := [_, _, _, _]) [0, 1, 2] rfl h))
    (first | refine J.ret1 rfl rfl ?_ | refine J.ret2 rfl rfl rfl ?_ | refine J.ret3 rfl rfl rfl rfl ?_ | refine J.ret0 rfl ?_ | refine J.fin0 rfl ?_ | (refine J.retC rfl rfl (by apply Cells.full; (with_reducible repeat (first | exact .head | apply Has.tail))) (by rfl) ?_) | (refine J.retC2 rfl rfl (by apply Cells.full; (with_reducible repeat (first | exact .head | apply Has.tail))) (by rfl) rfl ?_) | (refine J.retC3 rfl rfl (by apply Cells.full; (with_reducible repeat (first | exact .head | apply Has.tail))) (by rfl) rfl rfl ?_))
    simp [h0]

theorem Clone_ok {w0 : World} {l : List HProp} {v : Value} {bs : List UInt8} (hr : Rd w0 l v bs.length (bcells bs)) (hl : bs.length ≤ 1000000) (hne : bs ≠ []) :
    FnO Tryd.prog w0 46 [v] l (fun u l' => l' = own 5 1 u bs.length (bcells bs) :: l) := by
  obtain ⟨b, o, cap, rfl, hcap, hc⟩ := hr.pos (by cases bs with | nil => exact absurd rfl hne | cons => simp)
  refine FnO.intro (n := 8) Tryd.func46 rfl rfl rfl ?_
  repeat' (first | refine J.seq ?_ | refine J.region ?_ | refine JL.nil ?_ | refine J.skip ?_ | refine J.block ?_ | refine J.inBlock ?_ | refine J.exit rfl ?_ | refine J.condT rfl ?_ | refine J.condF rfl ?_ | refine JL.skip rfl rfl ?_ | refine JL.skip0 rfl ?_ | refine JL.pure rfl rfl (by first | exact OpP.move rfl | exact OpP.assign rfl | exact OpP.nilCheck rfl | exact OpP.fieldAddr rfl | exact OpP.pickT rfl rfl | exact OpP.pickF rfl rfl | exact OpP.len rfl rfl | exact OpP.addI rfl rfl (by omega) (by omega) | exact OpP.subI rfl rfl (by omega) (by omega) | exact OpP.notB rfl | exact OpP.field1 rfl rfl | exact OpP.extract rfl rfl | exact OpP.indexAddr rfl rfl (by omega) (by omega) | exact OpP.indexAddrA rfl rfl (by omega) (by omega) | exact OpP.lenStr rfl rfl | exact OpP.lenArr rfl rfl | exact OpP.max rfl rfl | exact OpP.min rfl rfl | exact OpP.convI64 rfl (by omega) (by omega) | exact OpP.convStr rfl | exact OpP.add (k := .u8) rfl rfl | exact OpP.sub (k := .u8) rfl rfl | exact OpP.mul (k := .u8) rfl rfl | exact OpP.nePtrNil rfl rfl | exact OpP.eqPtrNil rfl rfl | exact OpP.eqSlNil rfl rfl | exact OpP.neSlNil rfl rfl | exact OpP.remI rfl rfl (by omega) (by omega) | exact OpP.makeFunc rfl rfl | exact OpP.nilCheckFn rfl | exact OpP.arrPtr rfl (by omega) | exact OpP.build rfl (by (repeat (first | exact Fills.nil | (apply Fills.cons rfl rfl rfl; (case' hs => ((repeat (first | exact Spl.nil | apply Spl.here | apply Spl.there)); done)))))) | exact OpP.buildA rfl (by (repeat (first | exact Fills.nil | (apply Fills.cons rfl rfl rfl; (case' hs => ((repeat (first | exact Spl.nil | apply Spl.here | apply Spl.there)); done))))))) ?_ | refine JL.decT rfl rfl (by first | exact OpP.lss rfl rfl | exact OpP.eql rfl rfl | exact OpP.neq rfl rfl | exact OpP.leq rfl rfl | exact OpP.gtr rfl rfl | exact OpP.geq rfl rfl | exact OpP.eqStr rfl rfl | exact OpP.neStr rfl rfl | exact OpP.eqBool rfl rfl | exact OpP.neBool rfl rfl) (by first | omega | assumption) ?_ | refine JL.decF rfl rfl (by first | exact OpP.lss rfl rfl | exact OpP.eql rfl rfl | exact OpP.neq rfl rfl | exact OpP.leq rfl rfl | exact OpP.gtr rfl rfl | exact OpP.geq rfl rfl | exact OpP.eqStr rfl rfl | exact OpP.neStr rfl rfl | exact OpP.eqBool rfl rfl | exact OpP.neBool rfl rfl) (by first | omega | assumption) ?_ | refine JL.read rfl rfl (OpR.load1 rfl (by (first | (apply Cell.row; (with_reducible repeat (first | exact .head | apply Has.tail)); rfl) | exact Cell.base (by assumption) | assumption))) ?_ | refine JL.read rfl rfl (by apply OpR.loadN rfl; apply Cells.full; (with_reducible repeat (first | exact .head | apply Has.tail)); rfl) ?_ | ((refine JL.mem0 rfl (by apply OpM.store1 rfl rfl rfl; (case' hu => (with_reducible repeat (first | exact .head | apply Upd.tail))); (case' hs => ((repeat (first | exact Spl.nil | apply Spl.here | apply Spl.there)); done))) ?_); rintro _ _ ⟨rfl, rfl⟩) | (refine JL.dec rfl rfl (by first | exact OpP.lss rfl rfl | exact OpP.eql rfl rfl | exact OpP.neq rfl rfl | exact OpP.leq rfl rfl | exact OpP.gtr rfl rfl | exact OpP.geq rfl rfl | exact OpP.eqStr rfl rfl | exact OpP.neStr rfl rfl | exact OpP.eqBool rfl rfl | exact OpP.neBool rfl rfl) (fun _ => ?_) (fun _ => ?_)))
  refine JL.mem rfl rfl (by apply OpM.buildSlice (by rfl) rfl (by rfl); (repeat (first | exact Fills.nil | (apply Fills.cons rfl rfl rfl; (case' hs => ((repeat (first | exact Spl.nil | apply Spl.here | apply Spl.there)); done)))))) ?_
  rintro _ _ ⟨b2, rfl, rfl⟩
  repeat' (first | refine J.seq ?_ | refine J.region ?_ | refine JL.nil ?_ | refine J.skip ?_ | refine J.block ?_ | refine J.inBlock ?_ | refine J.exit rfl ?_ | refine J.condT rfl ?_ | refine J.condF rfl ?_ | refine JL.skip rfl rfl ?_ | refine JL.skip0 rfl ?_ | refine JL.pure rfl rfl (by first | exact OpP.move rfl | exact OpP.assign rfl | exact OpP.nilCheck rfl | exact OpP.fieldAddr rfl | exact OpP.pickT rfl rfl | exact OpP.pickF rfl rfl | exact OpP.len rfl rfl | exact OpP.addI rfl rfl (by omega) (by omega) | exact OpP.subI rfl rfl (by omega) (by omega) | exact OpP.notB rfl | exact OpP.field1 rfl rfl | exact OpP.extract rfl rfl | exact OpP.indexAddr rfl rfl (by omega) (by omega) | exact OpP.indexAddrA rfl rfl (by omega) (by omega) | exact OpP.lenStr rfl rfl | exact OpP.lenArr rfl rfl | exact OpP.max rfl rfl | exact OpP.min rfl rfl | exact OpP.convI64 rfl (by omega) (by omega) | exact OpP.convStr rfl | exact OpP.add (k := .u8) rfl rfl | exact OpP.sub (k := .u8) rfl rfl | exact OpP.mul (k := .u8) rfl rfl | exact OpP.nePtrNil rfl rfl | exact OpP.eqPtrNil rfl rfl | exact OpP.eqSlNil rfl rfl | exact OpP.neSlNil rfl rfl | exact OpP.remI rfl rfl (by omega) (by omega) | exact OpP.makeFunc rfl rfl | exact OpP.nilCheckFn rfl | exact OpP.arrPtr rfl (by omega) | exact OpP.build rfl (by (repeat (first | exact Fills.nil | (apply Fills.cons rfl rfl rfl; (case' hs => ((repeat (first | exact Spl.nil | apply Spl.here | apply Spl.there)); done)))))) | exact OpP.buildA rfl (by (repeat (first | exact Fills.nil | (apply Fills.cons rfl rfl rfl; (case' hs => ((repeat (first | exact Spl.nil | apply Spl.here | apply Spl.there)); done))))))) ?_ | refine JL.decT rfl rfl (by first | exact OpP.lss rfl rfl | exact OpP.eql rfl rfl | exact OpP.neq rfl rfl | exact OpP.leq rfl rfl | exact OpP.gtr rfl rfl | exact OpP.geq rfl rfl | exact OpP.eqStr rfl rfl | exact OpP.neStr rfl rfl | exact OpP.eqBool rfl rfl | exact OpP.neBool rfl rfl) (by first | omega | assumption) ?_ | refine JL.decF rfl rfl (by first | exact OpP.lss rfl rfl | exact OpP.eql rfl rfl | exact OpP.neq rfl rfl | exact OpP.leq rfl rfl | exact OpP.gtr rfl rfl | exact OpP.geq rfl rfl | exact OpP.eqStr rfl rfl | exact OpP.neStr rfl rfl | exact OpP.eqBool rfl rfl | exact OpP.neBool rfl rfl) (by first | omega | assumption) ?_ | refine JL.read rfl rfl (OpR.load1 rfl (by (first | (apply Cell.row; (with_reducible repeat (first | exact .head | apply Has.tail)); rfl) | exact Cell.base (by assumption) | assumption))) ?_ | refine JL.read rfl rfl (by apply OpR.loadN rfl; apply Cells.full; (with_reducible repeat (first | exact .head | apply Has.tail)); rfl) ?_ | ((refine JL.mem0 rfl (by apply OpM.store1 rfl rfl rfl; (case' hu => (with_reducible repeat (first | exact .head | apply Upd.tail))); (case' hs => ((repeat (first | exact Spl.nil | apply Spl.here | apply Spl.there)); done))) ?_); rintro _ _ ⟨rfl, rfl⟩) | (refine JL.dec rfl rfl (by first | exact OpP.lss rfl rfl | exact OpP.eql rfl rfl | exact OpP.neq rfl rfl | exact OpP.leq rfl rfl | exact OpP.gtr rfl rfl | exact OpP.geq rfl rfl | exact OpP.eqStr rfl rfl | exact OpP.neStr rfl rfl | exact OpP.eqBool rfl rfl | exact OpP.neBool rfl rfl) (fun _ => ?_) (fun _ => ?_)))
  refine JL.conv (l' := own 5 1 (.slice (some ⟨b2, 0, none⟩) 0 0) 0 [] :: l) (fun w h => Own.own_whole (by decide) rfl h) ?_
  refine JL.mem rfl rfl (by apply OpM.append (L := fun r => own 5 1 r (0 + bs.length) ([] ++ bcells bs) :: l) rfl (.inl ⟨_, Sl.und inferInstance⟩) (by rfl) rfl rfl (Src.slice (hc.conv fun _ h => h.tail) (by simp [bcells_length])) (bcells_one _) (by simp [maxLen]; omega) (by omega) (fun _ => .head)) ?_
  rintro v' _ ⟨_, rfl⟩
  repeat' (first | refine J.seq ?_ | refine J.region ?_ | refine JL.nil ?_ | refine J.skip ?_ | refine J.block ?_ | refine J.inBlock ?_ | refine J.exit rfl ?_ | refine J.condT rfl ?_ | refine J.condF rfl ?_ | refine JL.skip rfl rfl ?_ | refine JL.skip0 rfl ?_ | refine JL.pure rfl rfl (by first | exact OpP.move rfl | exact OpP.assign rfl | exact OpP.nilCheck rfl | exact OpP.fieldAddr rfl | exact OpP.pickT rfl rfl | exact OpP.pickF rfl rfl | exact OpP.len rfl rfl | exact OpP.addI rfl rfl (by omega) (by omega) | exact OpP.subI rfl rfl (by omega) (by omega) | exact OpP.notB rfl | exact OpP.field1 rfl rfl | exact OpP.extract rfl rfl | exact OpP.indexAddr rfl rfl (by omega) (by omega) | exact OpP.indexAddrA rfl rfl (by omega) (by omega) | exact OpP.lenStr rfl rfl | exact OpP.lenArr rfl rfl | exact OpP.max rfl rfl | exact OpP.min rfl rfl | exact OpP.convI64 rfl (by omega) (by omega) | exact OpP.convStr rfl | exact OpP.add (k := .u8) rfl rfl | exact OpP.sub (k := .u8) rfl rfl | exact OpP.mul (k := .u8) rfl rfl | exact OpP.nePtrNil rfl rfl | exact OpP.eqPtrNil rfl rfl | exact OpP.eqSlNil rfl rfl | exact OpP.neSlNil rfl rfl | exact OpP.remI rfl rfl (by omega) (by omega) | exact OpP.makeFunc rfl rfl | exact OpP.nilCheckFn rfl | exact OpP.arrPtr rfl (by omega) | exact OpP.build rfl (by (repeat (first | exact Fills.nil | (apply Fills.cons rfl rfl rfl; (case' hs => ((repeat (first | exact Spl.nil | apply Spl.here | apply Spl.there)); done)))))) | exact OpP.buildA rfl (by (repeat (first | exact Fills.nil | (apply Fills.cons rfl rfl rfl; (case' hs => ((repeat (first | exact Spl.nil | apply Spl.here | apply Spl.there)); done))))))) ?_ | refine JL.decT rfl rfl (by first | exact OpP.lss rfl rfl | exact OpP.eql rfl rfl | exact OpP.neq rfl rfl | exact OpP.leq rfl rfl | exact OpP.gtr rfl rfl | exact OpP.geq rfl rfl | exact OpP.eqStr rfl rfl | exact OpP.neStr rfl rfl | exact OpP.eqBool rfl rfl | exact OpP.neBool rfl rfl) (by first | omega | assumption) ?_ | refine JL.decF rfl rfl (by first | exact OpP.lss rfl rfl | exact OpP.eql rfl rfl | exact OpP.neq rfl rfl | exact OpP.leq rfl rfl | exact OpP.gtr rfl rfl | exact OpP.geq rfl rfl | exact OpP.eqStr rfl rfl | exact OpP.neStr rfl rfl | exact OpP.eqBool rfl rfl | exact OpP.neBool rfl rfl) (by first | omega | assumption) ?_ | refine JL.read rfl rfl (OpR.load1 rfl (by (first | (apply Cell.row; (with_reducible repeat (first | exact .head | apply Has.tail)); rfl) | exact Cell.base (by assumption) | assumption))) ?_ | refine JL.read rfl rfl (by apply OpR.loadN rfl; apply Cells.full; (with_reducible repeat (first | exact .head | apply Has.tail)); rfl) ?_ | ((refine JL.mem0 rfl (by apply OpM.store1 rfl rfl rfl; (case' hu => (with_reducible repeat (first | exact .head | apply Upd.tail))); (case' hs => ((repeat (first | exact Spl.nil | apply Spl.here | apply Spl.there)); done))) ?_); rintro _ _ ⟨rfl, rfl⟩) | (refine JL.dec rfl rfl (by first | exact OpP.lss rfl rfl | exact OpP.eql rfl rfl | exact OpP.neq rfl rfl | exact OpP.leq rfl rfl | exact OpP.gtr rfl rfl | exact OpP.geq rfl rfl | exact OpP.eqStr rfl rfl | exact OpP.neStr rfl rfl | exact OpP.eqBool rfl rfl | exact OpP.neBool rfl rfl) (fun _ => ?_) (fun _ => ?_)))
  simp only [Nat.zero_add, List.nil_append]
  (first | refine J.ret1 rfl rfl ?_ | refine J.ret2 rfl rfl rfl ?_ | refine J.ret3 rfl rfl rfl rfl ?_ | refine J.ret0 rfl ?_ | refine J.fin0 rfl ?_ | (refine J.retC rfl rfl (by apply Cells.full; (with_reducible repeat (first | exact .head | apply Has.tail))) (by rfl) ?_) | (refine J.retC2 rfl rfl (by apply Cells.full; (with_reducible repeat (first | exact .head | apply Has.tail))) (by rfl) rfl ?_) | (refine J.retC3 rfl rfl (by apply Cells.full; (with_reducible repeat (first | exact .head | apply Has.tail))) (by rfl) rfl rfl ?_))
  rfl

theorem Read_ok {w0 : World} {g : Nat} {D : Dk} {i : Int} {F : List HProp} :
    FnO Tryd.prog w0 34 [.pointer (some ⟨g, 0, none⟩), .int .i64 i] (diskR g D :: F) (fun v l' =>
      (D.fuse = 0 ∧ v = .tuple #[.slice none 0 0, .int .i64 5] ∧ l' = diskR g D :: F) ∨
      (D.fuse ≠ 0 ∧ ¬ (0 ≤ i ∧ i < D.now.length) ∧ v = .tuple #[.slice none 0 0, .int .i64 1] ∧ l' = diskR g D :: F) ∨
      (D.fuse ≠ 0 ∧ 0 ≤ i ∧ ∃ u s, D.now[i.toNat]? = some s ∧ s.length = 64 ∧ v = .tuple #[u, .int .i64 0] ∧ l' = own 5 1 u 64 (bcells s) :: diskR g D :: F)) := by
  refine FnO.intro (n := 24) Tryd.func34 rfl rfl rfl ?_
  refine J.disk fun bf bn wa wc hok => ?_
  repeat' (first | refine J.seq ?_ | refine J.region ?_ | refine JL.nil ?_ | refine J.skip ?_ | refine J.block ?_ | refine J.inBlock ?_ | refine J.exit rfl ?_ | refine J.condT rfl ?_ | refine J.condF rfl ?_ | refine JL.skip rfl rfl ?_ | refine JL.skip0 rfl ?_ | refine JL.pure rfl rfl (by first | exact OpP.move rfl | exact OpP.assign rfl | exact OpP.nilCheck rfl | exact OpP.fieldAddr rfl | exact OpP.pickT rfl rfl | exact OpP.pickF rfl rfl | exact OpP.len rfl rfl | exact OpP.addI rfl rfl (by omega) (by omega) | exact OpP.subI rfl rfl (by omega) (by omega) | exact OpP.notB rfl | exact OpP.field1 rfl rfl | exact OpP.extract rfl rfl | exact OpP.indexAddr rfl rfl (by omega) (by omega) | exact OpP.indexAddrA rfl rfl (by omega) (by omega) | exact OpP.lenStr rfl rfl | exact OpP.lenArr rfl rfl | exact OpP.max rfl rfl | exact OpP.min rfl rfl | exact OpP.convI64 rfl (by omega) (by omega) | exact OpP.convStr rfl | exact OpP.add (k := .u8) rfl rfl | exact OpP.sub (k := .u8) rfl rfl | exact OpP.mul (k := .u8) rfl rfl | exact OpP.nePtrNil rfl rfl | exact OpP.eqPtrNil rfl rfl | exact OpP.eqSlNil rfl rfl | exact OpP.neSlNil rfl rfl | exact OpP.remI rfl rfl (by omega) (by omega) | exact OpP.makeFunc rfl rfl | exact OpP.nilCheckFn rfl | exact OpP.arrPtr rfl (by omega) | exact OpP.build rfl (by (repeat (first | exact Fills.nil | (apply Fills.cons rfl rfl rfl; (case' hs => ((repeat (first | exact Spl.nil | apply Spl.here | apply Spl.there)); done)))))) | exact OpP.buildA rfl (by (repeat (first | exact Fills.nil | (apply Fills.cons rfl rfl rfl; (case' hs => ((repeat (first | exact Spl.nil | apply Spl.here | apply Spl.there)); done))))))) ?_ | refine JL.decT rfl rfl (by first | exact OpP.lss rfl rfl | exact OpP.eql rfl rfl | exact OpP.neq rfl rfl | exact OpP.leq rfl rfl | exact OpP.gtr rfl rfl | exact OpP.geq rfl rfl | exact OpP.eqStr rfl rfl | exact OpP.neStr rfl rfl | exact OpP.eqBool rfl rfl | exact OpP.neBool rfl rfl) (by first | omega | assumption) ?_ | refine JL.decF rfl rfl (by first | exact OpP.lss rfl rfl | exact OpP.eql rfl rfl | exact OpP.neq rfl rfl | exact OpP.leq rfl rfl | exact OpP.gtr rfl rfl | exact OpP.geq rfl rfl | exact OpP.eqStr rfl rfl | exact OpP.neStr rfl rfl | exact OpP.eqBool rfl rfl | exact OpP.neBool rfl rfl) (by first | omega | assumption) ?_ | refine JL.read rfl rfl (OpR.load1 rfl (by (first | (apply Cell.row; (with_reducible repeat (first | exact .head | apply Has.tail)); rfl) | exact Cell.base (by assumption) | assumption))) ?_ | refine JL.read rfl rfl (by apply OpR.loadN rfl; apply Cells.full; (with_reducible repeat (first | exact .head | apply Has.tail)); rfl) ?_ | ((refine JL.mem0 rfl (by apply OpM.store1 rfl rfl rfl; (case' hu => (with_reducible repeat (first | exact .head | apply Upd.tail))); (case' hs => ((repeat (first | exact Spl.nil | apply Spl.here | apply Spl.there)); done))) ?_); rintro _ _ ⟨rfl, rfl⟩) | (refine JL.dec rfl rfl (by first | exact OpP.lss rfl rfl | exact OpP.eql rfl rfl | exact OpP.neq rfl rfl | exact OpP.leq rfl rfl | exact OpP.gtr rfl rfl | exact OpP.geq rfl rfl | exact OpP.eqStr rfl rfl | exact OpP.neStr rfl rfl | exact OpP.eqBool rfl rfl | exact OpP.neBool rfl rfl) (fun _ => ?_) (fun _ => ?_)))
  refine JL.step rfl rfl (OpW.call (first := []) (captured := []) inferInstance rfl rfl  (off_ok (by (first | (apply Cell.row; (with_reducible repeat (first | exact .head | apply Has.tail)); rfl) | exact Cell.base (by assumption) | assumption)))) ?_; rintro _ _ ⟨rfl, rfl⟩
  by_cases h0 : D.fuse = 0
  · rw [decide_eq_true h0]
    repeat' (first | refine J.seq ?_ | refine J.region ?_ | refine JL.nil ?_ | refine J.skip ?_ | refine J.block ?_ | refine J.inBlock ?_ | refine J.exit rfl ?_ | refine J.condT rfl ?_ | refine J.condF rfl ?_ | refine JL.skip rfl rfl ?_ | refine JL.skip0 rfl ?_ | refine JL.pure rfl rfl (by first | exact OpP.move rfl | exact OpP.assign rfl | exact OpP.nilCheck rfl | exact OpP.fieldAddr rfl | exact OpP.pickT rfl rfl | exact OpP.pickF rfl rfl | exact OpP.len rfl rfl | exact OpP.addI rfl rfl (by omega) (by omega) | exact OpP.subI rfl rfl (by omega) (by omega) | exact OpP.notB rfl | exact OpP.field1 rfl rfl | exact OpP.extract rfl rfl | exact OpP.indexAddr rfl rfl (by omega) (by omega) | exact OpP.indexAddrA rfl rfl (by omega) (by omega) | exact OpP.lenStr rfl rfl | exact OpP.lenArr rfl rfl | exact OpP.max rfl rfl | exact OpP.min rfl rfl | exact OpP.convI64 rfl (by omega) (by omega) | exact OpP.convStr rfl | exact OpP.add (k := .u8) rfl rfl | exact OpP.sub (k := .u8) rfl rfl | exact OpP.mul (k := .u8) rfl rfl | exact OpP.nePtrNil rfl rfl | exact OpP.eqPtrNil rfl rfl | exact OpP.eqSlNil rfl rfl | exact OpP.neSlNil rfl rfl | exact OpP.remI rfl rfl (by omega) (by omega) | exact OpP.makeFunc rfl rfl | exact OpP.nilCheckFn rfl | exact OpP.arrPtr rfl (by omega) | exact OpP.build rfl (by (repeat (first | exact Fills.nil | (apply Fills.cons rfl rfl rfl; (case' hs => ((repeat (first | exact Spl.nil | apply Spl.here | apply Spl.there)); done)))))) | exact OpP.buildA rfl (by (repeat (first | exact Fills.nil | (apply Fills.cons rfl rfl rfl; (case' hs => ((repeat (first | exact Spl.nil | apply Spl.here | apply Spl.there)); done))))))) ?_ | refine JL.decT rfl rfl (by first | exact OpP.lss rfl rfl | exact OpP.eql rfl rfl | exact OpP.neq rfl rfl | exact OpP.leq rfl rfl | exact OpP.gtr rfl rfl | exact OpP.geq rfl rfl | exact OpP.eqStr rfl rfl | exact OpP.neStr rfl rfl | exact OpP.eqBool rfl rfl | exact OpP.neBool rfl rfl) (by first | omega | assumption) ?_ | refine JL.decF rfl rfl (by first | exact OpP.lss rfl rfl | exact OpP.eql rfl rfl | exact OpP.neq rfl rfl | exact OpP.leq rfl rfl | exact OpP.gtr rfl rfl | exact OpP.geq rfl rfl | exact OpP.eqStr rfl rfl | exact OpP.neStr rfl rfl | exact OpP.eqBool rfl rfl | exact OpP.neBool rfl rfl) (by first | omega | assumption) ?_ | refine JL.read rfl rfl (OpR.load1 rfl (by (first | (apply Cell.row; (with_reducible repeat (first | exact .head | apply Has.tail)); rfl) | exact Cell.base (by assumption) | assumption))) ?_ | refine JL.read rfl rfl (by apply OpR.loadN rfl; apply Cells.full; (with_reducible repeat (first | exact .head | apply Has.tail)); rfl) ?_ | ((refine JL.mem0 rfl (by apply OpM.store1 rfl rfl rfl; (case' hu => (with_reducible repeat (first | exact .head | apply Upd.tail))); (case' hs => ((repeat (first | exact Spl.nil | apply Spl.here | apply Spl.there)); done))) ?_); rintro _ _ ⟨rfl, rfl⟩) | (refine JL.dec rfl rfl (by first | exact OpP.lss rfl rfl | exact OpP.eql rfl rfl | exact OpP.neq rfl rfl | exact OpP.leq rfl rfl | exact OpP.gtr rfl rfl | exact OpP.geq rfl rfl | exact OpP.eqStr rfl rfl | exact OpP.neStr rfl rfl | exact OpP.eqBool rfl rfl | exact OpP.neBool rfl rfl) (fun _ => ?_) (fun _ => ?_)))
    refine J.conv (l' := diskR g D :: F) (fun _ h => disk_in hok h) ?_
    (first | refine J.ret1 rfl rfl ?_ | refine J.ret2 rfl rfl rfl ?_ | refine J.ret3 rfl rfl rfl rfl ?_ | refine J.ret0 rfl ?_ | refine J.fin0 rfl ?_ | (refine J.retC rfl rfl (by apply Cells.full; (with_reducible repeat (first | exact .head | apply Has.tail))) (by rfl) ?_) | (refine J.retC2 rfl rfl (by apply Cells.full; (with_reducible repeat (first | exact .head | apply Has.tail))) (by rfl) rfl ?_) | (refine J.retC3 rfl rfl (by apply Cells.full; (with_reducible repeat (first | exact .head | apply Has.tail))) (by rfl) rfl rfl ?_))
    exact .inl ⟨h0, rfl, rfl⟩
  · rw [decide_eq_false h0]
    repeat' (first | refine J.seq ?_ | refine J.region ?_ | refine JL.nil ?_ | refine J.skip ?_ | refine J.block ?_ | refine J.inBlock ?_ | refine J.exit rfl ?_ | refine J.condT rfl ?_ | refine J.condF rfl ?_ | refine JL.skip rfl rfl ?_ | refine JL.skip0 rfl ?_ | refine JL.pure rfl rfl (by first | exact OpP.move rfl | exact OpP.assign rfl | exact OpP.nilCheck rfl | exact OpP.fieldAddr rfl | exact OpP.pickT rfl rfl | exact OpP.pickF rfl rfl | exact OpP.len rfl rfl | exact OpP.addI rfl rfl (by omega) (by omega) | exact OpP.subI rfl rfl (by omega) (by omega) | exact OpP.notB rfl | exact OpP.field1 rfl rfl | exact OpP.extract rfl rfl | exact OpP.indexAddr rfl rfl (by omega) (by omega) | exact OpP.indexAddrA rfl rfl (by omega) (by omega) | exact OpP.lenStr rfl rfl | exact OpP.lenArr rfl rfl | exact OpP.max rfl rfl | exact OpP.min rfl rfl | exact OpP.convI64 rfl (by omega) (by omega) | exact OpP.convStr rfl | exact OpP.add (k := .u8) rfl rfl | exact OpP.sub (k := .u8) rfl rfl | exact OpP.mul (k := .u8) rfl rfl | exact OpP.nePtrNil rfl rfl | exact OpP.eqPtrNil rfl rfl | exact OpP.eqSlNil rfl rfl | exact OpP.neSlNil rfl rfl | exact OpP.remI rfl rfl (by omega) (by omega) | exact OpP.makeFunc rfl rfl | exact OpP.nilCheckFn rfl | exact OpP.arrPtr rfl (by omega) | exact OpP.build rfl (by (repeat (first | exact Fills.nil | (apply Fills.cons rfl rfl rfl; (case' hs => ((repeat (first | exact Spl.nil | apply Spl.here | apply Spl.there)); done)))))) | exact OpP.buildA rfl (by (repeat (first | exact Fills.nil | (apply Fills.cons rfl rfl rfl; (case' hs => ((repeat (first | exact Spl.nil | apply Spl.here | apply Spl.there)); done))))))) ?_ | refine JL.decT rfl rfl (by first | exact OpP.lss rfl rfl | exact OpP.eql rfl rfl | exact OpP.neq rfl rfl | exact OpP.leq rfl rfl | exact OpP.gtr rfl rfl | exact OpP.geq rfl rfl | exact OpP.eqStr rfl rfl | exact OpP.neStr rfl rfl | exact OpP.eqBool rfl rfl | exact OpP.neBool rfl rfl) (by first | omega | assumption) ?_ | refine JL.decF rfl rfl (by first | exact OpP.lss rfl rfl | exact OpP.eql rfl rfl | exact OpP.neq rfl rfl | exact OpP.leq rfl rfl | exact OpP.gtr rfl rfl | exact OpP.geq rfl rfl | exact OpP.eqStr rfl rfl | exact OpP.neStr rfl rfl | exact OpP.eqBool rfl rfl | exact OpP.neBool rfl rfl) (by first | omega | assumption) ?_ | refine JL.read rfl rfl (OpR.load1 rfl (by (first | (apply Cell.row; (with_reducible repeat (first | exact .head | apply Has.tail)); rfl) | exact Cell.base (by assumption) | assumption))) ?_ | refine JL.read rfl rfl (by apply OpR.loadN rfl; apply Cells.full; (with_reducible repeat (first | exact .head | apply Has.tail)); rfl) ?_ | ((refine JL.mem0 rfl (by apply OpM.store1 rfl rfl rfl; (case' hu => (with_reducible repeat (first | exact .head | apply Upd.tail))); (case' hs => ((repeat (first | exact Spl.nil | apply Spl.here | apply Spl.there)); done))) ?_); rintro _ _ ⟨rfl, rfl⟩) | (refine JL.dec rfl rfl (by first | exact OpP.lss rfl rfl | exact OpP.eql rfl rfl | exact OpP.neq rfl rfl | exact OpP.leq rfl rfl | exact OpP.gtr rfl rfl | exact OpP.geq rfl rfl | exact OpP.eqStr rfl rfl | exact OpP.neStr rfl rfl | exact OpP.eqBool rfl rfl | exact OpP.neBool rfl rfl) (fun _ => ?_) (fun _ => ?_)))
    refine JL.step rfl rfl (OpW.call (first := []) (captured := []) inferInstance rfl rfl  (has_ok (by (first | (apply Cell.row; (with_reducible repeat (first | exact .head | apply Has.tail)); rfl) | exact Cell.base (by assumption) | assumption)))) ?_; rintro _ _ ⟨rfl, rfl⟩
    by_cases h1 : 0 ≤ i ∧ i < D.now.length
    · rw [decide_eq_true h1]
      obtain ⟨h2, h3⟩ := h1
      repeat' (first | refine J.seq ?_ | refine J.region ?_ | refine JL.nil ?_ | refine J.skip ?_ | refine J.block ?_ | refine J.inBlock ?_ | refine J.exit rfl ?_ | refine J.condT rfl ?_ | refine J.condF rfl ?_ | refine JL.skip rfl rfl ?_ | refine JL.skip0 rfl ?_ | refine JL.pure rfl rfl (by first | exact OpP.move rfl | exact OpP.assign rfl | exact OpP.nilCheck rfl | exact OpP.fieldAddr rfl | exact OpP.pickT rfl rfl | exact OpP.pickF rfl rfl | exact OpP.len rfl rfl | exact OpP.addI rfl rfl (by omega) (by omega) | exact OpP.subI rfl rfl (by omega) (by omega) | exact OpP.notB rfl | exact OpP.field1 rfl rfl | exact OpP.extract rfl rfl | exact OpP.indexAddr rfl rfl (by omega) (by omega) | exact OpP.indexAddrA rfl rfl (by omega) (by omega) | exact OpP.lenStr rfl rfl | exact OpP.lenArr rfl rfl | exact OpP.max rfl rfl | exact OpP.min rfl rfl | exact OpP.convI64 rfl (by omega) (by omega) | exact OpP.convStr rfl | exact OpP.add (k := .u8) rfl rfl | exact OpP.sub (k := .u8) rfl rfl | exact OpP.mul (k := .u8) rfl rfl | exact OpP.nePtrNil rfl rfl | exact OpP.eqPtrNil rfl rfl | exact OpP.eqSlNil rfl rfl | exact OpP.neSlNil rfl rfl | exact OpP.remI rfl rfl (by omega) (by omega) | exact OpP.makeFunc rfl rfl | exact OpP.nilCheckFn rfl | exact OpP.arrPtr rfl (by omega) | exact OpP.build rfl (by (repeat (first | exact Fills.nil | (apply Fills.cons rfl rfl rfl; (case' hs => ((repeat (first | exact Spl.nil | apply Spl.here | apply Spl.there)); done)))))) | exact OpP.buildA rfl (by (repeat (first | exact Fills.nil | (apply Fills.cons rfl rfl rfl; (case' hs => ((repeat (first | exact Spl.nil | apply Spl.here | apply Spl.there)); done))))))) ?_ | refine JL.decT rfl rfl (by first | exact OpP.lss rfl rfl | exact OpP.eql rfl rfl | exact OpP.neq rfl rfl | exact OpP.leq rfl rfl | exact OpP.gtr rfl rfl | exact OpP.geq rfl rfl | exact OpP.eqStr rfl rfl | exact OpP.neStr rfl rfl | exact OpP.eqBool rfl rfl | exact OpP.neBool rfl rfl) (by first | omega | assumption) ?_ | refine JL.decF rfl rfl (by first | exact OpP.lss rfl rfl | exact OpP.eql rfl rfl | exact OpP.neq rfl rfl | exact OpP.leq rfl rfl | exact OpP.gtr rfl rfl | exact OpP.geq rfl rfl | exact OpP.eqStr rfl rfl | exact OpP.neStr rfl rfl | exact OpP.eqBool rfl rfl | exact OpP.neBool rfl rfl) (by first | omega | assumption) ?_ | refine JL.read rfl rfl (OpR.load1 rfl (by (first | (apply Cell.row; (with_reducible repeat (first | exact .head | apply Has.tail)); rfl) | exact Cell.base (by assumption) | assumption))) ?_ | refine JL.read rfl rfl (by apply OpR.loadN rfl; apply Cells.full; (with_reducible repeat (first | exact .head | apply Has.tail)); rfl) ?_ | ((refine JL.mem0 rfl (by apply OpM.store1 rfl rfl rfl; (case' hu => (with_reducible repeat (first | exact .head | apply Upd.tail))); (case' hs => ((repeat (first | exact Spl.nil | apply Spl.here | apply Spl.there)); done))) ?_); rintro _ _ ⟨rfl, rfl⟩) | (refine JL.dec rfl rfl (by first | exact OpP.lss rfl rfl | exact OpP.eql rfl rfl | exact OpP.neq rfl rfl | exact OpP.leq rfl rfl | exact OpP.gtr rfl rfl | exact OpP.geq rfl rfl | exact OpP.eqStr rfl rfl | exact OpP.neStr rfl rfl | exact OpP.eqBool rfl rfl | exact OpP.neBool rfl rfl) (fun _ => ?_) (fun _ => ?_)))
      refine JL.pure rfl rfl (OpP.as (by apply OpP.sliceA rfl rfl rfl (by first | exact .inl ⟨rfl, rfl⟩ | exact .inr ⟨_, rfl⟩) (by first | exact .inl ⟨rfl, rfl⟩ | exact .inr ⟨_, rfl⟩) <;> omega) (show _ = Value.slice (some ⟨bn, i.toNat * 64, none⟩) 64 64 by simp)) ?_
      have hlt : i.toNat < D.now.length := by omega
      obtain ⟨s, hs⟩ : ∃ s, D.now[i.toNat]? = some s := ⟨_, List.getElem?_eq_getElem hlt⟩
      have hs64 : s.length = 64 := by have := hok.now64 s (List.mem_of_getElem? hs); rwa [bcells_length] at this
      refine JL.step rfl rfl (OpW.call (first := []) (captured := []) inferInstance rfl rfl  (Clone_ok (bs := s) (.inr ⟨bn, i.toNat * 64, 64, by rw [hs64], by omega, Cells.chunk (by (with_reducible repeat (first | exact .head | apply Has.tail))) hok.now64 hs⟩) (by omega) (by intro e; rw [e] at hs64; simp at hs64))) ?_
      rintro u _ rfl
      repeat' (first | refine J.seq ?_ | refine J.region ?_ | refine JL.nil ?_ | refine J.skip ?_ | refine J.block ?_ | refine J.inBlock ?_ | refine J.exit rfl ?_ | refine J.condT rfl ?_ | refine J.condF rfl ?_ | refine JL.skip rfl rfl ?_ | refine JL.skip0 rfl ?_ | refine JL.pure rfl rfl (by first | exact OpP.move rfl | exact OpP.assign rfl | exact OpP.nilCheck rfl | exact OpP.fieldAddr rfl | exact OpP.pickT rfl rfl | exact OpP.pickF rfl rfl | exact OpP.len rfl rfl | exact OpP.addI rfl rfl (by omega) (by omega) | exact OpP.subI rfl rfl (by omega) (by omega) | exact OpP.notB rfl | exact OpP.field1 rfl rfl | exact OpP.extract rfl rfl | exact OpP.indexAddr rfl rfl (by omega) (by omega) | exact OpP.indexAddrA rfl rfl (by omega) (by omega) | exact OpP.lenStr rfl rfl | exact OpP.lenArr rfl rfl | exact OpP.max rfl rfl | exact OpP.min rfl rfl | exact OpP.convI64 rfl (by omega) (by omega) | exact OpP.convStr rfl | exact OpP.add (k := .u8) rfl rfl | exact OpP.sub (k := .u8) rfl rfl | exact OpP.mul (k := .u8) rfl rfl | exact OpP.nePtrNil rfl rfl | exact OpP.eqPtrNil rfl rfl | exact OpP.eqSlNil rfl rfl | exact OpP.neSlNil rfl rfl | exact OpP.remI rfl rfl (by omega) (by omega) | exact OpP.makeFunc rfl rfl | exact OpP.nilCheckFn rfl | exact OpP.arrPtr rfl (by omega) | exact OpP.build rfl (by (repeat (first | exact Fills.nil | (apply Fills.cons rfl rfl rfl; (case' hs => ((repeat (first | exact Spl.nil | apply Spl.here | apply Spl.there)); done)))))) | exact OpP.buildA rfl (by (repeat (first | exact Fills.nil | (apply Fills.cons rfl rfl rfl; (case' hs => ((repeat (first | exact Spl.nil | apply Spl.here | apply Spl.there)); done))))))) ?_ | refine JL.decT rfl rfl (by first | exact OpP.lss rfl rfl | exact OpP.eql rfl rfl | exact OpP.neq rfl rfl | exact OpP.leq rfl rfl | exact OpP.gtr rfl rfl | exact OpP.geq rfl rfl | exact OpP.eqStr rfl rfl | exact OpP.neStr rfl rfl | exact OpP.eqBool rfl rfl | exact OpP.neBool rfl rfl) (by first | omega | assumption) ?_ | refine JL.decF rfl rfl (by first | exact OpP.lss rfl rfl | exact OpP.eql rfl rfl | exact OpP.neq rfl rfl | exact OpP.leq rfl rfl | exact OpP.gtr rfl rfl | exact OpP.geq rfl rfl | exact OpP.eqStr rfl rfl | exact OpP.neStr rfl rfl | exact OpP.eqBool rfl rfl | exact OpP.neBool rfl rfl) (by first | omega | assumption) ?_ | refine JL.read rfl rfl (OpR.load1 rfl (by (first | (apply Cell.row; (with_reducible repeat (first | exact .head | apply Has.tail)); rfl) | exact Cell.base (by assumption) | assumption))) ?_ | refine JL.read rfl rfl (by apply OpR.loadN rfl; apply Cells.full; (with_reducible repeat (first | exact .head | apply Has.tail)); rfl) ?_ | ((refine JL.mem0 rfl (by apply OpM.store1 rfl rfl rfl; (case' hu => (with_reducible repeat (first | exact .head | apply Upd.tail))); (case' hs => ((repeat (first | exact Spl.nil | apply Spl.here | apply Spl.there)); done))) ?_); rintro _ _ ⟨rfl, rfl⟩) | (refine JL.dec rfl rfl (by first | exact OpP.lss rfl rfl | exact OpP.eql rfl rfl | exact OpP.neq rfl rfl | exact OpP.leq rfl rfl | exact OpP.gtr rfl rfl | exact OpP.geq rfl rfl | exact OpP.eqStr rfl rfl | exact OpP.neStr rfl rfl | exact OpP.eqBool rfl rfl | exact OpP.neBool rfl rfl) (fun _ => ?_) (fun _ => ?_)))
      refine J.conv (l' := own 5 1 u 64 (bcells s) :: diskR g D :: F) (fun _ h => by rw [hs64] at h; exact Own.pick (pre := [_, _]) [1, 0] rfl (disk_in hok (Own.pick (pre := [_, _, _, _, _]) [1, 2, 3, 4, 0] rfl h))) ?_
      (first | refine J.ret1 rfl rfl ?_ | refine J.ret2 rfl rfl rfl ?_ | refine J.ret3 rfl rfl rfl rfl ?_ | refine J.ret0 rfl ?_ | refine J.fin0 rfl ?_ | (refine J.retC rfl rfl (by apply Cells.full; (with_reducible repeat (first | exact .head | apply Has.tail))) (by rfl) ?_) | (refine J.retC2 rfl rfl (by apply Cells.full; (with_reducible repeat (first | exact .head | apply Has.tail))) (by rfl) rfl ?_) | (refine J.retC3 rfl rfl (by apply Cells.full; (with_reducible repeat (first | exact .head | apply Has.tail))) (by rfl) rfl rfl ?_))
      exact .inr (.inr ⟨h0, h2, u, s, hs, hs64, rfl, rfl⟩)
    · rw [decide_eq_false h1]
      repeat' (first | refine J.seq ?_ | refine J.region ?_ | refine JL.nil ?_ | refine J.skip ?_ | refine J.block ?_ | refine J.inBlock ?_ | refine J.exit rfl ?_ | refine J.condT rfl ?_ | refine J.condF rfl ?_ | refine JL.skip rfl rfl ?_ | refine JL.skip0 rfl ?_ | refine JL.pure rfl rfl (by first | exact OpP.move rfl | exact OpP.assign rfl | exact OpP.nilCheck rfl | exact OpP.fieldAddr rfl | exact OpP.pickT rfl rfl | exact OpP.pickF rfl rfl | exact OpP.len rfl rfl | exact OpP.addI rfl rfl (by omega) (by omega) | exact OpP.subI rfl rfl (by omega) (by omega) | exact OpP.notB rfl | exact OpP.field1 rfl rfl | exact OpP.extract rfl rfl | exact OpP.indexAddr rfl rfl (by omega) (by omega) | exact OpP.indexAddrA rfl rfl (by omega) (by omega) | exact OpP.lenStr rfl rfl | exact OpP.lenArr rfl rfl | exact OpP.max rfl rfl | exact OpP.min rfl rfl | exact OpP.convI64 rfl (by omega) (by omega) | exact OpP.convStr rfl | exact OpP.add (k := .u8) rfl rfl | exact OpP.sub (k := .u8) rfl rfl | exact OpP.mul (k := .u8) rfl rfl | exact OpP.nePtrNil rfl rfl | exact OpP.eqPtrNil rfl rfl | exact OpP.eqSlNil rfl rfl | exact OpP.neSlNil rfl rfl | exact OpP.remI rfl rfl (by omega) (by omega) | exact OpP.makeFunc rfl rfl | exact OpP.nilCheckFn rfl | exact OpP.arrPtr rfl (by omega) | exact OpP.build rfl (by (repeat (first | exact Fills.nil | (apply Fills.cons rfl rfl rfl; (case' hs => ((repeat (first | exact Spl.nil | apply Spl.here | apply Spl.there)); done)))))) | exact OpP.buildA rfl (by (repeat (first | exact Fills.nil | (apply Fills.cons rfl rfl rfl; (case' hs => ((repeat (first | exact Spl.nil | apply Spl.here | apply Spl.there)); done))))))) ?_ | refine JL.decT rfl rfl (by first | exact OpP.lss rfl rfl | exact OpP.eql rfl rfl | exact OpP.neq rfl rfl | exact OpP.leq rfl rfl | exact OpP.gtr rfl rfl | exact OpP.geq rfl rfl | exact OpP.eqStr rfl rfl | exact OpP.neStr rfl rfl | exact OpP.eqBool rfl rfl | exact OpP.neBool rfl rfl) (by first | omega | assumption) ?_ | refine JL.decF rfl rfl (by first | exact OpP.lss rfl rfl | exact OpP.eql rfl rfl | exact OpP.neq rfl rfl | exact OpP.leq rfl rfl | exact OpP.gtr rfl rfl | exact OpP.geq rfl rfl | exact OpP.eqStr rfl rfl | exact OpP.neStr rfl rfl | exact OpP.eqBool rfl rfl | exact OpP.neBool rfl rfl) (by first | omega | assumption) ?_ | refine JL.read rfl rfl (OpR.load1 rfl (by (first | (apply Cell.row; (with_reducible repeat (first | exact .head | apply Has.tail)); rfl) | exact Cell.base (by assumption) | assumption))) ?_ | refine JL.read rfl rfl (by apply OpR.loadN rfl; apply Cells.full; (with_reducible repeat (first | exact .head | apply Has.tail)); rfl) ?_ | ((refine JL.mem0 rfl (by apply OpM.store1 rfl rfl rfl; (case' hu => (with_reducible repeat (first | exact .head | apply Upd.tail))); (case' hs => ((repeat (first | exact Spl.nil | apply Spl.here | apply Spl.there)); done))) ?_); rintro _ _ ⟨rfl, rfl⟩) | (refine JL.dec rfl rfl (by first | exact OpP.lss rfl rfl | exact OpP.eql rfl rfl | exact OpP.neq rfl rfl | exact OpP.leq rfl rfl | exact OpP.gtr rfl rfl | exact OpP.geq rfl rfl | exact OpP.eqStr rfl rfl | exact OpP.neStr rfl rfl | exact OpP.eqBool rfl rfl | exact OpP.neBool rfl rfl) (fun _ => ?_) (fun _ => ?_)))
      refine J.conv (l' := diskR g D :: F) (fun _ h => disk_in hok h) ?_
      (first | refine J.ret1 rfl rfl ?_ | refine J.ret2 rfl rfl rfl ?_ | refine J.ret3 rfl rfl rfl rfl ?_ | refine J.ret0 rfl ?_ | refine J.fin0 rfl ?_ | (refine J.retC rfl rfl (by apply Cells.full; (with_reducible repeat (first | exact .head | apply Has.tail))) (by rfl) ?_) | (refine J.retC2 rfl rfl (by apply Cells.full; (with_reducible repeat (first | exact .head | apply Has.tail))) (by rfl) rfl ?_) | (refine J.retC3 rfl rfl (by apply Cells.full; (with_reducible repeat (first | exact .head | apply Has.tail))) (by rfl) rfl rfl ?_))
      exact .inr (.inl ⟨h0, h1, rfl, rfl⟩)

def Dk.wrote (D : Dk) (i : Nat) (s : Sec) : Dk := { fuse := burnt D.fuse, fl := D.fl, now := D.now.set i s, ws := D.ws ++ [(i, s)] }

theorem Dk.wrote_ok {D : Dk} (hok : D.Ok) {i : Nat} {s : Sec} (hi : i < D.now.length) (hs : s.length = 64) (hm : D.ws.length + 1 ≤ 1000) : (D.wrote i s).Ok where
  len := by simp [Dk.wrote, hok.len]
  small := by simpa [Dk.wrote] using hok.small
  f0 := by have := hok.f0; simp only [Dk.wrote, burnt]; split <;> omega
  f1 := by have := hok.f1; simp only [Dk.wrote, burnt]; split <;> omega
  fl64 := hok.fl64
  now64 := by
    intro x hx
    rcases List.mem_or_eq_of_mem_set hx with h | h
    · exact hok.now64 x h
    · rw [h, bcells_length, hs]
  ws64 := by
    intro p hp
    rcases List.mem_append.1 hp with h | h
    · exact hok.ws64 p h
    · simp at h; subst h; simp [wcell, bcells_length, hs]
  wsn := by
    intro p hp
    simp only [Dk.wrote, List.length_set]
    rcases List.mem_append.1 hp with h | h
    · exact hok.wsn p h
    · simp at h; subst h; exact hi
  wsm := by simpa [Dk.wrote] using hm

theorem Write_ok {w0 : World} {g : Nat} {D : Dk} {i : Int} {F : List HProp} {bv : Value} {bs : List UInt8} (hr : Rd w0 F bv bs.length (bcells bs)) (hm : D.ws.length + 1 ≤ 1000) :
    FnO Tryd.prog w0 42 [.pointer (some ⟨g, 0, none⟩), .int .i64 i, bv] (diskR g D :: F) (fun v l' =>
      (D.fuse = 0 ∧ v = .int .i64 5 ∧ l' = diskR g D :: F) ∨
      (D.fuse ≠ 0 ∧ ¬ (0 ≤ i ∧ i < D.now.length ∧ bs.length = 64) ∧ v = .int .i64 1 ∧ l' = diskR g D :: F) ∨
      (D.fuse ≠ 0 ∧ 0 ≤ i ∧ i < D.now.length ∧ bs.length = 64 ∧ v = .int .i64 0 ∧ l' = diskR g (D.wrote i.toNat bs) :: F)) := by
  obtain ⟨ba, bc, rfl⟩ := hr.lit
  refine FnO.intro (n := 50) Tryd.func42 rfl rfl rfl ?_
  refine J.disk fun bf bn wa wc hok => ?_
  repeat' (first | refine J.seq ?_ | refine J.region ?_ | refine JL.nil ?_ | refine J.skip ?_ | refine J.block ?_ | refine J.inBlock ?_ | refine J.exit rfl ?_ | refine J.condT rfl ?_ | refine J.condF rfl ?_ | refine JL.skip rfl rfl ?_ | refine JL.skip0 rfl ?_ | refine JL.pure rfl rfl (by first | exact OpP.move rfl | exact OpP.assign rfl | exact OpP.nilCheck rfl | exact OpP.fieldAddr rfl | exact OpP.pickT rfl rfl | exact OpP.pickF rfl rfl | exact OpP.len rfl rfl | exact OpP.addI rfl rfl (by omega) (by omega) | exact OpP.subI rfl rfl (by omega) (by omega) | exact OpP.notB rfl | exact OpP.field1 rfl rfl | exact OpP.extract rfl rfl | exact OpP.indexAddr rfl rfl (by omega) (by omega) | exact OpP.indexAddrA rfl rfl (by omega) (by omega) | exact OpP.lenStr rfl rfl | exact OpP.lenArr rfl rfl | exact OpP.max rfl rfl | exact OpP.min rfl rfl | exact OpP.convI64 rfl (by omega) (by omega) | exact OpP.convStr rfl | exact OpP.add (k := .u8) rfl rfl | exact OpP.sub (k := .u8) rfl rfl | exact OpP.mul (k := .u8) rfl rfl | exact OpP.nePtrNil rfl rfl | exact OpP.eqPtrNil rfl rfl | exact OpP.eqSlNil rfl rfl | exact OpP.neSlNil rfl rfl | exact OpP.remI rfl rfl (by omega) (by omega) | exact OpP.makeFunc rfl rfl | exact OpP.nilCheckFn rfl | exact OpP.arrPtr rfl (by omega) | exact OpP.build rfl (by (repeat (first | exact Fills.nil | (apply Fills.cons rfl rfl rfl; (case' hs => ((repeat (first | exact Spl.nil | apply Spl.here | apply Spl.there)); done)))))) | exact OpP.buildA rfl (by (repeat (first | exact Fills.nil | (apply Fills.cons rfl rfl rfl; (case' hs => ((repeat (first | exact Spl.nil | apply Spl.here | apply Spl.there)); done))))))) ?_ | refine JL.decT rfl rfl (by first | exact OpP.lss rfl rfl | exact OpP.eql rfl rfl | exact OpP.neq rfl rfl | exact OpP.leq rfl rfl | exact OpP.gtr rfl rfl | exact OpP.geq rfl rfl | exact OpP.eqStr rfl rfl | exact OpP.neStr rfl rfl | exact OpP.eqBool rfl rfl | exact OpP.neBool rfl rfl) (by first | omega | assumption) ?_ | refine JL.decF rfl rfl (by first | exact OpP.lss rfl rfl | exact OpP.eql rfl rfl | exact OpP.neq rfl rfl | exact OpP.leq rfl rfl | exact OpP.gtr rfl rfl | exact OpP.geq rfl rfl | exact OpP.eqStr rfl rfl | exact OpP.neStr rfl rfl | exact OpP.eqBool rfl rfl | exact OpP.neBool rfl rfl) (by first | omega | assumption) ?_ | refine JL.read rfl rfl (OpR.load1 rfl (by (first | (apply Cell.row; (with_reducible repeat (first | exact .head | apply Has.tail)); rfl) | exact Cell.base (by assumption) | assumption))) ?_ | refine JL.read rfl rfl (by apply OpR.loadN rfl; apply Cells.full; (with_reducible repeat (first | exact .head | apply Has.tail)); rfl) ?_ | ((refine JL.mem0 rfl (by apply OpM.store1 rfl rfl rfl; (case' hu => (with_reducible repeat (first | exact .head | apply Upd.tail))); (case' hs => ((repeat (first | exact Spl.nil | apply Spl.here | apply Spl.there)); done))) ?_); rintro _ _ ⟨rfl, rfl⟩) | (refine JL.dec rfl rfl (by first | exact OpP.lss rfl rfl | exact OpP.eql rfl rfl | exact OpP.neq rfl rfl | exact OpP.leq rfl rfl | exact OpP.gtr rfl rfl | exact OpP.geq rfl rfl | exact OpP.eqStr rfl rfl | exact OpP.neStr rfl rfl | exact OpP.eqBool rfl rfl | exact OpP.neBool rfl rfl) (fun _ => ?_) (fun _ => ?_)))
  refine JL.step rfl rfl (OpW.call (first := []) (captured := []) inferInstance rfl rfl  (off_ok (by (first | (apply Cell.row; (with_reducible repeat (first | exact .head | apply Has.tail)); rfl) | exact Cell.base (by assumption) | assumption)))) ?_; rintro _ _ ⟨rfl, rfl⟩
  by_cases h0 : D.fuse = 0
  · rw [decide_eq_true h0]
    repeat' (first | refine J.seq ?_ | refine J.region ?_ | refine JL.nil ?_ | refine J.skip ?_ | refine J.block ?_ | refine J.inBlock ?_ | refine J.exit rfl ?_ | refine J.condT rfl ?_ | refine J.condF rfl ?_ | refine JL.skip rfl rfl ?_ | refine JL.skip0 rfl ?_ | refine JL.pure rfl rfl (by first | exact OpP.move rfl | exact OpP.assign rfl | exact OpP.nilCheck rfl | exact OpP.fieldAddr rfl | exact OpP.pickT rfl rfl | exact OpP.pickF rfl rfl | exact OpP.len rfl rfl | exact OpP.addI rfl rfl (by omega) (by omega) | exact OpP.subI rfl rfl (by omega) (by omega) | exact OpP.notB rfl | exact OpP.field1 rfl rfl | exact OpP.extract rfl rfl | exact OpP.indexAddr rfl rfl (by omega) (by omega) | exact OpP.indexAddrA rfl rfl (by omega) (by omega) | exact OpP.lenStr rfl rfl | exact OpP.lenArr rfl rfl | exact OpP.max rfl rfl | exact OpP.min rfl rfl | exact OpP.convI64 rfl (by omega) (by omega) | exact OpP.convStr rfl | exact OpP.add (k := .u8) rfl rfl | exact OpP.sub (k := .u8) rfl rfl | exact OpP.mul (k := .u8) rfl rfl | exact OpP.nePtrNil rfl rfl | exact OpP.eqPtrNil rfl rfl | exact OpP.eqSlNil rfl rfl | exact OpP.neSlNil rfl rfl | exact OpP.remI rfl rfl (by omega) (by omega) | exact OpP.makeFunc rfl rfl | exact OpP.nilCheckFn rfl | exact OpP.arrPtr rfl (by omega) | exact OpP.build rfl (by (repeat (first | exact Fills.nil | (apply Fills.cons rfl rfl rfl; (case' hs => ((repeat (first | exact Spl.nil | apply Spl.here | apply Spl.there)); done)))))) | exact OpP.buildA rfl (by (repeat (first | exact Fills.nil | (apply Fills.cons rfl rfl rfl; (case' hs => ((repeat (first | exact Spl.nil | apply Spl.here | apply Spl.there)); done))))))) ?_ | refine JL.decT rfl rfl (by first | exact OpP.lss rfl rfl | exact OpP.eql rfl rfl | exact OpP.neq rfl rfl | exact OpP.leq rfl rfl | exact OpP.gtr rfl rfl | exact OpP.geq rfl rfl | exact OpP.eqStr rfl rfl | exact OpP.neStr rfl rfl | exact OpP.eqBool rfl rfl | exact OpP.neBool rfl rfl) (by first | omega | assumption) ?_ | refine JL.decF rfl rfl (by first | exact OpP.lss rfl rfl | exact OpP.eql rfl rfl | exact OpP.neq rfl rfl | exact OpP.leq rfl rfl | exact OpP.gtr rfl rfl | exact OpP.geq rfl rfl | exact OpP.eqStr rfl rfl | exact OpP.neStr rfl rfl | exact OpP.eqBool rfl rfl | exact OpP.neBool rfl rfl) (by first | omega | assumption) ?_ | refine JL.read rfl rfl (OpR.load1 rfl (by (first | (apply Cell.row; (with_reducible repeat (first | exact .head | apply Has.tail)); rfl) | exact Cell.base (by assumption) | assumption))) ?_ | refine JL.read rfl rfl (by apply OpR.loadN rfl; apply Cells.full; (with_reducible repeat (first | exact .head | apply Has.tail)); rfl) ?_ | ((refine JL.mem0 rfl (by apply OpM.store1 rfl rfl rfl; (case' hu => (with_reducible repeat (first | exact .head | apply Upd.tail))); (case' hs => ((repeat (first | exact Spl.nil | apply Spl.here | apply Spl.there)); done))) ?_); rintro _ _ ⟨rfl, rfl⟩) | (refine JL.dec rfl rfl (by first | exact OpP.lss rfl rfl | exact OpP.eql rfl rfl | exact OpP.neq rfl rfl | exact OpP.leq rfl rfl | exact OpP.gtr rfl rfl | exact OpP.geq rfl rfl | exact OpP.eqStr rfl rfl | exact OpP.neStr rfl rfl | exact OpP.eqBool rfl rfl | exact OpP.neBool rfl rfl) (fun _ => ?_) (fun _ => ?_)))
    refine J.conv (l' := diskR g D :: F) (fun _ h => disk_in hok h) ?_
    (first | refine J.ret1 rfl rfl ?_ | refine J.ret2 rfl rfl rfl ?_ | refine J.ret3 rfl rfl rfl rfl ?_ | refine J.ret0 rfl ?_ | refine J.fin0 rfl ?_ | (refine J.retC rfl rfl (by apply Cells.full; (with_reducible repeat (first | exact .head | apply Has.tail))) (by rfl) ?_) | (refine J.retC2 rfl rfl (by apply Cells.full; (with_reducible repeat (first | exact .head | apply Has.tail))) (by rfl) rfl ?_) | (refine J.retC3 rfl rfl (by apply Cells.full; (with_reducible repeat (first | exact .head | apply Has.tail))) (by rfl) rfl rfl ?_))
    exact .inl ⟨h0, rfl, rfl⟩
  rw [decide_eq_false h0]
  repeat' (first | refine J.seq ?_ | refine J.region ?_ | refine JL.nil ?_ | refine J.skip ?_ | refine J.block ?_ | refine J.inBlock ?_ | refine J.exit rfl ?_ | refine J.condT rfl ?_ | refine J.condF rfl ?_ | refine JL.skip rfl rfl ?_ | refine JL.skip0 rfl ?_ | refine JL.pure rfl rfl (by first | exact OpP.move rfl | exact OpP.assign rfl | exact OpP.nilCheck rfl | exact OpP.fieldAddr rfl | exact OpP.pickT rfl rfl | exact OpP.pickF rfl rfl | exact OpP.len rfl rfl | exact OpP.addI rfl rfl (by omega) (by omega) | exact OpP.subI rfl rfl (by omega) (by omega) | exact OpP.notB rfl | exact OpP.field1 rfl rfl | exact OpP.extract rfl rfl | exact OpP.indexAddr rfl rfl (by omega) (by omega) | exact OpP.indexAddrA rfl rfl (by omega) (by omega) | exact OpP.lenStr rfl rfl | exact OpP.lenArr rfl rfl | exact OpP.max rfl rfl | exact OpP.min rfl rfl | exact OpP.convI64 rfl (by omega) (by omega) | exact OpP.convStr rfl | exact OpP.add (k := .u8) rfl rfl | exact OpP.sub (k := .u8) rfl rfl | exact OpP.mul (k := .u8) rfl rfl | exact OpP.nePtrNil rfl rfl | exact OpP.eqPtrNil rfl rfl | exact OpP.eqSlNil rfl rfl | exact OpP.neSlNil rfl rfl | exact OpP.remI rfl rfl (by omega) (by omega) | exact OpP.makeFunc rfl rfl | exact OpP.nilCheckFn rfl | exact OpP.arrPtr rfl (by omega) | exact OpP.build rfl (by (repeat (first | exact Fills.nil | (apply Fills.cons rfl rfl rfl; (case' hs => ((repeat (first | exact Spl.nil | apply Spl.here | apply Spl.there)); done)))))) | exact OpP.buildA rfl (by (repeat (first | exact Fills.nil | (apply Fills.cons rfl rfl rfl; (case' hs => ((repeat (first | exact Spl.nil | apply Spl.here | apply Spl.there)); done))))))) ?_ | refine JL.decT rfl rfl (by first | exact OpP.lss rfl rfl | exact OpP.eql rfl rfl | exact OpP.neq rfl rfl | exact OpP.leq rfl rfl | exact OpP.gtr rfl rfl | exact OpP.geq rfl rfl | exact OpP.eqStr rfl rfl | exact OpP.neStr rfl rfl | exact OpP.eqBool rfl rfl | exact OpP.neBool rfl rfl) (by first | omega | assumption) ?_ | refine JL.decF rfl rfl (by first | exact OpP.lss rfl rfl | exact OpP.eql rfl rfl | exact OpP.neq rfl rfl | exact OpP.leq rfl rfl | exact OpP.gtr rfl rfl | exact OpP.geq rfl rfl | exact OpP.eqStr rfl rfl | exact OpP.neStr rfl rfl | exact OpP.eqBool rfl rfl | exact OpP.neBool rfl rfl) (by first | omega | assumption) ?_ | refine JL.read rfl rfl (OpR.load1 rfl (by (first | (apply Cell.row; (with_reducible repeat (first | exact .head | apply Has.tail)); rfl) | exact Cell.base (by assumption) | assumption))) ?_ | refine JL.read rfl rfl (by apply OpR.loadN rfl; apply Cells.full; (with_reducible repeat (first | exact .head | apply Has.tail)); rfl) ?_ | ((refine JL.mem0 rfl (by apply OpM.store1 rfl rfl rfl; (case' hu => (with_reducible repeat (first | exact .head | apply Upd.tail))); (case' hs => ((repeat (first | exact Spl.nil | apply Spl.here | apply Spl.there)); done))) ?_); rintro _ _ ⟨rfl, rfl⟩) | (refine JL.dec rfl rfl (by first | exact OpP.lss rfl rfl | exact OpP.eql rfl rfl | exact OpP.neq rfl rfl | exact OpP.leq rfl rfl | exact OpP.gtr rfl rfl | exact OpP.geq rfl rfl | exact OpP.eqStr rfl rfl | exact OpP.neStr rfl rfl | exact OpP.eqBool rfl rfl | exact OpP.neBool rfl rfl) (fun _ => ?_) (fun _ => ?_)))
  refine JL.step rfl rfl (OpW.call (first := []) (captured := []) inferInstance rfl rfl  (has_ok (by (first | (apply Cell.row; (with_reducible repeat (first | exact .head | apply Has.tail)); rfl) | exact Cell.base (by assumption) | assumption)))) ?_; rintro _ _ ⟨rfl, rfl⟩
  by_cases h1 : 0 ≤ i ∧ i < D.now.length
  · rw [decide_eq_true h1]
    obtain ⟨h2, h3⟩ := h1
    by_cases h4 : bs.length = 64
    · obtain ⟨b, o, cap, hbv, hcap, hc⟩ := hr.pos (by omega)
      cases hbv
      obtain ⟨n, rfl⟩ := Int.eq_ofNat_of_zero_le h2
      have hbl : (bcells bs).length = 64 := by rw [bcells_length, h4]
      repeat' (first | refine J.seq ?_ | refine J.region ?_ | refine JL.nil ?_ | refine J.skip ?_ | refine J.block ?_ | refine J.inBlock ?_ | refine J.exit rfl ?_ | refine J.condT rfl ?_ | refine J.condF rfl ?_ | refine JL.skip rfl rfl ?_ | refine JL.skip0 rfl ?_ | refine JL.pure rfl rfl (by first | exact OpP.move rfl | exact OpP.assign rfl | exact OpP.nilCheck rfl | exact OpP.fieldAddr rfl | exact OpP.pickT rfl rfl | exact OpP.pickF rfl rfl | exact OpP.len rfl rfl | exact OpP.addI rfl rfl (by omega) (by omega) | exact OpP.subI rfl rfl (by omega) (by omega) | exact OpP.notB rfl | exact OpP.field1 rfl rfl | exact OpP.extract rfl rfl | exact OpP.indexAddr rfl rfl (by omega) (by omega) | exact OpP.indexAddrA rfl rfl (by omega) (by omega) | exact OpP.lenStr rfl rfl | exact OpP.lenArr rfl rfl | exact OpP.max rfl rfl | exact OpP.min rfl rfl | exact OpP.convI64 rfl (by omega) (by omega) | exact OpP.convStr rfl | exact OpP.add (k := .u8) rfl rfl | exact OpP.sub (k := .u8) rfl rfl | exact OpP.mul (k := .u8) rfl rfl | exact OpP.nePtrNil rfl rfl | exact OpP.eqPtrNil rfl rfl | exact OpP.eqSlNil rfl rfl | exact OpP.neSlNil rfl rfl | exact OpP.remI rfl rfl (by omega) (by omega) | exact OpP.makeFunc rfl rfl | exact OpP.nilCheckFn rfl | exact OpP.arrPtr rfl (by omega) | exact OpP.build rfl (by (repeat (first | exact Fills.nil | (apply Fills.cons rfl rfl rfl; (case' hs => ((repeat (first | exact Spl.nil | apply Spl.here | apply Spl.there)); done)))))) | exact OpP.buildA rfl (by (repeat (first | exact Fills.nil | (apply Fills.cons rfl rfl rfl; (case' hs => ((repeat (first | exact Spl.nil | apply Spl.here | apply Spl.there)); done))))))) ?_ | refine JL.decT rfl rfl (by first | exact OpP.lss rfl rfl | exact OpP.eql rfl rfl | exact OpP.neq rfl rfl | exact OpP.leq rfl rfl | exact OpP.gtr rfl rfl | exact OpP.geq rfl rfl | exact OpP.eqStr rfl rfl | exact OpP.neStr rfl rfl | exact OpP.eqBool rfl rfl | exact OpP.neBool rfl rfl) (by first | omega | assumption) ?_ | refine JL.decF rfl rfl (by first | exact OpP.lss rfl rfl | exact OpP.eql rfl rfl | exact OpP.neq rfl rfl | exact OpP.leq rfl rfl | exact OpP.gtr rfl rfl | exact OpP.geq rfl rfl | exact OpP.eqStr rfl rfl | exact OpP.neStr rfl rfl | exact OpP.eqBool rfl rfl | exact OpP.neBool rfl rfl) (by first | omega | assumption) ?_ | refine JL.read rfl rfl (OpR.load1 rfl (by (first | (apply Cell.row; (with_reducible repeat (first | exact .head | apply Has.tail)); rfl) | exact Cell.base (by assumption) | assumption))) ?_ | refine JL.read rfl rfl (by apply OpR.loadN rfl; apply Cells.full; (with_reducible repeat (first | exact .head | apply Has.tail)); rfl) ?_ | ((refine JL.mem0 rfl (by apply OpM.store1 rfl rfl rfl; (case' hu => (with_reducible repeat (first | exact .head | apply Upd.tail))); (case' hs => ((repeat (first | exact Spl.nil | apply Spl.here | apply Spl.there)); done))) ?_); rintro _ _ ⟨rfl, rfl⟩) | (refine JL.dec rfl rfl (by first | exact OpP.lss rfl rfl | exact OpP.eql rfl rfl | exact OpP.neq rfl rfl | exact OpP.leq rfl rfl | exact OpP.gtr rfl rfl | exact OpP.geq rfl rfl | exact OpP.eqStr rfl rfl | exact OpP.neStr rfl rfl | exact OpP.eqBool rfl rfl | exact OpP.neBool rfl rfl) (fun _ => ?_) (fun _ => ?_)))
      refine JL.step rfl rfl (OpW.call (first := []) (captured := []) inferInstance rfl rfl  (burn_ok hok.f0 hok.f1)) ?_; rintro _ _ ⟨rfl, rfl⟩
      repeat' (first | refine J.seq ?_ | refine J.region ?_ | refine JL.nil ?_ | refine J.skip ?_ | refine J.block ?_ | refine J.inBlock ?_ | refine J.exit rfl ?_ | refine J.condT rfl ?_ | refine J.condF rfl ?_ | refine JL.skip rfl rfl ?_ | refine JL.skip0 rfl ?_ | refine JL.pure rfl rfl (by first | exact OpP.move rfl | exact OpP.assign rfl | exact OpP.nilCheck rfl | exact OpP.fieldAddr rfl | exact OpP.pickT rfl rfl | exact OpP.pickF rfl rfl | exact OpP.len rfl rfl | exact OpP.addI rfl rfl (by omega) (by omega) | exact OpP.subI rfl rfl (by omega) (by omega) | exact OpP.notB rfl | exact OpP.field1 rfl rfl | exact OpP.extract rfl rfl | exact OpP.indexAddr rfl rfl (by omega) (by omega) | exact OpP.indexAddrA rfl rfl (by omega) (by omega) | exact OpP.lenStr rfl rfl | exact OpP.lenArr rfl rfl | exact OpP.max rfl rfl | exact OpP.min rfl rfl | exact OpP.convI64 rfl (by omega) (by omega) | exact OpP.convStr rfl | exact OpP.add (k := .u8) rfl rfl | exact OpP.sub (k := .u8) rfl rfl | exact OpP.mul (k := .u8) rfl rfl | exact OpP.nePtrNil rfl rfl | exact OpP.eqPtrNil rfl rfl | exact OpP.eqSlNil rfl rfl | exact OpP.neSlNil rfl rfl | exact OpP.remI rfl rfl (by omega) (by omega) | exact OpP.makeFunc rfl rfl | exact OpP.nilCheckFn rfl | exact OpP.arrPtr rfl (by omega) | exact OpP.build rfl (by (repeat (first | exact Fills.nil | (apply Fills.cons rfl rfl rfl; (case' hs => ((repeat (first | exact Spl.nil | apply Spl.here | apply Spl.there)); done)))))) | exact OpP.buildA rfl (by (repeat (first | exact Fills.nil | (apply Fills.cons rfl rfl rfl; (case' hs => ((repeat (first | exact Spl.nil | apply Spl.here | apply Spl.there)); done))))))) ?_ | refine JL.decT rfl rfl (by first | exact OpP.lss rfl rfl | exact OpP.eql rfl rfl | exact OpP.neq rfl rfl | exact OpP.leq rfl rfl | exact OpP.gtr rfl rfl | exact OpP.geq rfl rfl | exact OpP.eqStr rfl rfl | exact OpP.neStr rfl rfl | exact OpP.eqBool rfl rfl | exact OpP.neBool rfl rfl) (by first | omega | assumption) ?_ | refine JL.decF rfl rfl (by first | exact OpP.lss rfl rfl | exact OpP.eql rfl rfl | exact OpP.neq rfl rfl | exact OpP.leq rfl rfl | exact OpP.gtr rfl rfl | exact OpP.geq rfl rfl | exact OpP.eqStr rfl rfl | exact OpP.neStr rfl rfl | exact OpP.eqBool rfl rfl | exact OpP.neBool rfl rfl) (by first | omega | assumption) ?_ | refine JL.read rfl rfl (OpR.load1 rfl (by (first | (apply Cell.row; (with_reducible repeat (first | exact .head | apply Has.tail)); rfl) | exact Cell.base (by assumption) | assumption))) ?_ | refine JL.read rfl rfl (by apply OpR.loadN rfl; apply Cells.full; (with_reducible repeat (first | exact .head | apply Has.tail)); rfl) ?_ | ((refine JL.mem0 rfl (by apply OpM.store1 rfl rfl rfl; (case' hu => (with_reducible repeat (first | exact .head | apply Upd.tail))); (case' hs => ((repeat (first | exact Spl.nil | apply Spl.here | apply Spl.there)); done))) ?_); rintro _ _ ⟨rfl, rfl⟩) | (refine JL.dec rfl rfl (by first | exact OpP.lss rfl rfl | exact OpP.eql rfl rfl | exact OpP.neq rfl rfl | exact OpP.leq rfl rfl | exact OpP.gtr rfl rfl | exact OpP.geq rfl rfl | exact OpP.eqStr rfl rfl | exact OpP.neStr rfl rfl | exact OpP.eqBool rfl rfl | exact OpP.neBool rfl rfl) (fun _ => ?_) (fun _ => ?_)))
      refine JL.read rfl rfl (OpR.loadN rfl (hc.conv (fun _ h => h.tail.tail.tail.tail)) hbl) ?_
      refine JL.pure rfl rfl (OpP.build rfl (Fills.cons rfl rfl rfl (Spl.here .nil) (Fills.cons rfl rfl hbl (Spl.there (spl_all (by rw [hbl]; rfl))) .nil))) ?_
      refine JL.mem rfl rfl OpM.alloc ?_
      rintro _ _ ⟨gw, rfl, rfl⟩
      refine JL.mem0 rfl (by apply OpM.storeN (cs := [.int .i64 0] ++ List.replicate 64 (.int .u8 0)) rfl rfl (by simp [hbl]) (by simp; exact ⟨rfl, bcells_one _⟩) (spl_all (by simp [hbl])); (with_reducible repeat (first | exact .head | apply Upd.tail))) ?_
      rintro _ _ ⟨rfl, rfl⟩
      repeat' (first | refine J.seq ?_ | refine J.region ?_ | refine JL.nil ?_ | refine J.skip ?_ | refine J.block ?_ | refine J.inBlock ?_ | refine J.exit rfl ?_ | refine J.condT rfl ?_ | refine J.condF rfl ?_ | refine JL.skip rfl rfl ?_ | refine JL.skip0 rfl ?_ | refine JL.pure rfl rfl (by first | exact OpP.move rfl | exact OpP.assign rfl | exact OpP.nilCheck rfl | exact OpP.fieldAddr rfl | exact OpP.pickT rfl rfl | exact OpP.pickF rfl rfl | exact OpP.len rfl rfl | exact OpP.addI rfl rfl (by omega) (by omega) | exact OpP.subI rfl rfl (by omega) (by omega) | exact OpP.notB rfl | exact OpP.field1 rfl rfl | exact OpP.extract rfl rfl | exact OpP.indexAddr rfl rfl (by omega) (by omega) | exact OpP.indexAddrA rfl rfl (by omega) (by omega) | exact OpP.lenStr rfl rfl | exact OpP.lenArr rfl rfl | exact OpP.max rfl rfl | exact OpP.min rfl rfl | exact OpP.convI64 rfl (by omega) (by omega) | exact OpP.convStr rfl | exact OpP.add (k := .u8) rfl rfl | exact OpP.sub (k := .u8) rfl rfl | exact OpP.mul (k := .u8) rfl rfl | exact OpP.nePtrNil rfl rfl | exact OpP.eqPtrNil rfl rfl | exact OpP.eqSlNil rfl rfl | exact OpP.neSlNil rfl rfl | exact OpP.remI rfl rfl (by omega) (by omega) | exact OpP.makeFunc rfl rfl | exact OpP.nilCheckFn rfl | exact OpP.arrPtr rfl (by omega) | exact OpP.build rfl (by (repeat (first | exact Fills.nil | (apply Fills.cons rfl rfl rfl; (case' hs => ((repeat (first | exact Spl.nil | apply Spl.here | apply Spl.there)); done)))))) | exact OpP.buildA rfl (by (repeat (first | exact Fills.nil | (apply Fills.cons rfl rfl rfl; (case' hs => ((repeat (first | exact Spl.nil | apply Spl.here | apply Spl.there)); done))))))) ?_ | refine JL.decT rfl rfl (by first | exact OpP.lss rfl rfl | exact OpP.eql rfl rfl | exact OpP.neq rfl rfl | exact OpP.leq rfl rfl | exact OpP.gtr rfl rfl | exact OpP.geq rfl rfl | exact OpP.eqStr rfl rfl | exact OpP.neStr rfl rfl | exact OpP.eqBool rfl rfl | exact OpP.neBool rfl rfl) (by first | omega | assumption) ?_ | refine JL.decF rfl rfl (by first | exact OpP.lss rfl rfl | exact OpP.eql rfl rfl | exact OpP.neq rfl rfl | exact OpP.leq rfl rfl | exact OpP.gtr rfl rfl | exact OpP.geq rfl rfl | exact OpP.eqStr rfl rfl | exact OpP.neStr rfl rfl | exact OpP.eqBool rfl rfl | exact OpP.neBool rfl rfl) (by first | omega | assumption) ?_ | refine JL.read rfl rfl (OpR.load1 rfl (by (first | (apply Cell.row; (with_reducible repeat (first | exact .head | apply Has.tail)); rfl) | exact Cell.base (by assumption) | assumption))) ?_ | refine JL.read rfl rfl (by apply OpR.loadN rfl; apply Cells.full; (with_reducible repeat (first | exact .head | apply Has.tail)); rfl) ?_ | ((refine JL.mem0 rfl (by apply OpM.store1 rfl rfl rfl; (case' hu => (with_reducible repeat (first | exact .head | apply Upd.tail))); (case' hs => ((repeat (first | exact Spl.nil | apply Spl.here | apply Spl.there)); done))) ?_); rintro _ _ ⟨rfl, rfl⟩) | (refine JL.dec rfl rfl (by first | exact OpP.lss rfl rfl | exact OpP.eql rfl rfl | exact OpP.neq rfl rfl | exact OpP.leq rfl rfl | exact OpP.gtr rfl rfl | exact OpP.geq rfl rfl | exact OpP.eqStr rfl rfl | exact OpP.neStr rfl rfl | exact OpP.eqBool rfl rfl | exact OpP.neBool rfl rfl) (fun _ => ?_) (fun _ => ?_)))
      refine J.regionD [3, 6] (by kernel_rfl) ?_
      ((first | refine DL.skip (i := 0) (by kernel_rfl) (by kernel_rfl) rfl rfl rfl ?_ | refine DL.pure (i := 0) (by kernel_rfl) (by kernel_rfl) rfl rfl rfl (by first | exact OpP.move rfl | exact OpP.assign rfl | exact OpP.nilCheck rfl | exact OpP.fieldAddr rfl | exact OpP.pickT rfl rfl | exact OpP.pickF rfl rfl | exact OpP.len rfl rfl | exact OpP.addI rfl rfl (by omega) (by omega) | exact OpP.subI rfl rfl (by omega) (by omega) | exact OpP.notB rfl | exact OpP.field1 rfl rfl | exact OpP.extract rfl rfl | exact OpP.indexAddr rfl rfl (by omega) (by omega) | exact OpP.indexAddrA rfl rfl (by omega) (by omega) | exact OpP.lenStr rfl rfl | exact OpP.lenArr rfl rfl | exact OpP.max rfl rfl | exact OpP.min rfl rfl | exact OpP.convI64 rfl (by omega) (by omega) | exact OpP.convStr rfl | exact OpP.add (k := .u8) rfl rfl | exact OpP.sub (k := .u8) rfl rfl | exact OpP.mul (k := .u8) rfl rfl | exact OpP.nePtrNil rfl rfl | exact OpP.eqPtrNil rfl rfl | exact OpP.eqSlNil rfl rfl | exact OpP.neSlNil rfl rfl | exact OpP.remI rfl rfl (by omega) (by omega) | exact OpP.makeFunc rfl rfl | exact OpP.nilCheckFn rfl | exact OpP.arrPtr rfl (by omega) | exact OpP.build rfl (by (repeat (first | exact Fills.nil | (apply Fills.cons rfl rfl rfl; (case' hs => ((repeat (first | exact Spl.nil | apply Spl.here | apply Spl.there)); done)))))) | exact OpP.buildA rfl (by (repeat (first | exact Fills.nil | (apply Fills.cons rfl rfl rfl; (case' hs => ((repeat (first | exact Spl.nil | apply Spl.here | apply Spl.there)); done))))))) ?_ | refine DL.read (i := 0) (by kernel_rfl) (by kernel_rfl) rfl rfl rfl (by first | exact fun _ h => h | exact fun _ h => h.tail | exact fun _ h => h.tail.tail | exact fun _ h => h.tail.tail.tail) (OpR.load1 rfl (by (first | (apply Cell.row; (with_reducible repeat (first | exact .head | apply Has.tail)); rfl) | exact Cell.base (by assumption) | assumption))) ?_ | refine DL.read (i := 0) (by kernel_rfl) (by kernel_rfl) rfl rfl rfl (by first | exact fun _ h => h | exact fun _ h => h.tail | exact fun _ h => h.tail.tail | exact fun _ h => h.tail.tail.tail) (by apply OpR.loadN rfl; apply Cells.full; (with_reducible repeat (first | exact .head | apply Has.tail)); rfl) ?_ | refine DL.dec (i := 0) (by kernel_rfl) (by kernel_rfl) rfl rfl rfl (by first | exact OpP.lss rfl rfl | exact OpP.eql rfl rfl | exact OpP.neq rfl rfl | exact OpP.leq rfl rfl | exact OpP.gtr rfl rfl | exact OpP.geq rfl rfl | exact OpP.eqStr rfl rfl | exact OpP.neStr rfl rfl | exact OpP.eqBool rfl rfl | exact OpP.neBool rfl rfl) (fun _ => ?_) (fun _ => ?_)); (first | refine DL.skip (i := 1) (by kernel_rfl) (by kernel_rfl) rfl rfl rfl ?_ | refine DL.pure (i := 1) (by kernel_rfl) (by kernel_rfl) rfl rfl rfl (by first | exact OpP.move rfl | exact OpP.assign rfl | exact OpP.nilCheck rfl | exact OpP.fieldAddr rfl | exact OpP.pickT rfl rfl | exact OpP.pickF rfl rfl | exact OpP.len rfl rfl | exact OpP.addI rfl rfl (by omega) (by omega) | exact OpP.subI rfl rfl (by omega) (by omega) | exact OpP.notB rfl | exact OpP.field1 rfl rfl | exact OpP.extract rfl rfl | exact OpP.indexAddr rfl rfl (by omega) (by omega) | exact OpP.indexAddrA rfl rfl (by omega) (by omega) | exact OpP.lenStr rfl rfl | exact OpP.lenArr rfl rfl | exact OpP.max rfl rfl | exact OpP.min rfl rfl | exact OpP.convI64 rfl (by omega) (by omega) | exact OpP.convStr rfl | exact OpP.add (k := .u8) rfl rfl | exact OpP.sub (k := .u8) rfl rfl | exact OpP.mul (k := .u8) rfl rfl | exact OpP.nePtrNil rfl rfl | exact OpP.eqPtrNil rfl rfl | exact OpP.eqSlNil rfl rfl | exact OpP.neSlNil rfl rfl | exact OpP.remI rfl rfl (by omega) (by omega) | exact OpP.makeFunc rfl rfl | exact OpP.nilCheckFn rfl | exact OpP.arrPtr rfl (by omega) | exact OpP.build rfl (by (repeat (first | exact Fills.nil | (apply Fills.cons rfl rfl rfl; (case' hs => ((repeat (first | exact Spl.nil | apply Spl.here | apply Spl.there)); done)))))) | exact OpP.buildA rfl (by (repeat (first | exact Fills.nil | (apply Fills.cons rfl rfl rfl; (case' hs => ((repeat (first | exact Spl.nil | apply Spl.here | apply Spl.there)); done))))))) ?_ | refine DL.read (i := 1) (by kernel_rfl) (by kernel_rfl) rfl rfl rfl (by first | exact fun _ h => h | exact fun _ h => h.tail | exact fun _ h => h.tail.tail | exact fun _ h => h.tail.tail.tail) (OpR.load1 rfl (by (first | (apply Cell.row; (with_reducible repeat (first | exact .head | apply Has.tail)); rfl) | exact Cell.base (by assumption) | assumption))) ?_ | refine DL.read (i := 1) (by kernel_rfl) (by kernel_rfl) rfl rfl rfl (by first | exact fun _ h => h | exact fun _ h => h.tail | exact fun _ h => h.tail.tail | exact fun _ h => h.tail.tail.tail) (by apply OpR.loadN rfl; apply Cells.full; (with_reducible repeat (first | exact .head | apply Has.tail)); rfl) ?_ | refine DL.dec (i := 1) (by kernel_rfl) (by kernel_rfl) rfl rfl rfl (by first | exact OpP.lss rfl rfl | exact OpP.eql rfl rfl | exact OpP.neq rfl rfl | exact OpP.leq rfl rfl | exact OpP.gtr rfl rfl | exact OpP.geq rfl rfl | exact OpP.eqStr rfl rfl | exact OpP.neStr rfl rfl | exact OpP.eqBool rfl rfl | exact OpP.neBool rfl rfl) (fun _ => ?_) (fun _ => ?_)); (first | refine DL.skip (i := 2) (by kernel_rfl) (by kernel_rfl) rfl rfl rfl ?_ | refine DL.pure (i := 2) (by kernel_rfl) (by kernel_rfl) rfl rfl rfl (by first | exact OpP.move rfl | exact OpP.assign rfl | exact OpP.nilCheck rfl | exact OpP.fieldAddr rfl | exact OpP.pickT rfl rfl | exact OpP.pickF rfl rfl | exact OpP.len rfl rfl | exact OpP.addI rfl rfl (by omega) (by omega) | exact OpP.subI rfl rfl (by omega) (by omega) | exact OpP.notB rfl | exact OpP.field1 rfl rfl | exact OpP.extract rfl rfl | exact OpP.indexAddr rfl rfl (by omega) (by omega) | exact OpP.indexAddrA rfl rfl (by omega) (by omega) | exact OpP.lenStr rfl rfl | exact OpP.lenArr rfl rfl | exact OpP.max rfl rfl | exact OpP.min rfl rfl | exact OpP.convI64 rfl (by omega) (by omega) | exact OpP.convStr rfl | exact OpP.add (k := .u8) rfl rfl | exact OpP.sub (k := .u8) rfl rfl | exact OpP.mul (k := .u8) rfl rfl | exact OpP.nePtrNil rfl rfl | exact OpP.eqPtrNil rfl rfl | exact OpP.eqSlNil rfl rfl | exact OpP.neSlNil rfl rfl | exact OpP.remI rfl rfl (by omega) (by omega) | exact OpP.makeFunc rfl rfl | exact OpP.nilCheckFn rfl | exact OpP.arrPtr rfl (by omega) | exact OpP.build rfl (by (repeat (first | exact Fills.nil | (apply Fills.cons rfl rfl rfl; (case' hs => ((repeat (first | exact Spl.nil | apply Spl.here | apply Spl.there)); done)))))) | exact OpP.buildA rfl (by (repeat (first | exact Fills.nil | (apply Fills.cons rfl rfl rfl; (case' hs => ((repeat (first | exact Spl.nil | apply Spl.here | apply Spl.there)); done))))))) ?_ | refine DL.read (i := 2) (by kernel_rfl) (by kernel_rfl) rfl rfl rfl (by first | exact fun _ h => h | exact fun _ h => h.tail | exact fun _ h => h.tail.tail | exact fun _ h => h.tail.tail.tail) (OpR.load1 rfl (by (first | (apply Cell.row; (with_reducible repeat (first | exact .head | apply Has.tail)); rfl) | exact Cell.base (by assumption) | assumption))) ?_ | refine DL.read (i := 2) (by kernel_rfl) (by kernel_rfl) rfl rfl rfl (by first | exact fun _ h => h | exact fun _ h => h.tail | exact fun _ h => h.tail.tail | exact fun _ h => h.tail.tail.tail) (by apply OpR.loadN rfl; apply Cells.full; (with_reducible repeat (first | exact .head | apply Has.tail)); rfl) ?_ | refine DL.dec (i := 2) (by kernel_rfl) (by kernel_rfl) rfl rfl rfl (by first | exact OpP.lss rfl rfl | exact OpP.eql rfl rfl | exact OpP.neq rfl rfl | exact OpP.leq rfl rfl | exact OpP.gtr rfl rfl | exact OpP.geq rfl rfl | exact OpP.eqStr rfl rfl | exact OpP.neStr rfl rfl | exact OpP.eqBool rfl rfl | exact OpP.neBool rfl rfl) (fun _ => ?_) (fun _ => ?_)); (first | refine DL.skip (i := 3) (by kernel_rfl) (by kernel_rfl) rfl rfl rfl ?_ | refine DL.pure (i := 3) (by kernel_rfl) (by kernel_rfl) rfl rfl rfl (by first | exact OpP.move rfl | exact OpP.assign rfl | exact OpP.nilCheck rfl | exact OpP.fieldAddr rfl | exact OpP.pickT rfl rfl | exact OpP.pickF rfl rfl | exact OpP.len rfl rfl | exact OpP.addI rfl rfl (by omega) (by omega) | exact OpP.subI rfl rfl (by omega) (by omega) | exact OpP.notB rfl | exact OpP.field1 rfl rfl | exact OpP.extract rfl rfl | exact OpP.indexAddr rfl rfl (by omega) (by omega) | exact OpP.indexAddrA rfl rfl (by omega) (by omega) | exact OpP.lenStr rfl rfl | exact OpP.lenArr rfl rfl | exact OpP.max rfl rfl | exact OpP.min rfl rfl | exact OpP.convI64 rfl (by omega) (by omega) | exact OpP.convStr rfl | exact OpP.add (k := .u8) rfl rfl | exact OpP.sub (k := .u8) rfl rfl | exact OpP.mul (k := .u8) rfl rfl | exact OpP.nePtrNil rfl rfl | exact OpP.eqPtrNil rfl rfl | exact OpP.eqSlNil rfl rfl | exact OpP.neSlNil rfl rfl | exact OpP.remI rfl rfl (by omega) (by omega) | exact OpP.makeFunc rfl rfl | exact OpP.nilCheckFn rfl | exact OpP.arrPtr rfl (by omega) | exact OpP.build rfl (by (repeat (first | exact Fills.nil | (apply Fills.cons rfl rfl rfl; (case' hs => ((repeat (first | exact Spl.nil | apply Spl.here | apply Spl.there)); done)))))) | exact OpP.buildA rfl (by (repeat (first | exact Fills.nil | (apply Fills.cons rfl rfl rfl; (case' hs => ((repeat (first | exact Spl.nil | apply Spl.here | apply Spl.there)); done))))))) ?_ | refine DL.read (i := 3) (by kernel_rfl) (by kernel_rfl) rfl rfl rfl (by first | exact fun _ h => h | exact fun _ h => h.tail | exact fun _ h => h.tail.tail | exact fun _ h => h.tail.tail.tail) (OpR.load1 rfl (by (first | (apply Cell.row; (with_reducible repeat (first | exact .head | apply Has.tail)); rfl) | exact Cell.base (by assumption) | assumption))) ?_ | refine DL.read (i := 3) (by kernel_rfl) (by kernel_rfl) rfl rfl rfl (by first | exact fun _ h => h | exact fun _ h => h.tail | exact fun _ h => h.tail.tail | exact fun _ h => h.tail.tail.tail) (by apply OpR.loadN rfl; apply Cells.full; (with_reducible repeat (first | exact .head | apply Has.tail)); rfl) ?_ | refine DL.dec (i := 3) (by kernel_rfl) (by kernel_rfl) rfl rfl rfl (by first | exact OpP.lss rfl rfl | exact OpP.eql rfl rfl | exact OpP.neq rfl rfl | exact OpP.leq rfl rfl | exact OpP.gtr rfl rfl | exact OpP.geq rfl rfl | exact OpP.eqStr rfl rfl | exact OpP.neStr rfl rfl | exact OpP.eqBool rfl rfl | exact OpP.neBool rfl rfl) (fun _ => ?_) (fun _ => ?_)); (first | refine DL.skip (i := 4) (by kernel_rfl) (by kernel_rfl) rfl rfl rfl ?_ | refine DL.pure (i := 4) (by kernel_rfl) (by kernel_rfl) rfl rfl rfl (by first | exact OpP.move rfl | exact OpP.assign rfl | exact OpP.nilCheck rfl | exact OpP.fieldAddr rfl | exact OpP.pickT rfl rfl | exact OpP.pickF rfl rfl | exact OpP.len rfl rfl | exact OpP.addI rfl rfl (by omega) (by omega) | exact OpP.subI rfl rfl (by omega) (by omega) | exact OpP.notB rfl | exact OpP.field1 rfl rfl | exact OpP.extract rfl rfl | exact OpP.indexAddr rfl rfl (by omega) (by omega) | exact OpP.indexAddrA rfl rfl (by omega) (by omega) | exact OpP.lenStr rfl rfl | exact OpP.lenArr rfl rfl | exact OpP.max rfl rfl | exact OpP.min rfl rfl | exact OpP.convI64 rfl (by omega) (by omega) | exact OpP.convStr rfl | exact OpP.add (k := .u8) rfl rfl | exact OpP.sub (k := .u8) rfl rfl | exact OpP.mul (k := .u8) rfl rfl | exact OpP.nePtrNil rfl rfl | exact OpP.eqPtrNil rfl rfl | exact OpP.eqSlNil rfl rfl | exact OpP.neSlNil rfl rfl | exact OpP.remI rfl rfl (by omega) (by omega) | exact OpP.makeFunc rfl rfl | exact OpP.nilCheckFn rfl | exact OpP.arrPtr rfl (by omega) | exact OpP.build rfl (by (repeat (first | exact Fills.nil | (apply Fills.cons rfl rfl rfl; (case' hs => ((repeat (first | exact Spl.nil | apply Spl.here | apply Spl.there)); done)))))) | exact OpP.buildA rfl (by (repeat (first | exact Fills.nil | (apply Fills.cons rfl rfl rfl; (case' hs => ((repeat (first | exact Spl.nil | apply Spl.here | apply Spl.there)); done))))))) ?_ | refine DL.read (i := 4) (by kernel_rfl) (by kernel_rfl) rfl rfl rfl (by first | exact fun _ h => h | exact fun _ h => h.tail | exact fun _ h => h.tail.tail | exact fun _ h => h.tail.tail.tail) (OpR.load1 rfl (by (first | (apply Cell.row; (with_reducible repeat (first | exact .head | apply Has.tail)); rfl) | exact Cell.base (by assumption) | assumption))) ?_ | refine DL.read (i := 4) (by kernel_rfl) (by kernel_rfl) rfl rfl rfl (by first | exact fun _ h => h | exact fun _ h => h.tail | exact fun _ h => h.tail.tail | exact fun _ h => h.tail.tail.tail) (by apply OpR.loadN rfl; apply Cells.full; (with_reducible repeat (first | exact .head | apply Has.tail)); rfl) ?_ | refine DL.dec (i := 4) (by kernel_rfl) (by kernel_rfl) rfl rfl rfl (by first | exact OpP.lss rfl rfl | exact OpP.eql rfl rfl | exact OpP.neq rfl rfl | exact OpP.leq rfl rfl | exact OpP.gtr rfl rfl | exact OpP.geq rfl rfl | exact OpP.eqStr rfl rfl | exact OpP.neStr rfl rfl | exact OpP.eqBool rfl rfl | exact OpP.neBool rfl rfl) (fun _ => ?_) (fun _ => ?_)); (first | refine DL.skip (i := 5) (by kernel_rfl) (by kernel_rfl) rfl rfl rfl ?_ | refine DL.pure (i := 5) (by kernel_rfl) (by kernel_rfl) rfl rfl rfl (by first | exact OpP.move rfl | exact OpP.assign rfl | exact OpP.nilCheck rfl | exact OpP.fieldAddr rfl | exact OpP.pickT rfl rfl | exact OpP.pickF rfl rfl | exact OpP.len rfl rfl | exact OpP.addI rfl rfl (by omega) (by omega) | exact OpP.subI rfl rfl (by omega) (by omega) | exact OpP.notB rfl | exact OpP.field1 rfl rfl | exact OpP.extract rfl rfl | exact OpP.indexAddr rfl rfl (by omega) (by omega) | exact OpP.indexAddrA rfl rfl (by omega) (by omega) | exact OpP.lenStr rfl rfl | exact OpP.lenArr rfl rfl | exact OpP.max rfl rfl | exact OpP.min rfl rfl | exact OpP.convI64 rfl (by omega) (by omega) | exact OpP.convStr rfl | exact OpP.add (k := .u8) rfl rfl | exact OpP.sub (k := .u8) rfl rfl | exact OpP.mul (k := .u8) rfl rfl | exact OpP.nePtrNil rfl rfl | exact OpP.eqPtrNil rfl rfl | exact OpP.eqSlNil rfl rfl | exact OpP.neSlNil rfl rfl | exact OpP.remI rfl rfl (by omega) (by omega) | exact OpP.makeFunc rfl rfl | exact OpP.nilCheckFn rfl | exact OpP.arrPtr rfl (by omega) | exact OpP.build rfl (by (repeat (first | exact Fills.nil | (apply Fills.cons rfl rfl rfl; (case' hs => ((repeat (first | exact Spl.nil | apply Spl.here | apply Spl.there)); done)))))) | exact OpP.buildA rfl (by (repeat (first | exact Fills.nil | (apply Fills.cons rfl rfl rfl; (case' hs => ((repeat (first | exact Spl.nil | apply Spl.here | apply Spl.there)); done))))))) ?_ | refine DL.read (i := 5) (by kernel_rfl) (by kernel_rfl) rfl rfl rfl (by first | exact fun _ h => h | exact fun _ h => h.tail | exact fun _ h => h.tail.tail | exact fun _ h => h.tail.tail.tail) (OpR.load1 rfl (by (first | (apply Cell.row; (with_reducible repeat (first | exact .head | apply Has.tail)); rfl) | exact Cell.base (by assumption) | assumption))) ?_ | refine DL.read (i := 5) (by kernel_rfl) (by kernel_rfl) rfl rfl rfl (by first | exact fun _ h => h | exact fun _ h => h.tail | exact fun _ h => h.tail.tail | exact fun _ h => h.tail.tail.tail) (by apply OpR.loadN rfl; apply Cells.full; (with_reducible repeat (first | exact .head | apply Has.tail)); rfl) ?_ | refine DL.dec (i := 5) (by kernel_rfl) (by kernel_rfl) rfl rfl rfl (by first | exact OpP.lss rfl rfl | exact OpP.eql rfl rfl | exact OpP.neq rfl rfl | exact OpP.leq rfl rfl | exact OpP.gtr rfl rfl | exact OpP.geq rfl rfl | exact OpP.eqStr rfl rfl | exact OpP.neStr rfl rfl | exact OpP.eqBool rfl rfl | exact OpP.neBool rfl rfl) (fun _ => ?_) (fun _ => ?_)))
      refine DL.read (i := 6) (by kernel_rfl) (by kernel_rfl) rfl rfl rfl (by first | exact fun _ h => h | exact fun _ h => h.tail | exact fun _ h => h.tail.tail | exact fun _ h => h.tail.tail.tail) (OpR.loadN rfl (Cells.sub (vs := bcells bs) 64 (by (with_reducible repeat (first | exact .head | apply Has.tail))) (by show List.take 64 (bcells bs) = _; exact List.take_of_length_le (by omega))) hbl) ?_
      ((first | refine DL.skip (i := 7) (by kernel_rfl) (by kernel_rfl) rfl rfl rfl ?_ | refine DL.pure (i := 7) (by kernel_rfl) (by kernel_rfl) rfl rfl rfl (by first | exact OpP.move rfl | exact OpP.assign rfl | exact OpP.nilCheck rfl | exact OpP.fieldAddr rfl | exact OpP.pickT rfl rfl | exact OpP.pickF rfl rfl | exact OpP.len rfl rfl | exact OpP.addI rfl rfl (by omega) (by omega) | exact OpP.subI rfl rfl (by omega) (by omega) | exact OpP.notB rfl | exact OpP.field1 rfl rfl | exact OpP.extract rfl rfl | exact OpP.indexAddr rfl rfl (by omega) (by omega) | exact OpP.indexAddrA rfl rfl (by omega) (by omega) | exact OpP.lenStr rfl rfl | exact OpP.lenArr rfl rfl | exact OpP.max rfl rfl | exact OpP.min rfl rfl | exact OpP.convI64 rfl (by omega) (by omega) | exact OpP.convStr rfl | exact OpP.add (k := .u8) rfl rfl | exact OpP.sub (k := .u8) rfl rfl | exact OpP.mul (k := .u8) rfl rfl | exact OpP.nePtrNil rfl rfl | exact OpP.eqPtrNil rfl rfl | exact OpP.eqSlNil rfl rfl | exact OpP.neSlNil rfl rfl | exact OpP.remI rfl rfl (by omega) (by omega) | exact OpP.makeFunc rfl rfl | exact OpP.nilCheckFn rfl | exact OpP.arrPtr rfl (by omega) | exact OpP.build rfl (by (repeat (first | exact Fills.nil | (apply Fills.cons rfl rfl rfl; (case' hs => ((repeat (first | exact Spl.nil | apply Spl.here | apply Spl.there)); done)))))) | exact OpP.buildA rfl (by (repeat (first | exact Fills.nil | (apply Fills.cons rfl rfl rfl; (case' hs => ((repeat (first | exact Spl.nil | apply Spl.here | apply Spl.there)); done))))))) ?_ | refine DL.read (i := 7) (by kernel_rfl) (by kernel_rfl) rfl rfl rfl (by first | exact fun _ h => h | exact fun _ h => h.tail | exact fun _ h => h.tail.tail | exact fun _ h => h.tail.tail.tail) (OpR.load1 rfl (by (first | (apply Cell.row; (with_reducible repeat (first | exact .head | apply Has.tail)); rfl) | exact Cell.base (by assumption) | assumption))) ?_ | refine DL.read (i := 7) (by kernel_rfl) (by kernel_rfl) rfl rfl rfl (by first | exact fun _ h => h | exact fun _ h => h.tail | exact fun _ h => h.tail.tail | exact fun _ h => h.tail.tail.tail) (by apply OpR.loadN rfl; apply Cells.full; (with_reducible repeat (first | exact .head | apply Has.tail)); rfl) ?_ | refine DL.dec (i := 7) (by kernel_rfl) (by kernel_rfl) rfl rfl rfl (by first | exact OpP.lss rfl rfl | exact OpP.eql rfl rfl | exact OpP.neq rfl rfl | exact OpP.leq rfl rfl | exact OpP.gtr rfl rfl | exact OpP.geq rfl rfl | exact OpP.eqStr rfl rfl | exact OpP.neStr rfl rfl | exact OpP.eqBool rfl rfl | exact OpP.neBool rfl rfl) (fun _ => ?_) (fun _ => ?_)))
      refine DL.only (i := 8) (by kernel_rfl) ?_
      refine DL1.stepF0 rfl rfl (by kernel_rfl) (OpM.w (by apply OpM.storeN (cs := secs D.now) (cs' := secs (D.now.set n bs)) rfl rfl hbl (bcells_one _) (by simp only [Nat.zero_add, Int.toNat_natCast]; exact chunk_spl hok.now64 hbl (by omega)); (with_reducible repeat (first | exact .head | apply Upd.tail)))) ?_
      rintro _ _ ⟨rfl, rfl⟩
      (skip; refine DL.done (by kernel_rfl) ?_) -- then: 
      repeat' (first | refine J.seq ?_ | refine J.region ?_ | refine JL.nil ?_ | refine J.skip ?_ | refine J.block ?_ | refine J.inBlock ?_ | refine J.exit rfl ?_ | refine J.condT rfl ?_ | refine J.condF rfl ?_ | refine JL.skip rfl rfl ?_ | refine JL.skip0 rfl ?_ | refine JL.pure rfl rfl (by first | exact OpP.move rfl | exact OpP.assign rfl | exact OpP.nilCheck rfl | exact OpP.fieldAddr rfl | exact OpP.pickT rfl rfl | exact OpP.pickF rfl rfl | exact OpP.len rfl rfl | exact OpP.addI rfl rfl (by omega) (by omega) | exact OpP.subI rfl rfl (by omega) (by omega) | exact OpP.notB rfl | exact OpP.field1 rfl rfl | exact OpP.extract rfl rfl | exact OpP.indexAddr rfl rfl (by omega) (by omega) | exact OpP.indexAddrA rfl rfl (by omega) (by omega) | exact OpP.lenStr rfl rfl | exact OpP.lenArr rfl rfl | exact OpP.max rfl rfl | exact OpP.min rfl rfl | exact OpP.convI64 rfl (by omega) (by omega) | exact OpP.convStr rfl | exact OpP.add (k := .u8) rfl rfl | exact OpP.sub (k := .u8) rfl rfl | exact OpP.mul (k := .u8) rfl rfl | exact OpP.nePtrNil rfl rfl | exact OpP.eqPtrNil rfl rfl | exact OpP.eqSlNil rfl rfl | exact OpP.neSlNil rfl rfl | exact OpP.remI rfl rfl (by omega) (by omega) | exact OpP.makeFunc rfl rfl | exact OpP.nilCheckFn rfl | exact OpP.arrPtr rfl (by omega) | exact OpP.build rfl (by (repeat (first | exact Fills.nil | (apply Fills.cons rfl rfl rfl; (case' hs => ((repeat (first | exact Spl.nil | apply Spl.here | apply Spl.there)); done)))))) | exact OpP.buildA rfl (by (repeat (first | exact Fills.nil | (apply Fills.cons rfl rfl rfl; (case' hs => ((repeat (first | exact Spl.nil | apply Spl.here | apply Spl.there)); done))))))) ?_ | refine JL.decT rfl rfl (by first | exact OpP.lss rfl rfl | exact OpP.eql rfl rfl | exact OpP.neq rfl rfl | exact OpP.leq rfl rfl | exact OpP.gtr rfl rfl | exact OpP.geq rfl rfl | exact OpP.eqStr rfl rfl | exact OpP.neStr rfl rfl | exact OpP.eqBool rfl rfl | exact OpP.neBool rfl rfl) (by first | omega | assumption) ?_ | refine JL.decF rfl rfl (by first | exact OpP.lss rfl rfl | exact OpP.eql rfl rfl | exact OpP.neq rfl rfl | exact OpP.leq rfl rfl | exact OpP.gtr rfl rfl | exact OpP.geq rfl rfl | exact OpP.eqStr rfl rfl | exact OpP.neStr rfl rfl | exact OpP.eqBool rfl rfl | exact OpP.neBool rfl rfl) (by first | omega | assumption) ?_ | refine JL.read rfl rfl (OpR.load1 rfl (by (first | (apply Cell.row; (with_reducible repeat (first | exact .head | apply Has.tail)); rfl) | exact Cell.base (by assumption) | assumption))) ?_ | refine JL.read rfl rfl (by apply OpR.loadN rfl; apply Cells.full; (with_reducible repeat (first | exact .head | apply Has.tail)); rfl) ?_ | ((refine JL.mem0 rfl (by apply OpM.store1 rfl rfl rfl; (case' hu => (with_reducible repeat (first | exact .head | apply Upd.tail))); (case' hs => ((repeat (first | exact Spl.nil | apply Spl.here | apply Spl.there)); done))) ?_); rintro _ _ ⟨rfl, rfl⟩) | (refine JL.dec rfl rfl (by first | exact OpP.lss rfl rfl | exact OpP.eql rfl rfl | exact OpP.neq rfl rfl | exact OpP.leq rfl rfl | exact OpP.gtr rfl rfl | exact OpP.geq rfl rfl | exact OpP.eqStr rfl rfl | exact OpP.neStr rfl rfl | exact OpP.eqBool rfl rfl | exact OpP.neBool rfl rfl) (fun _ => ?_) (fun _ => ?_)))
      refine J.regionD [4, 5] (by kernel_rfl) ?_
      ((first | refine DL.skip (i := 0) (by kernel_rfl) (by kernel_rfl) rfl rfl rfl ?_ | refine DL.pure (i := 0) (by kernel_rfl) (by kernel_rfl) rfl rfl rfl (by first | exact OpP.move rfl | exact OpP.assign rfl | exact OpP.nilCheck rfl | exact OpP.fieldAddr rfl | exact OpP.pickT rfl rfl | exact OpP.pickF rfl rfl | exact OpP.len rfl rfl | exact OpP.addI rfl rfl (by omega) (by omega) | exact OpP.subI rfl rfl (by omega) (by omega) | exact OpP.notB rfl | exact OpP.field1 rfl rfl | exact OpP.extract rfl rfl | exact OpP.indexAddr rfl rfl (by omega) (by omega) | exact OpP.indexAddrA rfl rfl (by omega) (by omega) | exact OpP.lenStr rfl rfl | exact OpP.lenArr rfl rfl | exact OpP.max rfl rfl | exact OpP.min rfl rfl | exact OpP.convI64 rfl (by omega) (by omega) | exact OpP.convStr rfl | exact OpP.add (k := .u8) rfl rfl | exact OpP.sub (k := .u8) rfl rfl | exact OpP.mul (k := .u8) rfl rfl | exact OpP.nePtrNil rfl rfl | exact OpP.eqPtrNil rfl rfl | exact OpP.eqSlNil rfl rfl | exact OpP.neSlNil rfl rfl | exact OpP.remI rfl rfl (by omega) (by omega) | exact OpP.makeFunc rfl rfl | exact OpP.nilCheckFn rfl | exact OpP.arrPtr rfl (by omega) | exact OpP.build rfl (by (repeat (first | exact Fills.nil | (apply Fills.cons rfl rfl rfl; (case' hs => ((repeat (first | exact Spl.nil | apply Spl.here | apply Spl.there)); done)))))) | exact OpP.buildA rfl (by (repeat (first | exact Fills.nil | (apply Fills.cons rfl rfl rfl; (case' hs => ((repeat (first | exact Spl.nil | apply Spl.here | apply Spl.there)); done))))))) ?_ | refine DL.read (i := 0) (by kernel_rfl) (by kernel_rfl) rfl rfl rfl (by first | exact fun _ h => h | exact fun _ h => h.tail | exact fun _ h => h.tail.tail | exact fun _ h => h.tail.tail.tail) (OpR.load1 rfl (by (first | (apply Cell.row; (with_reducible repeat (first | exact .head | apply Has.tail)); rfl) | exact Cell.base (by assumption) | assumption))) ?_ | refine DL.read (i := 0) (by kernel_rfl) (by kernel_rfl) rfl rfl rfl (by first | exact fun _ h => h | exact fun _ h => h.tail | exact fun _ h => h.tail.tail | exact fun _ h => h.tail.tail.tail) (by apply OpR.loadN rfl; apply Cells.full; (with_reducible repeat (first | exact .head | apply Has.tail)); rfl) ?_ | refine DL.dec (i := 0) (by kernel_rfl) (by kernel_rfl) rfl rfl rfl (by first | exact OpP.lss rfl rfl | exact OpP.eql rfl rfl | exact OpP.neq rfl rfl | exact OpP.leq rfl rfl | exact OpP.gtr rfl rfl | exact OpP.geq rfl rfl | exact OpP.eqStr rfl rfl | exact OpP.neStr rfl rfl | exact OpP.eqBool rfl rfl | exact OpP.neBool rfl rfl) (fun _ => ?_) (fun _ => ?_)); (first | refine DL.skip (i := 1) (by kernel_rfl) (by kernel_rfl) rfl rfl rfl ?_ | refine DL.pure (i := 1) (by kernel_rfl) (by kernel_rfl) rfl rfl rfl (by first | exact OpP.move rfl | exact OpP.assign rfl | exact OpP.nilCheck rfl | exact OpP.fieldAddr rfl | exact OpP.pickT rfl rfl | exact OpP.pickF rfl rfl | exact OpP.len rfl rfl | exact OpP.addI rfl rfl (by omega) (by omega) | exact OpP.subI rfl rfl (by omega) (by omega) | exact OpP.notB rfl | exact OpP.field1 rfl rfl | exact OpP.extract rfl rfl | exact OpP.indexAddr rfl rfl (by omega) (by omega) | exact OpP.indexAddrA rfl rfl (by omega) (by omega) | exact OpP.lenStr rfl rfl | exact OpP.lenArr rfl rfl | exact OpP.max rfl rfl | exact OpP.min rfl rfl | exact OpP.convI64 rfl (by omega) (by omega) | exact OpP.convStr rfl | exact OpP.add (k := .u8) rfl rfl | exact OpP.sub (k := .u8) rfl rfl | exact OpP.mul (k := .u8) rfl rfl | exact OpP.nePtrNil rfl rfl | exact OpP.eqPtrNil rfl rfl | exact OpP.eqSlNil rfl rfl | exact OpP.neSlNil rfl rfl | exact OpP.remI rfl rfl (by omega) (by omega) | exact OpP.makeFunc rfl rfl | exact OpP.nilCheckFn rfl | exact OpP.arrPtr rfl (by omega) | exact OpP.build rfl (by (repeat (first | exact Fills.nil | (apply Fills.cons rfl rfl rfl; (case' hs => ((repeat (first | exact Spl.nil | apply Spl.here | apply Spl.there)); done)))))) | exact OpP.buildA rfl (by (repeat (first | exact Fills.nil | (apply Fills.cons rfl rfl rfl; (case' hs => ((repeat (first | exact Spl.nil | apply Spl.here | apply Spl.there)); done))))))) ?_ | refine DL.read (i := 1) (by kernel_rfl) (by kernel_rfl) rfl rfl rfl (by first | exact fun _ h => h | exact fun _ h => h.tail | exact fun _ h => h.tail.tail | exact fun _ h => h.tail.tail.tail) (OpR.load1 rfl (by (first | (apply Cell.row; (with_reducible repeat (first | exact .head | apply Has.tail)); rfl) | exact Cell.base (by assumption) | assumption))) ?_ | refine DL.read (i := 1) (by kernel_rfl) (by kernel_rfl) rfl rfl rfl (by first | exact fun _ h => h | exact fun _ h => h.tail | exact fun _ h => h.tail.tail | exact fun _ h => h.tail.tail.tail) (by apply OpR.loadN rfl; apply Cells.full; (with_reducible repeat (first | exact .head | apply Has.tail)); rfl) ?_ | refine DL.dec (i := 1) (by kernel_rfl) (by kernel_rfl) rfl rfl rfl (by first | exact OpP.lss rfl rfl | exact OpP.eql rfl rfl | exact OpP.neq rfl rfl | exact OpP.leq rfl rfl | exact OpP.gtr rfl rfl | exact OpP.geq rfl rfl | exact OpP.eqStr rfl rfl | exact OpP.neStr rfl rfl | exact OpP.eqBool rfl rfl | exact OpP.neBool rfl rfl) (fun _ => ?_) (fun _ => ?_)); (first | refine DL.skip (i := 2) (by kernel_rfl) (by kernel_rfl) rfl rfl rfl ?_ | refine DL.pure (i := 2) (by kernel_rfl) (by kernel_rfl) rfl rfl rfl (by first | exact OpP.move rfl | exact OpP.assign rfl | exact OpP.nilCheck rfl | exact OpP.fieldAddr rfl | exact OpP.pickT rfl rfl | exact OpP.pickF rfl rfl | exact OpP.len rfl rfl | exact OpP.addI rfl rfl (by omega) (by omega) | exact OpP.subI rfl rfl (by omega) (by omega) | exact OpP.notB rfl | exact OpP.field1 rfl rfl | exact OpP.extract rfl rfl | exact OpP.indexAddr rfl rfl (by omega) (by omega) | exact OpP.indexAddrA rfl rfl (by omega) (by omega) | exact OpP.lenStr rfl rfl | exact OpP.lenArr rfl rfl | exact OpP.max rfl rfl | exact OpP.min rfl rfl | exact OpP.convI64 rfl (by omega) (by omega) | exact OpP.convStr rfl | exact OpP.add (k := .u8) rfl rfl | exact OpP.sub (k := .u8) rfl rfl | exact OpP.mul (k := .u8) rfl rfl | exact OpP.nePtrNil rfl rfl | exact OpP.eqPtrNil rfl rfl | exact OpP.eqSlNil rfl rfl | exact OpP.neSlNil rfl rfl | exact OpP.remI rfl rfl (by omega) (by omega) | exact OpP.makeFunc rfl rfl | exact OpP.nilCheckFn rfl | exact OpP.arrPtr rfl (by omega) | exact OpP.build rfl (by (repeat (first | exact Fills.nil | (apply Fills.cons rfl rfl rfl; (case' hs => ((repeat (first | exact Spl.nil | apply Spl.here | apply Spl.there)); done)))))) | exact OpP.buildA rfl (by (repeat (first | exact Fills.nil | (apply Fills.cons rfl rfl rfl; (case' hs => ((repeat (first | exact Spl.nil | apply Spl.here | apply Spl.there)); done))))))) ?_ | refine DL.read (i := 2) (by kernel_rfl) (by kernel_rfl) rfl rfl rfl (by first | exact fun _ h => h | exact fun _ h => h.tail | exact fun _ h => h.tail.tail | exact fun _ h => h.tail.tail.tail) (OpR.load1 rfl (by (first | (apply Cell.row; (with_reducible repeat (first | exact .head | apply Has.tail)); rfl) | exact Cell.base (by assumption) | assumption))) ?_ | refine DL.read (i := 2) (by kernel_rfl) (by kernel_rfl) rfl rfl rfl (by first | exact fun _ h => h | exact fun _ h => h.tail | exact fun _ h => h.tail.tail | exact fun _ h => h.tail.tail.tail) (by apply OpR.loadN rfl; apply Cells.full; (with_reducible repeat (first | exact .head | apply Has.tail)); rfl) ?_ | refine DL.dec (i := 2) (by kernel_rfl) (by kernel_rfl) rfl rfl rfl (by first | exact OpP.lss rfl rfl | exact OpP.eql rfl rfl | exact OpP.neq rfl rfl | exact OpP.leq rfl rfl | exact OpP.gtr rfl rfl | exact OpP.geq rfl rfl | exact OpP.eqStr rfl rfl | exact OpP.neStr rfl rfl | exact OpP.eqBool rfl rfl | exact OpP.neBool rfl rfl) (fun _ => ?_) (fun _ => ?_)); (first | refine DL.skip (i := 3) (by kernel_rfl) (by kernel_rfl) rfl rfl rfl ?_ | refine DL.pure (i := 3) (by kernel_rfl) (by kernel_rfl) rfl rfl rfl (by first | exact OpP.move rfl | exact OpP.assign rfl | exact OpP.nilCheck rfl | exact OpP.fieldAddr rfl | exact OpP.pickT rfl rfl | exact OpP.pickF rfl rfl | exact OpP.len rfl rfl | exact OpP.addI rfl rfl (by omega) (by omega) | exact OpP.subI rfl rfl (by omega) (by omega) | exact OpP.notB rfl | exact OpP.field1 rfl rfl | exact OpP.extract rfl rfl | exact OpP.indexAddr rfl rfl (by omega) (by omega) | exact OpP.indexAddrA rfl rfl (by omega) (by omega) | exact OpP.lenStr rfl rfl | exact OpP.lenArr rfl rfl | exact OpP.max rfl rfl | exact OpP.min rfl rfl | exact OpP.convI64 rfl (by omega) (by omega) | exact OpP.convStr rfl | exact OpP.add (k := .u8) rfl rfl | exact OpP.sub (k := .u8) rfl rfl | exact OpP.mul (k := .u8) rfl rfl | exact OpP.nePtrNil rfl rfl | exact OpP.eqPtrNil rfl rfl | exact OpP.eqSlNil rfl rfl | exact OpP.neSlNil rfl rfl | exact OpP.remI rfl rfl (by omega) (by omega) | exact OpP.makeFunc rfl rfl | exact OpP.nilCheckFn rfl | exact OpP.arrPtr rfl (by omega) | exact OpP.build rfl (by (repeat (first | exact Fills.nil | (apply Fills.cons rfl rfl rfl; (case' hs => ((repeat (first | exact Spl.nil | apply Spl.here | apply Spl.there)); done)))))) | exact OpP.buildA rfl (by (repeat (first | exact Fills.nil | (apply Fills.cons rfl rfl rfl; (case' hs => ((repeat (first | exact Spl.nil | apply Spl.here | apply Spl.there)); done))))))) ?_ | refine DL.read (i := 3) (by kernel_rfl) (by kernel_rfl) rfl rfl rfl (by first | exact fun _ h => h | exact fun _ h => h.tail | exact fun _ h => h.tail.tail | exact fun _ h => h.tail.tail.tail) (OpR.load1 rfl (by (first | (apply Cell.row; (with_reducible repeat (first | exact .head | apply Has.tail)); rfl) | exact Cell.base (by assumption) | assumption))) ?_ | refine DL.read (i := 3) (by kernel_rfl) (by kernel_rfl) rfl rfl rfl (by first | exact fun _ h => h | exact fun _ h => h.tail | exact fun _ h => h.tail.tail | exact fun _ h => h.tail.tail.tail) (by apply OpR.loadN rfl; apply Cells.full; (with_reducible repeat (first | exact .head | apply Has.tail)); rfl) ?_ | refine DL.dec (i := 3) (by kernel_rfl) (by kernel_rfl) rfl rfl rfl (by first | exact OpP.lss rfl rfl | exact OpP.eql rfl rfl | exact OpP.neq rfl rfl | exact OpP.leq rfl rfl | exact OpP.gtr rfl rfl | exact OpP.geq rfl rfl | exact OpP.eqStr rfl rfl | exact OpP.neStr rfl rfl | exact OpP.eqBool rfl rfl | exact OpP.neBool rfl rfl) (fun _ => ?_) (fun _ => ?_)); (first | refine DL.skip (i := 4) (by kernel_rfl) (by kernel_rfl) rfl rfl rfl ?_ | refine DL.pure (i := 4) (by kernel_rfl) (by kernel_rfl) rfl rfl rfl (by first | exact OpP.move rfl | exact OpP.assign rfl | exact OpP.nilCheck rfl | exact OpP.fieldAddr rfl | exact OpP.pickT rfl rfl | exact OpP.pickF rfl rfl | exact OpP.len rfl rfl | exact OpP.addI rfl rfl (by omega) (by omega) | exact OpP.subI rfl rfl (by omega) (by omega) | exact OpP.notB rfl | exact OpP.field1 rfl rfl | exact OpP.extract rfl rfl | exact OpP.indexAddr rfl rfl (by omega) (by omega) | exact OpP.indexAddrA rfl rfl (by omega) (by omega) | exact OpP.lenStr rfl rfl | exact OpP.lenArr rfl rfl | exact OpP.max rfl rfl | exact OpP.min rfl rfl | exact OpP.convI64 rfl (by omega) (by omega) | exact OpP.convStr rfl | exact OpP.add (k := .u8) rfl rfl | exact OpP.sub (k := .u8) rfl rfl | exact OpP.mul (k := .u8) rfl rfl | exact OpP.nePtrNil rfl rfl | exact OpP.eqPtrNil rfl rfl | exact OpP.eqSlNil rfl rfl | exact OpP.neSlNil rfl rfl | exact OpP.remI rfl rfl (by omega) (by omega) | exact OpP.makeFunc rfl rfl | exact OpP.nilCheckFn rfl | exact OpP.arrPtr rfl (by omega) | exact OpP.build rfl (by (repeat (first | exact Fills.nil | (apply Fills.cons rfl rfl rfl; (case' hs => ((repeat (first | exact Spl.nil | apply Spl.here | apply Spl.there)); done)))))) | exact OpP.buildA rfl (by (repeat (first | exact Fills.nil | (apply Fills.cons rfl rfl rfl; (case' hs => ((repeat (first | exact Spl.nil | apply Spl.here | apply Spl.there)); done))))))) ?_ | refine DL.read (i := 4) (by kernel_rfl) (by kernel_rfl) rfl rfl rfl (by first | exact fun _ h => h | exact fun _ h => h.tail | exact fun _ h => h.tail.tail | exact fun _ h => h.tail.tail.tail) (OpR.load1 rfl (by (first | (apply Cell.row; (with_reducible repeat (first | exact .head | apply Has.tail)); rfl) | exact Cell.base (by assumption) | assumption))) ?_ | refine DL.read (i := 4) (by kernel_rfl) (by kernel_rfl) rfl rfl rfl (by first | exact fun _ h => h | exact fun _ h => h.tail | exact fun _ h => h.tail.tail | exact fun _ h => h.tail.tail.tail) (by apply OpR.loadN rfl; apply Cells.full; (with_reducible repeat (first | exact .head | apply Has.tail)); rfl) ?_ | refine DL.dec (i := 4) (by kernel_rfl) (by kernel_rfl) rfl rfl rfl (by first | exact OpP.lss rfl rfl | exact OpP.eql rfl rfl | exact OpP.neq rfl rfl | exact OpP.leq rfl rfl | exact OpP.gtr rfl rfl | exact OpP.geq rfl rfl | exact OpP.eqStr rfl rfl | exact OpP.neStr rfl rfl | exact OpP.eqBool rfl rfl | exact OpP.neBool rfl rfl) (fun _ => ?_) (fun _ => ?_)))
      refine DL.read (i := 5) (by kernel_rfl) (by kernel_rfl) rfl rfl rfl (by first | exact fun _ h => h | exact fun _ h => h.tail | exact fun _ h => h.tail.tail | exact fun _ h => h.tail.tail.tail) (OpR.loadN rfl (Cells.full (cs := .int .i64 n :: bcells bs) (by (with_reducible repeat (first | exact .head | apply Has.tail)))) (by simp [hbl])) ?_
      refine DL.only (i := 6) (by kernel_rfl) ?_
      refine DL1.stepK rfl rfl rfl (OpM.w (by apply OpM.buildSlice (cs := wcell (n, bs)) (by rfl) rfl (by rfl); exact Fills.cons rfl rfl (by simp [hbl]) (spl_all (by simp [hbl, rep])) .nil)) (by rintro _ _ ⟨_, rfl, rfl⟩ _ h; exact h.tail) ?_
      rintro _ _ ⟨gx, rfl, rfl⟩
      refine DL.only (i := 7) (by kernel_rfl) ?_
      refine DL1.stepF rfl rfl rfl (by kernel_rfl) (OpM.w (by apply OpM.append (L := fun r => row gx 79 (wcell (n, bs)) :: row gw 79 (wcell (n, bs)) :: _ :: row bf 77 (secs D.fl) :: row bn 77 (secs (D.now.set n bs)) :: own 79 65 r (D.ws.length + 1) (wcells D.ws ++ wcell (n, bs)) :: F) rfl (.inl ⟨_, Sl.und inferInstance⟩) (by rfl) rfl rfl (Src.slice (Cells.full (by (with_reducible repeat (first | exact .head | apply Has.tail)))) (by simp [wcell, hbl])) (by intro c hc'; simp [wcell] at hc'; rcases hc' with rfl | hc'; rfl; exact bcells_one _ _ hc') (by simp [maxLen]; omega) (by omega) (fun _ => .tail (.tail (.tail (.tail (.tail .head))))))) ?_
      rintro _ _ ⟨⟨va, vc, rfl⟩, rfl⟩
      (refine DL.pure (i := 8) (by kernel_rfl) (by kernel_rfl) rfl rfl rfl (by first | exact OpP.nilCheck rfl | exact OpP.nilCheckFn rfl) ?_; refine DL.pure (i := 9) (by kernel_rfl) (by kernel_rfl) rfl rfl rfl (OpP.fieldAddr rfl) ?_) -- then: 10 store(67 t49 t47)
      refine DL.only (i := 10) (by kernel_rfl) ?_
      refine DL1.stepF0 rfl rfl (by kernel_rfl) (OpM.w (by apply OpM.store1 rfl rfl rfl; (case hu => (with_reducible repeat (first | exact .head | apply Upd.tail))); (case hs => (repeat (first | exact Spl.nil | apply Spl.here | apply Spl.there))))) ?_
      rintro _ _ ⟨rfl, rfl⟩
      (skip; refine DL.done (by kernel_rfl) ?_) -- then: 
      repeat' (first | refine J.seq ?_ | refine J.region ?_ | refine JL.nil ?_ | refine J.skip ?_ | refine J.block ?_ | refine J.inBlock ?_ | refine J.exit rfl ?_ | refine J.condT rfl ?_ | refine J.condF rfl ?_ | refine JL.skip rfl rfl ?_ | refine JL.skip0 rfl ?_ | refine JL.pure rfl rfl (by first | exact OpP.move rfl | exact OpP.assign rfl | exact OpP.nilCheck rfl | exact OpP.fieldAddr rfl | exact OpP.pickT rfl rfl | exact OpP.pickF rfl rfl | exact OpP.len rfl rfl | exact OpP.addI rfl rfl (by omega) (by omega) | exact OpP.subI rfl rfl (by omega) (by omega) | exact OpP.notB rfl | exact OpP.field1 rfl rfl | exact OpP.extract rfl rfl | exact OpP.indexAddr rfl rfl (by omega) (by omega) | exact OpP.indexAddrA rfl rfl (by omega) (by omega) | exact OpP.lenStr rfl rfl | exact OpP.lenArr rfl rfl | exact OpP.max rfl rfl | exact OpP.min rfl rfl | exact OpP.convI64 rfl (by omega) (by omega) | exact OpP.convStr rfl | exact OpP.add (k := .u8) rfl rfl | exact OpP.sub (k := .u8) rfl rfl | exact OpP.mul (k := .u8) rfl rfl | exact OpP.nePtrNil rfl rfl | exact OpP.eqPtrNil rfl rfl | exact OpP.eqSlNil rfl rfl | exact OpP.neSlNil rfl rfl | exact OpP.remI rfl rfl (by omega) (by omega) | exact OpP.makeFunc rfl rfl | exact OpP.nilCheckFn rfl | exact OpP.arrPtr rfl (by omega) | exact OpP.build rfl (by (repeat (first | exact Fills.nil | (apply Fills.cons rfl rfl rfl; (case' hs => ((repeat (first | exact Spl.nil | apply Spl.here | apply Spl.there)); done)))))) | exact OpP.buildA rfl (by (repeat (first | exact Fills.nil | (apply Fills.cons rfl rfl rfl; (case' hs => ((repeat (first | exact Spl.nil | apply Spl.here | apply Spl.there)); done))))))) ?_ | refine JL.decT rfl rfl (by first | exact OpP.lss rfl rfl | exact OpP.eql rfl rfl | exact OpP.neq rfl rfl | exact OpP.leq rfl rfl | exact OpP.gtr rfl rfl | exact OpP.geq rfl rfl | exact OpP.eqStr rfl rfl | exact OpP.neStr rfl rfl | exact OpP.eqBool rfl rfl | exact OpP.neBool rfl rfl) (by first | omega | assumption) ?_ | refine JL.decF rfl rfl (by first | exact OpP.lss rfl rfl | exact OpP.eql rfl rfl | exact OpP.neq rfl rfl | exact OpP.leq rfl rfl | exact OpP.gtr rfl rfl | exact OpP.geq rfl rfl | exact OpP.eqStr rfl rfl | exact OpP.neStr rfl rfl | exact OpP.eqBool rfl rfl | exact OpP.neBool rfl rfl) (by first | omega | assumption) ?_ | refine JL.read rfl rfl (OpR.load1 rfl (by (first | (apply Cell.row; (with_reducible repeat (first | exact .head | apply Has.tail)); rfl) | exact Cell.base (by assumption) | assumption))) ?_ | refine JL.read rfl rfl (by apply OpR.loadN rfl; apply Cells.full; (with_reducible repeat (first | exact .head | apply Has.tail)); rfl) ?_ | ((refine JL.mem0 rfl (by apply OpM.store1 rfl rfl rfl; (case' hu => (with_reducible repeat (first | exact .head | apply Upd.tail))); (case' hs => ((repeat (first | exact Spl.nil | apply Spl.here | apply Spl.there)); done))) ?_); rintro _ _ ⟨rfl, rfl⟩) | (refine JL.dec rfl rfl (by first | exact OpP.lss rfl rfl | exact OpP.eql rfl rfl | exact OpP.neq rfl rfl | exact OpP.leq rfl rfl | exact OpP.gtr rfl rfl | exact OpP.geq rfl rfl | exact OpP.eqStr rfl rfl | exact OpP.neStr rfl rfl | exact OpP.eqBool rfl rfl | exact OpP.neBool rfl rfl) (fun _ => ?_) (fun _ => ?_)))
      refine J.conv (l' := diskR g (D.wrote n bs) :: F) (fun _ h => ?_) ?_
      · have := Own.pick (pre := [_, _, _, _, _, _]) [2, 3, 4, 5] rfl h
        refine disk_in (D := D.wrote n bs) (bf := bf) (bn := bn) (vw := .slice va (D.ws.length + 1) vc) (Dk.wrote_ok hok (by omega) h4 hm) ?_
        simp only [diskL, Dk.wrote, List.length_set, List.length_append, List.length_singleton, wcells, List.flatMap_append, List.flatMap_cons, List.flatMap_nil, List.append_nil]
        exact this
      (first | refine J.ret1 rfl rfl ?_ | refine J.ret2 rfl rfl rfl ?_ | refine J.ret3 rfl rfl rfl rfl ?_ | refine J.ret0 rfl ?_ | refine J.fin0 rfl ?_ | (refine J.retC rfl rfl (by apply Cells.full; (with_reducible repeat (first | exact .head | apply Has.tail))) (by rfl) ?_) | (refine J.retC2 rfl rfl (by apply Cells.full; (with_reducible repeat (first | exact .head | apply Has.tail))) (by rfl) rfl ?_) | (refine J.retC3 rfl rfl (by apply Cells.full; (with_reducible repeat (first | exact .head | apply Has.tail))) (by rfl) rfl rfl ?_))
      exact .inr (.inr ⟨h0, h2, h3, h4, rfl, rfl⟩)
    · repeat' (first | refine J.seq ?_ | refine J.region ?_ | refine JL.nil ?_ | refine J.skip ?_ | refine J.block ?_ | refine J.inBlock ?_ | refine J.exit rfl ?_ | refine J.condT rfl ?_ | refine J.condF rfl ?_ | refine JL.skip rfl rfl ?_ | refine JL.skip0 rfl ?_ | refine JL.pure rfl rfl (by first | exact OpP.move rfl | exact OpP.assign rfl | exact OpP.nilCheck rfl | exact OpP.fieldAddr rfl | exact OpP.pickT rfl rfl | exact OpP.pickF rfl rfl | exact OpP.len rfl rfl | exact OpP.addI rfl rfl (by omega) (by omega) | exact OpP.subI rfl rfl (by omega) (by omega) | exact OpP.notB rfl | exact OpP.field1 rfl rfl | exact OpP.extract rfl rfl | exact OpP.indexAddr rfl rfl (by omega) (by omega) | exact OpP.indexAddrA rfl rfl (by omega) (by omega) | exact OpP.lenStr rfl rfl | exact OpP.lenArr rfl rfl | exact OpP.max rfl rfl | exact OpP.min rfl rfl | exact OpP.convI64 rfl (by omega) (by omega) | exact OpP.convStr rfl | exact OpP.add (k := .u8) rfl rfl | exact OpP.sub (k := .u8) rfl rfl | exact OpP.mul (k := .u8) rfl rfl | exact OpP.nePtrNil rfl rfl | exact OpP.eqPtrNil rfl rfl | exact OpP.eqSlNil rfl rfl | exact OpP.neSlNil rfl rfl | exact OpP.remI rfl rfl (by omega) (by omega) | exact OpP.makeFunc rfl rfl | exact OpP.nilCheckFn rfl | exact OpP.arrPtr rfl (by omega) | exact OpP.build rfl (by (repeat (first | exact Fills.nil | (apply Fills.cons rfl rfl rfl; (case' hs => ((repeat (first | exact Spl.nil | apply Spl.here | apply Spl.there)); done)))))) | exact OpP.buildA rfl (by (repeat (first | exact Fills.nil | (apply Fills.cons rfl rfl rfl; (case' hs => ((repeat (first | exact Spl.nil | apply Spl.here | apply Spl.there)); done))))))) ?_ | refine JL.decT rfl rfl (by first | exact OpP.lss rfl rfl | exact OpP.eql rfl rfl | exact OpP.neq rfl rfl | exact OpP.leq rfl rfl | exact OpP.gtr rfl rfl | exact OpP.geq rfl rfl | exact OpP.eqStr rfl rfl | exact OpP.neStr rfl rfl | exact OpP.eqBool rfl rfl | exact OpP.neBool rfl rfl) (by first | omega | assumption) ?_ | refine JL.decF rfl rfl (by first | exact OpP.lss rfl rfl | exact OpP.eql rfl rfl | exact OpP.neq rfl rfl | exact OpP.leq rfl rfl | exact OpP.gtr rfl rfl | exact OpP.geq rfl rfl | exact OpP.eqStr rfl rfl | exact OpP.neStr rfl rfl | exact OpP.eqBool rfl rfl | exact OpP.neBool rfl rfl) (by first | omega | assumption) ?_ | refine JL.read rfl rfl (OpR.load1 rfl (by (first | (apply Cell.row; (with_reducible repeat (first | exact .head | apply Has.tail)); rfl) | exact Cell.base (by assumption) | assumption))) ?_ | refine JL.read rfl rfl (by apply OpR.loadN rfl; apply Cells.full; (with_reducible repeat (first | exact .head | apply Has.tail)); rfl) ?_ | ((refine JL.mem0 rfl (by apply OpM.store1 rfl rfl rfl; (case' hu => (with_reducible repeat (first | exact .head | apply Upd.tail))); (case' hs => ((repeat (first | exact Spl.nil | apply Spl.here | apply Spl.there)); done))) ?_); rintro _ _ ⟨rfl, rfl⟩) | (refine JL.dec rfl rfl (by first | exact OpP.lss rfl rfl | exact OpP.eql rfl rfl | exact OpP.neq rfl rfl | exact OpP.leq rfl rfl | exact OpP.gtr rfl rfl | exact OpP.geq rfl rfl | exact OpP.eqStr rfl rfl | exact OpP.neStr rfl rfl | exact OpP.eqBool rfl rfl | exact OpP.neBool rfl rfl) (fun _ => ?_) (fun _ => ?_)))
      refine J.conv (l' := diskR g D :: F) (fun _ h => disk_in hok h) ?_
      (first | refine J.ret1 rfl rfl ?_ | refine J.ret2 rfl rfl rfl ?_ | refine J.ret3 rfl rfl rfl rfl ?_ | refine J.ret0 rfl ?_ | refine J.fin0 rfl ?_ | (refine J.retC rfl rfl (by apply Cells.full; (with_reducible repeat (first | exact .head | apply Has.tail))) (by rfl) ?_) | (refine J.retC2 rfl rfl (by apply Cells.full; (with_reducible repeat (first | exact .head | apply Has.tail))) (by rfl) rfl ?_) | (refine J.retC3 rfl rfl (by apply Cells.full; (with_reducible repeat (first | exact .head | apply Has.tail))) (by rfl) rfl rfl ?_))
      exact .inr (.inl ⟨h0, fun h => h4 h.2.2, rfl, rfl⟩)
  · rw [decide_eq_false h1]
    repeat' (first | refine J.seq ?_ | refine J.region ?_ | refine JL.nil ?_ | refine J.skip ?_ | refine J.block ?_ | refine J.inBlock ?_ | refine J.exit rfl ?_ | refine J.condT rfl ?_ | refine J.condF rfl ?_ | refine JL.skip rfl rfl ?_ | refine JL.skip0 rfl ?_ | refine JL.pure rfl rfl (by first | exact OpP.move rfl | exact OpP.assign rfl | exact OpP.nilCheck rfl | exact OpP.fieldAddr rfl | exact OpP.pickT rfl rfl | exact OpP.pickF rfl rfl | exact OpP.len rfl rfl | exact OpP.addI rfl rfl (by omega) (by omega) | exact OpP.subI rfl rfl (by omega) (by omega) | exact OpP.notB rfl | exact OpP.field1 rfl rfl | exact OpP.extract rfl rfl | exact OpP.indexAddr rfl rfl (by omega) (by omega) | exact OpP.indexAddrA rfl rfl (by omega) (by omega) | exact OpP.lenStr rfl rfl | exact OpP.lenArr rfl rfl | exact OpP.max rfl rfl | exact OpP.min rfl rfl | exact OpP.convI64 rfl (by omega) (by omega) | exact OpP.convStr rfl | exact OpP.add (k := .u8) rfl rfl | exact OpP.sub (k := .u8) rfl rfl | exact OpP.mul (k := .u8) rfl rfl | exact OpP.nePtrNil rfl rfl | exact OpP.eqPtrNil rfl rfl | exact OpP.eqSlNil rfl rfl | exact OpP.neSlNil rfl rfl | exact OpP.remI rfl rfl (by omega) (by omega) | exact OpP.makeFunc rfl rfl | exact OpP.nilCheckFn rfl | exact OpP.arrPtr rfl (by omega) | exact OpP.build rfl (by (repeat (first | exact Fills.nil | (apply Fills.cons rfl rfl rfl; (case' hs => ((repeat (first | exact Spl.nil | apply Spl.here | apply Spl.there)); done)))))) | exact OpP.buildA rfl (by (repeat (first | exact Fills.nil | (apply Fills.cons rfl rfl rfl; (case' hs => ((repeat (first | exact Spl.nil | apply Spl.here | apply Spl.there)); done))))))) ?_ | refine JL.decT rfl rfl (by first | exact OpP.lss rfl rfl | exact OpP.eql rfl rfl | exact OpP.neq rfl rfl | exact OpP.leq rfl rfl | exact OpP.gtr rfl rfl | exact OpP.geq rfl rfl | exact OpP.eqStr rfl rfl | exact OpP.neStr rfl rfl | exact OpP.eqBool rfl rfl | exact OpP.neBool rfl rfl) (by first | omega | assumption) ?_ | refine JL.decF rfl rfl (by first | exact OpP.lss rfl rfl | exact OpP.eql rfl rfl | exact OpP.neq rfl rfl | exact OpP.leq rfl rfl | exact OpP.gtr rfl rfl | exact OpP.geq rfl rfl | exact OpP.eqStr rfl rfl | exact OpP.neStr rfl rfl | exact OpP.eqBool rfl rfl | exact OpP.neBool rfl rfl) (by first | omega | assumption) ?_ | refine JL.read rfl rfl (OpR.load1 rfl (by (first | (apply Cell.row; (with_reducible repeat (first | exact .head | apply Has.tail)); rfl) | exact Cell.base (by assumption) | assumption))) ?_ | refine JL.read rfl rfl (by apply OpR.loadN rfl; apply Cells.full; (with_reducible repeat (first | exact .head | apply Has.tail)); rfl) ?_ | ((refine JL.mem0 rfl (by apply OpM.store1 rfl rfl rfl; (case' hu => (with_reducible repeat (first | exact .head | apply Upd.tail))); (case' hs => ((repeat (first | exact Spl.nil | apply Spl.here | apply Spl.there)); done))) ?_); rintro _ _ ⟨rfl, rfl⟩) | (refine JL.dec rfl rfl (by first | exact OpP.lss rfl rfl | exact OpP.eql rfl rfl | exact OpP.neq rfl rfl | exact OpP.leq rfl rfl | exact OpP.gtr rfl rfl | exact OpP.geq rfl rfl | exact OpP.eqStr rfl rfl | exact OpP.neStr rfl rfl | exact OpP.eqBool rfl rfl | exact OpP.neBool rfl rfl) (fun _ => ?_) (fun _ => ?_)))
    refine J.conv (l' := diskR g D :: F) (fun _ h => disk_in hok h) ?_
    (first | refine J.ret1 rfl rfl ?_ | refine J.ret2 rfl rfl rfl ?_ | refine J.ret3 rfl rfl rfl rfl ?_ | refine J.ret0 rfl ?_ | refine J.fin0 rfl ?_ | (refine J.retC rfl rfl (by apply Cells.full; (with_reducible repeat (first | exact .head | apply Has.tail))) (by rfl) ?_) | (refine J.retC2 rfl rfl (by apply Cells.full; (with_reducible repeat (first | exact .head | apply Has.tail))) (by rfl) rfl ?_) | (refine J.retC3 rfl rfl (by apply Cells.full; (with_reducible repeat (first | exact .head | apply Has.tail))) (by rfl) rfl rfl ?_))
    exact .inr (.inl ⟨h0, fun h => h1 ⟨h.1, h.2.1⟩, rfl, rfl⟩)

end Go.Proofs.F.Disk

-- seat f
-- (turned from seat a)
namespace Go.Proofs.F.Disk
open Go Go.Gp Go.RowKit

def size (n : Int) : Nat := (min (max n 0) 8192).toNat
def zsec : Sec := List.replicate 64 0
def Dk.new (n : Nat) : Dk := { fuse := -1, fl := List.replicate n zsec, now := List.replicate n zsec, ws := [] }

theorem secs_rep (n : Nat) : secs (List.replicate n zsec) = rep n (List.replicate 64 (.int .u8 0)) := by
  have e : bcells zsec = List.replicate 64 (.int .u8 0) := by simp [bcells, zsec]; rfl
  rw [← e]
  induction n with
  | zero => rfl
  | succ n ih => simp only [secs, rep, List.replicate_succ, List.flatMap_cons, List.flatten_cons] at ih ⊢; rw [ih]

theorem Dk.new_ok {n : Nat} (h : n ≤ 8192) : (Dk.new n).Ok where
  len := rfl
  small := by simpa [Dk.new] using h
  f0 := by simp [Dk.new]
  f1 := by simp [Dk.new]
  fl64 := by intro s hs; rw [List.eq_of_mem_replicate hs]; rfl
  now64 := by intro s hs; rw [List.eq_of_mem_replicate hs]; rfl
  ws64 := by simp [Dk.new]
  wsn := by simp [Dk.new]
  wsm := by simp [Dk.new]

theorem new_in {w0 w : World} {g a b n : Nat} {F : List HProp} (hn : n ≤ 8192)
    (h : Own w0 w (row g 69 [.int .i64 (-1), .slice (some ⟨a, 0, none⟩) n n, .slice (some ⟨b, 0, none⟩) n n, .slice none 0 0] :: row a 77 (rep n (List.replicate 64 (.int .u8 0))) :: row b 77 (rep n (List.replicate 64 (.int .u8 0))) :: F)) : Own w0 w (diskR g (Dk.new n) :: F) := by
  refine disk_in (D := Dk.new n) (bf := a) (bn := b) (vw := .slice none 0 0) (Dk.new_ok hn) ?_
  have := Own.own_nil (e := 79) (sz := 65) h
  simp only [diskL, Dk.new, List.length_replicate, secs_rep]
  exact Own.pick (pre := [_, _, _, _]) [1, 2, 3, 0] rfl this

theorem New_ok {w0 : World} {n : Int} {F : List HProp} :
    FnO Tryd.prog w0 11 [.int .i64 n] F (fun v l' => ∃ g, v = .pointer (some ⟨g, 0, none⟩) ∧ l' = diskR g (Dk.new (size n)) :: F) := by
  refine FnO.intro (n := 14) Tryd.func11 rfl rfl rfl ?_
  repeat' (first | refine J.seq ?_ | refine J.region ?_ | refine JL.nil ?_ | refine J.skip ?_ | refine J.block ?_ | refine J.inBlock ?_ | refine J.exit rfl ?_ | refine J.condT rfl ?_ | refine J.condF rfl ?_ | refine JL.skip rfl rfl ?_ | refine JL.skip0 rfl ?_ | refine JL.pure rfl rfl (by first | exact OpP.move rfl | exact OpP.assign rfl | exact OpP.nilCheck rfl | exact OpP.fieldAddr rfl | exact OpP.pickT rfl rfl | exact OpP.pickF rfl rfl | exact OpP.len rfl rfl | exact OpP.addI rfl rfl (by omega) (by omega) | exact OpP.subI rfl rfl (by omega) (by omega) | exact OpP.notB rfl | exact OpP.field1 rfl rfl | exact OpP.extract rfl rfl | exact OpP.indexAddr rfl rfl (by omega) (by omega) | exact OpP.indexAddrA rfl rfl (by omega) (by omega) | exact OpP.lenStr rfl rfl | exact OpP.lenArr rfl rfl | exact OpP.max rfl rfl | exact OpP.min rfl rfl | exact OpP.convI64 rfl (by omega) (by omega) | exact OpP.convStr rfl | exact OpP.add (k := .u8) rfl rfl | exact OpP.sub (k := .u8) rfl rfl | exact OpP.mul (k := .u8) rfl rfl | exact OpP.nePtrNil rfl rfl | exact OpP.eqPtrNil rfl rfl | exact OpP.eqSlNil rfl rfl | exact OpP.neSlNil rfl rfl | exact OpP.remI rfl rfl (by omega) (by omega) | exact OpP.makeFunc rfl rfl | exact OpP.nilCheckFn rfl | exact OpP.arrPtr rfl (by omega) | exact OpP.build rfl (by (repeat (first | exact Fills.nil | (apply Fills.cons rfl rfl rfl; (case' hs => ((repeat (first | exact Spl.nil | apply Spl.here | apply Spl.there)); done)))))) | exact OpP.buildA rfl (by (repeat (first | exact Fills.nil | (apply Fills.cons rfl rfl rfl; (case' hs => ((repeat (first | exact Spl.nil | apply Spl.here | apply Spl.there)); done))))))) ?_ | refine JL.decT rfl rfl (by first | exact OpP.lss rfl rfl | exact OpP.eql rfl rfl | exact OpP.neq rfl rfl | exact OpP.leq rfl rfl | exact OpP.gtr rfl rfl | exact OpP.geq rfl rfl | exact OpP.eqStr rfl rfl | exact OpP.neStr rfl rfl | exact OpP.eqBool rfl rfl | exact OpP.neBool rfl rfl) (by first | omega | assumption) ?_ | refine JL.decF rfl rfl (by first | exact OpP.lss rfl rfl | exact OpP.eql rfl rfl | exact OpP.neq rfl rfl | exact OpP.leq rfl rfl | exact OpP.gtr rfl rfl | exact OpP.geq rfl rfl | exact OpP.eqStr rfl rfl | exact OpP.neStr rfl rfl | exact OpP.eqBool rfl rfl | exact OpP.neBool rfl rfl) (by first | omega | assumption) ?_ | refine JL.read rfl rfl (OpR.load1 rfl (by (first | (apply Cell.row; (with_reducible repeat (first | exact .head | apply Has.tail)); rfl) | exact Cell.base (by assumption) | assumption))) ?_ | refine JL.read rfl rfl (by apply OpR.loadN rfl; apply Cells.full; (with_reducible repeat (first | exact .head | apply Has.tail)); rfl) ?_ | ((refine JL.mem0 rfl (by apply OpM.store1 rfl rfl rfl; (case' hu => (with_reducible repeat (first | exact .head | apply Upd.tail))); (case' hs => ((repeat (first | exact Spl.nil | apply Spl.here | apply Spl.there)); done))) ?_); rintro _ _ ⟨rfl, rfl⟩) | (refine JL.dec rfl rfl (by first | exact OpP.lss rfl rfl | exact OpP.eql rfl rfl | exact OpP.neq rfl rfl | exact OpP.leq rfl rfl | exact OpP.gtr rfl rfl | exact OpP.geq rfl rfl | exact OpP.eqStr rfl rfl | exact OpP.neStr rfl rfl | exact OpP.eqBool rfl rfl | exact OpP.neBool rfl rfl) (fun _ => ?_) (fun _ => ?_)))
  refine J.regionD [] (by kernel_rfl) ?_
  (refine DL.pure (i := 0) (by kernel_rfl) (by kernel_rfl) rfl rfl rfl (by first | exact OpP.build rfl (by (repeat (first | exact Fills.nil | (apply Fills.cons rfl rfl rfl; (case' hs => ((repeat (first | exact Spl.nil | apply Spl.here | apply Spl.there)); done)))))) | exact OpP.buildA rfl (by (repeat (first | exact Fills.nil | (apply Fills.cons rfl rfl rfl; (case' hs => ((repeat (first | exact Spl.nil | apply Spl.here | apply Spl.there)); done))))))) ?_; refine DL.pure (i := 1) (by kernel_rfl) (by kernel_rfl) rfl rfl rfl (OpP.move rfl) ?_; refine DL.pure (i := 3) (by kernel_rfl) (by kernel_rfl) rfl rfl rfl (OpP.move rfl) ?_) -- then: 2 makeSlice(66 t8 t8) ; 4 makeSlice(66 t10 t10)
  have hs : size n = (min (max n 0) 8192).toNat := rfl
  refine DL.two (i := 2) (j := 4) (by kernel_rfl) ?_ ?_
  · refine DL1.stepF rfl rfl rfl (by kernel_rfl) (OpM.w (by apply OpM.make (by rfl) rfl rfl <;> omega)) ?_
    rintro _ _ ⟨a, rfl, rfl⟩
    refine DL.only (i := 4) (by kernel_rfl) ?_
    refine DL1.stepF rfl rfl rfl (by kernel_rfl) (OpM.w (by apply OpM.make (by rfl) rfl rfl <;> omega)) ?_
    rintro _ _ ⟨b, rfl, rfl⟩
    (refine DL.pure (i := 5) (by kernel_rfl) (by kernel_rfl) rfl rfl rfl (by first | exact OpP.build rfl (by (repeat (first | exact Fills.nil | (apply Fills.cons rfl rfl rfl; (case' hs => ((repeat (first | exact Spl.nil | apply Spl.here | apply Spl.there)); done)))))) | exact OpP.buildA rfl (by (repeat (first | exact Fills.nil | (apply Fills.cons rfl rfl rfl; (case' hs => ((repeat (first | exact Spl.nil | apply Spl.here | apply Spl.there)); done))))))) ?_) -- then: 6 box(69 t12)
    refine DL.only (i := 6) (by kernel_rfl) ?_
    refine DL1.stepF rfl rfl rfl (by kernel_rfl) (OpM.w (by apply OpM.box rfl rfl)) ?_
    rintro _ _ ⟨g, rfl, rfl⟩
    (refine DL.pure (i := 7) (by kernel_rfl) (by kernel_rfl) rfl rfl rfl (OpP.assign rfl) ?_; refine DL.done (by kernel_rfl) ?_) -- then: 
    repeat' (first | refine J.seq ?_ | refine J.region ?_ | refine JL.nil ?_ | refine J.skip ?_ | refine J.block ?_ | refine J.inBlock ?_ | refine J.exit rfl ?_ | refine J.condT rfl ?_ | refine J.condF rfl ?_ | refine JL.skip rfl rfl ?_ | refine JL.skip0 rfl ?_ | refine JL.pure rfl rfl (by first | exact OpP.move rfl | exact OpP.assign rfl | exact OpP.nilCheck rfl | exact OpP.fieldAddr rfl | exact OpP.pickT rfl rfl | exact OpP.pickF rfl rfl | exact OpP.len rfl rfl | exact OpP.addI rfl rfl (by omega) (by omega) | exact OpP.subI rfl rfl (by omega) (by omega) | exact OpP.notB rfl | exact OpP.field1 rfl rfl | exact OpP.extract rfl rfl | exact OpP.indexAddr rfl rfl (by omega) (by omega) | exact OpP.indexAddrA rfl rfl (by omega) (by omega) | exact OpP.lenStr rfl rfl | exact OpP.lenArr rfl rfl | exact OpP.max rfl rfl | exact OpP.min rfl rfl | exact OpP.convI64 rfl (by omega) (by omega) | exact OpP.convStr rfl | exact OpP.add (k := .u8) rfl rfl | exact OpP.sub (k := .u8) rfl rfl | exact OpP.mul (k := .u8) rfl rfl | exact OpP.nePtrNil rfl rfl | exact OpP.eqPtrNil rfl rfl | exact OpP.eqSlNil rfl rfl | exact OpP.neSlNil rfl rfl | exact OpP.remI rfl rfl (by omega) (by omega) | exact OpP.makeFunc rfl rfl | exact OpP.nilCheckFn rfl | exact OpP.arrPtr rfl (by omega) | exact OpP.build rfl (by (repeat (first | exact Fills.nil | (apply Fills.cons rfl rfl rfl; (case' hs => ((repeat (first | exact Spl.nil | apply Spl.here | apply Spl.there)); done)))))) | exact OpP.buildA rfl (by (repeat (first | exact Fills.nil | (apply Fills.cons rfl rfl rfl; (case' hs => ((repeat (first | exact Spl.nil | apply Spl.here | apply Spl.there)); done))))))) ?_ | refine JL.decT rfl rfl (by first | exact OpP.lss rfl rfl | exact OpP.eql rfl rfl | exact OpP.neq rfl rfl | exact OpP.leq rfl rfl | exact OpP.gtr rfl rfl | exact OpP.geq rfl rfl | exact OpP.eqStr rfl rfl | exact OpP.neStr rfl rfl | exact OpP.eqBool rfl rfl | exact OpP.neBool rfl rfl) (by first | omega | assumption) ?_ | refine JL.decF rfl rfl (by first | exact OpP.lss rfl rfl | exact OpP.eql rfl rfl | exact OpP.neq rfl rfl | exact OpP.leq rfl rfl | exact OpP.gtr rfl rfl | exact OpP.geq rfl rfl | exact OpP.eqStr rfl rfl | exact OpP.neStr rfl rfl | exact OpP.eqBool rfl rfl | exact OpP.neBool rfl rfl) (by first | omega | assumption) ?_ | refine JL.read rfl rfl (OpR.load1 rfl (by (first | (apply Cell.row; (with_reducible repeat (first | exact .head | apply Has.tail)); rfl) | exact Cell.base (by assumption) | assumption))) ?_ | refine JL.read rfl rfl (by apply OpR.loadN rfl; apply Cells.full; (with_reducible repeat (first | exact .head | apply Has.tail)); rfl) ?_ | ((refine JL.mem0 rfl (by apply OpM.store1 rfl rfl rfl; (case' hu => (with_reducible repeat (first | exact .head | apply Upd.tail))); (case' hs => ((repeat (first | exact Spl.nil | apply Spl.here | apply Spl.there)); done))) ?_); rintro _ _ ⟨rfl, rfl⟩) | (refine JL.dec rfl rfl (by first | exact OpP.lss rfl rfl | exact OpP.eql rfl rfl | exact OpP.neq rfl rfl | exact OpP.leq rfl rfl | exact OpP.gtr rfl rfl | exact OpP.geq rfl rfl | exact OpP.eqStr rfl rfl | exact OpP.neStr rfl rfl | exact OpP.eqBool rfl rfl | exact OpP.neBool rfl rfl) (fun _ => ?_) (fun _ => ?_)))
    rw [← hs]
    refine J.conv (l' := diskR g (Dk.new (size n)) :: F) (fun _ h => new_in (by omega) (Own.pick (pre := [_, _, _]) [0, 2, 1] rfl h)) ?_
    (first | refine J.ret1 rfl rfl ?_ | refine J.ret2 rfl rfl rfl ?_ | refine J.ret3 rfl rfl rfl rfl ?_ | refine J.ret0 rfl ?_ | refine J.fin0 rfl ?_ | (refine J.retC rfl rfl (by apply Cells.full; (with_reducible repeat (first | exact .head | apply Has.tail))) (by rfl) ?_) | (refine J.retC2 rfl rfl (by apply Cells.full; (with_reducible repeat (first | exact .head | apply Has.tail))) (by rfl) rfl ?_) | (refine J.retC3 rfl rfl (by apply Cells.full; (with_reducible repeat (first | exact .head | apply Has.tail))) (by rfl) rfl rfl ?_))
    exact ⟨g, rfl, rfl⟩
  · refine DL1.stepF rfl rfl rfl (by kernel_rfl) (OpM.w (by apply OpM.make (by rfl) rfl rfl <;> omega)) ?_
    rintro _ _ ⟨a, rfl, rfl⟩
    refine DL.only (i := 2) (by kernel_rfl) ?_
    refine DL1.stepF rfl rfl rfl (by kernel_rfl) (OpM.w (by apply OpM.make (by rfl) rfl rfl <;> omega)) ?_
    rintro _ _ ⟨b, rfl, rfl⟩
    (refine DL.pure (i := 5) (by kernel_rfl) (by kernel_rfl) rfl rfl rfl (by first | exact OpP.build rfl (by (repeat (first | exact Fills.nil | (apply Fills.cons rfl rfl rfl; (case' hs => ((repeat (first | exact Spl.nil | apply Spl.here | apply Spl.there)); done)))))) | exact OpP.buildA rfl (by (repeat (first | exact Fills.nil | (apply Fills.cons rfl rfl rfl; (case' hs => ((repeat (first | exact Spl.nil | apply Spl.here | apply Spl.there)); done))))))) ?_) -- then: 6 box(69 t12)
    refine DL.only (i := 6) (by kernel_rfl) ?_
    refine DL1.stepF rfl rfl rfl (by kernel_rfl) (OpM.w (by apply OpM.box rfl rfl)) ?_
    rintro _ _ ⟨g, rfl, rfl⟩
    (refine DL.pure (i := 7) (by kernel_rfl) (by kernel_rfl) rfl rfl rfl (OpP.assign rfl) ?_; refine DL.done (by kernel_rfl) ?_) -- then: 
    repeat' (first | refine J.seq ?_ | refine J.region ?_ | refine JL.nil ?_ | refine J.skip ?_ | refine J.block ?_ | refine J.inBlock ?_ | refine J.exit rfl ?_ | refine J.condT rfl ?_ | refine J.condF rfl ?_ | refine JL.skip rfl rfl ?_ | refine JL.skip0 rfl ?_ | refine JL.pure rfl rfl (by first | exact OpP.move rfl | exact OpP.assign rfl | exact OpP.nilCheck rfl | exact OpP.fieldAddr rfl | exact OpP.pickT rfl rfl | exact OpP.pickF rfl rfl | exact OpP.len rfl rfl | exact OpP.addI rfl rfl (by omega) (by omega) | exact OpP.subI rfl rfl (by omega) (by omega) | exact OpP.notB rfl | exact OpP.field1 rfl rfl | exact OpP.extract rfl rfl | exact OpP.indexAddr rfl rfl (by omega) (by omega) | exact OpP.indexAddrA rfl rfl (by omega) (by omega) | exact OpP.lenStr rfl rfl | exact OpP.lenArr rfl rfl | exact OpP.max rfl rfl | exact OpP.min rfl rfl | exact OpP.convI64 rfl (by omega) (by omega) | exact OpP.convStr rfl | exact OpP.add (k := .u8) rfl rfl | exact OpP.sub (k := .u8) rfl rfl | exact OpP.mul (k := .u8) rfl rfl | exact OpP.nePtrNil rfl rfl | exact OpP.eqPtrNil rfl rfl | exact OpP.eqSlNil rfl rfl | exact OpP.neSlNil rfl rfl | exact OpP.remI rfl rfl (by omega) (by omega) | exact OpP.makeFunc rfl rfl | exact OpP.nilCheckFn rfl | exact OpP.arrPtr rfl (by omega) | exact OpP.build rfl (by (repeat (first | exact Fills.nil | (apply Fills.cons rfl rfl rfl; (case' hs => ((repeat (first | exact Spl.nil | apply Spl.here | apply Spl.there)); done)))))) | exact OpP.buildA rfl (by (repeat (first | exact Fills.nil | (apply Fills.cons rfl rfl rfl; (case' hs => ((repeat (first | exact Spl.nil | apply Spl.here | apply Spl.there)); done))))))) ?_ | refine JL.decT rfl rfl (by first | exact OpP.lss rfl rfl | exact OpP.eql rfl rfl | exact OpP.neq rfl rfl | exact OpP.leq rfl rfl | exact OpP.gtr rfl rfl | exact OpP.geq rfl rfl | exact OpP.eqStr rfl rfl | exact OpP.neStr rfl rfl | exact OpP.eqBool rfl rfl | exact OpP.neBool rfl rfl) (by first | omega | assumption) ?_ | refine JL.decF rfl rfl (by first | exact OpP.lss rfl rfl | exact OpP.eql rfl rfl | exact OpP.neq rfl rfl | exact OpP.leq rfl rfl | exact OpP.gtr rfl rfl | exact OpP.geq rfl rfl | exact OpP.eqStr rfl rfl | exact OpP.neStr rfl rfl | exact OpP.eqBool rfl rfl | exact OpP.neBool rfl rfl) (by first | omega | assumption) ?_ | refine JL.read rfl rfl (OpR.load1 rfl (by (first | (apply Cell.row; (with_reducible repeat (first | exact .head | apply Has.tail)); rfl) | exact Cell.base (by assumption) | assumption))) ?_ | refine JL.read rfl rfl (by apply OpR.loadN rfl; apply Cells.full; (with_reducible repeat (first | exact .head | apply Has.tail)); rfl) ?_ | ((refine JL.mem0 rfl (by apply OpM.store1 rfl rfl rfl; (case' hu => (with_reducible repeat (first | exact .head | apply Upd.tail))); (case' hs => ((repeat (first | exact Spl.nil | apply Spl.here | apply Spl.there)); done))) ?_); rintro _ _ ⟨rfl, rfl⟩) | (refine JL.dec rfl rfl (by first | exact OpP.lss rfl rfl | exact OpP.eql rfl rfl | exact OpP.neq rfl rfl | exact OpP.leq rfl rfl | exact OpP.gtr rfl rfl | exact OpP.geq rfl rfl | exact OpP.eqStr rfl rfl | exact OpP.neStr rfl rfl | exact OpP.eqBool rfl rfl | exact OpP.neBool rfl rfl) (fun _ => ?_) (fun _ => ?_)))
    rw [← hs]
    refine J.conv (l' := diskR g (Dk.new (size n)) :: F) (fun _ h => new_in (by omega) h) ?_
    (first | refine J.ret1 rfl rfl ?_ | refine J.ret2 rfl rfl rfl ?_ | refine J.ret3 rfl rfl rfl rfl ?_ | refine J.ret0 rfl ?_ | refine J.fin0 rfl ?_ | (refine J.retC rfl rfl (by apply Cells.full; (with_reducible repeat (first | exact .head | apply Has.tail))) (by rfl) ?_) | (refine J.retC2 rfl rfl (by apply Cells.full; (with_reducible repeat (first | exact .head | apply Has.tail))) (by rfl) rfl ?_) | (refine J.retC3 rfl rfl (by apply Cells.full; (with_reducible repeat (first | exact .head | apply Has.tail))) (by rfl) rfl rfl ?_))
    exact ⟨g, rfl, rfl⟩

end Go.Proofs.F.Disk

-- seat f
namespace Go.Proofs.F
open Go Go.Gp Go.RowKit

def rotr (x : BitVec 32) (a : Nat) : BitVec 32 := x <<< (32 - a) ||| x >>> a
theorem Rot_ok {w0 : World} {F : List HProp} {x : BitVec 32} {a : Nat} (h0 : 0 < a) (h1 : a < 32) :
    FnO Tryd.prog w0 85 [w32 x, .int .i64 (-(a : Int))] F (fun v l' => v = w32 (rotr x a) ∧ l' = F) := by
  refine FnO.intro (n := 17) Tryd.func85 rfl rfl rfl ?_
  refine J.seq ?_
  refine J.region ?_
  refine JL.pure rfl rfl (OpP.assign rfl) ?_
  refine JL.nil ?_
  refine J.seq ?_
  refine J.region ?_
  refine JL.pure rfl rfl (OpP.move rfl) ?_
  refine JL.pure rfl rfl (OpP.conv rfl) ?_
  refine JL.pure rfl rfl (OpP.rotAnd rfl rfl (by omega) (by omega)) ?_
  refine JL.pure rfl rfl (OpP.assign rfl) ?_
  refine JL.nil ?_
  refine J.seq ?_
  refine J.region ?_
  refine JL.pure rfl rfl (OpP.move rfl) ?_
  refine JL.pure rfl rfl (OpP.move rfl) ?_
  refine JL.pure rfl rfl (OpP.wShlI rfl rfl (by omega) (by omega)) ?_
  refine JL.pure rfl rfl (OpP.move rfl) ?_
  refine JL.pure rfl rfl (OpP.move rfl) ?_
  refine JL.pure rfl rfl (OpP.subK rfl rfl (by simp [IntKind.min, IntKind.max, IntKind.signed, IntKind.bits] <;> omega) (by simp [IntKind.min, IntKind.max, IntKind.signed, IntKind.bits] <;> omega)) ?_
  refine JL.pure rfl rfl (OpP.wShrI rfl rfl (by omega) (by omega)) ?_
  refine JL.pure rfl rfl (OpP.wOr rfl rfl) ?_
  refine JL.pure rfl rfl (OpP.assign rfl) ?_
  refine JL.nil ?_
  refine J.ret1 rfl rfl ?_
  refine ⟨?_, rfl⟩
  rw [rotr, show (32 - (a : Int)).toNat = 32 - a by omega, show (32 - (32 - (a : Int))).toNat = a by omega]
def turn3 (x : BitVec 32) (a b c : Nat) : BitVec 32 := rotr x a ^^^ rotr x b ^^^ rotr x c
def half2 (x : BitVec 32) (a b c : Nat) : BitVec 32 := rotr x a ^^^ rotr x b ^^^ x >>> c
theorem Turned_ok {w0 : World} {F : List HProp} {x : BitVec 32} {a b c : Nat} (a0 : 0 < a) (a1 : a < 32) (b0 : 0 < b) (b1 : b < 32) (c0 : 0 < c) (c1 : c < 32) :
    FnO Tryd.prog w0 83 [w32 x, .int .i64 (a : Int), .int .i64 (b : Int), .int .i64 (c : Int)] F (fun v l' => v = w32 (turn3 x a b c) ∧ l' = F) := by
  refine FnO.intro (n := 23) Tryd.func83 rfl rfl rfl ?_
  refine J.seq ?_
  refine J.region ?_
  refine JL.pure rfl rfl (OpP.assign rfl) ?_
  refine JL.nil ?_
  refine J.seq ?_
  refine J.region ?_
  refine JL.pure rfl rfl (OpP.move rfl) ?_
  refine JL.pure rfl rfl (OpP.move rfl) ?_
  refine JL.pure rfl rfl (OpP.negI rfl (by omega) (by omega)) ?_
  refine JL.step rfl rfl (OpW.call (first := []) (captured := []) inferInstance rfl rfl (Rot_ok (by first | assumption | omega | rfl | exact Nat.le_of_ble_eq_true rfl | (simp; omega)) (by first | assumption | omega | rfl | exact Nat.le_of_ble_eq_true rfl | (simp; omega)))) ?_; rintro r12 _ ⟨rfl, rfl⟩
  refine JL.pure rfl rfl (OpP.move rfl) ?_
  refine JL.pure rfl rfl (OpP.move rfl) ?_
  refine JL.pure rfl rfl (OpP.negI rfl (by omega) (by omega)) ?_
  refine JL.step rfl rfl (OpW.call (first := []) (captured := []) inferInstance rfl rfl (Rot_ok (by first | assumption | omega | rfl | exact Nat.le_of_ble_eq_true rfl | (simp; omega)) (by first | assumption | omega | rfl | exact Nat.le_of_ble_eq_true rfl | (simp; omega)))) ?_; rintro r16 _ ⟨rfl, rfl⟩
  refine JL.pure rfl rfl (OpP.wXor rfl rfl) ?_
  refine JL.pure rfl rfl (OpP.move rfl) ?_
  refine JL.pure rfl rfl (OpP.move rfl) ?_
  refine JL.pure rfl rfl (OpP.negI rfl (by omega) (by omega)) ?_
  refine JL.step rfl rfl (OpW.call (first := []) (captured := []) inferInstance rfl rfl (Rot_ok (by first | assumption | omega | rfl | exact Nat.le_of_ble_eq_true rfl | (simp; omega)) (by first | assumption | omega | rfl | exact Nat.le_of_ble_eq_true rfl | (simp; omega)))) ?_; rintro r21 _ ⟨rfl, rfl⟩
  refine JL.pure rfl rfl (OpP.wXor rfl rfl) ?_
  refine JL.pure rfl rfl (OpP.assign rfl) ?_
  refine JL.nil ?_
  refine J.ret1 rfl rfl ?_
  exact ⟨rfl, rfl⟩
theorem Half_ok {w0 : World} {F : List HProp} {x : BitVec 32} {a b c : Nat} (a0 : 0 < a) (a1 : a < 32) (b0 : 0 < b) (b1 : b < 32) (c0 : 0 < c) (c1 : c < 32) :
    FnO Tryd.prog w0 86 [w32 x, .int .i64 (a : Int), .int .i64 (b : Int), .int .i64 (c : Int)] F (fun v l' => v = w32 (half2 x a b c) ∧ l' = F) := by
  refine FnO.intro (n := 22) Tryd.func86 rfl rfl rfl ?_
  refine J.seq ?_
  refine J.region ?_
  refine JL.pure rfl rfl (OpP.assign rfl) ?_
  refine JL.nil ?_
  refine J.seq ?_
  refine J.regionD [] (by kernel_rfl) ?_
  refine DL.pure (i := 0) (by kernel_rfl) (by kernel_rfl) rfl rfl rfl (OpP.move rfl) ?_
  refine DL.pure (i := 1) (by kernel_rfl) (by kernel_rfl) rfl rfl rfl (OpP.move rfl) ?_
  refine DL.pure (i := 2) (by kernel_rfl) (by kernel_rfl) rfl rfl rfl (OpP.negI rfl (by omega) (by omega)) ?_
  refine DL.pure (i := 4) (by kernel_rfl) (by kernel_rfl) rfl rfl rfl (OpP.move rfl) ?_
  refine DL.pure (i := 5) (by kernel_rfl) (by kernel_rfl) rfl rfl rfl (OpP.move rfl) ?_
  refine DL.pure (i := 6) (by kernel_rfl) (by kernel_rfl) rfl rfl rfl (OpP.negI rfl (by omega) (by omega)) ?_
  refine DL.pure (i := 9) (by kernel_rfl) (by kernel_rfl) rfl rfl rfl (OpP.move rfl) ?_
  refine DL.pure (i := 10) (by kernel_rfl) (by kernel_rfl) rfl rfl rfl (OpP.move rfl) ?_
  refine DL.pure (i := 11) (by kernel_rfl) (by kernel_rfl) rfl rfl rfl (OpP.wShrI rfl rfl (by omega) (by omega)) ?_
  refine DL.only (i := 3) (by kernel_rfl) ?_
  refine DL1.stepF rfl rfl rfl (by kernel_rfl) (by exact OpW.call (first := []) (captured := []) inferInstance rfl rfl (Rot_ok (by first | assumption | omega | rfl | exact Nat.le_of_ble_eq_true rfl | (simp; omega)) (by first | assumption | omega | rfl | exact Nat.le_of_ble_eq_true rfl | (simp; omega)))) ?_; rintro r12 _ ⟨rfl, rfl⟩
  refine DL.only (i := 7) (by kernel_rfl) ?_
  refine DL1.stepF rfl rfl rfl (by kernel_rfl) (by exact OpW.call (first := []) (captured := []) inferInstance rfl rfl (Rot_ok (by first | assumption | omega | rfl | exact Nat.le_of_ble_eq_true rfl | (simp; omega)) (by first | assumption | omega | rfl | exact Nat.le_of_ble_eq_true rfl | (simp; omega)))) ?_; rintro r16 _ ⟨rfl, rfl⟩
  refine DL.pure (i := 8) (by kernel_rfl) (by kernel_rfl) rfl rfl rfl (OpP.wXor rfl rfl) ?_
  refine DL.pure (i := 12) (by kernel_rfl) (by kernel_rfl) rfl rfl rfl (OpP.wXor rfl rfl) ?_
  refine DL.pure (i := 13) (by kernel_rfl) (by kernel_rfl) rfl rfl rfl (OpP.assign rfl) ?_
  refine DL.done (by kernel_rfl) ?_
  refine J.ret1 rfl rfl ?_
  exact ⟨by rw [half2, show (c : Int).toNat = c by omega], rfl⟩
end Go.Proofs.F

-- seat f
namespace Go.Proofs.F
open Go Go.Gp Go.RowKit

abbrev Ws := Nat → BitVec 32
def sched (S : Ws) (i : Nat) : Ws := if 16 ≤ i then upd S (i % 16) (S (i % 16) + (half2 (S ((i + 1) % 16)) 7 18 3 + S ((i + 9) % 16) + half2 (S ((i + 14) % 16)) 17 19 10)) else S
theorem Next_ok {w0 : World} {F : List HProp} {g t i : Nat} {S : Ws} (hi : i < 64) :
    FnO Tryd.prog w0 84 [.pointer (some ⟨g, 0, none⟩), .int .i64 (i : Int)] (row g t (fc 16 fun j => w32 (S j)) :: F) (fun v l' => v = w32 (sched S i (i % 16)) ∧ l' = row g t (fc 16 fun j => w32 (sched S i j)) :: F) := by
  refine FnO.intro (n := 47) Tryd.func84 rfl rfl rfl ?_
  have e0 : ((i : Int) % 16).toNat = i % 16 := by omega
  have e1 : (((i : Int) + 1) % 16).toNat = (i + 1) % 16 := by omega
  have e2 : (((i : Int) + 9) % 16).toNat = (i + 9) % 16 := by omega
  have e3 : (((i : Int) + 14) % 16).toNat = (i + 14) % 16 := by omega
  by_cases h : 16 ≤ i
  · refine J.seq ?_
    refine J.region ?_
    refine JL.pure rfl rfl (OpP.assign rfl) ?_
    refine JL.nil ?_
    refine J.seq ?_
    refine J.seq ?_
    refine J.region ?_
    refine JL.pure rfl rfl (OpP.move rfl) ?_
    refine JL.decT rfl rfl (OpP.geq rfl rfl) (by omega) ?_
    refine JL.nil ?_
    refine J.condT rfl ?_
    refine J.regionD [5, 12, 20, 28] (by kernel_rfl) ?_
    refine DL.pure (i := 0) (by kernel_rfl) (by kernel_rfl) rfl rfl rfl (OpP.move rfl) ?_
    refine DL.pure (i := 1) (by kernel_rfl) (by kernel_rfl) rfl rfl rfl (OpP.move rfl) ?_
    refine DL.pure (i := 2) (by kernel_rfl) (by kernel_rfl) rfl rfl rfl (OpP.remI rfl rfl (by first | omega | exact Int.natCast_nonneg _) (by omega)) ?_
    refine DL.pure (i := 3) (by kernel_rfl) (by kernel_rfl) rfl rfl rfl (OpP.nilCheck rfl) ?_
    refine DL.pure (i := 4) (by kernel_rfl) (by kernel_rfl) rfl rfl rfl (OpP.indexAddrF rfl rfl (by omega) (by omega)) ?_
    refine DL.read (i := 5) (by kernel_rfl) (by kernel_rfl) rfl rfl rfl (fun _ h => h) (OpR.load1 rfl (cell_fc .head rfl (by omega))) ?_
    refine DL.pure (i := 6) (by kernel_rfl) (by kernel_rfl) rfl rfl rfl (OpP.move rfl) ?_
    refine DL.pure (i := 7) (by kernel_rfl) (by kernel_rfl) rfl rfl rfl (OpP.move rfl) ?_
    refine DL.pure (i := 8) (by kernel_rfl) (by kernel_rfl) rfl rfl rfl (OpP.addI rfl rfl (by omega) (by omega)) ?_
    refine DL.pure (i := 9) (by kernel_rfl) (by kernel_rfl) rfl rfl rfl (OpP.remI rfl rfl (by first | omega | exact Int.natCast_nonneg _) (by omega)) ?_
    refine DL.pure (i := 10) (by kernel_rfl) (by kernel_rfl) rfl rfl rfl (OpP.nilCheck rfl) ?_
    refine DL.pure (i := 11) (by kernel_rfl) (by kernel_rfl) rfl rfl rfl (OpP.indexAddrF rfl rfl (by omega) (by omega)) ?_
    refine DL.read (i := 12) (by kernel_rfl) (by kernel_rfl) rfl rfl rfl (fun _ h => h) (OpR.load1 rfl (cell_fc .head rfl (by omega))) ?_
    refine DL.pure (i := 14) (by kernel_rfl) (by kernel_rfl) rfl rfl rfl (OpP.move rfl) ?_
    refine DL.pure (i := 15) (by kernel_rfl) (by kernel_rfl) rfl rfl rfl (OpP.move rfl) ?_
    refine DL.pure (i := 16) (by kernel_rfl) (by kernel_rfl) rfl rfl rfl (OpP.addI rfl rfl (by omega) (by omega)) ?_
    refine DL.pure (i := 17) (by kernel_rfl) (by kernel_rfl) rfl rfl rfl (OpP.remI rfl rfl (by first | omega | exact Int.natCast_nonneg _) (by omega)) ?_
    refine DL.pure (i := 18) (by kernel_rfl) (by kernel_rfl) rfl rfl rfl (OpP.nilCheck rfl) ?_
    refine DL.pure (i := 19) (by kernel_rfl) (by kernel_rfl) rfl rfl rfl (OpP.indexAddrF rfl rfl (by omega) (by omega)) ?_
    refine DL.read (i := 20) (by kernel_rfl) (by kernel_rfl) rfl rfl rfl (fun _ h => h) (OpR.load1 rfl (cell_fc .head rfl (by omega))) ?_
    refine DL.pure (i := 22) (by kernel_rfl) (by kernel_rfl) rfl rfl rfl (OpP.move rfl) ?_
    refine DL.pure (i := 23) (by kernel_rfl) (by kernel_rfl) rfl rfl rfl (OpP.move rfl) ?_
    refine DL.pure (i := 24) (by kernel_rfl) (by kernel_rfl) rfl rfl rfl (OpP.addI rfl rfl (by omega) (by omega)) ?_
    refine DL.pure (i := 25) (by kernel_rfl) (by kernel_rfl) rfl rfl rfl (OpP.remI rfl rfl (by first | omega | exact Int.natCast_nonneg _) (by omega)) ?_
    refine DL.pure (i := 26) (by kernel_rfl) (by kernel_rfl) rfl rfl rfl (OpP.nilCheck rfl) ?_
    refine DL.pure (i := 27) (by kernel_rfl) (by kernel_rfl) rfl rfl rfl (OpP.indexAddrF rfl rfl (by omega) (by omega)) ?_
    refine DL.read (i := 28) (by kernel_rfl) (by kernel_rfl) rfl rfl rfl (fun _ h => h) (OpR.load1 rfl (cell_fc .head rfl (by omega))) ?_
    refine DL.pure (i := 32) (by kernel_rfl) (by kernel_rfl) rfl rfl rfl (OpP.nilCheck rfl) ?_
    refine DL.only (i := 13) (by kernel_rfl) ?_
    refine DL1.stepK rfl rfl rfl (by exact OpW.call (first := []) (captured := []) inferInstance rfl rfl (Half_ok (a := 7) (b := 18) (c := 3) (by decide) (by decide) (by decide) (by decide) (by decide) (by decide))) (by rintro _ _ ⟨rfl, rfl⟩ _ h; exact Own.pick (pre := [_]) [0] rfl h) ?_; rintro r20 _ ⟨rfl, rfl⟩
    refine DL.pure (i := 21) (by kernel_rfl) (by kernel_rfl) rfl rfl rfl (OpP.wAdd rfl rfl) ?_
    refine DL.only (i := 29) (by kernel_rfl) ?_
    refine DL1.stepK rfl rfl rfl (by exact OpW.call (first := []) (captured := []) inferInstance rfl rfl (Half_ok (a := 17) (b := 19) (c := 10) (by decide) (by decide) (by decide) (by decide) (by decide) (by decide))) (by rintro _ _ ⟨rfl, rfl⟩ _ h; exact Own.pick (pre := [_]) [0] rfl h) ?_; rintro r36 _ ⟨rfl, rfl⟩
    refine DL.pure (i := 30) (by kernel_rfl) (by kernel_rfl) rfl rfl rfl (OpP.wAdd rfl rfl) ?_
    refine DL.pure (i := 31) (by kernel_rfl) (by kernel_rfl) rfl rfl rfl (OpP.wAdd rfl rfl) ?_
    refine DL.pure (i := 33) (by kernel_rfl) (by kernel_rfl) rfl rfl rfl (OpP.indexAddrF rfl rfl (by omega) (by omega)) ?_
    refine DL.only (i := 34) (by kernel_rfl) ?_
    refine DL1.stepF0 rfl rfl (by kernel_rfl) (OpM.w (by apply OpM.store1 rfl rfl rfl; (case' hu => exact .head); (case' hs => exact spl_fcW rfl (by omega)); done)) ?_; rintro _ _ ⟨rfl, rfl⟩
    refine DL.done (by kernel_rfl) ?_
    refine J.seq ?_
    refine J.region ?_
    refine JL.pure rfl rfl (OpP.move rfl) ?_
    refine JL.pure rfl rfl (OpP.move rfl) ?_
    refine JL.pure rfl rfl (OpP.remI rfl rfl (by first | omega | exact Int.natCast_nonneg _) (by omega)) ?_
    refine JL.pure rfl rfl (OpP.nilCheck rfl) ?_
    refine JL.pure rfl rfl (OpP.indexAddrF rfl rfl (by omega) (by omega)) ?_
    refine JL.read rfl rfl (OpR.load1 rfl (cell_fc .head rfl (by omega))) ?_
    refine JL.pure rfl rfl (OpP.assign rfl) ?_
    refine JL.nil ?_
    refine J.ret1 rfl rfl ?_
    rw [e0, e1, e2, e3, sched, if_pos h]
    exact ⟨rfl, rfl⟩
  · refine J.seq ?_
    refine J.region ?_
    refine JL.pure rfl rfl (OpP.assign rfl) ?_
    refine JL.nil ?_
    refine J.seq ?_
    refine J.seq ?_
    refine J.region ?_
    refine JL.pure rfl rfl (OpP.move rfl) ?_
    refine JL.decF rfl rfl (OpP.geq rfl rfl) (by omega) ?_
    refine JL.nil ?_
    refine J.condF rfl ?_
    refine J.skip ?_
    refine J.seq ?_
    refine J.region ?_
    refine JL.pure rfl rfl (OpP.move rfl) ?_
    refine JL.pure rfl rfl (OpP.move rfl) ?_
    refine JL.pure rfl rfl (OpP.remI rfl rfl (by first | omega | exact Int.natCast_nonneg _) (by omega)) ?_
    refine JL.pure rfl rfl (OpP.nilCheck rfl) ?_
    refine JL.pure rfl rfl (OpP.indexAddrF rfl rfl (by omega) (by omega)) ?_
    refine JL.read rfl rfl (OpR.load1 rfl (cell_fc .head rfl (by omega))) ?_
    refine JL.pure rfl rfl (OpP.assign rfl) ?_
    refine JL.nil ?_
    refine J.ret1 rfl rfl ?_
    rw [e0, sched, if_neg h]
    exact ⟨rfl, rfl⟩
def begins : Ws := fun j => [0x6a09e667, 0xbb67ae85, 0x3c6ef372, 0xa54ff53a, 0x510e527f, 0x9b05688c, 0x1f83d9ab, 0x5be0cd19].getD j 0
theorem Begin_ok {w0 : World} {F : List HProp} {g t : Nat} {V : Ws} {post : List Value} :
    FnO Tryd.prog w0 78 [.pointer (some ⟨g, 0, none⟩)] (row g t (fc 8 (fun j => w32 (V j)) ++ post) :: F) (fun _ l' => l' = row g t (fc 8 (fun j => w32 (begins j)) ++ post) :: F) := by
  refine FnO.intro (n := 6) Tryd.func78 rfl rfl rfl ?_
  refine J.region ?_
  refine JL.pure rfl rfl (OpP.move rfl) ?_
  refine JL.pure rfl rfl (OpP.buildA rfl (by (repeat (first | exact Fills.nil | (apply Fills.cons rfl rfl rfl; (case' hs => ((repeat (first | exact Spl.nil | apply Spl.here | apply Spl.there)); done))))))) ?_
  refine JL.pure rfl rfl (OpP.nilCheck rfl) ?_
  refine JL.pure rfl rfl (OpP.fieldAddr rfl) ?_
  refine JL.mem0 rfl (by apply OpM.storeN rfl rfl (by rfl) (oneC rfl (oneC rfl (oneC rfl (oneC rfl (oneC rfl (oneC rfl (oneC rfl (one1 rfl)))))))); (case' hu => exact .head); (case' hs => exact (.here (.here (.here (.here (.here (.here (.here (.here .nil))))))))); done) ?_; rintro _ _ ⟨rfl, rfl⟩
  refine JL.nil ?_
  refine J.fin0 rfl ?_
  rfl
def byteOf (V : Ws) (j : Nat) : Value := u8c (UInt8.ofBitVec ((V (j / 4) >>> (24 - 8 * (j % 4))).setWidth 8))
theorem Told_ok {w0 : World} {F : List HProp} {g t : Nat} {V : Ws} {post : List Value} :
    FnO Tryd.prog w0 81 [.pointer (some ⟨g, 0, none⟩)] (row g t (fc 8 (fun j => w32 (V j)) ++ post) :: F) (fun v l' => v = .agg (fc 32 (byteOf V)).toArray ∧ l' = row g t (fc 8 (fun j => w32 (V j)) ++ post) :: F) := by
  refine FnO.weak ?_
  refine FnO.intro (n := 32) Tryd.func81 rfl rfl rfl ?_
  refine J.seq ?_
  refine J.region ?_
  refine JL.mem rfl rfl OpM.alloc ?_; rintro _ _ ⟨b2, rfl, rfl⟩
  refine JL.nil ?_
  refine J.seq ?_
  refine J.region ?_
  refine JL.mem rfl rfl OpM.alloc ?_; rintro _ _ ⟨b3, rfl, rfl⟩
  refine JL.nil ?_
  refine J.seq ?_
  refine J.seq ?_
  refine J.region ?_
  refine JL.pure rfl rfl (OpP.move rfl) ?_
  refine JL.pure rfl rfl (OpP.nilCheck rfl) ?_
  refine JL.pure rfl rfl (OpP.fieldAddr rfl) ?_
  refine JL.read rfl rfl (OpR.loadN rfl (cells_fcP (.tail (.tail .head))) rfl) ?_
  refine JL.pure rfl rfl (OpP.move rfl) ?_
  refine JL.nil ?_
  refine J.block ?_
  refine J.loopI (fun i : Nat => 8 - i) (fun i => i ≤ 8) (fun i => [(11, .int .i64 (i : Nat)), (10, .agg (fc 8 fun j => w32 (V j)).toArray), (3, .pointer (some ⟨b3, 0, none⟩)), (2, .pointer (some ⟨b2, 0, none⟩))])
    (fun i => row b3 36 (fc 32 fun j => if j < 4 * i then byteOf V j else .int .u8 0) :: row b2 36 (List.replicate 32 (.int .u8 0)) :: row g t ((fc 8 fun j => w32 (V j)) ++ post) :: F) 0 (Nat.zero_le _) (by repeat (first | exact SubEnv.nil | refine SubEnv.cons (by first | rfl | exact congrArg (fun z => some (Value.int .i64 z)) (by omega) | (simp; done)) ?_)) (fun _ h => by dsimp only; rw [← fc_rep (v := .int .u8 0) (fun j _ => by simp)]; exact h) (fun i hi back => ?_)
  dsimp only at hi back ⊢
  by_cases hlt : i < 8
  · refine J.seq ?_
    refine J.region ?_
    refine JL.decT rfl rfl (OpP.lss rfl rfl) (by omega) ?_
    refine JL.nil ?_
    refine J.seq ?_
    refine J.condT rfl ?_
    refine J.skip ?_
    refine J.seq ?_
    refine J.block ?_
    refine J.seq ?_
    refine J.region ?_
    refine JL.pure rfl rfl (OpP.move rfl) ?_
    refine JL.pure rfl rfl (OpP.indexFc rfl rfl (by omega)) ?_
    refine JL.pure rfl rfl (OpP.assign rfl) ?_
    refine JL.pure rfl rfl (OpP.assign rfl) ?_
    refine JL.nil ?_
    refine J.seq ?_
    refine J.region ?_
    refine JL.pure rfl rfl (OpP.move rfl) ?_
    refine JL.nil ?_
    refine J.block ?_
    refine J.loopI (fun k : Nat => 4 - k) (fun k => k ≤ 4) (fun k => [(15, .int .i64 (k : Nat)), (5, w32 (V i)), (4, .int .i64 (i : Nat)), (11, .int .i64 (i : Nat)), (10, .agg (fc 8 fun j => w32 (V j)).toArray), (3, .pointer (some ⟨b3, 0, none⟩)), (2, .pointer (some ⟨b2, 0, none⟩))])
      (fun k => row b3 36 (fc 32 fun j => if j < 4 * i + k then byteOf V j else .int .u8 0) :: row b2 36 (List.replicate 32 (.int .u8 0)) :: row g t ((fc 8 fun j => w32 (V j)) ++ post) :: F) 0 (Nat.zero_le _) (by repeat (first | exact SubEnv.nil | refine SubEnv.cons (by first | rfl | exact congrArg (fun z => some (Value.int .i64 z)) (by omega) | (simp; done)) ?_)) (fun _ h => h) (fun k hk back2 => ?_)
    dsimp only at hk back2 ⊢
    by_cases hkt : k < 4
    · refine J.seq ?_
      refine J.region ?_
      refine JL.decT rfl rfl (OpP.lss rfl rfl) (by omega) ?_
      refine JL.nil ?_
      refine J.seq ?_
      refine J.condT rfl ?_
      refine J.skip ?_
      refine J.seq ?_
      refine J.block ?_
      refine J.seq ?_
      refine J.region ?_
      refine JL.pure rfl rfl (OpP.move rfl) ?_
      refine JL.pure rfl rfl (OpP.assign rfl) ?_
      refine JL.nil ?_
      refine J.region ?_
      refine JL.pure rfl rfl (OpP.move rfl) ?_
      refine JL.pure rfl rfl (OpP.mulI rfl rfl (by omega) (by omega)) ?_
      refine JL.pure rfl rfl (OpP.move rfl) ?_
      refine JL.pure rfl rfl (OpP.addI rfl rfl (by omega) (by omega)) ?_
      refine JL.pure rfl rfl (OpP.move rfl) ?_
      refine JL.pure rfl rfl (OpP.move rfl) ?_
      refine JL.pure rfl rfl (OpP.mulI rfl rfl (by omega) (by omega)) ?_
      refine JL.pure rfl rfl (OpP.subI rfl rfl (by omega) (by omega)) ?_
      refine JL.pure rfl rfl (OpP.wShrI rfl rfl (by omega) (by omega)) ?_
      refine JL.pure rfl rfl (OpP.wToByte rfl) ?_
      refine JL.pure rfl rfl (OpP.indexAddrF rfl rfl (by omega) (by omega)) ?_
      refine JL.mem0 rfl (by apply OpM.store1 rfl rfl rfl; (case' hu => exact .head); (case' hs => exact spl_fc rfl (by omega)); done) ?_; rintro _ _ ⟨rfl, rfl⟩
      refine JL.nil ?_
      refine J.inBlock ?_
      refine J.region ?_
      refine JL.pure rfl rfl (OpP.addI rfl rfl (by omega) (by omega)) ?_
      refine JL.pure rfl rfl (OpP.move rfl) ?_
      refine JL.nil ?_
      refine back2 (k + 1) (by omega) (by omega) (by repeat (first | exact SubEnv.nil | refine SubEnv.cons (by first | rfl | exact congrArg (fun z => some (Value.int .i64 z)) (by omega) | (simp; done)) ?_)) (fun _ h => ?_)
      have e : (fc 32 fun j => if j < 4 * i + (k + 1) then byteOf V j else Value.int .u8 0) = fc 32 (upd (fun j => if j < 4 * i + k then byteOf V j else Value.int .u8 0) (4 * (i : Int) + (k : Int)).toNat (u8c (UInt8.ofBitVec ((V i >>> (24 - 8 * (k : Int)).toNat).setWidth 8)))) := by
        have e1 : (4 * (i : Int) + (k : Int)).toNat = 4 * i + k := by omega
        have e2 : (24 - 8 * (k : Int)).toNat = 24 - 8 * k := by omega
        refine fc_congr fun j _ => ?_
        rw [e1, e2]
        unfold upd
        by_cases hj : j = 4 * i + k
        · subst hj
          rw [if_pos rfl, if_pos (by omega), byteOf, show (4 * i + k) / 4 = i by omega, show (4 * i + k) % 4 = k by omega]
        · rw [if_neg hj]
          dsimp only
          by_cases h2 : j < 4 * i + k
          · rw [if_pos h2, if_pos (by omega)]
          · rw [if_neg h2, if_neg (by omega)]
      rw [e]
      exact h
    · have : k = 4 := by omega
      subst this
      refine J.seq ?_
      refine J.region ?_
      refine JL.decF rfl rfl (OpP.lss rfl rfl) (by omega) ?_
      refine JL.nil ?_
      refine J.seq ?_
      refine J.condF rfl ?_
      refine J.exit rfl ?_
      refine J.inBlock ?_
      refine J.region ?_
      refine JL.pure rfl rfl (OpP.addI rfl rfl (by omega) (by omega)) ?_
      refine JL.pure rfl rfl (OpP.move rfl) ?_
      refine JL.nil ?_
      exact back (i + 1) (by omega) (by omega) (by repeat (first | exact SubEnv.nil | refine SubEnv.cons (by first | rfl | exact congrArg (fun z => some (Value.int .i64 z)) (by omega) | (simp; done)) ?_)) (fun _ h => h)
  · have : i = 8 := by omega
    subst this
    rw [show (fc 32 fun j => if j < 4 * 8 then byteOf V j else Value.int .u8 0) = fc 32 (byteOf V) from fc_congr fun j hj => if_pos hj]
    refine J.seq ?_
    refine J.region ?_
    refine JL.decF rfl rfl (OpP.lss rfl rfl) (by omega) ?_
    refine JL.nil ?_
    refine J.seq ?_
    refine J.condF rfl ?_
    refine J.exit rfl ?_
    refine J.seq ?_
    refine J.region ?_
    refine JL.read rfl rfl (OpR.loadN rfl (Cells.full .head) rfl) ?_
    refine JL.mem0 rfl (by apply OpM.storeN rfl rfl (fc_length _ _) (fc_one fun _ => rfl); (case' hu => exact (.tail .head)); (case' hs => exact spl_all (by rfl)); done) ?_; rintro _ _ ⟨rfl, rfl⟩
    refine JL.nil ?_
    refine J.retC rfl rfl (by apply Cells.full; (with_reducible repeat (first | exact .head | apply Has.tail))) (by first | (rw [List.length_append, hdC_len (by first | assumption | exact shaB_length _ _ | solve_by_elim)]; rfl) | exact hdC_len (by first | assumption | exact shaB_length _ _ | solve_by_elim) | (rw [bcells_length]; first | assumption | exact shaB_length _ _ | solve_by_elim) | exact fc_length _ _ | exact fB_length _ _ | rfl) ?_
    exact ⟨_, ⟨rfl, rfl⟩, fun _ h => Own.pick (pre := [_, _]) [] rfl h⟩
end Go.Proofs.F

-- seat f
namespace Go.Proofs.F
open Go Go.Gp Go.RowKit

def loadW (bs : List UInt8) : Nat → Ws
  | 0 => fun _ => 0
  | i + 1 => upd (loadW bs i) (i / 4) (loadW bs i (i / 4) <<< 8 ||| (bs.getD i 0).toBitVec.setWidth 32)
structure Rnd where
  S : Ws
  V : Ws
def rndT (K : Ws) (i k : Nat) (r : Rnd) : BitVec 32 := r.V ((k + 7) % 8) + turn3 (r.V ((k + 4) % 8)) 6 11 25 + (r.V ((k + 6) % 8) ^^^ (r.V ((k + 4) % 8) &&& (r.V ((k + 5) % 8) ^^^ r.V ((k + 6) % 8)))) + K i + sched r.S i (i % 16)
def rndU (k : Nat) (V : Ws) : BitVec 32 := turn3 (V k) 2 13 22
def rndM (k : Nat) (V : Ws) : BitVec 32 := V k &&& V ((k + 1) % 8) ||| V ((k + 2) % 8) &&& (V k ||| V ((k + 1) % 8))
def rnd1 (K : Ws) (i : Nat) (r : Rnd) : Rnd :=
  let k := (64 - i) % 8
  let t := rndT K i k r
  ⟨sched r.S i, upd (upd r.V ((k + 3) % 8) (r.V ((k + 3) % 8) + t)) ((k + 7) % 8) (t + rndU k r.V + rndM k r.V)⟩
def rnds (K : Ws) (r : Rnd) : Nat → Rnd
  | 0 => r
  | i + 1 => rnd1 K i (rnds K r i)
def mixW (K V : Ws) (bs : List UInt8) : Ws := fun j => V j + (rnds K ⟨loadW bs 64, V⟩ 64).V j

set_option maxHeartbeats 4000000 in
theorem Mix_ok {w0 : World} {F : List HProp} {g t : Nat} {V K : Ws} {post : List Value} {bs : List UInt8} {v : Value} (hK : Tab w0 0 64 fun j => w32 (K j)) (hbs : bs.length = 64)
    (hr : RdO w0 (row g t (fc 8 (fun j => w32 (V j)) ++ post) :: F) v 64 (bcells bs)) :
    FnO Tryd.prog w0 82 [.pointer (some ⟨g, 0, none⟩), v] (row g t (fc 8 (fun j => w32 (V j)) ++ post) :: F) (fun _ l' => l' = row g t (fc 8 (fun j => w32 (mixW K V bs j)) ++ post) :: F) := by
  refine FnO.rd hr fun hr => ?_
  obtain ⟨va, vc, rfl⟩ := hr.lit
  refine FnO.weak ?_
  refine FnO.intro (n := 144) Tryd.func82 rfl rfl rfl ?_
  refine J.seq ?_
  refine J.region ?_
  refine JL.mem rfl rfl OpM.alloc ?_; rintro _ _ ⟨b4, rfl, rfl⟩
  refine JL.nil ?_
  refine J.seq ?_
  refine J.seq ?_
  refine J.region ?_
  refine JL.pure rfl rfl (OpP.move rfl) ?_
  refine JL.pure rfl rfl (OpP.len rfl rfl) ?_
  refine JL.pure rfl rfl (OpP.move rfl) ?_
  refine JL.nil ?_
  refine J.block ?_
  refine J.loopI (fun i : Nat => 64 - i) (fun i => i ≤ 64) (fun i => [(22, .int .i64 (i : Nat)), (21, .int .i64 (64 : Nat)), (20, .slice va 64 vc), (4, .pointer (some ⟨b4, 0, none⟩)), (0, .pointer (some ⟨g, 0, none⟩))])
    (fun i => row b4 140 (fc 16 fun j => w32 (loadW bs i j)) :: row g t (fc 8 (fun j => w32 (V j)) ++ post) :: F) 0 (Nat.zero_le _) (by repeat (first | exact SubEnv.nil | refine SubEnv.cons (by first | rfl | exact congrArg (fun z => some (Value.int .i64 z)) (by omega) | (simp; done)) ?_)) (fun _ h => by dsimp only; rw [← fc_rep (f := fun j => w32 (loadW bs 0 j)) (v := .int .u32 0) (fun j _ => rfl)]; exact h) (fun i hi back => ?_)
  dsimp only at hi back ⊢
  by_cases hlt : i < 64
  · have hbi : (bcells bs)[i]? = some (u8c (bs.getD i 0)) := by
      simp [bcells, List.getD, List.getElem?_eq_getElem (show i < bs.length by omega)]
    have e : ((i : Int) / 4).toNat = i / 4 := by omega
    refine J.seq ?_
    refine J.region ?_
    refine JL.decT rfl rfl (OpP.lss rfl rfl) (by omega) ?_
    refine JL.nil ?_
    refine J.seq ?_
    refine J.condT rfl ?_
    refine J.skip ?_
    refine J.seq ?_
    refine J.block ?_
    refine J.seq ?_
    refine J.region ?_
    refine JL.pure rfl rfl (OpP.move rfl) ?_
    obtain ⟨gva, pva, qva, eva, kva, cva⟩ := hr.pos (by omega); cases eva
    refine JL.pure rfl rfl (OpP.indexAddr rfl rfl (by omega) (by omega)) ?_
    refine JL.read rfl rfl (OpR.load1 rfl (by apply Cells.cell cva (fun _ h => Own.pick (pre := [_, _]) [1] rfl h); (case' hv => assumption); (case' ho => omega); done)) ?_
    refine JL.pure rfl rfl (OpP.assign rfl) ?_
    refine JL.pure rfl rfl (OpP.assign rfl) ?_
    refine JL.nil ?_
    refine J.region ?_
    refine JL.pure rfl rfl (OpP.move rfl) ?_
    refine JL.pure rfl rfl (OpP.quoI rfl rfl (by omega) (by omega) (by first | decide | (simp only [IntKind.max]; omega) | (simp [IntKind.max, IntKind.signed, IntKind.bits]; omega))) ?_
    refine JL.pure rfl rfl (OpP.move rfl) ?_
    refine JL.pure rfl rfl (OpP.quoI rfl rfl (by omega) (by omega) (by first | decide | (simp only [IntKind.max]; omega) | (simp [IntKind.max, IntKind.signed, IntKind.bits]; omega))) ?_
    refine JL.pure rfl rfl (OpP.indexAddrF rfl rfl (by omega) (by omega)) ?_
    refine JL.read rfl rfl (OpR.load1 rfl (cell_fc .head rfl (by omega))) ?_
    refine JL.pure rfl rfl (OpP.wShl 8 rfl rfl rfl (by decide)) ?_
    refine JL.pure rfl rfl (OpP.move rfl) ?_
    refine JL.pure rfl rfl (OpP.wOfByte rfl) ?_
    refine JL.pure rfl rfl (OpP.wOr rfl rfl) ?_
    refine JL.pure rfl rfl (OpP.indexAddrF rfl rfl (by omega) (by omega)) ?_
    refine JL.mem0 rfl (by apply OpM.store1 rfl rfl rfl; (case' hu => exact .head); (case' hs => exact spl_fcW rfl (by omega)); done) ?_; rintro _ _ ⟨rfl, rfl⟩
    refine JL.nil ?_
    refine J.inBlock ?_
    refine J.region ?_
    refine JL.pure rfl rfl (OpP.addI rfl rfl (by omega) (by omega)) ?_
    refine JL.pure rfl rfl (OpP.move rfl) ?_
    refine JL.nil ?_
    refine back (i + 1) (by omega) (by omega) (by repeat (first | exact SubEnv.nil | refine SubEnv.cons (by first | rfl | exact congrArg (fun z => some (Value.int .i64 z)) (by omega) | (simp; done)) ?_)) (fun _ h => ?_)
    rw [e] at h
    exact h
  · have : i = 64 := by omega
    subst this
    refine J.seq ?_
    refine J.region ?_
    refine JL.decF rfl rfl (OpP.lss rfl rfl) (by omega) ?_
    refine JL.nil ?_
    refine J.seq ?_
    refine J.condF rfl ?_
    refine J.exit rfl ?_
    refine J.seq ?_
    refine J.region ?_
    refine JL.pure rfl rfl (OpP.move rfl) ?_
    refine JL.pure rfl rfl (OpP.nilCheck rfl) ?_
    refine JL.pure rfl rfl (OpP.fieldAddr rfl) ?_
    refine JL.read rfl rfl (OpR.loadN rfl (cells_fcP (.tail .head)) rfl) ?_
    refine JL.mem rfl rfl OpM.alloc ?_; rintro _ _ ⟨b7, rfl, rfl⟩
    refine JL.mem0 rfl (by apply OpM.storeN rfl rfl (fc_length _ _) (fc_one fun _ => rfl); (case' hu => exact .head); (case' hs => exact spl_all (by rfl)); done) ?_; rintro _ _ ⟨rfl, rfl⟩
    refine JL.nil ?_
    refine J.seq ?_
    refine J.seq ?_
    refine J.region ?_
    refine JL.pure rfl rfl (OpP.move rfl) ?_
    refine JL.nil ?_
    refine J.block ?_
    refine J.loopI (fun i : Nat => 64 - i) (fun i => i ≤ 64) (fun i => [(43, .int .i64 (i : Nat)), (7, .pointer (some ⟨b7, 0, none⟩)), (4, .pointer (some ⟨b4, 0, none⟩)), (0, .pointer (some ⟨g, 0, none⟩))])
      (fun i => row b7 131 (fc 8 fun j => w32 ((rnds K ⟨loadW bs 64, V⟩ i).V j)) :: row b4 140 (fc 16 fun j => w32 ((rnds K ⟨loadW bs 64, V⟩ i).S j)) :: row g t (fc 8 (fun j => w32 (V j)) ++ post) :: F) 0 (Nat.zero_le _) (by repeat (first | exact SubEnv.nil | refine SubEnv.cons (by first | rfl | exact congrArg (fun z => some (Value.int .i64 z)) (by omega) | (simp; done)) ?_)) (fun _ h => h) (fun i hi back => ?_)
    dsimp only at hi back ⊢
    by_cases hlt : i < 64
    · have hr1 : rnds K ⟨loadW bs 64, V⟩ (i + 1) = rnd1 K i (rnds K ⟨loadW bs 64, V⟩ i) := rfl
      generalize rnds K ⟨loadW bs 64, V⟩ i = r at hr1 ⊢
      refine J.seq ?_
      refine J.region ?_
      refine JL.decT rfl rfl (OpP.lss rfl rfl) (by omega) ?_
      refine JL.nil ?_
      refine J.seq ?_
      refine J.condT rfl ?_
      refine J.skip ?_
      refine J.seq ?_
      refine J.block ?_
      refine J.seq ?_
      refine J.region ?_
      refine JL.pure rfl rfl (OpP.move rfl) ?_
      refine JL.pure rfl rfl (OpP.assign rfl) ?_
      refine JL.nil ?_
      refine J.seq ?_
      refine J.region ?_
      refine JL.pure rfl rfl (OpP.move rfl) ?_
      refine JL.pure rfl rfl (OpP.subI rfl rfl (by omega) (by omega)) ?_
      refine JL.pure rfl rfl (OpP.remI rfl rfl (by first | omega | exact Int.natCast_nonneg _) (by omega)) ?_
      refine JL.pure rfl rfl (OpP.assign rfl) ?_
      refine JL.nil ?_
      have hk : (64 - (i : Int)) % 8 = (((64 - i) % 8 : Nat) : Int) := by omega
      rw [hk]
      have hr2 : ∀ k, k = (64 - i) % 8 → rnd1 K i r = ⟨sched r.S i, upd (upd r.V ((k + 3) % 8) (r.V ((k + 3) % 8) + rndT K i k r)) ((k + 7) % 8) (rndT K i k r + rndU k r.V + rndM k r.V)⟩ := by
        rintro _ rfl; rfl
      have hk8 : (64 - i) % 8 < 8 := by omega
      have hr2 := hr2 _ rfl
      generalize (64 - i) % 8 = k at hr2 hk8 ⊢
      have e3 : (((k : Nat) : Int) + 3).toNat = k + 3 := by omega
      have d1 : ((((k : Nat) : Int) + 1) % 8).toNat = (k + 1) % 8 := by omega
      have d2 : ((((k : Nat) : Int) + 2) % 8).toNat = (k + 2) % 8 := by omega
      have d3 : ((((k : Nat) : Int) + 3) % 8).toNat = (k + 3) % 8 := by omega
      have d4 : ((((k : Nat) : Int) + 4) % 8).toNat = (k + 4) % 8 := by omega
      have d5 : ((((k : Nat) : Int) + 5) % 8).toNat = (k + 5) % 8 := by omega
      have d6 : ((((k : Nat) : Int) + 6) % 8).toNat = (k + 6) % 8 := by omega
      have d7 : ((((k : Nat) : Int) + 7) % 8).toNat = (k + 7) % 8 := by omega
      refine J.seq ?_
      refine J.regionD [2, 7, 12] (by kernel_rfl) ?_
      refine DL.pure (i := 0) (by kernel_rfl) (by kernel_rfl) rfl rfl rfl (OpP.move rfl) ?_
      refine DL.pure (i := 1) (by kernel_rfl) (by kernel_rfl) rfl rfl rfl (OpP.indexAddrN rfl rfl (by omega)) ?_
      refine DL.read (i := 2) (by kernel_rfl) (by kernel_rfl) rfl rfl rfl (fun _ h => h) (OpR.load1 rfl (cell_fc .head rfl (by omega))) ?_
      refine DL.pure (i := 3) (by kernel_rfl) (by kernel_rfl) rfl rfl rfl (OpP.move rfl) ?_
      refine DL.pure (i := 4) (by kernel_rfl) (by kernel_rfl) rfl rfl rfl (OpP.addI rfl rfl (by omega) (by omega)) ?_
      refine DL.pure (i := 5) (by kernel_rfl) (by kernel_rfl) rfl rfl rfl (OpP.remI rfl rfl (by first | omega | exact Int.natCast_nonneg _) (by omega)) ?_
      refine DL.pure (i := 6) (by kernel_rfl) (by kernel_rfl) rfl rfl rfl (OpP.indexAddrF rfl rfl (by omega) (by omega)) ?_
      refine DL.read (i := 7) (by kernel_rfl) (by kernel_rfl) rfl rfl rfl (fun _ h => h) (OpR.load1 rfl (cell_fc .head rfl (by omega))) ?_
      refine DL.pure (i := 8) (by kernel_rfl) (by kernel_rfl) rfl rfl rfl (OpP.move rfl) ?_
      refine DL.pure (i := 9) (by kernel_rfl) (by kernel_rfl) rfl rfl rfl (OpP.addI rfl rfl (by omega) (by omega)) ?_
      refine DL.pure (i := 10) (by kernel_rfl) (by kernel_rfl) rfl rfl rfl (OpP.remI rfl rfl (by first | omega | exact Int.natCast_nonneg _) (by omega)) ?_
      refine DL.pure (i := 11) (by kernel_rfl) (by kernel_rfl) rfl rfl rfl (OpP.indexAddrF rfl rfl (by omega) (by omega)) ?_
      refine DL.read (i := 12) (by kernel_rfl) (by kernel_rfl) rfl rfl rfl (fun _ h => h) (OpR.load1 rfl (cell_fc .head rfl (by omega))) ?_
      refine DL.pure (i := 13) (by kernel_rfl) (by kernel_rfl) rfl rfl rfl (OpP.assign rfl) ?_
      refine DL.pure (i := 14) (by kernel_rfl) (by kernel_rfl) rfl rfl rfl (OpP.assign rfl) ?_
      refine DL.pure (i := 15) (by kernel_rfl) (by kernel_rfl) rfl rfl rfl (OpP.assign rfl) ?_
      refine DL.done (by kernel_rfl) ?_
      refine J.seq ?_
      refine J.regionD [4, 9, 14] (by kernel_rfl) ?_
      refine DL.pure (i := 0) (by kernel_rfl) (by kernel_rfl) rfl rfl rfl (OpP.move rfl) ?_
      refine DL.pure (i := 1) (by kernel_rfl) (by kernel_rfl) rfl rfl rfl (OpP.addI rfl rfl (by omega) (by omega)) ?_
      refine DL.pure (i := 2) (by kernel_rfl) (by kernel_rfl) rfl rfl rfl (OpP.remI rfl rfl (by first | omega | exact Int.natCast_nonneg _) (by omega)) ?_
      refine DL.pure (i := 3) (by kernel_rfl) (by kernel_rfl) rfl rfl rfl (OpP.indexAddrF rfl rfl (by omega) (by omega)) ?_
      refine DL.read (i := 4) (by kernel_rfl) (by kernel_rfl) rfl rfl rfl (fun _ h => h) (OpR.load1 rfl (cell_fc .head rfl (by omega))) ?_
      refine DL.pure (i := 5) (by kernel_rfl) (by kernel_rfl) rfl rfl rfl (OpP.move rfl) ?_
      refine DL.pure (i := 6) (by kernel_rfl) (by kernel_rfl) rfl rfl rfl (OpP.addI rfl rfl (by omega) (by omega)) ?_
      refine DL.pure (i := 7) (by kernel_rfl) (by kernel_rfl) rfl rfl rfl (OpP.remI rfl rfl (by first | omega | exact Int.natCast_nonneg _) (by omega)) ?_
      refine DL.pure (i := 8) (by kernel_rfl) (by kernel_rfl) rfl rfl rfl (OpP.indexAddrF rfl rfl (by omega) (by omega)) ?_
      refine DL.read (i := 9) (by kernel_rfl) (by kernel_rfl) rfl rfl rfl (fun _ h => h) (OpR.load1 rfl (cell_fc .head rfl (by omega))) ?_
      refine DL.pure (i := 10) (by kernel_rfl) (by kernel_rfl) rfl rfl rfl (OpP.move rfl) ?_
      refine DL.pure (i := 11) (by kernel_rfl) (by kernel_rfl) rfl rfl rfl (OpP.addI rfl rfl (by omega) (by omega)) ?_
      refine DL.pure (i := 12) (by kernel_rfl) (by kernel_rfl) rfl rfl rfl (OpP.remI rfl rfl (by first | omega | exact Int.natCast_nonneg _) (by omega)) ?_
      refine DL.pure (i := 13) (by kernel_rfl) (by kernel_rfl) rfl rfl rfl (OpP.indexAddrF rfl rfl (by omega) (by omega)) ?_
      refine DL.read (i := 14) (by kernel_rfl) (by kernel_rfl) rfl rfl rfl (fun _ h => h) (OpR.load1 rfl (cell_fc .head rfl (by omega))) ?_
      refine DL.pure (i := 15) (by kernel_rfl) (by kernel_rfl) rfl rfl rfl (OpP.assign rfl) ?_
      refine DL.pure (i := 16) (by kernel_rfl) (by kernel_rfl) rfl rfl rfl (OpP.assign rfl) ?_
      refine DL.pure (i := 17) (by kernel_rfl) (by kernel_rfl) rfl rfl rfl (OpP.assign rfl) ?_
      refine DL.done (by kernel_rfl) ?_
      refine J.seq ?_
      refine J.region ?_
      refine JL.pure rfl rfl (OpP.move rfl) ?_
      refine JL.pure rfl rfl (OpP.addI rfl rfl (by omega) (by omega)) ?_
      refine JL.pure rfl rfl (OpP.remI rfl rfl (by first | omega | exact Int.natCast_nonneg _) (by omega)) ?_
      refine JL.pure rfl rfl (OpP.indexAddrF rfl rfl (by omega) (by omega)) ?_
      refine JL.pure rfl rfl (OpP.assign rfl) ?_
      refine JL.nil ?_
      refine J.seq ?_
      refine J.regionX1 [2, 16] (by kernel_rfl) ?_
      refine DL.pure (i := 0) (by kernel_rfl) (by kernel_rfl) rfl rfl rfl (OpP.move rfl) ?_
      refine DL.pure (i := 1) (by kernel_rfl) (by kernel_rfl) rfl rfl rfl (OpP.nilCheck rfl) ?_
      refine DL.read (i := 2) (by kernel_rfl) (by kernel_rfl) rfl rfl rfl (fun _ h => Own.pick (pre := [_, _, _]) [0, 2] rfl h) (OpR.load1 rfl (cell_fc .head rfl (by omega))) ?_
      refine DL.pure (i := 3) (by kernel_rfl) (by kernel_rfl) rfl rfl rfl (OpP.move rfl) ?_
      refine DL.pure (i := 6) (by kernel_rfl) (by kernel_rfl) rfl rfl rfl (OpP.move rfl) ?_
      refine DL.pure (i := 7) (by kernel_rfl) (by kernel_rfl) rfl rfl rfl (OpP.move rfl) ?_
      refine DL.pure (i := 8) (by kernel_rfl) (by kernel_rfl) rfl rfl rfl (OpP.move rfl) ?_
      refine DL.pure (i := 9) (by kernel_rfl) (by kernel_rfl) rfl rfl rfl (OpP.move rfl) ?_
      refine DL.pure (i := 10) (by kernel_rfl) (by kernel_rfl) rfl rfl rfl (OpP.wXor rfl rfl) ?_
      refine DL.pure (i := 11) (by kernel_rfl) (by kernel_rfl) rfl rfl rfl (OpP.wAnd rfl rfl) ?_
      refine DL.pure (i := 12) (by kernel_rfl) (by kernel_rfl) rfl rfl rfl (OpP.wXor rfl rfl) ?_
      refine DL.pure (i := 14) (by kernel_rfl) (by kernel_rfl) rfl rfl rfl (OpP.move rfl) ?_
      refine DL.pure (i := 15) (by kernel_rfl) (by kernel_rfl) rfl rfl rfl (OpP.indexAddrN rfl rfl (by omega)) ?_
      refine DL.read (i := 16) (by kernel_rfl) (by kernel_rfl) rfl rfl rfl (fun _ h => Own.pick (pre := [_, _, _]) [0, 2] rfl h) (OpR.load1 rfl (Tab.cell (by assumption) (by omega))) ?_
      refine DL.pure (i := 18) (by kernel_rfl) (by kernel_rfl) rfl rfl rfl (OpP.move rfl) ?_
      refine DL.only (i := 4) (by kernel_rfl) ?_
      refine DL1.stepK rfl rfl rfl (by exact OpW.call (first := []) (captured := []) inferInstance rfl rfl (Turned_ok (a := 6) (b := 11) (c := 25) (by decide) (by decide) (by decide) (by decide) (by decide) (by decide))) (by rintro _ _ ⟨rfl, rfl⟩ _ h; exact Own.pick (pre := [_, _, _]) [0, 2] rfl h) ?_; rintro r85 _ ⟨rfl, rfl⟩
      refine DL.pure (i := 5) (by kernel_rfl) (by kernel_rfl) rfl rfl rfl (OpP.wAdd rfl rfl) ?_
      refine DL.pure (i := 13) (by kernel_rfl) (by kernel_rfl) rfl rfl rfl (OpP.wAdd rfl rfl) ?_
      refine DL.pure (i := 17) (by kernel_rfl) (by kernel_rfl) rfl rfl rfl (OpP.wAdd rfl rfl) ?_
      refine DL.only (i := 19) (by kernel_rfl) ?_
      refine DL1.f1 ?_; refine DL1.stepK rfl rfl rfl (by exact OpW.call (first := []) (captured := []) inferInstance rfl rfl (Next_ok (by first | assumption | omega | rfl | exact Nat.le_of_ble_eq_true rfl | (simp; omega)))) (by rintro _ _ ⟨rfl, rfl⟩ _ h; exact Own.pick (pre := [_, _, _]) [1, 2] rfl h) ?_; rintro r100 _ ⟨rfl, rfl⟩
      refine DL.pure (i := 20) (by kernel_rfl) (by kernel_rfl) rfl rfl rfl (OpP.wAdd rfl rfl) ?_
      refine DL.pure (i := 21) (by kernel_rfl) (by kernel_rfl) rfl rfl rfl (OpP.assign rfl) ?_
      refine DL.done (by kernel_rfl) ?_
      refine J.seq ?_
      refine J.region ?_
      refine JL.pure rfl rfl (OpP.move rfl) ?_
      refine JL.pure rfl rfl (OpP.addI rfl rfl (by omega) (by omega)) ?_
      refine JL.pure rfl rfl (OpP.remI rfl rfl (by first | omega | exact Int.natCast_nonneg _) (by omega)) ?_
      refine JL.pure rfl rfl (OpP.indexAddrF rfl rfl (by omega) (by omega)) ?_
      refine JL.read rfl rfl (OpR.load1 rfl (cell_fc (.tail .head) rfl (by omega))) ?_
      refine JL.pure rfl rfl (OpP.move rfl) ?_
      refine JL.pure rfl rfl (OpP.wAdd rfl rfl) ?_
      refine JL.pure rfl rfl (OpP.indexAddrF rfl rfl (by omega) (by omega)) ?_
      refine JL.mem0 rfl (by apply OpM.store1 rfl rfl rfl; (case' hu => exact (.tail .head)); (case' hs => exact spl_fcW rfl (by omega)); done) ?_; rintro _ _ ⟨rfl, rfl⟩
      refine JL.nil ?_
      refine J.region ?_
      refine JL.pure rfl rfl (OpP.move rfl) ?_
      refine JL.pure rfl rfl (OpP.move rfl) ?_
      refine JL.pure rfl rfl (OpP.move rfl) ?_
      refine JL.step rfl rfl (OpW.call (first := []) (captured := []) inferInstance rfl rfl (Turned_ok (a := 2) (b := 13) (c := 22) (by decide) (by decide) (by decide) (by decide) (by decide) (by decide))) ?_; rintro r113 _ ⟨rfl, rfl⟩
      refine JL.pure rfl rfl (OpP.wAdd rfl rfl) ?_
      refine JL.pure rfl rfl (OpP.move rfl) ?_
      refine JL.pure rfl rfl (OpP.move rfl) ?_
      refine JL.pure rfl rfl (OpP.wAnd rfl rfl) ?_
      refine JL.pure rfl rfl (OpP.move rfl) ?_
      refine JL.pure rfl rfl (OpP.move rfl) ?_
      refine JL.pure rfl rfl (OpP.move rfl) ?_
      refine JL.pure rfl rfl (OpP.wOr rfl rfl) ?_
      refine JL.pure rfl rfl (OpP.wAnd rfl rfl) ?_
      refine JL.pure rfl rfl (OpP.wOr rfl rfl) ?_
      refine JL.pure rfl rfl (OpP.wAdd rfl rfl) ?_
      refine JL.pure rfl rfl (OpP.nilCheck rfl) ?_
      refine JL.mem0 rfl (by apply OpM.store1 rfl rfl rfl; (case' hu => exact (.tail .head)); (case' hs => exact spl_fcW rfl (by omega)); done) ?_; rintro _ _ ⟨rfl, rfl⟩
      refine JL.nil ?_
      refine J.inBlock ?_
      refine J.region ?_
      refine JL.pure rfl rfl (OpP.addI rfl rfl (by omega) (by omega)) ?_
      refine JL.pure rfl rfl (OpP.move rfl) ?_
      refine JL.nil ?_
      refine back (i + 1) (by omega) (by omega) (by repeat (first | exact SubEnv.nil | refine SubEnv.cons (by first | rfl | exact congrArg (fun z => some (Value.int .i64 z)) (by omega) | (simp; done)) ?_)) (fun _ h => ?_)
      rw [hr1, hr2, rndT, rndU, rndM]
      rw [d1, d2, d3, d4, d5, d6, d7] at h
      exact Own.pick (pre := [_, _]) [1, 0] rfl h
    · have : i = 64 := by omega
      subst this
      refine J.seq ?_
      refine J.region ?_
      refine JL.decF rfl rfl (OpP.lss rfl rfl) (by omega) ?_
      refine JL.nil ?_
      refine J.seq ?_
      refine J.condF rfl ?_
      refine J.exit rfl ?_
      refine J.seq ?_
      refine J.region ?_
      refine JL.read rfl rfl (OpR.loadN rfl (Cells.full .head) rfl) ?_
      refine JL.pure rfl rfl (OpP.move rfl) ?_
      refine JL.nil ?_
      refine J.block ?_
      generalize hR : rnds K ⟨loadW bs 64, V⟩ 64 = r
      have hmw : mixW K V bs = fun j => V j + r.V j := by rw [← hR]; rfl
      rw [hmw]
      refine J.loopI (fun i : Nat => 8 - i) (fun i => i ≤ 8) (fun i => [(128, .int .i64 (i : Nat)), (127, .agg (fc 8 fun j => w32 (r.V j)).toArray), (0, .pointer (some ⟨g, 0, none⟩))])
        (fun i => row g t (fc 8 (fun j => w32 (if j < i then V j + r.V j else V j)) ++ post) :: row b7 131 (fc 8 fun j => w32 (r.V j)) :: row b4 140 (fc 16 fun j => w32 (r.S j)) :: F) 0 (Nat.zero_le _) (by repeat (first | exact SubEnv.nil | refine SubEnv.cons (by first | rfl | exact congrArg (fun z => some (Value.int .i64 z)) (by omega) | (simp; done)) ?_)) (fun _ h => Own.pick (pre := [_, _, _]) [2, 0, 1] rfl h) (fun i hi back => ?_)
      dsimp only at hi back ⊢
      by_cases hlt : i < 8
      · refine J.seq ?_
        refine J.region ?_
        refine JL.decT rfl rfl (OpP.lss rfl rfl) (by omega) ?_
        refine JL.nil ?_
        refine J.seq ?_
        refine J.condT rfl ?_
        refine J.skip ?_
        refine J.seq ?_
        refine J.block ?_
        refine J.seq ?_
        refine J.region ?_
        refine JL.pure rfl rfl (OpP.move rfl) ?_
        refine JL.pure rfl rfl (OpP.indexFc rfl rfl (by omega)) ?_
        refine JL.pure rfl rfl (OpP.assign rfl) ?_
        refine JL.pure rfl rfl (OpP.assign rfl) ?_
        refine JL.nil ?_
        refine J.regionD [5] (by kernel_rfl) ?_
        refine DL.pure (i := 0) (by kernel_rfl) (by kernel_rfl) rfl rfl rfl (OpP.move rfl) ?_
        refine DL.pure (i := 1) (by kernel_rfl) (by kernel_rfl) rfl rfl rfl (OpP.move rfl) ?_
        refine DL.pure (i := 2) (by kernel_rfl) (by kernel_rfl) rfl rfl rfl (OpP.nilCheck rfl) ?_
        refine DL.pure (i := 3) (by kernel_rfl) (by kernel_rfl) rfl rfl rfl (OpP.fieldAddr rfl) ?_
        refine DL.pure (i := 4) (by kernel_rfl) (by kernel_rfl) rfl rfl rfl (OpP.indexAddrN rfl rfl (by omega)) ?_
        refine DL.read (i := 5) (by kernel_rfl) (by kernel_rfl) rfl rfl rfl (fun _ h => h) (OpR.load1 rfl (cell_fcP .head rfl (by omega))) ?_
        refine DL.pure (i := 6) (by kernel_rfl) (by kernel_rfl) rfl rfl rfl (OpP.move rfl) ?_
        refine DL.pure (i := 7) (by kernel_rfl) (by kernel_rfl) rfl rfl rfl (OpP.wAdd rfl rfl) ?_
        refine DL.pure (i := 8) (by kernel_rfl) (by kernel_rfl) rfl rfl rfl (OpP.nilCheck rfl) ?_
        refine DL.pure (i := 9) (by kernel_rfl) (by kernel_rfl) rfl rfl rfl (OpP.fieldAddr rfl) ?_
        refine DL.pure (i := 10) (by kernel_rfl) (by kernel_rfl) rfl rfl rfl (OpP.indexAddrN rfl rfl (by omega)) ?_
        refine DL.only (i := 11) (by kernel_rfl) ?_
        refine DL1.stepF0 rfl rfl (by kernel_rfl) (OpM.w (by apply OpM.store1 rfl rfl rfl; (case' hu => exact .head); (case' hs => exact spl_app (spl_fcW rfl (by omega))); done)) ?_; rintro _ _ ⟨rfl, rfl⟩
        refine DL.done (by kernel_rfl) ?_
        refine J.inBlock ?_
        refine J.region ?_
        refine JL.pure rfl rfl (OpP.addI rfl rfl (by omega) (by omega)) ?_
        refine JL.pure rfl rfl (OpP.move rfl) ?_
        refine JL.nil ?_
        refine back (i + 1) (by omega) (by omega) (by repeat (first | exact SubEnv.nil | refine SubEnv.cons (by first | rfl | exact congrArg (fun z => some (Value.int .i64 z)) (by omega) | (simp; done)) ?_)) (fun _ h => ?_)
        have e : (fc 8 fun j => w32 (if j < i + 1 then V j + r.V j else V j)) = fc 8 fun k => w32 (upd (fun j => if j < i then V j + r.V j else V j) i ((if i < i then V i + r.V i else V i) + r.V i) k) := by
          refine fc_congr fun j _ => ?_
          unfold upd
          by_cases hj : j = i
          · subst hj
            rw [if_pos rfl, if_pos (by omega), if_neg (by omega)]
          · rw [if_neg hj]
            dsimp only
            by_cases h2 : j < i
            · rw [if_pos h2, if_pos (by omega)]
            · rw [if_neg h2, if_neg (by omega)]
        rw [e]
        exact h
      · have : i = 8 := by omega
        subst this
        rw [show (fc 8 fun j => w32 (if j < 8 then V j + r.V j else V j)) = fc 8 fun j => w32 (V j + r.V j) from fc_congr fun j hj => by rw [if_pos hj]]
        refine J.seq ?_
        refine J.region ?_
        refine JL.decF rfl rfl (OpP.lss rfl rfl) (by omega) ?_
        refine JL.nil ?_
        refine J.seq ?_
        refine J.condF rfl ?_
        refine J.exit rfl ?_
        refine J.fin0 rfl ?_
        exact ⟨_, rfl, fun _ h => Own.pick (pre := [_, _, _]) [0] rfl h⟩
end Go.Proofs.F

-- seat f
namespace Go.Proofs.F
open Go Go.Gp Go.RowKit

def eatV (K V : Ws) (l : List UInt8) : Nat → Ws
  | 0 => V
  | i + 1 => mixW K (eatV K V l i) ((l.drop (64 * i)).take 64)
theorem eatV_add (K V : Ws) (l : List UInt8) (m : Nat) : ∀ j, eatV K V l (m + j) = eatV K (eatV K V l m) (l.drop (64 * m)) j
  | 0 => rfl
  | j + 1 => by
    show mixW K (eatV K V l (m + j)) ((l.drop (64 * (m + j))).take 64) = mixW K (eatV K (eatV K V l m) (l.drop (64 * m)) j) (((l.drop (64 * m)).drop (64 * j)).take 64)
    rw [eatV_add K V l m j, List.drop_drop, Nat.mul_add]
theorem eatV_app (K V : Ws) (l x : List UInt8) : ∀ i, 64 * i ≤ l.length → eatV K V (l ++ x) i = eatV K V l i
  | 0, _ => rfl
  | i + 1, h => by
    show mixW K (eatV K V (l ++ x) i) (((l ++ x).drop (64 * i)).take 64) = mixW K (eatV K V l i) ((l.drop (64 * i)).take 64)
    rw [eatV_app K V l x i (by omega), List.drop_append_of_le_length (by omega), List.take_append_of_le_length (by rw [List.length_drop]; omega)]
def stV (K : Ws) (all : List UInt8) : Ws := eatV K begins all (all.length / 64)
def stL (all : List UInt8) : List UInt8 := all.drop (64 * (all.length / 64))
theorem stL_length (all : List UInt8) : (stL all).length = all.length % 64 := by rw [stL, List.length_drop]; omega
theorem stV_app (K : Ws) (all b : List UInt8) : eatV K (stV K all) (stL all ++ b) ((stL all ++ b).length / 64) = stV K (all ++ b) := by
  have h := stL_length all
  have e : (all ++ b).length / 64 = all.length / 64 + (stL all ++ b).length / 64 := by
    rw [List.length_append, List.length_append, h]; omega
  rw [stV, stV, e, eatV_add, eatV_app K begins all b _ (by omega), List.drop_append_of_le_length (by omega)]
  rfl
theorem stL_app (all b : List UInt8) : (stL all ++ b).drop (64 * ((stL all ++ b).length / 64)) = stL (all ++ b) := by
  have h := stL_length all
  have e : (all ++ b).length / 64 = all.length / 64 + (stL all ++ b).length / 64 := by
    rw [List.length_append, List.length_append, h]; omega
  show (all.drop (64 * (all.length / 64)) ++ b).drop (64 * ((stL all ++ b).length / 64)) = (all ++ b).drop (64 * ((all ++ b).length / 64))
  rw [e, ← List.drop_append_of_le_length (by omega), List.drop_drop]
  congr 1
  omega
theorem bcells_take (l : List UInt8) (n : Nat) : (bcells l).take n = bcells (l.take n) := List.map_take.symm
theorem bcells_drop (l : List UInt8) (n : Nat) : (bcells l).drop n = bcells (l.drop n) := List.map_drop.symm
theorem bcells_app (l x : List UInt8) : bcells (l ++ x) = bcells l ++ bcells x := List.map_append
theorem bcells_len (l : List UInt8) : (bcells l).length = l.length := List.length_map ..

theorem MixO_ok {w0 : World} {F : List HProp} {g t p q n c c' : Nat} {V K : Ws} {post : List Value} {bs : List UInt8} (hK : Tab w0 0 64 fun j => w32 (K j)) (hn : n = bs.length) (h64 : 64 ≤ n) (hc : 64 ≤ c') :
    FnO Tryd.prog w0 82 [.pointer (some ⟨g, 0, none⟩), .slice (some ⟨p, q, none⟩) 64 c'] (row g t (fc 8 (fun j => w32 (V j)) ++ post) :: own 5 1 (.slice (some ⟨p, q, none⟩) n c) n (bcells bs) :: F)
      (fun _ l' => l' = row g t (fc 8 (fun j => w32 (mixW K V (bs.take 64) j)) ++ post) :: own 5 1 (.slice (some ⟨p, q, none⟩) n c) n (bcells bs) :: F) :=
  Mix_ok (bs := bs.take 64) hK (by rw [List.length_take]; omega) (by
    have h := RdO.ownTo (w0 := w0) (k := 64) (c' := c') (e := 5) (sz := 1) (n := n) (c := c) (b := p) (p := q) (xs := bcells bs) (l := row g t (fc 8 (fun j => w32 (V j)) ++ post) :: own 5 1 (.slice (some ⟨p, q, none⟩) n c) n (bcells bs) :: F) (.tail .head) hc
    rw [Nat.mul_one, bcells_take] at h
    exact h)
theorem Take0_ok {w0 : World} {F : List HProp} {g n : Nat} {V K : Ws} {left b : List UInt8} {s v : Value} (hK : Tab w0 0 64 fun j => w32 (K j)) (hn : n + b.length ≤ 1000000) (hl : left.length ≤ 1000000)
    (hr : RdO w0 F v b.length (bcells b)) :
    FnO Tryd.prog w0 79 [.pointer (some ⟨g, 0, none⟩), v] (row g 137 (fc 8 (fun j => w32 (V j)) ++ [s, .int .u64 (n : Nat)]) :: own 5 1 s left.length (bcells left) :: F)
      (fun _ l' => ∃ s', l' = row g 137 (fc 8 (fun j => w32 (eatV K V (left ++ b) ((left ++ b).length / 64) j)) ++ [s', .int .u64 ((n + b.length : Nat) : Int)]) :: own 5 1 s' ((left ++ b).length % 64) (bcells ((left ++ b).drop (64 * ((left ++ b).length / 64)))) :: F) := by
  refine FnO.rd (hr.conv fun _ h => h.tail.tail) fun hr0 => ?_
  obtain ⟨va, vc, rfl⟩ := hr0.lit
  refine FnO.rd (RdO.own (.tail .head)) fun hr1 => ?_
  obtain ⟨sa, sc, rfl⟩ := hr1.lit
  have hlb := bcells_len b
  refine FnO.weak ?_
  refine FnO.intro (n := 54) Tryd.func79 rfl rfl rfl ?_
  refine J.seq ?_
  refine J.region ?_
  refine JL.pure rfl rfl (OpP.move rfl) ?_
  refine JL.pure rfl rfl (OpP.nilCheck rfl) ?_
  refine JL.pure rfl rfl (OpP.fieldAddr rfl) ?_
  refine JL.pure rfl rfl (OpP.fieldAddr rfl) ?_
  refine JL.read rfl rfl (OpR.load1 rfl (Cell.row .head rfl)) ?_
  refine JL.pure rfl rfl (OpP.move rfl) ?_
  refine JL.pure rfl rfl (OpP.len rfl rfl) ?_
  refine JL.pure rfl rfl (OpP.convI rfl (by simp [IntKind.min, IntKind.max, IntKind.signed, IntKind.bits] <;> omega) (by simp [IntKind.min, IntKind.max, IntKind.signed, IntKind.bits] <;> omega)) ?_
  refine JL.pure rfl rfl (OpP.addK rfl rfl (by simp [IntKind.min, IntKind.max, IntKind.signed, IntKind.bits] <;> omega) (by simp [IntKind.min, IntKind.max, IntKind.signed, IntKind.bits] <;> omega)) ?_
  refine JL.pure rfl rfl (OpP.nilCheck rfl) ?_
  refine JL.pure rfl rfl (OpP.fieldAddr rfl) ?_
  refine JL.pure rfl rfl (OpP.fieldAddr rfl) ?_
  refine JL.mem0 rfl (by apply OpM.store1 rfl rfl rfl; (case' hu => exact .head); (case' hs => exact spl_post (k := 1) rfl (.there (.here .nil))); done) ?_; rintro _ _ ⟨rfl, rfl⟩
  refine JL.nil ?_
  refine J.seq ?_
  refine J.region ?_
  refine JL.pure rfl rfl (OpP.move rfl) ?_
  refine JL.pure rfl rfl (OpP.move rfl) ?_
  refine JL.pure rfl rfl (OpP.nilCheck rfl) ?_
  refine JL.pure rfl rfl (OpP.fieldAddr rfl) ?_
  refine JL.pure rfl rfl (OpP.fieldAddr rfl) ?_
  refine JL.read rfl rfl (OpR.load1 rfl (Cell.row .head rfl)) ?_
  refine JL.pure rfl rfl (OpP.move rfl) ?_
  refine JL.f1 ?_; refine JL.mem rfl rfl (OpM.appendH rfl (.inl ⟨_, Sl.und inferInstance⟩) (by rfl) rfl rfl (RdO.src (hr.conv fun _ h => Own.pick (pre := [_, _]) [] rfl h) (by first | assumption | exact fc_length _ _ | (simp; done) | (simp; omega))) (by first | exact bcells_one _ | exact scells_one _ | exact icells_one _ | assumption | exact fc_one fun _ => rfl) (by simp only [maxLen]; omega) (by omega)) ?_; rintro _ _ ⟨⟨a23, c23, rfl⟩, rfl⟩
  refine JL.pure rfl rfl (OpP.nilCheck rfl) ?_
  refine JL.pure rfl rfl (OpP.fieldAddr rfl) ?_
  refine JL.pure rfl rfl (OpP.fieldAddr rfl) ?_
  refine JL.mem0 rfl (by apply OpM.store1 rfl rfl rfl; (case' hu => exact (.tail .head)); (case' hs => exact spl_post (k := 0) rfl (.here .nil)); done) ?_; rintro _ _ ⟨rfl, rfl⟩
  refine JL.nil ?_
  refine J.block ?_
  rw [← bcells_app]
  have hll : (left ++ b).length = left.length + b.length := List.length_append
  rw [← hll]
  generalize left ++ b = ll at hll ⊢
  refine J.loopI (fun x : Nat × Value => ll.length / 64 - x.1) (fun x => x.1 ≤ ll.length / 64) (fun _ => [(0, .pointer (some ⟨g, 0, none⟩))])
    (fun x => own 5 1 x.2 (ll.length - 64 * x.1) (bcells (ll.drop (64 * x.1))) :: row g 137 (fc 8 (fun j => w32 (eatV K V ll x.1 j)) ++ [x.2, .int .u64 ((n : Int) + (b.length : Int))]) :: F) (0, .slice a23 ll.length c23) (Nat.zero_le _) (by repeat (first | exact SubEnv.nil | refine SubEnv.cons (by first | rfl | exact congrArg (fun z => some (Value.int .i64 z)) (by omega) | (simp; done)) ?_)) (fun _ h => h) (fun ⟨i, sv⟩ hi back => ?_)
  dsimp only at hi back ⊢
  have hdl : (ll.drop (64 * i)).length = ll.length - 64 * i := List.length_drop ..
  by_cases hlt : 64 ≤ ll.length - 64 * i
  · refine J.lit .head fun asv csv esv => ?_; subst esv
    refine J.seq ?_
    refine J.seq ?_
    refine J.region ?_
    refine JL.pure rfl rfl (OpP.move rfl) ?_
    refine JL.pure rfl rfl (OpP.nilCheck rfl) ?_
    refine JL.pure rfl rfl (OpP.fieldAddr rfl) ?_
    refine JL.pure rfl rfl (OpP.fieldAddr rfl) ?_
    refine JL.read rfl rfl (OpR.load1 rfl (Cell.row (.tail .head) rfl)) ?_
    refine JL.pure rfl rfl (OpP.len rfl rfl) ?_
    refine JL.decT rfl rfl (OpP.geq rfl rfl) (by omega) ?_
    refine JL.nil ?_
    refine J.condT rfl ?_
    refine J.skip ?_
    refine J.block ?_
    refine J.seq ?_
    refine J.regionD [7] (by kernel_rfl) ?_
    refine DL.pure (i := 0) (by kernel_rfl) (by kernel_rfl) rfl rfl rfl (OpP.move rfl) ?_
    refine DL.pure (i := 1) (by kernel_rfl) (by kernel_rfl) rfl rfl rfl (OpP.nilCheck rfl) ?_
    refine DL.pure (i := 2) (by kernel_rfl) (by kernel_rfl) rfl rfl rfl (OpP.fieldAddr rfl) ?_
    refine DL.pure (i := 3) (by kernel_rfl) (by kernel_rfl) rfl rfl rfl (OpP.move rfl) ?_
    refine DL.pure (i := 4) (by kernel_rfl) (by kernel_rfl) rfl rfl rfl (OpP.nilCheck rfl) ?_
    refine DL.pure (i := 5) (by kernel_rfl) (by kernel_rfl) rfl rfl rfl (OpP.fieldAddr rfl) ?_
    refine DL.pure (i := 6) (by kernel_rfl) (by kernel_rfl) rfl rfl rfl (OpP.fieldAddr rfl) ?_
    refine DL.read (i := 7) (by kernel_rfl) (by kernel_rfl) rfl rfl rfl (fun _ h => h) (OpR.load1 rfl (Cell.row (.tail .head) rfl)) ?_
    refine DL.ownSome .head (by omega) fun gasv pasv easv kasv => ?_; subst easv
    refine DL.pure (i := 8) (by kernel_rfl) (by kernel_rfl) rfl rfl rfl (OpP.sliceTo 64 rfl rfl rfl (by omega)) ?_
    refine DL.only (i := 9) (by kernel_rfl) ?_
    refine DL1.f1 ?_; refine DL1.stepF rfl rfl rfl (by kernel_rfl) (by exact OpW.call (first := []) (captured := []) inferInstance rfl rfl (MixO_ok (bs := ll.drop (64 * i)) (by first | assumption | omega | rfl | exact Nat.le_of_ble_eq_true rfl | (simp; omega)) (by first | assumption | omega | rfl | exact Nat.le_of_ble_eq_true rfl | (simp; omega)) (by first | assumption | omega | rfl | exact Nat.le_of_ble_eq_true rfl | (simp; omega)) (by first | assumption | omega | rfl | exact Nat.le_of_ble_eq_true rfl | (simp; omega)))) ?_; rintro r43 _ rfl
    refine DL.done (by kernel_rfl) ?_
    refine J.region ?_
    refine JL.pure rfl rfl (OpP.move rfl) ?_
    refine JL.pure rfl rfl (OpP.move rfl) ?_
    refine JL.pure rfl rfl (OpP.nilCheck rfl) ?_
    refine JL.pure rfl rfl (OpP.fieldAddr rfl) ?_
    refine JL.pure rfl rfl (OpP.fieldAddr rfl) ?_
    refine JL.read rfl rfl (OpR.load1 rfl (Cell.row .head rfl)) ?_
    refine JL.pure rfl rfl (OpP.sliceFrom 64 rfl rfl rfl (by omega) (by omega)) ?_
    refine JL.pure rfl rfl (OpP.nilCheck rfl) ?_
    refine JL.pure rfl rfl (OpP.fieldAddr rfl) ?_
    refine JL.pure rfl rfl (OpP.fieldAddr rfl) ?_
    refine JL.mem0 rfl (by apply OpM.store1 rfl rfl rfl; (case' hu => exact .head); (case' hs => exact spl_post (k := 0) rfl (.here .nil)); done) ?_; rintro _ _ ⟨rfl, rfl⟩
    refine JL.nil ?_
    refine J.inBlock ?_
    refine back (i + 1, .slice (some ⟨gasv, if csv = 64 then pasv else pasv + 64 * 1, none⟩) (ll.length - 64 * i - 64) (csv - 64)) (by dsimp only; omega) (by dsimp only; omega) (by repeat (first | exact SubEnv.nil | refine SubEnv.cons (by first | rfl | exact congrArg (fun z => some (Value.int .i64 z)) (by omega) | (simp; done)) ?_)) (fun _ h => ?_)
    have h2 := Own.fromK (k := 64) hlt (Own.f1 h)
    rw [bcells_drop, List.drop_drop] at h2
    dsimp only
    rw [show ll.length - 64 * (i + 1) = ll.length - 64 * i - 64 by omega, show 64 * (i + 1) = 64 * i + 64 * 1 by omega]
    exact h2
  · have hi2 : i = ll.length / 64 := by omega
    subst hi2
    refine J.lit .head fun asv csv esv => ?_; subst esv
    refine J.seq ?_
    refine J.seq ?_
    refine J.region ?_
    refine JL.pure rfl rfl (OpP.move rfl) ?_
    refine JL.pure rfl rfl (OpP.nilCheck rfl) ?_
    refine JL.pure rfl rfl (OpP.fieldAddr rfl) ?_
    refine JL.pure rfl rfl (OpP.fieldAddr rfl) ?_
    refine JL.read rfl rfl (OpR.load1 rfl (Cell.row (.tail .head) rfl)) ?_
    refine JL.pure rfl rfl (OpP.len rfl rfl) ?_
    refine JL.decF rfl rfl (OpP.geq rfl rfl) (by omega) ?_
    refine JL.nil ?_
    refine J.condF rfl ?_
    refine J.exit rfl ?_
    refine J.fin0 rfl ?_
    rw [Int.natCast_add, show ll.length - 64 * (ll.length / 64) = ll.length % 64 by omega]
    exact ⟨_, ⟨_, rfl⟩, fun _ h => Own.f1 h⟩
end Go.Proofs.F

-- seat f
namespace Go.Proofs.F
open Go Go.Gp Go.RowKit

theorem BeginZ_ok {w0 : World} {F : List HProp} {g t : Nat} {post : List Value} :
    FnO Tryd.prog w0 78 [.pointer (some ⟨g, 0, none⟩)] (row g t (List.replicate 8 (.int .u32 0) ++ post) :: F) (fun _ l' => l' = row g t (fc 8 (fun j => w32 (begins j)) ++ post) :: F) := by
  have h := Begin_ok (w0 := w0) (F := F) (g := g) (t := t) (V := fun _ => 0) (post := post)
  rwa [← fc_rep (f := fun _ => w32 0) (v := .int .u32 0) (fun _ _ => rfl)] at h
theorem New_ok {w0 : World} {F : List HProp} :
    FnO Tryd.prog w0 74 [] F (fun v l' => ∃ g, v = .pointer (some ⟨g, 0, none⟩) ∧ l' = row g 137 (fc 8 (fun j => w32 (begins j)) ++ [.slice none 0 0, .int .u64 0]) :: F) := by
  refine FnO.intro (n := 9) Tryd.func74 rfl rfl rfl ?_
  refine J.seq ?_
  refine J.region ?_
  refine JL.pure rfl rfl (OpP.assign rfl) ?_
  refine JL.nil ?_
  refine J.seq ?_
  refine J.region ?_
  refine JL.pure rfl rfl (OpP.build rfl (by (repeat (first | exact Fills.nil | (apply Fills.cons rfl rfl rfl; (case' hs => ((repeat (first | exact Spl.nil | apply Spl.here | apply Spl.there)); done))))))) ?_
  refine JL.mem rfl rfl (OpM.box rfl rfl) ?_; rintro _ _ ⟨b3, rfl, rfl⟩
  refine JL.pure rfl rfl (OpP.assign rfl) ?_
  refine JL.nil ?_
  refine J.seq ?_
  refine J.region ?_
  refine JL.pure rfl rfl (OpP.move rfl) ?_
  refine JL.pure rfl rfl (OpP.nilCheck rfl) ?_
  refine JL.pure rfl rfl (OpP.fieldAddr rfl) ?_
  refine JL.step rfl rfl (OpW.call (first := []) (captured := []) inferInstance rfl rfl BeginZ_ok) ?_; rintro r7 _ rfl
  refine JL.nil ?_
  refine J.seq ?_
  refine J.region ?_
  refine JL.pure rfl rfl (OpP.move rfl) ?_
  refine JL.pure rfl rfl (OpP.assign rfl) ?_
  refine JL.nil ?_
  refine J.ret1 rfl rfl ?_
  exact ⟨_, rfl, rfl⟩
/-- A stream behind some bytes. -/
def stC (K : Ws) (all : List UInt8) (s : Value) : List Value := fc 8 (fun j => w32 (stV K all j)) ++ [s, .int .u64 (all.length : Nat)]
theorem Take_ok {w0 : World} {F : List HProp} {g : Nat} {K : Ws} {all b : List UInt8} {s v : Value} (hK : Tab w0 0 64 fun j => w32 (K j)) (hn : all.length + b.length ≤ 1000000) (hr : RdO w0 F v b.length (bcells b)) :
    FnO Tryd.prog w0 79 [.pointer (some ⟨g, 0, none⟩), v] (row g 137 (stC K all s) :: own 5 1 s (stL all).length (bcells (stL all)) :: F)
      (fun _ l' => ∃ s', l' = row g 137 (stC K (all ++ b) s') :: own 5 1 s' (stL (all ++ b)).length (bcells (stL (all ++ b))) :: F) := by
  have h1 := stL_length all
  have h2 := stL_length (all ++ b)
  refine (Take0_ok (V := stV K all) (left := stL all) hK hn (by omega) hr).mono ?_
  rintro u l' ⟨s', rfl⟩
  refine ⟨s', ?_⟩
  have e : (stL all ++ b).length % 64 = (stL (all ++ b)).length := by
    rw [h2, List.length_append, List.length_append, h1]; omega
  have e2 : (all ++ b).length = all.length + b.length := List.length_append
  rw [stL_app, e, stC, e2]
  rw [show (fun j => w32 (eatV K (stV K all) (stL all ++ b) ((stL all ++ b).length / 64) j)) = fun j => w32 (stV K (all ++ b) j) by rw [stV_app]]
end Go.Proofs.F

-- seat f
namespace Go.Proofs.F
open Go Go.Gp Go.RowKit

theorem Clone_ok {w0 : World} {F : List HProp} {g : Nat} {K : Ws} {all : List UInt8} {s : Value} :
    FnO Tryd.prog w0 80 [.pointer (some ⟨g, 0, none⟩)] (row g 137 (stC K all s) :: own 5 1 s (stL all).length (bcells (stL all)) :: F)
      (fun v l' => ∃ g2 s2, v = .pointer (some ⟨g2, 0, none⟩) ∧ l' = row g2 137 (stC K all s2) :: own 5 1 s2 (stL all).length (bcells (stL all)) :: row g 137 (stC K all s) :: own 5 1 s (stL all).length (bcells (stL all)) :: F) := by
  refine FnO.rd (RdO.own (.tail .head)) fun hr1 => ?_
  obtain ⟨sa, sc, rfl⟩ := hr1.lit
  have h1 := stL_length all
  have h2 := bcells_len (stL all)
  unfold stC
  refine FnO.weak ?_
  refine FnO.intro (n := 16) Tryd.func80 rfl rfl rfl ?_
  refine J.seq ?_
  refine J.region ?_
  refine JL.pure rfl rfl (OpP.assign rfl) ?_
  refine JL.nil ?_
  refine J.seq ?_
  refine J.region ?_
  refine JL.pure rfl rfl (OpP.move rfl) ?_
  refine JL.pure rfl rfl (OpP.nilCheck rfl) ?_
  refine JL.read rfl rfl (OpR.loadN rfl (Cells.full .head) rfl) ?_
  refine JL.mem rfl rfl OpM.alloc ?_; rintro _ _ ⟨b3, rfl, rfl⟩
  refine JL.mem0 rfl (by apply OpM.storeN rfl rfl (by rfl) (oneC rfl (oneC rfl (oneC rfl (oneC rfl (oneC rfl (oneC rfl (oneC rfl (oneC rfl (oneC rfl (one1 rfl)))))))))); (case' hu => exact .head); (case' hs => exact (.here (.here (.here (.here (.here (.here (.here (.here (.here (.here .nil))))))))))); done) ?_; rintro _ _ ⟨rfl, rfl⟩
  refine JL.nil ?_
  refine J.seq ?_
  refine J.region ?_
  refine JL.mem rfl rfl (by apply OpM.buildSlice (by rfl) rfl (by rfl); (repeat (first | exact Fills.nil | (apply Fills.cons rfl rfl rfl; (case' hs => ((repeat (first | exact Spl.nil | apply Spl.here | apply Spl.there)); done)))))) ?_; rintro _ _ ⟨b7, rfl, rfl⟩
  refine JL.pure rfl rfl (OpP.move rfl) ?_
  refine JL.pure rfl rfl (OpP.nilCheck rfl) ?_
  refine JL.pure rfl rfl (OpP.fieldAddr rfl) ?_
  refine JL.pure rfl rfl (OpP.fieldAddr rfl) ?_
  refine JL.read rfl rfl (OpR.load1 rfl (Cell.row (.tail (.tail .head)) rfl)) ?_
  refine JL.ownRow (n := 0) (sz := 1) (by decide) rfl ?_
  refine JL.mem rfl rfl (OpM.appendH0 rfl rfl (.inl ⟨_, Sl.und inferInstance⟩) (by rfl) rfl rfl (RdO.src (RdO.own (.tail (.tail (.tail .head)))) (by first | assumption | exact fc_length _ _ | (simp; done) | (simp; omega))) (by first | exact bcells_one _ | exact scells_one _ | exact icells_one _ | assumption | exact fc_one fun _ => rfl) (by simp only [maxLen]; omega) (by omega)) ?_; rintro _ _ ⟨⟨a13, c13, rfl⟩, rfl⟩
  refine JL.pure rfl rfl (OpP.fieldAddr rfl) ?_
  refine JL.pure rfl rfl (OpP.fieldAddr rfl) ?_
  refine JL.mem0 rfl (by apply OpM.store1 rfl rfl rfl; (case' hu => exact (.tail .head)); (case' hs => exact (.there (.there (.there (.there (.there (.there (.there (.there (.here .nil)))))))))); done) ?_; rintro _ _ ⟨rfl, rfl⟩
  refine JL.nil ?_
  refine J.seq ?_
  refine J.region ?_
  refine JL.pure rfl rfl (OpP.assign rfl) ?_
  refine JL.nil ?_
  refine J.ret1 rfl rfl ?_
  exact ⟨_, ⟨b3, .slice a13 (stL all).length c13, rfl, rfl⟩, fun _ h => Own.f1 h⟩
end Go.Proofs.F

namespace Go.Proofs.F
open Go Go.Gp Go.RowKit

/-! What the fingerprint is: words of a block. -/
theorem shl8 (x : BitVec 32) (b : UInt8) {k : Nat} (hk : k < 32) : (x <<< 8 ||| b.toBitVec.setWidth 32).getLsbD k = if k < 8 then b.toBitVec.getLsbD k else x.getLsbD (k - 8) := by
  rw [BitVec.getLsbD_or, BitVec.getLsbD_shiftLeft, BitVec.getLsbD_setWidth]
  by_cases h : k < 8
  · simp [h, hk]
  · have : b.toBitVec.getLsbD k = false := BitVec.getLsbD_of_ge _ _ (by omega)
    simp [h, hk, this]
def part4 (bs : List UInt8) (j : Nat) : Nat → BitVec 32
  | 0 => 0
  | m + 1 => part4 bs j m <<< 8 ||| (bs.getD (4 * j + m) 0).toBitVec.setWidth 32
theorem loadW_part (bs : List UInt8) : ∀ n j, loadW bs n j = part4 bs j (min 4 (n - 4 * j))
  | 0, j => by rw [Nat.zero_sub]; rfl
  | n + 1, j => by
    show upd (loadW bs n) (n / 4) _ j = _
    unfold upd
    by_cases h : j = n / 4
    · subst h
      rw [if_pos rfl, loadW_part bs n, show min 4 (n - 4 * (n / 4)) = n % 4 by omega, show min 4 (n + 1 - 4 * (n / 4)) = n % 4 + 1 by omega]
      show _ = part4 bs (n / 4) (n % 4) <<< 8 ||| (bs.getD (4 * (n / 4) + n % 4) 0).toBitVec.setWidth 32
      rw [show 4 * (n / 4) + n % 4 = n by omega]
    · rw [if_neg h, loadW_part bs n, show min 4 (n + 1 - 4 * j) = min 4 (n - 4 * j) by omega]
theorem loadW_bit (bs : List UInt8) {j k : Nat} (hj : j < 16) (hk : k < 32) : (loadW bs 64 j).getLsbD k = (bs.getD (4 * j + 3 - k / 8) 0).toBitVec.getLsbD (k % 8) := by
  rw [loadW_part, show min 4 (64 - 4 * j) = 4 by omega]
  show ((((part4 bs j 0 <<< 8 ||| _) <<< 8 ||| _) <<< 8 ||| _) <<< 8 ||| _ : BitVec 32).getLsbD k = _
  rw [shl8 _ _ hk]
  by_cases h1 : k < 8
  · rw [if_pos h1, show 4 * j + 3 - k / 8 = 4 * j + 3 by omega, show k % 8 = k by omega]
  · rw [if_neg h1, shl8 _ _ (by omega)]
    by_cases h2 : k - 8 < 8
    · rw [if_pos h2, show 4 * j + 3 - k / 8 = 4 * j + 2 by omega, show k % 8 = k - 8 by omega]
    · rw [if_neg h2, shl8 _ _ (by omega)]
      by_cases h3 : k - 8 - 8 < 8
      · rw [if_pos h3, show 4 * j + 3 - k / 8 = 4 * j + 1 by omega, show k % 8 = k - 8 - 8 by omega]
      · rw [if_neg h3, shl8 _ _ (by omega), if_pos (by omega), show 4 * j + 3 - k / 8 = 4 * j + 0 by omega, show k % 8 = k - 8 - 8 - 8 by omega]

/-- The schedule behind some rounds. -/
def srun (S : Ws) : Nat → Ws
  | 0 => S
  | i + 1 => sched (srun S i) i
/-- The word of a round. -/
def Wd (S : Ws) (j : Nat) : BitVec 32 := srun S (j + 1) (j % 16)
theorem rnds_S (K : Ws) (r : Rnd) : ∀ i, (rnds K r i).S = srun r.S i
  | 0 => rfl
  | i + 1 => by
    show sched (rnds K r i).S i = sched (srun r.S i) i
    rw [rnds_S K r i]
theorem srun_lo (S : Ws) : ∀ i, i ≤ 16 → srun S i = S
  | 0, _ => rfl
  | i + 1, h => by
    show sched (srun S i) i = S
    rw [srun_lo S i (by omega), sched, if_neg (by omega)]
theorem sched_ne (S : Ws) {i k : Nat} (h : k ≠ i % 16) : sched S i k = S k := by
  unfold sched
  split
  · unfold upd; rw [if_neg h]
  · rfl
theorem srun_at (S : Ws) (p : Nat) : ∀ d, d < 16 → srun S (p + 1 + d) (p % 16) = Wd S p
  | 0, _ => rfl
  | d + 1, h => by
    show sched (srun S (p + 1 + d)) (p + 1 + d) (p % 16) = _
    rw [sched_ne _ (by omega), srun_at S p d (by omega)]
theorem srun_mod (S : Ws) {i p k : Nat} (h1 : p < i) (h2 : i ≤ p + 16) (hk : k = p % 16) : srun S i k = Wd S p := by
  subst hk
  have := srun_at S p (i - p - 1) (by omega)
  rwa [show p + 1 + (i - p - 1) = i by omega] at this
theorem Wd_lo (S : Ws) {j : Nat} (h : j < 16) : Wd S j = S j := by
  rw [Wd, srun_lo S _ (by omega), show j % 16 = j by omega]
theorem Wd_hi (S : Ws) {j : Nat} (h : 16 ≤ j) : Wd S j = Wd S (j - 16) + half2 (Wd S (j - 15)) 7 18 3 + Wd S (j - 7) + half2 (Wd S (j - 2)) 17 19 10 := by
  show sched (srun S j) j (j % 16) = _
  rw [sched, if_pos h]
  unfold upd
  rw [if_pos rfl, srun_mod S (p := j - 16) (by omega) (by omega) (by omega), srun_mod S (p := j - 15) (by omega) (by omega) (by omega), srun_mod S (p := j - 7) (by omega) (by omega) (by omega), srun_mod S (p := j - 2) (by omega) (by omega) (by omega)]
  simp only [BitVec.add_assoc]

/-- A round by the definition. -/
def refT (K W : Ws) (i : Nat) (U : Ws) : BitVec 32 := U 7 + turn3 (U 4) 6 11 25 + (U 6 ^^^ (U 4 &&& (U 5 ^^^ U 6))) + K i + W i
def refU (U : Ws) : BitVec 32 := turn3 (U 0) 2 13 22 + (U 0 &&& U 1 ||| U 2 &&& (U 0 ||| U 1))
def refR (K W : Ws) (i : Nat) (U : Ws) : Ws := fun j => if j = 0 then refT K W i U + refU U else if j = 4 then U 3 + refT K W i U else U (j - 1)
def refRs (K W : Ws) (U : Ws) : Nat → Ws
  | 0 => U
  | i + 1 => refR K W i (refRs K W U i)
theorem rnds_ref (K V S : Ws) : ∀ i, i ≤ 64 → ∀ j, j < 8 → refRs K (Wd S) V i j = (rnds K ⟨S, V⟩ i).V (((64 - i) % 8 + j) % 8)
  | 0, _, j, hj => by
    show V j = V _
    rw [show ((64 - 0) % 8 + j) % 8 = j by omega]
  | i + 1, hi, j, hj => by
    have ih := rnds_ref K V S i (by omega)
    have hS : (rnds K ⟨S, V⟩ i).S = srun S i := rnds_S K _ i
    show refR K (Wd S) i (refRs K (Wd S) V i) j = (rnd1 K i (rnds K ⟨S, V⟩ i)).V _
    generalize refRs K (Wd S) V i = U at ih ⊢
    generalize rnds K ⟨S, V⟩ i = r at ih hS ⊢
    have hk : (64 - i) % 8 < 8 := by omega
    have hk' : (64 - (i + 1)) % 8 = ((64 - i) % 8 + 7) % 8 := by omega
    rw [hk']
    have hr : rnd1 K i r = ⟨sched r.S i, upd (upd r.V (((64 - i) % 8 + 3) % 8) (r.V (((64 - i) % 8 + 3) % 8) + rndT K i ((64 - i) % 8) r)) (((64 - i) % 8 + 7) % 8) (rndT K i ((64 - i) % 8) r + rndU ((64 - i) % 8) r.V + rndM ((64 - i) % 8) r.V)⟩ := rfl
    rw [hr]
    generalize (64 - i) % 8 = k at ih hk ⊢
    have hT : rndT K i k r = refT K (Wd S) i U := by
      rw [rndT, refT, ih 7 (by omega), ih 4 (by omega), ih 5 (by omega), ih 6 (by omega), hS]
      rfl
    have hU : rndT K i k r + rndU k r.V + rndM k r.V = refT K (Wd S) i U + refU U := by
      rw [hT, refU, rndU, rndM, ih 0 (by omega), ih 1 (by omega), ih 2 (by omega), BitVec.add_assoc, show (k + 0) % 8 = k by omega]
    rw [hU, hT]
    show (if j = 0 then refT K (Wd S) i U + refU U else if j = 4 then U 3 + refT K (Wd S) i U else U (j - 1)) = (if ((k + 7) % 8 + j) % 8 = (k + 7) % 8 then refT K (Wd S) i U + refU U else if ((k + 7) % 8 + j) % 8 = (k + 3) % 8 then r.V ((k + 3) % 8) + refT K (Wd S) i U else r.V (((k + 7) % 8 + j) % 8))
    by_cases h0 : j = 0
    · have e1 : ((k + 7) % 8 + j) % 8 = (k + 7) % 8 := by omega
      rw [if_pos h0, if_pos e1]
    · have e1 : ¬ ((k + 7) % 8 + j) % 8 = (k + 7) % 8 := by omega
      rw [if_neg h0, if_neg e1]
      by_cases h4 : j = 4
      · have e2 : ((k + 7) % 8 + j) % 8 = (k + 3) % 8 := by omega
        rw [if_pos h4, if_pos e2, ih 3 (by omega)]
      · have e2 : ¬ ((k + 7) % 8 + j) % 8 = (k + 3) % 8 := by omega
        rw [if_neg h4, if_neg e2, ih (j - 1) (by omega), show (k + (j - 1)) % 8 = ((k + 7) % 8 + j) % 8 by omega]
theorem mix_ref (K V : Ws) (bs : List UInt8) {j : Nat} (hj : j < 8) : mixW K V bs j = V j + refRs K (Wd (loadW bs 64)) V 64 j := by
  rw [rnds_ref K V _ 64 (by omega) j hj, mixW, show ((64 - 64) % 8 + j) % 8 = j by omega]

/-! What is put behind a text. -/
def be8 (m : Nat) : List UInt8 := (List.range 8).map fun i => UInt8.ofNat (m / 256 ^ (7 - i))
def padP (n : Nat) : List UInt8 := 128 :: (List.replicate ((119 - n % 64) % 64) 0 ++ be8 (8 * n))
def bytesV (V : Ws) : List UInt8 := (List.range 32).map fun j => UInt8.ofBitVec ((V (j / 4) >>> (24 - 8 * (j % 4))).setWidth 8)
theorem bytesV_cells (V : Ws) : fc 32 (byteOf V) = bcells (bytesV V) := by
  rw [bcells, bytesV, List.map_map]; rfl
/-- The fingerprint. -/
def shaB (K : Ws) (text : List UInt8) : List UInt8 := bytesV (stV K (text ++ padP text.length))
theorem shaB_length (K : Ws) (text : List UInt8) : (shaB K text).length = 32 := by simp [shaB, bytesV]
theorem be8_length (m : Nat) : (be8 m).length = 8 := by simp [be8]
theorem padP_length (n : Nat) : (padP n).length = 9 + (119 - n % 64) % 64 := by simp [padP, be8_length]; omega
theorem pad_blocks (text : List UInt8) : (text ++ padP text.length).length = 64 * ((text.length + 72) / 64) := by
  rw [List.length_append, padP_length]; omega
end Go.Proofs.F

namespace Go.Proofs.F
open Go Go.Gp Go.RowKit

/-- What is put behind a text, some bytes of its size written. -/
def padT (text : List UInt8) (t : Nat) : List UInt8 := text ++ 128 :: (List.replicate ((119 - text.length % 64) % 64 + (8 - t)) 0 ++ (be8 (8 * text.length)).drop (8 - t))
theorem padT_length (text : List UInt8) {t : Nat} (ht : t ≤ 8) : (padT text t).length = 64 * ((text.length + 72) / 64) := by
  rw [padT, List.length_append, List.length_cons, List.length_append, List.length_replicate, List.length_drop, be8_length]; omega
theorem padT_zero (text : List UInt8) : padT text 0 = (text ++ List.replicate (64 * ((text.length + 72) / 64) - text.length) 0).set text.length 128 := by
  rw [List.set_append_right _ _ (Nat.le_refl _), Nat.sub_self, padT]
  congr 1
  have e : 64 * ((text.length + 72) / 64) - text.length = ((119 - text.length % 64) % 64 + 8) + 1 := by omega
  rw [e, List.drop_of_length_le (by rw [be8_length]; omega), List.append_nil]
  rfl
theorem be8_at {m i : Nat} (h : i < 8) : (be8 m)[i]? = some (UInt8.ofNat (m / 256 ^ (7 - i))) := by
  simp [be8, h]
theorem padT_succ (text : List UInt8) {t : Nat} (ht : t < 8) : (padT text t).set (64 * ((text.length + 72) / 64) - 1 - t) (UInt8.ofNat (8 * text.length / 256 ^ t)) = padT text (t + 1) := by
  have hz := Nat.mod_lt (119 - text.length % 64) (show 0 < 64 by decide)
  have e1 : 64 * ((text.length + 72) / 64) - 1 - t = text.length + (1 + ((119 - text.length % 64) % 64 + (7 - t))) := by omega
  rw [e1]
  unfold padT
  rw [List.set_append_right _ _ (by omega), Nat.add_sub_cancel_left, Nat.add_comm 1, List.set_cons_succ]
  congr 2
  have e2 : (119 - text.length % 64) % 64 + (8 - t) = (119 - text.length % 64) % 64 + (7 - t) + 1 := by omega
  rw [e2, List.replicate_succ', List.append_assoc, List.set_append_right _ _ (by rw [List.length_replicate]; omega), List.length_replicate, Nat.sub_self]
  rw [show 8 - (t + 1) = 7 - t by omega]
  congr 1
  show (0 :: (be8 (8 * text.length)).drop (8 - t)).set 0 _ = _
  rw [List.set_cons_zero, List.drop_eq_getElem_cons (i := 7 - t) (by rw [be8_length]; omega), show 7 - t + 1 = 8 - t by omega]
  congr 1
  have h := be8_at (m := 8 * text.length) (i := 7 - t) (by omega)
  rw [List.getElem?_eq_getElem (by rw [be8_length]; omega)] at h
  injection h with h
  rw [h, show 7 - (7 - t) = t by omega]
theorem padT_end (text : List UInt8) {t : Nat} (ht : t ≤ 8) (h0 : 8 * text.length / 256 ^ t = 0) : padT text t = text ++ padP text.length := by
  unfold padT padP
  congr 2
  have e : be8 (8 * text.length) = List.replicate (8 - t) 0 ++ (be8 (8 * text.length)).drop (8 - t) := by
    conv => lhs; rw [← List.take_append_drop (8 - t) (be8 (8 * text.length))]
    congr 1
    apply List.ext_getElem?
    intro i
    rw [List.getElem?_take, List.getElem?_replicate]
    by_cases hi : i < 8 - t
    · rw [if_pos hi, if_pos hi, be8_at (by omega)]
      have : 8 * text.length / 256 ^ (7 - i) = 0 := by
        have h1 : 8 * text.length < 256 ^ t := by
          rcases Nat.lt_or_ge (8 * text.length) (256 ^ t) with h | h
          · exact h
          · have := Nat.div_pos h (Nat.pow_pos (by decide)); omega
        exact Nat.div_eq_of_lt (Nat.lt_of_lt_of_le h1 (Nat.pow_le_pow_right (by decide) (by omega)))
      rw [this]
      rfl
    · rw [if_neg hi, if_neg hi]
  conv => rhs; rw [e]
  rw [← List.append_assoc, List.replicate_append_replicate]

/-! A byte's upper truths. -/
def topB (x : UInt8) (m : Nat) : UInt8 := x &&& UInt8.ofNat (65280 / 2 ^ m)
theorem topB_fin : ∀ (x : Fin 256) (m : Fin 8), topB (UInt8.ofNat x.val) (m.val + 1) = if x.val.testBit (7 - m.val) then topB (UInt8.ofNat x.val) m.val ||| UInt8.ofNat (128 / 2 ^ m.val) else topB (UInt8.ofNat x.val) m.val := by decide +kernel
theorem topB_succ (x : UInt8) {m : Nat} (hm : m < 8) : topB x (m + 1) = if x.toNat.testBit (7 - m) then topB x m ||| UInt8.ofNat (128 / 2 ^ m) else topB x m := by
  have h := topB_fin ⟨x.toNat, x.toNat_lt⟩ ⟨m, hm⟩
  simpa using h
theorem topB_all (x : UInt8) : topB x 8 = x := by
  have h : ∀ x : Fin 256, topB (UInt8.ofNat x.val) 8 = UInt8.ofNat x.val := by decide +kernel
  simpa using h ⟨x.toNat, x.toNat_lt⟩
theorem topB_none (x : UInt8) : topB x 0 = 0 := by
  have h : ∀ x : Fin 256, topB (UInt8.ofNat x.val) 0 = 0 := by decide +kernel
  simpa using h ⟨x.toNat, x.toNat_lt⟩
def outB (V : Ws) (q : Nat) : UInt8 := UInt8.ofBitVec ((V (q / 4) >>> (24 - 8 * (q % 4))).setWidth 8)
theorem outB_bit (V : Ws) {i : Nat} : (outB V (i / 8)).toNat.testBit (7 - i % 8) = (V (i / 32)).getLsbD (31 - i % 32) := by
  show ((V (i / 8 / 4) >>> (24 - 8 * (i / 8 % 4))).setWidth 8).getLsbD (7 - i % 8) = _
  rw [BitVec.getLsbD_setWidth, BitVec.getLsbD_ushiftRight, show i / 8 / 4 = i / 32 by omega, show 24 - 8 * (i / 8 % 4) + (7 - i % 8) = 31 - i % 32 by omega]
  simp
  omega
def outP (V : Ws) (i q : Nat) : UInt8 := topB (outB V q) (min 8 (i - 8 * q))
theorem outP_ne (V : Ws) {i q : Nat} (h : q ≠ i / 8) : outP V (i + 1) q = outP V i q := by
  rw [outP, outP, show min 8 (i + 1 - 8 * q) = min 8 (i - 8 * q) by omega]
theorem outP_at (V : Ws) (i : Nat) : outP V (i + 1) (i / 8) = if (V (i / 32)).getLsbD (31 - i % 32) then outP V i (i / 8) ||| UInt8.ofNat (128 / 2 ^ (i % 8)) else outP V i (i / 8) := by
  rw [outP, outP, show min 8 (i + 1 - 8 * (i / 8)) = i % 8 + 1 by omega, show min 8 (i - 8 * (i / 8)) = i % 8 by omega, topB_succ _ (by omega), outB_bit]
theorem outP_end (V : Ws) {q : Nat} (hq : q < 32) : u8c (outP V 256 q) = byteOf V q := by
  rw [outP, show min 8 (256 - 8 * q) = 8 by omega, topB_all]; rfl
end Go.Proofs.F

-- seat f
namespace Go.Proofs.F
open Go Go.Gp Go.RowKit

theorem Write_ok {w0 : World} {F : List HProp} {g : Nat} {K : Ws} {all : List UInt8} {z v : Value} {ps : List (Value × List UInt8)} (hK : Tab w0 0 64 fun j => w32 (K j)) (hn : all.length + (cat ps).length ≤ 1000000) (hpl : ps.length ≤ 9223372036854775807) (hp : Parts w0 F v ps) :
    FnO Tryd.prog w0 75 [.pointer (some ⟨g, 0, none⟩), v] (row g 137 (stC K all z) :: own 5 1 z (stL all).length (bcells (stL all)) :: F)
      (fun _ l' => ∃ s', l' = row g 137 (stC K (all ++ cat ps) s') :: own 5 1 s' (stL (all ++ cat ps)).length (bcells (stL (all ++ cat ps))) :: F) := by
  refine FnO.rdF (fun _ h => h.tail.tail) hp.rd fun hr0 => ?_
  obtain ⟨va, vc, rfl⟩ := hr0.lit
  refine FnO.weak ?_
  refine FnO.intro (n := 16) Tryd.func75 rfl rfl rfl ?_
  refine J.lit (.tail .head) fun az cz ez => ?_; subst ez
  refine J.seq ?_
  refine J.region ?_
  refine JL.pure rfl rfl (OpP.move rfl) ?_
  refine JL.pure rfl rfl (OpP.len rfl rfl) ?_
  refine JL.pure rfl rfl (OpP.move rfl) ?_
  refine JL.nil ?_
  refine J.block ?_
  refine J.loopI (fun x : Nat × Value => ps.length - x.1) (fun x => x.1 ≤ ps.length) (fun x => [(8, .int .i64 (x.1 : Nat)), (7, .int .i64 (ps.length : Nat)), (6, .slice va ps.length vc), (0, .pointer (some ⟨g, 0, none⟩))])
    (fun x => row g 137 (stC K (all ++ cat (ps.take x.1)) x.2) :: own 5 1 x.2 (stL (all ++ cat (ps.take x.1))).length (bcells (stL (all ++ cat (ps.take x.1)))) :: F) (0, .slice az (stL all).length cz) (Nat.zero_le _) (by repeat (first | exact SubEnv.nil | refine SubEnv.cons (by first | rfl | exact congrArg (fun z => some (Value.int .i64 z)) (by omega) | (simp; done)) ?_)) (fun _ h => by rw [List.take_zero, show all ++ cat [] = all from List.append_nil _]; exact h) (fun ⟨i, sv⟩ hi back => ?_)
  dsimp only at hi back ⊢
  by_cases hlt : i < ps.length
  · obtain ⟨pa, pc, p, hpi, hpv, hpr⟩ := hp.at hlt
    have hct := cat_take hpi
    have hcl := cat_take_le ps (i + 1)
    rw [hct, List.length_append] at hcl
    have hn1 : (all ++ cat (ps.take i)).length + p.length ≤ 1000000 := by rw [List.length_append]; omega
    refine J.lit (.tail .head) fun asv csv esv => ?_; subst esv
    refine J.seq ?_
    refine J.region ?_
    refine JL.decT rfl rfl (OpP.lss rfl rfl) (by omega) ?_
    refine JL.nil ?_
    refine J.seq ?_
    refine J.condT rfl ?_
    refine J.skip ?_
    refine J.seq ?_
    refine J.block ?_
    refine J.seq ?_
    refine J.region ?_
    obtain ⟨gva, pva, qva, eva, kva, cva⟩ := hr0.pos (by omega); cases eva
    refine JL.pure rfl rfl (OpP.indexAddr rfl rfl (by omega) (by omega)) ?_
    refine JL.read rfl rfl (OpR.load1 rfl (by apply Cells.cell cva (fun _ h => Own.pick (pre := [_, _]) [] rfl h); (case' hv => assumption); (case' ho => omega); done)) ?_
    refine JL.pure rfl rfl (OpP.assign rfl) ?_
    refine JL.nil ?_
    refine J.region ?_
    refine JL.pure rfl rfl (OpP.move rfl) ?_
    refine JL.pure rfl rfl (OpP.move rfl) ?_
    refine JL.step rfl rfl (OpW.call (first := []) (captured := []) inferInstance rfl rfl (Take_ok (b := p) hK hn1 hpr)) ?_; rintro r14 _ ⟨s', rfl⟩
    refine JL.lit (.tail .head) fun as' cs' es' => ?_; subst es'
    refine JL.nil ?_
    refine J.inBlock ?_
    refine J.region ?_
    refine JL.pure rfl rfl (OpP.addI rfl rfl (by omega) (by omega)) ?_
    refine JL.pure rfl rfl (OpP.move rfl) ?_
    refine JL.nil ?_
    refine back (i + 1, .slice as' (stL (all ++ cat (ps.take i) ++ p)).length cs') (by dsimp only; omega) (by dsimp only; omega) (by repeat (first | exact SubEnv.nil | refine SubEnv.cons (by first | rfl | exact congrArg (fun z => some (Value.int .i64 z)) (by omega) | (simp; done)) ?_)) (fun _ h => ?_)
    dsimp only
    rw [hct, ← List.append_assoc]
    exact h
  · have : i = ps.length := by omega
    subst this
    rw [List.take_length]
    refine J.lit (.tail .head) fun asv csv esv => ?_; subst esv
    refine J.seq ?_
    refine J.region ?_
    refine JL.decF rfl rfl (OpP.lss rfl rfl) (by omega) ?_
    refine JL.nil ?_
    refine J.seq ?_
    refine J.condF rfl ?_
    refine J.exit rfl ?_
    refine J.fin0 rfl ?_
    exact ⟨_, ⟨_, rfl⟩, fun _ h => h⟩
theorem sizeByte {n j : Nat} (hj : j < 8) : Value.int .u8 (IntKind.u8.wrap ((8 * n / 2 ^ ((56 : Int) - 8 * (j : Int)).toNat : Nat) : Int)) = u8c (UInt8.ofNat (8 * n / 256 ^ (7 - j))) := by
  have h : 2 ^ ((56 : Int) - 8 * (j : Int)).toNat = 256 ^ (7 - j) := by
    rw [show ((56 : Int) - 8 * (j : Int)).toNat = 8 * (7 - j) by omega, Nat.pow_mul]
  rw [h, wrap_u8, u8c, UInt8.toNat_ofNat']
  rfl
theorem be8_take (m : Nat) {j : Nat} (hj : j < 8) : (be8 m).take (j + 1) = (be8 m).take j ++ [UInt8.ofNat (m / 256 ^ (7 - j))] := by
  rw [List.take_add_one, be8_at hj]; rfl
theorem Sum_ok {w0 : World} {F : List HProp} {g : Nat} {K : Ws} {all : List UInt8} {z : Value} (hK : Tab w0 0 64 fun j => w32 (K j)) (hn : all.length ≤ 900000) :
    FnO Tryd.prog w0 76 [.pointer (some ⟨g, 0, none⟩)] (row g 137 (stC K all z) :: own 5 1 z (stL all).length (bcells (stL all)) :: F)
      (fun v l' => v = .agg (bcells (shaB K all)).toArray ∧ l' = row g 137 (stC K all z) :: own 5 1 z (stL all).length (bcells (stL all)) :: F) := by
  have hl := stL_length all
  refine FnO.weak ?_
  refine FnO.intro (n := 48) Tryd.func76 rfl rfl rfl ?_
  refine J.lit (.tail .head) fun az cz ez => ?_; subst ez
  refine J.seq ?_
  refine J.region ?_
  refine JL.mem rfl rfl OpM.alloc ?_; rintro _ _ ⟨b2, rfl, rfl⟩
  refine JL.nil ?_
  refine J.seq ?_
  refine J.region ?_
  refine JL.pure rfl rfl (OpP.move rfl) ?_
  refine JL.f2 ?_; refine JL.f2 ?_; refine JL.step rfl rfl (OpW.call (first := []) (captured := []) inferInstance rfl rfl Clone_ok) ?_; rintro r8 _ ⟨g2, ⟨s2, ⟨rfl, rfl⟩⟩⟩
  refine JL.lit (.tail .head) fun as2 cs2 es2 => ?_; subst es2
  refine JL.pure rfl rfl (OpP.assign rfl) ?_
  refine JL.nil ?_
  refine J.seq ?_
  refine J.region ?_
  refine JL.mem rfl rfl (by apply OpM.buildSlice (by rfl) rfl (by rfl); (repeat (first | exact Fills.nil | (apply Fills.cons rfl rfl rfl; (case' hs => ((repeat (first | exact Spl.nil | apply Spl.here | apply Spl.there)); done)))))) ?_; rintro _ _ ⟨b9, rfl, rfl⟩
  refine JL.pure rfl rfl (OpP.assign rfl) ?_
  refine JL.nil ?_
  refine J.seq ?_
  refine J.block ?_
  refine J.ownRow (n := 1) (sz := 1) (by decide) rfl ?_
  unfold stC
  refine J.loopI (fun x : Nat × Value => 64 - x.1) (fun x => x.1 ≤ (119 - all.length % 64) % 64) (fun x => [(4, x.2), (3, .pointer (some ⟨g2, 0, none⟩)), (2, .pointer (some ⟨b2, 0, none⟩)), (0, .pointer (some ⟨g, 0, none⟩))])
    (fun x => own 5 1 x.2 (1 + x.1) (bcells (128 :: List.replicate x.1 0)) :: row g2 137 (fc 8 (fun j => w32 (stV K all j)) ++ [.slice as2 (stL all).length cs2, .int .u64 (all.length : Nat)]) :: own 5 1 (.slice as2 (stL all).length cs2) (stL all).length (bcells (stL all)) :: row g 137 (fc 8 (fun j => w32 (stV K all j)) ++ [.slice az (stL all).length cz, .int .u64 (all.length : Nat)]) :: own 5 1 (.slice az (stL all).length cz) (stL all).length (bcells (stL all)) :: row b2 36 (List.replicate 32 (.int .u8 0)) :: F) (0, .slice (some ⟨b9, 0, none⟩) 1 1) (Nat.zero_le _) (by repeat (first | exact SubEnv.nil | refine SubEnv.cons (by first | rfl | exact congrArg (fun z => some (Value.int .i64 z)) (by omega) | (simp; done)) ?_)) (fun _ h => by rw [show bcells (128 :: List.replicate 0 0) = [Value.int .u8 128] from rfl]; exact h) (fun ⟨k, ev⟩ hk back => ?_)
  dsimp only at hk back ⊢
  by_cases hlt : k < (119 - all.length % 64) % 64
  · refine J.lit .head fun aev cev eev => ?_; subst eev
    refine J.seq ?_
    refine J.seq ?_
    refine J.region ?_
    refine JL.pure rfl rfl (OpP.move rfl) ?_
    refine JL.pure rfl rfl (OpP.nilCheck rfl) ?_
    refine JL.pure rfl rfl (OpP.fieldAddr rfl) ?_
    refine JL.pure rfl rfl (OpP.fieldAddr rfl) ?_
    refine JL.read rfl rfl (OpR.load1 rfl (Cell.row (.tail .head) rfl)) ?_
    refine JL.pure rfl rfl (OpP.len rfl rfl) ?_
    refine JL.pure rfl rfl (OpP.move rfl) ?_
    refine JL.pure rfl rfl (OpP.len rfl rfl) ?_
    refine JL.pure rfl rfl (OpP.addI rfl rfl (by omega) (by omega)) ?_
    refine JL.pure rfl rfl (OpP.remI rfl rfl (by first | omega | exact Int.natCast_nonneg _) (by omega)) ?_
    refine JL.decT rfl rfl (OpP.neq rfl rfl) (by omega) ?_
    refine JL.nil ?_
    refine J.condT rfl ?_
    refine J.skip ?_
    refine J.block ?_
    refine J.region ?_
    refine JL.pure rfl rfl (OpP.move rfl) ?_
    refine JL.mem rfl rfl (by apply OpM.buildSlice (by rfl) rfl (by rfl); (repeat (first | exact Fills.nil | (apply Fills.cons rfl rfl rfl; (case' hs => ((repeat (first | exact Spl.nil | apply Spl.here | apply Spl.there)); done)))))) ?_; rintro _ _ ⟨b22, rfl, rfl⟩
    refine JL.f1 ?_; refine JL.mem rfl rfl (OpM.appendH rfl (.inl ⟨_, Sl.und inferInstance⟩) (by rfl) rfl rfl (RdO.src (RdO.ofRow (.tail .head) (by first | exact Nat.le_refl _ | decide | omega)) (by first | assumption | exact fc_length _ _ | (simp; done) | (simp; omega))) (one1 rfl) (by simp only [maxLen]; omega) (by omega)) ?_; rintro _ _ ⟨⟨a23, c23, rfl⟩, rfl⟩
    refine JL.pure rfl rfl (OpP.assign rfl) ?_
    refine JL.nil ?_
    refine J.inBlock ?_
    refine back (k + 1, .slice a23 (1 + k + 1) c23) (by dsimp only; omega) (by dsimp only; omega) (by repeat (first | exact SubEnv.nil | refine SubEnv.cons (by first | rfl | exact congrArg (fun z => some (Value.int .i64 z)) (by omega) | (simp; done)) ?_)) (fun _ h => ?_)
    dsimp only
    rw [List.replicate_succ', ← List.cons_append, bcells_app, show bcells [0] = [Value.int .u8 0] from rfl]
    exact Own.pick (pre := [_, _]) [0] rfl h
  · have hke : k = (119 - all.length % 64) % 64 := by omega
    clear back
    refine J.lit .head fun aev cev eev => ?_; subst eev
    refine J.seq ?_
    refine J.seq ?_
    refine J.region ?_
    refine JL.pure rfl rfl (OpP.move rfl) ?_
    refine JL.pure rfl rfl (OpP.nilCheck rfl) ?_
    refine JL.pure rfl rfl (OpP.fieldAddr rfl) ?_
    refine JL.pure rfl rfl (OpP.fieldAddr rfl) ?_
    refine JL.read rfl rfl (OpR.load1 rfl (Cell.row (.tail .head) rfl)) ?_
    refine JL.pure rfl rfl (OpP.len rfl rfl) ?_
    refine JL.pure rfl rfl (OpP.move rfl) ?_
    refine JL.pure rfl rfl (OpP.len rfl rfl) ?_
    refine JL.pure rfl rfl (OpP.addI rfl rfl (by omega) (by omega)) ?_
    refine JL.pure rfl rfl (OpP.remI rfl rfl (by first | omega | exact Int.natCast_nonneg _) (by omega)) ?_
    refine JL.decF rfl rfl (OpP.neq rfl rfl) (by omega) ?_
    refine JL.nil ?_
    refine J.condF rfl ?_
    refine J.exit rfl ?_
    refine J.seq ?_
    refine J.region ?_
    refine JL.pure rfl rfl (OpP.move rfl) ?_
    refine JL.pure rfl rfl (OpP.nilCheck rfl) ?_
    refine JL.pure rfl rfl (OpP.fieldAddr rfl) ?_
    refine JL.pure rfl rfl (OpP.fieldAddr rfl) ?_
    refine JL.read rfl rfl (OpR.load1 rfl (Cell.row (.tail (.tail (.tail .head))) rfl)) ?_
    refine JL.pure rfl rfl (OpP.mulK rfl rfl (by simp [IntKind.min, IntKind.max, IntKind.signed, IntKind.bits] <;> omega) (by simp [IntKind.min, IntKind.max, IntKind.signed, IntKind.bits] <;> omega)) ?_
    refine JL.pure rfl rfl (OpP.assign rfl) ?_
    refine JL.nil ?_
    refine J.seq ?_
    refine J.seq ?_
    refine J.region ?_
    refine JL.pure rfl rfl (OpP.assign rfl) ?_
    refine JL.nil ?_
    refine J.block ?_
    have hpad : padP all.length = (128 :: List.replicate k 0) ++ be8 (8 * all.length) := by rw [padP, ← hke]; rfl
    have hsha : shaB K all = bytesV (stV K (all ++ ((128 :: List.replicate k 0) ++ be8 (8 * all.length)))) := by rw [shaB, hpad]
    rw [hsha]
    have hkl : (128 :: List.replicate k (0 : UInt8)).length = 1 + k := by rw [List.length_cons, List.length_replicate, Nat.add_comm]
    have hk64 : k < 64 := by omega
    generalize 128 :: List.replicate k (0 : UInt8) = pre at hkl ⊢
    refine J.loopI (fun x : Nat × Value => 8 - x.1) (fun x => x.1 ≤ 8) (fun x => [(6, .int .i64 (56 - 8 * (x.1 : Nat))), (5, .int .u64 (8 * (all.length : Nat))), (4, x.2), (3, .pointer (some ⟨g2, 0, none⟩)), (2, .pointer (some ⟨b2, 0, none⟩))])
      (fun x => own 5 1 x.2 (1 + k + x.1) (bcells (pre ++ (be8 (8 * all.length)).take x.1)) :: row g2 137 (fc 8 (fun j => w32 (stV K all j)) ++ [.slice as2 (stL all).length cs2, .int .u64 (all.length : Nat)]) :: own 5 1 (.slice as2 (stL all).length cs2) (stL all).length (bcells (stL all)) :: row g 137 (fc 8 (fun j => w32 (stV K all j)) ++ [.slice az (stL all).length cz, .int .u64 (all.length : Nat)]) :: own 5 1 (.slice az (stL all).length cz) (stL all).length (bcells (stL all)) :: row b2 36 (List.replicate 32 (.int .u8 0)) :: F) (0, .slice aev (1 + k) cev) (Nat.zero_le _) (by repeat (first | exact SubEnv.nil | refine SubEnv.cons (by first | rfl | exact congrArg (fun z => some (Value.int .i64 z)) (by omega) | (simp; done)) ?_)) (fun _ h => by rw [List.take_zero, List.append_nil]; exact h) (fun ⟨j, ev⟩ hj back => ?_)
    dsimp only at hj back ⊢
    by_cases hlt : j < 8
    · have hb := sizeByte (n := all.length) hlt
      have hbt := be8_take (8 * all.length) hlt
      refine J.lit .head fun aev cev eev => ?_; subst eev
      refine J.seq ?_
      refine J.seq ?_
      refine J.region ?_
      refine JL.pure rfl rfl (OpP.move rfl) ?_
      refine JL.decT rfl rfl (OpP.geq rfl rfl) (by omega) ?_
      refine JL.nil ?_
      refine J.condT rfl ?_
      refine J.skip ?_
      refine J.seq ?_
      refine J.block ?_
      refine J.region ?_
      refine JL.pure rfl rfl (OpP.move rfl) ?_
      refine JL.pure rfl rfl (OpP.move rfl) ?_
      refine JL.pure rfl rfl (OpP.move rfl) ?_
      refine JL.pure rfl rfl (OpP.shrN rfl rfl (by omega) (by first | decide | (simp only [IntKind.bits]; omega))) ?_
      refine JL.pure rfl rfl (OpP.conv rfl) ?_
      refine JL.mem rfl rfl (by apply OpM.buildSlice (by rfl) rfl (by rfl); (repeat (first | exact Fills.nil | (apply Fills.cons rfl rfl rfl; (case' hs => ((repeat (first | exact Spl.nil | apply Spl.here | apply Spl.there)); done)))))) ?_; rintro _ _ ⟨b39, rfl, rfl⟩
      refine JL.f1 ?_; refine JL.mem rfl rfl (OpM.appendH rfl (.inl ⟨_, Sl.und inferInstance⟩) (by rfl) rfl rfl (RdO.src (RdO.ofRow (.tail .head) (by first | exact Nat.le_refl _ | decide | omega)) (by first | assumption | exact fc_length _ _ | (simp; done) | (simp; omega))) (one1 rfl) (by simp only [maxLen]; omega) (by omega)) ?_; rintro _ _ ⟨⟨a40, c40, rfl⟩, rfl⟩
      refine JL.pure rfl rfl (OpP.assign rfl) ?_
      refine JL.nil ?_
      refine J.inBlock ?_
      refine J.region ?_
      refine JL.pure rfl rfl (OpP.move rfl) ?_
      refine JL.pure rfl rfl (OpP.subI rfl rfl (by omega) (by omega)) ?_
      refine JL.pure rfl rfl (OpP.assign rfl) ?_
      refine JL.nil ?_
      refine back (j + 1, .slice a40 (1 + k + j + 1) c40) (by dsimp only; omega) (by dsimp only; omega) (by repeat (first | exact SubEnv.nil | refine SubEnv.cons (by first | rfl | exact congrArg (fun z => some (Value.int .i64 z)) (by omega) | (simp; done)) ?_)) (fun _ h => ?_)
      dsimp only
      rw [hb] at h
      rw [hbt, ← List.append_assoc, bcells_app]
      exact Own.pick (pre := [_, _]) [0] rfl h
    · have : j = 8 := by omega
      subst this
      rw [List.take_of_length_le (Nat.le_of_eq (be8_length _))]
      have hlen : (pre ++ be8 (8 * all.length)).length = 1 + k + 8 := by rw [List.length_append, hkl, be8_length]
      have hn2 : all.length + (pre ++ be8 (8 * all.length)).length ≤ 1000000 := by omega
      clear back
      generalize pre ++ be8 (8 * all.length) = e at hlen hn2 ⊢
      rw [← hlen]
      refine J.lit .head fun aev cev eev => ?_; subst eev
      refine J.seq ?_
      refine J.seq ?_
      refine J.region ?_
      refine JL.pure rfl rfl (OpP.move rfl) ?_
      refine JL.decF rfl rfl (OpP.geq rfl rfl) (by omega) ?_
      refine JL.nil ?_
      refine J.condF rfl ?_
      refine J.exit rfl ?_
      refine J.seq ?_
      refine J.region ?_
      refine JL.pure rfl rfl (OpP.move rfl) ?_
      refine JL.pure rfl rfl (OpP.move rfl) ?_
      refine JL.f2 ?_; refine JL.f2 ?_; refine JL.step rfl rfl (OpW.call (first := []) (captured := []) inferInstance rfl rfl (Take_ok (b := e) hK hn2 (RdO.own .head))) ?_; rintro r43 _ ⟨s', rfl⟩
      refine JL.lit (.tail .head) fun as' cs' es' => ?_; subst es'
      refine JL.nil ?_
      refine J.seq ?_
      refine J.region ?_
      refine JL.pure rfl rfl (OpP.move rfl) ?_
      refine JL.pure rfl rfl (OpP.nilCheck rfl) ?_
      refine JL.pure rfl rfl (OpP.fieldAddr rfl) ?_
      refine JL.step rfl rfl (OpW.call (first := []) (captured := []) inferInstance rfl rfl Told_ok) ?_; rintro r47 _ ⟨rfl, rfl⟩
      refine JL.mem0 rfl (by apply OpM.storeN rfl rfl (fc_length _ _) (fc_one fun _ => rfl); (case' hu => exact (.tail (.tail (.tail (.tail (.tail .head)))))); (case' hs => exact spl_all (by rfl)); done) ?_; rintro _ _ ⟨rfl, rfl⟩
      refine JL.nil ?_
      refine J.retC rfl rfl (by apply Cells.full; (with_reducible repeat (first | exact .head | apply Has.tail))) (by first | (rw [List.length_append, hdC_len (by first | assumption | exact shaB_length _ _ | solve_by_elim)]; rfl) | exact hdC_len (by first | assumption | exact shaB_length _ _ | solve_by_elim) | (rw [bcells_length]; first | assumption | exact shaB_length _ _ | solve_by_elim) | exact fc_length _ _ | exact fB_length _ _ | rfl) ?_
      exact ⟨_, ⟨by rw [bytesV_cells], rfl⟩, fun _ h => Own.pick (pre := [_, _, _, _, _, _]) [3, 4] rfl h⟩
theorem New0_ok {w0 : World} {F : List HProp} {K : Ws} :
    FnO Tryd.prog w0 74 [] F (fun v l' => ∃ g, v = .pointer (some ⟨g, 0, none⟩) ∧ l' = row g 137 (stC K [] (.slice none 0 0)) :: own 5 1 (.slice none 0 0) (stL []).length (bcells (stL [])) :: F) := by
  refine FnO.weak (New_ok.mono ?_)
  rintro v l' ⟨g, rfl, rfl⟩
  exact ⟨_, ⟨g, rfl, rfl⟩, fun w h => Own.f1 (Own.own_nil (e := 5) (sz := 1) h)⟩
theorem Of_ok {w0 : World} {F : List HProp} {K : Ws} {v : Value} {ps : List (Value × List UInt8)} (hK : Tab w0 0 64 fun j => w32 (K j)) (hn : (cat ps).length ≤ 900000) (hpl : ps.length ≤ 9223372036854775807) (hp : Parts w0 F v ps) :
    FnO Tryd.prog w0 64 [v] F (fun r l' => r = .agg (bcells (shaB K (cat ps))).toArray ∧ l' = F) := by
  refine FnO.weak ?_
  refine FnO.intro (n := 10) Tryd.func64 rfl rfl rfl ?_
  have hn1 : ([] : List UInt8).length + (cat ps).length ≤ 1000000 := by rw [List.length_nil]; omega
  refine J.seq ?_
  refine J.region ?_
  refine JL.mem rfl rfl OpM.alloc ?_; rintro _ _ ⟨b2, rfl, rfl⟩
  refine JL.nil ?_
  refine J.seq ?_
  refine J.region ?_
  refine JL.step rfl rfl (OpW.call (first := []) (captured := []) inferInstance rfl rfl (New0_ok (K := K))) ?_; rintro r4 _ ⟨g, ⟨rfl, rfl⟩⟩
  refine JL.pure rfl rfl (OpP.assign rfl) ?_
  refine JL.nil ?_
  refine J.seq ?_
  refine J.region ?_
  refine JL.pure rfl rfl (OpP.move rfl) ?_
  refine JL.pure rfl rfl (OpP.move rfl) ?_
  refine JL.step rfl rfl (OpW.call (first := []) (captured := []) inferInstance rfl rfl (Write_ok hK hn1 hpl (hp.conv (fun _ h => Own.pick (pre := [_]) [] rfl h)))) ?_; rintro r7 _ ⟨s', rfl⟩
  refine JL.lit (.tail .head) fun as' cs' es' => ?_; subst es'
  refine JL.nil ?_
  refine J.seq ?_
  refine J.region ?_
  refine JL.pure rfl rfl (OpP.move rfl) ?_
  refine JL.step rfl rfl (OpW.call (first := []) (captured := []) inferInstance rfl rfl (Sum_ok hK (by first | assumption | omega | rfl | exact Nat.le_of_ble_eq_true rfl | (simp; omega)))) ?_; rintro r9 _ ⟨rfl, rfl⟩
  refine JL.mem0 rfl (by apply OpM.storeN rfl rfl (by rw [bcells_length]; first | assumption | exact shaB_length _ _ | solve_by_elim) (bcells_one _); (case' hu => exact (.tail (.tail .head))); (case' hs => exact spl_all (by first | (rw [bcells_length, List.length_replicate]; first | assumption | exact shaB_length _ _ | solve_by_elim) | (rw [bcells_length, bcells_length]; refine Eq.trans (b := 32) ?_ (Eq.symm ?_) <;> (first | assumption | exact shaB_length _ _ | solve_by_elim)) | (rw [bcells_length]; first | assumption | exact shaB_length _ _ | solve_by_elim))); done) ?_; rintro _ _ ⟨rfl, rfl⟩
  refine JL.nil ?_
  refine J.retC rfl rfl (by apply Cells.full; (with_reducible repeat (first | exact .head | apply Has.tail))) (by first | (rw [List.length_append, hdC_len (by first | assumption | exact shaB_length _ _ | solve_by_elim)]; rfl) | exact hdC_len (by first | assumption | exact shaB_length _ _ | solve_by_elim) | (rw [bcells_length]; first | assumption | exact shaB_length _ _ | solve_by_elim) | exact fc_length _ _ | exact fB_length _ _ | rfl) ?_
  exact ⟨_, ⟨rfl, rfl⟩, fun _ h => h.tail.tail.tail⟩
end Go.Proofs.F
