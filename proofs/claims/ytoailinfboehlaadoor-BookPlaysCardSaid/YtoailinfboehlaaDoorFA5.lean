/- A text of the proof of a statement about the given program: its part FA5. No person has read it. -/
import Derived.Test.YtoailinfboehlaaDoorFA4
import Derived.Test.YtoailinfboehlaaDoorFJ2
import Derived.Test.YtoailinfboehlaaDoorFA2
import Derived.Test.YtoailinfboehlaaDoorFJ1
-- seat f
namespace Go.Proofs.F
open Go Go.Gp Go.RowKit
open Disk hiding spl_all

def writes : Dk → Nat → List Sec → Dk
  | D, _, [] => D
  | D, n, s :: ss => if D.fuse = 0 then D else writes (D.wrote n s) (n + 1) ss
def flushed (D : Dk) : Dk := if D.fuse = 0 then D else { D with fl := D.now, ws := [] }
theorem Flush_u {w0 : World} {g : Nat} {D : Dk} {F : List HProp} :
    FnO Tryd.prog w0 43 [.pointer (some ⟨g, 0, none⟩)] (diskR g D :: F) (fun v l' => v = .int .i64 (if D.fuse = 0 then 5 else 0) ∧ l' = diskR g (flushed D) :: F) := Flush_ok
theorem Write_u {w0 : World} {g n i : Nat} {D : Dk} {F : List HProp} {bv : Value} {bs : List UInt8} (hl : bs.length = 64) (hi : n + i < D.now.length) (hm : D.ws.length + 1 ≤ 1000) (hr : RdO w0 F bv 64 (bcells bs)) :
    FnO Tryd.prog w0 42 [.pointer (some ⟨g, 0, none⟩), .int .i64 ((n : Int) + (i : Nat)), bv] (diskR g D :: F) (fun v l' =>
      (D.fuse = 0 ∧ v = .int .i64 5 ∧ l' = diskR g D :: F) ∨ (D.fuse ≠ 0 ∧ v = .int .i64 0 ∧ l' = diskR g (D.wrote (n + i) bs) :: F)) := by
  rw [← hl] at hr
  refine FnO.rdF (F := F) (fun _ h => h.tail) hr fun hr1 => (Disk.Write_ok hr1 hm).mono fun v l' h => ?_
  rcases h with h | ⟨_, h, _⟩ | ⟨h1, _, _, _, h2, h3⟩
  · exact .inl h
  · exact absurd ⟨by omega, by omega, hl⟩ h
  · exact .inr ⟨h1, h2, h3⟩
theorem write_ok {w0 : World} {F : List HProp} {k g n G m c : Nat} {a : Option Addr} {cnt : Int} {h : List UInt8} {over : Bool} {v : Value} {ps : List (Value × List UInt8)} {D : Dk} (hp : Parts w0 F v ps) (hpl : ps.length ≤ 79) (h52 : ∀ p ∈ ps, p.2.length ≤ 52) (hm : m + 1 < 4294967296) (hG : G < 4294967296) (hn : n + ps.length ≤ D.now.length) (hw : D.ws.length + ps.length ≤ 1000) :
    FnO Tryd.prog w0 30 [.pointer (some ⟨k, 0, none⟩), v] (row k 60 (bkC g (G : Nat) (n : Nat) (.slice a m c) h cnt over) :: diskR g D :: F)
      (fun u l' => u = .int .i64 (if (writes D n (secsFrom (m + 1) G ps.length 0 (recs ps))).fuse = 0 then 5 else 0) ∧ l' = row k 60 (bkC g (G : Nat) (n : Nat) (.slice a m c) h cnt over) :: diskR g (flushed (writes D n (secsFrom (m + 1) G ps.length 0 (recs ps)))) :: F) := by
  refine FnO.rdF (F := F) (fun _ h => h.tail.tail) hp.rd fun hp0 => ?_
  obtain ⟨va, vc, rfl⟩ := hp0.lit
  refine FnO.fact (fun _ h => diskR_ok h.tail) fun hok => ?_
  have hsm := hok.small
  refine FnO.weak ?_
  refine FnO.intro (n := 54) Tryd.func30 rfl rfl rfl ?_
  refine J.seq ?_
  refine J.region ?_
  refine JL.pure rfl rfl (OpP.assign rfl) ?_
  refine JL.nil ?_
  refine J.seq ?_
  refine J.seq ?_
  refine J.region ?_
  refine JL.pure rfl rfl (OpP.move rfl) ?_
  refine JL.pure rfl rfl (OpP.len rfl rfl) ?_
  refine JL.pure rfl rfl (OpP.move rfl) ?_
  refine JL.nil ?_
  refine J.block ?_
  generalize hE : writes D n (secsFrom (m + 1) G ps.length 0 (recs ps)) = E
  refine J.loopI (σ := Nat × Dk) (fun x => ps.length - x.1) (fun x => x.1 ≤ ps.length ∧ writes x.2 (n + x.1) (secsFrom (m + 1) G ps.length x.1 ((recs ps).drop x.1)) = E ∧ x.2.now.length = D.now.length ∧ x.2.ws.length ≤ D.ws.length + x.1)
    (fun x => [(11, .int .i64 (x.1 : Nat)), (10, .int .i64 ps.length), (9, .slice va ps.length vc), (0, .pointer (some ⟨k, 0, none⟩)), (1, .slice va ps.length vc)])
    (fun x => row k 60 (bkC g (G : Nat) (n : Nat) (.slice a m c) h cnt over) :: diskR g x.2 :: F) (0, D) ⟨Nat.zero_le _, hE, rfl, Nat.le_refl _⟩ (by repeat (first | exact SubEnv.nil | refine SubEnv.cons (by first | rfl | exact congrArg (fun z => some (Value.int .i64 z)) (by omega) | (simp; done)) ?_)) (fun _ h => h) (fun ⟨i, D1⟩ hi back => ?_)
  dsimp only at hi back ⊢
  obtain ⟨hi1, hi2, hi3, hi4⟩ := hi
  by_cases hlt : i < ps.length
  · obtain ⟨pa, pc, p, hpi, hpv, hpr⟩ := hp.at hlt
    have hpl2 : p.length ≤ 52 := h52 _ (List.mem_of_getElem? hpi)
    have hd : (recs ps).drop i = p :: (recs ps).drop (i + 1) := by
      rw [List.drop_eq_getElem_cons (by simpa using hlt)]
      congr 1
      simp [(List.getElem?_eq_some_iff.1 hpi).2]
    rw [hd, secsFrom] at hi2
    have hs64 : (secOf (m + 1) G i ps.length p).length = 64 := secOf_len hpl2
    refine J.seq ?_
    refine J.region ?_
    refine JL.decT rfl rfl (OpP.lss rfl rfl) (by omega) ?_
    refine JL.nil ?_
    refine J.seq ?_
    refine J.condT rfl ?_
    refine J.skip ?_
    refine J.seq ?_
    refine J.block ?_
    refine J.seq ?_
    refine J.region ?_
    refine JL.pure rfl rfl (OpP.move rfl) ?_
    obtain ⟨gva, pva, qva, eva, kva, cva⟩ := hp0.pos (by omega); cases eva
    refine JL.pure rfl rfl (OpP.indexAddr rfl rfl (by omega) (by omega)) ?_
    refine JL.read rfl rfl (OpR.load1 rfl (by apply Cells.cell cva (fun _ h => Own.pick (pre := [_, _]) [] rfl h); (case' hv => assumption); (case' ho => omega); done)) ?_
    refine JL.pure rfl rfl (OpP.assign rfl) ?_
    refine JL.pure rfl rfl (OpP.assign rfl) ?_
    refine JL.nil ?_
    refine J.seq ?_
    refine J.regionD [3, 9] (by kernel_rfl) ?_
    refine DL.pure (i := 0) (by kernel_rfl) (by kernel_rfl) rfl rfl rfl (OpP.move rfl) ?_
    refine DL.pure (i := 1) (by kernel_rfl) (by kernel_rfl) rfl rfl rfl (OpP.nilCheck rfl) ?_
    refine DL.pure (i := 2) (by kernel_rfl) (by kernel_rfl) rfl rfl rfl (OpP.fieldAddr rfl) ?_
    refine DL.read (i := 3) (by kernel_rfl) (by kernel_rfl) rfl rfl rfl (fun _ h => h) (OpR.load1 rfl (Cell.bk3 .head)) ?_
    refine DL.pure (i := 4) (by kernel_rfl) (by kernel_rfl) rfl rfl rfl (OpP.len rfl rfl) ?_
    refine DL.pure (i := 5) (by kernel_rfl) (by kernel_rfl) rfl rfl rfl (OpP.addI rfl rfl (by omega) (by omega)) ?_
    refine DL.pure (i := 6) (by kernel_rfl) (by kernel_rfl) rfl rfl rfl (OpP.move rfl) ?_
    refine DL.pure (i := 7) (by kernel_rfl) (by kernel_rfl) rfl rfl rfl (OpP.nilCheck rfl) ?_
    refine DL.pure (i := 8) (by kernel_rfl) (by kernel_rfl) rfl rfl rfl (OpP.fieldAddr rfl) ?_
    refine DL.read (i := 9) (by kernel_rfl) (by kernel_rfl) rfl rfl rfl (fun _ h => h) (OpR.load1 rfl (Cell.bk1 .head)) ?_
    refine DL.pure (i := 10) (by kernel_rfl) (by kernel_rfl) rfl rfl rfl (OpP.move rfl) ?_
    refine DL.pure (i := 11) (by kernel_rfl) (by kernel_rfl) rfl rfl rfl (OpP.move rfl) ?_
    refine DL.pure (i := 12) (by kernel_rfl) (by kernel_rfl) rfl rfl rfl (OpP.len rfl rfl) ?_
    refine DL.pure (i := 13) (by kernel_rfl) (by kernel_rfl) rfl rfl rfl (OpP.build rfl (by (repeat (first | exact Fills.nil | (apply Fills.cons rfl rfl rfl; (case' hs => ((repeat (first | exact Spl.nil | apply Spl.here | apply Spl.there)); done))))))) ?_
    refine DL.pure (i := 14) (by kernel_rfl) (by kernel_rfl) rfl rfl rfl (OpP.move rfl) ?_
    refine DL.pure (i := 15) (by kernel_rfl) (by kernel_rfl) rfl rfl rfl (OpP.build rfl (by (repeat (first | exact Fills.nil | (apply Fills.cons rfl rfl rfl; (case' hs => ((repeat (first | exact Spl.nil | apply Spl.here | apply Spl.there)); done))))))) ?_
    refine DL.only (i := 16) (by kernel_rfl) ?_
    refine DL1.stepF rfl rfl rfl (by kernel_rfl) (by exact OpW.call (first := []) (captured := []) inferInstance rfl rfl (sector_ok (n := m + 1) (g := G) (p := i) (c := ps.length) (bs := p) hm hG (by omega) (by omega) hpl2 (hpr.conv fun _ h => Own.pick (pre := [_, _]) [] rfl h))) ?_; rintro r32 _ ⟨a1, ⟨k1, ⟨rfl, rfl⟩⟩⟩
    refine DL.pure (i := 17) (by kernel_rfl) (by kernel_rfl) rfl rfl rfl (OpP.assign rfl) ?_
    refine DL.done (by kernel_rfl) ?_
    refine J.seq ?_
    refine J.regionD [3, 7] (by kernel_rfl) ?_
    refine DL.pure (i := 0) (by kernel_rfl) (by kernel_rfl) rfl rfl rfl (OpP.move rfl) ?_
    refine DL.pure (i := 1) (by kernel_rfl) (by kernel_rfl) rfl rfl rfl (OpP.nilCheck rfl) ?_
    refine DL.pure (i := 2) (by kernel_rfl) (by kernel_rfl) rfl rfl rfl (OpP.fieldAddr rfl) ?_
    refine DL.read (i := 3) (by kernel_rfl) (by kernel_rfl) rfl rfl rfl (fun _ h => h) (OpR.load1 rfl (Cell.bk0 (.tail .head))) ?_
    refine DL.pure (i := 4) (by kernel_rfl) (by kernel_rfl) rfl rfl rfl (OpP.move rfl) ?_
    refine DL.pure (i := 5) (by kernel_rfl) (by kernel_rfl) rfl rfl rfl (OpP.nilCheck rfl) ?_
    refine DL.pure (i := 6) (by kernel_rfl) (by kernel_rfl) rfl rfl rfl (OpP.fieldAddr rfl) ?_
    refine DL.read (i := 7) (by kernel_rfl) (by kernel_rfl) rfl rfl rfl (fun _ h => h) (OpR.load1 rfl (Cell.bk2 (.tail .head))) ?_
    refine DL.pure (i := 8) (by kernel_rfl) (by kernel_rfl) rfl rfl rfl (OpP.move rfl) ?_
    refine DL.pure (i := 9) (by kernel_rfl) (by kernel_rfl) rfl rfl rfl (OpP.addI rfl rfl (by omega) (by omega)) ?_
    refine DL.pure (i := 10) (by kernel_rfl) (by kernel_rfl) rfl rfl rfl (OpP.move rfl) ?_
    refine DL.only (i := 11) (by kernel_rfl) ?_
    refine DL1.f2 ?_; refine DL1.stepF rfl rfl rfl (by kernel_rfl) (by exact OpW.call (first := []) (captured := []) inferInstance rfl rfl (Write_u (n := n) (i := i) (bs := secOf (m + 1) G i ps.length p) hs64 (by omega) (by omega) (RdO.own .head))) ?_; rintro r44 _ (⟨h44, ⟨rfl, rfl⟩⟩ | ⟨h441, ⟨rfl, rfl⟩⟩)
    focus
      refine DL.pure (i := 12) (by kernel_rfl) (by kernel_rfl) rfl rfl rfl (OpP.assign rfl) ?_
      refine DL.done (by kernel_rfl) ?_
    rotate_left 1
    focus
      refine DL.pure (i := 12) (by kernel_rfl) (by kernel_rfl) rfl rfl rfl (OpP.assign rfl) ?_
      refine DL.done (by kernel_rfl) ?_
    rotate_left 1
    · rw [writes, if_pos (by assumption)] at hi2
      subst hi2
      refine J.seq ?_
      refine J.region ?_
      refine JL.pure rfl rfl (OpP.move rfl) ?_
      refine JL.decT rfl rfl (OpP.neq rfl rfl) (by omega) ?_
      refine JL.nil ?_
      refine J.condT rfl ?_
      refine J.seq ?_
      refine J.region ?_
      refine JL.pure rfl rfl (OpP.move rfl) ?_
      refine JL.pure rfl rfl (OpP.assign rfl) ?_
      refine JL.nil ?_
      refine J.ret1 rfl rfl ?_
      refine ⟨_, ⟨by rw [if_pos (by assumption)], rfl⟩, fun _ h => ?_⟩
      rw [flushed, if_pos (by assumption)]
      exact Own.pick (pre := [_, _, _]) [2, 0] rfl h
    · rw [writes, if_neg (by assumption)] at hi2
      refine J.seq ?_
      refine J.region ?_
      refine JL.pure rfl rfl (OpP.move rfl) ?_
      refine JL.decF rfl rfl (OpP.neq rfl rfl) (by omega) ?_
      refine JL.nil ?_
      refine J.condF rfl ?_
      refine J.skip ?_
      refine J.inBlock ?_
      refine J.region ?_
      refine JL.pure rfl rfl (OpP.addI rfl rfl (by omega) (by omega)) ?_
      refine JL.pure rfl rfl (OpP.move rfl) ?_
      refine JL.nil ?_
      refine back (i + 1, D1.wrote (n + i) (secOf (m + 1) G i ps.length p)) ⟨by dsimp only; omega, hi2, ?_, ?_⟩ (by dsimp only; omega) (by repeat (first | exact SubEnv.nil | refine SubEnv.cons (by first | rfl | exact congrArg (fun z => some (Value.int .i64 z)) (by omega) | (simp; done)) ?_)) (fun _ h => Own.pick (pre := [_, _, _]) [2, 0] rfl h)
      · simp only [Dk.wrote, List.length_set]; exact hi3
      · simp only [Dk.wrote, List.length_append, List.length_singleton]; omega
  · have : i = ps.length := by omega
    subst this
    rw [List.drop_of_length_le (by simp)] at hi2
    change D1 = E at hi2
    subst hi2
    refine J.seq ?_
    refine J.region ?_
    refine JL.decF rfl rfl (OpP.lss rfl rfl) (by omega) ?_
    refine JL.nil ?_
    refine J.seq ?_
    refine J.condF rfl ?_
    refine J.exit rfl ?_
    refine J.seq ?_
    refine J.region ?_
    refine JL.pure rfl rfl (OpP.move rfl) ?_
    refine JL.pure rfl rfl (OpP.nilCheck rfl) ?_
    refine JL.pure rfl rfl (OpP.fieldAddr rfl) ?_
    refine JL.read rfl rfl (OpR.load1 rfl (Cell.bk0 .head)) ?_
    refine JL.f1 ?_; refine JL.step rfl rfl (OpW.call (first := []) (captured := []) inferInstance rfl rfl Flush_u) ?_; rintro r53 _ ⟨rfl, rfl⟩
    refine JL.pure rfl rfl (OpP.assign rfl) ?_
    refine JL.nil ?_
    refine J.ret1 rfl rfl ?_
    exact ⟨_, ⟨rfl, rfl⟩, fun _ h => Own.f1 h⟩
end Go.Proofs.F

-- seat f
namespace Go.Proofs.F
open Go Go.Gp Go.RowKit
open Disk hiding spl_all

theorem parts_u {w0 : World} {F0 F : List HProp} {v : Value} {l : List UInt8} (hl : l.length ≤ 1000000) (hF : ∀ w, Own w0 w F → Own w0 w F0) (hr : RdO w0 F0 v l.length (bcells l)) :
    FnO Tryd.prog w0 29 [v] F (fun u l' => ∃ (a : Option Addr) (c : Nat) (ps : List (Value × List UInt8)), recs ps = cut l ∧ (∀ p ∈ ps, (∃ a c, p.1 = .slice a p.2.length c) ∧ RdO w0 F0 p.1 p.2.length (bcells p.2)) ∧ u = .slice a ps.length c ∧ l' = own 26 1 (.slice a ps.length c) ps.length (ps.map (·.1)) :: F) :=
  parts_ok hl hF hr
/-- What Append answers. -/
inductive AppR (D : Dk) (n G m : Nat) (over : Bool) (bs : List UInt8) : Int → Prop where
  | over (h : over = true) : AppR D n G m over bs 5
  | long (h : over = false) (h1 : 4096 < bs.length) : AppR D n G m over bs 3
  | full (h : over = false) (h1 : bs.length ≤ 4096) (h2 : D.now.length - n < (cut bs).length) : AppR D n G m over bs 4
def AppendPost (F : List HProp) (K : Ws) (k g G n cnt : Nat) (a : Option Addr) (c : Nat) (qs : List (Value × List UInt8)) (h : List UInt8) (over : Bool) (D : Dk) (bs : List UInt8) (u : Value) (l' : List HProp) : Prop :=
  (∃ e, AppR D n G qs.length over bs e ∧ u = .int .i64 e ∧ l' = row k 60 (bkC g (G : Nat) (n : Nat) (.slice a qs.length c) h (cnt : Nat) over) :: ownP (.slice a qs.length c) qs :: diskR g D :: F) ∨
  (over = false ∧ bs.length ≤ 4096 ∧ n + (cut bs).length ≤ D.now.length ∧ (writes D n (secsOf (qs.length + 1) G bs)).fuse = 0 ∧ u = .int .i64 5 ∧
    l' = row k 60 (bkC g (G : Nat) (n : Nat) (.slice a qs.length c) h (cnt : Nat) true) :: ownP (.slice a qs.length c) qs :: diskR g (writes D n (secsOf (qs.length + 1) G bs)) :: F) ∨
  (over = false ∧ bs.length ≤ 4096 ∧ n + (cut bs).length ≤ D.now.length ∧ (writes D n (secsOf (qs.length + 1) G bs)).fuse ≠ 0 ∧ u = .int .i64 0 ∧
    ∃ a' c' a1 c1, l' = row k 60 (bkC g (G : Nat) (n + (cut bs).length : Nat) (.slice a' (qs.length + 1) c') (shaB K (linkT h bs)) (cnt + 1 : Nat) false) :: ownP (.slice a' (qs.length + 1) c') (qs ++ [(.slice a1 bs.length c1, bs)]) :: diskR g (flushed (writes D n (secsOf (qs.length + 1) G bs))) :: F)
theorem append_ok {w0 : World} {F : List HProp} {K : Ws} {k g G n cnt c : Nat} {a : Option Addr} {qs : List (Value × List UInt8)} {h : List UInt8} {over : Bool} {D : Dk} {x : Value} {bs : List UInt8} (hK : Tab w0 0 64 fun j => w32 (K j)) (hh : h.length = 32) (hb : bs.length ≤ 10000) (hr : RdO w0 F x bs.length (bcells bs)) (hq : qs.length ≤ 100000) (hc : cnt ≤ 100000) (hG : G < 4294967296) (hn : n ≤ D.now.length) (hw : D.ws.length + 79 ≤ 1000) :
    FnO Tryd.prog w0 12 [.pointer (some ⟨k, 0, none⟩), x] (row k 60 (bkC g (G : Nat) (n : Nat) (.slice a qs.length c) h (cnt : Nat) over) :: ownP (.slice a qs.length c) qs :: diskR g D :: F) (AppendPost F K k g G n cnt a c qs h over D bs) := by
  refine FnO.rdF (F := F) (fun _ h => h.tail.tail.tail) hr fun hr1 => ?_
  obtain ⟨va, vc, rfl⟩ := hr1.lit
  refine FnO.fact (fun _ h => diskR_ok h.tail.tail) fun hok => ?_
  have hsm := hok.small
  have hcc := cut_count bs
  refine FnO.weak ?_
  refine FnO.intro (n := 38) Tryd.func12 rfl rfl rfl ?_
  refine J.seq ?_
  refine J.region ?_
  refine JL.pure rfl rfl (OpP.assign rfl) ?_
  refine JL.nil ?_
  refine J.seq ?_
  refine J.region ?_
  refine JL.pure rfl rfl (OpP.move rfl) ?_
  refine JL.step rfl rfl (OpW.call (first := []) (captured := []) inferInstance rfl rfl (parts_u (F0 := F) (l := bs) (by omega) (fun _ h => h.tail.tail.tail) hr)) ?_; rintro r8 _ ⟨a1, ⟨c1, ⟨ps, ⟨h8, ⟨h81, ⟨rfl, rfl⟩⟩⟩⟩⟩⟩
  refine JL.pure rfl rfl (OpP.assign rfl) ?_
  refine JL.nil ?_
  refine J.seq ?_
  refine J.block ?_
  have hrec : recs ps = cut bs := by assumption
  have hps : ∀ p ∈ ps, (∃ a c, p.1 = .slice a p.2.length c) ∧ RdO w0 F p.1 p.2.length (bcells p.2) := by assumption
  have hpl : ps.length = (cut bs).length := by rw [← hrec]; simp
  have h52 : ∀ p ∈ ps, p.2.length ≤ 52 := fun p hp => cut_part p.2 (by rw [← hrec]; exact List.mem_map_of_mem hp)
  have hP := CutPost.parts (r := .slice a1 ps.length c1) hps
  refine J.conv (l' := row k 60 (bkC g (G : Nat) (n : Nat) (.slice a qs.length c) h (cnt : Nat) over) :: ownP (.slice a qs.length c) qs :: diskR g D :: (own 26 1 (.slice a1 ps.length c1) ps.length (ps.map (fun q : Value × List UInt8 => q.1)) :: F)) (fun _ h => Own.pick (pre := [_, _, _, _]) [1, 2, 3, 0] rfl h) ?_
  have hx : RdO w0 (own 26 1 (.slice a1 ps.length c1) ps.length (ps.map (fun q : Value × List UInt8 => q.1)) :: F) (.slice va bs.length vc) bs.length (bcells bs) := hr.conv fun _ h => h.tail
  have hss : secsFrom (qs.length + 1) G ps.length 0 (recs ps) = secsOf (qs.length + 1) G bs := by rw [hrec, hpl]; rfl
  generalize hF1 : own 26 1 (.slice a1 ps.length c1) ps.length (ps.map (fun q : Value × List UInt8 => q.1)) :: F = F1 at hP hx ⊢
  cases over
  case true =>
    refine J.seq ?_
    refine J.region ?_
    refine JL.pure rfl rfl (OpP.move rfl) ?_
    refine JL.pure rfl rfl (OpP.nilCheck rfl) ?_
    refine JL.pure rfl rfl (OpP.fieldAddr rfl) ?_
    refine JL.read rfl rfl (OpR.load1 rfl (Cell.bkO .head (by first | assumption | exact hsh_len (by assumption) _ | solve_by_elim))) ?_
    refine JL.pure rfl rfl (OpP.assign rfl) ?_
    refine JL.nil ?_
    refine J.condT rfl ?_
    refine J.seq ?_
    refine J.region ?_
    refine JL.pure rfl rfl (OpP.assign rfl) ?_
    refine JL.nil ?_
    refine J.ret1 rfl rfl ?_
    refine ⟨_, .inl ⟨5, .over rfl, rfl, rfl⟩, fun _ h => ?_⟩
    rw [← hF1] at h
    exact Own.pick (pre := [_, _, _, _]) [0, 1, 2] rfl h
  case false =>
    by_cases hlong : 4096 < bs.length
    · refine J.seq ?_
      refine J.region ?_
      refine JL.pure rfl rfl (OpP.move rfl) ?_
      refine JL.pure rfl rfl (OpP.nilCheck rfl) ?_
      refine JL.pure rfl rfl (OpP.fieldAddr rfl) ?_
      refine JL.read rfl rfl (OpR.load1 rfl (Cell.bkO .head (by first | assumption | exact hsh_len (by assumption) _ | solve_by_elim))) ?_
      refine JL.pure rfl rfl (OpP.assign rfl) ?_
      refine JL.nil ?_
      refine J.condF rfl ?_
      refine J.seq ?_
      refine J.region ?_
      refine JL.pure rfl rfl (OpP.move rfl) ?_
      refine JL.pure rfl rfl (OpP.len rfl rfl) ?_
      refine JL.decT rfl rfl (OpP.gtr rfl rfl) (by omega) ?_
      refine JL.pure rfl rfl (OpP.assign rfl) ?_
      refine JL.nil ?_
      refine J.condT rfl ?_
      refine J.seq ?_
      refine J.region ?_
      refine JL.pure rfl rfl (OpP.assign rfl) ?_
      refine JL.nil ?_
      refine J.ret1 rfl rfl ?_
      refine ⟨_, .inl ⟨3, .long rfl hlong, rfl, rfl⟩, fun _ h => ?_⟩
      rw [← hF1] at h
      exact Own.pick (pre := [_, _, _, _]) [0, 1, 2] rfl h
    · have h79 := cut_79 (r := bs) (by omega)
      by_cases hroom : n + ps.length ≤ D.now.length
      · by_cases hfz : (writes D n (secsOf (qs.length + 1) G bs)).fuse = 0
        · have hW : ∀ {F' : List HProp} (_ : Parts w0 F' (.slice a1 ps.length c1) ps), FnO Tryd.prog w0 30 [.pointer (some ⟨k, 0, none⟩), .slice a1 ps.length c1] (row k 60 (bkC g (G : Nat) (n : Nat) (.slice a qs.length c) h (cnt : Nat) false) :: diskR g D :: F') (fun u l' => u = .int .i64 5 ∧ l' = row k 60 (bkC g (G : Nat) (n : Nat) (.slice a qs.length c) h (cnt : Nat) false) :: diskR g (writes D n (secsOf (qs.length + 1) G bs)) :: F') := fun {F'} hp' => by
            have := write_ok (k := k) (g := g) (m := qs.length) (a := a) (c := c) (cnt := cnt) (h := h) (over := false) hp' (by omega) h52 (by omega) hG hroom (by omega)
            rw [hss, if_pos hfz, flushed, if_pos hfz] at this
            exact this
          refine J.seq ?_
          refine J.region ?_
          refine JL.pure rfl rfl (OpP.move rfl) ?_
          refine JL.pure rfl rfl (OpP.nilCheck rfl) ?_
          refine JL.pure rfl rfl (OpP.fieldAddr rfl) ?_
          refine JL.read rfl rfl (OpR.load1 rfl (Cell.bkO .head (by first | assumption | exact hsh_len (by assumption) _ | solve_by_elim))) ?_
          refine JL.pure rfl rfl (OpP.assign rfl) ?_
          refine JL.nil ?_
          refine J.condF rfl ?_
          refine J.seq ?_
          refine J.region ?_
          refine JL.pure rfl rfl (OpP.move rfl) ?_
          refine JL.pure rfl rfl (OpP.len rfl rfl) ?_
          refine JL.decF rfl rfl (OpP.gtr rfl rfl) (by omega) ?_
          refine JL.pure rfl rfl (OpP.assign rfl) ?_
          refine JL.nil ?_
          refine J.condF rfl ?_
          refine J.seq ?_
          refine J.region ?_
          refine JL.pure rfl rfl (OpP.move rfl) ?_
          refine JL.pure rfl rfl (OpP.len rfl rfl) ?_
          refine JL.pure rfl rfl (OpP.move rfl) ?_
          refine JL.f2 ?_; refine JL.f1 ?_; refine JL.step rfl rfl (OpW.call (first := []) (captured := []) inferInstance rfl rfl (Room_ok (D := D) hn)) ?_; rintro r22 _ ⟨rfl, rfl⟩
          refine JL.decF rfl rfl (OpP.gtr rfl rfl) (by omega) ?_
          refine JL.pure rfl rfl (OpP.assign rfl) ?_
          refine JL.nil ?_
          refine J.condF rfl ?_
          refine J.skip ?_
          refine J.inBlock ?_
          refine J.seq ?_
          refine J.seq ?_
          refine J.region ?_
          refine JL.pure rfl rfl (OpP.move rfl) ?_
          refine JL.pure rfl rfl (OpP.move rfl) ?_
          refine JL.step rfl rfl (OpW.call (first := []) (captured := []) inferInstance rfl rfl (hW (hP.conv (fun _ h => Own.pick (pre := [_]) [] rfl h)))) ?_; rintro r26 _ ⟨rfl, rfl⟩
          refine JL.pure rfl rfl (OpP.assign rfl) ?_
          refine JL.nil ?_
          refine J.seq ?_
          refine J.region ?_
          refine JL.pure rfl rfl (OpP.move rfl) ?_
          refine JL.decT rfl rfl (OpP.neq rfl rfl) (by omega) ?_
          refine JL.nil ?_
          refine J.condT rfl ?_
          refine J.seq ?_
          refine J.region ?_
          refine JL.pure rfl rfl (OpP.move rfl) ?_
          refine JL.pure rfl rfl (OpP.nilCheck rfl) ?_
          refine JL.pure rfl rfl (OpP.fieldAddr rfl) ?_
          refine JL.mem0 rfl (by apply OpM.store1 rfl rfl rfl; (case' hu => exact .head); (case' hs => exact spl_bkO (by first | assumption | exact shaB_length _ _ | exact hsh_len (by assumption) _ | solve_by_elim)); done) ?_; rintro _ _ ⟨rfl, rfl⟩
          refine JL.nil ?_
          refine J.seq ?_
          refine J.region ?_
          refine JL.pure rfl rfl (OpP.move rfl) ?_
          refine JL.pure rfl rfl (OpP.assign rfl) ?_
          refine JL.nil ?_
          refine J.ret1 rfl rfl ?_
          refine ⟨_, .inr (.inl ⟨rfl, by omega, by omega, hfz, rfl, rfl⟩), fun _ h => ?_⟩
          rw [← hF1] at h
          exact Own.pick (pre := [_, _, _, _]) [0, 2, 1] rfl h
        · have hW : ∀ {F' : List HProp} (_ : Parts w0 F' (.slice a1 ps.length c1) ps), FnO Tryd.prog w0 30 [.pointer (some ⟨k, 0, none⟩), .slice a1 ps.length c1] (row k 60 (bkC g (G : Nat) (n : Nat) (.slice a qs.length c) h (cnt : Nat) false) :: diskR g D :: F') (fun u l' => u = .int .i64 0 ∧ l' = row k 60 (bkC g (G : Nat) (n : Nat) (.slice a qs.length c) h (cnt : Nat) false) :: diskR g (flushed (writes D n (secsOf (qs.length + 1) G bs))) :: F') := fun {F'} hp' => by
            have := write_ok (k := k) (g := g) (m := qs.length) (a := a) (c := c) (cnt := cnt) (h := h) (over := false) hp' (by omega) h52 (by omega) hG hroom (by omega)
            rw [hss, if_neg hfz] at this
            exact this
          refine J.seq ?_
          refine J.region ?_
          refine JL.pure rfl rfl (OpP.move rfl) ?_
          refine JL.pure rfl rfl (OpP.nilCheck rfl) ?_
          refine JL.pure rfl rfl (OpP.fieldAddr rfl) ?_
          refine JL.read rfl rfl (OpR.load1 rfl (Cell.bkO .head (by first | assumption | exact hsh_len (by assumption) _ | solve_by_elim))) ?_
          refine JL.pure rfl rfl (OpP.assign rfl) ?_
          refine JL.nil ?_
          refine J.condF rfl ?_
          refine J.seq ?_
          refine J.region ?_
          refine JL.pure rfl rfl (OpP.move rfl) ?_
          refine JL.pure rfl rfl (OpP.len rfl rfl) ?_
          refine JL.decF rfl rfl (OpP.gtr rfl rfl) (by omega) ?_
          refine JL.pure rfl rfl (OpP.assign rfl) ?_
          refine JL.nil ?_
          refine J.condF rfl ?_
          refine J.seq ?_
          refine J.region ?_
          refine JL.pure rfl rfl (OpP.move rfl) ?_
          refine JL.pure rfl rfl (OpP.len rfl rfl) ?_
          refine JL.pure rfl rfl (OpP.move rfl) ?_
          refine JL.f2 ?_; refine JL.f1 ?_; refine JL.step rfl rfl (OpW.call (first := []) (captured := []) inferInstance rfl rfl (Room_ok (D := D) hn)) ?_; rintro r22 _ ⟨rfl, rfl⟩
          refine JL.decF rfl rfl (OpP.gtr rfl rfl) (by omega) ?_
          refine JL.pure rfl rfl (OpP.assign rfl) ?_
          refine JL.nil ?_
          refine J.condF rfl ?_
          refine J.skip ?_
          refine J.inBlock ?_
          refine J.seq ?_
          refine J.seq ?_
          refine J.region ?_
          refine JL.pure rfl rfl (OpP.move rfl) ?_
          refine JL.pure rfl rfl (OpP.move rfl) ?_
          refine JL.step rfl rfl (OpW.call (first := []) (captured := []) inferInstance rfl rfl (hW (hP.conv (fun _ h => Own.pick (pre := [_]) [] rfl h)))) ?_; rintro r26 _ ⟨rfl, rfl⟩
          refine JL.pure rfl rfl (OpP.assign rfl) ?_
          refine JL.nil ?_
          refine J.seq ?_
          refine J.region ?_
          refine JL.pure rfl rfl (OpP.move rfl) ?_
          refine JL.decF rfl rfl (OpP.neq rfl rfl) (by omega) ?_
          refine JL.nil ?_
          refine J.condF rfl ?_
          refine J.skip ?_
          refine J.seq ?_
          refine J.region ?_
          refine JL.pure rfl rfl (OpP.move rfl) ?_
          refine JL.pure rfl rfl (OpP.move rfl) ?_
          refine JL.pure rfl rfl (OpP.move rfl) ?_
          refine JL.pure rfl rfl (OpP.len rfl rfl) ?_
          refine JL.f2 ?_; refine JL.f1 ?_; refine JL.step rfl rfl (OpW.call (first := []) (captured := []) inferInstance rfl rfl (take_u (n := n) (m := ps.length) (bs := bs) hK hh (by omega) (hx.conv fun _ h => Own.pick (pre := [_]) [] rfl h) (by first | assumption | omega | rfl | exact Nat.le_of_ble_eq_true rfl | (simp; omega)) (by first | assumption | omega | rfl | exact Nat.le_of_ble_eq_true rfl | (simp; omega)) (by first | assumption | omega | rfl | exact Nat.le_of_ble_eq_true rfl | (simp; omega)))) ?_; rintro r37 _ ⟨a2, ⟨c2, ⟨a11, ⟨c11, ⟨rfl, rfl⟩⟩⟩⟩⟩
          refine JL.nil ?_
          refine J.seq ?_
          refine J.region ?_
          refine JL.pure rfl rfl (OpP.assign rfl) ?_
          refine JL.nil ?_
          refine J.ret1 rfl rfl ?_
          rw [hpl]
          refine ⟨_, .inr (.inr ⟨rfl, by omega, by omega, hfz, rfl, a2, c2, a11, c11, rfl⟩), fun _ h => ?_⟩
          rw [← hF1] at h
          exact Own.pick (pre := [_, _, _, _]) [0, 1, 2] rfl h
      · refine J.seq ?_
        refine J.region ?_
        refine JL.pure rfl rfl (OpP.move rfl) ?_
        refine JL.pure rfl rfl (OpP.nilCheck rfl) ?_
        refine JL.pure rfl rfl (OpP.fieldAddr rfl) ?_
        refine JL.read rfl rfl (OpR.load1 rfl (Cell.bkO .head (by first | assumption | exact hsh_len (by assumption) _ | solve_by_elim))) ?_
        refine JL.pure rfl rfl (OpP.assign rfl) ?_
        refine JL.nil ?_
        refine J.condF rfl ?_
        refine J.seq ?_
        refine J.region ?_
        refine JL.pure rfl rfl (OpP.move rfl) ?_
        refine JL.pure rfl rfl (OpP.len rfl rfl) ?_
        refine JL.decF rfl rfl (OpP.gtr rfl rfl) (by omega) ?_
        refine JL.pure rfl rfl (OpP.assign rfl) ?_
        refine JL.nil ?_
        refine J.condF rfl ?_
        refine J.seq ?_
        refine J.region ?_
        refine JL.pure rfl rfl (OpP.move rfl) ?_
        refine JL.pure rfl rfl (OpP.len rfl rfl) ?_
        refine JL.pure rfl rfl (OpP.move rfl) ?_
        refine JL.f2 ?_; refine JL.f1 ?_; refine JL.step rfl rfl (OpW.call (first := []) (captured := []) inferInstance rfl rfl (Room_ok (D := D) hn)) ?_; rintro r22 _ ⟨rfl, rfl⟩
        refine JL.decT rfl rfl (OpP.gtr rfl rfl) (by omega) ?_
        refine JL.pure rfl rfl (OpP.assign rfl) ?_
        refine JL.nil ?_
        refine J.condT rfl ?_
        refine J.seq ?_
        refine J.region ?_
        refine JL.pure rfl rfl (OpP.assign rfl) ?_
        refine JL.nil ?_
        refine J.ret1 rfl rfl ?_
        refine ⟨_, .inl ⟨4, .full rfl (by omega) (by omega), rfl, rfl⟩, fun _ h => ?_⟩
        rw [← hF1] at h
        exact Own.pick (pre := [_, _, _, _]) [0, 2, 1] rfl h
end Go.Proofs.F

-- seat f
namespace Go.Proofs.F
open Go Go.Gp Go.RowKit
open Disk hiding spl_all

/-- Sectors with their places. -/
def numd : Nat → List Sec → List (Nat × Sec)
  | _, [] => []
  | n, s :: l => (n, s) :: numd (n + 1) l
theorem writes_spec : ∀ (ss : List Sec) (D : Dk) (n : Nat), n + ss.length ≤ D.now.length → ∃ j, j ≤ ss.length ∧ (writes D n ss).now = D.now.take n ++ ss.take j ++ D.now.drop (n + j) ∧ (writes D n ss).fl = D.fl ∧ (writes D n ss).ws = D.ws ++ numd n (ss.take j) ∧ ((writes D n ss).fuse ≠ 0 → j = ss.length) ∧ (D.fuse < 0 → (writes D n ss).fuse = D.fuse)
  | [], D, n, _ => ⟨0, Nat.le_refl _, by simp [writes], rfl, by simp [writes, numd], fun _ => rfl, fun _ => rfl⟩
  | s :: ss, D, n, h => by
    rw [List.length_cons] at h
    by_cases hf : D.fuse = 0
    · rw [writes, if_pos hf]
      exact ⟨0, Nat.zero_le _, by simp, rfl, by simp [numd], fun h => absurd hf h, fun _ => rfl⟩
    · rw [writes, if_neg hf]
      obtain ⟨j, h1, h2, h3, h4, h5, h6⟩ := writes_spec ss (D.wrote n s) (n + 1) (by simp only [Dk.wrote, List.length_set]; omega)
      refine ⟨j + 1, by rw [List.length_cons]; omega, ?_, h3, ?_, fun h => by rw [List.length_cons, h5 h], fun hneg => ?_⟩
      · rw [h2]
        simp only [Dk.wrote]
        rw [List.take_set, List.drop_set_of_lt (by omega), List.take_add_one, List.getElem?_eq_getElem (by omega), List.take_succ_cons]
        rw [Option.toList_some, List.set_append_right (s := D.now.take n) _ _ (by simp [List.length_take]; omega)]
        rw [show n - (D.now.take n).length = 0 by rw [List.length_take]; omega, show n + 1 + j = n + (j + 1) by omega]
        simp
      · rw [h4]
        simp [Dk.wrote, numd]
      · have e : (D.wrote n s).fuse = D.fuse := by simp only [Dk.wrote, burnt]; rw [if_neg (by omega)]
        rw [h6 (by rw [e]; exact hneg), e]
/-- A disk without anything that waits. -/
def clean (f : Int) (l : List Sec) : Dk := { fuse := f, fl := l, now := l, ws := [] }
theorem flushed_now {D : Dk} (h : D.fuse ≠ 0) : flushed D = clean D.fuse D.now := by rw [flushed, if_neg h]; rfl
/-- An append to a clean disk. -/
theorem writes_clean {f : Int} {W : Wr} {cur : Nat} {T : List Sec} {bs : List UInt8} (hfit : (cut bs).length ≤ T.length) (h : (writes (clean f (lay W ++ T)) (lay W).length (secsOf (W.length + 1) cur bs)).fuse ≠ 0) :
    flushed (writes (clean f (lay W ++ T)) (lay W).length (secsOf (W.length + 1) cur bs)) = clean (writes (clean f (lay W ++ T)) (lay W).length (secsOf (W.length + 1) cur bs)).fuse (lay (W ++ [(bs, cur)]) ++ T.drop (cut bs).length) := by
  obtain ⟨j, h1, h2, _, _, h5, _⟩ := writes_spec (secsOf (W.length + 1) cur bs) (clean f (lay W ++ T)) (lay W).length (by rw [secsOf_len]; show _ ≤ (lay W ++ T).length; rw [List.length_append]; omega)
  have hj := h5 h
  subst hj
  rw [flushed_now h]
  congr 1
  rw [h2, lay_snoc, List.take_length, secsOf_len]
  show (lay W ++ T).take _ ++ _ ++ (lay W ++ T).drop _ = _
  rw [List.take_left, List.drop_append]
  simp
theorem cnts_told : ∀ (k : Nat) (W : Wr), cnts (W.map told) = (layF k W).length
  | _, [] => rfl
  | k, w :: W => by
    rw [layF, List.length_append, secsOf_len, ← cnts_told (k + 1) W]
    simp [cnts, told]
theorem num_z : num zsec = 0 := by decide +kernel
theorem gen_z : gen zsec = 0 := by decide +kernel
theorem maxG_new (n : Nat) : maxG (List.replicate n zsec) = 0 := Nat.le_zero.1 (maxG_le fun s hs => by rw [(List.mem_replicate.1 hs).2, gen_z]; exact Nat.le_refl _)
theorem sess_new (n : Nat) : Sess [] 1 (List.replicate n zsec) := by
  have h := Sess.fresh (W := []) (cur := 1) (T := List.replicate n zsec) (Nat.le_refl _) (by omega) (by decide) (fun s hs => by rw [(List.mem_replicate.1 hs).2, num_z]; exact Nat.zero_le _) (standP_none_of fun s hs => by rw [(List.mem_replicate.1 (List.mem_of_getElem? hs)).2, num_z]; decide)
  rwa [show lay [] ++ List.replicate n zsec = List.replicate n zsec from rfl, maxG_new] at h
end Go.Proofs.F

-- seat f
namespace Go.Proofs.F
open Go Go.Gp Go.RowKit
open Disk hiding spl_all

/-- The fingerprint of what was written. -/
def bkH (K : Ws) (W : Wr) : List UInt8 := hsh K h0 (W.map (·.1))
theorem bkH_len {K : Ws} {W : Wr} : (bkH K W).length = 32 := hsh_len (by simp [h0]) _
theorem open_c {w0 : World} {F : List HProp} {K : Ws} {g : Nat} {D : Dk} {W : Wr} (hK : Tab w0 0 64 fun j => w32 (K j)) (hf : D.fuse ≠ 0) (hm : maxG D.now < 4294967295) (hr : readAll D.now = W.map told) :
    FnO Tryd.prog w0 10 [.pointer (some ⟨g, 0, none⟩)] (diskR g D :: F) (fun u l' => ∃ (k : Nat) (a : Option Addr) (c : Nat) (qs : List (Value × List UInt8)), recs qs = W.map (·.1) ∧ (∀ q ∈ qs, ∃ a c, q.1 = .slice a q.2.length c) ∧ u = .tuple #[.pointer (some ⟨k, 0, none⟩), .int .i64 0] ∧
      l' = row k 60 (bkC g (maxG D.now + 1 : Nat) ((lay W).length : Nat) (.slice a qs.length c) (bkH K W) (qs.length : Nat) false) :: ownP (.slice a qs.length c) qs :: diskR g D :: F) := by
  refine (open_ok hK hf hm).mono fun u l' h => ?_
  obtain ⟨k, a, c, qs, h1, h2, h3, h4⟩ := h
  have e : (readFrom D.now 0 1).map (·.1) = W.map (·.1) := by
    rw [show readFrom D.now 0 1 = W.map told from hr, List.map_map]; rfl
  rw [e] at h1
  rw [show readFrom D.now 0 1 = W.map told from hr, cnts_told 0 W, h1] at h4
  exact ⟨k, a, c, qs, h1, h2, h3, h4⟩
theorem append_c {w0 : World} {F : List HProp} {K : Ws} {k g cur c : Nat} {a : Option Addr} {qs : List (Value × List UInt8)} {W : Wr} {T : List Sec} {f : Int} {x : Value} {bs : List UInt8} (hK : Tab w0 0 64 fun j => w32 (K j)) (hb : bs.length ≤ 10000) (hrec : recs qs = W.map (·.1)) (hW : W.length ≤ 100000) (hcur : cur < 4294967296) (hr : RdO w0 F x bs.length (bcells bs)) :
    FnO Tryd.prog w0 12 [.pointer (some ⟨k, 0, none⟩), x] (row k 60 (bkC g (cur : Nat) ((lay W).length : Nat) (.slice a qs.length c) (bkH K W) (qs.length : Nat) false) :: ownP (.slice a qs.length c) qs :: diskR g (clean f (lay W ++ T)) :: F) (fun u l' =>
      (4096 < bs.length ∧ u = .int .i64 3 ∧ l' = row k 60 (bkC g (cur : Nat) ((lay W).length : Nat) (.slice a qs.length c) (bkH K W) (qs.length : Nat) false) :: ownP (.slice a qs.length c) qs :: diskR g (clean f (lay W ++ T)) :: F) ∨
      (bs.length ≤ 4096 ∧ T.length < (cut bs).length ∧ u = .int .i64 4 ∧ l' = row k 60 (bkC g (cur : Nat) ((lay W).length : Nat) (.slice a qs.length c) (bkH K W) (qs.length : Nat) false) :: ownP (.slice a qs.length c) qs :: diskR g (clean f (lay W ++ T)) :: F) ∨
      (bs.length ≤ 4096 ∧ (cut bs).length ≤ T.length ∧ u = .int .i64 0 ∧ ∃ (f' : Int) (a' : Option Addr) (c' : Nat) (a1 : Option Addr) (c1 : Nat), (f < 0 → f' = f) ∧ l' = row k 60 (bkC g (cur : Nat) ((lay (W ++ [(bs, cur)])).length : Nat) (.slice a' (qs.length + 1) c') (bkH K (W ++ [(bs, cur)])) (qs.length + 1 : Nat) false) :: ownP (.slice a' (qs.length + 1) c') (qs ++ [(.slice a1 bs.length c1, bs)]) :: diskR g (clean f' (lay (W ++ [(bs, cur)]) ++ T.drop (cut bs).length)) :: F) ∨
      (bs.length ≤ 4096 ∧ (cut bs).length ≤ T.length ∧ ¬ f < 0 ∧ (writes (clean f (lay W ++ T)) (lay W).length (secsOf (W.length + 1) cur bs)).fuse = 0 ∧ u = .int .i64 5 ∧ l' = row k 60 (bkC g (cur : Nat) ((lay W).length : Nat) (.slice a qs.length c) (bkH K W) (qs.length : Nat) true) :: ownP (.slice a qs.length c) qs :: diskR g (writes (clean f (lay W ++ T)) (lay W).length (secsOf (W.length + 1) cur bs)) :: F)) := by
  have hlq : qs.length = W.length := by have := congrArg List.length hrec; simpa using this
  have hnow : (clean f (lay W ++ T)).now.length = (lay W).length + T.length := by show (lay W ++ T).length = _; rw [List.length_append]
  refine (append_ok (n := (lay W).length) (G := cur) (cnt := qs.length) (over := false) (D := clean f (lay W ++ T)) (bs := bs) hK bkH_len hb hr (by omega) (by omega) hcur (by omega) (by show ([] : List (Nat × Sec)).length + 79 ≤ 1000; decide)).mono fun u l' h => ?_
  rcases h with ⟨e, h1, h2, h3⟩ | ⟨_, h1, h2, h3, h4, h5⟩ | ⟨_, h1, h2, h3, h4, a', c', a1, c1, h5⟩
  · cases h1 with
    | over h => cases h
    | long _ h1 => exact .inl ⟨h1, h2, h3⟩
    | full _ h1 h4 => exact .inr (.inl ⟨h1, by omega, h2, h3⟩)
  · refine .inr (.inr (.inr ⟨h1, by omega, fun hneg => ?_, by rw [← hlq]; exact h3, h4, by rw [← hlq]; exact h5⟩))
    obtain ⟨j, _, _, _, _, _, h6⟩ := writes_spec (secsOf (qs.length + 1) cur bs) (clean f (lay W ++ T)) (lay W).length (by rw [secsOf_len]; exact h2)
    rw [h6 hneg] at h3
    have : f = 0 := h3
    omega
  · refine .inr (.inr (.inl ⟨h1, by omega, h4, (writes (clean f (lay W ++ T)) (lay W).length (secsOf (W.length + 1) cur bs)).fuse, a', c', a1, c1, fun hneg => ?_, ?_⟩))
    · obtain ⟨j, _, _, _, _, _, h6⟩ := writes_spec (secsOf (W.length + 1) cur bs) (clean f (lay W ++ T)) (lay W).length (by rw [secsOf_len]; exact h2)
      exact h6 hneg
    · rw [hlq] at h3
      rw [h5, hlq, writes_clean (by omega) h3]
      have e1 : (lay (W ++ [(bs, cur)])).length = (lay W).length + (cut bs).length := by rw [lay_snoc, List.length_append, secsOf_len]
      have e2 : bkH K (W ++ [(bs, cur)]) = shaB K (linkT (bkH K W) bs) := by rw [bkH, List.map_append]; exact hsh_snoc K h0 _ bs
      rw [e1, e2]
end Go.Proofs.F

-- seat f
namespace Go.Proofs.F
open Go Go.Gp Go.RowKit
open Disk hiding spl_all

theorem New_u {w0 : World} {n : Nat} {F : List HProp} (hn : n ≤ 8192) :
    FnO Tryd.prog w0 11 [.int .i64 (n : Nat)] F (fun v l' => ∃ g, v = .pointer (some ⟨g, 0, none⟩) ∧ l' = diskR g (clean (-1) (lay [] ++ List.replicate n zsec)) :: F) := by
  have h := Disk.New_ok (w0 := w0) (n := (n : Int)) (F := F)
  rw [show size (n : Int) = n by rw [size]; omega] at h
  exact h
theorem open_s {w0 : World} {F : List HProp} {K : Ws} {g cur : Nat} {f : Int} {W : Wr} {T : List Sec} (hK : Tab w0 0 64 fun j => w32 (K j)) (hf : f ≠ 0) (hm : maxG (lay W ++ T) + 1 = cur) (hc : cur < 4294967296) (hr : readAll (lay W ++ T) = W.map told) :
    FnO Tryd.prog w0 10 [.pointer (some ⟨g, 0, none⟩)] (diskR g (clean f (lay W ++ T)) :: F) (fun u l' => ∃ (k : Nat) (a : Option Addr) (c : Nat) (qs : List (Value × List UInt8)), recs qs = W.map (·.1) ∧ (∀ q ∈ qs, ∃ a c, q.1 = .slice a q.2.length c) ∧ u = .tuple #[.pointer (some ⟨k, 0, none⟩), .int .i64 0] ∧
      l' = row k 60 (bkC g (cur : Nat) ((lay W).length : Nat) (.slice a qs.length c) (bkH K W) (qs.length : Nat) false) :: ownP (.slice a qs.length c) qs :: diskR g (clean f (lay W ++ T)) :: F) := by
  subst hm
  exact open_c (D := clean f (lay W ++ T)) hK hf (by show maxG (lay W ++ T) < _; omega) hr
theorem append_fit {w0 : World} {F : List HProp} {K : Ws} {k g cur c : Nat} {a : Option Addr} {qs : List (Value × List UInt8)} {W : Wr} {T : List Sec} {f : Int} {x : Value} {bs : List UInt8} (hK : Tab w0 0 64 fun j => w32 (K j)) (hb : bs.length ≤ 4096) (hrec : recs qs = W.map (·.1)) (hW : W.length ≤ 100000) (hcur : cur < 4294967296) (hfit : (cut bs).length ≤ T.length) (hf : f < 0) (hr : RdO w0 F x bs.length (bcells bs)) :
    FnO Tryd.prog w0 12 [.pointer (some ⟨k, 0, none⟩), x] (row k 60 (bkC g (cur : Nat) ((lay W).length : Nat) (.slice a qs.length c) (bkH K W) (qs.length : Nat) false) :: ownP (.slice a qs.length c) qs :: diskR g (clean f (lay W ++ T)) :: F) (fun u l' => ∃ (a' : Option Addr) (c' : Nat) (a1 : Option Addr) (c1 : Nat), u = .int .i64 0 ∧ l' = row k 60 (bkC g (cur : Nat) ((lay (W ++ [(bs, cur)])).length : Nat) (.slice a' (qs.length + 1) c') (bkH K (W ++ [(bs, cur)])) (qs.length + 1 : Nat) false) :: ownP (.slice a' (qs.length + 1) c') (qs ++ [(.slice a1 bs.length c1, bs)]) :: diskR g (clean f (lay (W ++ [(bs, cur)]) ++ T.drop (cut bs).length)) :: F) := by
  refine (append_c (T := T) (f := f) (bs := bs) hK (by omega) hrec hW hcur hr).mono fun u l' h => ?_
  rcases h with ⟨h, _⟩ | ⟨_, h, _⟩ | ⟨_, _, h1, f', a', c', a1, c1, h2, h3⟩ | ⟨_, _, h, _⟩
  · omega
  · omega
  · rw [h2 hf] at h3
    exact ⟨a', c', a1, c1, h1, h3⟩
  · exact absurd hf h
theorem append_53 {w0 : World} {F : List HProp} {K : Ws} {k g cur c : Nat} {a : Option Addr} {qs : List (Value × List UInt8)} {W : Wr} {T : List Sec} {f : Int} {x : Value} {t : Nat} (hK : Tab w0 0 64 fun j => w32 (K j)) (hrec : recs qs = W.map (·.1)) (hW : W.length ≤ 100000) (hcur : cur < 4294967296) (ht : T.length = t) (hfit : 2 ≤ t) (hf : f < 0) (hr : RdO w0 F x 53 (rep 53 [Value.int .u8 0])) :
    FnO Tryd.prog w0 12 [.pointer (some ⟨k, 0, none⟩), x] (row k 60 (bkC g (cur : Nat) ((lay W).length : Nat) (.slice a qs.length c) (bkH K W) (qs.length : Nat) false) :: ownP (.slice a qs.length c) qs :: diskR g (clean f (lay W ++ T)) :: F) (fun u l' => ∃ (a' : Option Addr) (c' : Nat) (qs' : List (Value × List UInt8)) (n : Nat) (h : List UInt8) (D : Dk), u = .int .i64 0 ∧ h.length = 32 ∧ n = (lay W).length + 2 ∧ D.now.length = (lay W).length + t ∧ l' = row k 60 (bkC g (cur : Nat) (n : Nat) (.slice a' (qs.length + 1) c') h (qs.length + 1 : Nat) false) :: ownP (.slice a' (qs.length + 1) c') qs' :: diskR g D :: F) := by
  rw [bcells_z] at hr
  have h53 : (cut (List.replicate 53 (0 : UInt8))).length = 2 := by rw [cut_count]; rfl
  refine (append_fit (T := T) (f := f) (bs := List.replicate 53 0) hK (by decide) hrec hW hcur (by rw [h53, ht]; exact hfit) hf hr).mono fun u l' h => ?_
  obtain ⟨a', c', a1, c1, h1, h2⟩ := h
  have e : (lay (W ++ [(List.replicate 53 (0 : UInt8), cur)])).length = (lay W).length + 2 := by rw [lay_snoc, List.length_append, secsOf_len, h53]
  refine ⟨a', c', _, _, _, _, h1, bkH_len, e, ?_, h2⟩
  show (_ ++ _ : List Sec).length = _
  rw [List.length_append, e, h53, List.length_drop]; omega
theorem awake_ok {w0 : World} {F : List HProp} {K : Ws} (hK : Tab w0 0 64 fun j => w32 (K j)) :
    FnO Tryd.prog w0 7 [] F (fun u l' => u = .bool true ∧ l' = F) := by
  have hm : maxG (lay [] ++ List.replicate 9 zsec) + 1 = 1 := by rw [show lay [] ++ List.replicate 9 zsec = List.replicate 9 zsec from rfl, maxG_new]
  have hrd : readAll (lay [] ++ List.replicate 9 zsec) = ([] : Wr).map told := (sess_new 9).read (by decide) (by decide)
  refine FnO.weak ?_
  refine FnO.intro (n := 25) Tryd.func7 rfl rfl rfl ?_
  refine J.seq ?_
  refine J.region ?_
  refine JL.pure rfl rfl (OpP.assign rfl) ?_
  refine JL.nil ?_
  refine J.seq ?_
  refine J.region ?_
  refine JL.step rfl rfl (OpW.call (first := []) (captured := []) inferInstance rfl rfl (New_u (n := 9) (by decide))) ?_; rintro r4 _ ⟨g, ⟨rfl, rfl⟩⟩
  refine JL.step rfl rfl (OpW.call (first := []) (captured := []) inferInstance rfl rfl (open_s (W := []) (T := List.replicate 9 zsec) hK (by decide) hm (by decide) hrd)) ?_; rintro r5 _ ⟨k, ⟨a, ⟨c, ⟨qs, ⟨h5, ⟨h51, ⟨rfl, rfl⟩⟩⟩⟩⟩⟩⟩
  refine JL.pure rfl rfl (OpP.move rfl) ?_
  refine JL.pure rfl rfl (OpP.extract rfl rfl) ?_
  refine JL.pure rfl rfl (OpP.extract rfl rfl) ?_
  refine JL.pure rfl rfl (OpP.assign rfl) ?_
  refine JL.pure rfl rfl (OpP.assign rfl) ?_
  refine JL.nil ?_
  have hqs : recs qs = ([] : Wr).map (·.1) := by assumption
  refine J.seq ?_
  refine J.region ?_
  refine JL.pure rfl rfl (OpP.move rfl) ?_
  refine JL.decT rfl rfl (OpP.eql rfl rfl) (by omega) ?_
  refine JL.pure rfl rfl (OpP.move rfl) ?_
  refine JL.pure rfl rfl (OpP.move rfl) ?_
  refine JL.pure rfl rfl (OpP.nePtrNil rfl rfl) ?_
  refine JL.pure rfl rfl (OpP.pickT rfl rfl) ?_
  refine JL.pure rfl rfl (OpP.move rfl) ?_
  refine JL.pure rfl rfl (OpP.move rfl) ?_
  refine JL.mem rfl rfl (by apply OpM.make (by rfl) rfl rfl <;> omega) ?_; rintro _ _ ⟨b16, rfl, rfl⟩
  refine JL.f3 ?_; refine JL.f3 ?_; refine JL.f3 ?_; refine JL.step rfl rfl (OpW.call (first := []) (captured := []) inferInstance rfl rfl (append_53 (W := []) (T := List.replicate 9 zsec) hK hqs (by decide) (by decide) (t := 9) rfl (by decide) (by decide) (RdO.ofRow .head (by first | exact Nat.le_refl _ | decide | omega)))) ?_; rintro r17 _ ⟨a', ⟨c', ⟨qs', ⟨n, ⟨h, ⟨D, ⟨rfl, ⟨h17, ⟨rfl, ⟨h171, rfl⟩⟩⟩⟩⟩⟩⟩⟩⟩⟩
  refine JL.decT rfl rfl (OpP.eql rfl rfl) (by omega) ?_
  refine JL.pure rfl rfl (OpP.pickT rfl rfl) ?_
  refine JL.pure rfl rfl (OpP.move rfl) ?_
  refine JL.pure rfl rfl (OpP.move rfl) ?_
  refine JL.f2 ?_; refine JL.f1 ?_; refine JL.step rfl rfl (OpW.call (first := []) (captured := []) inferInstance rfl rfl (Room_ok (by first | assumption | omega | rfl | exact Nat.le_of_ble_eq_true rfl | (simp; omega)))) ?_; rintro r22 _ ⟨rfl, rfl⟩
  refine JL.decT rfl rfl (OpP.eql rfl rfl) (by omega) ?_
  refine JL.pure rfl rfl (OpP.pickT rfl rfl) ?_
  refine JL.pure rfl rfl (OpP.assign rfl) ?_
  refine JL.nil ?_
  refine J.ret1 rfl rfl ?_
  exact ⟨_, ⟨rfl, rfl⟩, fun _ h => h.tail.tail.tail.tail⟩
end Go.Proofs.F

-- seat f
namespace Go.Proofs.F
open Go Go.Gp Go.RowKit
open Disk hiding spl_all

theorem cut_u {w0 : World} {F0 F : List HProp} {v : Value} {l : List UInt8} (hl : l.length ≤ 1000000) (hs : ShapeOf v l.length) (hF : ∀ w, Own w0 w F → Own w0 w F0) (hr : RdO w0 F0 v l.length (bcells l)) :
    FnO Tryd.prog w0 9 [v] F (fun u l' => ∃ (a : Option Addr) (c : Nat) (ps : List (Value × List UInt8)), recs ps = cut l ∧ (∀ p ∈ ps, (∃ a c, p.1 = .slice a p.2.length c) ∧ RdO w0 F0 p.1 p.2.length (bcells p.2)) ∧ u = .slice a ps.length c ∧ l' = own 26 1 (.slice a ps.length c) ps.length (ps.map (·.1)) :: F) :=
  refCut_ok hl hs hF hr
end Go.Proofs.F

-- seat f
namespace Go.Proofs.F
open Go Go.Gp Go.RowKit
open Disk hiding spl_all

theorem Records_o {w0 : World} {F : List HProp} {k g c : Nat} {a : Option Addr} {G n cnt : Int} {h : List UInt8} {over : Bool} {ps : List (Value × List UInt8)} (hpl : ps.length ≤ 1000000) (hrl : ∀ p ∈ ps, p.2.length ≤ 80000) (hq : ∀ q ∈ ps, ∃ a c, q.1 = .slice a q.2.length c) :
    FnO Tryd.prog w0 14 [.pointer (some ⟨k, 0, none⟩)] (row k 60 (bkC g G n (.slice a ps.length c) h cnt over) :: ownP (.slice a ps.length c) ps :: F) (fun u l' => ∃ (a2 : Option Addr) (c2 : Nat) (qs : List (Value × List UInt8)), u = .slice a2 qs.length c2 ∧ recs qs = recs ps ∧ qs.length = ps.length ∧ (∀ q ∈ qs, ∃ a c, q.1 = .slice a q.2.length c) ∧ l' = ownP (.slice a2 qs.length c2) qs :: row k 60 (bkC g G n (.slice a ps.length c) h cnt over) :: ownP (.slice a ps.length c) ps :: F) :=
  (Records_ok hpl hrl (Parts.ofOwn hq)).mono fun u l' h => by
    obtain ⟨a2, c2, qs, h1, h2, h3, h4⟩ := h
    exact ⟨a2, c2, qs, h1, h2, by have := congrArg List.length h2; simpa using this, h3, h4⟩
end Go.Proofs.F

-- seat f
namespace Go.Proofs.F
open Go Go.Gp Go.RowKit
open Disk hiding spl_all

structure OpF where
  k : Int
  N : Int
  bv : Value
  B : List UInt8
  kv : Value
  pk : List Bool
def ocell (o : OpF) : List Value := [.int .u8 o.k, .int .i64 o.N, o.bv, o.kv]
structure OpF.Ok (w0 : World) (o : OpF) : Prop where
  k0 : 0 ≤ o.k
  k1 : o.k ≤ 255
  n1 : o.N ≤ 9223372036854775807
  n0 : -9223372036854775808 ≤ o.N
  B : Rd w0 [] o.bv o.B.length (bcells o.B)
  sh : ShapeOf o.bv o.B.length
  pk : Rd w0 [] o.kv o.pk.length (o.pk.map Value.bool)
theorem ocell_len (l : List OpF) : ∀ o ∈ l, (ocell o).length = 4 := fun _ _ => rfl
theorem Fm.opF {w0 : World} {cs : List Value} (h : Fm Tryd.prog w0 46 cs) : ∃ o : OpF, o.Ok w0 ∧ cs = ocell o := by
  obtain ⟨hl, hf⟩ := h.struct Tryd.underlying46
  have h46 : Tryd.prog.cellsOf 46 = 4 := by kernel_rfl
  have h5 : Tryd.prog.cellsOf 5 = 1 := by kernel_rfl
  have h3 : Tryd.prog.cellsOf 3 = 1 := by kernel_rfl
  have h26 : Tryd.prog.cellsOf 26 = 1 := by kernel_rfl
  have h44 : Tryd.prog.cellsOf 44 = 1 := by kernel_rfl
  have h4 : Tryd.prog.cellsOf 4 = 1 := by kernel_rfl
  rw [h46] at hl
  have f0 := hf 0 _ rfl
  have f1 := hf 1 _ rfl
  have f2 := hf 2 _ rfl
  have f3 := hf 3 _ rfl
  clear hf
  dsimp only at f0 f1 f2 f3
  rw [h5] at f0
  rw [h3] at f1
  rw [h26] at f2
  rw [h44] at f3
  obtain ⟨c0, cs, rfl⟩ : ∃ c l, cs = c :: l := by cases cs with | nil => simp at hl | cons c l => exact ⟨c, l, rfl⟩
  obtain ⟨c1, cs, rfl⟩ : ∃ c l, cs = c :: l := by cases cs with | nil => simp at hl | cons c l => exact ⟨c, l, rfl⟩
  obtain ⟨c2, cs, rfl⟩ : ∃ c l, cs = c :: l := by cases cs with | nil => simp at hl | cons c l => exact ⟨c, l, rfl⟩
  obtain ⟨c3, cs, rfl⟩ : ∃ c l, cs = c :: l := by cases cs with | nil => simp at hl | cons c l => exact ⟨c, l, rfl⟩
  obtain rfl : cs = [] := by cases cs with | nil => rfl | cons c l => simp at hl
  change Fm Tryd.prog w0 5 [c0] at f0
  change Fm Tryd.prog w0 3 [c1] at f1
  change Fm Tryd.prog w0 26 [c2] at f2
  change Fm Tryd.prog w0 44 [c3] at f3
  obtain ⟨k, e0, k1⟩ := f0.int Tryd.underlying5
  obtain ⟨N, e1, n1⟩ := f1.int Tryd.underlying3
  have hsh := f2.shape Tryd.underlying26
  obtain ⟨B, _, hB⟩ := f2.bytes Tryd.underlying26 Tryd.underlying5 h5
  obtain ⟨pk, _, hpk⟩ := f3.bools Tryd.underlying44 Tryd.underlying4 h4
  simp [Lit.wf, IntKind.min, IntKind.max, IntKind.signed, IntKind.bits] at k1 n1
  cases e0
  cases e1
  refine ⟨⟨k, N, c2, B, c3, pk⟩, ⟨k1.1, k1.2, n1.2, n1.1, hB, ?_, hpk⟩, rfl⟩
  obtain ⟨a, c, e⟩ := hB.lit
  rcases hsh with h | ⟨a', n', c', h⟩
  · rw [h] at e ⊢; exact .inl rfl
  · rw [h] at e ⊢
    injection e with e1 e2 e3
    dsimp only
    rw [e2]; exact .inr ⟨_, _, rfl⟩
theorem few_ok {w0 : World} {l : List OpF} {v : Value} {n : Nat} {F : List HProp} (hn : n ≤ 99) (hr : Rd w0 [] v l.length (l.flatMap ocell)) (ho : ∀ o ∈ l, o.Ok w0) :
    FnO Tryd.prog w0 15 [v, .int .i64 (n : Nat)] F (fun u l' => ∃ b, u = .bool b ∧ l' = F ∧ (b = true → l.length ≤ n ∧ ∀ o ∈ l, o.B.length ≤ 5000 ∧ o.pk.length ≤ 200)) := by
  obtain ⟨a, c, rfl⟩ := hr.lit
  refine FnO.weak ?_
  refine FnO.intro (n := 36) Tryd.func15 rfl rfl rfl ?_
  refine J.seq ?_
  refine J.region ?_
  refine JL.pure rfl rfl (OpP.assign rfl) ?_
  refine JL.nil ?_
  refine J.seq ?_
  refine J.seq ?_
  refine J.region ?_
  refine JL.pure rfl rfl (OpP.assign rfl) ?_
  refine JL.nil ?_
  refine J.block ?_
  refine J.loopI (fun i : Nat => 300 - i) (fun i => i ≤ l.length ∧ i ≤ 100 ∧ ∀ o ∈ l.take i, o.B.length ≤ 5000 ∧ o.pk.length ≤ 200) (fun i => [(5, .int .i64 (i : Nat)), (0, .slice a l.length c), (1, .int .i64 (n : Nat))]) (fun _ => F) 0 ⟨Nat.zero_le _, Nat.zero_le _, by intro o h; cases h⟩ (by repeat (first | exact SubEnv.nil | refine SubEnv.cons (by first | rfl | exact congrArg (fun z => some (Value.int .i64 z)) (by omega) | (simp; done)) ?_)) (fun _ h => h) (fun i hi back => ?_)
  obtain ⟨hi1, hi2, hi3⟩ := hi
  by_cases hlt : i < l.length ∧ i < 100
  · obtain ⟨o, hoi⟩ : ∃ o, l[i]? = some o := ⟨_, List.getElem?_eq_getElem hlt.1⟩
    have hok := ho o (List.mem_of_getElem? hoi)
    obtain ⟨pb, po, pcap, hpv, hpc, hc⟩ := hr.pos (by omega)
    cases hpv
    obtain ⟨ba, bc, hbv⟩ := hok.B.lit
    obtain ⟨ka, kc, hkv⟩ := hok.pk.lit
    have c2 : w0.cell? ⟨pb, po + (i * 4 + 2), none⟩ = some (.slice ba o.B.length bc) := hc.base0 (chunk_get (ocell_len l) hoi (by rw [← hbv]; rfl))
    have c3 : w0.cell? ⟨pb, po + (i * 4 + 3), none⟩ = some (.slice ka o.pk.length kc) := hc.base0 (chunk_get (ocell_len l) hoi (by rw [← hkv]; rfl))
    rw [← Nat.add_assoc] at c2 c3
    refine J.seq ?_
    refine J.seq ?_
    refine J.region ?_
    refine JL.pure rfl rfl (OpP.move rfl) ?_
    refine JL.pure rfl rfl (OpP.move rfl) ?_
    refine JL.pure rfl rfl (OpP.len rfl rfl) ?_
    refine JL.decT rfl rfl (OpP.lss rfl rfl) (by omega) ?_
    refine JL.pure rfl rfl (OpP.move rfl) ?_
    refine JL.pure rfl rfl (OpP.move rfl) ?_
    refine JL.decT rfl rfl (OpP.lss rfl rfl) (by omega) ?_
    refine JL.pure rfl rfl (OpP.pickT rfl rfl) ?_
    refine JL.nil ?_
    refine J.condT rfl ?_
    refine J.skip ?_
    refine J.seq ?_
    refine J.block ?_
    refine J.seq ?_
    refine J.region ?_
    refine JL.pure rfl rfl (OpP.move rfl) ?_
    refine JL.pure rfl rfl (OpP.move rfl) ?_
    refine JL.pure rfl rfl (OpP.indexAddr rfl rfl (by omega) (by omega)) ?_
    refine JL.pure rfl rfl (OpP.fieldAddr rfl) ?_
    refine JL.read rfl rfl (OpR.load1 rfl (Cell.base (by assumption))) ?_
    refine JL.pure rfl rfl (OpP.len rfl rfl) ?_
    refine JL.dec rfl rfl (OpP.gtr rfl rfl) (fun h22 => ?_) (fun h22 => ?_)
    focus
      refine JL.pure rfl rfl (OpP.move rfl) ?_
      refine JL.skip rfl rfl ?_
      refine JL.skip rfl rfl ?_
      refine JL.skip rfl rfl ?_
      refine JL.skip rfl rfl ?_
      refine JL.skip rfl rfl ?_
      refine JL.skip rfl rfl ?_
      refine JL.skip rfl rfl ?_
      refine JL.pure rfl rfl (OpP.pickT rfl rfl) ?_
      refine JL.nil ?_
      refine J.condT rfl ?_
      refine J.seq ?_
      refine J.region ?_
      refine JL.pure rfl rfl (OpP.assign rfl) ?_
      refine JL.nil ?_
      refine J.ret1 rfl rfl ?_
    rotate_left 1
    focus
      refine JL.pure rfl rfl (OpP.move rfl) ?_
      refine JL.pure rfl rfl (OpP.move rfl) ?_
      refine JL.pure rfl rfl (OpP.move rfl) ?_
      refine JL.pure rfl rfl (OpP.indexAddr rfl rfl (by omega) (by omega)) ?_
      refine JL.pure rfl rfl (OpP.fieldAddr rfl) ?_
      refine JL.read rfl rfl (OpR.load1 rfl (Cell.base (by assumption))) ?_
      refine JL.pure rfl rfl (OpP.len rfl rfl) ?_
      refine JL.dec rfl rfl (OpP.gtr rfl rfl) (fun h30 => ?_) (fun h30 => ?_)
      focus
        refine JL.pure rfl rfl (OpP.pickF rfl rfl) ?_
        refine JL.nil ?_
        refine J.condT rfl ?_
        refine J.seq ?_
        refine J.region ?_
        refine JL.pure rfl rfl (OpP.assign rfl) ?_
        refine JL.nil ?_
        refine J.ret1 rfl rfl ?_
      rotate_left 1
      focus
        refine JL.pure rfl rfl (OpP.pickF rfl rfl) ?_
        refine JL.nil ?_
        refine J.condF rfl ?_
        refine J.skip ?_
        refine J.inBlock ?_
        refine J.region ?_
        refine JL.pure rfl rfl (OpP.move rfl) ?_
        refine JL.pure rfl rfl (OpP.addI rfl rfl (by omega) (by omega)) ?_
        refine JL.pure rfl rfl (OpP.assign rfl) ?_
        refine JL.nil ?_
      rotate_left 1
    rotate_left 2
    · exact ⟨_, ⟨false, rfl, rfl, fun h => nomatch h⟩, fun _ h => h⟩
    · exact ⟨_, ⟨false, rfl, rfl, fun h => nomatch h⟩, fun _ h => h⟩
    · refine back (i + 1) ⟨by omega, by omega, fun q hq => ?_⟩ (by omega) (by repeat (first | exact SubEnv.nil | refine SubEnv.cons (by first | rfl | exact congrArg (fun z => some (Value.int .i64 z)) (by omega) | (simp; done)) ?_)) (fun _ h => h)
      rw [List.take_add_one, hoi] at hq
      rcases List.mem_append.1 hq with hq | hq
      · exact hi3 q hq
      · simp at hq; subst hq; omega
  · refine J.seq ?_
    refine J.seq ?_
    refine J.region ?_
    refine JL.pure rfl rfl (OpP.move rfl) ?_
    refine JL.pure rfl rfl (OpP.move rfl) ?_
    refine JL.pure rfl rfl (OpP.len rfl rfl) ?_
    refine JL.dec rfl rfl (OpP.lss rfl rfl) (fun h9 => ?_) (fun h9 => ?_)
    focus
      refine JL.pure rfl rfl (OpP.move rfl) ?_
      refine JL.pure rfl rfl (OpP.move rfl) ?_
      refine JL.decF rfl rfl (OpP.lss rfl rfl) (by omega) ?_
      refine JL.pure rfl rfl (OpP.pickT rfl rfl) ?_
      refine JL.nil ?_
      refine J.condF rfl ?_
      refine J.exit rfl ?_
      refine J.seq ?_
      refine J.region ?_
      refine JL.pure rfl rfl (OpP.move rfl) ?_
      refine JL.pure rfl rfl (OpP.len rfl rfl) ?_
      refine JL.pure rfl rfl (OpP.move rfl) ?_
      refine JL.decF rfl rfl (OpP.leq rfl rfl) (by omega) ?_
      refine JL.pure rfl rfl (OpP.assign rfl) ?_
      refine JL.nil ?_
      refine J.ret1 rfl rfl ?_
    rotate_left 1
    focus
      refine JL.pure rfl rfl (OpP.move rfl) ?_
      refine JL.skip rfl rfl ?_
      refine JL.skip rfl rfl ?_
      refine JL.pure rfl rfl (OpP.pickF rfl rfl) ?_
      refine JL.nil ?_
      refine J.condF rfl ?_
      refine J.exit rfl ?_
      refine J.seq ?_
      refine J.region ?_
      refine JL.pure rfl rfl (OpP.move rfl) ?_
      refine JL.pure rfl rfl (OpP.len rfl rfl) ?_
      refine JL.pure rfl rfl (OpP.move rfl) ?_
      refine JL.dec rfl rfl (OpP.leq rfl rfl) (fun h35 => ?_) (fun h35 => ?_)
      focus
        refine JL.pure rfl rfl (OpP.assign rfl) ?_
        refine JL.nil ?_
        refine J.ret1 rfl rfl ?_
      rotate_left 1
      focus
        refine JL.pure rfl rfl (OpP.assign rfl) ?_
        refine JL.nil ?_
        refine J.ret1 rfl rfl ?_
      rotate_left 1
    rotate_left 2
    all_goals first
      | exact ⟨_, ⟨false, rfl, rfl, fun h => nomatch h⟩, fun _ h => h⟩
      | (refine ⟨_, ⟨true, rfl, rfl, fun _ => ⟨by omega, ?_⟩⟩, fun _ h => h⟩
         rw [List.take_of_length_le (by omega)] at hi3
         exact hi3)
end Go.Proofs.F

-- seat f
-- (turned from seat a)
namespace Go.Proofs.F.Disk
open Go Go.Gp Go.RowKit
end Go.Proofs.F.Disk

-- seat f
namespace Go.Proofs.F
open Go Go.Gp Go.RowKit
open Disk hiding spl_all

end Go.Proofs.F

-- seat f
namespace Go.Proofs.F
open Go Go.Gp Go.RowKit
open Disk hiding spl_all

theorem own_nil' {w0 w : World} {F : List HProp} (h : Own w0 w F) : Own w0 w [] := ⟨h.below, trivial⟩
theorem Mono.len : ∀ {least : Nat} {W : Wr} {top : Nat}, Mono least W top → ∀ w ∈ W, w.1.length ≤ 4096
  | _, [], _, _, w, hw => by cases hw
  | _, v :: W, _, ⟨_, h2, h3⟩, w, hw => by
    rcases List.mem_cons.1 hw with rfl | hw
    · exact h2
    · exact Mono.len h3 w hw
/-- The state of the disk under a book. -/
def DS (W : Wr) (cur : Nat) (T : List Sec) (over : Bool) (r : List UInt8) (D : Dk) : Prop :=
  (over = false ∧ ∃ f, D = clean f (lay W ++ T)) ∨
  (over = true ∧ D.fuse = 0 ∧ D.fl = lay W ++ T ∧ D.now.length = (lay W).length + T.length ∧ (∃ j, j ≤ 79 ∧ D.ws = numd (lay W).length ((secsOf (W.length + 1) cur r).take j)) ∧ r.length ≤ 4096)
end Go.Proofs.F
