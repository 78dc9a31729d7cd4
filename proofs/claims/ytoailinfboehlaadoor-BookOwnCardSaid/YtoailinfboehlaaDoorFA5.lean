/- A text of the proof of a statement about the given program: its part FA5. No person has read it. -/
import Derived.Test.YtoailinfboehlaaDoorFA4
import Derived.Test.YtoailinfboehlaaDoorFJ2
-- seat f
namespace Go.Proofs.F
open Go Go.Gp Go.RowKit
open Disk hiding spl_all

def writes : Dk → Nat → List Sec → Dk
  | D, _, [] => D
  | D, n, s :: ss => if D.fuse = 0 then D else writes (D.wrote n s) (n + 1) ss
def flushed (D : Dk) : Dk := if D.fuse = 0 then D else { D with fl := D.now, ws := [] }
theorem Flush_u {w0 : World} {g : Nat} {D : Dk} {F : List HProp} :
    FnO Tryd.prog w0 43 [.pointer (some ⟨g, 0, none⟩)] (diskR g D :: F) (fun v l' => v = .int .i64 (if D.fuse = 0 then 5 else 0) ∧ l' = diskR g (flushed D) :: F) := Flush_ok
theorem Write_u {w0 : World} {g n i : Nat} {D : Dk} {F : List HProp} {bv : Value} {bs : List UInt8} (hl : bs.length = 64) (hi : n + i < D.now.length) (hm : D.ws.length + 1 ≤ 1000) (hr : RdO w0 F bv 64 (bcells bs)) :
    FnO Tryd.prog w0 42 [.pointer (some ⟨g, 0, none⟩), .int .i64 ((n : Int) + (i : Nat)), bv] (diskR g D :: F) (fun v l' =>
      (D.fuse = 0 ∧ v = .int .i64 5 ∧ l' = diskR g D :: F) ∨ (D.fuse ≠ 0 ∧ v = .int .i64 0 ∧ l' = diskR g (D.wrote (n + i) bs) :: F)) := by
  rw [← hl] at hr
  refine FnO.rdF (F := F) (fun _ h => h.tail) hr fun hr1 => (Disk.Write_ok hr1 hm).mono fun v l' h => ?_
  rcases h with h | ⟨_, h, _⟩ | ⟨h1, _, _, _, h2, h3⟩
  · exact .inl h
  · exact absurd ⟨by omega, by omega, hl⟩ h
  · exact .inr ⟨h1, h2, h3⟩
theorem write_ok {w0 : World} {F : List HProp} {k g n G m c : Nat} {a : Option Addr} {cnt : Int} {h : List UInt8} {over : Bool} {v : Value} {ps : List (Value × List UInt8)} {D : Dk} (hp : Parts w0 F v ps) (hpl : ps.length ≤ 79) (h52 : ∀ p ∈ ps, p.2.length ≤ 52) (hm : m + 1 < 4294967296) (hG : G < 4294967296) (hn : n + ps.length ≤ D.now.length) (hw : D.ws.length + ps.length ≤ 1000) :
    FnO Tryd.prog w0 30 [.pointer (some ⟨k, 0, none⟩), v] (row k 60 (bkC g (G : Nat) (n : Nat) (.slice a m c) h cnt over) :: diskR g D :: F)
      (fun u l' => u = .int .i64 (if (writes D n (secsFrom (m + 1) G ps.length 0 (recs ps))).fuse = 0 then 5 else 0) ∧ l' = row k 60 (bkC g (G : Nat) (n : Nat) (.slice a m c) h cnt over) :: diskR g (flushed (writes D n (secsFrom (m + 1) G ps.length 0 (recs ps)))) :: F) := by
  refine FnO.rdF (F := F) (fun _ h => h.tail.tail) hp.rd fun hp0 => ?_
  obtain ⟨va, vc, rfl⟩ := hp0.lit
  refine FnO.fact (fun _ h => diskR_ok h.tail) fun hok => ?_
  have hsm := hok.small
  refine FnO.weak ?_
  refine FnO.intro (n := 54) Tryd.func30 rfl rfl rfl ?_
  refine J.seq ?_
  refine J.region ?_
  refine JL.pure rfl rfl (OpP.assign rfl) ?_
  refine JL.nil ?_
  refine J.seq ?_
  refine J.seq ?_
  refine J.region ?_
  refine JL.pure rfl rfl (OpP.move rfl) ?_
  refine JL.pure rfl rfl (OpP.len rfl rfl) ?_
  refine JL.pure rfl rfl (OpP.move rfl) ?_
  refine JL.nil ?_
  refine J.block ?_
  generalize hE : writes D n (secsFrom (m + 1) G ps.length 0 (recs ps)) = E
  refine J.loopI (σ := Nat × Dk) (fun x => ps.length - x.1) (fun x => x.1 ≤ ps.length ∧ writes x.2 (n + x.1) (secsFrom (m + 1) G ps.length x.1 ((recs ps).drop x.1)) = E ∧ x.2.now.length = D.now.length ∧ x.2.ws.length ≤ D.ws.length + x.1)
    (fun x => [(11, .int .i64 (x.1 : Nat)), (10, .int .i64 ps.length), (9, .slice va ps.length vc), (0, .pointer (some ⟨k, 0, none⟩)), (1, .slice va ps.length vc)])
    (fun x => row k 60 (bkC g (G : Nat) (n : Nat) (.slice a m c) h cnt over) :: diskR g x.2 :: F) (0, D) ⟨Nat.zero_le _, hE, rfl, Nat.le_refl _⟩ (by repeat (first | exact SubEnv.nil | refine SubEnv.cons (by first | rfl | exact congrArg (fun z => some (Value.int .i64 z)) (by omega) | (simp; done)) ?_)) (fun _ h => h) (fun ⟨i, D1⟩ hi back => ?_)
  dsimp only at hi back ⊢
  obtain ⟨hi1, hi2, hi3, hi4⟩ := hi
  by_cases hlt : i < ps.length
  · obtain ⟨pa, pc, p, hpi, hpv, hpr⟩ := hp.at hlt
    have hpl2 : p.length ≤ 52 := h52 _ (List.mem_of_getElem? hpi)
    have hd : (recs ps).drop i = p :: (recs ps).drop (i + 1) := by
      rw [List.drop_eq_getElem_cons (by simpa using hlt)]
      congr 1
      simp [(List.getElem?_eq_some_iff.1 hpi).2]
    rw [hd, secsFrom] at hi2
    have hs64 : (secOf (m + 1) G i ps.length p).length = 64 := secOf_len hpl2
    refine J.seq ?_
    refine J.region ?_
    refine JL.decT rfl rfl (OpP.lss rfl rfl) (by omega) ?_
    refine JL.nil ?_
    refine J.seq ?_
    refine J.condT rfl ?_
    refine J.skip ?_
    refine J.seq ?_
    refine J.block ?_
    refine J.seq ?_
    refine J.region ?_
    refine JL.pure rfl rfl (OpP.move rfl) ?_
    obtain ⟨gva, pva, qva, eva, kva, cva⟩ := hp0.pos (by omega); cases eva
    refine JL.pure rfl rfl (OpP.indexAddr rfl rfl (by omega) (by omega)) ?_
    refine JL.read rfl rfl (OpR.load1 rfl (by apply Cells.cell cva (fun _ h => Own.pick (pre := [_, _]) [] rfl h); (case' hv => assumption); (case' ho => omega); done)) ?_
    refine JL.pure rfl rfl (OpP.assign rfl) ?_
    refine JL.pure rfl rfl (OpP.assign rfl) ?_
    refine JL.nil ?_
    refine J.seq ?_
    refine J.regionD [3, 9] (by kernel_rfl) ?_
    refine DL.pure (i := 0) (by kernel_rfl) (by kernel_rfl) rfl rfl rfl (OpP.move rfl) ?_
    refine DL.pure (i := 1) (by kernel_rfl) (by kernel_rfl) rfl rfl rfl (OpP.nilCheck rfl) ?_
    refine DL.pure (i := 2) (by kernel_rfl) (by kernel_rfl) rfl rfl rfl (OpP.fieldAddr rfl) ?_
    refine DL.read (i := 3) (by kernel_rfl) (by kernel_rfl) rfl rfl rfl (fun _ h => h) (OpR.load1 rfl (Cell.bk3 .head)) ?_
    refine DL.pure (i := 4) (by kernel_rfl) (by kernel_rfl) rfl rfl rfl (OpP.len rfl rfl) ?_
    refine DL.pure (i := 5) (by kernel_rfl) (by kernel_rfl) rfl rfl rfl (OpP.addI rfl rfl (by omega) (by omega)) ?_
    refine DL.pure (i := 6) (by kernel_rfl) (by kernel_rfl) rfl rfl rfl (OpP.move rfl) ?_
    refine DL.pure (i := 7) (by kernel_rfl) (by kernel_rfl) rfl rfl rfl (OpP.nilCheck rfl) ?_
    refine DL.pure (i := 8) (by kernel_rfl) (by kernel_rfl) rfl rfl rfl (OpP.fieldAddr rfl) ?_
    refine DL.read (i := 9) (by kernel_rfl) (by kernel_rfl) rfl rfl rfl (fun _ h => h) (OpR.load1 rfl (Cell.bk1 .head)) ?_
    refine DL.pure (i := 10) (by kernel_rfl) (by kernel_rfl) rfl rfl rfl (OpP.move rfl) ?_
    refine DL.pure (i := 11) (by kernel_rfl) (by kernel_rfl) rfl rfl rfl (OpP.move rfl) ?_
    refine DL.pure (i := 12) (by kernel_rfl) (by kernel_rfl) rfl rfl rfl (OpP.len rfl rfl) ?_
    refine DL.pure (i := 13) (by kernel_rfl) (by kernel_rfl) rfl rfl rfl (OpP.build rfl (by (repeat (first | exact Fills.nil | (apply Fills.cons rfl rfl rfl; (case' hs => ((repeat (first | exact Spl.nil | apply Spl.here | apply Spl.there)); done))))))) ?_
    refine DL.pure (i := 14) (by kernel_rfl) (by kernel_rfl) rfl rfl rfl (OpP.move rfl) ?_
    refine DL.pure (i := 15) (by kernel_rfl) (by kernel_rfl) rfl rfl rfl (OpP.build rfl (by (repeat (first | exact Fills.nil | (apply Fills.cons rfl rfl rfl; (case' hs => ((repeat (first | exact Spl.nil | apply Spl.here | apply Spl.there)); done))))))) ?_
    refine DL.only (i := 16) (by kernel_rfl) ?_
    refine DL1.stepF rfl rfl rfl (by kernel_rfl) (by exact OpW.call (first := []) (captured := []) inferInstance rfl rfl (sector_ok (n := m + 1) (g := G) (p := i) (c := ps.length) (bs := p) hm hG (by omega) (by omega) hpl2 (hpr.conv fun _ h => Own.pick (pre := [_, _]) [] rfl h))) ?_; rintro r32 _ ⟨a1, ⟨k1, ⟨rfl, rfl⟩⟩⟩
    refine DL.pure (i := 17) (by kernel_rfl) (by kernel_rfl) rfl rfl rfl (OpP.assign rfl) ?_
    refine DL.done (by kernel_rfl) ?_
    refine J.seq ?_
    refine J.regionD [3, 7] (by kernel_rfl) ?_
    refine DL.pure (i := 0) (by kernel_rfl) (by kernel_rfl) rfl rfl rfl (OpP.move rfl) ?_
    refine DL.pure (i := 1) (by kernel_rfl) (by kernel_rfl) rfl rfl rfl (OpP.nilCheck rfl) ?_
    refine DL.pure (i := 2) (by kernel_rfl) (by kernel_rfl) rfl rfl rfl (OpP.fieldAddr rfl) ?_
    refine DL.read (i := 3) (by kernel_rfl) (by kernel_rfl) rfl rfl rfl (fun _ h => h) (OpR.load1 rfl (Cell.bk0 (.tail .head))) ?_
    refine DL.pure (i := 4) (by kernel_rfl) (by kernel_rfl) rfl rfl rfl (OpP.move rfl) ?_
    refine DL.pure (i := 5) (by kernel_rfl) (by kernel_rfl) rfl rfl rfl (OpP.nilCheck rfl) ?_
    refine DL.pure (i := 6) (by kernel_rfl) (by kernel_rfl) rfl rfl rfl (OpP.fieldAddr rfl) ?_
    refine DL.read (i := 7) (by kernel_rfl) (by kernel_rfl) rfl rfl rfl (fun _ h => h) (OpR.load1 rfl (Cell.bk2 (.tail .head))) ?_
    refine DL.pure (i := 8) (by kernel_rfl) (by kernel_rfl) rfl rfl rfl (OpP.move rfl) ?_
    refine DL.pure (i := 9) (by kernel_rfl) (by kernel_rfl) rfl rfl rfl (OpP.addI rfl rfl (by omega) (by omega)) ?_
    refine DL.pure (i := 10) (by kernel_rfl) (by kernel_rfl) rfl rfl rfl (OpP.move rfl) ?_
    refine DL.only (i := 11) (by kernel_rfl) ?_
    refine DL1.f2 ?_; refine DL1.stepF rfl rfl rfl (by kernel_rfl) (by exact OpW.call (first := []) (captured := []) inferInstance rfl rfl (Write_u (n := n) (i := i) (bs := secOf (m + 1) G i ps.length p) hs64 (by omega) (by omega) (RdO.own .head))) ?_; rintro r44 _ (⟨h44, ⟨rfl, rfl⟩⟩ | ⟨h441, ⟨rfl, rfl⟩⟩)
    focus
      refine DL.pure (i := 12) (by kernel_rfl) (by kernel_rfl) rfl rfl rfl (OpP.assign rfl) ?_
      refine DL.done (by kernel_rfl) ?_
    rotate_left 1
    focus
      refine DL.pure (i := 12) (by kernel_rfl) (by kernel_rfl) rfl rfl rfl (OpP.assign rfl) ?_
      refine DL.done (by kernel_rfl) ?_
    rotate_left 1
    · rw [writes, if_pos (by assumption)] at hi2
      subst hi2
      refine J.seq ?_
      refine J.region ?_
      refine JL.pure rfl rfl (OpP.move rfl) ?_
      refine JL.decT rfl rfl (OpP.neq rfl rfl) (by omega) ?_
      refine JL.nil ?_
      refine J.condT rfl ?_
      refine J.seq ?_
      refine J.region ?_
      refine JL.pure rfl rfl (OpP.move rfl) ?_
      refine JL.pure rfl rfl (OpP.assign rfl) ?_
      refine JL.nil ?_
      refine J.ret1 rfl rfl ?_
      refine ⟨_, ⟨by rw [if_pos (by assumption)], rfl⟩, fun _ h => ?_⟩
      rw [flushed, if_pos (by assumption)]
      exact Own.pick (pre := [_, _, _]) [2, 0] rfl h
    · rw [writes, if_neg (by assumption)] at hi2
      refine J.seq ?_
      refine J.region ?_
      refine JL.pure rfl rfl (OpP.move rfl) ?_
      refine JL.decF rfl rfl (OpP.neq rfl rfl) (by omega) ?_
      refine JL.nil ?_
      refine J.condF rfl ?_
      refine J.skip ?_
      refine J.inBlock ?_
      refine J.region ?_
      refine JL.pure rfl rfl (OpP.addI rfl rfl (by omega) (by omega)) ?_
      refine JL.pure rfl rfl (OpP.move rfl) ?_
      refine JL.nil ?_
      refine back (i + 1, D1.wrote (n + i) (secOf (m + 1) G i ps.length p)) ⟨by dsimp only; omega, hi2, ?_, ?_⟩ (by dsimp only; omega) (by repeat (first | exact SubEnv.nil | refine SubEnv.cons (by first | rfl | exact congrArg (fun z => some (Value.int .i64 z)) (by omega) | (simp; done)) ?_)) (fun _ h => Own.pick (pre := [_, _, _]) [2, 0] rfl h)
      · simp only [Dk.wrote, List.length_set]; exact hi3
      · simp only [Dk.wrote, List.length_append, List.length_singleton]; omega
  · have : i = ps.length := by omega
    subst this
    rw [List.drop_of_length_le (by simp)] at hi2
    change D1 = E at hi2
    subst hi2
    refine J.seq ?_
    refine J.region ?_
    refine JL.decF rfl rfl (OpP.lss rfl rfl) (by omega) ?_
    refine JL.nil ?_
    refine J.seq ?_
    refine J.condF rfl ?_
    refine J.exit rfl ?_
    refine J.seq ?_
    refine J.region ?_
    refine JL.pure rfl rfl (OpP.move rfl) ?_
    refine JL.pure rfl rfl (OpP.nilCheck rfl) ?_
    refine JL.pure rfl rfl (OpP.fieldAddr rfl) ?_
    refine JL.read rfl rfl (OpR.load1 rfl (Cell.bk0 .head)) ?_
    refine JL.f1 ?_; refine JL.step rfl rfl (OpW.call (first := []) (captured := []) inferInstance rfl rfl Flush_u) ?_; rintro r53 _ ⟨rfl, rfl⟩
    refine JL.pure rfl rfl (OpP.assign rfl) ?_
    refine JL.nil ?_
    refine J.ret1 rfl rfl ?_
    exact ⟨_, ⟨rfl, rfl⟩, fun _ h => Own.f1 h⟩
end Go.Proofs.F

-- seat f
namespace Go.Proofs.F
open Go Go.Gp Go.RowKit
open Disk hiding spl_all

theorem parts_u {w0 : World} {F0 F : List HProp} {v : Value} {l : List UInt8} (hl : l.length ≤ 1000000) (hF : ∀ w, Own w0 w F → Own w0 w F0) (hr : RdO w0 F0 v l.length (bcells l)) :
    FnO Tryd.prog w0 29 [v] F (fun u l' => ∃ (a : Option Addr) (c : Nat) (ps : List (Value × List UInt8)), recs ps = cut l ∧ (∀ p ∈ ps, (∃ a c, p.1 = .slice a p.2.length c) ∧ RdO w0 F0 p.1 p.2.length (bcells p.2)) ∧ u = .slice a ps.length c ∧ l' = own 26 1 (.slice a ps.length c) ps.length (ps.map (·.1)) :: F) :=
  parts_ok hl hF hr
/-- What Append answers. -/
inductive AppR (D : Dk) (n G m : Nat) (over : Bool) (bs : List UInt8) : Int → Prop where
  | over (h : over = true) : AppR D n G m over bs 5
  | long (h : over = false) (h1 : 4096 < bs.length) : AppR D n G m over bs 3
  | full (h : over = false) (h1 : bs.length ≤ 4096) (h2 : D.now.length - n < (cut bs).length) : AppR D n G m over bs 4
def AppendPost (F : List HProp) (K : Ws) (k g G n cnt : Nat) (a : Option Addr) (c : Nat) (qs : List (Value × List UInt8)) (h : List UInt8) (over : Bool) (D : Dk) (bs : List UInt8) (u : Value) (l' : List HProp) : Prop :=
  (∃ e, AppR D n G qs.length over bs e ∧ u = .int .i64 e ∧ l' = row k 60 (bkC g (G : Nat) (n : Nat) (.slice a qs.length c) h (cnt : Nat) over) :: ownP (.slice a qs.length c) qs :: diskR g D :: F) ∨
  (over = false ∧ bs.length ≤ 4096 ∧ n + (cut bs).length ≤ D.now.length ∧ (writes D n (secsOf (qs.length + 1) G bs)).fuse = 0 ∧ u = .int .i64 5 ∧
    l' = row k 60 (bkC g (G : Nat) (n : Nat) (.slice a qs.length c) h (cnt : Nat) true) :: ownP (.slice a qs.length c) qs :: diskR g (writes D n (secsOf (qs.length + 1) G bs)) :: F) ∨
  (over = false ∧ bs.length ≤ 4096 ∧ n + (cut bs).length ≤ D.now.length ∧ (writes D n (secsOf (qs.length + 1) G bs)).fuse ≠ 0 ∧ u = .int .i64 0 ∧
    ∃ a' c' a1 c1, l' = row k 60 (bkC g (G : Nat) (n + (cut bs).length : Nat) (.slice a' (qs.length + 1) c') (shaB K (linkT h bs)) (cnt + 1 : Nat) false) :: ownP (.slice a' (qs.length + 1) c') (qs ++ [(.slice a1 bs.length c1, bs)]) :: diskR g (flushed (writes D n (secsOf (qs.length + 1) G bs))) :: F)
theorem append_ok {w0 : World} {F : List HProp} {K : Ws} {k g G n cnt c : Nat} {a : Option Addr} {qs : List (Value × List UInt8)} {h : List UInt8} {over : Bool} {D : Dk} {x : Value} {bs : List UInt8} (hK : Tab w0 0 64 fun j => w32 (K j)) (hh : h.length = 32) (hb : bs.length ≤ 10000) (hr : RdO w0 F x bs.length (bcells bs)) (hq : qs.length ≤ 100000) (hc : cnt ≤ 100000) (hG : G < 4294967296) (hn : n ≤ D.now.length) (hw : D.ws.length + 79 ≤ 1000) :
    FnO Tryd.prog w0 12 [.pointer (some ⟨k, 0, none⟩), x] (row k 60 (bkC g (G : Nat) (n : Nat) (.slice a qs.length c) h (cnt : Nat) over) :: ownP (.slice a qs.length c) qs :: diskR g D :: F) (AppendPost F K k g G n cnt a c qs h over D bs) := by
  refine FnO.rdF (F := F) (fun _ h => h.tail.tail.tail) hr fun hr1 => ?_
  obtain ⟨va, vc, rfl⟩ := hr1.lit
  refine FnO.fact (fun _ h => diskR_ok h.tail.tail) fun hok => ?_
  have hsm := hok.small
  have hcc := cut_count bs
  refine FnO.weak ?_
  refine FnO.intro (n := 38) Tryd.func12 rfl rfl rfl ?_
  refine J.seq ?_
  refine J.region ?_
  refine JL.pure rfl rfl (OpP.assign rfl) ?_
  refine JL.nil ?_
  refine J.seq ?_
  refine J.region ?_
  refine JL.pure rfl rfl (OpP.move rfl) ?_
  refine JL.step rfl rfl (OpW.call (first := []) (captured := []) inferInstance rfl rfl (parts_u (F0 := F) (l := bs) (by omega) (fun _ h => h.tail.tail.tail) hr)) ?_; rintro r8 _ ⟨a1, ⟨c1, ⟨ps, ⟨h8, ⟨h81, ⟨rfl, rfl⟩⟩⟩⟩⟩⟩
  refine JL.pure rfl rfl (OpP.assign rfl) ?_
  refine JL.nil ?_
  refine J.seq ?_
  refine J.block ?_
  have hrec : recs ps = cut bs := by assumption
  have hps : ∀ p ∈ ps, (∃ a c, p.1 = .slice a p.2.length c) ∧ RdO w0 F p.1 p.2.length (bcells p.2) := by assumption
  have hpl : ps.length = (cut bs).length := by rw [← hrec]; simp
  have h52 : ∀ p ∈ ps, p.2.length ≤ 52 := fun p hp => cut_part p.2 (by rw [← hrec]; exact List.mem_map_of_mem hp)
  have hP := CutPost.parts (r := .slice a1 ps.length c1) hps
  refine J.conv (l' := row k 60 (bkC g (G : Nat) (n : Nat) (.slice a qs.length c) h (cnt : Nat) over) :: ownP (.slice a qs.length c) qs :: diskR g D :: (own 26 1 (.slice a1 ps.length c1) ps.length (ps.map (fun q : Value × List UInt8 => q.1)) :: F)) (fun _ h => Own.pick (pre := [_, _, _, _]) [1, 2, 3, 0] rfl h) ?_
  have hx : RdO w0 (own 26 1 (.slice a1 ps.length c1) ps.length (ps.map (fun q : Value × List UInt8 => q.1)) :: F) (.slice va bs.length vc) bs.length (bcells bs) := hr.conv fun _ h => h.tail
  have hss : secsFrom (qs.length + 1) G ps.length 0 (recs ps) = secsOf (qs.length + 1) G bs := by rw [hrec, hpl]; rfl
  generalize hF1 : own 26 1 (.slice a1 ps.length c1) ps.length (ps.map (fun q : Value × List UInt8 => q.1)) :: F = F1 at hP hx ⊢
  cases over
  case true =>
    refine J.seq ?_
    refine J.region ?_
    refine JL.pure rfl rfl (OpP.move rfl) ?_
    refine JL.pure rfl rfl (OpP.nilCheck rfl) ?_
    refine JL.pure rfl rfl (OpP.fieldAddr rfl) ?_
    refine JL.read rfl rfl (OpR.load1 rfl (Cell.bkO .head (by first | assumption | exact hsh_len (by assumption) _ | solve_by_elim))) ?_
    refine JL.pure rfl rfl (OpP.assign rfl) ?_
    refine JL.nil ?_
    refine J.condT rfl ?_
    refine J.seq ?_
    refine J.region ?_
    refine JL.pure rfl rfl (OpP.assign rfl) ?_
    refine JL.nil ?_
    refine J.ret1 rfl rfl ?_
    refine ⟨_, .inl ⟨5, .over rfl, rfl, rfl⟩, fun _ h => ?_⟩
    rw [← hF1] at h
    exact Own.pick (pre := [_, _, _, _]) [0, 1, 2] rfl h
  case false =>
    by_cases hlong : 4096 < bs.length
    · refine J.seq ?_
      refine J.region ?_
      refine JL.pure rfl rfl (OpP.move rfl) ?_
      refine JL.pure rfl rfl (OpP.nilCheck rfl) ?_
      refine JL.pure rfl rfl (OpP.fieldAddr rfl) ?_
      refine JL.read rfl rfl (OpR.load1 rfl (Cell.bkO .head (by first | assumption | exact hsh_len (by assumption) _ | solve_by_elim))) ?_
      refine JL.pure rfl rfl (OpP.assign rfl) ?_
      refine JL.nil ?_
      refine J.condF rfl ?_
      refine J.seq ?_
      refine J.region ?_
      refine JL.pure rfl rfl (OpP.move rfl) ?_
      refine JL.pure rfl rfl (OpP.len rfl rfl) ?_
      refine JL.decT rfl rfl (OpP.gtr rfl rfl) (by omega) ?_
      refine JL.pure rfl rfl (OpP.assign rfl) ?_
      refine JL.nil ?_
      refine J.condT rfl ?_
      refine J.seq ?_
      refine J.region ?_
      refine JL.pure rfl rfl (OpP.assign rfl) ?_
      refine JL.nil ?_
      refine J.ret1 rfl rfl ?_
      refine ⟨_, .inl ⟨3, .long rfl hlong, rfl, rfl⟩, fun _ h => ?_⟩
      rw [← hF1] at h
      exact Own.pick (pre := [_, _, _, _]) [0, 1, 2] rfl h
    · have h79 := cut_79 (r := bs) (by omega)
      by_cases hroom : n + ps.length ≤ D.now.length
      · by_cases hfz : (writes D n (secsOf (qs.length + 1) G bs)).fuse = 0
        · have hW : ∀ {F' : List HProp} (_ : Parts w0 F' (.slice a1 ps.length c1) ps), FnO Tryd.prog w0 30 [.pointer (some ⟨k, 0, none⟩), .slice a1 ps.length c1] (row k 60 (bkC g (G : Nat) (n : Nat) (.slice a qs.length c) h (cnt : Nat) false) :: diskR g D :: F') (fun u l' => u = .int .i64 5 ∧ l' = row k 60 (bkC g (G : Nat) (n : Nat) (.slice a qs.length c) h (cnt : Nat) false) :: diskR g (writes D n (secsOf (qs.length + 1) G bs)) :: F') := fun {F'} hp' => by
            have := write_ok (k := k) (g := g) (m := qs.length) (a := a) (c := c) (cnt := cnt) (h := h) (over := false) hp' (by omega) h52 (by omega) hG hroom (by omega)
            rw [hss, if_pos hfz, flushed, if_pos hfz] at this
            exact this
          refine J.seq ?_
          refine J.region ?_
          refine JL.pure rfl rfl (OpP.move rfl) ?_
          refine JL.pure rfl rfl (OpP.nilCheck rfl) ?_
          refine JL.pure rfl rfl (OpP.fieldAddr rfl) ?_
          refine JL.read rfl rfl (OpR.load1 rfl (Cell.bkO .head (by first | assumption | exact hsh_len (by assumption) _ | solve_by_elim))) ?_
          refine JL.pure rfl rfl (OpP.assign rfl) ?_
          refine JL.nil ?_
          refine J.condF rfl ?_
          refine J.seq ?_
          refine J.region ?_
          refine JL.pure rfl rfl (OpP.move rfl) ?_
          refine JL.pure rfl rfl (OpP.len rfl rfl) ?_
          refine JL.decF rfl rfl (OpP.gtr rfl rfl) (by omega) ?_
          refine JL.pure rfl rfl (OpP.assign rfl) ?_
          refine JL.nil ?_
          refine J.condF rfl ?_
          refine J.seq ?_
          refine J.region ?_
          refine JL.pure rfl rfl (OpP.move rfl) ?_
          refine JL.pure rfl rfl (OpP.len rfl rfl) ?_
          refine JL.pure rfl rfl (OpP.move rfl) ?_
          refine JL.f2 ?_; refine JL.f1 ?_; refine JL.step rfl rfl (OpW.call (first := []) (captured := []) inferInstance rfl rfl (Room_ok (D := D) hn)) ?_; rintro r22 _ ⟨rfl, rfl⟩
          refine JL.decF rfl rfl (OpP.gtr rfl rfl) (by omega) ?_
          refine JL.pure rfl rfl (OpP.assign rfl) ?_
          refine JL.nil ?_
          refine J.condF rfl ?_
          refine J.skip ?_
          refine J.inBlock ?_
          refine J.seq ?_
          refine J.seq ?_
          refine J.region ?_
          refine JL.pure rfl rfl (OpP.move rfl) ?_
          refine JL.pure rfl rfl (OpP.move rfl) ?_
          refine JL.step rfl rfl (OpW.call (first := []) (captured := []) inferInstance rfl rfl (hW (hP.conv (fun _ h => Own.pick (pre := [_]) [] rfl h)))) ?_; rintro r26 _ ⟨rfl, rfl⟩
          refine JL.pure rfl rfl (OpP.assign rfl) ?_
          refine JL.nil ?_
          refine J.seq ?_
          refine J.region ?_
          refine JL.pure rfl rfl (OpP.move rfl) ?_
          refine JL.decT rfl rfl (OpP.neq rfl rfl) (by omega) ?_
          refine JL.nil ?_
          refine J.condT rfl ?_
          refine J.seq ?_
          refine J.region ?_
          refine JL.pure rfl rfl (OpP.move rfl) ?_
          refine JL.pure rfl rfl (OpP.nilCheck rfl) ?_
          refine JL.pure rfl rfl (OpP.fieldAddr rfl) ?_
          refine JL.mem0 rfl (by apply OpM.store1 rfl rfl rfl; (case' hu => exact .head); (case' hs => exact spl_bkO (by first | assumption | exact shaB_length _ _ | exact hsh_len (by assumption) _ | solve_by_elim)); done) ?_; rintro _ _ ⟨rfl, rfl⟩
          refine JL.nil ?_
          refine J.seq ?_
          refine J.region ?_
          refine JL.pure rfl rfl (OpP.move rfl) ?_
          refine JL.pure rfl rfl (OpP.assign rfl) ?_
          refine JL.nil ?_
          refine J.ret1 rfl rfl ?_
          refine ⟨_, .inr (.inl ⟨rfl, by omega, by omega, hfz, rfl, rfl⟩), fun _ h => ?_⟩
          rw [← hF1] at h
          exact Own.pick (pre := [_, _, _, _]) [0, 2, 1] rfl h
        · have hW : ∀ {F' : List HProp} (_ : Parts w0 F' (.slice a1 ps.length c1) ps), FnO Tryd.prog w0 30 [.pointer (some ⟨k, 0, none⟩), .slice a1 ps.length c1] (row k 60 (bkC g (G : Nat) (n : Nat) (.slice a qs.length c) h (cnt : Nat) false) :: diskR g D :: F') (fun u l' => u = .int .i64 0 ∧ l' = row k 60 (bkC g (G : Nat) (n : Nat) (.slice a qs.length c) h (cnt : Nat) false) :: diskR g (flushed (writes D n (secsOf (qs.length + 1) G bs))) :: F') := fun {F'} hp' => by
            have := write_ok (k := k) (g := g) (m := qs.length) (a := a) (c := c) (cnt := cnt) (h := h) (over := false) hp' (by omega) h52 (by omega) hG hroom (by omega)
            rw [hss, if_neg hfz] at this
            exact this
          refine J.seq ?_
          refine J.region ?_
          refine JL.pure rfl rfl (OpP.move rfl) ?_
          refine JL.pure rfl rfl (OpP.nilCheck rfl) ?_
          refine JL.pure rfl rfl (OpP.fieldAddr rfl) ?_
          refine JL.read rfl rfl (OpR.load1 rfl (Cell.bkO .head (by first | assumption | exact hsh_len (by assumption) _ | solve_by_elim))) ?_
          refine JL.pure rfl rfl (OpP.assign rfl) ?_
          refine JL.nil ?_
          refine J.condF rfl ?_
          refine J.seq ?_
          refine J.region ?_
          refine JL.pure rfl rfl (OpP.move rfl) ?_
          refine JL.pure rfl rfl (OpP.len rfl rfl) ?_
          refine JL.decF rfl rfl (OpP.gtr rfl rfl) (by omega) ?_
          refine JL.pure rfl rfl (OpP.assign rfl) ?_
          refine JL.nil ?_
          refine J.condF rfl ?_
          refine J.seq ?_
          refine J.region ?_
          refine JL.pure rfl rfl (OpP.move rfl) ?_
          refine JL.pure rfl rfl (OpP.len rfl rfl) ?_
          refine JL.pure rfl rfl (OpP.move rfl) ?_
          refine JL.f2 ?_; refine JL.f1 ?_; refine JL.step rfl rfl (OpW.call (first := []) (captured := []) inferInstance rfl rfl (Room_ok (D := D) hn)) ?_; rintro r22 _ ⟨rfl, rfl⟩
          refine JL.decF rfl rfl (OpP.gtr rfl rfl) (by omega) ?_
          refine JL.pure rfl rfl (OpP.assign rfl) ?_
          refine JL.nil ?_
          refine J.condF rfl ?_
          refine J.skip ?_
          refine J.inBlock ?_
          refine J.seq ?_
          refine J.seq ?_
          refine J.region ?_
          refine JL.pure rfl rfl (OpP.move rfl) ?_
          refine JL.pure rfl rfl (OpP.move rfl) ?_
          refine JL.step rfl rfl (OpW.call (first := []) (captured := []) inferInstance rfl rfl (hW (hP.conv (fun _ h => Own.pick (pre := [_]) [] rfl h)))) ?_; rintro r26 _ ⟨rfl, rfl⟩
          refine JL.pure rfl rfl (OpP.assign rfl) ?_
          refine JL.nil ?_
          refine J.seq ?_
          refine J.region ?_
          refine JL.pure rfl rfl (OpP.move rfl) ?_
          refine JL.decF rfl rfl (OpP.neq rfl rfl) (by omega) ?_
          refine JL.nil ?_
          refine J.condF rfl ?_
          refine J.skip ?_
          refine J.seq ?_
          refine J.region ?_
          refine JL.pure rfl rfl (OpP.move rfl) ?_
          refine JL.pure rfl rfl (OpP.move rfl) ?_
          refine JL.pure rfl rfl (OpP.move rfl) ?_
          refine JL.pure rfl rfl (OpP.len rfl rfl) ?_
          refine JL.f2 ?_; refine JL.f1 ?_; refine JL.step rfl rfl (OpW.call (first := []) (captured := []) inferInstance rfl rfl (take_u (n := n) (m := ps.length) (bs := bs) hK hh (by omega) (hx.conv fun _ h => Own.pick (pre := [_]) [] rfl h) (by first | assumption | omega | rfl | exact Nat.le_of_ble_eq_true rfl | (simp; omega)) (by first | assumption | omega | rfl | exact Nat.le_of_ble_eq_true rfl | (simp; omega)) (by first | assumption | omega | rfl | exact Nat.le_of_ble_eq_true rfl | (simp; omega)))) ?_; rintro r37 _ ⟨a2, ⟨c2, ⟨a11, ⟨c11, ⟨rfl, rfl⟩⟩⟩⟩⟩
          refine JL.nil ?_
          refine J.seq ?_
          refine J.region ?_
          refine JL.pure rfl rfl (OpP.assign rfl) ?_
          refine JL.nil ?_
          refine J.ret1 rfl rfl ?_
          rw [hpl]
          refine ⟨_, .inr (.inr ⟨rfl, by omega, by omega, hfz, rfl, a2, c2, a11, c11, rfl⟩), fun _ h => ?_⟩
          rw [← hF1] at h
          exact Own.pick (pre := [_, _, _, _]) [0, 1, 2] rfl h
      · refine J.seq ?_
        refine J.region ?_
        refine JL.pure rfl rfl (OpP.move rfl) ?_
        refine JL.pure rfl rfl (OpP.nilCheck rfl) ?_
        refine JL.pure rfl rfl (OpP.fieldAddr rfl) ?_
        refine JL.read rfl rfl (OpR.load1 rfl (Cell.bkO .head (by first | assumption | exact hsh_len (by assumption) _ | solve_by_elim))) ?_
        refine JL.pure rfl rfl (OpP.assign rfl) ?_
        refine JL.nil ?_
        refine J.condF rfl ?_
        refine J.seq ?_
        refine J.region ?_
        refine JL.pure rfl rfl (OpP.move rfl) ?_
        refine JL.pure rfl rfl (OpP.len rfl rfl) ?_
        refine JL.decF rfl rfl (OpP.gtr rfl rfl) (by omega) ?_
        refine JL.pure rfl rfl (OpP.assign rfl) ?_
        refine JL.nil ?_
        refine J.condF rfl ?_
        refine J.seq ?_
        refine J.region ?_
        refine JL.pure rfl rfl (OpP.move rfl) ?_
        refine JL.pure rfl rfl (OpP.len rfl rfl) ?_
        refine JL.pure rfl rfl (OpP.move rfl) ?_
        refine JL.f2 ?_; refine JL.f1 ?_; refine JL.step rfl rfl (OpW.call (first := []) (captured := []) inferInstance rfl rfl (Room_ok (D := D) hn)) ?_; rintro r22 _ ⟨rfl, rfl⟩
        refine JL.decT rfl rfl (OpP.gtr rfl rfl) (by omega) ?_
        refine JL.pure rfl rfl (OpP.assign rfl) ?_
        refine JL.nil ?_
        refine J.condT rfl ?_
        refine J.seq ?_
        refine J.region ?_
        refine JL.pure rfl rfl (OpP.assign rfl) ?_
        refine JL.nil ?_
        refine J.ret1 rfl rfl ?_
        refine ⟨_, .inl ⟨4, .full rfl (by omega) (by omega), rfl, rfl⟩, fun _ h => ?_⟩
        rw [← hF1] at h
        exact Own.pick (pre := [_, _, _, _]) [0, 2, 1] rfl h
end Go.Proofs.F

-- seat f
namespace Go.Proofs.F
open Go Go.Gp Go.RowKit
open Disk hiding spl_all

/-- Sectors with their places. -/
def numd : Nat → List Sec → List (Nat × Sec)
  | _, [] => []
  | n, s :: l => (n, s) :: numd (n + 1) l
theorem writes_spec : ∀ (ss : List Sec) (D : Dk) (n : Nat), n + ss.length ≤ D.now.length → ∃ j, j ≤ ss.length ∧ (writes D n ss).now = D.now.take n ++ ss.take j ++ D.now.drop (n + j) ∧ (writes D n ss).fl = D.fl ∧ (writes D n ss).ws = D.ws ++ numd n (ss.take j) ∧ ((writes D n ss).fuse ≠ 0 → j = ss.length) ∧ (D.fuse < 0 → (writes D n ss).fuse = D.fuse)
  | [], D, n, _ => ⟨0, Nat.le_refl _, by simp [writes], rfl, by simp [writes, numd], fun _ => rfl, fun _ => rfl⟩
  | s :: ss, D, n, h => by
    rw [List.length_cons] at h
    by_cases hf : D.fuse = 0
    · rw [writes, if_pos hf]
      exact ⟨0, Nat.zero_le _, by simp, rfl, by simp [numd], fun h => absurd hf h, fun _ => rfl⟩
    · rw [writes, if_neg hf]
      obtain ⟨j, h1, h2, h3, h4, h5, h6⟩ := writes_spec ss (D.wrote n s) (n + 1) (by simp only [Dk.wrote, List.length_set]; omega)
      refine ⟨j + 1, by rw [List.length_cons]; omega, ?_, h3, ?_, fun h => by rw [List.length_cons, h5 h], fun hneg => ?_⟩
      · rw [h2]
        simp only [Dk.wrote]
        rw [List.take_set, List.drop_set_of_lt (by omega), List.take_add_one, List.getElem?_eq_getElem (by omega), List.take_succ_cons]
        rw [Option.toList_some, List.set_append_right (s := D.now.take n) _ _ (by simp [List.length_take]; omega)]
        rw [show n - (D.now.take n).length = 0 by rw [List.length_take]; omega, show n + 1 + j = n + (j + 1) by omega]
        simp
      · rw [h4]
        simp [Dk.wrote, numd]
      · have e : (D.wrote n s).fuse = D.fuse := by simp only [Dk.wrote, burnt]; rw [if_neg (by omega)]
        rw [h6 (by rw [e]; exact hneg), e]
/-- A disk without anything that waits. -/
def clean (f : Int) (l : List Sec) : Dk := { fuse := f, fl := l, now := l, ws := [] }
theorem flushed_now {D : Dk} (h : D.fuse ≠ 0) : flushed D = clean D.fuse D.now := by rw [flushed, if_neg h]; rfl
/-- An append to a clean disk. -/
theorem writes_clean {f : Int} {W : Wr} {cur : Nat} {T : List Sec} {bs : List UInt8} (hfit : (cut bs).length ≤ T.length) (h : (writes (clean f (lay W ++ T)) (lay W).length (secsOf (W.length + 1) cur bs)).fuse ≠ 0) :
    flushed (writes (clean f (lay W ++ T)) (lay W).length (secsOf (W.length + 1) cur bs)) = clean (writes (clean f (lay W ++ T)) (lay W).length (secsOf (W.length + 1) cur bs)).fuse (lay (W ++ [(bs, cur)]) ++ T.drop (cut bs).length) := by
  obtain ⟨j, h1, h2, _, _, h5, _⟩ := writes_spec (secsOf (W.length + 1) cur bs) (clean f (lay W ++ T)) (lay W).length (by rw [secsOf_len]; show _ ≤ (lay W ++ T).length; rw [List.length_append]; omega)
  have hj := h5 h
  subst hj
  rw [flushed_now h]
  congr 1
  rw [h2, lay_snoc, List.take_length, secsOf_len]
  show (lay W ++ T).take _ ++ _ ++ (lay W ++ T).drop _ = _
  rw [List.take_left, List.drop_append]
  simp
theorem cnts_told : ∀ (k : Nat) (W : Wr), cnts (W.map told) = (layF k W).length
  | _, [] => rfl
  | k, w :: W => by
    rw [layF, List.length_append, secsOf_len, ← cnts_told (k + 1) W]
    simp [cnts, told]
theorem num_z : num zsec = 0 := by decide +kernel
theorem gen_z : gen zsec = 0 := by decide +kernel
theorem maxG_new (n : Nat) : maxG (List.replicate n zsec) = 0 := Nat.le_zero.1 (maxG_le fun s hs => by rw [(List.mem_replicate.1 hs).2, gen_z]; exact Nat.le_refl _)
theorem sess_new (n : Nat) : Sess [] 1 (List.replicate n zsec) := by
  have h := Sess.fresh (W := []) (cur := 1) (T := List.replicate n zsec) (Nat.le_refl _) (by omega) (by decide) (fun s hs => by rw [(List.mem_replicate.1 hs).2, num_z]; exact Nat.zero_le _) (standP_none_of fun s hs => by rw [(List.mem_replicate.1 (List.mem_of_getElem? hs)).2, num_z]; decide)
  rwa [show lay [] ++ List.replicate n zsec = List.replicate n zsec from rfl, maxG_new] at h
end Go.Proofs.F

-- seat f
namespace Go.Proofs.F
open Go Go.Gp Go.RowKit
open Disk hiding spl_all

/-- The fingerprint of what was written. -/
def bkH (K : Ws) (W : Wr) : List UInt8 := hsh K h0 (W.map (·.1))
theorem bkH_len {K : Ws} {W : Wr} : (bkH K W).length = 32 := hsh_len (by simp [h0]) _
theorem open_c {w0 : World} {F : List HProp} {K : Ws} {g : Nat} {D : Dk} {W : Wr} (hK : Tab w0 0 64 fun j => w32 (K j)) (hf : D.fuse ≠ 0) (hm : maxG D.now < 4294967295) (hr : readAll D.now = W.map told) :
    FnO Tryd.prog w0 10 [.pointer (some ⟨g, 0, none⟩)] (diskR g D :: F) (fun u l' => ∃ (k : Nat) (a : Option Addr) (c : Nat) (qs : List (Value × List UInt8)), recs qs = W.map (·.1) ∧ (∀ q ∈ qs, ∃ a c, q.1 = .slice a q.2.length c) ∧ u = .tuple #[.pointer (some ⟨k, 0, none⟩), .int .i64 0] ∧
      l' = row k 60 (bkC g (maxG D.now + 1 : Nat) ((lay W).length : Nat) (.slice a qs.length c) (bkH K W) (qs.length : Nat) false) :: ownP (.slice a qs.length c) qs :: diskR g D :: F) := by
  refine (open_ok hK hf hm).mono fun u l' h => ?_
  obtain ⟨k, a, c, qs, h1, h2, h3, h4⟩ := h
  have e : (readFrom D.now 0 1).map (·.1) = W.map (·.1) := by
    rw [show readFrom D.now 0 1 = W.map told from hr, List.map_map]; rfl
  rw [e] at h1
  rw [show readFrom D.now 0 1 = W.map told from hr, cnts_told 0 W, h1] at h4
  exact ⟨k, a, c, qs, h1, h2, h3, h4⟩
theorem append_c {w0 : World} {F : List HProp} {K : Ws} {k g cur c : Nat} {a : Option Addr} {qs : List (Value × List UInt8)} {W : Wr} {T : List Sec} {f : Int} {x : Value} {bs : List UInt8} (hK : Tab w0 0 64 fun j => w32 (K j)) (hb : bs.length ≤ 10000) (hrec : recs qs = W.map (·.1)) (hW : W.length ≤ 100000) (hcur : cur < 4294967296) (hr : RdO w0 F x bs.length (bcells bs)) :
    FnO Tryd.prog w0 12 [.pointer (some ⟨k, 0, none⟩), x] (row k 60 (bkC g (cur : Nat) ((lay W).length : Nat) (.slice a qs.length c) (bkH K W) (qs.length : Nat) false) :: ownP (.slice a qs.length c) qs :: diskR g (clean f (lay W ++ T)) :: F) (fun u l' =>
      (4096 < bs.length ∧ u = .int .i64 3 ∧ l' = row k 60 (bkC g (cur : Nat) ((lay W).length : Nat) (.slice a qs.length c) (bkH K W) (qs.length : Nat) false) :: ownP (.slice a qs.length c) qs :: diskR g (clean f (lay W ++ T)) :: F) ∨
      (bs.length ≤ 4096 ∧ T.length < (cut bs).length ∧ u = .int .i64 4 ∧ l' = row k 60 (bkC g (cur : Nat) ((lay W).length : Nat) (.slice a qs.length c) (bkH K W) (qs.length : Nat) false) :: ownP (.slice a qs.length c) qs :: diskR g (clean f (lay W ++ T)) :: F) ∨
      (bs.length ≤ 4096 ∧ (cut bs).length ≤ T.length ∧ u = .int .i64 0 ∧ ∃ (f' : Int) (a' : Option Addr) (c' : Nat) (a1 : Option Addr) (c1 : Nat), (f < 0 → f' = f) ∧ l' = row k 60 (bkC g (cur : Nat) ((lay (W ++ [(bs, cur)])).length : Nat) (.slice a' (qs.length + 1) c') (bkH K (W ++ [(bs, cur)])) (qs.length + 1 : Nat) false) :: ownP (.slice a' (qs.length + 1) c') (qs ++ [(.slice a1 bs.length c1, bs)]) :: diskR g (clean f' (lay (W ++ [(bs, cur)]) ++ T.drop (cut bs).length)) :: F) ∨
      (bs.length ≤ 4096 ∧ (cut bs).length ≤ T.length ∧ ¬ f < 0 ∧ u = .int .i64 5 ∧ l' = row k 60 (bkC g (cur : Nat) ((lay W).length : Nat) (.slice a qs.length c) (bkH K W) (qs.length : Nat) true) :: ownP (.slice a qs.length c) qs :: diskR g (writes (clean f (lay W ++ T)) (lay W).length (secsOf (W.length + 1) cur bs)) :: F)) := by
  have hlq : qs.length = W.length := by have := congrArg List.length hrec; simpa using this
  have hnow : (clean f (lay W ++ T)).now.length = (lay W).length + T.length := by show (lay W ++ T).length = _; rw [List.length_append]
  refine (append_ok (n := (lay W).length) (G := cur) (cnt := qs.length) (over := false) (D := clean f (lay W ++ T)) (bs := bs) hK bkH_len hb hr (by omega) (by omega) hcur (by omega) (by show ([] : List (Nat × Sec)).length + 79 ≤ 1000; decide)).mono fun u l' h => ?_
  rcases h with ⟨e, h1, h2, h3⟩ | ⟨_, h1, h2, h3, h4, h5⟩ | ⟨_, h1, h2, h3, h4, a', c', a1, c1, h5⟩
  · cases h1 with
    | over h => cases h
    | long _ h1 => exact .inl ⟨h1, h2, h3⟩
    | full _ h1 h4 => exact .inr (.inl ⟨h1, by omega, h2, h3⟩)
  · refine .inr (.inr (.inr ⟨h1, by omega, fun hneg => ?_, h4, by rw [← hlq]; exact h5⟩))
    obtain ⟨j, _, _, _, _, _, h6⟩ := writes_spec (secsOf (qs.length + 1) cur bs) (clean f (lay W ++ T)) (lay W).length (by rw [secsOf_len]; exact h2)
    rw [h6 hneg] at h3
    have : f = 0 := h3
    omega
  · refine .inr (.inr (.inl ⟨h1, by omega, h4, (writes (clean f (lay W ++ T)) (lay W).length (secsOf (W.length + 1) cur bs)).fuse, a', c', a1, c1, fun hneg => ?_, ?_⟩))
    · obtain ⟨j, _, _, _, _, _, h6⟩ := writes_spec (secsOf (W.length + 1) cur bs) (clean f (lay W ++ T)) (lay W).length (by rw [secsOf_len]; exact h2)
      exact h6 hneg
    · rw [hlq] at h3
      rw [h5, hlq, writes_clean (by omega) h3]
      have e1 : (lay (W ++ [(bs, cur)])).length = (lay W).length + (cut bs).length := by rw [lay_snoc, List.length_append, secsOf_len]
      have e2 : bkH K (W ++ [(bs, cur)]) = shaB K (linkT (bkH K W) bs) := by rw [bkH, List.map_append]; exact hsh_snoc K h0 _ bs
      rw [e1, e2]
end Go.Proofs.F

-- seat f
namespace Go.Proofs.F
open Go Go.Gp Go.RowKit
open Disk hiding spl_all

theorem New_u {w0 : World} {n : Nat} {F : List HProp} (hn : n ≤ 8192) :
    FnO Tryd.prog w0 11 [.int .i64 (n : Nat)] F (fun v l' => ∃ g, v = .pointer (some ⟨g, 0, none⟩) ∧ l' = diskR g (clean (-1) (lay [] ++ List.replicate n zsec)) :: F) := by
  have h := Disk.New_ok (w0 := w0) (n := (n : Int)) (F := F)
  rw [show size (n : Int) = n by rw [size]; omega] at h
  exact h
theorem open_s {w0 : World} {F : List HProp} {K : Ws} {g cur : Nat} {f : Int} {W : Wr} {T : List Sec} (hK : Tab w0 0 64 fun j => w32 (K j)) (hf : f ≠ 0) (hm : maxG (lay W ++ T) + 1 = cur) (hc : cur < 4294967296) (hr : readAll (lay W ++ T) = W.map told) :
    FnO Tryd.prog w0 10 [.pointer (some ⟨g, 0, none⟩)] (diskR g (clean f (lay W ++ T)) :: F) (fun u l' => ∃ (k : Nat) (a : Option Addr) (c : Nat) (qs : List (Value × List UInt8)), recs qs = W.map (·.1) ∧ (∀ q ∈ qs, ∃ a c, q.1 = .slice a q.2.length c) ∧ u = .tuple #[.pointer (some ⟨k, 0, none⟩), .int .i64 0] ∧
      l' = row k 60 (bkC g (cur : Nat) ((lay W).length : Nat) (.slice a qs.length c) (bkH K W) (qs.length : Nat) false) :: ownP (.slice a qs.length c) qs :: diskR g (clean f (lay W ++ T)) :: F) := by
  subst hm
  exact open_c (D := clean f (lay W ++ T)) hK hf (by show maxG (lay W ++ T) < _; omega) hr
theorem append_fit {w0 : World} {F : List HProp} {K : Ws} {k g cur c : Nat} {a : Option Addr} {qs : List (Value × List UInt8)} {W : Wr} {T : List Sec} {f : Int} {x : Value} {bs : List UInt8} (hK : Tab w0 0 64 fun j => w32 (K j)) (hb : bs.length ≤ 4096) (hrec : recs qs = W.map (·.1)) (hW : W.length ≤ 100000) (hcur : cur < 4294967296) (hfit : (cut bs).length ≤ T.length) (hf : f < 0) (hr : RdO w0 F x bs.length (bcells bs)) :
    FnO Tryd.prog w0 12 [.pointer (some ⟨k, 0, none⟩), x] (row k 60 (bkC g (cur : Nat) ((lay W).length : Nat) (.slice a qs.length c) (bkH K W) (qs.length : Nat) false) :: ownP (.slice a qs.length c) qs :: diskR g (clean f (lay W ++ T)) :: F) (fun u l' => ∃ (a' : Option Addr) (c' : Nat) (a1 : Option Addr) (c1 : Nat), u = .int .i64 0 ∧ l' = row k 60 (bkC g (cur : Nat) ((lay (W ++ [(bs, cur)])).length : Nat) (.slice a' (qs.length + 1) c') (bkH K (W ++ [(bs, cur)])) (qs.length + 1 : Nat) false) :: ownP (.slice a' (qs.length + 1) c') (qs ++ [(.slice a1 bs.length c1, bs)]) :: diskR g (clean f (lay (W ++ [(bs, cur)]) ++ T.drop (cut bs).length)) :: F) := by
  refine (append_c (T := T) (f := f) (bs := bs) hK (by omega) hrec hW hcur hr).mono fun u l' h => ?_
  rcases h with ⟨h, _⟩ | ⟨_, h, _⟩ | ⟨_, _, h1, f', a', c', a1, c1, h2, h3⟩ | ⟨_, _, h, _⟩
  · omega
  · omega
  · rw [h2 hf] at h3
    exact ⟨a', c', a1, c1, h1, h3⟩
  · exact absurd hf h
theorem append_53 {w0 : World} {F : List HProp} {K : Ws} {k g cur c : Nat} {a : Option Addr} {qs : List (Value × List UInt8)} {W : Wr} {T : List Sec} {f : Int} {x : Value} {t : Nat} (hK : Tab w0 0 64 fun j => w32 (K j)) (hrec : recs qs = W.map (·.1)) (hW : W.length ≤ 100000) (hcur : cur < 4294967296) (ht : T.length = t) (hfit : 2 ≤ t) (hf : f < 0) (hr : RdO w0 F x 53 (rep 53 [Value.int .u8 0])) :
    FnO Tryd.prog w0 12 [.pointer (some ⟨k, 0, none⟩), x] (row k 60 (bkC g (cur : Nat) ((lay W).length : Nat) (.slice a qs.length c) (bkH K W) (qs.length : Nat) false) :: ownP (.slice a qs.length c) qs :: diskR g (clean f (lay W ++ T)) :: F) (fun u l' => ∃ (a' : Option Addr) (c' : Nat) (qs' : List (Value × List UInt8)) (n : Nat) (h : List UInt8) (D : Dk), u = .int .i64 0 ∧ h.length = 32 ∧ n = (lay W).length + 2 ∧ D.now.length = (lay W).length + t ∧ l' = row k 60 (bkC g (cur : Nat) (n : Nat) (.slice a' (qs.length + 1) c') h (qs.length + 1 : Nat) false) :: ownP (.slice a' (qs.length + 1) c') qs' :: diskR g D :: F) := by
  rw [bcells_z] at hr
  have h53 : (cut (List.replicate 53 (0 : UInt8))).length = 2 := by rw [cut_count]; rfl
  refine (append_fit (T := T) (f := f) (bs := List.replicate 53 0) hK (by decide) hrec hW hcur (by rw [h53, ht]; exact hfit) hf hr).mono fun u l' h => ?_
  obtain ⟨a', c', a1, c1, h1, h2⟩ := h
  have e : (lay (W ++ [(List.replicate 53 (0 : UInt8), cur)])).length = (lay W).length + 2 := by rw [lay_snoc, List.length_append, secsOf_len, h53]
  refine ⟨a', c', _, _, _, _, h1, bkH_len, e, ?_, h2⟩
  show (_ ++ _ : List Sec).length = _
  rw [List.length_append, e, h53, List.length_drop]; omega
theorem awake_ok {w0 : World} {F : List HProp} {K : Ws} (hK : Tab w0 0 64 fun j => w32 (K j)) :
    FnO Tryd.prog w0 7 [] F (fun u l' => u = .bool true ∧ l' = F) := by
  have hm : maxG (lay [] ++ List.replicate 9 zsec) + 1 = 1 := by rw [show lay [] ++ List.replicate 9 zsec = List.replicate 9 zsec from rfl, maxG_new]
  have hrd : readAll (lay [] ++ List.replicate 9 zsec) = ([] : Wr).map told := (sess_new 9).read (by decide) (by decide)
  refine FnO.weak ?_
  refine FnO.intro (n := 25) Tryd.func7 rfl rfl rfl ?_
  refine J.seq ?_
  refine J.region ?_
  refine JL.pure rfl rfl (OpP.assign rfl) ?_
  refine JL.nil ?_
  refine J.seq ?_
  refine J.region ?_
  refine JL.step rfl rfl (OpW.call (first := []) (captured := []) inferInstance rfl rfl (New_u (n := 9) (by decide))) ?_; rintro r4 _ ⟨g, ⟨rfl, rfl⟩⟩
  refine JL.step rfl rfl (OpW.call (first := []) (captured := []) inferInstance rfl rfl (open_s (W := []) (T := List.replicate 9 zsec) hK (by decide) hm (by decide) hrd)) ?_; rintro r5 _ ⟨k, ⟨a, ⟨c, ⟨qs, ⟨h5, ⟨h51, ⟨rfl, rfl⟩⟩⟩⟩⟩⟩⟩
  refine JL.pure rfl rfl (OpP.move rfl) ?_
  refine JL.pure rfl rfl (OpP.extract rfl rfl) ?_
  refine JL.pure rfl rfl (OpP.extract rfl rfl) ?_
  refine JL.pure rfl rfl (OpP.assign rfl) ?_
  refine JL.pure rfl rfl (OpP.assign rfl) ?_
  refine JL.nil ?_
  have hqs : recs qs = ([] : Wr).map (·.1) := by assumption
  refine J.seq ?_
  refine J.region ?_
  refine JL.pure rfl rfl (OpP.move rfl) ?_
  refine JL.decT rfl rfl (OpP.eql rfl rfl) (by omega) ?_
  refine JL.pure rfl rfl (OpP.move rfl) ?_
  refine JL.pure rfl rfl (OpP.move rfl) ?_
  refine JL.pure rfl rfl (OpP.nePtrNil rfl rfl) ?_
  refine JL.pure rfl rfl (OpP.pickT rfl rfl) ?_
  refine JL.pure rfl rfl (OpP.move rfl) ?_
  refine JL.pure rfl rfl (OpP.move rfl) ?_
  refine JL.mem rfl rfl (by apply OpM.make (by rfl) rfl rfl <;> omega) ?_; rintro _ _ ⟨b16, rfl, rfl⟩
  refine JL.f3 ?_; refine JL.f3 ?_; refine JL.f3 ?_; refine JL.step rfl rfl (OpW.call (first := []) (captured := []) inferInstance rfl rfl (append_53 (W := []) (T := List.replicate 9 zsec) hK hqs (by decide) (by decide) (t := 9) rfl (by decide) (by decide) (RdO.ofRow .head (by first | exact Nat.le_refl _ | decide | omega)))) ?_; rintro r17 _ ⟨a', ⟨c', ⟨qs', ⟨n, ⟨h, ⟨D, ⟨rfl, ⟨h17, ⟨rfl, ⟨h171, rfl⟩⟩⟩⟩⟩⟩⟩⟩⟩⟩
  refine JL.decT rfl rfl (OpP.eql rfl rfl) (by omega) ?_
  refine JL.pure rfl rfl (OpP.pickT rfl rfl) ?_
  refine JL.pure rfl rfl (OpP.move rfl) ?_
  refine JL.pure rfl rfl (OpP.move rfl) ?_
  refine JL.f2 ?_; refine JL.f1 ?_; refine JL.step rfl rfl (OpW.call (first := []) (captured := []) inferInstance rfl rfl (Room_ok (by first | assumption | omega | rfl | exact Nat.le_of_ble_eq_true rfl | (simp; omega)))) ?_; rintro r22 _ ⟨rfl, rfl⟩
  refine JL.decT rfl rfl (OpP.eql rfl rfl) (by omega) ?_
  refine JL.pure rfl rfl (OpP.pickT rfl rfl) ?_
  refine JL.pure rfl rfl (OpP.assign rfl) ?_
  refine JL.nil ?_
  refine J.ret1 rfl rfl ?_
  exact ⟨_, ⟨rfl, rfl⟩, fun _ h => h.tail.tail.tail.tail⟩
end Go.Proofs.F

-- seat f
namespace Go.Proofs.F
open Go Go.Gp Go.RowKit
open Disk hiding spl_all

end Go.Proofs.F

-- seat f
namespace Go.Proofs.F
open Go Go.Gp Go.RowKit
open Disk hiding spl_all

theorem incV1 (c : UInt8) : Value.int .u8 (IntKind.u8.wrap ((c.toNat : Int) + 1)) = u8c (c + 1) := by
  rw [wrap_u8, u8c, UInt8.toNat_add]
  rfl
theorem incV2 (c : UInt8) : Value.int .u8 (IntKind.u8.wrap ((c.toNat : Int) + 2)) = u8c (c + 2) := by
  rw [wrap_u8, u8c, UInt8.toNat_add]
  rfl
theorem Records_o {w0 : World} {F : List HProp} {k g c : Nat} {a : Option Addr} {G n cnt : Int} {h : List UInt8} {over : Bool} {ps : List (Value × List UInt8)} (hpl : ps.length ≤ 1000000) (hrl : ∀ p ∈ ps, p.2.length ≤ 80000) (hq : ∀ q ∈ ps, ∃ a c, q.1 = .slice a q.2.length c) :
    FnO Tryd.prog w0 14 [.pointer (some ⟨k, 0, none⟩)] (row k 60 (bkC g G n (.slice a ps.length c) h cnt over) :: ownP (.slice a ps.length c) ps :: F) (fun u l' => ∃ (a2 : Option Addr) (c2 : Nat) (qs : List (Value × List UInt8)), u = .slice a2 qs.length c2 ∧ recs qs = recs ps ∧ (∀ q ∈ qs, ∃ a c, q.1 = .slice a q.2.length c) ∧ l' = ownP (.slice a2 qs.length c2) qs :: row k 60 (bkC g G n (.slice a ps.length c) h cnt over) :: ownP (.slice a ps.length c) ps :: F) :=
  Records_ok hpl hrl (Parts.ofOwn hq)
theorem recs_one {qs : List (Value × List UInt8)} {b : List UInt8} (h : recs qs = [b]) (hq : ∀ q ∈ qs, ∃ a c, q.1 = .slice a q.2.length c) : ∃ a c, qs = [(.slice a b.length c, b)] := by
  have hl : qs.length = 1 := by have := congrArg List.length h; simpa using this
  obtain ⟨q, rfl⟩ := List.length_eq_one_iff.1 hl
  obtain ⟨a, c, e⟩ := hq q (List.mem_singleton.2 rfl)
  have h2 : q.2 = b := by simpa [recs] using h
  refine ⟨a, c, ?_⟩
  rw [← h2, ← e]
set_option maxRecDepth 20000 in
theorem BookOwn_ok {w0 : World} {b : List UInt8} {v : Value} {K : Ws} (hA : ∀ F, FnO Tryd.prog w0 7 [] F (fun u l' => u = .bool true ∧ l' = F)) (hK : Tab w0 0 64 fun j => w32 (K j)) (hl : b.length ≤ 9223372036854775807) (hr : RdO w0 [] v b.length (bcells b)) :
    FnO Tryd.prog w0 4 [v] [] (fun v _ => v = .bool true) := by
  refine FnO.rdF (fun _ h => h) hr fun hr0 => ?_
  obtain ⟨va, vc, rfl⟩ := hr0.lit
  refine FnO.intro (n := 97) Tryd.func4 rfl rfl rfl ?_
  by_cases hn : b.length ≤ 300
  · have hbl : (bcells b).length = b.length * 1 := by rw [bcells_length]; omega
    have hm : maxG (lay [] ++ List.replicate 20 zsec) + 1 = 1 := by rw [show lay [] ++ List.replicate 20 zsec = List.replicate 20 zsec from rfl, maxG_new]
    have hrd : readAll (lay [] ++ List.replicate 20 zsec) = ([] : Wr).map told := (sess_new 20).read (by decide) (by decide)
    have hfit : (cut b).length ≤ (List.replicate 20 zsec).length := by rw [List.length_replicate, cut_count]; omega
    refine J.seq ?_
    refine J.region ?_
    refine JL.pure rfl rfl (OpP.assign rfl) ?_
    refine JL.nil ?_
    refine J.seq ?_
    refine J.seq ?_
    refine J.region ?_
    refine JL.step rfl rfl (OpW.call (first := []) (captured := []) inferInstance rfl rfl (hA _)) ?_; rintro r11 _ ⟨rfl, rfl⟩
    refine JL.pure rfl rfl (OpP.notB rfl) ?_
    refine JL.pure rfl rfl (OpP.move rfl) ?_
    refine JL.pure rfl rfl (OpP.move rfl) ?_
    refine JL.pure rfl rfl (OpP.len rfl rfl) ?_
    refine JL.decF rfl rfl (OpP.gtr rfl rfl) (by omega) ?_
    refine JL.pure rfl rfl (OpP.pickF rfl rfl) ?_
    refine JL.nil ?_
    refine J.condF rfl ?_
    refine J.skip ?_
    refine J.seq ?_
    refine J.region ?_
    refine JL.step rfl rfl (OpW.call (first := []) (captured := []) inferInstance rfl rfl (New_u (n := 20) (by decide))) ?_; rintro r20 _ ⟨g, ⟨rfl, rfl⟩⟩
    refine JL.step rfl rfl (OpW.call (first := []) (captured := []) inferInstance rfl rfl (open_s (W := []) (T := List.replicate 20 zsec) hK (by decide) hm (by decide) hrd)) ?_; rintro r21 _ ⟨k, ⟨a, ⟨c, ⟨qs, ⟨h21, ⟨h211, ⟨rfl, rfl⟩⟩⟩⟩⟩⟩⟩
    refine JL.pure rfl rfl (OpP.move rfl) ?_
    refine JL.pure rfl rfl (OpP.extract rfl rfl) ?_
    refine JL.pure rfl rfl (OpP.extract rfl rfl) ?_
    refine JL.pure rfl rfl (OpP.assign rfl) ?_
    refine JL.pure rfl rfl (OpP.assign rfl) ?_
    refine JL.nil ?_
    have hqs : recs qs = ([] : Wr).map (·.1) := by assumption
    refine J.seq ?_
    refine J.region ?_
    refine JL.mem rfl rfl (by apply OpM.buildSlice (by rfl) rfl (by rfl); (repeat (first | exact Fills.nil | (apply Fills.cons rfl rfl rfl; (case' hs => ((repeat (first | exact Spl.nil | apply Spl.here | apply Spl.there)); done)))))) ?_; rintro _ _ ⟨b24, rfl, rfl⟩
    refine JL.pure rfl rfl (OpP.move rfl) ?_
    refine JL.ownRow (n := 0) (sz := 1) (by decide) rfl ?_
    refine JL.mem rfl rfl (OpM.appendH0 rfl rfl (.inl ⟨_, Sl.und inferInstance⟩) (by rfl) rfl rfl (RdO.src (hr.conv fun _ h => h.none) (by first | assumption | exact fc_length _ _ | (simp; done) | (simp; omega))) (by first | exact bcells_one _ | exact scells_one _ | exact icells_one _ | assumption | exact fc_one fun _ => rfl) (by simp only [maxLen]; omega) (by omega)) ?_; rintro _ _ ⟨⟨a26, c26, rfl⟩, rfl⟩
    refine JL.pure rfl rfl (OpP.assign rfl) ?_
    refine JL.nil ?_
    refine J.seq ?_
    refine J.seq ?_
    refine J.region ?_
    refine JL.pure rfl rfl (OpP.move rfl) ?_
    refine JL.decF rfl rfl (OpP.neq rfl rfl) (by omega) ?_
    refine JL.pure rfl rfl (OpP.move rfl) ?_
    refine JL.pure rfl rfl (OpP.move rfl) ?_
    refine JL.pure rfl rfl (OpP.move rfl) ?_
    refine JL.f3 ?_; refine JL.f3 ?_; refine JL.f3 ?_; refine JL.step rfl rfl (OpW.call (first := []) (captured := []) inferInstance rfl rfl (append_fit (W := []) (T := List.replicate 20 zsec) (bs := b) hK (by omega) hqs (by decide) (by decide) hfit (by decide) (RdO.own .head))) ?_; rintro r32 _ ⟨a', ⟨c', ⟨a1, ⟨c1, ⟨rfl, rfl⟩⟩⟩⟩⟩
    refine JL.decF rfl rfl (OpP.neq rfl rfl) (by omega) ?_
    refine JL.pure rfl rfl (OpP.pickF rfl rfl) ?_
    refine JL.nil ?_
    refine J.condF rfl ?_
    refine J.skip ?_
    have hq0 : qs = [] := List.eq_nil_of_length_eq_zero (by have := congrArg List.length hqs; simpa using this)
    subst hq0
    refine J.conv (l' := [row k 60 (bkC g 1 ((lay ([] ++ [(b, 1)])).length : Nat) (.slice a' [(Value.slice a1 b.length c1, b)].length c') (bkH K ([] ++ [(b, 1)])) 1 false), ownP (.slice a' [(Value.slice a1 b.length c1, b)].length c') [(Value.slice a1 b.length c1, b)], own 5 1 (Value.slice a26 b.length c26) b.length (bcells b)]) (fun _ h => Own.pick (pre := [_, _, _, _]) [0, 1, 3] rfl h) ?_
    generalize ((lay ([] ++ [(b, 1)])).length : Int) = N
    have hH : (bkH K ([] ++ [(b, 1)])).length = 32 := bkH_len
    generalize bkH K ([] ++ [(b, 1)]) = H at hH ⊢
    have f1 : [(Value.slice a1 b.length c1, b)].length ≤ 1000000 := by simp
    have f2 : ∀ p ∈ [(Value.slice a1 b.length c1, b)], p.2.length ≤ 80000 := by intro q hq; simp only [List.mem_singleton] at hq; subst hq; dsimp only; omega
    have f3 : ∀ p ∈ [(Value.slice a1 b.length c1, b)], ∃ a c, p.1 = Value.slice a p.2.length c := by intro q hq; simp only [List.mem_singleton] at hq; subst hq; exact ⟨_, _, rfl⟩
    have f4 : recs [(Value.slice a1 b.length c1, b)] = [b] := rfl
    generalize [(Value.slice a1 b.length c1, b)] = ps at f1 f2 f3 f4 ⊢
    refine J.seq ?_
    refine J.region ?_
    refine JL.pure rfl rfl (OpP.move rfl) ?_
    refine JL.step rfl rfl (OpW.call (first := []) (captured := []) inferInstance rfl rfl (Head_ok (by first | assumption | omega | rfl | exact Nat.le_of_ble_eq_true rfl | (simp; omega)))) ?_; rintro r36 _ ⟨rfl, rfl⟩
    refine JL.mem rfl rfl OpM.alloc ?_; rintro _ _ ⟨b6, rfl, rfl⟩
    refine JL.mem0 rfl (by apply OpM.storeN rfl rfl (hdC_len (by first | assumption | exact shaB_length _ _ | solve_by_elim)) hdC_one; (case' hu => exact .head); (case' hs => exact spl_all (by first | (rw [hdC_len (by first | assumption | exact shaB_length _ _ | solve_by_elim), hdC_len (by first | assumption | exact shaB_length _ _ | solve_by_elim)]; done) | (rw [hdC_len (by first | assumption | exact shaB_length _ _ | solve_by_elim)]; rfl))); done) ?_; rintro _ _ ⟨rfl, rfl⟩
    refine JL.nil ?_
    refine J.seq ?_
    refine J.region ?_
    refine JL.pure rfl rfl (OpP.move rfl) ?_
    refine JL.f2 ?_; refine JL.f2 ?_; refine JL.step rfl rfl (OpW.call (first := []) (captured := []) inferInstance rfl rfl (Records_o (ps := ps) f1 f2 f3)) ?_; rintro r38 _ ⟨a2, ⟨c2, ⟨qs, ⟨rfl, ⟨h38, ⟨h381, rfl⟩⟩⟩⟩⟩⟩
    refine JL.pure rfl rfl (OpP.assign rfl) ?_
    refine JL.nil ?_
    refine J.seq ?_
    refine J.seq ?_
    refine J.region ?_
    refine JL.pure rfl rfl (OpP.assign rfl) ?_
    refine JL.nil ?_
    refine J.block ?_
    have hr2 : recs qs = [b] := by rw [← f4]; assumption
    obtain ⟨a3, c3, rfl⟩ := recs_one hr2 (by assumption)
    refine J.loopI (σ := Nat × List UInt8) (fun x => b.length - x.1) (fun x => x.1 ≤ b.length ∧ x.2.length = b.length) (fun x => [(8, .int .i64 (x.1 : Nat)), (7, .slice a2 1 c2), (6, .pointer (some ⟨b6, 0, none⟩)), (5, .slice a26 b.length c26), (3, .pointer (some ⟨k, 0, none⟩)), (0, .slice va b.length vc)])
      (fun x => [own 5 1 (.slice a26 b.length c26) b.length (bcells x.2), own 26 1 (.slice a2 1 c2) 1 [Value.slice a3 b.length c3], own 5 1 (.slice a3 b.length c3) b.length (bcells b), row k 60 (bkC g 1 N (.slice a' ps.length c') H 1 false), ownP (.slice a' ps.length c') ps, row b6 38 (hdC H 1)]) (0, b) ⟨Nat.zero_le _, rfl⟩ (by repeat (first | exact SubEnv.nil | refine SubEnv.cons (by first | rfl | exact congrArg (fun z => some (Value.int .i64 z)) (by omega) | (simp; done)) ?_)) (fun _ h => ?_) (fun ⟨i, l⟩ hi back => ?_)
    · exact Own.pick (pre := [_, _, _, _, _, _, _]) [6, 2, 0, 3, 4, 5] rfl (Own.star_out (Own.f1 (Own.star_out h)))
    dsimp only at hi back ⊢
    obtain ⟨hi1, hi2⟩ := hi
    have hv0 : [Value.slice a3 b.length c3][0]? = some (Value.slice a3 b.length c3) := rfl
    have hvl : [Value.slice a3 b.length c3].length = 1 := rfl
    generalize [Value.slice a3 b.length c3] = xs at hv0 hvl back ⊢
    by_cases hlt : i < b.length
    · have hbx : (bcells l)[i]? = some (u8c l[i]) := by rw [bcells_get, List.getElem?_eq_getElem (by omega)]; rfl
      have hbn : i < (bcells l).length := by rw [bcells_length]; omega
      have hset := fun x => bcells_set l i x
      generalize l[i] = x at hbx
      refine J.seq ?_
      refine J.seq ?_
      refine J.region ?_
      refine JL.pure rfl rfl (OpP.move rfl) ?_
      refine JL.pure rfl rfl (OpP.move rfl) ?_
      refine JL.pure rfl rfl (OpP.len rfl rfl) ?_
      refine JL.decT rfl rfl (OpP.lss rfl rfl) (by omega) ?_
      refine JL.nil ?_
      refine J.condT rfl ?_
      refine J.skip ?_
      refine J.seq ?_
      refine J.block ?_
      refine J.region ?_
      refine JL.pure rfl rfl (OpP.move rfl) ?_
      refine JL.pure rfl rfl (OpP.move rfl) ?_
      refine JL.ownSome .head (by omega) fun ga26 pa26 ea26 ka26 => ?_; subst ea26
      refine JL.pure rfl rfl (OpP.indexAddr rfl rfl (by omega) (by omega)) ?_
      refine JL.read rfl rfl (OpR.load1 rfl (by apply Cells.cell (hv := hbx) (Cells.own .head) (fun _ h => h); omega)) ?_
      refine JL.pure rfl rfl (OpP.add rfl rfl) ?_
      refine JL.pure rfl rfl (OpP.indexAddr rfl rfl (by omega) (by omega)) ?_
      refine JL.mem0 rfl (OpM.storeOwn rfl rfl rfl (by first | rfl | (simp only [Int.toNat_natCast, Nat.mul_one])) (by first | assumption | omega)) ?_; rintro _ _ ⟨rfl, rfl⟩
      refine JL.nil ?_
      refine J.inBlock ?_
      refine J.region ?_
      refine JL.pure rfl rfl (OpP.move rfl) ?_
      refine JL.pure rfl rfl (OpP.addI rfl rfl (by omega) (by omega)) ?_
      refine JL.pure rfl rfl (OpP.assign rfl) ?_
      refine JL.nil ?_
      refine back (i + 1, l.set i (x + 1)) ⟨by dsimp only; omega, by rw [List.length_set]; exact hi2⟩ (by dsimp only; omega) (by repeat (first | exact SubEnv.nil | refine SubEnv.cons (by first | rfl | exact congrArg (fun z => some (Value.int .i64 z)) (by omega) | (simp; done)) ?_)) (fun _ h => ?_)
      rw [show ((i : Nat) : Int).toNat * 1 = i by omega, incV1, hset] at h
      exact h
    · have : i = b.length := by omega
      subst this
      clear back
      refine J.seq ?_
      refine J.seq ?_
      refine J.region ?_
      refine JL.pure rfl rfl (OpP.move rfl) ?_
      refine JL.pure rfl rfl (OpP.move rfl) ?_
      refine JL.pure rfl rfl (OpP.len rfl rfl) ?_
      refine JL.decF rfl rfl (OpP.lss rfl rfl) (by omega) ?_
      refine JL.nil ?_
      refine J.condF rfl ?_
      refine J.exit rfl ?_
      refine J.seq ?_
      refine J.seq ?_
      refine J.region ?_
      refine JL.pure rfl rfl (OpP.move rfl) ?_
      refine JL.pure rfl rfl (OpP.len rfl rfl) ?_
      refine JL.decF rfl rfl (OpP.neq rfl rfl) (by omega) ?_
      refine JL.pure rfl rfl (OpP.move rfl) ?_
      refine JL.pure rfl rfl (OpP.move rfl) ?_
      refine JL.ownSome (.tail .head) (by omega) fun ga2 pa2 ea2 ka2 => ?_; subst ea2
      refine JL.pure rfl rfl (OpP.indexAddr rfl rfl (by omega) (by omega)) ?_
      refine JL.read rfl rfl (OpR.load1 rfl (by apply Cells.cell (hv := hv0) (Cells.own (.tail .head)) (fun _ h => h); omega)) ?_
      refine JL.pure rfl rfl (OpP.len rfl rfl) ?_
      refine JL.pure rfl rfl (OpP.move rfl) ?_
      refine JL.pure rfl rfl (OpP.len rfl rfl) ?_
      refine JL.decF rfl rfl (OpP.neq rfl rfl) (by omega) ?_
      refine JL.pure rfl rfl (OpP.pickF rfl rfl) ?_
      refine JL.nil ?_
      refine J.condF rfl ?_
      refine J.skip ?_
      refine J.seq ?_
      refine J.seq ?_
      refine J.region ?_
      refine JL.pure rfl rfl (OpP.assign rfl) ?_
      refine JL.nil ?_
      refine J.block ?_
      refine J.loopI (σ := Nat × List UInt8) (fun x => b.length - x.1) (fun x => x.1 ≤ b.length ∧ x.2.length = b.length) (fun x => [(9, .int .i64 (x.1 : Nat)), (7, .slice (some ⟨ga2, pa2, none⟩) 1 c2), (6, .pointer (some ⟨b6, 0, none⟩)), (3, .pointer (some ⟨k, 0, none⟩)), (0, .slice va b.length vc)])
        (fun x => [own 5 1 (.slice a3 b.length c3) b.length (bcells x.2), own 26 1 (.slice (some ⟨ga2, pa2, none⟩) 1 c2) 1 xs, row k 60 (bkC g 1 N (.slice a' ps.length c') H 1 false), ownP (.slice a' ps.length c') ps, row b6 38 (hdC H 1)]) (0, b) ⟨Nat.zero_le _, rfl⟩ (by repeat (first | exact SubEnv.nil | refine SubEnv.cons (by first | rfl | exact congrArg (fun z => some (Value.int .i64 z)) (by omega) | (simp; done)) ?_)) (fun _ h => Own.pick (pre := [_, _, _, _, _, _]) [2, 1, 3, 4, 5] rfl h) (fun ⟨j, m⟩ hj back => ?_)
      dsimp only at hj back ⊢
      obtain ⟨hj1, hj2⟩ := hj
      by_cases hlt2 : j < b.length
      · have hbx : (bcells m)[j]? = some (u8c m[j]) := by rw [bcells_get, List.getElem?_eq_getElem (by omega)]; rfl
        have hbn : j < (bcells m).length := by rw [bcells_length]; omega
        have hset := fun x => bcells_set m j x
        generalize m[j] = x at hbx
        refine J.seq ?_
        refine J.seq ?_
        refine J.region ?_
        refine JL.pure rfl rfl (OpP.move rfl) ?_
        refine JL.pure rfl rfl (OpP.move rfl) ?_
        refine JL.pure rfl rfl (OpP.len rfl rfl) ?_
        refine JL.decT rfl rfl (OpP.lss rfl rfl) (by omega) ?_
        refine JL.nil ?_
        refine J.condT rfl ?_
        refine J.skip ?_
        refine J.seq ?_
        refine J.block ?_
        refine J.region ?_
        refine JL.pure rfl rfl (OpP.move rfl) ?_
        refine JL.pure rfl rfl (OpP.indexAddr rfl rfl (by omega) (by omega)) ?_
        refine JL.read rfl rfl (OpR.load1 rfl (by apply Cells.cell (hv := hv0) (Cells.own (.tail .head)) (fun _ h => h); omega)) ?_
        refine JL.pure rfl rfl (OpP.move rfl) ?_
        refine JL.ownSome .head (by omega) fun ga3 pa3 ea3 ka3 => ?_; subst ea3
        refine JL.pure rfl rfl (OpP.indexAddr rfl rfl (by omega) (by omega)) ?_
        refine JL.read rfl rfl (OpR.load1 rfl (by apply Cells.cell (hv := hbx) (Cells.own .head) (fun _ h => h); omega)) ?_
        refine JL.pure rfl rfl (OpP.add rfl rfl) ?_
        refine JL.pure rfl rfl (OpP.indexAddr rfl rfl (by omega) (by omega)) ?_
        refine JL.mem0 rfl (OpM.storeOwn rfl rfl rfl (by first | rfl | (simp only [Int.toNat_natCast, Nat.mul_one])) (by first | assumption | omega)) ?_; rintro _ _ ⟨rfl, rfl⟩
        refine JL.nil ?_
        refine J.inBlock ?_
        refine J.region ?_
        refine JL.pure rfl rfl (OpP.move rfl) ?_
        refine JL.pure rfl rfl (OpP.addI rfl rfl (by omega) (by omega)) ?_
        refine JL.pure rfl rfl (OpP.assign rfl) ?_
        refine JL.nil ?_
        refine back (j + 1, m.set j (x + 2)) ⟨by dsimp only; omega, by rw [List.length_set]; exact hj2⟩ (by dsimp only; omega) (by repeat (first | exact SubEnv.nil | refine SubEnv.cons (by first | rfl | exact congrArg (fun z => some (Value.int .i64 z)) (by omega) | (simp; done)) ?_)) (fun _ h => ?_)
        rw [show ((j : Nat) : Int).toNat * 1 = j by omega, incV2, hset] at h
        exact h
      · have : j = b.length := by omega
        subst this
        clear back
        refine J.seq ?_
        refine J.seq ?_
        refine J.region ?_
        refine JL.pure rfl rfl (OpP.move rfl) ?_
        refine JL.pure rfl rfl (OpP.move rfl) ?_
        refine JL.pure rfl rfl (OpP.len rfl rfl) ?_
        refine JL.decF rfl rfl (OpP.lss rfl rfl) (by omega) ?_
        refine JL.nil ?_
        refine J.condF rfl ?_
        refine J.exit rfl ?_
        refine J.seq ?_
        refine J.region ?_
        refine JL.pure rfl rfl (OpP.move rfl) ?_
        refine JL.f3 ?_; refine JL.f3 ?_; refine JL.step rfl rfl (OpW.call (first := []) (captured := []) inferInstance rfl rfl (Records_o (ps := ps) f1 f2 f3)) ?_; rintro r78 _ ⟨a2, ⟨c21, ⟨qs, ⟨rfl, ⟨h78, ⟨h781, rfl⟩⟩⟩⟩⟩⟩
        refine JL.pure rfl rfl (OpP.assign rfl) ?_
        refine JL.nil ?_
        have hr3 : recs qs = [b] := by rw [← f4]; assumption
        have hq1 : qs.length = 1 := by have := congrArg List.length hr3; simpa using this
        rw [hq1]
        obtain ⟨a4, c4, rfl⟩ := recs_one hr3 (by assumption)
        refine J.conv (l' := [row k 60 (bkC g 1 N (.slice a' ps.length c') H 1 false), row b6 38 (hdC H 1), own 26 1 (.slice a2 1 c21) 1 [Value.slice a4 b.length c4], own 5 1 (.slice a4 b.length c4) b.length (bcells b)]) (fun _ h => Own.pick (pre := [_, _, _, _, _, _, _, _]) [3, 7, 2, 0] rfl (Own.star_out (Own.f1 (Own.star_out h)))) ?_
        have hv1 : [Value.slice a4 b.length c4][0]? = some (Value.slice a4 b.length c4) := rfl
        have hvl1 : [Value.slice a4 b.length c4].length = 1 := rfl
        generalize [Value.slice a4 b.length c4] = ys at hv1 hvl1 ⊢
        refine J.seq ?_
        refine J.regionD [2, 12, 13, 15] (by kernel_rfl) ?_
        refine DL.pure (i := 0) (by kernel_rfl) (by kernel_rfl) rfl rfl rfl (OpP.move rfl) ?_
        refine DL.read (i := 2) (by kernel_rfl) (by kernel_rfl) rfl rfl rfl (fun _ h => h) (OpR.loadN rfl (Cells.full (.tail .head)) (hdC_len (by first | assumption | exact shaB_length _ _ | solve_by_elim))) ?_
        refine DL.only (i := 1) (by kernel_rfl) ?_
        refine DL1.stepK rfl rfl rfl (by exact OpW.call (first := []) (captured := []) inferInstance rfl rfl (Head_ok (by first | assumption | omega | rfl | exact Nat.le_of_ble_eq_true rfl | (simp; omega)))) (by rintro _ _ ⟨rfl, rfl⟩ _ h; exact Own.pick (pre := [_, _, _, _]) [0, 1, 2, 3] rfl h) ?_; rintro r80 _ ⟨rfl, rfl⟩
        refine DL.pure (i := 3) (by kernel_rfl) (by kernel_rfl) rfl rfl rfl (OpP.eqHead rfl rfl (by first | assumption | exact shaB_length _ _ | solve_by_elim) (by first | assumption | exact shaB_length _ _ | solve_by_elim) (by first | assumption | (simp [Lit.wf, IntKind.min, IntKind.max, IntKind.signed, IntKind.bits] <;> omega)) (by first | assumption | (simp [Lit.wf, IntKind.min, IntKind.max, IntKind.signed, IntKind.bits] <;> omega))) ?_
        refine DL.pure (i := 4) (by kernel_rfl) (by kernel_rfl) rfl rfl rfl (OpP.move rfl) ?_
        refine DL.decAt 83 rfl (fun h83 => ?_) (fun h83 => ?_)
        focus
          refine DL.pure (i := 5) (by kernel_rfl) (by kernel_rfl) rfl rfl rfl (OpP.move rfl) ?_
          refine DL.pure (i := 6) (by kernel_rfl) (by kernel_rfl) rfl rfl rfl (OpP.len rfl rfl) ?_
          refine DL.decT (i := 7) (by kernel_rfl) (by kernel_rfl) rfl rfl rfl (OpP.eql rfl rfl) (by omega) ?_
          refine DL.pure (i := 8) (by kernel_rfl) (by kernel_rfl) rfl rfl rfl (OpP.pickT rfl rfl) ?_
          refine DL.pure (i := 9) (by kernel_rfl) (by kernel_rfl) rfl rfl rfl (OpP.move rfl) ?_
          refine DL.pure (i := 10) (by kernel_rfl) (by kernel_rfl) rfl rfl rfl (OpP.move rfl) ?_
          refine DL.ownSome (.tail (.tail .head)) (by omega) fun ga2 pa2 ea2 ka2 => ?_; subst ea2
          refine DL.pure (i := 11) (by kernel_rfl) (by kernel_rfl) rfl rfl rfl (OpP.indexAddr rfl rfl (by omega) (by omega)) ?_
          refine DL.read (i := 12) (by kernel_rfl) (by kernel_rfl) rfl rfl rfl (fun _ h => h) (OpR.load1 rfl (by apply Cells.cell (hv := hv1) (Cells.own (.tail (.tail .head))) (fun _ h => h); omega)) ?_
          refine DL.read (i := 13) (by kernel_rfl) (by kernel_rfl) rfl rfl rfl (fun _ h => h) (OpR.rdStr (by rfl) (RdO.own (.tail (.tail (.tail .head)))) (by rfl)) ?_
          refine DL.pure (i := 14) (by kernel_rfl) (by kernel_rfl) rfl rfl rfl (OpP.move rfl) ?_
          refine DL.read (i := 15) (by kernel_rfl) (by kernel_rfl) rfl rfl rfl (fun _ h => h) (OpR.rdStr (by rfl) (hr.conv fun _ h => h.none) (by rfl)) ?_
          refine DL.dec (i := 16) (by kernel_rfl) (by kernel_rfl) rfl rfl rfl (OpP.eqStr rfl rfl) (fun h95 => ?_) (fun h95 => ?_)
          focus
            refine DL.pure (i := 17) (by kernel_rfl) (by kernel_rfl) rfl rfl rfl (OpP.pickT rfl rfl) ?_
            refine DL.pure (i := 18) (by kernel_rfl) (by kernel_rfl) rfl rfl rfl (OpP.assign rfl) ?_
            refine DL.done (by kernel_rfl) ?_
            refine J.ret1 rfl rfl ?_
          rotate_left 1
          focus
            refine DL.pure (i := 17) (by kernel_rfl) (by kernel_rfl) rfl rfl rfl (OpP.pickT rfl rfl) ?_
            refine DL.pure (i := 18) (by kernel_rfl) (by kernel_rfl) rfl rfl rfl (OpP.assign rfl) ?_
            refine DL.done (by kernel_rfl) ?_
            refine J.ret1 rfl rfl ?_
          rotate_left 1
        rotate_left 2
        focus
          refine DL.skip (i := 5) (by kernel_rfl) (by kernel_rfl) rfl rfl rfl ?_
          refine DL.skip (i := 6) (by kernel_rfl) (by kernel_rfl) rfl rfl rfl ?_
          refine DL.skip (i := 7) (by kernel_rfl) (by kernel_rfl) rfl rfl rfl ?_
          refine DL.pure (i := 8) (by kernel_rfl) (by kernel_rfl) rfl rfl rfl (OpP.pickF rfl rfl) ?_
          refine DL.pure (i := 9) (by kernel_rfl) (by kernel_rfl) rfl rfl rfl (OpP.move rfl) ?_
          refine DL.skip (i := 10) (by kernel_rfl) (by kernel_rfl) rfl rfl rfl ?_
          refine DL.skip (i := 11) (by kernel_rfl) (by kernel_rfl) rfl rfl rfl ?_
          refine DL.skip (i := 12) (by kernel_rfl) (by kernel_rfl) rfl rfl rfl ?_
          refine DL.skip (i := 13) (by kernel_rfl) (by kernel_rfl) rfl rfl rfl ?_
          refine DL.skip (i := 14) (by kernel_rfl) (by kernel_rfl) rfl rfl rfl ?_
          refine DL.skip (i := 15) (by kernel_rfl) (by kernel_rfl) rfl rfl rfl ?_
          refine DL.skip (i := 16) (by kernel_rfl) (by kernel_rfl) rfl rfl rfl ?_
          refine DL.pure (i := 17) (by kernel_rfl) (by kernel_rfl) rfl rfl rfl (OpP.pickF rfl rfl) ?_
          refine DL.pure (i := 18) (by kernel_rfl) (by kernel_rfl) rfl rfl rfl (OpP.assign rfl) ?_
          refine DL.done (by kernel_rfl) ?_
          refine J.ret1 rfl rfl ?_
        rotate_left 1
        · rfl
        · exact absurd rfl (by assumption)
        · exact absurd (And.intro rfl rfl) (by assumption)
  · refine J.seq ?_
    refine J.region ?_
    refine JL.pure rfl rfl (OpP.assign rfl) ?_
    refine JL.nil ?_
    refine J.seq ?_
    refine J.seq ?_
    refine J.region ?_
    refine JL.step rfl rfl (OpW.call (first := []) (captured := []) inferInstance rfl rfl (hA _)) ?_; rintro r11 _ ⟨rfl, rfl⟩
    refine JL.pure rfl rfl (OpP.notB rfl) ?_
    refine JL.pure rfl rfl (OpP.move rfl) ?_
    refine JL.pure rfl rfl (OpP.move rfl) ?_
    refine JL.pure rfl rfl (OpP.len rfl rfl) ?_
    refine JL.decT rfl rfl (OpP.gtr rfl rfl) (by omega) ?_
    refine JL.pure rfl rfl (OpP.pickF rfl rfl) ?_
    refine JL.nil ?_
    refine J.condT rfl ?_
    refine J.seq ?_
    refine J.region ?_
    refine JL.step rfl rfl (OpW.call (first := []) (captured := []) inferInstance rfl rfl (hA _)) ?_; rintro r18 _ ⟨rfl, rfl⟩
    refine JL.pure rfl rfl (OpP.assign rfl) ?_
    refine JL.nil ?_
    refine J.ret1 rfl rfl ?_
    rfl
theorem BookOwn_law {W : World} {a : Option Addr} {n c : Nat} (hK : Tab W 0 64 fun j => w32 (Kc j)) (h : Fm Tryd.prog W 26 [.slice a n c]) :
    Calls Tryd.prog 4 #[.slice a n c] W fun e w' => e = .returned (.bool true) ∧ Below W.heap.size W w' := by
  obtain ⟨b, hl, hr⟩ := h.bytes Tryd.underlying26 Tryd.underlying5 (by kernel_rfl)
  exact FnO.law (args := [.slice a n c]) (BookOwn_ok (fun _ => awake_ok hK) hK hl hr.o) (Own.nil W)
end Go.Proofs.F
