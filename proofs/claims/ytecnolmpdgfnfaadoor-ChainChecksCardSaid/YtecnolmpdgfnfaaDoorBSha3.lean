/- A text of the proof of a statement about the given program: its part BSha3. No person has read it. -/
import Derived.Test.YtecnolmpdgfnfaaDoorBSha2
import Derived.Test.YtecnolmpdgfnfaaDoorJ20
-- seat b
namespace Go.Proofs.B
open Go Go.Gp Go.RowKit

def loadW (bs : List UInt8) : Nat → Ws
  | 0 => fun _ => 0
  | i + 1 => upd (loadW bs i) (i / 4) (loadW bs i (i / 4) <<< 8 ||| (bs.getD i 0).toBitVec.setWidth 32)
structure Rnd where
  S : Ws
  V : Ws
def rndT (K : Ws) (i k : Nat) (r : Rnd) : BitVec 32 := r.V ((k + 7) % 8) + turn3 (r.V ((k + 4) % 8)) 6 11 25 + (r.V ((k + 6) % 8) ^^^ (r.V ((k + 4) % 8) &&& (r.V ((k + 5) % 8) ^^^ r.V ((k + 6) % 8)))) + K i + sched r.S i (i % 16)
def rndU (k : Nat) (V : Ws) : BitVec 32 := turn3 (V k) 2 13 22
def rndM (k : Nat) (V : Ws) : BitVec 32 := V k &&& V ((k + 1) % 8) ||| V ((k + 2) % 8) &&& (V k ||| V ((k + 1) % 8))
def rnd1 (K : Ws) (i : Nat) (r : Rnd) : Rnd :=
  let k := (64 - i) % 8
  let t := rndT K i k r
  ⟨sched r.S i, upd (upd r.V ((k + 3) % 8) (r.V ((k + 3) % 8) + t)) ((k + 7) % 8) (t + rndU k r.V + rndM k r.V)⟩
def rnds (K : Ws) (r : Rnd) : Nat → Rnd
  | 0 => r
  | i + 1 => rnd1 K i (rnds K r i)
def mixW (K V : Ws) (bs : List UInt8) : Ws := fun j => V j + (rnds K ⟨loadW bs 64, V⟩ 64).V j

set_option maxHeartbeats 4000000 in
theorem Mix_ok {w0 : World} {F : List HProp} {g t : Nat} {V K : Ws} {post : List Value} {bs : List UInt8} {v : Value} (hK : Tab w0 0 64 fun j => w32 (K j)) (hbs : bs.length = 64)
    (hr : RdO w0 (row g t (fc 8 (fun j => w32 (V j)) ++ post) :: F) v 64 (bcells bs)) :
    FnO Tryd.prog w0 51 [.pointer (some ⟨g, 0, none⟩), v] (row g t (fc 8 (fun j => w32 (V j)) ++ post) :: F) (fun _ l' => l' = row g t (fc 8 (fun j => w32 (mixW K V bs j)) ++ post) :: F) := by
  refine FnO.rd hr fun hr => ?_
  obtain ⟨va, vc, rfl⟩ := hr.lit
  refine FnO.weak ?_
  refine FnO.intro (n := 144) Tryd.func51 rfl rfl rfl ?_
  refine J.seq ?_
  refine J.region ?_
  refine JL.mem rfl rfl OpM.alloc ?_; rintro _ _ ⟨b4, rfl, rfl⟩
  refine JL.nil ?_
  refine J.seq ?_
  refine J.seq ?_
  refine J.region ?_
  refine JL.pure rfl rfl (OpP.move rfl) ?_
  refine JL.pure rfl rfl (OpP.len rfl rfl) ?_
  refine JL.pure rfl rfl (OpP.move rfl) ?_
  refine JL.nil ?_
  refine J.block ?_
  refine J.loopI (fun i : Nat => 64 - i) (fun i => i ≤ 64) (fun i => [(22, .int .i64 (i : Nat)), (21, .int .i64 (64 : Nat)), (20, .slice va 64 vc), (4, .pointer (some ⟨b4, 0, none⟩)), (0, .pointer (some ⟨g, 0, none⟩))])
    (fun i => row b4 94 (fc 16 fun j => w32 (loadW bs i j)) :: row g t (fc 8 (fun j => w32 (V j)) ++ post) :: F) 0 (Nat.zero_le _) (by repeat (first | exact SubEnv.nil | refine SubEnv.cons (by first | rfl | exact congrArg (fun z => some (Value.int .i64 z)) (by omega) | (simp; done)) ?_)) (fun _ h => by dsimp only; rw [← fc_rep (f := fun j => w32 (loadW bs 0 j)) (v := .int .u32 0) (fun j _ => rfl)]; exact h) (fun i hi back => ?_)
  dsimp only at hi back ⊢
  by_cases hlt : i < 64
  · have hbi : (bcells bs)[i]? = some (u8c (bs.getD i 0)) := by
      simp [bcells, List.getD, List.getElem?_eq_getElem (show i < bs.length by omega)]
    have e : ((i : Int) / 4).toNat = i / 4 := by omega
    refine J.seq ?_
    refine J.region ?_
    refine JL.decT rfl rfl (OpP.lss rfl rfl) (by omega) ?_
    refine JL.nil ?_
    refine J.seq ?_
    refine J.condT rfl ?_
    refine J.skip ?_
    refine J.seq ?_
    refine J.block ?_
    refine J.seq ?_
    refine J.region ?_
    refine JL.pure rfl rfl (OpP.move rfl) ?_
    obtain ⟨gva, pva, qva, eva, kva, cva⟩ := hr.pos (by omega); cases eva
    refine JL.pure rfl rfl (OpP.indexAddr rfl rfl (by omega) (by omega)) ?_
    refine JL.read rfl rfl (OpR.load1 rfl (by apply Cells.cell cva (fun _ h => Own.pick (pre := [_, _]) [1] rfl h); (case' hv => assumption); (case' ho => omega); done)) ?_
    refine JL.pure rfl rfl (OpP.assign rfl) ?_
    refine JL.pure rfl rfl (OpP.assign rfl) ?_
    refine JL.nil ?_
    refine J.region ?_
    refine JL.pure rfl rfl (OpP.move rfl) ?_
    refine JL.pure rfl rfl (OpP.quoI rfl rfl (by omega) (by omega) (by first | decide | (simp only [IntKind.max]; omega) | (simp [IntKind.max, IntKind.signed, IntKind.bits]; omega))) ?_
    refine JL.pure rfl rfl (OpP.move rfl) ?_
    refine JL.pure rfl rfl (OpP.quoI rfl rfl (by omega) (by omega) (by first | decide | (simp only [IntKind.max]; omega) | (simp [IntKind.max, IntKind.signed, IntKind.bits]; omega))) ?_
    refine JL.pure rfl rfl (OpP.indexAddrF rfl rfl (by omega) (by omega)) ?_
    refine JL.read rfl rfl (OpR.load1 rfl (cell_fc .head rfl (by omega))) ?_
    refine JL.pure rfl rfl (OpP.wShl 8 rfl rfl rfl (by decide)) ?_
    refine JL.pure rfl rfl (OpP.move rfl) ?_
    refine JL.pure rfl rfl (OpP.wOfByte rfl) ?_
    refine JL.pure rfl rfl (OpP.wOr rfl rfl) ?_
    refine JL.pure rfl rfl (OpP.indexAddrF rfl rfl (by omega) (by omega)) ?_
    refine JL.mem0 rfl (by apply OpM.store1 rfl rfl rfl; (case' hu => exact .head); (case' hs => exact spl_fcW rfl (by omega)); done) ?_; rintro _ _ ⟨rfl, rfl⟩
    refine JL.nil ?_
    refine J.inBlock ?_
    refine J.region ?_
    refine JL.pure rfl rfl (OpP.addI rfl rfl (by omega) (by omega)) ?_
    refine JL.pure rfl rfl (OpP.move rfl) ?_
    refine JL.nil ?_
    refine back (i + 1) (by omega) (by omega) (by repeat (first | exact SubEnv.nil | refine SubEnv.cons (by first | rfl | exact congrArg (fun z => some (Value.int .i64 z)) (by omega) | (simp; done)) ?_)) (fun _ h => ?_)
    rw [e] at h
    exact h
  · have : i = 64 := by omega
    subst this
    refine J.seq ?_
    refine J.region ?_
    refine JL.decF rfl rfl (OpP.lss rfl rfl) (by omega) ?_
    refine JL.nil ?_
    refine J.seq ?_
    refine J.condF rfl ?_
    refine J.exit rfl ?_
    refine J.seq ?_
    refine J.region ?_
    refine JL.pure rfl rfl (OpP.move rfl) ?_
    refine JL.pure rfl rfl (OpP.nilCheck rfl) ?_
    refine JL.pure rfl rfl (OpP.fieldAddr rfl) ?_
    refine JL.read rfl rfl (OpR.loadN rfl (cells_fcP (.tail .head)) rfl) ?_
    refine JL.mem rfl rfl OpM.alloc ?_; rintro _ _ ⟨b7, rfl, rfl⟩
    refine JL.mem0 rfl (by apply OpM.storeN rfl rfl (fc_length _ _) (fc_one fun _ => rfl); (case' hu => exact .head); (case' hs => exact spl_all (by rfl)); done) ?_; rintro _ _ ⟨rfl, rfl⟩
    refine JL.nil ?_
    refine J.seq ?_
    refine J.seq ?_
    refine J.region ?_
    refine JL.pure rfl rfl (OpP.move rfl) ?_
    refine JL.nil ?_
    refine J.block ?_
    refine J.loopI (fun i : Nat => 64 - i) (fun i => i ≤ 64) (fun i => [(43, .int .i64 (i : Nat)), (7, .pointer (some ⟨b7, 0, none⟩)), (4, .pointer (some ⟨b4, 0, none⟩)), (0, .pointer (some ⟨g, 0, none⟩))])
      (fun i => row b7 42 (fc 8 fun j => w32 ((rnds K ⟨loadW bs 64, V⟩ i).V j)) :: row b4 94 (fc 16 fun j => w32 ((rnds K ⟨loadW bs 64, V⟩ i).S j)) :: row g t (fc 8 (fun j => w32 (V j)) ++ post) :: F) 0 (Nat.zero_le _) (by repeat (first | exact SubEnv.nil | refine SubEnv.cons (by first | rfl | exact congrArg (fun z => some (Value.int .i64 z)) (by omega) | (simp; done)) ?_)) (fun _ h => h) (fun i hi back => ?_)
    dsimp only at hi back ⊢
    by_cases hlt : i < 64
    · have hr1 : rnds K ⟨loadW bs 64, V⟩ (i + 1) = rnd1 K i (rnds K ⟨loadW bs 64, V⟩ i) := rfl
      generalize rnds K ⟨loadW bs 64, V⟩ i = r at hr1 ⊢
      refine J.seq ?_
      refine J.region ?_
      refine JL.decT rfl rfl (OpP.lss rfl rfl) (by omega) ?_
      refine JL.nil ?_
      refine J.seq ?_
      refine J.condT rfl ?_
      refine J.skip ?_
      refine J.seq ?_
      refine J.block ?_
      refine J.seq ?_
      refine J.region ?_
      refine JL.pure rfl rfl (OpP.move rfl) ?_
      refine JL.pure rfl rfl (OpP.assign rfl) ?_
      refine JL.nil ?_
      refine J.seq ?_
      refine J.region ?_
      refine JL.pure rfl rfl (OpP.move rfl) ?_
      refine JL.pure rfl rfl (OpP.subI rfl rfl (by omega) (by omega)) ?_
      refine JL.pure rfl rfl (OpP.remI rfl rfl (by omega) (by omega)) ?_
      refine JL.pure rfl rfl (OpP.assign rfl) ?_
      refine JL.nil ?_
      have hk : (64 - (i : Int)) % 8 = (((64 - i) % 8 : Nat) : Int) := by omega
      rw [hk]
      have hr2 : ∀ k, k = (64 - i) % 8 → rnd1 K i r = ⟨sched r.S i, upd (upd r.V ((k + 3) % 8) (r.V ((k + 3) % 8) + rndT K i k r)) ((k + 7) % 8) (rndT K i k r + rndU k r.V + rndM k r.V)⟩ := by
        rintro _ rfl; rfl
      have hk8 : (64 - i) % 8 < 8 := by omega
      have hr2 := hr2 _ rfl
      generalize (64 - i) % 8 = k at hr2 hk8 ⊢
      have e3 : (((k : Nat) : Int) + 3).toNat = k + 3 := by omega
      have d1 : ((((k : Nat) : Int) + 1) % 8).toNat = (k + 1) % 8 := by omega
      have d2 : ((((k : Nat) : Int) + 2) % 8).toNat = (k + 2) % 8 := by omega
      have d3 : ((((k : Nat) : Int) + 3) % 8).toNat = (k + 3) % 8 := by omega
      have d4 : ((((k : Nat) : Int) + 4) % 8).toNat = (k + 4) % 8 := by omega
      have d5 : ((((k : Nat) : Int) + 5) % 8).toNat = (k + 5) % 8 := by omega
      have d6 : ((((k : Nat) : Int) + 6) % 8).toNat = (k + 6) % 8 := by omega
      have d7 : ((((k : Nat) : Int) + 7) % 8).toNat = (k + 7) % 8 := by omega
      refine J.seq ?_
      refine J.regionD [2, 7, 12] (by kernel_rfl) ?_
      refine DL.pure (i := 0) (by kernel_rfl) (by kernel_rfl) rfl rfl rfl (OpP.move rfl) ?_
      refine DL.pure (i := 1) (by kernel_rfl) (by kernel_rfl) rfl rfl rfl (OpP.indexAddrN rfl rfl (by omega)) ?_
      refine DL.read (i := 2) (by kernel_rfl) (by kernel_rfl) rfl rfl rfl (fun _ h => h) (OpR.load1 rfl (cell_fc .head rfl (by omega))) ?_
      refine DL.pure (i := 3) (by kernel_rfl) (by kernel_rfl) rfl rfl rfl (OpP.move rfl) ?_
      refine DL.pure (i := 4) (by kernel_rfl) (by kernel_rfl) rfl rfl rfl (OpP.addI rfl rfl (by omega) (by omega)) ?_
      refine DL.pure (i := 5) (by kernel_rfl) (by kernel_rfl) rfl rfl rfl (OpP.remI rfl rfl (by omega) (by omega)) ?_
      refine DL.pure (i := 6) (by kernel_rfl) (by kernel_rfl) rfl rfl rfl (OpP.indexAddrF rfl rfl (by omega) (by omega)) ?_
      refine DL.read (i := 7) (by kernel_rfl) (by kernel_rfl) rfl rfl rfl (fun _ h => h) (OpR.load1 rfl (cell_fc .head rfl (by omega))) ?_
      refine DL.pure (i := 8) (by kernel_rfl) (by kernel_rfl) rfl rfl rfl (OpP.move rfl) ?_
      refine DL.pure (i := 9) (by kernel_rfl) (by kernel_rfl) rfl rfl rfl (OpP.addI rfl rfl (by omega) (by omega)) ?_
      refine DL.pure (i := 10) (by kernel_rfl) (by kernel_rfl) rfl rfl rfl (OpP.remI rfl rfl (by omega) (by omega)) ?_
      refine DL.pure (i := 11) (by kernel_rfl) (by kernel_rfl) rfl rfl rfl (OpP.indexAddrF rfl rfl (by omega) (by omega)) ?_
      refine DL.read (i := 12) (by kernel_rfl) (by kernel_rfl) rfl rfl rfl (fun _ h => h) (OpR.load1 rfl (cell_fc .head rfl (by omega))) ?_
      refine DL.pure (i := 13) (by kernel_rfl) (by kernel_rfl) rfl rfl rfl (OpP.assign rfl) ?_
      refine DL.pure (i := 14) (by kernel_rfl) (by kernel_rfl) rfl rfl rfl (OpP.assign rfl) ?_
      refine DL.pure (i := 15) (by kernel_rfl) (by kernel_rfl) rfl rfl rfl (OpP.assign rfl) ?_
      refine DL.done (by kernel_rfl) ?_
      refine J.seq ?_
      refine J.regionD [4, 9, 14] (by kernel_rfl) ?_
      refine DL.pure (i := 0) (by kernel_rfl) (by kernel_rfl) rfl rfl rfl (OpP.move rfl) ?_
      refine DL.pure (i := 1) (by kernel_rfl) (by kernel_rfl) rfl rfl rfl (OpP.addI rfl rfl (by omega) (by omega)) ?_
      refine DL.pure (i := 2) (by kernel_rfl) (by kernel_rfl) rfl rfl rfl (OpP.remI rfl rfl (by omega) (by omega)) ?_
      refine DL.pure (i := 3) (by kernel_rfl) (by kernel_rfl) rfl rfl rfl (OpP.indexAddrF rfl rfl (by omega) (by omega)) ?_
      refine DL.read (i := 4) (by kernel_rfl) (by kernel_rfl) rfl rfl rfl (fun _ h => h) (OpR.load1 rfl (cell_fc .head rfl (by omega))) ?_
      refine DL.pure (i := 5) (by kernel_rfl) (by kernel_rfl) rfl rfl rfl (OpP.move rfl) ?_
      refine DL.pure (i := 6) (by kernel_rfl) (by kernel_rfl) rfl rfl rfl (OpP.addI rfl rfl (by omega) (by omega)) ?_
      refine DL.pure (i := 7) (by kernel_rfl) (by kernel_rfl) rfl rfl rfl (OpP.remI rfl rfl (by omega) (by omega)) ?_
      refine DL.pure (i := 8) (by kernel_rfl) (by kernel_rfl) rfl rfl rfl (OpP.indexAddrF rfl rfl (by omega) (by omega)) ?_
      refine DL.read (i := 9) (by kernel_rfl) (by kernel_rfl) rfl rfl rfl (fun _ h => h) (OpR.load1 rfl (cell_fc .head rfl (by omega))) ?_
      refine DL.pure (i := 10) (by kernel_rfl) (by kernel_rfl) rfl rfl rfl (OpP.move rfl) ?_
      refine DL.pure (i := 11) (by kernel_rfl) (by kernel_rfl) rfl rfl rfl (OpP.addI rfl rfl (by omega) (by omega)) ?_
      refine DL.pure (i := 12) (by kernel_rfl) (by kernel_rfl) rfl rfl rfl (OpP.remI rfl rfl (by omega) (by omega)) ?_
      refine DL.pure (i := 13) (by kernel_rfl) (by kernel_rfl) rfl rfl rfl (OpP.indexAddrF rfl rfl (by omega) (by omega)) ?_
      refine DL.read (i := 14) (by kernel_rfl) (by kernel_rfl) rfl rfl rfl (fun _ h => h) (OpR.load1 rfl (cell_fc .head rfl (by omega))) ?_
      refine DL.pure (i := 15) (by kernel_rfl) (by kernel_rfl) rfl rfl rfl (OpP.assign rfl) ?_
      refine DL.pure (i := 16) (by kernel_rfl) (by kernel_rfl) rfl rfl rfl (OpP.assign rfl) ?_
      refine DL.pure (i := 17) (by kernel_rfl) (by kernel_rfl) rfl rfl rfl (OpP.assign rfl) ?_
      refine DL.done (by kernel_rfl) ?_
      refine J.seq ?_
      refine J.region ?_
      refine JL.pure rfl rfl (OpP.move rfl) ?_
      refine JL.pure rfl rfl (OpP.addI rfl rfl (by omega) (by omega)) ?_
      refine JL.pure rfl rfl (OpP.remI rfl rfl (by omega) (by omega)) ?_
      refine JL.pure rfl rfl (OpP.indexAddrF rfl rfl (by omega) (by omega)) ?_
      refine JL.pure rfl rfl (OpP.assign rfl) ?_
      refine JL.nil ?_
      refine J.seq ?_
      refine J.regionX1 [2, 16] (by kernel_rfl) ?_
      refine DL.pure (i := 0) (by kernel_rfl) (by kernel_rfl) rfl rfl rfl (OpP.move rfl) ?_
      refine DL.pure (i := 1) (by kernel_rfl) (by kernel_rfl) rfl rfl rfl (OpP.nilCheck rfl) ?_
      refine DL.read (i := 2) (by kernel_rfl) (by kernel_rfl) rfl rfl rfl (fun _ h => Own.pick (pre := [_, _, _]) [0, 2] rfl h) (OpR.load1 rfl (cell_fc .head rfl (by omega))) ?_
      refine DL.pure (i := 3) (by kernel_rfl) (by kernel_rfl) rfl rfl rfl (OpP.move rfl) ?_
      refine DL.pure (i := 6) (by kernel_rfl) (by kernel_rfl) rfl rfl rfl (OpP.move rfl) ?_
      refine DL.pure (i := 7) (by kernel_rfl) (by kernel_rfl) rfl rfl rfl (OpP.move rfl) ?_
      refine DL.pure (i := 8) (by kernel_rfl) (by kernel_rfl) rfl rfl rfl (OpP.move rfl) ?_
      refine DL.pure (i := 9) (by kernel_rfl) (by kernel_rfl) rfl rfl rfl (OpP.move rfl) ?_
      refine DL.pure (i := 10) (by kernel_rfl) (by kernel_rfl) rfl rfl rfl (OpP.wXor rfl rfl) ?_
      refine DL.pure (i := 11) (by kernel_rfl) (by kernel_rfl) rfl rfl rfl (OpP.wAnd rfl rfl) ?_
      refine DL.pure (i := 12) (by kernel_rfl) (by kernel_rfl) rfl rfl rfl (OpP.wXor rfl rfl) ?_
      refine DL.pure (i := 14) (by kernel_rfl) (by kernel_rfl) rfl rfl rfl (OpP.move rfl) ?_
      refine DL.pure (i := 15) (by kernel_rfl) (by kernel_rfl) rfl rfl rfl (OpP.indexAddrN rfl rfl (by omega)) ?_
      refine DL.read (i := 16) (by kernel_rfl) (by kernel_rfl) rfl rfl rfl (fun _ h => Own.pick (pre := [_, _, _]) [0, 2] rfl h) (OpR.load1 rfl (Tab.cell (by assumption) (by omega))) ?_
      refine DL.pure (i := 18) (by kernel_rfl) (by kernel_rfl) rfl rfl rfl (OpP.move rfl) ?_
      refine DL.only (i := 4) (by kernel_rfl) ?_
      refine DL1.stepK rfl rfl rfl (by exact OpW.call (first := []) (captured := []) inferInstance rfl rfl (Turned_ok (a := 6) (b := 11) (c := 25) (by decide) (by decide) (by decide) (by decide) (by decide) (by decide))) (by rintro _ _ ⟨rfl, rfl⟩ _ h; exact Own.pick (pre := [_, _, _]) [0, 2] rfl h) ?_; rintro r85 _ ⟨rfl, rfl⟩
      refine DL.pure (i := 5) (by kernel_rfl) (by kernel_rfl) rfl rfl rfl (OpP.wAdd rfl rfl) ?_
      refine DL.pure (i := 13) (by kernel_rfl) (by kernel_rfl) rfl rfl rfl (OpP.wAdd rfl rfl) ?_
      refine DL.pure (i := 17) (by kernel_rfl) (by kernel_rfl) rfl rfl rfl (OpP.wAdd rfl rfl) ?_
      refine DL.only (i := 19) (by kernel_rfl) ?_
      refine DL1.f1 ?_; refine DL1.stepK rfl rfl rfl (by exact OpW.call (first := []) (captured := []) inferInstance rfl rfl (Next_ok (by first | assumption | omega | rfl))) (by rintro _ _ ⟨rfl, rfl⟩ _ h; exact Own.pick (pre := [_, _, _]) [1, 2] rfl h) ?_; rintro r100 _ ⟨rfl, rfl⟩
      refine DL.pure (i := 20) (by kernel_rfl) (by kernel_rfl) rfl rfl rfl (OpP.wAdd rfl rfl) ?_
      refine DL.pure (i := 21) (by kernel_rfl) (by kernel_rfl) rfl rfl rfl (OpP.assign rfl) ?_
      refine DL.done (by kernel_rfl) ?_
      refine J.seq ?_
      refine J.region ?_
      refine JL.pure rfl rfl (OpP.move rfl) ?_
      refine JL.pure rfl rfl (OpP.addI rfl rfl (by omega) (by omega)) ?_
      refine JL.pure rfl rfl (OpP.remI rfl rfl (by omega) (by omega)) ?_
      refine JL.pure rfl rfl (OpP.indexAddrF rfl rfl (by omega) (by omega)) ?_
      refine JL.read rfl rfl (OpR.load1 rfl (cell_fc (.tail .head) rfl (by omega))) ?_
      refine JL.pure rfl rfl (OpP.move rfl) ?_
      refine JL.pure rfl rfl (OpP.wAdd rfl rfl) ?_
      refine JL.pure rfl rfl (OpP.indexAddrF rfl rfl (by omega) (by omega)) ?_
      refine JL.mem0 rfl (by apply OpM.store1 rfl rfl rfl; (case' hu => exact (.tail .head)); (case' hs => exact spl_fcW rfl (by omega)); done) ?_; rintro _ _ ⟨rfl, rfl⟩
      refine JL.nil ?_
      refine J.region ?_
      refine JL.pure rfl rfl (OpP.move rfl) ?_
      refine JL.pure rfl rfl (OpP.move rfl) ?_
      refine JL.pure rfl rfl (OpP.move rfl) ?_
      refine JL.step rfl rfl (OpW.call (first := []) (captured := []) inferInstance rfl rfl (Turned_ok (a := 2) (b := 13) (c := 22) (by decide) (by decide) (by decide) (by decide) (by decide) (by decide))) ?_; rintro r113 _ ⟨rfl, rfl⟩
      refine JL.pure rfl rfl (OpP.wAdd rfl rfl) ?_
      refine JL.pure rfl rfl (OpP.move rfl) ?_
      refine JL.pure rfl rfl (OpP.move rfl) ?_
      refine JL.pure rfl rfl (OpP.wAnd rfl rfl) ?_
      refine JL.pure rfl rfl (OpP.move rfl) ?_
      refine JL.pure rfl rfl (OpP.move rfl) ?_
      refine JL.pure rfl rfl (OpP.move rfl) ?_
      refine JL.pure rfl rfl (OpP.wOr rfl rfl) ?_
      refine JL.pure rfl rfl (OpP.wAnd rfl rfl) ?_
      refine JL.pure rfl rfl (OpP.wOr rfl rfl) ?_
      refine JL.pure rfl rfl (OpP.wAdd rfl rfl) ?_
      refine JL.pure rfl rfl (OpP.nilCheck rfl) ?_
      refine JL.mem0 rfl (by apply OpM.store1 rfl rfl rfl; (case' hu => exact (.tail .head)); (case' hs => exact spl_fcW rfl (by omega)); done) ?_; rintro _ _ ⟨rfl, rfl⟩
      refine JL.nil ?_
      refine J.inBlock ?_
      refine J.region ?_
      refine JL.pure rfl rfl (OpP.addI rfl rfl (by omega) (by omega)) ?_
      refine JL.pure rfl rfl (OpP.move rfl) ?_
      refine JL.nil ?_
      refine back (i + 1) (by omega) (by omega) (by repeat (first | exact SubEnv.nil | refine SubEnv.cons (by first | rfl | exact congrArg (fun z => some (Value.int .i64 z)) (by omega) | (simp; done)) ?_)) (fun _ h => ?_)
      rw [hr1, hr2, rndT, rndU, rndM]
      rw [d1, d2, d3, d4, d5, d6, d7] at h
      exact Own.pick (pre := [_, _]) [1, 0] rfl h
    · have : i = 64 := by omega
      subst this
      refine J.seq ?_
      refine J.region ?_
      refine JL.decF rfl rfl (OpP.lss rfl rfl) (by omega) ?_
      refine JL.nil ?_
      refine J.seq ?_
      refine J.condF rfl ?_
      refine J.exit rfl ?_
      refine J.seq ?_
      refine J.region ?_
      refine JL.read rfl rfl (OpR.loadN rfl (Cells.full .head) rfl) ?_
      refine JL.pure rfl rfl (OpP.move rfl) ?_
      refine JL.nil ?_
      refine J.block ?_
      generalize hR : rnds K ⟨loadW bs 64, V⟩ 64 = r
      have hmw : mixW K V bs = fun j => V j + r.V j := by rw [← hR]; rfl
      rw [hmw]
      refine J.loopI (fun i : Nat => 8 - i) (fun i => i ≤ 8) (fun i => [(128, .int .i64 (i : Nat)), (127, .agg (fc 8 fun j => w32 (r.V j)).toArray), (0, .pointer (some ⟨g, 0, none⟩))])
        (fun i => row g t (fc 8 (fun j => w32 (if j < i then V j + r.V j else V j)) ++ post) :: row b7 42 (fc 8 fun j => w32 (r.V j)) :: row b4 94 (fc 16 fun j => w32 (r.S j)) :: F) 0 (Nat.zero_le _) (by repeat (first | exact SubEnv.nil | refine SubEnv.cons (by first | rfl | exact congrArg (fun z => some (Value.int .i64 z)) (by omega) | (simp; done)) ?_)) (fun _ h => Own.pick (pre := [_, _, _]) [2, 0, 1] rfl h) (fun i hi back => ?_)
      dsimp only at hi back ⊢
      by_cases hlt : i < 8
      · refine J.seq ?_
        refine J.region ?_
        refine JL.decT rfl rfl (OpP.lss rfl rfl) (by omega) ?_
        refine JL.nil ?_
        refine J.seq ?_
        refine J.condT rfl ?_
        refine J.skip ?_
        refine J.seq ?_
        refine J.block ?_
        refine J.seq ?_
        refine J.region ?_
        refine JL.pure rfl rfl (OpP.move rfl) ?_
        refine JL.pure rfl rfl (OpP.indexFc rfl rfl (by omega)) ?_
        refine JL.pure rfl rfl (OpP.assign rfl) ?_
        refine JL.pure rfl rfl (OpP.assign rfl) ?_
        refine JL.nil ?_
        refine J.regionD [5] (by kernel_rfl) ?_
        refine DL.pure (i := 0) (by kernel_rfl) (by kernel_rfl) rfl rfl rfl (OpP.move rfl) ?_
        refine DL.pure (i := 1) (by kernel_rfl) (by kernel_rfl) rfl rfl rfl (OpP.move rfl) ?_
        refine DL.pure (i := 2) (by kernel_rfl) (by kernel_rfl) rfl rfl rfl (OpP.nilCheck rfl) ?_
        refine DL.pure (i := 3) (by kernel_rfl) (by kernel_rfl) rfl rfl rfl (OpP.fieldAddr rfl) ?_
        refine DL.pure (i := 4) (by kernel_rfl) (by kernel_rfl) rfl rfl rfl (OpP.indexAddrN rfl rfl (by omega)) ?_
        refine DL.read (i := 5) (by kernel_rfl) (by kernel_rfl) rfl rfl rfl (fun _ h => h) (OpR.load1 rfl (cell_fcP .head rfl (by omega))) ?_
        refine DL.pure (i := 6) (by kernel_rfl) (by kernel_rfl) rfl rfl rfl (OpP.move rfl) ?_
        refine DL.pure (i := 7) (by kernel_rfl) (by kernel_rfl) rfl rfl rfl (OpP.wAdd rfl rfl) ?_
        refine DL.pure (i := 8) (by kernel_rfl) (by kernel_rfl) rfl rfl rfl (OpP.nilCheck rfl) ?_
        refine DL.pure (i := 9) (by kernel_rfl) (by kernel_rfl) rfl rfl rfl (OpP.fieldAddr rfl) ?_
        refine DL.pure (i := 10) (by kernel_rfl) (by kernel_rfl) rfl rfl rfl (OpP.indexAddrN rfl rfl (by omega)) ?_
        refine DL.only (i := 11) (by kernel_rfl) ?_
        refine DL1.stepF0 rfl rfl (by kernel_rfl) (OpM.w (by apply OpM.store1 rfl rfl rfl; (case' hu => exact .head); (case' hs => exact spl_app (spl_fcW rfl (by omega))); done)) ?_; rintro _ _ ⟨rfl, rfl⟩
        refine DL.done (by kernel_rfl) ?_
        refine J.inBlock ?_
        refine J.region ?_
        refine JL.pure rfl rfl (OpP.addI rfl rfl (by omega) (by omega)) ?_
        refine JL.pure rfl rfl (OpP.move rfl) ?_
        refine JL.nil ?_
        refine back (i + 1) (by omega) (by omega) (by repeat (first | exact SubEnv.nil | refine SubEnv.cons (by first | rfl | exact congrArg (fun z => some (Value.int .i64 z)) (by omega) | (simp; done)) ?_)) (fun _ h => ?_)
        have e : (fc 8 fun j => w32 (if j < i + 1 then V j + r.V j else V j)) = fc 8 fun k => w32 (upd (fun j => if j < i then V j + r.V j else V j) i ((if i < i then V i + r.V i else V i) + r.V i) k) := by
          refine fc_congr fun j _ => ?_
          unfold upd
          by_cases hj : j = i
          · subst hj
            rw [if_pos rfl, if_pos (by omega), if_neg (by omega)]
          · rw [if_neg hj]
            dsimp only
            by_cases h2 : j < i
            · rw [if_pos h2, if_pos (by omega)]
            · rw [if_neg h2, if_neg (by omega)]
        rw [e]
        exact h
      · have : i = 8 := by omega
        subst this
        rw [show (fc 8 fun j => w32 (if j < 8 then V j + r.V j else V j)) = fc 8 fun j => w32 (V j + r.V j) from fc_congr fun j hj => by rw [if_pos hj]]
        refine J.seq ?_
        refine J.region ?_
        refine JL.decF rfl rfl (OpP.lss rfl rfl) (by omega) ?_
        refine JL.nil ?_
        refine J.seq ?_
        refine J.condF rfl ?_
        refine J.exit rfl ?_
        refine J.fin0 rfl ?_
        exact ⟨_, rfl, fun _ h => Own.pick (pre := [_, _, _]) [0] rfl h⟩
end Go.Proofs.B
