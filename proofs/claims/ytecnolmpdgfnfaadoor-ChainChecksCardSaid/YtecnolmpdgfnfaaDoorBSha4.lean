/- A text of the proof of a statement about the given program: its part BSha4. No person has read it. -/
import Derived.Test.YtecnolmpdgfnfaaDoorBSha3
import Derived.Test.YtecnolmpdgfnfaaDoorJ23
import Derived.Test.YtecnolmpdgfnfaaDoorJ20
-- seat b
namespace Go.Proofs.B
open Go Go.Gp Go.RowKit

def eatV (K V : Ws) (l : List UInt8) : Nat → Ws
  | 0 => V
  | i + 1 => mixW K (eatV K V l i) ((l.drop (64 * i)).take 64)
theorem eatV_add (K V : Ws) (l : List UInt8) (m : Nat) : ∀ j, eatV K V l (m + j) = eatV K (eatV K V l m) (l.drop (64 * m)) j
  | 0 => rfl
  | j + 1 => by
    show mixW K (eatV K V l (m + j)) ((l.drop (64 * (m + j))).take 64) = mixW K (eatV K (eatV K V l m) (l.drop (64 * m)) j) (((l.drop (64 * m)).drop (64 * j)).take 64)
    rw [eatV_add K V l m j, List.drop_drop, Nat.mul_add]
theorem eatV_app (K V : Ws) (l x : List UInt8) : ∀ i, 64 * i ≤ l.length → eatV K V (l ++ x) i = eatV K V l i
  | 0, _ => rfl
  | i + 1, h => by
    show mixW K (eatV K V (l ++ x) i) (((l ++ x).drop (64 * i)).take 64) = mixW K (eatV K V l i) ((l.drop (64 * i)).take 64)
    rw [eatV_app K V l x i (by omega), List.drop_append_of_le_length (by omega), List.take_append_of_le_length (by rw [List.length_drop]; omega)]
def stV (K : Ws) (all : List UInt8) : Ws := eatV K begins all (all.length / 64)
def stL (all : List UInt8) : List UInt8 := all.drop (64 * (all.length / 64))
theorem stL_length (all : List UInt8) : (stL all).length = all.length % 64 := by rw [stL, List.length_drop]; omega
theorem stV_app (K : Ws) (all b : List UInt8) : eatV K (stV K all) (stL all ++ b) ((stL all ++ b).length / 64) = stV K (all ++ b) := by
  have h := stL_length all
  have e : (all ++ b).length / 64 = all.length / 64 + (stL all ++ b).length / 64 := by
    rw [List.length_append, List.length_append, h]; omega
  rw [stV, stV, e, eatV_add, eatV_app K begins all b _ (by omega), List.drop_append_of_le_length (by omega)]
  rfl
theorem stL_app (all b : List UInt8) : (stL all ++ b).drop (64 * ((stL all ++ b).length / 64)) = stL (all ++ b) := by
  have h := stL_length all
  have e : (all ++ b).length / 64 = all.length / 64 + (stL all ++ b).length / 64 := by
    rw [List.length_append, List.length_append, h]; omega
  show (all.drop (64 * (all.length / 64)) ++ b).drop (64 * ((stL all ++ b).length / 64)) = (all ++ b).drop (64 * ((all ++ b).length / 64))
  rw [e, ← List.drop_append_of_le_length (by omega), List.drop_drop]
  congr 1
  omega
theorem bcells_take (l : List UInt8) (n : Nat) : (bcells l).take n = bcells (l.take n) := List.map_take.symm
theorem bcells_drop (l : List UInt8) (n : Nat) : (bcells l).drop n = bcells (l.drop n) := List.map_drop.symm
theorem bcells_app (l x : List UInt8) : bcells (l ++ x) = bcells l ++ bcells x := List.map_append
theorem bcells_len (l : List UInt8) : (bcells l).length = l.length := List.length_map ..

theorem MixO_ok {w0 : World} {F : List HProp} {g t p q n c c' : Nat} {V K : Ws} {post : List Value} {bs : List UInt8} (hK : Tab w0 0 64 fun j => w32 (K j)) (hn : n = bs.length) (h64 : 64 ≤ n) (hc : 64 ≤ c') :
    FnO Tryd.prog w0 51 [.pointer (some ⟨g, 0, none⟩), .slice (some ⟨p, q, none⟩) 64 c'] (row g t (fc 8 (fun j => w32 (V j)) ++ post) :: own 5 1 (.slice (some ⟨p, q, none⟩) n c) n (bcells bs) :: F)
      (fun _ l' => l' = row g t (fc 8 (fun j => w32 (mixW K V (bs.take 64) j)) ++ post) :: own 5 1 (.slice (some ⟨p, q, none⟩) n c) n (bcells bs) :: F) :=
  Mix_ok (bs := bs.take 64) hK (by rw [List.length_take]; omega) (by
    have h := RdO.ownTo (w0 := w0) (k := 64) (c' := c') (e := 5) (sz := 1) (n := n) (c := c) (b := p) (p := q) (xs := bcells bs) (l := row g t (fc 8 (fun j => w32 (V j)) ++ post) :: own 5 1 (.slice (some ⟨p, q, none⟩) n c) n (bcells bs) :: F) (.tail .head) hc
    rw [Nat.mul_one, bcells_take] at h
    exact h)
theorem Take0_ok {w0 : World} {F : List HProp} {g n : Nat} {V K : Ws} {left b : List UInt8} {s v : Value} (hK : Tab w0 0 64 fun j => w32 (K j)) (hn : n + b.length ≤ 1000000) (hl : left.length ≤ 1000000)
    (hr : RdO w0 F v b.length (bcells b)) :
    FnO Tryd.prog w0 38 [.pointer (some ⟨g, 0, none⟩), v] (row g 48 (fc 8 (fun j => w32 (V j)) ++ [s, .int .u64 (n : Nat)]) :: own 5 1 s left.length (bcells left) :: F)
      (fun _ l' => ∃ s', l' = row g 48 (fc 8 (fun j => w32 (eatV K V (left ++ b) ((left ++ b).length / 64) j)) ++ [s', .int .u64 ((n + b.length : Nat) : Int)]) :: own 5 1 s' ((left ++ b).length % 64) (bcells ((left ++ b).drop (64 * ((left ++ b).length / 64)))) :: F) := by
  refine FnO.rd (hr.conv fun _ h => h.tail.tail) fun hr0 => ?_
  obtain ⟨va, vc, rfl⟩ := hr0.lit
  refine FnO.rd (RdO.own (.tail .head)) fun hr1 => ?_
  obtain ⟨sa, sc, rfl⟩ := hr1.lit
  have hlb := bcells_len b
  refine FnO.weak ?_
  refine FnO.intro (n := 54) Tryd.func38 rfl rfl rfl ?_
  refine J.seq ?_
  refine J.region ?_
  refine JL.pure rfl rfl (OpP.move rfl) ?_
  refine JL.pure rfl rfl (OpP.nilCheck rfl) ?_
  refine JL.pure rfl rfl (OpP.fieldAddr rfl) ?_
  refine JL.pure rfl rfl (OpP.fieldAddr rfl) ?_
  refine JL.read rfl rfl (OpR.load1 rfl (Cell.row .head rfl)) ?_
  refine JL.pure rfl rfl (OpP.move rfl) ?_
  refine JL.pure rfl rfl (OpP.len rfl rfl) ?_
  refine JL.pure rfl rfl (OpP.convI rfl (by simp [IntKind.min, IntKind.max, IntKind.signed, IntKind.bits] <;> omega) (by simp [IntKind.min, IntKind.max, IntKind.signed, IntKind.bits] <;> omega)) ?_
  refine JL.pure rfl rfl (OpP.addK rfl rfl (by simp [IntKind.min, IntKind.max, IntKind.signed, IntKind.bits] <;> omega) (by simp [IntKind.min, IntKind.max, IntKind.signed, IntKind.bits] <;> omega)) ?_
  refine JL.pure rfl rfl (OpP.nilCheck rfl) ?_
  refine JL.pure rfl rfl (OpP.fieldAddr rfl) ?_
  refine JL.pure rfl rfl (OpP.fieldAddr rfl) ?_
  refine JL.mem0 rfl (by apply OpM.store1 rfl rfl rfl; (case' hu => exact .head); (case' hs => exact spl_post (k := 1) rfl (.there (.here .nil))); done) ?_; rintro _ _ ⟨rfl, rfl⟩
  refine JL.nil ?_
  refine J.seq ?_
  refine J.region ?_
  refine JL.pure rfl rfl (OpP.move rfl) ?_
  refine JL.pure rfl rfl (OpP.move rfl) ?_
  refine JL.pure rfl rfl (OpP.nilCheck rfl) ?_
  refine JL.pure rfl rfl (OpP.fieldAddr rfl) ?_
  refine JL.pure rfl rfl (OpP.fieldAddr rfl) ?_
  refine JL.read rfl rfl (OpR.load1 rfl (Cell.row .head rfl)) ?_
  refine JL.pure rfl rfl (OpP.move rfl) ?_
  refine JL.f1 ?_; refine JL.mem rfl rfl (OpM.appendH rfl (.inl ⟨_, Sl.und inferInstance⟩) (by rfl) rfl rfl (RdO.src (hr.conv fun _ h => Own.pick (pre := [_, _]) [] rfl h) (by first | assumption | (simp; done) | (simp; omega))) (by first | exact bcells_one _ | exact scells_one _ | exact icells_one _ | assumption) (by simp only [maxLen]; omega) (by omega)) ?_; rintro _ _ ⟨⟨a23, c23, rfl⟩, rfl⟩
  refine JL.pure rfl rfl (OpP.nilCheck rfl) ?_
  refine JL.pure rfl rfl (OpP.fieldAddr rfl) ?_
  refine JL.pure rfl rfl (OpP.fieldAddr rfl) ?_
  refine JL.mem0 rfl (by apply OpM.store1 rfl rfl rfl; (case' hu => exact (.tail .head)); (case' hs => exact spl_post (k := 0) rfl (.here .nil)); done) ?_; rintro _ _ ⟨rfl, rfl⟩
  refine JL.nil ?_
  refine J.block ?_
  rw [← bcells_app]
  have hll : (left ++ b).length = left.length + b.length := List.length_append
  rw [← hll]
  generalize left ++ b = ll at hll ⊢
  refine J.loopI (fun x : Nat × Value => ll.length / 64 - x.1) (fun x => x.1 ≤ ll.length / 64) (fun _ => [(0, .pointer (some ⟨g, 0, none⟩))])
    (fun x => own 5 1 x.2 (ll.length - 64 * x.1) (bcells (ll.drop (64 * x.1))) :: row g 48 (fc 8 (fun j => w32 (eatV K V ll x.1 j)) ++ [x.2, .int .u64 ((n : Int) + (b.length : Int))]) :: F) (0, .slice a23 ll.length c23) (Nat.zero_le _) (by repeat (first | exact SubEnv.nil | refine SubEnv.cons (by first | rfl | exact congrArg (fun z => some (Value.int .i64 z)) (by omega) | (simp; done)) ?_)) (fun _ h => h) (fun ⟨i, sv⟩ hi back => ?_)
  dsimp only at hi back ⊢
  have hdl : (ll.drop (64 * i)).length = ll.length - 64 * i := List.length_drop ..
  by_cases hlt : 64 ≤ ll.length - 64 * i
  · refine J.lit .head fun asv csv esv => ?_; subst esv
    refine J.seq ?_
    refine J.seq ?_
    refine J.region ?_
    refine JL.pure rfl rfl (OpP.move rfl) ?_
    refine JL.pure rfl rfl (OpP.nilCheck rfl) ?_
    refine JL.pure rfl rfl (OpP.fieldAddr rfl) ?_
    refine JL.pure rfl rfl (OpP.fieldAddr rfl) ?_
    refine JL.read rfl rfl (OpR.load1 rfl (Cell.row (.tail .head) rfl)) ?_
    refine JL.pure rfl rfl (OpP.len rfl rfl) ?_
    refine JL.decT rfl rfl (OpP.geq rfl rfl) (by omega) ?_
    refine JL.nil ?_
    refine J.condT rfl ?_
    refine J.skip ?_
    refine J.block ?_
    refine J.seq ?_
    refine J.regionD [7] (by kernel_rfl) ?_
    refine DL.pure (i := 0) (by kernel_rfl) (by kernel_rfl) rfl rfl rfl (OpP.move rfl) ?_
    refine DL.pure (i := 1) (by kernel_rfl) (by kernel_rfl) rfl rfl rfl (OpP.nilCheck rfl) ?_
    refine DL.pure (i := 2) (by kernel_rfl) (by kernel_rfl) rfl rfl rfl (OpP.fieldAddr rfl) ?_
    refine DL.pure (i := 3) (by kernel_rfl) (by kernel_rfl) rfl rfl rfl (OpP.move rfl) ?_
    refine DL.pure (i := 4) (by kernel_rfl) (by kernel_rfl) rfl rfl rfl (OpP.nilCheck rfl) ?_
    refine DL.pure (i := 5) (by kernel_rfl) (by kernel_rfl) rfl rfl rfl (OpP.fieldAddr rfl) ?_
    refine DL.pure (i := 6) (by kernel_rfl) (by kernel_rfl) rfl rfl rfl (OpP.fieldAddr rfl) ?_
    refine DL.read (i := 7) (by kernel_rfl) (by kernel_rfl) rfl rfl rfl (fun _ h => h) (OpR.load1 rfl (Cell.row (.tail .head) rfl)) ?_
    refine DL.ownSome .head (by omega) fun gasv pasv easv kasv => ?_; subst easv
    refine DL.pure (i := 8) (by kernel_rfl) (by kernel_rfl) rfl rfl rfl (OpP.sliceTo 64 rfl rfl rfl (by omega)) ?_
    refine DL.only (i := 9) (by kernel_rfl) ?_
    refine DL1.f1 ?_; refine DL1.stepF rfl rfl rfl (by kernel_rfl) (by exact OpW.call (first := []) (captured := []) inferInstance rfl rfl (MixO_ok (bs := ll.drop (64 * i)) (by first | assumption | omega | rfl) (by first | assumption | omega | rfl) (by first | assumption | omega | rfl) (by first | assumption | omega | rfl))) ?_; rintro r43 _ rfl
    refine DL.done (by kernel_rfl) ?_
    refine J.region ?_
    refine JL.pure rfl rfl (OpP.move rfl) ?_
    refine JL.pure rfl rfl (OpP.move rfl) ?_
    refine JL.pure rfl rfl (OpP.nilCheck rfl) ?_
    refine JL.pure rfl rfl (OpP.fieldAddr rfl) ?_
    refine JL.pure rfl rfl (OpP.fieldAddr rfl) ?_
    refine JL.read rfl rfl (OpR.load1 rfl (Cell.row .head rfl)) ?_
    refine JL.pure rfl rfl (OpP.sliceFrom 64 rfl rfl rfl (by omega) (by omega)) ?_
    refine JL.pure rfl rfl (OpP.nilCheck rfl) ?_
    refine JL.pure rfl rfl (OpP.fieldAddr rfl) ?_
    refine JL.pure rfl rfl (OpP.fieldAddr rfl) ?_
    refine JL.mem0 rfl (by apply OpM.store1 rfl rfl rfl; (case' hu => exact .head); (case' hs => exact spl_post (k := 0) rfl (.here .nil)); done) ?_; rintro _ _ ⟨rfl, rfl⟩
    refine JL.nil ?_
    refine J.inBlock ?_
    refine back (i + 1, .slice (some ⟨gasv, if csv = 64 then pasv else pasv + 64 * 1, none⟩) (ll.length - 64 * i - 64) (csv - 64)) (by dsimp only; omega) (by dsimp only; omega) (by repeat (first | exact SubEnv.nil | refine SubEnv.cons (by first | rfl | exact congrArg (fun z => some (Value.int .i64 z)) (by omega) | (simp; done)) ?_)) (fun _ h => ?_)
    have h2 := Own.fromK (k := 64) hlt (Own.f1 h)
    rw [bcells_drop, List.drop_drop] at h2
    dsimp only
    rw [show ll.length - 64 * (i + 1) = ll.length - 64 * i - 64 by omega, show 64 * (i + 1) = 64 * i + 64 * 1 by omega]
    exact h2
  · have hi2 : i = ll.length / 64 := by omega
    subst hi2
    refine J.lit .head fun asv csv esv => ?_; subst esv
    refine J.seq ?_
    refine J.seq ?_
    refine J.region ?_
    refine JL.pure rfl rfl (OpP.move rfl) ?_
    refine JL.pure rfl rfl (OpP.nilCheck rfl) ?_
    refine JL.pure rfl rfl (OpP.fieldAddr rfl) ?_
    refine JL.pure rfl rfl (OpP.fieldAddr rfl) ?_
    refine JL.read rfl rfl (OpR.load1 rfl (Cell.row (.tail .head) rfl)) ?_
    refine JL.pure rfl rfl (OpP.len rfl rfl) ?_
    refine JL.decF rfl rfl (OpP.geq rfl rfl) (by omega) ?_
    refine JL.nil ?_
    refine J.condF rfl ?_
    refine J.exit rfl ?_
    refine J.fin0 rfl ?_
    rw [Int.natCast_add, show ll.length - 64 * (ll.length / 64) = ll.length % 64 by omega]
    exact ⟨_, ⟨_, rfl⟩, fun _ h => Own.f1 h⟩
end Go.Proofs.B
