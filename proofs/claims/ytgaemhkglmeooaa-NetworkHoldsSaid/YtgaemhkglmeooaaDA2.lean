/- A text of the proof of a statement about the given program: its part DA2. No person has read it. -/
import Derived.Test.YtgaemhkglmeooaaDA1
import Derived.Test.YtgaemhkglmeooaaDJ2
-- seat d
namespace Go.Gp
open Go Go.RowKit

section
variable {P : Program} {w0 : World} {env : Env} {l : List HProp} {dst : Option Tmp} {ty : TypeId} {pos : String} {after : Array Edge} {g : Option (Nat × Bool)}
theorem OpP.capSl {x : Operand} {tys : Array TypeId} {t e sz by_ : Nat} {ts : List TypeId} {a : Option Addr} {n cap : Nat} [hs : Sl P t e sz by_] (_ht : tys = (t :: ts).toArray) (hx : ev env x = some (.slice a n cap)) :
    OpP P ⟨dst, .call ⟨.builtin .cap, #[x], tys⟩, ty, pos, after, g⟩ env (.int .i64 cap) := by
  refine ⟨?_⟩
  intro ρ hr w
  have hx' := hr x (by simp [Op.operands, Call.operands]) _ hx
  subst _ht
  simp [execOp, resolve, hx', invoke, builtin, Builtin.cap_, run_underlying hs.und, goInt]
/-- Nought elements more, behind a nil slice. -/
theorem OpM.appendZ {x y : Operand} {tys : Array TypeId} {t u e sz by_ n : Nat} {z : List Value} [hs : Sl P t e sz by_] [hz : Zr P e z]
    (htys : tys = #[t, u]) (hu : ∃ k, P.underlying u = some (.int k)) (hzl : z.length = sz)
    (hx : ev env x = some (.slice none 0 0)) (hy : ev env y = some (.int .i64 (n : Nat))) (hn : 0 < n) (h63 : n ≤ maxLen) (hb : n * by_ ≤ 140737488355328) :
    OpM P w0 ⟨dst, .call ⟨.builtin .append, #[x, y], tys⟩, ty, pos, after, g⟩ env l (fun r l'' => ∃ b c : Nat, r = .slice (some ⟨b, 0, none⟩) n c ∧ n ≤ c ∧ c ≤ maxLen ∧ l'' = row b e (rep c z) :: l) := by
  subst htys
  refine ⟨?_⟩
  intro ρ hr w ho
  have hx' := hr x (by simp [Op.operands, Call.operands]) _ hx
  have hy' := hr y (by simp [Op.operands, Call.operands]) _ hy
  obtain ⟨inf, v0, hi, hzv, hzc⟩ := hz.out
  obtain ⟨inf', h2, h3, h4, h5⟩ := hs.inf
  rw [hi] at h2; cases h2
  obtain ⟨k, hu⟩ := hu
  have h1 : ¬ (n = 0) := by omega
  have hm2 : (n : Int) ≤ 9223372036854775807 := by have : maxLen = 9223372036854775807 := rfl; omega
  have hw : IntKind.i64.wrap (n : Int) = n := by rw [IntKind.wrap_i64]; omega
  have hneg : ¬ ((n : Int) < 0) := by omega
  have hbb : ¬ (281474976710656 < (n : Int) * (by_ : Int)) := by
    have := Int.ofNat_le.2 hb
    rw [Int.natCast_mul] at this; omega
  have hgb := growslice_fits (by omega : 0 < n) hb
  have hgb' : ¬ (281474976710656 < Builtin.nextslicecap n 0 * by_) := by omega
  have hnz : ¬ (n * sz = 0) := by rw [Nat.mul_eq_zero]; omega
  have hge := grownCap_ge w n 0 e
  have hle := grownCap_le_maxLen w n 0 e h63
  have h4' : ¬ ((9223372036854775807 : Int) < (n : Int)) := by omega
  have key : (Builtin.append_ #[t, u] ty #[.slice none 0 0, .int .i64 (n : Nat)]).run P w = .ok (.slice (some ⟨w.heap.size, 0, none⟩) n (grownCap w n 0 e)) (w.drew.alloc (.cells (Builtin.zeroCells v0.cells n ++ Builtin.zeroCells v0.cells (grownCap w n 0 e - n)) e)) := by
    simp [Builtin.append_, run_underlying hs.und, run_underlying hu, sizeOf, typeInfo, asInt, asIntOf, hi, h1, h3, h4, hw, hneg, hbb, hgb', h4', hnz, Question.forced, Builtin.firstCells, zeroValue, hzv, newRow, grownCap]
  refine ⟨.value (.slice (some ⟨w.heap.size, 0, none⟩) n (grownCap w n 0 e)), _, w.drew.alloc (.cells (Builtin.zeroCells v0.cells n ++ Builtin.zeroCells v0.cells (grownCap w n 0 e - n)) e), _, ?_, .inl rfl, ⟨_, _, rfl, hge, hle, rfl⟩, ?_⟩
  · simp [execOp, resolve, hx', hy', invoke, builtin, key]
  refine Own.new ho ?_ ?_
  · exact ((Below.refl _ _).drew).alloc (Nat.le_refl _) _
  · rw [hzc]
    rw [show w.heap.size = w.drew.heap.size from rfl, heap_alloc_new]
    congr 2
    apply Array.ext'
    rw [Array.toList_append, zeroCells_rep z _ (by omega), zeroCells_rep z _ (by omega)]
    simp only [rep]
    rw [← List.flatten_append, List.replicate_append_replicate]
    congr 2; omega
end
end Go.Gp
namespace Go.Proofs.D
open Go Go.Gp Go.RowKit

theorem grow_ok {w0 : World} {F : List HProp} {m : Int} {n : Nat} (hm : m = (n : Nat)) (h0 : 0 < n) (hn : n ≤ 1000) :
    FnO Try.prog w0 31 [.slice none 0 0, .int .i64 m] F (fun u l' => ∃ (b c : Nat), u = .slice (some ⟨b, 0, none⟩) 0 c ∧ l' = own 27 8 (.slice (some ⟨b, 0, none⟩) 0 c) 0 [] :: F) := by
  subst hm
  refine FnO.weak ?_
  refine FnO.intro (n := 27) Try.func31 rfl rfl rfl ?_
  refine J.seq ?_
  refine J.region ?_
  refine JL.pure rfl rfl (OpP.assign rfl) ?_
  refine JL.nil ?_
  refine J.seq ?_
  refine J.seq ?_
  refine J.region ?_
  refine JL.pure rfl rfl (OpP.move rfl) ?_
  refine JL.decF rfl rfl (OpP.lss rfl rfl) (by omega) ?_
  refine JL.nil ?_
  refine J.condF rfl ?_
  refine J.skip ?_
  refine J.seq ?_
  refine J.seq ?_
  refine J.region ?_
  refine JL.pure rfl rfl (OpP.move rfl) ?_
  refine JL.pure rfl rfl (OpP.move rfl) ?_
  refine JL.pure rfl rfl (OpP.capSl rfl rfl) ?_
  refine JL.pure rfl rfl (OpP.move rfl) ?_
  refine JL.pure rfl rfl (OpP.len rfl rfl) ?_
  refine JL.pure rfl rfl (OpP.subI rfl rfl (by omega) (by omega)) ?_
  refine JL.pure rfl rfl (OpP.subI rfl rfl (by omega) (by omega)) ?_
  refine JL.pure rfl rfl (OpP.assign rfl) ?_
  refine JL.nil ?_
  refine J.seq ?_
  refine J.region ?_
  refine JL.pure rfl rfl (OpP.move rfl) ?_
  refine JL.decT rfl rfl (OpP.gtr rfl rfl) (by omega) ?_
  refine JL.nil ?_
  refine J.condT rfl ?_
  refine J.region ?_
  refine JL.pure rfl rfl (OpP.move rfl) ?_
  refine JL.pure rfl rfl (OpP.move rfl) ?_
  refine JL.pure rfl rfl (OpP.capSl rfl rfl) ?_
  refine JL.pure rfl rfl (OpP.sliceNilTo rfl rfl (by omega)) ?_
  refine JL.pure rfl rfl (OpP.move rfl) ?_
  rw [show ((n : Int) - (((0 : Nat) : Int) - ((0 : Nat) : Int))) = (n : Nat) by omega]
  refine JL.mem rfl rfl (OpM.appendZ rfl ⟨.i64, by kernel_rfl⟩ (by rfl) rfl rfl h0 (by simp only [maxLen]; omega) (by omega)) ?_; rintro _ _ ⟨b1, c1, rfl, hc1, hc2, rfl⟩
  refine JL.pure rfl rfl (OpP.move rfl) ?_
  refine JL.pure rfl rfl (OpP.len rfl rfl) ?_
  refine JL.pure rfl rfl (OpP.sliceTo _ rfl rfl rfl (by omega)) ?_
  refine JL.pure rfl rfl (OpP.assign rfl) ?_
  refine JL.nil ?_
  refine J.seq ?_
  refine J.region ?_
  refine JL.pure rfl rfl (OpP.move rfl) ?_
  refine JL.pure rfl rfl (OpP.assign rfl) ?_
  refine JL.nil ?_
  refine J.ret1 rfl rfl ?_
  refine ⟨_, ⟨b1, c1, rfl, rfl⟩, fun w h => ?_⟩
  exact Own.own_in (pre := []) (xs := []) (post := rep c1 _) (Nat.zero_le _) hc2 rfl (by rw [rep_length, Nat.sub_zero]; exact Nat.le_refl _) h
theorem xcl_one {e : Ex} : ∀ u ∈ xcl e, u.oneCell' = true := by
  intro u hu
  simp only [xcl, List.mem_cons, List.not_mem_nil, or_false] at hu
  rcases hu with rfl | rfl | rfl | rfl | rfl | rfl | rfl | rfl <;> rfl
theorem xcls_one {es : List Ex} : ∀ u ∈ es.flatMap xcl, u.oneCell' = true := by
  intro u hu
  obtain ⟨e, _, hu⟩ := List.mem_flatMap.1 hu
  exact xcl_one u hu
theorem chunk8 (es : List Ex) : (es.flatMap xcl).length = es.length * 8 := chunk_length fun _ _ => rfl
theorem concat_ok {w0 : World} {F : List HProp} {a1 a2 : Option Addr} {b c1 c2 : Nat} {xs ys : List Ex} (hx : 0 < xs.length) (hl : xs.length + ys.length ≤ 1000) (hm : RdO w0 F (.slice (some ⟨b, 0, none⟩) 2 2) 2 [.slice a1 xs.length c1, .slice a2 ys.length c2])
    (hr1 : RdO w0 F (.slice a1 xs.length c1) xs.length (xs.flatMap xcl)) (hr2 : RdO w0 F (.slice a2 ys.length c2) ys.length (ys.flatMap xcl)) :
    FnO Try.prog w0 22 [.slice (some ⟨b, 0, none⟩) 2 2] F (fun u l' => ∃ a c, u = .slice a (xs.length + ys.length) c ∧ l' = own 27 8 (.slice a (xs.length + ys.length) c) (xs.length + ys.length) ((xs ++ ys).flatMap xcl) :: F) := by
  have hlx := chunk8 xs
  have hly := chunk8 ys
  have o1 := xcls_one (es := xs)
  have o2 := xcls_one (es := ys)
  refine FnO.rd hm fun hm1 => ?_
  obtain ⟨ga, pa, qa, ea, ka, hcs⟩ := hm1.pos (by omega)
  cases ea
  have h0 : Cell w0 F ⟨b, 0, none⟩ (.slice a1 xs.length c1) := hcs.cell (j := 0) (fun _ h => h) rfl rfl
  have h1 : Cell w0 F ⟨b, 1, none⟩ (.slice a2 ys.length c2) := hcs.cell (j := 1) (fun _ h => h) rfl rfl
  clear hcs hm hm1
  refine FnO.weak ?_
  refine FnO.intro (n := 36) Try.func22 rfl rfl rfl ?_
  refine J.seq ?_
  refine J.region ?_
  refine JL.pure rfl rfl (OpP.assign rfl) ?_
  refine JL.nil ?_
  refine J.seq ?_
  refine J.region ?_
  refine JL.pure rfl rfl (OpP.assign rfl) ?_
  refine JL.nil ?_
  refine J.seq ?_
  refine J.seq ?_
  refine J.region ?_
  refine JL.pure rfl rfl (OpP.move rfl) ?_
  refine JL.pure rfl rfl (OpP.len rfl rfl) ?_
  refine JL.pure rfl rfl (OpP.move rfl) ?_
  refine JL.nil ?_
  refine J.block ?_
  refine J.loop ?_
  refine J.seq ?_
  refine J.region ?_
  refine JL.decT rfl rfl (OpP.lss rfl rfl) (by omega) ?_
  refine JL.nil ?_
  refine J.seq ?_
  refine J.condT rfl ?_
  refine J.skip ?_
  refine J.seq ?_
  refine J.block ?_
  refine J.seq ?_
  refine J.region ?_
  refine JL.pure rfl rfl (OpP.indexAddr rfl rfl (by omega) (by omega)) ?_
  refine JL.read rfl rfl (OpR.load1 rfl (h0.conv (fun _ h => h))) ?_
  refine JL.pure rfl rfl (OpP.assign rfl) ?_
  refine JL.nil ?_
  refine J.seq ?_
  refine J.region ?_
  refine JL.pure rfl rfl (OpP.move rfl) ?_
  refine JL.pure rfl rfl (OpP.move rfl) ?_
  refine JL.pure rfl rfl (OpP.len rfl rfl) ?_
  refine JL.pure rfl rfl (OpP.addI rfl rfl (by omega) (by omega)) ?_
  refine JL.pure rfl rfl (OpP.assign rfl) ?_
  refine JL.nil ?_
  refine J.seq ?_
  refine J.region ?_
  refine JL.pure rfl rfl (OpP.move rfl) ?_
  refine JL.decF rfl rfl (OpP.lss rfl rfl) (by omega) ?_
  refine JL.nil ?_
  refine J.condF rfl ?_
  refine J.skip ?_
  refine J.inBlock ?_
  refine J.region ?_
  refine JL.pure rfl rfl (OpP.addI rfl rfl (by omega) (by omega)) ?_
  refine JL.pure rfl rfl (OpP.move rfl) ?_
  refine JL.nil ?_
  refine J.inLoop ?_
  refine J.seq ?_
  refine J.region ?_
  refine JL.decT rfl rfl (OpP.lss rfl rfl) (by omega) ?_
  refine JL.nil ?_
  refine J.seq ?_
  refine J.condT rfl ?_
  refine J.skip ?_
  refine J.seq ?_
  refine J.block ?_
  refine J.seq ?_
  refine J.region ?_
  refine JL.pure rfl rfl (OpP.indexAddr rfl rfl (by omega) (by omega)) ?_
  refine JL.read rfl rfl (OpR.load1 rfl (h1.conv (fun _ h => h))) ?_
  refine JL.pure rfl rfl (OpP.assign rfl) ?_
  refine JL.nil ?_
  refine J.seq ?_
  refine J.region ?_
  refine JL.pure rfl rfl (OpP.move rfl) ?_
  refine JL.pure rfl rfl (OpP.move rfl) ?_
  refine JL.pure rfl rfl (OpP.len rfl rfl) ?_
  refine JL.pure rfl rfl (OpP.addI rfl rfl (by omega) (by omega)) ?_
  refine JL.pure rfl rfl (OpP.assign rfl) ?_
  refine JL.nil ?_
  refine J.seq ?_
  refine J.region ?_
  refine JL.pure rfl rfl (OpP.move rfl) ?_
  refine JL.decF rfl rfl (OpP.lss rfl rfl) (by omega) ?_
  refine JL.nil ?_
  refine J.condF rfl ?_
  refine J.skip ?_
  refine J.inBlock ?_
  refine J.region ?_
  refine JL.pure rfl rfl (OpP.addI rfl rfl (by omega) (by omega)) ?_
  refine JL.pure rfl rfl (OpP.move rfl) ?_
  refine JL.nil ?_
  refine J.inLoop ?_
  refine J.seq ?_
  refine J.region ?_
  refine JL.decF rfl rfl (OpP.lss rfl rfl) (by omega) ?_
  refine JL.nil ?_
  refine J.seq ?_
  refine J.condF rfl ?_
  refine J.exit rfl ?_
  refine J.seq ?_
  refine J.region ?_
  refine JL.pure rfl rfl (OpP.move rfl) ?_
  refine JL.step rfl rfl (OpW.call (first := []) (captured := []) inferInstance rfl rfl (grow_ok (n := xs.length + ys.length) (m := 0 + (xs.length : Int) + (ys.length : Int)) (by omega) (by omega) (by omega))) ?_; rintro r24 _ ⟨b1, ⟨c, ⟨rfl, rfl⟩⟩⟩
  refine JL.pure rfl rfl (OpP.assign rfl) ?_
  refine JL.nil ?_
  refine J.seq ?_
  refine J.seq ?_
  refine J.region ?_
  refine JL.pure rfl rfl (OpP.move rfl) ?_
  refine JL.pure rfl rfl (OpP.len rfl rfl) ?_
  refine JL.pure rfl rfl (OpP.move rfl) ?_
  refine JL.nil ?_
  refine J.block ?_
  refine J.loop ?_
  refine J.seq ?_
  refine J.region ?_
  refine JL.decT rfl rfl (OpP.lss rfl rfl) (by omega) ?_
  refine JL.nil ?_
  refine J.seq ?_
  refine J.condT rfl ?_
  refine J.skip ?_
  refine J.seq ?_
  refine J.block ?_
  refine J.seq ?_
  refine J.region ?_
  refine JL.pure rfl rfl (OpP.indexAddr rfl rfl (by omega) (by omega)) ?_
  refine JL.read rfl rfl (OpR.load1 rfl (h0.conv (fun _ h => Own.pick (pre := [_]) [] rfl h))) ?_
  refine JL.pure rfl rfl (OpP.assign rfl) ?_
  refine JL.nil ?_
  refine J.region ?_
  refine JL.pure rfl rfl (OpP.move rfl) ?_
  refine JL.pure rfl rfl (OpP.move rfl) ?_
  refine JL.mem rfl rfl (OpM.appendH0 rfl rfl (.inl ⟨_, Sl.und inferInstance⟩) (by rfl) rfl rfl (RdO.src (hr1.conv fun _ h => Own.pick (pre := [_]) [] rfl h) (by first | assumption | exact fc_length _ _ | (simp; done) | (simp; omega))) (by first | exact bcells_one _ | exact scells_one _ | exact icells_one _ | assumption | exact fc_one fun _ => rfl) (by simp only [maxLen]; omega) (by omega)) ?_; rintro _ _ ⟨⟨a33, c33, rfl⟩, rfl⟩
  refine JL.pure rfl rfl (OpP.assign rfl) ?_
  refine JL.nil ?_
  refine J.inBlock ?_
  refine J.region ?_
  refine JL.pure rfl rfl (OpP.addI rfl rfl (by omega) (by omega)) ?_
  refine JL.pure rfl rfl (OpP.move rfl) ?_
  refine JL.nil ?_
  refine J.inLoop ?_
  refine J.seq ?_
  refine J.region ?_
  refine JL.decT rfl rfl (OpP.lss rfl rfl) (by omega) ?_
  refine JL.nil ?_
  refine J.seq ?_
  refine J.condT rfl ?_
  refine J.skip ?_
  refine J.seq ?_
  refine J.block ?_
  refine J.seq ?_
  refine J.region ?_
  refine JL.pure rfl rfl (OpP.indexAddr rfl rfl (by omega) (by omega)) ?_
  refine JL.read rfl rfl (OpR.load1 rfl (h1.conv (fun _ h => Own.pick (pre := [_]) [] rfl h))) ?_
  refine JL.pure rfl rfl (OpP.assign rfl) ?_
  refine JL.nil ?_
  refine J.region ?_
  refine JL.pure rfl rfl (OpP.move rfl) ?_
  refine JL.pure rfl rfl (OpP.move rfl) ?_
  refine JL.mem rfl rfl (OpM.appendH rfl (.inl ⟨_, Sl.und inferInstance⟩) (by rfl) rfl rfl (RdO.src (hr2.conv fun _ h => Own.pick (pre := [_]) [] rfl h) (by first | assumption | exact fc_length _ _ | (simp; done) | (simp; omega))) (by first | exact bcells_one _ | exact scells_one _ | exact icells_one _ | assumption | exact fc_one fun _ => rfl) (by simp only [maxLen]; omega) (by omega)) ?_; rintro _ _ ⟨⟨a33, c33, rfl⟩, rfl⟩
  refine JL.pure rfl rfl (OpP.assign rfl) ?_
  refine JL.nil ?_
  refine J.inBlock ?_
  refine J.region ?_
  refine JL.pure rfl rfl (OpP.addI rfl rfl (by omega) (by omega)) ?_
  refine JL.pure rfl rfl (OpP.move rfl) ?_
  refine JL.nil ?_
  refine J.inLoop ?_
  refine J.seq ?_
  refine J.region ?_
  refine JL.decF rfl rfl (OpP.lss rfl rfl) (by omega) ?_
  refine JL.nil ?_
  refine J.seq ?_
  refine J.condF rfl ?_
  refine J.exit rfl ?_
  refine J.seq ?_
  refine J.region ?_
  refine JL.pure rfl rfl (OpP.move rfl) ?_
  refine JL.pure rfl rfl (OpP.assign rfl) ?_
  refine JL.nil ?_
  refine J.ret1 rfl rfl ?_
  exact ⟨_, ⟨_, _, rfl, rfl⟩, fun _ h => by rw [List.flatMap_append]; exact h⟩
end Go.Proofs.D

-- seat d
namespace Go.Proofs.D
open Go Go.Gp Go.RowKit

abbrev andS : Str := ⟨#[97, 110, 100]⟩
theorem two {α : Type} {l : List α} (h : l.length = 2) : ∃ p q, l = [p, q] := by
  match l, h with
  | [p, q], _ => exact ⟨p, q, rfl⟩
/-- The parts of what must all hold. -/
def conjN : Nat → Ex → List Ex
  | 0, e => [e]
  | n + 1, e => match e.ps with
    | [p, q] => if e.op = andS then conjN n p ++ conjN n q else [e]
    | _ => [e]
def conj (e : Ex) : List Ex := conjN (esz e) e
theorem conjN_eq : ∀ (n : Nat) (e : Ex), esz e ≤ n → conjN n e = conj e := by
  have key : ∀ (n m : Nat) (e : Ex), esz e ≤ n → esz e ≤ m → conjN n e = conjN m e := by
    intro n
    induction n with
    | zero => intro m e h; have := esz_pos e; omega
    | succ n ih =>
      intro m e h1 h2
      obtain ⟨m, rfl⟩ : ∃ k, m = k + 1 := ⟨m - 1, by have := esz_pos e; omega⟩
      rw [conjN, conjN]
      split
      · rename_i p q hps
        rw [esz_eq, hps] at h1 h2
        simp only [eszs] at h1 h2
        rw [ih m p (by omega) (by omega), ih m q (by omega) (by omega)]
      · rfl
  exact fun n e h => key _ _ _ h (Nat.le_refl _)
theorem conj_and {e p q : Ex} (h : e.ps = [p, q]) (ho : e.op = andS) : conj e = conj p ++ conj q := by
  have hz : esz e = 1 + (esz p + (esz q + 0)) := by rw [esz_eq, h]; rfl
  rw [conj, show esz e = (esz p + esz q) + 1 by omega, conjN, h]
  dsimp only
  rw [if_pos ho, conjN_eq _ _ (by omega), conjN_eq _ _ (by omega)]
theorem conj_op {e : Ex} (ho : e.op ≠ andS) : conj e = [e] := by
  have := esz_pos e
  rw [conj, show esz e = (esz e - 1) + 1 by omega, conjN]
  split
  · rw [if_neg ho]
  · rfl
theorem conj_len2 {e : Ex} (ho : e.ps.length ≠ 2) : conj e = [e] := by
  have := esz_pos e
  rw [conj, show esz e = (esz e - 1) + 1 by omega, conjN]
  split
  · rename_i h; rw [h] at ho; exact absurd rfl ho
  · rfl
theorem conj_all {w0 : World} {e : Ex} (he : Tr w0 e) : (∀ x ∈ conj e, Tr w0 x) ∧ 0 < (conj e).length ∧ (conj e).length ≤ esz e := by
  have he' := he
  induction he with
  | mk h1 h2 h3 hv hp hs h ih =>
    rename_i e
    by_cases ho : e.op = andS
    · by_cases hl : e.ps.length = 2
      · obtain ⟨p, q, hps⟩ : ∃ p q, e.ps = [p, q] := two hl
        obtain ⟨a1, a2, a3⟩ := ih p (by rw [hps]; simp) (h p (by rw [hps]; simp))
        obtain ⟨b1, b2, b3⟩ := ih q (by rw [hps]; simp) (h q (by rw [hps]; simp))
        have hz : esz e = 1 + (esz p + (esz q + 0)) := by rw [esz_eq, hps]; rfl
        rw [conj_and hps ho]
        refine ⟨fun x hx => ?_, by rw [List.length_append]; omega, by rw [List.length_append]; omega⟩
        rcases List.mem_append.1 hx with hx | hx
        · exact a1 x hx
        · exact b1 x hx
      · rw [conj_len2 hl]
        exact ⟨fun x hx => by rw [List.mem_singleton.1 hx]; exact he', by simp, esz_pos e⟩
    · rw [conj_op ho]
      exact ⟨fun x hx => by rw [List.mem_singleton.1 hx]; exact he', by simp, esz_pos e⟩
theorem conj_ok {w0 : World} {F : List HProp} {e : Ex} (he : Tr w0 e) :
    FnO Try.prog w0 9 [.agg (xcl e).toArray] F (fun u l' => ∃ a c, u = .slice a (conj e).length c ∧ l' = own 27 8 (.slice a (conj e).length c) (conj e).length ((conj e).flatMap xcl) :: F) := by
  have he' := he
  induction he generalizing F with
  | mk h1 h2 h3 hv hp hs h ih =>
    rename_i e
    have hn1 : e.ps.length ≤ 59 := Tr.len (.mk h1 h2 h3 hv hp hs h)
    have hone := conj_op (e := e)
    have hlen2 := conj_len2 (e := e)
    have hand := fun (p q : Ex) => conj_and (e := e) (p := p) (q := q)
    obtain ⟨op, who, name, v, ps, a, c⟩ := e
    rw [xcl_mk] at *
    dsimp only [Ex.op, Ex.who, Ex.name, Ex.v, Ex.ps, Ex.a, Ex.c] at *
    have hlen : ∀ p ∈ ps, (xcl p).length = 8 := fun _ _ => rfl
    refine FnO.rd (hp F) fun hr1 => ?_
    refine FnO.weak ?_
    refine FnO.intro (n := 26) Try.func9 rfl rfl rfl ?_
    refine J.seq ?_
    refine J.region ?_
    refine JL.mem rfl rfl (OpM.box rfl rfl) ?_; rintro _ _ ⟨b1, rfl, rfl⟩
    refine JL.pure rfl rfl (OpP.assign rfl) ?_
    refine JL.nil ?_
    refine J.seq ?_
    refine J.seq ?_
    refine J.region ?_
    refine JL.pure rfl rfl (OpP.fieldAddr rfl) ?_
    refine JL.read rfl rfl (OpR.load1 rfl (Cell.row .head rfl)) ?_
    refine JL.dec rfl rfl (OpP.neStr rfl rfl) (fun h5 => ?_) (fun h5 => ?_)
    focus
      refine JL.pure rfl rfl (OpP.move rfl) ?_
      refine JL.skip rfl rfl ?_
      refine JL.skip rfl rfl ?_
      refine JL.skip rfl rfl ?_
      refine JL.skip rfl rfl ?_
      refine JL.pure rfl rfl (OpP.pickT rfl rfl) ?_
      refine JL.nil ?_
      refine J.condT rfl ?_
      refine J.seq ?_
      refine J.region ?_
      refine JL.read rfl rfl (OpR.loadN rfl (Cells.full .head) rfl) ?_
      refine JL.mem rfl rfl (by apply OpM.buildSlice (by rfl) rfl (by rfl); (repeat (first | exact Fills.nil | (apply Fills.cons rfl rfl rfl; (case' hs => ((repeat (first | exact Spl.nil | apply Spl.here | apply Spl.there)); done)))))) ?_; rintro _ _ ⟨b13, rfl, rfl⟩
      refine JL.pure rfl rfl (OpP.assign rfl) ?_
      refine JL.nil ?_
      refine J.ret1 rfl rfl ?_
    rotate_left 1
    focus
      refine JL.pure rfl rfl (OpP.move rfl) ?_
      refine JL.pure rfl rfl (OpP.fieldAddr rfl) ?_
      refine JL.read rfl rfl (OpR.load1 rfl (Cell.row .head rfl)) ?_
      refine JL.pure rfl rfl (OpP.len rfl rfl) ?_
      refine JL.dec rfl rfl (OpP.neq rfl rfl) (fun h10 => ?_) (fun h10 => ?_)
      focus
        refine JL.pure rfl rfl (OpP.pickF rfl rfl) ?_
        refine JL.nil ?_
        refine J.condT rfl ?_
        refine J.seq ?_
        refine J.region ?_
        refine JL.read rfl rfl (OpR.loadN rfl (Cells.full .head) rfl) ?_
        refine JL.mem rfl rfl (by apply OpM.buildSlice (by rfl) rfl (by rfl); (repeat (first | exact Fills.nil | (apply Fills.cons rfl rfl rfl; (case' hs => ((repeat (first | exact Spl.nil | apply Spl.here | apply Spl.there)); done)))))) ?_; rintro _ _ ⟨b13, rfl, rfl⟩
        refine JL.pure rfl rfl (OpP.assign rfl) ?_
        refine JL.nil ?_
        refine J.ret1 rfl rfl ?_
      rotate_left 1
      focus
        refine JL.pure rfl rfl (OpP.pickF rfl rfl) ?_
        refine JL.nil ?_
        refine J.condF rfl ?_
        refine J.skip ?_
      rotate_left 1
    rotate_left 2
    · rw [hone (by assumption)]
      exact ⟨_, ⟨_, _, rfl, rfl⟩, fun _ h => Own.own_whole (Nat.le_of_ble_eq_true rfl) rfl (Own.pick (pre := [_, _]) [0] rfl h)⟩
    · rw [hlen2 (by omega)]
      exact ⟨_, ⟨_, _, rfl, rfl⟩, fun _ h => Own.own_whole (Nat.le_of_ble_eq_true rfl) rfl (Own.pick (pre := [_, _]) [0] rfl h)⟩
    have hop : op = andS := by simp_all
    obtain ⟨p, q, hps⟩ := two (l := ps) (by omega)
    have ihp := fun (G : List HProp) => ih p (by rw [hps]; simp) (h p (by rw [hps]; simp)) (F := G)
    have ihq := fun (G : List HProp) => ih q (by rw [hps]; simp) (h q (by rw [hps]; simp)) (F := G)
    obtain ⟨p1, p2, p3⟩ := conj_all (h p (by rw [hps]; simp))
    obtain ⟨q1, q2, q3⟩ := conj_all (h q (by rw [hps]; simp))
    have hsum : esz p + esz q ≤ 60 := by rw [esz_eq] at hs; simp only [Ex.ps, hps, eszs] at hs; omega
    rw [hand p q hps hop]
    have hp0 : ps[0]? = some p := by rw [hps]; rfl
    have hp1 : ps[1]? = some q := by rw [hps]; rfl
    have hpl : ps.length = 2 := by rw [hps]; rfl
    clear ih hone hlen2 hand
    obtain ⟨ga, pa, qa, ea, ka, hcs⟩ := hr1.pos (by omega)
    cases ea
    refine J.seq ?_
    refine J.regionD [1, 3, 6, 8] (by kernel_rfl) ?_
    refine DL.pure (i := 0) (by kernel_rfl) (by kernel_rfl) rfl rfl rfl (OpP.fieldAddr rfl) ?_
    refine DL.read (i := 1) (by kernel_rfl) (by kernel_rfl) rfl rfl rfl (fun _ h => h) (OpR.load1 rfl (Cell.row .head rfl)) ?_
    refine DL.pure (i := 2) (by kernel_rfl) (by kernel_rfl) rfl rfl rfl (OpP.indexAddr rfl rfl (by omega) (by omega)) ?_
    refine DL.read (i := 3) (by kernel_rfl) (by kernel_rfl) rfl rfl rfl (fun _ h => h) (OpR.loadN rfl (by apply Cells.conv (fun _ h => Own.pick (pre := [_]) [] rfl h); apply Cells.chunkAt hcs; (case' h => assumption); (case' hi => assumption); done) (by first | rfl | assumption)) ?_
    refine DL.pure (i := 5) (by kernel_rfl) (by kernel_rfl) rfl rfl rfl (OpP.fieldAddr rfl) ?_
    refine DL.read (i := 6) (by kernel_rfl) (by kernel_rfl) rfl rfl rfl (fun _ h => h) (OpR.load1 rfl (Cell.row .head rfl)) ?_
    refine DL.pure (i := 7) (by kernel_rfl) (by kernel_rfl) rfl rfl rfl (OpP.indexAddr rfl rfl (by omega) (by omega)) ?_
    refine DL.read (i := 8) (by kernel_rfl) (by kernel_rfl) rfl rfl rfl (fun _ h => h) (OpR.loadN rfl (by apply Cells.conv (fun _ h => Own.pick (pre := [_]) [] rfl h); apply Cells.chunkAt hcs; (case' h => assumption); (case' hi => assumption); done) (by first | rfl | assumption)) ?_
    refine DL.only (i := 4) (by kernel_rfl) ?_
    refine DL1.stepK rfl rfl rfl (by exact OpW.call (first := []) (captured := []) inferInstance rfl rfl (ihp _)) (by rintro _ _ ⟨a, ⟨c1, ⟨rfl, rfl⟩⟩⟩ _ h; exact Own.pick (pre := [_, _]) [1] rfl h) ?_; rintro r18 _ ⟨a, ⟨c1, ⟨rfl, rfl⟩⟩⟩
    refine DL.only (i := 9) (by kernel_rfl) ?_
    refine DL1.stepF rfl rfl rfl (by kernel_rfl) (by exact OpW.call (first := []) (captured := []) inferInstance rfl rfl (ihq _)) ?_; rintro r23 _ ⟨a1, ⟨c2, ⟨rfl, rfl⟩⟩⟩
    refine DL.only (i := 10) (by kernel_rfl) ?_
    refine DL1.stepF rfl rfl rfl (by kernel_rfl) (OpM.w (by apply OpM.buildSlice (by rfl) rfl (by rfl); (repeat (first | exact Fills.nil | (apply Fills.cons rfl rfl rfl; (case' hs => ((repeat (first | exact Spl.nil | apply Spl.here | apply Spl.there)); done))))))) ?_; rintro _ _ ⟨b24, rfl, rfl⟩
    refine DL.only (i := 11) (by kernel_rfl) ?_
    refine DL1.stepF rfl rfl rfl (by kernel_rfl) (by exact OpW.call (first := []) (captured := []) inferInstance rfl rfl (concat_ok (xs := conj p) (ys := conj q) (by omega) (by omega) (RdO.ofRow .head (Nat.le_refl _)) (RdO.own (.tail (.tail .head))) (RdO.own (.tail .head)))) ?_; rintro r25 _ ⟨a2, ⟨c3, ⟨rfl, rfl⟩⟩⟩
    refine DL.pure (i := 12) (by kernel_rfl) (by kernel_rfl) rfl rfl rfl (OpP.assign rfl) ?_
    refine DL.done (by kernel_rfl) ?_
    refine J.ret1 rfl rfl ?_
    rw [List.length_append]
    exact ⟨_, ⟨_, _, rfl, rfl⟩, fun _ h => Own.pick (pre := [_, _, _, _, _]) [0] rfl h⟩
theorem conjR_ok {w0 : World} {F : List HProp} {e : Ex} (he : Tr w0 e) :
    FnO Try.prog w0 11 [.agg (xcl e).toArray] F (fun u l' => ∃ a c, u = .slice a (conj e).length c ∧ l' = own 27 8 (.slice a (conj e).length c) (conj e).length ((conj e).flatMap xcl) :: F) := by
  have he' := he
  induction he generalizing F with
  | mk h1 h2 h3 hv hp hs h ih =>
    rename_i e
    have hn1 : e.ps.length ≤ 59 := Tr.len (.mk h1 h2 h3 hv hp hs h)
    have hone := conj_op (e := e)
    have hlen2 := conj_len2 (e := e)
    have hand := fun (p q : Ex) => conj_and (e := e) (p := p) (q := q)
    obtain ⟨op, who, name, v, ps, a, c⟩ := e
    rw [xcl_mk] at *
    dsimp only [Ex.op, Ex.who, Ex.name, Ex.v, Ex.ps, Ex.a, Ex.c] at *
    have hlen : ∀ p ∈ ps, (xcl p).length = 8 := fun _ _ => rfl
    refine FnO.rd (hp F) fun hr1 => ?_
    refine FnO.weak ?_
    refine FnO.intro (n := 25) Try.func11 rfl rfl rfl ?_
    by_cases hq : op = andS ∧ ps.length = 2
    · obtain ⟨hop, hl2⟩ := hq
      subst hop
      obtain ⟨p, q, hps⟩ := two (l := ps) (by omega)
      have ihp := fun (G : List HProp) => ih p (by rw [hps]; simp) (h p (by rw [hps]; simp)) (F := G)
      have ihq := fun (G : List HProp) => ih q (by rw [hps]; simp) (h q (by rw [hps]; simp)) (F := G)
      obtain ⟨p1, p2, p3⟩ := conj_all (h p (by rw [hps]; simp))
      obtain ⟨q1, q2, q3⟩ := conj_all (h q (by rw [hps]; simp))
      have hsum : esz p + esz q ≤ 60 := by rw [esz_eq] at hs; simp only [Ex.ps, hps, eszs] at hs; omega
      rw [hand p q hps rfl]
      have hp0 : ps[0]? = some p := by rw [hps]; rfl
      have hp1 : ps[1]? = some q := by rw [hps]; rfl
      have hpl : ps.length = 2 := by rw [hps]; rfl
      clear ih hone hlen2 hand
      obtain ⟨ga, pa, qa, ea, ka, hcs⟩ := hr1.pos (by omega)
      cases ea
      have o2 := xcls_one (es := conj q)
      have hlq := chunk8 (conj q)
      refine J.seq ?_
      refine J.region ?_
      refine JL.mem rfl rfl (OpM.box rfl rfl) ?_; rintro _ _ ⟨b1, rfl, rfl⟩
      refine JL.pure rfl rfl (OpP.assign rfl) ?_
      refine JL.nil ?_
      refine J.seq ?_
      refine J.seq ?_
      refine J.region ?_
      refine JL.pure rfl rfl (OpP.fieldAddr rfl) ?_
      refine JL.read rfl rfl (OpR.load1 rfl (Cell.row .head rfl)) ?_
      refine JL.decT rfl rfl (OpP.eqStr rfl rfl) (by decide) ?_
      refine JL.pure rfl rfl (OpP.move rfl) ?_
      refine JL.pure rfl rfl (OpP.fieldAddr rfl) ?_
      refine JL.read rfl rfl (OpR.load1 rfl (Cell.row .head rfl)) ?_
      refine JL.pure rfl rfl (OpP.len rfl rfl) ?_
      refine JL.decT rfl rfl (OpP.eql rfl rfl) (by omega) ?_
      refine JL.pure rfl rfl (OpP.pickT rfl rfl) ?_
      refine JL.nil ?_
      refine J.condT rfl ?_
      refine J.seq ?_
      refine J.regionD [1, 3, 6, 8] (by kernel_rfl) ?_
      refine DL.pure (i := 0) (by kernel_rfl) (by kernel_rfl) rfl rfl rfl (OpP.fieldAddr rfl) ?_
      refine DL.read (i := 1) (by kernel_rfl) (by kernel_rfl) rfl rfl rfl (fun _ h => h) (OpR.load1 rfl (Cell.row .head rfl)) ?_
      refine DL.pure (i := 2) (by kernel_rfl) (by kernel_rfl) rfl rfl rfl (OpP.indexAddr rfl rfl (by omega) (by omega)) ?_
      refine DL.read (i := 3) (by kernel_rfl) (by kernel_rfl) rfl rfl rfl (fun _ h => h) (OpR.loadN rfl (by apply Cells.conv (fun _ h => Own.pick (pre := [_]) [] rfl h); apply Cells.chunkAt hcs; (case' h => assumption); (case' hi => assumption); done) (by first | rfl | assumption)) ?_
      refine DL.pure (i := 5) (by kernel_rfl) (by kernel_rfl) rfl rfl rfl (OpP.fieldAddr rfl) ?_
      refine DL.read (i := 6) (by kernel_rfl) (by kernel_rfl) rfl rfl rfl (fun _ h => h) (OpR.load1 rfl (Cell.row .head rfl)) ?_
      refine DL.pure (i := 7) (by kernel_rfl) (by kernel_rfl) rfl rfl rfl (OpP.indexAddr rfl rfl (by omega) (by omega)) ?_
      refine DL.read (i := 8) (by kernel_rfl) (by kernel_rfl) rfl rfl rfl (fun _ h => h) (OpR.loadN rfl (by apply Cells.conv (fun _ h => Own.pick (pre := [_]) [] rfl h); apply Cells.chunkAt hcs; (case' h => assumption); (case' hi => assumption); done) (by first | rfl | assumption)) ?_
      refine DL.only (i := 4) (by kernel_rfl) ?_
      refine DL1.stepK rfl rfl rfl (by exact OpW.call (first := []) (captured := []) inferInstance rfl rfl (ihp _)) (by rintro _ _ ⟨a, ⟨c1, ⟨rfl, rfl⟩⟩⟩ _ h; exact Own.pick (pre := [_, _]) [1] rfl h) ?_; rintro r16 _ ⟨a, ⟨c1, ⟨rfl, rfl⟩⟩⟩
      refine DL.only (i := 9) (by kernel_rfl) ?_
      refine DL1.stepF rfl rfl rfl (by kernel_rfl) (by exact OpW.call (first := []) (captured := []) inferInstance rfl rfl (ihq _)) ?_; rintro r21 _ ⟨a1, ⟨c2, ⟨rfl, rfl⟩⟩⟩
      refine DL.only (i := 10) (by kernel_rfl) ?_
      refine DL1.f1 ?_; refine DL1.stepF rfl rfl rfl (by kernel_rfl) (OpM.w (OpM.appendH rfl (.inl ⟨_, Sl.und inferInstance⟩) (by rfl) rfl rfl (RdO.src (RdO.own (.tail .head)) (by first | assumption | exact fc_length _ _ | (simp; done) | (simp; omega))) (by first | exact bcells_one _ | exact scells_one _ | exact icells_one _ | assumption | exact fc_one fun _ => rfl) (by simp only [maxLen]; omega) (by omega))) ?_; rintro _ _ ⟨⟨a22, c22, rfl⟩, rfl⟩
      refine DL.pure (i := 11) (by kernel_rfl) (by kernel_rfl) rfl rfl rfl (OpP.assign rfl) ?_
      refine DL.done (by kernel_rfl) ?_
      refine J.ret1 rfl rfl ?_
      rw [List.length_append, List.flatMap_append]
      exact ⟨_, ⟨_, _, rfl, rfl⟩, fun _ h => Own.pick (pre := [_, _, _]) [0] rfl h⟩
    · have e1 : conj (.mk op who name v ps a c) = [.mk op who name v ps a c] := by
        by_cases ho : op = andS
        · exact hlen2 (fun q => hq ⟨ho, q⟩)
        · exact hone ho
      rw [e1]
      by_cases ho : op = andS
      · have : ps.length ≠ 2 := fun q => hq ⟨ho, q⟩
        refine J.seq ?_
        refine J.region ?_
        refine JL.mem rfl rfl (OpM.box rfl rfl) ?_; rintro _ _ ⟨b1, rfl, rfl⟩
        refine JL.pure rfl rfl (OpP.assign rfl) ?_
        refine JL.nil ?_
        refine J.seq ?_
        refine J.seq ?_
        refine J.region ?_
        refine JL.pure rfl rfl (OpP.fieldAddr rfl) ?_
        refine JL.read rfl rfl (OpR.load1 rfl (Cell.row .head rfl)) ?_
        refine JL.decT rfl rfl (OpP.eqStr rfl rfl) (by omega) ?_
        refine JL.pure rfl rfl (OpP.move rfl) ?_
        refine JL.pure rfl rfl (OpP.fieldAddr rfl) ?_
        refine JL.read rfl rfl (OpR.load1 rfl (Cell.row .head rfl)) ?_
        refine JL.pure rfl rfl (OpP.len rfl rfl) ?_
        refine JL.decF rfl rfl (OpP.eql rfl rfl) (by omega) ?_
        refine JL.pure rfl rfl (OpP.pickT rfl rfl) ?_
        refine JL.nil ?_
        refine J.condF rfl ?_
        refine J.skip ?_
        refine J.seq ?_
        refine J.region ?_
        refine JL.read rfl rfl (OpR.loadN rfl (Cells.full .head) rfl) ?_
        refine JL.mem rfl rfl (by apply OpM.buildSlice (by rfl) rfl (by rfl); (repeat (first | exact Fills.nil | (apply Fills.cons rfl rfl rfl; (case' hs => ((repeat (first | exact Spl.nil | apply Spl.here | apply Spl.there)); done)))))) ?_; rintro _ _ ⟨b24, rfl, rfl⟩
        refine JL.pure rfl rfl (OpP.assign rfl) ?_
        refine JL.nil ?_
        refine J.ret1 rfl rfl ?_
        exact ⟨_, ⟨_, _, rfl, rfl⟩, fun _ h => Own.own_whole (Nat.le_of_ble_eq_true rfl) rfl (Own.pick (pre := [_, _]) [0] rfl h)⟩
      · refine J.seq ?_
        refine J.region ?_
        refine JL.mem rfl rfl (OpM.box rfl rfl) ?_; rintro _ _ ⟨b1, rfl, rfl⟩
        refine JL.pure rfl rfl (OpP.assign rfl) ?_
        refine JL.nil ?_
        refine J.seq ?_
        refine J.seq ?_
        refine J.region ?_
        refine JL.pure rfl rfl (OpP.fieldAddr rfl) ?_
        refine JL.read rfl rfl (OpR.load1 rfl (Cell.row .head rfl)) ?_
        refine JL.decF rfl rfl (OpP.eqStr rfl rfl) (by omega) ?_
        refine JL.pure rfl rfl (OpP.move rfl) ?_
        refine JL.skip rfl rfl ?_
        refine JL.skip rfl rfl ?_
        refine JL.skip rfl rfl ?_
        refine JL.skip rfl rfl ?_
        refine JL.pure rfl rfl (OpP.pickF rfl rfl) ?_
        refine JL.nil ?_
        refine J.condF rfl ?_
        refine J.skip ?_
        refine J.seq ?_
        refine J.region ?_
        refine JL.read rfl rfl (OpR.loadN rfl (Cells.full .head) rfl) ?_
        refine JL.mem rfl rfl (by apply OpM.buildSlice (by rfl) rfl (by rfl); (repeat (first | exact Fills.nil | (apply Fills.cons rfl rfl rfl; (case' hs => ((repeat (first | exact Spl.nil | apply Spl.here | apply Spl.there)); done)))))) ?_; rintro _ _ ⟨b24, rfl, rfl⟩
        refine JL.pure rfl rfl (OpP.assign rfl) ?_
        refine JL.nil ?_
        refine J.ret1 rfl rfl ?_
        exact ⟨_, ⟨_, _, rfl, rfl⟩, fun _ h => Own.own_whole (Nat.le_of_ble_eq_true rfl) rfl (Own.pick (pre := [_, _]) [0] rfl h)⟩
end Go.Proofs.D

-- seat d
namespace Go.Proofs.D
open Go Go.Gp Go.RowKit

/-- The tree that asks for the time. -/
def nowE : Ex := .mk nowS noS noS ⟨0, 0, [], [], none, 0⟩ [] none 0
theorem nowE_tr {w0 : World} : Tr w0 nowE :=
  .mk (by decide) (by decide) (by decide) (fun l => ⟨by decide, by simp [nowE, Ex.v], by simp [nowE, Ex.v], (Rd.o (.inl ⟨_, _, rfl, rfl, rfl⟩))⟩) (fun l => (Rd.o (.inl ⟨_, _, rfl, rfl, rfl⟩))) (by decide) (by simp [nowE, Ex.ps])
theorem nowE_side : sideN (enf nowE) = 6 := by decide +kernel
end Go.Proofs.D

-- seat d
namespace Go.Proofs.D
open Go Go.Gp Go.RowKit

/-! Documents, as they lie in memory. -/
structure Ru where
  permit : Bool
  name : Str
  hasIf : Bool
  e : Ex
  da : Option Addr
  dn : Nat
  dc : Nat
  aa : Option Addr
  an : Nat
  ac : Nat
abbrev ucl (r : Ru) : List Value := [.bool r.permit, .string r.name, .bool r.hasIf, .string r.e.op, .int .i64 r.e.v.k, .int .i64 r.e.v.i, .string (strB r.e.v.s), .slice r.e.v.a r.e.v.xs.length r.e.v.c, .string r.e.who, .string r.e.name, .slice r.e.a r.e.ps.length r.e.c, .slice r.da r.dn r.dc, .slice r.aa r.an r.ac]
structure Po where
  name : Str
  by_ : Str
  use : Str
  hasFor : Bool
  e : Ex
  rs : List Ru
  a : Option Addr
  c : Nat
abbrev pc13 (name by_ use : Str) (hasFor : Bool) (e : Ex) (a : Option Addr) (n c : Nat) : List Value := [.string name, .string by_, .string use, .bool hasFor, .string e.op, .int .i64 e.v.k, .int .i64 e.v.i, .string (strB e.v.s), .slice e.v.a e.v.xs.length e.v.c, .string e.who, .string e.name, .slice e.a e.ps.length e.c, .slice a n c]
abbrev pcl (p : Po) : List Value := pc13 p.name p.by_ p.use p.hasFor p.e p.a p.rs.length p.c
structure Dc where
  fa : Option Addr
  fn : Nat
  fc : Nat
  use : Str
  ps : List Po
  a : Option Addr
  c : Nat
abbrev dcl (d : Dc) : List Value := [.slice d.fa d.fn d.fc, .string d.use, .slice d.a d.ps.length d.c]
def PoOk (w0 : World) (p : Po) : Prop := ExOk w0 p.e ∧ (∀ l, RdO w0 l (.slice p.a p.rs.length p.c) p.rs.length (p.rs.flatMap ucl)) ∧ p.rs.length ≤ maxLen ∧ ∀ r ∈ p.rs, ExOk w0 r.e
def DcOk (w0 : World) (d : Dc) : Prop := (∀ l, RdO w0 l (.slice d.a d.ps.length d.c) d.ps.length (d.ps.flatMap pcl)) ∧ d.ps.length ≤ maxLen ∧ ∀ p ∈ d.ps, PoOk w0 p
/-- Of a size that is looked at. -/
structure PoT (w0 : World) (p : Po) : Prop where
  e : Tr w0 p.e
  hr : ∀ l, RdO w0 l (.slice p.a p.rs.length p.c) p.rs.length (p.rs.flatMap ucl)
  n : p.rs.length ≤ 8
  ru : ∀ r ∈ p.rs, Tr w0 r.e
structure DcT (w0 : World) (d : Dc) : Prop where
  hr : ∀ l, RdO w0 l (.slice d.a d.ps.length d.c) d.ps.length (d.ps.flatMap pcl)
  n : d.ps.length ≤ 6
  po : ∀ p ∈ d.ps, PoT w0 p
theorem slice_lit {w0 : World} {t e : Nat} {c : Value} (ht : Try.prog.underlying t = some (.slice e)) (h : Fm Try.prog w0 t [c]) : ∃ (a : Option Addr) (n k : Nat), c = .slice a n k ∧ n ≤ maxLen := by
  rcases h.slice ht with h0 | ⟨a, n, k, h0, h1, h2, _⟩
  · simp at h0; exact ⟨_, _, _, h0, Nat.zero_le _⟩
  · simp at h0; exact ⟨_, _, _, h0, Nat.le_trans h1 h2⟩
theorem Fm.ru {w0 : World} {cs : List Value} (h : Fm Try.prog w0 62 cs) : ∃ r : Ru, ExOk w0 r.e ∧ cs = ucl r := by
  have h := h.fields (l := [(4, 1), (9, 1), (4, 1), (27, 8), (60, 1), (60, 1)]) (by kernel_rfl)
  obtain ⟨c0, cs, rfl, f0, h⟩ := h.one
  obtain ⟨c1, cs, rfl, f1, h⟩ := h.one
  obtain ⟨c2, cs, rfl, f2, h⟩ := h.one
  obtain ⟨d, cs, rfl, _, f3, h⟩ := h.many
  obtain ⟨c4, cs, rfl, f4, h⟩ := h.one
  obtain ⟨c5, cs, rfl, f5, h⟩ := h.one
  cases h
  obtain ⟨permit, e0⟩ := f0.bool (by kernel_rfl)
  obtain ⟨name, e1, _⟩ := f1.str (by kernel_rfl)
  obtain ⟨hasIf, e2⟩ := f2.bool (by kernel_rfl)
  obtain ⟨e, he, rfl⟩ := Fm.tree f3
  obtain ⟨da, dn, dc, rfl, _⟩ := slice_lit (e := 9) (by kernel_rfl) f4
  obtain ⟨aa, an, ac, rfl, _⟩ := slice_lit (e := 9) (by kernel_rfl) f5
  cases e0; cases e1; cases e2
  exact ⟨⟨permit, name, hasIf, e, da, dn, dc, aa, an, ac⟩, he, rfl⟩
theorem Fm.po {w0 : World} {cs : List Value} (h : Fm Try.prog w0 51 cs) : ∃ p : Po, PoOk w0 p ∧ cs = pcl p := by
  have h := h.fields (l := [(9, 1), (9, 1), (9, 1), (4, 1), (27, 8), (49, 1)]) (by kernel_rfl)
  obtain ⟨c0, cs, rfl, f0, h⟩ := h.one
  obtain ⟨c1, cs, rfl, f1, h⟩ := h.one
  obtain ⟨c2, cs, rfl, f2, h⟩ := h.one
  obtain ⟨c3, cs, rfl, f3, h⟩ := h.one
  obtain ⟨d, cs, rfl, _, f4, h⟩ := h.many
  obtain ⟨c5, cs, rfl, f5, h⟩ := h.one
  cases h
  obtain ⟨name, e0, _⟩ := f0.str (by kernel_rfl)
  obtain ⟨by_, e1, _⟩ := f1.str (by kernel_rfl)
  obtain ⟨use, e2, _⟩ := f2.str (by kernel_rfl)
  obtain ⟨hasFor, e3⟩ := f3.bool (by kernel_rfl)
  obtain ⟨e, he, rfl⟩ := Fm.tree f4
  obtain ⟨rs, hl, hm, hr⟩ := Fm.rows (f := ucl) (Q := fun r => ExOk w0 r.e) (e := 62) (by kernel_rfl) (sz := 13) (by kernel_rfl) (by decide) f5 fun cs _ hf => Fm.ru hf
  obtain ⟨a, c, q⟩ := (hr []).lit
  cases q
  cases e0; cases e1; cases e2; cases e3
  exact ⟨⟨name, by_, use, hasFor, e, rs, a, c⟩, ⟨he, fun l => (hr l).o, hm, fun r hr => (hl r hr).1⟩, rfl⟩
theorem Fm.doc {w0 : World} {cs : List Value} (h : Fm Try.prog w0 36 cs) : ∃ d : Dc, (DcOk w0 d ∧ d.fn ≤ maxLen) ∧ cs = dcl d := by
  have h := h.fields (l := [(33, 1), (9, 1), (34, 1)]) (by kernel_rfl)
  obtain ⟨c0, cs, rfl, f0, h⟩ := h.one
  obtain ⟨c1, cs, rfl, f1, h⟩ := h.one
  obtain ⟨c2, cs, rfl, f2, h⟩ := h.one
  cases h
  obtain ⟨fa, fn, fc, rfl, hfn⟩ := slice_lit (e := 108) (by kernel_rfl) f0
  obtain ⟨use, e1, _⟩ := f1.str (by kernel_rfl)
  obtain ⟨ps, hl, hm, hr⟩ := Fm.rows (f := pcl) (Q := PoOk w0) (e := 51) (by kernel_rfl) (sz := 13) (by kernel_rfl) (by decide) f2 fun cs _ hf => Fm.po hf
  obtain ⟨a, c, q⟩ := (hr []).lit
  cases q
  cases e1
  exact ⟨⟨fa, fn, fc, use, ps, a, c⟩, ⟨⟨fun l => (hr l).o, hm, fun r hr => (hl r hr).1⟩, hfn⟩, rfl⟩
theorem fewDoc_ok {w0 : World} {F : List HProp} {d : Dc} (h : DcOk w0 d) (hfn : d.fn ≤ maxLen) :
    FnO Try.prog w0 14 [.agg (dcl d).toArray] F (fun r l' => ∃ b, r = .bool b ∧ l' = F ∧ (b = true → DcT w0 d)) := by
  obtain ⟨hd, hn, hp⟩ := h
  obtain ⟨fa, fn, fc, use, ps, a, c⟩ := d
  dsimp only at *
  have fin : (ps.length ≤ 6 ∧ ∀ (q : Nat) (p : Po), q < ps.length → ps[q]? = some p → PoT w0 p) → DcT w0 ⟨fa, fn, fc, use, ps, a, c⟩ := fun ⟨h1, h2⟩ => ⟨hd, h1, fun p hp => by
    obtain ⟨q, hq⟩ := List.getElem?_of_mem hp
    exact h2 q p (List.getElem?_eq_some_iff.1 hq).1 hq⟩
  have hlen : ∀ p ∈ ps, (pcl p).length = 13 := fun _ _ => rfl
  have hn2 : ps.length ≤ 9223372036854775807 := Nat.le_trans hn (by decide)
  refine FnO.rd (hd F) fun hr1 => ?_
  refine FnO.weak ?_
  change FnO Try.prog w0 14 [.agg [Value.slice fa fn fc, .string use, .slice a ps.length c].toArray] F _
  refine FnO.intro (n := 73) Try.func14 rfl rfl rfl ?_
  refine J.seq ?_
  refine J.region ?_
  refine JL.mem rfl rfl (OpM.box rfl rfl) ?_; rintro _ _ ⟨b1, rfl, rfl⟩
  refine JL.pure rfl rfl (OpP.assign rfl) ?_
  refine JL.nil ?_
  refine J.seq ?_
  refine J.seq ?_
  refine J.region ?_
  refine JL.pure rfl rfl (OpP.fieldAddr rfl) ?_
  refine JL.read rfl rfl (OpR.load1 rfl (Cell.row .head rfl)) ?_
  refine JL.pure rfl rfl (OpP.len rfl rfl) ?_
  refine JL.dec rfl rfl (OpP.gtr rfl rfl) (fun h10 => ?_) (fun h10 => ?_)
  focus
    refine JL.pure rfl rfl (OpP.move rfl) ?_
    refine JL.skip rfl rfl ?_
    refine JL.skip rfl rfl ?_
    refine JL.skip rfl rfl ?_
    refine JL.skip rfl rfl ?_
    refine JL.pure rfl rfl (OpP.pickT rfl rfl) ?_
    refine JL.pure rfl rfl (OpP.move rfl) ?_
    refine JL.skip rfl rfl ?_
    refine JL.skip rfl rfl ?_
    refine JL.skip rfl rfl ?_
    refine JL.skip rfl rfl ?_
    refine JL.pure rfl rfl (OpP.pickT rfl rfl) ?_
    refine JL.nil ?_
    refine J.condT rfl ?_
    refine J.seq ?_
    refine J.region ?_
    refine JL.pure rfl rfl (OpP.assign rfl) ?_
    refine JL.nil ?_
    refine J.ret1 rfl rfl ?_
  rotate_left 1
  focus
    refine JL.pure rfl rfl (OpP.move rfl) ?_
    refine JL.pure rfl rfl (OpP.fieldAddr rfl) ?_
    refine JL.read rfl rfl (OpR.load1 rfl (Cell.row .head rfl)) ?_
    refine JL.pure rfl rfl (OpP.len rfl rfl) ?_
    refine JL.dec rfl rfl (OpP.gtr rfl rfl) (fun h15 => ?_) (fun h15 => ?_)
    focus
      refine JL.pure rfl rfl (OpP.pickF rfl rfl) ?_
      refine JL.pure rfl rfl (OpP.move rfl) ?_
      refine JL.skip rfl rfl ?_
      refine JL.skip rfl rfl ?_
      refine JL.skip rfl rfl ?_
      refine JL.skip rfl rfl ?_
      refine JL.pure rfl rfl (OpP.pickT rfl rfl) ?_
      refine JL.nil ?_
      refine J.condT rfl ?_
      refine J.seq ?_
      refine J.region ?_
      refine JL.pure rfl rfl (OpP.assign rfl) ?_
      refine JL.nil ?_
      refine J.ret1 rfl rfl ?_
    rotate_left 1
    focus
      refine JL.pure rfl rfl (OpP.pickF rfl rfl) ?_
      refine JL.pure rfl rfl (OpP.move rfl) ?_
      refine JL.pure rfl rfl (OpP.fieldAddr rfl) ?_
      refine JL.read rfl rfl (OpR.load1 rfl (Cell.row .head rfl)) ?_
      refine JL.pure rfl rfl (OpP.lenStr rfl rfl) ?_
      refine JL.dec rfl rfl (OpP.gtr rfl rfl) (fun h21 => ?_) (fun h21 => ?_)
      focus
        refine JL.pure rfl rfl (OpP.pickF rfl rfl) ?_
        refine JL.nil ?_
        refine J.condT rfl ?_
        refine J.seq ?_
        refine J.region ?_
        refine JL.pure rfl rfl (OpP.assign rfl) ?_
        refine JL.nil ?_
        refine J.ret1 rfl rfl ?_
      rotate_left 1
      focus
        refine JL.pure rfl rfl (OpP.pickF rfl rfl) ?_
        refine JL.nil ?_
        refine J.condF rfl ?_
        refine J.skip ?_
        refine J.seq ?_
        refine J.seq ?_
        refine J.region ?_
        refine JL.pure rfl rfl (OpP.assign rfl) ?_
        refine JL.nil ?_
        refine J.block ?_
      rotate_left 1
    rotate_left 2
  rotate_left 3
  · exact ⟨_, ⟨false, rfl, rfl, fun q => by cases q⟩, fun _ h => h.tail⟩
  · exact ⟨_, ⟨false, rfl, rfl, fun q => by cases q⟩, fun _ h => h.tail⟩
  · exact ⟨_, ⟨false, rfl, rfl, fun q => by cases q⟩, fun _ h => h.tail⟩
  refine J.loopI (fun j : Nat => ps.length - j) (fun j => j ≤ ps.length ∧ ∀ (q : Nat) (p : Po), q < j → ps[q]? = some p → PoT w0 p) (fun j => [(3, .int .i64 (j : Nat)), (1, .pointer (some ⟨b1, 0, none⟩))])
    (fun _ => row b1 36 [.slice fa fn fc, .string use, .slice a ps.length c] :: F) 0 ⟨Nat.zero_le _, fun _ _ h => absurd h (Nat.not_lt_zero _)⟩ (by repeat (first | exact SubEnv.nil | refine SubEnv.cons (by first | rfl | exact congrArg (fun z => some (Value.int .i64 z)) (by omega) | (simp; done)) ?_)) (fun _ h => h) (fun j hi back => ?_)
  obtain ⟨hj, hg⟩ := hi
  by_cases hlt : j < ps.length
  · obtain ⟨p, hpj⟩ : ∃ p, ps[j]? = some p := ⟨_, List.getElem?_eq_getElem hlt⟩
    obtain ⟨he, hru, hrn, hre⟩ := hp p (List.mem_of_getElem? hpj)
    have nx : PoT w0 p → ∀ (q : Nat) (p : Po), q < j + 1 → ps[q]? = some p → PoT w0 p := fun h0 q p' hq hp' => by
      by_cases hqj : q < j
      · exact hg q p' hqj hp'
      · obtain rfl : q = j := by omega
        obtain rfl : p' = p := Option.some.inj (hp'.symm.trans hpj)
        exact h0
    obtain ⟨ga, pa, qa, ea, ka, hcs⟩ := hr1.pos (by omega)
    cases ea
    obtain ⟨name, by_, use2, hasFor, e, rs, a2, c2⟩ := p
    dsimp only at *
    have fin2 : (Tr w0 e ∧ rs.length ≤ 8 ∧ ∀ (q : Nat) (r : Ru), q < rs.length → rs[q]? = some r → Tr w0 r.e) → PoT w0 ⟨name, by_, use2, hasFor, e, rs, a2, c2⟩ := fun ⟨h0, h1, h2⟩ => ⟨h0, hru, h1, fun r hr => by
      obtain ⟨q, hq⟩ := List.getElem?_of_mem hr
      exact h2 q r (List.getElem?_eq_some_iff.1 hq).1 hq⟩
    have hlen2 : ∀ r ∈ rs, (ucl r).length = 13 := fun _ _ => rfl
    have hrn2 : rs.length ≤ 9223372036854775807 := Nat.le_trans hrn (by decide)
    have fe := fun (G : List HProp) => fewExpr_ok (F := G) he
    refine J.seq ?_
    refine J.seq ?_
    refine J.region ?_
    refine JL.pure rfl rfl (OpP.move rfl) ?_
    refine JL.pure rfl rfl (OpP.fieldAddr rfl) ?_
    refine JL.read rfl rfl (OpR.load1 rfl (Cell.row .head rfl)) ?_
    refine JL.pure rfl rfl (OpP.len rfl rfl) ?_
    refine JL.decT rfl rfl (OpP.lss rfl rfl) (by omega) ?_
    refine JL.nil ?_
    refine J.condT rfl ?_
    refine J.skip ?_
    refine J.seq ?_
    refine J.block ?_
    refine J.seq ?_
    refine J.region ?_
    refine JL.pure rfl rfl (OpP.fieldAddr rfl) ?_
    refine JL.read rfl rfl (OpR.load1 rfl (Cell.row .head rfl)) ?_
    refine JL.pure rfl rfl (OpP.move rfl) ?_
    refine JL.pure rfl rfl (OpP.indexAddr rfl rfl (by omega) (by omega)) ?_
    refine JL.read rfl rfl (OpR.loadN rfl (by apply Cells.conv (fun _ h => Own.pick (pre := [_]) [] rfl h); apply Cells.chunkAt hcs; (case' h => assumption); (case' hi => assumption); done) (by first | rfl | assumption)) ?_
    refine JL.mem rfl rfl OpM.alloc ?_; rintro _ _ ⟨b4, rfl, rfl⟩
    refine JL.mem0 rfl (by apply OpM.storeN rfl rfl (by rfl) (oneC rfl (oneC rfl (oneC rfl (oneC rfl (oneC rfl (oneC rfl (oneC rfl (oneC rfl (oneC rfl (oneC rfl (oneC rfl (oneC rfl (one1 rfl))))))))))))); (case' hu => exact .head); (case' hs => exact (.here (.here (.here (.here (.here (.here (.here (.here (.here (.here (.here (.here (.here .nil)))))))))))))); done) ?_; rintro _ _ ⟨rfl, rfl⟩
    refine JL.nil ?_
    refine J.seq ?_
    refine J.seq ?_
    refine J.region ?_
    refine JL.pure rfl rfl (OpP.fieldAddr rfl) ?_
    refine JL.read rfl rfl (OpR.load1 rfl (Cell.row .head rfl)) ?_
    refine JL.pure rfl rfl (OpP.len rfl rfl) ?_
    refine JL.dec rfl rfl (OpP.gtr rfl rfl) (fun h38 => ?_) (fun h38 => ?_)
    focus
      refine JL.pure rfl rfl (OpP.move rfl) ?_
      refine JL.skip rfl rfl ?_
      refine JL.skip rfl rfl ?_
      refine JL.skip rfl rfl ?_
      refine JL.skip rfl rfl ?_
      refine JL.pure rfl rfl (OpP.pickT rfl rfl) ?_
      refine JL.nil ?_
      refine J.condT rfl ?_
      refine J.seq ?_
      refine J.region ?_
      refine JL.pure rfl rfl (OpP.assign rfl) ?_
      refine JL.nil ?_
      refine J.ret1 rfl rfl ?_
    rotate_left 1
    focus
      refine JL.pure rfl rfl (OpP.move rfl) ?_
      refine JL.pure rfl rfl (OpP.fieldAddr rfl) ?_
      refine JL.read rfl rfl (OpR.loadN rfl (Cells.sub 8 .head rfl) rfl) ?_
      refine JL.step rfl rfl (OpW.call (first := []) (captured := []) inferInstance rfl rfl (fe _)) ?_; rintro r42 _ ⟨b, ⟨rfl, ⟨rfl, h42⟩⟩⟩
      refine JL.pure rfl rfl (OpP.notB rfl) ?_
      refine JL.pure rfl rfl (OpP.pickF rfl rfl) ?_
      refine JL.nil ?_
      refine J.splitAt 44 rfl (fun h44 => ?_) (fun h44 => ?_)
      focus
        refine J.condT rfl ?_
        refine J.seq ?_
        refine J.region ?_
        refine JL.pure rfl rfl (OpP.assign rfl) ?_
        refine JL.nil ?_
        refine J.ret1 rfl rfl ?_
      rotate_left 1
      focus
        refine J.condF rfl ?_
        refine J.skip ?_
        refine J.seq ?_
        refine J.region ?_
        refine JL.pure rfl rfl (OpP.assign rfl) ?_
        refine JL.nil ?_
        refine J.block ?_
      rotate_left 1
    rotate_left 2
    · exact ⟨_, ⟨false, rfl, rfl, fun q => by cases q⟩, fun _ h => h.tail.tail⟩
    · exact ⟨_, ⟨false, rfl, rfl, fun q => by cases q⟩, fun _ h => h.tail.tail⟩
    have hte : Tr w0 e := h42 (by simpa using h44)
    have hrs8 : rs.length ≤ 8 := by have : ¬ 8 < (rs.length : Int) := h38; omega
    refine J.rd (hru _) fun hr2 => ?_
    refine J.loopI (fun k : Nat => rs.length - k) (fun k => k ≤ rs.length ∧ ∀ (q : Nat) (r : Ru), q < k → rs[q]? = some r → Tr w0 r.e) (fun k => [(5, .int .i64 (k : Nat)), (4, .pointer (some ⟨b4, 0, none⟩)), (3, .int .i64 (j : Nat)), (1, .pointer (some ⟨b1, 0, none⟩))])
      (fun _ => row b4 51 (pc13 name by_ use2 hasFor e a2 rs.length c2) :: row b1 36 [.slice fa fn fc, .string use, .slice (some ⟨ga, pa, none⟩) ps.length c] :: F) 0 ⟨Nat.zero_le _, fun _ _ h => absurd h (Nat.not_lt_zero _)⟩ (by repeat (first | exact SubEnv.nil | refine SubEnv.cons (by first | rfl | exact congrArg (fun z => some (Value.int .i64 z)) (by omega) | (simp; done)) ?_)) (fun _ h => h) (fun k hi2 back2 => ?_)
    obtain ⟨hk, hg2⟩ := hi2
    by_cases hlt2 : k < rs.length
    · obtain ⟨r, hrk⟩ : ∃ p, rs[k]? = some p := ⟨_, List.getElem?_eq_getElem hlt2⟩
      have hre2 := hre r (List.mem_of_getElem? hrk)
      obtain ⟨gb, pb, qb, eb, kb, hcs2⟩ := hr2.pos (by omega)
      cases eb
      have fe2 := fun (G : List HProp) => fewExpr_ok (F := G) hre2
      refine J.seq ?_
      refine J.seq ?_
      refine J.region ?_
      refine JL.pure rfl rfl (OpP.move rfl) ?_
      refine JL.pure rfl rfl (OpP.fieldAddr rfl) ?_
      refine JL.read rfl rfl (OpR.load1 rfl (Cell.row .head rfl)) ?_
      refine JL.pure rfl rfl (OpP.len rfl rfl) ?_
      refine JL.decT rfl rfl (OpP.lss rfl rfl) (by omega) ?_
      refine JL.nil ?_
      refine J.condT rfl ?_
      refine J.skip ?_
      refine J.seq ?_
      refine J.block ?_
      refine J.seq ?_
      refine J.region ?_
      refine JL.pure rfl rfl (OpP.fieldAddr rfl) ?_
      refine JL.read rfl rfl (OpR.load1 rfl (Cell.row .head rfl)) ?_
      refine JL.pure rfl rfl (OpP.move rfl) ?_
      refine JL.pure rfl rfl (OpP.indexAddr rfl rfl (by omega) (by omega)) ?_
      refine JL.read rfl rfl (OpR.loadN rfl (by apply Cells.conv (fun _ h => h); apply Cells.chunkAt hcs2; (case' h => assumption); (case' hi => assumption); done) (by first | rfl | assumption)) ?_
      refine JL.mem rfl rfl OpM.alloc ?_; rintro _ _ ⟨b6, rfl, rfl⟩
      refine JL.mem0 rfl (by apply OpM.storeN rfl rfl (by rfl) (oneC rfl (oneC rfl (oneC rfl (oneC rfl (oneC rfl (oneC rfl (oneC rfl (oneC rfl (oneC rfl (oneC rfl (oneC rfl (oneC rfl (one1 rfl))))))))))))); (case' hu => exact .head); (case' hs => exact (.here (.here (.here (.here (.here (.here (.here (.here (.here (.here (.here (.here (.here .nil)))))))))))))); done) ?_; rintro _ _ ⟨rfl, rfl⟩
      refine JL.nil ?_
      refine J.seq ?_
      refine J.region ?_
      refine JL.pure rfl rfl (OpP.fieldAddr rfl) ?_
      refine JL.read rfl rfl (OpR.loadN rfl (Cells.sub 8 .head rfl) rfl) ?_
      refine JL.step rfl rfl (OpW.call (first := []) (captured := []) inferInstance rfl rfl (fe2 _)) ?_; rintro r59 _ ⟨b2, ⟨rfl, ⟨rfl, h59⟩⟩⟩
      refine JL.pure rfl rfl (OpP.notB rfl) ?_
      refine JL.pure rfl rfl (OpP.move rfl) ?_
      refine JL.splitAt 61 rfl (fun h61 => ?_) (fun h61 => ?_)
      focus
        refine JL.skip rfl rfl ?_
        refine JL.skip rfl rfl ?_
        refine JL.skip rfl rfl ?_
        refine JL.skip rfl rfl ?_
        refine JL.pure rfl rfl (OpP.pickT rfl rfl) ?_
        refine JL.pure rfl rfl (OpP.move rfl) ?_
        refine JL.skip rfl rfl ?_
        refine JL.skip rfl rfl ?_
        refine JL.skip rfl rfl ?_
        refine JL.skip rfl rfl ?_
        refine JL.pure rfl rfl (OpP.pickT rfl rfl) ?_
        refine JL.nil ?_
        refine J.condT rfl ?_
        refine J.seq ?_
        refine J.region ?_
        refine JL.pure rfl rfl (OpP.assign rfl) ?_
        refine JL.nil ?_
        refine J.ret1 rfl rfl ?_
      rotate_left 1
      focus
        refine JL.pure rfl rfl (OpP.fieldAddr rfl) ?_
        refine JL.read rfl rfl (OpR.load1 rfl (Cell.row .head rfl)) ?_
        refine JL.pure rfl rfl (OpP.len rfl rfl) ?_
        refine JL.dec rfl rfl (OpP.gtr rfl rfl) (fun h65 => ?_) (fun h65 => ?_)
        focus
          refine JL.pure rfl rfl (OpP.pickF rfl rfl) ?_
          refine JL.pure rfl rfl (OpP.move rfl) ?_
          refine JL.skip rfl rfl ?_
          refine JL.skip rfl rfl ?_
          refine JL.skip rfl rfl ?_
          refine JL.skip rfl rfl ?_
          refine JL.pure rfl rfl (OpP.pickT rfl rfl) ?_
          refine JL.nil ?_
          refine J.condT rfl ?_
          refine J.seq ?_
          refine J.region ?_
          refine JL.pure rfl rfl (OpP.assign rfl) ?_
          refine JL.nil ?_
          refine J.ret1 rfl rfl ?_
        rotate_left 1
        focus
          refine JL.pure rfl rfl (OpP.pickF rfl rfl) ?_
          refine JL.pure rfl rfl (OpP.move rfl) ?_
          refine JL.pure rfl rfl (OpP.fieldAddr rfl) ?_
          refine JL.read rfl rfl (OpR.load1 rfl (Cell.row .head rfl)) ?_
          refine JL.pure rfl rfl (OpP.len rfl rfl) ?_
          refine JL.dec rfl rfl (OpP.gtr rfl rfl) (fun h71 => ?_) (fun h71 => ?_)
          focus
            refine JL.pure rfl rfl (OpP.pickF rfl rfl) ?_
            refine JL.nil ?_
            refine J.condT rfl ?_
            refine J.seq ?_
            refine J.region ?_
            refine JL.pure rfl rfl (OpP.assign rfl) ?_
            refine JL.nil ?_
            refine J.ret1 rfl rfl ?_
          rotate_left 1
          focus
            refine JL.pure rfl rfl (OpP.pickF rfl rfl) ?_
            refine JL.nil ?_
            refine J.condF rfl ?_
            refine J.skip ?_
            refine J.inBlock ?_
            refine J.region ?_
            refine JL.pure rfl rfl (OpP.move rfl) ?_
            refine JL.pure rfl rfl (OpP.addI rfl rfl (by omega) (by omega)) ?_
            refine JL.pure rfl rfl (OpP.assign rfl) ?_
            refine JL.nil ?_
          rotate_left 1
        rotate_left 2
      rotate_left 3
      · exact ⟨_, ⟨false, rfl, rfl, fun q => by cases q⟩, fun _ h => h.tail.tail.tail⟩
      · exact ⟨_, ⟨false, rfl, rfl, fun q => by cases q⟩, fun _ h => h.tail.tail.tail⟩
      · exact ⟨_, ⟨false, rfl, rfl, fun q => by cases q⟩, fun _ h => h.tail.tail.tail⟩
      · refine back2 (k + 1) ⟨by omega, fun q r' hq hr' => ?_⟩ (by omega) (by repeat (first | exact SubEnv.nil | refine SubEnv.cons (by first | rfl | exact congrArg (fun z => some (Value.int .i64 z)) (by omega) | (simp; done)) ?_)) (fun _ h => h.tail)
        by_cases hqk : q < k
        · exact hg2 q r' hqk hr'
        · obtain rfl : q = k := by omega
          obtain rfl : r' = r := Option.some.inj (hr'.symm.trans hrk)
          simp_all
    · refine J.seq ?_
      refine J.seq ?_
      refine J.region ?_
      refine JL.pure rfl rfl (OpP.move rfl) ?_
      refine JL.pure rfl rfl (OpP.fieldAddr rfl) ?_
      refine JL.read rfl rfl (OpR.load1 rfl (Cell.row .head rfl)) ?_
      refine JL.pure rfl rfl (OpP.len rfl rfl) ?_
      refine JL.decF rfl rfl (OpP.lss rfl rfl) (by omega) ?_
      refine JL.nil ?_
      refine J.condF rfl ?_
      refine J.exit rfl ?_
      refine J.inBlock ?_
      refine J.region ?_
      refine JL.pure rfl rfl (OpP.move rfl) ?_
      refine JL.pure rfl rfl (OpP.addI rfl rfl (by omega) (by omega)) ?_
      refine JL.pure rfl rfl (OpP.assign rfl) ?_
      refine JL.nil ?_
      exact back (j + 1) ⟨by omega, nx (fin2 ⟨hte, hrs8, fun q r hq hr => hg2 q r (by omega) hr⟩)⟩ (by omega) (by repeat (first | exact SubEnv.nil | refine SubEnv.cons (by first | rfl | exact congrArg (fun z => some (Value.int .i64 z)) (by omega) | (simp; done)) ?_)) (fun _ h => h.tail)
  · refine J.seq ?_
    refine J.seq ?_
    refine J.region ?_
    refine JL.pure rfl rfl (OpP.move rfl) ?_
    refine JL.pure rfl rfl (OpP.fieldAddr rfl) ?_
    refine JL.read rfl rfl (OpR.load1 rfl (Cell.row .head rfl)) ?_
    refine JL.pure rfl rfl (OpP.len rfl rfl) ?_
    refine JL.decF rfl rfl (OpP.lss rfl rfl) (by omega) ?_
    refine JL.nil ?_
    refine J.condF rfl ?_
    refine J.exit rfl ?_
    refine J.seq ?_
    refine J.region ?_
    refine JL.pure rfl rfl (OpP.assign rfl) ?_
    refine JL.nil ?_
    refine J.ret1 rfl rfl ?_
    exact ⟨_, ⟨true, rfl, rfl, fun _ => fin ⟨by omega, fun q p hq hp => hg q p (by omega) hp⟩⟩, fun _ h => h.tail⟩
end Go.Proofs.D

-- seat d
namespace Go.Proofs.D
open Go Go.Gp Go.RowKit

/-! Nodes. -/
structure Nd where
  k : Int
  p : Int
  o : Int
  t : Ex
abbrev n11 (k p o : Int) (e : Ex) : List Value := [.int .i64 k, .int .i64 p, .int .i64 o, .string e.op, .int .i64 e.v.k, .int .i64 e.v.i, .string (strB e.v.s), .slice e.v.a e.v.xs.length e.v.c, .string e.who, .string e.name, .slice e.a e.ps.length e.c]
abbrev ncl (n : Nd) : List Value := n11 n.k n.p n.o n.t
/-- By what a node is known. -/
def key (n : Nd) : Int × Int × Int × Nf := (n.k, n.p, n.o, enf n.t)
theorem key_iff {x y : Nd} : key y = key x ↔ y.k = x.k ∧ y.p = x.p ∧ y.o = x.o ∧ enf y.t = enf x.t := by simp [key]
open Classical in
noncomputable def place (ns : List Nd) (x : Nd) : Nat := ns.findIdx fun y => decide (key y = key x)
noncomputable def nodeN (ns : List Nd) (x : Nd) : List Nd := if place ns x < ns.length then ns else ns ++ [x]
theorem place_le (ns : List Nd) (x : Nd) : place ns x ≤ ns.length := List.findIdx_le_length
theorem place_none {ns : List Nd} {x : Nd} (h : ∀ (j : Nat) (y : Nd), j < ns.length → ns[j]? = some y → key y ≠ key x) : place ns x = ns.length := by
  rw [place, List.findIdx_eq_length]
  intro y hy
  obtain ⟨j, hj⟩ := List.getElem?_of_mem hy
  simpa using h j y (List.getElem?_eq_some_iff.1 hj).1 hj
theorem place_at {ns : List Nd} {x y : Nd} {i : Nat} (hi : ns[i]? = some y) (hy : key y = key x) (h : ∀ (j : Nat) (y : Nd), j < i → ns[j]? = some y → key y ≠ key x) : place ns x = i := by
  have hl := (List.getElem?_eq_some_iff.1 hi).1
  rw [place, List.findIdx_eq hl]
  have e : ns[i] = y := (List.getElem?_eq_some_iff.1 hi).2
  refine ⟨by simpa [e] using hy, fun j hj => ?_⟩
  have := h j ns[j] hj (List.getElem?_eq_getElem (by omega))
  simpa using this
theorem place_key {ns : List Nd} {x : Nd} (h : place ns x < ns.length) : ∃ y, ns[place ns x]? = some y ∧ key y = key x := by
  refine ⟨ns[place ns x], List.getElem?_eq_getElem h, ?_⟩
  have := List.findIdx_getElem (xs := ns) (w := h)
  simp only [decide_eq_true_eq] at this
  exact this
theorem nodeN_len (ns : List Nd) (x : Nd) : ns.length ≤ (nodeN ns x).length ∧ (nodeN ns x).length ≤ ns.length + 1 := by
  rw [nodeN]
  split
  · omega
  · simp
theorem nodeN_old {ns : List Nd} {x : Nd} (h : place ns x < ns.length) : nodeN ns x = ns := if_pos h
theorem nodeN_new {ns : List Nd} {x : Nd} (h : place ns x = ns.length) : nodeN ns x = ns ++ [x] := if_neg (by omega)
theorem nodeN_all {P : Nd → Prop} {ns : List Nd} {x : Nd} (h : ∀ y ∈ ns, P y) (hx : P x) : ∀ y ∈ nodeN ns x, P y := by
  rw [nodeN]
  split
  · exact h
  · intro y hy
    rcases List.mem_append.1 hy with hy | hy
    · exact h y hy
    · rw [List.mem_singleton.1 hy]; exact hx
theorem nodeEq_ok {w0 : World} {F : List HProp} {b3 : Nat} {x y : Nd} (hx : Tr w0 x.t) (hy : Tr w0 y.t) :
    FnO Try.prog w0 41 [.agg (ncl y).toArray, .pointer (some ⟨b3, 0, none⟩)] (row b3 45 (ncl x) :: F) (fun r l' => ∃ b, r = .bool b ∧ l' = row b3 45 (ncl x) :: F ∧ (b = true ↔ key y = key x)) := by
  have sm := fun (G : List HProp) => same_ok' (F := G) hy hx
  rw [key_iff]
  refine FnO.weak ?_
  refine FnO.intro (n := 30) Try.func41 rfl rfl rfl ?_
  refine J.seq ?_
  refine J.region ?_
  refine JL.mem rfl rfl (OpM.box rfl rfl) ?_; rintro _ _ ⟨b2, rfl, rfl⟩
  refine JL.pure rfl rfl (OpP.assign rfl) ?_
  refine JL.nil ?_
  refine J.seq ?_
  refine J.region ?_
  refine JL.pure rfl rfl (OpP.fieldAddr rfl) ?_
  refine JL.read rfl rfl (OpR.load1 rfl (Cell.row .head rfl)) ?_
  refine JL.pure rfl rfl (OpP.fieldAddr rfl) ?_
  refine JL.read rfl rfl (OpR.load1 rfl (Cell.row (.tail .head) rfl)) ?_
  refine JL.dec rfl rfl (OpP.eql rfl rfl) (fun h8 => ?_) (fun h8 => ?_)
  focus
    refine JL.pure rfl rfl (OpP.move rfl) ?_
    refine JL.pure rfl rfl (OpP.fieldAddr rfl) ?_
    refine JL.read rfl rfl (OpR.load1 rfl (Cell.row .head rfl)) ?_
    refine JL.pure rfl rfl (OpP.fieldAddr rfl) ?_
    refine JL.read rfl rfl (OpR.load1 rfl (Cell.row (.tail .head) rfl)) ?_
    refine JL.dec rfl rfl (OpP.eql rfl rfl) (fun h14 => ?_) (fun h14 => ?_)
    focus
      refine JL.pure rfl rfl (OpP.pickT rfl rfl) ?_
      refine JL.pure rfl rfl (OpP.move rfl) ?_
      refine JL.pure rfl rfl (OpP.fieldAddr rfl) ?_
      refine JL.read rfl rfl (OpR.load1 rfl (Cell.row .head rfl)) ?_
      refine JL.pure rfl rfl (OpP.fieldAddr rfl) ?_
      refine JL.read rfl rfl (OpR.load1 rfl (Cell.row (.tail .head) rfl)) ?_
      refine JL.dec rfl rfl (OpP.eql rfl rfl) (fun h21 => ?_) (fun h21 => ?_)
      focus
        refine JL.pure rfl rfl (OpP.pickT rfl rfl) ?_
        refine JL.pure rfl rfl (OpP.move rfl) ?_
        refine JL.pure rfl rfl (OpP.fieldAddr rfl) ?_
        refine JL.read rfl rfl (OpR.loadN rfl (Cells.sub 8 .head rfl) rfl) ?_
        refine JL.pure rfl rfl (OpP.fieldAddr rfl) ?_
        refine JL.read rfl rfl (OpR.loadN rfl (Cells.sub 8 (.tail .head) rfl) rfl) ?_
        refine JL.step rfl rfl (OpW.call (first := []) (captured := []) inferInstance rfl rfl (sm _)) ?_; rintro r28 _ ⟨b, ⟨rfl, ⟨rfl, h28⟩⟩⟩
        refine JL.pure rfl rfl (OpP.pickT rfl rfl) ?_
        refine JL.pure rfl rfl (OpP.assign rfl) ?_
        refine JL.nil ?_
        refine J.ret1 rfl rfl ?_
      rotate_left 1
      focus
        refine JL.pure rfl rfl (OpP.pickT rfl rfl) ?_
        refine JL.pure rfl rfl (OpP.move rfl) ?_
        refine JL.skip rfl rfl ?_
        refine JL.skip rfl rfl ?_
        refine JL.skip rfl rfl ?_
        refine JL.skip rfl rfl ?_
        refine JL.skip rfl rfl ?_
        refine JL.pure rfl rfl (OpP.pickF rfl rfl) ?_
        refine JL.pure rfl rfl (OpP.assign rfl) ?_
        refine JL.nil ?_
        refine J.ret1 rfl rfl ?_
      rotate_left 1
    rotate_left 2
    focus
      refine JL.pure rfl rfl (OpP.pickT rfl rfl) ?_
      refine JL.pure rfl rfl (OpP.move rfl) ?_
      refine JL.skip rfl rfl ?_
      refine JL.skip rfl rfl ?_
      refine JL.skip rfl rfl ?_
      refine JL.skip rfl rfl ?_
      refine JL.skip rfl rfl ?_
      refine JL.pure rfl rfl (OpP.pickF rfl rfl) ?_
      refine JL.pure rfl rfl (OpP.move rfl) ?_
      refine JL.skip rfl rfl ?_
      refine JL.skip rfl rfl ?_
      refine JL.skip rfl rfl ?_
      refine JL.skip rfl rfl ?_
      refine JL.skip rfl rfl ?_
      refine JL.pure rfl rfl (OpP.pickF rfl rfl) ?_
      refine JL.pure rfl rfl (OpP.assign rfl) ?_
      refine JL.nil ?_
      refine J.ret1 rfl rfl ?_
    rotate_left 1
  rotate_left 3
  focus
    refine JL.pure rfl rfl (OpP.move rfl) ?_
    refine JL.skip rfl rfl ?_
    refine JL.skip rfl rfl ?_
    refine JL.skip rfl rfl ?_
    refine JL.skip rfl rfl ?_
    refine JL.skip rfl rfl ?_
    refine JL.pure rfl rfl (OpP.pickF rfl rfl) ?_
    refine JL.pure rfl rfl (OpP.move rfl) ?_
    refine JL.skip rfl rfl ?_
    refine JL.skip rfl rfl ?_
    refine JL.skip rfl rfl ?_
    refine JL.skip rfl rfl ?_
    refine JL.skip rfl rfl ?_
    refine JL.pure rfl rfl (OpP.pickF rfl rfl) ?_
    refine JL.pure rfl rfl (OpP.move rfl) ?_
    refine JL.skip rfl rfl ?_
    refine JL.skip rfl rfl ?_
    refine JL.skip rfl rfl ?_
    refine JL.skip rfl rfl ?_
    refine JL.skip rfl rfl ?_
    refine JL.pure rfl rfl (OpP.pickF rfl rfl) ?_
    refine JL.pure rfl rfl (OpP.assign rfl) ?_
    refine JL.nil ?_
    refine J.ret1 rfl rfl ?_
  rotate_left 1
  · exact ⟨_, ⟨b, rfl, rfl, by simp_all⟩, fun _ h => h.tail⟩
  · exact ⟨_, ⟨false, rfl, rfl, ⟨(fun q => by cases q), fun q => by simp_all⟩⟩, fun _ h => h.tail⟩
  · exact ⟨_, ⟨false, rfl, rfl, ⟨(fun q => by cases q), fun q => by simp_all⟩⟩, fun _ h => h.tail⟩
  · exact ⟨_, ⟨false, rfl, rfl, ⟨(fun q => by cases q), fun q => by simp_all⟩⟩, fun _ h => h.tail⟩
theorem idxNode_ok {w0 : World} {F : List HProp} {a : Option Addr} {c b3 : Nat} {ns : List Nd} {x : Nd} (hl : ns.length ≤ 100000) (hr : RdO w0 F (.slice a ns.length c) ns.length (ns.flatMap ncl))
    (hcl : ∀ y ∈ ns, FnO Try.prog w0 41 [.agg (ncl y).toArray, .pointer (some ⟨b3, 0, none⟩)] F (fun r l' => ∃ b, r = .bool b ∧ l' = F ∧ (b = true ↔ key y = key x))) :
    FnO Try.prog w0 40 [.slice a ns.length c, .func (.func 41) #[] #[.pointer (some ⟨b3, 0, none⟩)]] F (fun u l' => ∃ i : Int, u = .int .i64 i ∧ l' = F ∧ (i = (place ns x : Nat) ∧ place ns x < ns.length ∨ i = -1 ∧ place ns x = ns.length)) := by
  have hlen : ∀ p ∈ ns, (ncl p).length = 11 := fun _ _ => rfl
  refine FnO.rd hr fun hr1 => ?_
  refine FnO.intro (n := 19) Try.func40 rfl rfl rfl ?_
  refine J.seq ?_
  refine J.region ?_
  refine JL.pure rfl rfl (OpP.assign rfl) ?_
  refine JL.nil ?_
  refine J.seq ?_
  refine J.seq ?_
  refine J.region ?_
  refine JL.pure rfl rfl (OpP.move rfl) ?_
  refine JL.pure rfl rfl (OpP.len rfl rfl) ?_
  refine JL.pure rfl rfl (OpP.move rfl) ?_
  refine JL.nil ?_
  refine J.block ?_
  refine J.loopI (fun i : Nat => ns.length - i) (fun i => i ≤ ns.length ∧ ∀ (j : Nat) (y : Nd), j < i → ns[j]? = some y → key y ≠ key x) (fun i => [(8, .int .i64 (i : Nat)), (7, .int .i64 ns.length), (0, .slice a ns.length c), (1, .func (.func 41) #[] #[.pointer (some ⟨b3, 0, none⟩)])]) (fun _ => F) 0 ⟨Nat.zero_le _, fun _ _ h => absurd h (Nat.not_lt_zero _)⟩ (by repeat (first | exact SubEnv.nil | refine SubEnv.cons (by first | rfl | exact congrArg (fun z => some (Value.int .i64 z)) (by omega) | (simp; done)) ?_)) (fun _ h => h) (fun i ⟨hi, hf⟩ back => ?_)
  by_cases hlt : i < ns.length
  · obtain ⟨p, hp⟩ : ∃ x, ns[i]? = some x := ⟨_, List.getElem?_eq_getElem hlt⟩
    have hpm := List.mem_of_getElem? hp
    have hc := hcl p hpm
    obtain ⟨ga, pa, qa, ea, ka, hcs⟩ := hr1.pos (by omega)
    cases ea
    refine J.seq ?_
    refine J.region ?_
    refine JL.decT rfl rfl (OpP.lss rfl rfl) (by omega) ?_
    refine JL.nil ?_
    refine J.seq ?_
    refine J.condT rfl ?_
    refine J.skip ?_
    refine J.seq ?_
    refine J.block ?_
    refine J.seq ?_
    refine J.region ?_
    refine JL.pure rfl rfl (OpP.move rfl) ?_
    refine JL.pure rfl rfl (OpP.assign rfl) ?_
    refine JL.nil ?_
    refine J.seq ?_
    refine J.region ?_
    refine JL.pure rfl rfl (OpP.move rfl) ?_
    refine JL.pure rfl rfl (OpP.move rfl) ?_
    refine JL.pure rfl rfl (OpP.move rfl) ?_
    refine JL.pure rfl rfl (OpP.indexAddr rfl rfl (by omega) (by omega)) ?_
    refine JL.read rfl rfl (OpR.loadN rfl (by apply Cells.conv (fun _ h => h); apply Cells.chunkAt hcs; (case' h => assumption); (case' hi => assumption); done) (by first | rfl | assumption)) ?_
    refine JL.step rfl rfl (OpW.call (first := []) (captured := [_]) inferInstance rfl rfl hc) ?_; rintro r16 _ ⟨b, ⟨rfl, ⟨rfl, h16⟩⟩⟩
    refine JL.nil ?_
    refine J.splitAt 16 rfl (fun h16 => ?_) (fun h16 => ?_)
    focus
      refine J.condT rfl ?_
      refine J.seq ?_
      refine J.region ?_
      refine JL.pure rfl rfl (OpP.move rfl) ?_
      refine JL.pure rfl rfl (OpP.assign rfl) ?_
      refine JL.nil ?_
      refine J.ret1 rfl rfl ?_
    rotate_left 1
    focus
      refine J.condF rfl ?_
      refine J.skip ?_
      refine J.inBlock ?_
      refine J.region ?_
      refine JL.pure rfl rfl (OpP.addI rfl rfl (by omega) (by omega)) ?_
      refine JL.pure rfl rfl (OpP.move rfl) ?_
      refine JL.nil ?_
    rotate_left 1
    · have e : place ns x = i := place_at hp (by simp_all) hf
      exact ⟨_, rfl, rfl, .inl ⟨by rw [e], by omega⟩⟩
    · refine back (i + 1) ⟨by omega, fun j y hj hy => ?_⟩ (by omega) (by repeat (first | exact SubEnv.nil | refine SubEnv.cons (by first | rfl | exact congrArg (fun z => some (Value.int .i64 z)) (by omega) | (simp; done)) ?_)) (fun _ h => h)
      by_cases hji : j < i
      · exact hf j y hji hy
      · obtain rfl : j = i := by omega
        obtain rfl : y = p := Option.some.inj (hy.symm.trans hp)
        simp_all
  · refine J.seq ?_
    refine J.region ?_
    refine JL.decF rfl rfl (OpP.lss rfl rfl) (by omega) ?_
    refine JL.nil ?_
    refine J.seq ?_
    refine J.condF rfl ?_
    refine J.exit rfl ?_
    refine J.seq ?_
    refine J.region ?_
    refine JL.pure rfl rfl (OpP.assign rfl) ?_
    refine JL.nil ?_
    refine J.ret1 rfl rfl ?_
    exact ⟨_, rfl, rfl, .inr ⟨rfl, place_none fun j y hj hy => hf j y (by omega) hy⟩⟩
theorem node_ok {w0 : World} {F : List HProp} {a : Option Addr} {c bm : Nat} {pv : Value} {ns : List Nd} {x : Nd} (hl : ns.length ≤ 90000) (ht : ∀ y ∈ ns, Tr w0 y.t) (hx : Tr w0 x.t) :
    FnO Try.prog w0 36 [.pointer (some ⟨bm, 0, none⟩), .agg (ncl x).toArray] (row bm 65 [.slice a ns.length c, pv] :: own 45 11 (.slice a ns.length c) ns.length (ns.flatMap ncl) :: F)
      (fun u l' => ∃ a' c', u = .int .i64 (place ns x : Nat) ∧ l' = row bm 65 [.slice a' (nodeN ns x).length c', pv] :: own 45 11 (.slice a' (nodeN ns x).length c') (nodeN ns x).length ((nodeN ns x).flatMap ncl) :: F) := by
  refine FnO.weak ?_
  refine FnO.intro (n := 35) Try.func36 rfl rfl rfl ?_
  have hcl := fun (b3 : Nat) (G : List HProp) (y : Nd) (hy : y ∈ ns) => nodeEq_ok (F := G) (b3 := b3) hx (ht y hy)
  refine J.seq ?_
  refine J.region ?_
  refine JL.mem rfl rfl (OpM.box rfl rfl) ?_; rintro _ _ ⟨b3, rfl, rfl⟩
  refine JL.pure rfl rfl (OpP.assign rfl) ?_
  refine JL.nil ?_
  refine J.seq ?_
  refine J.region ?_
  refine JL.pure rfl rfl (OpP.move rfl) ?_
  refine JL.pure rfl rfl (OpP.nilCheck rfl) ?_
  refine JL.pure rfl rfl (OpP.fieldAddr rfl) ?_
  refine JL.pure rfl rfl (OpP.fieldAddr rfl) ?_
  refine JL.read rfl rfl (OpR.load1 rfl (Cell.row (.tail .head) rfl)) ?_
  refine JL.pure rfl rfl (OpP.makeFunc rfl rfl) ?_
  refine JL.step rfl rfl (OpW.call (first := []) (captured := []) inferInstance rfl rfl (idxNode_ok (x := x) (by omega) (RdO.own (.tail (.tail .head))) (hcl _ _))) ?_; rintro r12 _ ⟨i, ⟨rfl, ⟨rfl, (⟨rfl, h12⟩ | ⟨rfl, h121⟩)⟩⟩⟩
  focus
    refine JL.pure rfl rfl (OpP.assign rfl) ?_
    refine JL.nil ?_
    refine J.seq ?_
    refine J.seq ?_
    refine J.region ?_
    refine JL.pure rfl rfl (OpP.move rfl) ?_
    refine JL.decT rfl rfl (OpP.geq rfl rfl) (by omega) ?_
    refine JL.nil ?_
    refine J.condT rfl ?_
    refine J.seq ?_
    refine J.region ?_
    refine JL.pure rfl rfl (OpP.move rfl) ?_
    refine JL.pure rfl rfl (OpP.assign rfl) ?_
    refine JL.nil ?_
    refine J.ret1 rfl rfl ?_
  rotate_left 1
  focus
    refine JL.pure rfl rfl (OpP.assign rfl) ?_
    refine JL.nil ?_
    refine J.seq ?_
    refine J.seq ?_
    refine J.region ?_
    refine JL.pure rfl rfl (OpP.move rfl) ?_
    refine JL.decF rfl rfl (OpP.geq rfl rfl) (by omega) ?_
    refine JL.nil ?_
    refine J.condF rfl ?_
    refine J.skip ?_
    refine J.seq ?_
    refine J.regionD [5, 6] (by kernel_rfl) ?_
    refine DL.pure (i := 0) (by kernel_rfl) (by kernel_rfl) rfl rfl rfl (OpP.move rfl) ?_
    refine DL.pure (i := 1) (by kernel_rfl) (by kernel_rfl) rfl rfl rfl (OpP.move rfl) ?_
    refine DL.pure (i := 2) (by kernel_rfl) (by kernel_rfl) rfl rfl rfl (OpP.nilCheck rfl) ?_
    refine DL.pure (i := 3) (by kernel_rfl) (by kernel_rfl) rfl rfl rfl (OpP.fieldAddr rfl) ?_
    refine DL.pure (i := 4) (by kernel_rfl) (by kernel_rfl) rfl rfl rfl (OpP.fieldAddr rfl) ?_
    refine DL.read (i := 5) (by kernel_rfl) (by kernel_rfl) rfl rfl rfl (fun _ h => h) (OpR.load1 rfl (Cell.row (.tail .head) rfl)) ?_
    refine DL.read (i := 6) (by kernel_rfl) (by kernel_rfl) rfl rfl rfl (fun _ h => h) (OpR.loadN rfl (Cells.full .head) rfl) ?_
    refine DL.only (i := 7) (by kernel_rfl) ?_
    refine DL1.stepK rfl rfl rfl (OpM.w (by apply OpM.buildSlice (by rfl) rfl (by rfl); (repeat (first | exact Fills.nil | (apply Fills.cons rfl rfl rfl; (case' hs => ((repeat (first | exact Spl.nil | apply Spl.here | apply Spl.there)); done))))))) (by rintro _ _ ⟨b23, rfl, rfl⟩ _ h; exact Own.pick (pre := [_, _, _, _]) [1, 2, 3] rfl h) ?_; rintro _ _ ⟨b23, rfl, rfl⟩
    refine DL.only (i := 8) (by kernel_rfl) ?_
    refine DL1.f3 ?_; refine DL1.stepF rfl rfl rfl (by kernel_rfl) (OpM.w (OpM.appendH rfl (.inl ⟨_, Sl.und inferInstance⟩) (by rfl) rfl rfl (RdO.src (RdO.ofRow (.tail .head) (by first | exact Nat.le_refl _ | decide | omega)) (by first | assumption | exact fc_length _ _ | (simp; done) | (simp; omega))) (oneC rfl (oneC rfl (oneC rfl (oneC rfl (oneC rfl (oneC rfl (oneC rfl (oneC rfl (oneC rfl (oneC rfl (one1 rfl))))))))))) (by simp only [maxLen]; omega) (by omega))) ?_; rintro _ _ ⟨⟨a24, c24, rfl⟩, rfl⟩
    refine DL.pure (i := 9) (by kernel_rfl) (by kernel_rfl) rfl rfl rfl (OpP.nilCheck rfl) ?_
    refine DL.pure (i := 10) (by kernel_rfl) (by kernel_rfl) rfl rfl rfl (OpP.fieldAddr rfl) ?_
    refine DL.pure (i := 11) (by kernel_rfl) (by kernel_rfl) rfl rfl rfl (OpP.fieldAddr rfl) ?_
    refine DL.only (i := 12) (by kernel_rfl) ?_
    refine DL1.stepF0 rfl rfl (by kernel_rfl) (OpM.w (by apply OpM.store1 rfl rfl rfl; (case' hu => exact (.tail (.tail (.tail .head)))); (case' hs => exact (.here .nil)); done)) ?_; rintro _ _ ⟨rfl, rfl⟩
    refine DL.done (by kernel_rfl) ?_
    refine J.seq ?_
    refine J.region ?_
    refine JL.pure rfl rfl (OpP.move rfl) ?_
    refine JL.pure rfl rfl (OpP.nilCheck rfl) ?_
    refine JL.pure rfl rfl (OpP.fieldAddr rfl) ?_
    refine JL.pure rfl rfl (OpP.fieldAddr rfl) ?_
    refine JL.read rfl rfl (OpR.load1 rfl (Cell.row (.tail (.tail (.tail .head))) rfl)) ?_
    refine JL.pure rfl rfl (OpP.len rfl rfl) ?_
    refine JL.pure rfl rfl (OpP.subI rfl rfl (by omega) (by omega)) ?_
    refine JL.pure rfl rfl (OpP.assign rfl) ?_
    refine JL.nil ?_
    refine J.ret1 rfl rfl ?_
  rotate_left 1
  · rw [nodeN_old h12]
    exact ⟨_, ⟨_, _, rfl, rfl⟩, fun _ h => h.tail⟩
  · rw [nodeN_new h121, h121, List.length_append, List.flatMap_append]
    exact ⟨_, ⟨a24, c24, congrArg (Value.int .i64) (by omega), rfl⟩, fun _ h => Own.pick (pre := [_, _, _, _]) [3, 0] rfl h⟩
end Go.Proofs.D

-- seat d
namespace Go.Proofs.D
open Go Go.Gp Go.RowKit

/-! A row of nodes, one below the other. -/
noncomputable def stepS (side : Int) (s : List Nd × Int) (e : Ex) : List Nd × Int := (nodeN s.1 ⟨side, s.2, 0, e⟩, (place s.1 ⟨side, s.2, 0, e⟩ : Nat))
noncomputable def rowN (side : Int) (s : List Nd × Int) (l : List Ex) : List Nd × Int := l.foldl (stepS side) s
def ofS (l : List Ex) (side : Int) : List Ex := l.filter fun e => decide (sideN (enf e) = side)
theorem rowN_snoc (side : Int) (s : List Nd × Int) (l : List Ex) (e : Ex) : rowN side s (l ++ [e]) = stepS side (rowN side s l) e := by rw [rowN, List.foldl_append]; rfl
theorem ofS_take {side : Int} {l : List Ex} {j : Nat} {e : Ex} (h : l[j]? = some e) : ofS (l.take (j + 1)) side = ofS (l.take j) side ++ (if sideN (enf e) = side then [e] else []) := by
  rw [ofS, filter_take_succ' h, ofS]
  by_cases hs : sideN (enf e) = side
  · simp [hs]
  · simp [hs]
theorem rowN_len (side : Int) : ∀ (l : List Ex) (s : List Nd × Int), s.1.length ≤ (rowN side s l).1.length ∧ (rowN side s l).1.length ≤ s.1.length + l.length
  | [], s => ⟨Nat.le_refl _, Nat.le_refl _⟩
  | e :: l, s => by
    have h := rowN_len side l (stepS side s e)
    have h2 := nodeN_len s.1 ⟨side, s.2, 0, e⟩
    rw [rowN, List.foldl_cons, ← rowN, List.length_cons]
    rw [show (stepS side s e).1 = nodeN s.1 ⟨side, s.2, 0, e⟩ from rfl] at h
    omega
theorem rowN_all {P : Nd → Prop} (side : Int) : ∀ (l : List Ex) (s : List Nd × Int), (∀ y ∈ s.1, P y) → (∀ e ∈ l, ∀ fr, P ⟨side, fr, 0, e⟩) → ∀ y ∈ (rowN side s l).1, P y
  | [], s, h, _ => h
  | e :: l, s, h, hl => by
    rw [rowN, List.foldl_cons, ← rowN]
    exact rowN_all side l _ (nodeN_all h (hl e (by simp) _)) fun e he => hl e (by simp [he])
theorem ofS_mem {l : List Ex} {side : Int} {e : Ex} (h : e ∈ ofS l side) : e ∈ l := (List.mem_filter.1 h).1
theorem ofS_len (l : List Ex) (side : Int) : (ofS l side).length ≤ l.length := List.length_filter_le _ _
theorem row_ok {w0 : World} {F : List HProp} {a la : Option Addr} {c lc bm : Nat} {pv : Value} {ns : List Nd} {fr side : Int} {l : List Ex} (hl : ns.length ≤ 80000) (hl2 : l.length ≤ 1000) (ht : ∀ y ∈ ns, Tr w0 y.t) (hx : ∀ e ∈ l, Tr w0 e) (hr : RdO w0 F (.slice la l.length lc) l.length (l.flatMap xcl)) :
    FnO Try.prog w0 35 [.pointer (some ⟨bm, 0, none⟩), .int .i64 fr, .int .i64 side, .slice la l.length lc] (row bm 65 [.slice a ns.length c, pv] :: own 45 11 (.slice a ns.length c) ns.length (ns.flatMap ncl) :: F)
      (fun u l' => ∃ a' c', u = .int .i64 (rowN side (ns, fr) (ofS l side)).2 ∧ l' = row bm 65 [.slice a' (rowN side (ns, fr) (ofS l side)).1.length c', pv] :: own 45 11 (.slice a' (rowN side (ns, fr) (ofS l side)).1.length c') (rowN side (ns, fr) (ofS l side)).1.length ((rowN side (ns, fr) (ofS l side)).1.flatMap ncl) :: F) := by
  have hlen : ∀ p ∈ l, (xcl p).length = 8 := fun _ _ => rfl
  refine FnO.rdF (fun _ h => h.tail.tail) hr fun hr1 => ?_
  refine FnO.weak ?_
  refine FnO.intro (n := 29) Try.func35 rfl rfl rfl ?_
  refine J.seq ?_
  refine J.region ?_
  refine JL.pure rfl rfl (OpP.assign rfl) ?_
  refine JL.nil ?_
  refine J.seq ?_
  refine J.seq ?_
  refine J.region ?_
  refine JL.pure rfl rfl (OpP.move rfl) ?_
  refine JL.pure rfl rfl (OpP.len rfl rfl) ?_
  refine JL.pure rfl rfl (OpP.move rfl) ?_
  refine JL.nil ?_
  refine J.block ?_
  refine J.loopI (σ := Nat × Option Addr × Nat) (fun s => l.length - s.1) (fun s => s.1 ≤ l.length) (fun s => [(13, .int .i64 (s.1 : Nat)), (12, .int .i64 l.length), (11, .slice la l.length lc), (0, .pointer (some ⟨bm, 0, none⟩)), (1, .int .i64 (rowN side (ns, fr) (ofS (l.take s.1) side)).2), (2, .int .i64 side)])
    (fun s => row bm 65 [.slice s.2.1 (rowN side (ns, fr) (ofS (l.take s.1) side)).1.length s.2.2, pv] :: own 45 11 (.slice s.2.1 (rowN side (ns, fr) (ofS (l.take s.1) side)).1.length s.2.2) (rowN side (ns, fr) (ofS (l.take s.1) side)).1.length ((rowN side (ns, fr) (ofS (l.take s.1) side)).1.flatMap ncl) :: F) (0, a, c) (Nat.zero_le _) (by repeat (first | exact SubEnv.nil | refine SubEnv.cons (by first | rfl | exact congrArg (fun z => some (Value.int .i64 z)) (by omega) | (simp; done)) ?_)) (fun _ h => h) (fun ⟨j, a, c⟩ hj back => ?_)
  dsimp only at hj back ⊢
  by_cases hlt : j < l.length
  · obtain ⟨e, hej⟩ : ∃ x, l[j]? = some x := ⟨_, List.getElem?_eq_getElem hlt⟩
    have hem := hx e (List.mem_of_getElem? hej)
    have hof := ofS_take (side := side) hej
    have ha : ∀ y ∈ (rowN side (ns, fr) (ofS (l.take j) side)).1, Tr w0 y.t := rowN_all (P := fun y => Tr w0 y.t) side _ _ ht fun e he _ => hx e (List.mem_of_mem_take (ofS_mem he))
    have hb := rowN_len side (ofS (l.take j) side) (ns, fr)
    have hb2 := ofS_len (l.take j) side
    have hb3 := List.length_take_le j l
    have hnx := rowN_snoc side (ns, fr) (ofS (l.take j) side) e
    generalize hS : rowN side (ns, fr) (ofS (l.take j) side) = S at *
    obtain ⟨N, f⟩ := S
    dsimp only at *
    obtain ⟨ga, pa, qa, ea, ka, hcs⟩ := hr1.pos (by omega)
    cases ea
    have sd := fun (G : List HProp) => side_ok (F := G) hem
    have nd := fun (G : List HProp) (a : Option Addr) (c : Nat) (x : Nd) (hx : Tr w0 x.t) => node_ok (F := G) (a := a) (c := c) (bm := bm) (pv := pv) (ns := N) (x := x) (by omega) ha hx
    refine J.seq ?_
    refine J.region ?_
    refine JL.decT rfl rfl (OpP.lss rfl rfl) (by omega) ?_
    refine JL.nil ?_
    refine J.seq ?_
    refine J.condT rfl ?_
    refine J.skip ?_
    refine J.seq ?_
    refine J.block ?_
    refine J.seq ?_
    refine J.region ?_
    refine JL.pure rfl rfl (OpP.indexAddr rfl rfl (by omega) (by omega)) ?_
    refine JL.read rfl rfl (OpR.loadN rfl (by apply Cells.conv (fun _ h => Own.pick (pre := [_, _]) [] rfl h); apply Cells.chunkAt hcs; (case' h => assumption); (case' hi => assumption); done) (by first | rfl | assumption)) ?_
    refine JL.mem rfl rfl OpM.alloc ?_; rintro _ _ ⟨b10, rfl, rfl⟩
    refine JL.mem0 rfl (by apply OpM.storeN rfl rfl (by rfl) (oneC rfl (oneC rfl (oneC rfl (oneC rfl (oneC rfl (oneC rfl (oneC rfl (one1 rfl)))))))); (case' hu => exact .head); (case' hs => exact (.here (.here (.here (.here (.here (.here (.here (.here .nil))))))))); done) ?_; rintro _ _ ⟨rfl, rfl⟩
    refine JL.nil ?_
    refine J.seq ?_
    refine J.region ?_
    refine JL.read rfl rfl (OpR.loadN rfl (Cells.full .head) rfl) ?_
    refine JL.step rfl rfl (OpW.call (first := []) (captured := []) inferInstance rfl rfl (sd _)) ?_; rintro r18 _ ⟨rfl, rfl⟩
    refine JL.pure rfl rfl (OpP.move rfl) ?_
    refine JL.dec rfl rfl (OpP.eql rfl rfl) (fun h20 => ?_) (fun h20 => ?_)
    focus
      refine JL.nil ?_
      refine J.condT rfl ?_
    rotate_left 1
    focus
      refine JL.nil ?_
      refine J.condF rfl ?_
      refine J.skip ?_
      refine J.inBlock ?_
      refine J.region ?_
      refine JL.pure rfl rfl (OpP.addI rfl rfl (by omega) (by omega)) ?_
      refine JL.pure rfl rfl (OpP.move rfl) ?_
      refine JL.nil ?_
    rotate_left 1
    · refine J.region ?_
      refine JL.pure rfl rfl (OpP.move rfl) ?_
      refine JL.pure rfl rfl (OpP.move rfl) ?_
      refine JL.pure rfl rfl (OpP.move rfl) ?_
      refine JL.read rfl rfl (OpR.loadN rfl (Cells.full .head) rfl) ?_
      refine JL.pure rfl rfl (OpP.build rfl (by (repeat (first | exact Fills.nil | (apply Fills.cons rfl rfl rfl; (case' hs => ((repeat (first | exact Spl.nil | apply Spl.here | apply Spl.there)); done))))))) ?_
      refine JL.f2 ?_; refine JL.f2 ?_; refine JL.step rfl rfl (OpW.call (first := []) (captured := []) inferInstance rfl rfl (nd _ _ _ ⟨side, f, 0, e⟩ hem)) ?_; rintro r26 _ ⟨a', ⟨c', ⟨rfl, rfl⟩⟩⟩
      refine JL.pure rfl rfl (OpP.assign rfl) ?_
      refine JL.nil ?_
      refine J.inBlock ?_
      refine J.region ?_
      refine JL.pure rfl rfl (OpP.addI rfl rfl (by omega) (by omega)) ?_
      refine JL.pure rfl rfl (OpP.move rfl) ?_
      refine JL.nil ?_
      have bk := @back (j + 1, a', c') (by dsimp only; omega) (by dsimp only; omega)
      dsimp only at bk
      rw [hof, if_pos (by assumption), hnx] at bk
      exact bk (by repeat (first | exact SubEnv.nil | refine SubEnv.cons (by first | rfl | exact congrArg (fun z => some (Value.int .i64 z)) (by omega) | (simp; done)) ?_)) (fun _ h => Own.pick (pre := [_, _, _]) [0, 1] rfl h)
    · skip
      have bk := @back (j + 1, a, c) (by dsimp only; omega) (by dsimp only; omega)
      dsimp only at bk
      rw [hof, if_neg (by assumption), List.append_nil, hS] at bk
      exact bk (by repeat (first | exact SubEnv.nil | refine SubEnv.cons (by first | rfl | exact congrArg (fun z => some (Value.int .i64 z)) (by omega) | (simp; done)) ?_)) (fun _ h => h.tail)
  · have : j = l.length := by omega
    subst this
    rw [List.take_length]
    refine J.seq ?_
    refine J.region ?_
    refine JL.decF rfl rfl (OpP.lss rfl rfl) (by omega) ?_
    refine JL.nil ?_
    refine J.seq ?_
    refine J.condF rfl ?_
    refine J.exit rfl ?_
    refine J.seq ?_
    refine J.region ?_
    refine JL.pure rfl rfl (OpP.move rfl) ?_
    refine JL.pure rfl rfl (OpP.assign rfl) ?_
    refine JL.nil ?_
    refine J.ret1 rfl rfl ?_
    exact ⟨_, ⟨_, _, rfl, rfl⟩, fun _ h => h⟩
end Go.Proofs.D

-- seat d
namespace Go.Proofs.D
open Go Go.Gp Go.RowKit

/-- A rule's conjuncts. -/
def all (p : Po) (r : Ru) : List Ex := (if p.hasFor = true then conj p.e else []) ++ (if r.hasIf = true then conj r.e else [])
theorem all_tr {w0 : World} {p : Po} {r : Ru} (hp : Tr w0 p.e) (hr : Tr w0 r.e) : (∀ x ∈ all p r, Tr w0 x) ∧ (all p r).length ≤ 120 := by
  obtain ⟨a1, _, a2⟩ := conj_all hp
  obtain ⟨b1, _, b2⟩ := conj_all hr
  have a3 : esz p.e ≤ 60 := by cases hp; assumption
  have b3 : esz r.e ≤ 60 := by cases hr; assumption
  rw [all]
  constructor
  · intro x hx
    rcases List.mem_append.1 hx with hx | hx
    · split at hx
      · exact a1 x hx
      · cases hx
    · split at hx
      · exact b1 x hx
      · cases hx
  · rw [List.length_append]
    split <;> split <;> (try simp) <;> omega
theorem all_ok {w0 : World} {F : List HProp} {d : Dc} {p : Po} {r : Ru} {i k : Nat} (hd : DcT w0 d) (hi : d.ps[i]? = some p) (hk : p.rs[k]? = some r) :
    FnO Try.prog w0 19 [.agg (dcl d).toArray, .int .i64 (i : Nat), .int .i64 (k : Nat)] F (fun u l' => ∃ a c, u = .slice a (all p r).length c ∧ l' = own 27 8 (.slice a (all p r).length c) (all p r).length ((all p r).flatMap xcl) :: F) := by
  have hp := hd.po p (List.mem_of_getElem? hi)
  have hu := hp.ru r (List.mem_of_getElem? hk)
  have hpe := hp.e
  have hpr := hp.hr
  have hdr := hd.hr
  have hil := (List.getElem?_eq_some_iff.1 hi).1
  have hkl := (List.getElem?_eq_some_iff.1 hk).1
  have hn6 := hd.n
  have hn8 := hp.n
  clear hd hp
  obtain ⟨fa, fn, fc, use, ps, a, c⟩ := d
  obtain ⟨name, by_, use2, hasFor, e, rs, a2, c2⟩ := p
  obtain ⟨permit, name3, hasIf, e3, da, dn, dc, aa, an, ac⟩ := r
  dsimp only [all] at *
  have hlen : ∀ p ∈ ps, (pcl p).length = 13 := fun _ _ => rfl
  have hlen2 : ∀ r ∈ rs, (ucl r).length = 13 := fun _ _ => rfl
  refine FnO.rd (hdr F) fun hr1 => ?_
  refine FnO.rd (hpr F) fun hr2 => ?_
  obtain ⟨ga, pa, qa, ea, ka, hcs⟩ := hr1.pos (by omega)
  cases ea
  obtain ⟨gb, pb, qb, eb, kb, hcs2⟩ := hr2.pos (by omega)
  cases eb
  refine FnO.weak ?_
  change FnO Try.prog w0 19 [.agg [Value.slice fa fn fc, .string use, .slice (some ⟨ga, pa, none⟩) ps.length c].toArray, .int .i64 (i : Nat), .int .i64 (k : Nat)] F _
  refine FnO.intro (n := 37) Try.func19 rfl rfl rfl ?_
  have o1 := xcls_one (es := conj e)
  have hl1 := chunk8 (conj e)
  have c1 : (conj e).length ≤ 60 := by
    have c1 := (conj_all hpe).2.2
    cases hpe; omega
  have o2 := xcls_one (es := conj e3)
  have hl2 := chunk8 (conj e3)
  have c2' : (conj e3).length ≤ 60 := by
    have c1 := (conj_all hu).2.2
    cases hu; omega
  have d1 := fun (G : List HProp) => conjR_ok (F := G) hpe
  have d2 := fun (G : List HProp) => conjR_ok (F := G) hu
  cases hasFor <;> cases hasIf <;> simp only [Bool.false_eq_true, List.append_nil, List.nil_append, if_true, if_false, List.length_append, List.flatMap_append]
  · refine J.seq ?_
    refine J.region ?_
    refine JL.mem rfl rfl (OpM.box rfl rfl) ?_; rintro _ _ ⟨b3, rfl, rfl⟩
    refine JL.pure rfl rfl (OpP.assign rfl) ?_
    refine JL.nil ?_
    refine J.seq ?_
    refine J.region ?_
    refine JL.pure rfl rfl (OpP.fieldAddr rfl) ?_
    refine JL.read rfl rfl (OpR.load1 rfl (Cell.row .head rfl)) ?_
    refine JL.pure rfl rfl (OpP.move rfl) ?_
    refine JL.pure rfl rfl (OpP.indexAddr rfl rfl (by omega) (by omega)) ?_
    refine JL.read rfl rfl (OpR.loadN rfl (by apply Cells.conv (fun _ h => Own.pick (pre := [_]) [] rfl h); apply Cells.chunkAt hcs; (case' h => assumption); (case' hi => assumption); done) (by first | rfl | assumption)) ?_
    refine JL.mem rfl rfl OpM.alloc ?_; rintro _ _ ⟨b7, rfl, rfl⟩
    refine JL.mem0 rfl (by apply OpM.storeN rfl rfl (by rfl) (oneC rfl (oneC rfl (oneC rfl (oneC rfl (oneC rfl (oneC rfl (oneC rfl (oneC rfl (oneC rfl (oneC rfl (oneC rfl (oneC rfl (one1 rfl))))))))))))); (case' hu => exact .head); (case' hs => exact (.here (.here (.here (.here (.here (.here (.here (.here (.here (.here (.here (.here (.here .nil)))))))))))))); done) ?_; rintro _ _ ⟨rfl, rfl⟩
    refine JL.nil ?_
    refine J.seq ?_
    refine J.region ?_
    refine JL.pure rfl rfl (OpP.assign rfl) ?_
    refine JL.nil ?_
    refine J.seq ?_
    refine J.conv (l' := own 27 8 (.slice none 0 0) 0 [] :: row b7 51 (pc13 name by_ use2 false e (some ⟨gb, pb, none⟩) rs.length c2) :: row b3 36 [.slice fa fn fc, .string use, .slice (some ⟨ga, pa, none⟩) ps.length c] :: F) (fun _ h => Own.own_nil h) ?_
    refine J.seq ?_
    refine J.region ?_
    refine JL.pure rfl rfl (OpP.fieldAddr rfl) ?_
    refine JL.read rfl rfl (OpR.load1 rfl (Cell.row (.tail .head) rfl)) ?_
    refine JL.nil ?_
    refine J.condF rfl ?_
    refine J.skip ?_
    refine J.seq ?_
    refine J.seq ?_
    refine J.region ?_
    refine JL.pure rfl rfl (OpP.fieldAddr rfl) ?_
    refine JL.read rfl rfl (OpR.load1 rfl (Cell.row (.tail .head) rfl)) ?_
    refine JL.pure rfl rfl (OpP.move rfl) ?_
    refine JL.pure rfl rfl (OpP.indexAddr rfl rfl (by omega) (by omega)) ?_
    refine JL.pure rfl rfl (OpP.fieldAddr rfl) ?_
    refine JL.read rfl rfl (OpR.load1 rfl (by apply Cells.cellChunk (j := 2) hcs2 (fun _ h => Own.pick (pre := [_, _, _]) [] rfl h); (case' h => assumption); (case' hi => assumption); (case' hv => rfl); (case' ho => omega); done)) ?_
    refine JL.nil ?_
    refine J.condF rfl ?_
    refine J.skip ?_
    refine J.seq ?_
    refine J.region ?_
    refine JL.pure rfl rfl (OpP.move rfl) ?_
    refine JL.pure rfl rfl (OpP.assign rfl) ?_
    refine JL.nil ?_
    refine J.ret1 rfl rfl ?_
    exact ⟨_, ⟨_, _, rfl, rfl⟩, fun _ h => by first | exact Own.pick (pre := [_, _, _]) [0] rfl h | exact Own.pick (pre := [_, _, _, _]) [0] rfl h | exact Own.pick (pre := [_, _, _, _, _]) [0] rfl h⟩
  · refine J.seq ?_
    refine J.region ?_
    refine JL.mem rfl rfl (OpM.box rfl rfl) ?_; rintro _ _ ⟨b3, rfl, rfl⟩
    refine JL.pure rfl rfl (OpP.assign rfl) ?_
    refine JL.nil ?_
    refine J.seq ?_
    refine J.region ?_
    refine JL.pure rfl rfl (OpP.fieldAddr rfl) ?_
    refine JL.read rfl rfl (OpR.load1 rfl (Cell.row .head rfl)) ?_
    refine JL.pure rfl rfl (OpP.move rfl) ?_
    refine JL.pure rfl rfl (OpP.indexAddr rfl rfl (by omega) (by omega)) ?_
    refine JL.read rfl rfl (OpR.loadN rfl (by apply Cells.conv (fun _ h => Own.pick (pre := [_]) [] rfl h); apply Cells.chunkAt hcs; (case' h => assumption); (case' hi => assumption); done) (by first | rfl | assumption)) ?_
    refine JL.mem rfl rfl OpM.alloc ?_; rintro _ _ ⟨b7, rfl, rfl⟩
    refine JL.mem0 rfl (by apply OpM.storeN rfl rfl (by rfl) (oneC rfl (oneC rfl (oneC rfl (oneC rfl (oneC rfl (oneC rfl (oneC rfl (oneC rfl (oneC rfl (oneC rfl (oneC rfl (oneC rfl (one1 rfl))))))))))))); (case' hu => exact .head); (case' hs => exact (.here (.here (.here (.here (.here (.here (.here (.here (.here (.here (.here (.here (.here .nil)))))))))))))); done) ?_; rintro _ _ ⟨rfl, rfl⟩
    refine JL.nil ?_
    refine J.seq ?_
    refine J.region ?_
    refine JL.pure rfl rfl (OpP.assign rfl) ?_
    refine JL.nil ?_
    refine J.seq ?_
    refine J.conv (l' := own 27 8 (.slice none 0 0) 0 [] :: row b7 51 (pc13 name by_ use2 false e (some ⟨gb, pb, none⟩) rs.length c2) :: row b3 36 [.slice fa fn fc, .string use, .slice (some ⟨ga, pa, none⟩) ps.length c] :: F) (fun _ h => Own.own_nil h) ?_
    refine J.seq ?_
    refine J.region ?_
    refine JL.pure rfl rfl (OpP.fieldAddr rfl) ?_
    refine JL.read rfl rfl (OpR.load1 rfl (Cell.row (.tail .head) rfl)) ?_
    refine JL.nil ?_
    refine J.condF rfl ?_
    refine J.skip ?_
    refine J.seq ?_
    refine J.seq ?_
    refine J.region ?_
    refine JL.pure rfl rfl (OpP.fieldAddr rfl) ?_
    refine JL.read rfl rfl (OpR.load1 rfl (Cell.row (.tail .head) rfl)) ?_
    refine JL.pure rfl rfl (OpP.move rfl) ?_
    refine JL.pure rfl rfl (OpP.indexAddr rfl rfl (by omega) (by omega)) ?_
    refine JL.pure rfl rfl (OpP.fieldAddr rfl) ?_
    refine JL.read rfl rfl (OpR.load1 rfl (by apply Cells.cellChunk (j := 2) hcs2 (fun _ h => Own.pick (pre := [_, _, _]) [] rfl h); (case' h => assumption); (case' hi => assumption); (case' hv => rfl); (case' ho => omega); done)) ?_
    refine JL.nil ?_
    refine J.condT rfl ?_
    refine J.region ?_
    refine JL.pure rfl rfl (OpP.move rfl) ?_
    refine JL.pure rfl rfl (OpP.fieldAddr rfl) ?_
    refine JL.read rfl rfl (OpR.load1 rfl (Cell.row (.tail .head) rfl)) ?_
    refine JL.pure rfl rfl (OpP.move rfl) ?_
    refine JL.pure rfl rfl (OpP.indexAddr rfl rfl (by omega) (by omega)) ?_
    refine JL.pure rfl rfl (OpP.fieldAddr rfl) ?_
    refine JL.read rfl rfl (OpR.loadN rfl (by apply Cells.chunkSub (j := 3) (m := 8) hcs2 (fun _ h => Own.pick (pre := [_, _, _]) [] rfl h); (case' h => assumption); (case' hi => exact hk); (case' hv => rfl); (case' ho => omega); done) (by rfl)) ?_
    refine JL.step rfl rfl (OpW.call (first := []) (captured := []) inferInstance rfl rfl (d2 _)) ?_; rintro r34 _ ⟨a, ⟨c3, ⟨rfl, rfl⟩⟩⟩
    refine JL.f1 ?_; refine JL.mem rfl rfl (OpM.appendH0 rfl rfl (.inl ⟨_, Sl.und inferInstance⟩) (by rfl) rfl rfl (RdO.src (RdO.own (.tail .head)) (by first | assumption | exact fc_length _ _ | (simp; done) | (simp; omega))) (by first | exact bcells_one _ | exact scells_one _ | exact icells_one _ | assumption | exact fc_one fun _ => rfl) (by simp only [maxLen]; omega) (by omega)) ?_; rintro _ _ ⟨⟨a35, c35, rfl⟩, rfl⟩
    refine JL.pure rfl rfl (OpP.assign rfl) ?_
    refine JL.nil ?_
    refine J.seq ?_
    refine J.region ?_
    refine JL.pure rfl rfl (OpP.move rfl) ?_
    refine JL.pure rfl rfl (OpP.assign rfl) ?_
    refine JL.nil ?_
    refine J.ret1 rfl rfl ?_
    exact ⟨_, ⟨_, _, rfl, rfl⟩, fun _ h => by first | exact Own.pick (pre := [_, _, _]) [0] rfl h | exact Own.pick (pre := [_, _, _, _]) [0] rfl h | exact Own.pick (pre := [_, _, _, _, _]) [0] rfl h⟩
  · refine J.seq ?_
    refine J.region ?_
    refine JL.mem rfl rfl (OpM.box rfl rfl) ?_; rintro _ _ ⟨b3, rfl, rfl⟩
    refine JL.pure rfl rfl (OpP.assign rfl) ?_
    refine JL.nil ?_
    refine J.seq ?_
    refine J.region ?_
    refine JL.pure rfl rfl (OpP.fieldAddr rfl) ?_
    refine JL.read rfl rfl (OpR.load1 rfl (Cell.row .head rfl)) ?_
    refine JL.pure rfl rfl (OpP.move rfl) ?_
    refine JL.pure rfl rfl (OpP.indexAddr rfl rfl (by omega) (by omega)) ?_
    refine JL.read rfl rfl (OpR.loadN rfl (by apply Cells.conv (fun _ h => Own.pick (pre := [_]) [] rfl h); apply Cells.chunkAt hcs; (case' h => assumption); (case' hi => assumption); done) (by first | rfl | assumption)) ?_
    refine JL.mem rfl rfl OpM.alloc ?_; rintro _ _ ⟨b7, rfl, rfl⟩
    refine JL.mem0 rfl (by apply OpM.storeN rfl rfl (by rfl) (oneC rfl (oneC rfl (oneC rfl (oneC rfl (oneC rfl (oneC rfl (oneC rfl (oneC rfl (oneC rfl (oneC rfl (oneC rfl (oneC rfl (one1 rfl))))))))))))); (case' hu => exact .head); (case' hs => exact (.here (.here (.here (.here (.here (.here (.here (.here (.here (.here (.here (.here (.here .nil)))))))))))))); done) ?_; rintro _ _ ⟨rfl, rfl⟩
    refine JL.nil ?_
    refine J.seq ?_
    refine J.region ?_
    refine JL.pure rfl rfl (OpP.assign rfl) ?_
    refine JL.nil ?_
    refine J.seq ?_
    refine J.conv (l' := own 27 8 (.slice none 0 0) 0 [] :: row b7 51 (pc13 name by_ use2 true e (some ⟨gb, pb, none⟩) rs.length c2) :: row b3 36 [.slice fa fn fc, .string use, .slice (some ⟨ga, pa, none⟩) ps.length c] :: F) (fun _ h => Own.own_nil h) ?_
    refine J.seq ?_
    refine J.region ?_
    refine JL.pure rfl rfl (OpP.fieldAddr rfl) ?_
    refine JL.read rfl rfl (OpR.load1 rfl (Cell.row (.tail .head) rfl)) ?_
    refine JL.nil ?_
    refine J.condT rfl ?_
    refine J.region ?_
    refine JL.pure rfl rfl (OpP.move rfl) ?_
    refine JL.pure rfl rfl (OpP.fieldAddr rfl) ?_
    refine JL.read rfl rfl (OpR.loadN rfl (Cells.sub 8 (.tail .head) rfl) rfl) ?_
    refine JL.step rfl rfl (OpW.call (first := []) (captured := []) inferInstance rfl rfl (d1 _)) ?_; rintro r19 _ ⟨a, ⟨c3, ⟨rfl, rfl⟩⟩⟩
    refine JL.f1 ?_; refine JL.mem rfl rfl (OpM.appendH0 rfl rfl (.inl ⟨_, Sl.und inferInstance⟩) (by rfl) rfl rfl (RdO.src (RdO.own (.tail .head)) (by first | assumption | exact fc_length _ _ | (simp; done) | (simp; omega))) (by first | exact bcells_one _ | exact scells_one _ | exact icells_one _ | assumption | exact fc_one fun _ => rfl) (by simp only [maxLen]; omega) (by omega)) ?_; rintro _ _ ⟨⟨a20, c20, rfl⟩, rfl⟩
    refine JL.pure rfl rfl (OpP.assign rfl) ?_
    refine JL.nil ?_
    refine J.seq ?_
    refine J.seq ?_
    refine J.region ?_
    refine JL.pure rfl rfl (OpP.fieldAddr rfl) ?_
    refine JL.read rfl rfl (OpR.load1 rfl (Cell.row (.tail (.tail .head)) rfl)) ?_
    refine JL.pure rfl rfl (OpP.move rfl) ?_
    refine JL.pure rfl rfl (OpP.indexAddr rfl rfl (by omega) (by omega)) ?_
    refine JL.pure rfl rfl (OpP.fieldAddr rfl) ?_
    refine JL.read rfl rfl (OpR.load1 rfl (by apply Cells.cellChunk (j := 2) hcs2 (fun _ h => Own.pick (pre := [_, _, _, _]) [] rfl h); (case' h => assumption); (case' hi => assumption); (case' hv => rfl); (case' ho => omega); done)) ?_
    refine JL.nil ?_
    refine J.condF rfl ?_
    refine J.skip ?_
    refine J.seq ?_
    refine J.region ?_
    refine JL.pure rfl rfl (OpP.move rfl) ?_
    refine JL.pure rfl rfl (OpP.assign rfl) ?_
    refine JL.nil ?_
    refine J.ret1 rfl rfl ?_
    exact ⟨_, ⟨_, _, rfl, rfl⟩, fun _ h => by first | exact Own.pick (pre := [_, _, _]) [0] rfl h | exact Own.pick (pre := [_, _, _, _]) [0] rfl h | exact Own.pick (pre := [_, _, _, _, _]) [0] rfl h⟩
  · refine J.seq ?_
    refine J.region ?_
    refine JL.mem rfl rfl (OpM.box rfl rfl) ?_; rintro _ _ ⟨b3, rfl, rfl⟩
    refine JL.pure rfl rfl (OpP.assign rfl) ?_
    refine JL.nil ?_
    refine J.seq ?_
    refine J.region ?_
    refine JL.pure rfl rfl (OpP.fieldAddr rfl) ?_
    refine JL.read rfl rfl (OpR.load1 rfl (Cell.row .head rfl)) ?_
    refine JL.pure rfl rfl (OpP.move rfl) ?_
    refine JL.pure rfl rfl (OpP.indexAddr rfl rfl (by omega) (by omega)) ?_
    refine JL.read rfl rfl (OpR.loadN rfl (by apply Cells.conv (fun _ h => Own.pick (pre := [_]) [] rfl h); apply Cells.chunkAt hcs; (case' h => assumption); (case' hi => assumption); done) (by first | rfl | assumption)) ?_
    refine JL.mem rfl rfl OpM.alloc ?_; rintro _ _ ⟨b7, rfl, rfl⟩
    refine JL.mem0 rfl (by apply OpM.storeN rfl rfl (by rfl) (oneC rfl (oneC rfl (oneC rfl (oneC rfl (oneC rfl (oneC rfl (oneC rfl (oneC rfl (oneC rfl (oneC rfl (oneC rfl (oneC rfl (one1 rfl))))))))))))); (case' hu => exact .head); (case' hs => exact (.here (.here (.here (.here (.here (.here (.here (.here (.here (.here (.here (.here (.here .nil)))))))))))))); done) ?_; rintro _ _ ⟨rfl, rfl⟩
    refine JL.nil ?_
    refine J.seq ?_
    refine J.region ?_
    refine JL.pure rfl rfl (OpP.assign rfl) ?_
    refine JL.nil ?_
    refine J.seq ?_
    refine J.conv (l' := own 27 8 (.slice none 0 0) 0 [] :: row b7 51 (pc13 name by_ use2 true e (some ⟨gb, pb, none⟩) rs.length c2) :: row b3 36 [.slice fa fn fc, .string use, .slice (some ⟨ga, pa, none⟩) ps.length c] :: F) (fun _ h => Own.own_nil h) ?_
    refine J.seq ?_
    refine J.region ?_
    refine JL.pure rfl rfl (OpP.fieldAddr rfl) ?_
    refine JL.read rfl rfl (OpR.load1 rfl (Cell.row (.tail .head) rfl)) ?_
    refine JL.nil ?_
    refine J.condT rfl ?_
    refine J.region ?_
    refine JL.pure rfl rfl (OpP.move rfl) ?_
    refine JL.pure rfl rfl (OpP.fieldAddr rfl) ?_
    refine JL.read rfl rfl (OpR.loadN rfl (Cells.sub 8 (.tail .head) rfl) rfl) ?_
    refine JL.step rfl rfl (OpW.call (first := []) (captured := []) inferInstance rfl rfl (d1 _)) ?_; rintro r19 _ ⟨a, ⟨c3, ⟨rfl, rfl⟩⟩⟩
    refine JL.f1 ?_; refine JL.mem rfl rfl (OpM.appendH0 rfl rfl (.inl ⟨_, Sl.und inferInstance⟩) (by rfl) rfl rfl (RdO.src (RdO.own (.tail .head)) (by first | assumption | exact fc_length _ _ | (simp; done) | (simp; omega))) (by first | exact bcells_one _ | exact scells_one _ | exact icells_one _ | assumption | exact fc_one fun _ => rfl) (by simp only [maxLen]; omega) (by omega)) ?_; rintro _ _ ⟨⟨a20, c20, rfl⟩, rfl⟩
    refine JL.pure rfl rfl (OpP.assign rfl) ?_
    refine JL.nil ?_
    refine J.seq ?_
    refine J.seq ?_
    refine J.region ?_
    refine JL.pure rfl rfl (OpP.fieldAddr rfl) ?_
    refine JL.read rfl rfl (OpR.load1 rfl (Cell.row (.tail (.tail .head)) rfl)) ?_
    refine JL.pure rfl rfl (OpP.move rfl) ?_
    refine JL.pure rfl rfl (OpP.indexAddr rfl rfl (by omega) (by omega)) ?_
    refine JL.pure rfl rfl (OpP.fieldAddr rfl) ?_
    refine JL.read rfl rfl (OpR.load1 rfl (by apply Cells.cellChunk (j := 2) hcs2 (fun _ h => Own.pick (pre := [_, _, _, _]) [] rfl h); (case' h => assumption); (case' hi => assumption); (case' hv => rfl); (case' ho => omega); done)) ?_
    refine JL.nil ?_
    refine J.condT rfl ?_
    refine J.region ?_
    refine JL.pure rfl rfl (OpP.move rfl) ?_
    refine JL.pure rfl rfl (OpP.fieldAddr rfl) ?_
    refine JL.read rfl rfl (OpR.load1 rfl (Cell.row (.tail (.tail .head)) rfl)) ?_
    refine JL.pure rfl rfl (OpP.move rfl) ?_
    refine JL.pure rfl rfl (OpP.indexAddr rfl rfl (by omega) (by omega)) ?_
    refine JL.pure rfl rfl (OpP.fieldAddr rfl) ?_
    refine JL.read rfl rfl (OpR.loadN rfl (by apply Cells.chunkSub (j := 3) (m := 8) hcs2 (fun _ h => Own.pick (pre := [_, _, _, _]) [] rfl h); (case' h => assumption); (case' hi => exact hk); (case' hv => rfl); (case' ho => omega); done) (by rfl)) ?_
    refine JL.step rfl rfl (OpW.call (first := []) (captured := []) inferInstance rfl rfl (d2 _)) ?_; rintro r34 _ ⟨a1, ⟨c4, ⟨rfl, rfl⟩⟩⟩
    refine JL.f1 ?_; refine JL.mem rfl rfl (OpM.appendH rfl (.inl ⟨_, Sl.und inferInstance⟩) (by rfl) rfl rfl (RdO.src (RdO.own (.tail .head)) (by first | assumption | exact fc_length _ _ | (simp; done) | (simp; omega))) (by first | exact bcells_one _ | exact scells_one _ | exact icells_one _ | assumption | exact fc_one fun _ => rfl) (by simp only [maxLen]; omega) (by omega)) ?_; rintro _ _ ⟨⟨a35, c35, rfl⟩, rfl⟩
    refine JL.pure rfl rfl (OpP.assign rfl) ?_
    refine JL.nil ?_
    refine J.seq ?_
    refine J.region ?_
    refine JL.pure rfl rfl (OpP.move rfl) ?_
    refine JL.pure rfl rfl (OpP.assign rfl) ?_
    refine JL.nil ?_
    refine J.ret1 rfl rfl ?_
    exact ⟨_, ⟨_, _, rfl, rfl⟩, fun _ h => by first | exact Own.pick (pre := [_, _, _]) [0] rfl h | exact Own.pick (pre := [_, _, _, _]) [0] rfl h | exact Own.pick (pre := [_, _, _, _, _]) [0] rfl h⟩
end Go.Proofs.D
