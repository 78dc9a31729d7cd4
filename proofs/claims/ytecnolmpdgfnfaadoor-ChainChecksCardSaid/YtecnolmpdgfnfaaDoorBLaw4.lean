/- A text of the proof of a statement about the given program: its part BLaw4. No person has read it. -/
import Derived.Test.YtecnolmpdgfnfaaDoorBLaw3
import Derived.Test.YtecnolmpdgfnfaaDoorJ25
-- seat b
namespace Go.Proofs.B
open Go Go.Gp Go.RowKit

/-- Some bytes, each one more. -/
def incB (b : List UInt8) (i : Nat) : List UInt8 := (b.take i).map (· + 1) ++ b.drop i
theorem incB_length (b : List UInt8) (i : Nat) : (incB b i).length = b.length := by
  rw [incB, List.length_append, List.length_map, ← List.length_append, List.take_append_drop]
theorem incB_at {b : List UInt8} {i : Nat} (h : i < b.length) : (incB b i)[i]? = some b[i] ∧ b[i]? = some b[i] := by
  refine ⟨?_, List.getElem?_eq_getElem h⟩
  have e : ((b.take i).map (· + 1)).length = i := by rw [List.length_map, List.length_take]; omega
  rw [incB, List.getElem?_append_right (by omega), e, Nat.sub_self, List.getElem?_drop, Nat.add_zero, List.getElem?_eq_getElem h]
theorem incB_set {b : List UInt8} {i : Nat} (h : i < b.length) : (incB b i).set i (b[i] + 1) = incB b (i + 1) := by
  have e : ((b.take i).map (· + 1)).length = i := by rw [List.length_map, List.length_take]; omega
  rw [incB, List.set_append_right _ _ (by omega), e, Nat.sub_self, List.drop_eq_getElem_cons h, List.set_cons_zero, incB, List.take_add_one, List.getElem?_eq_getElem h, List.map_append]
  simp
theorem incV (c : UInt8) : Value.int .u8 (IntKind.u8.wrap ((c.toNat : Int) + 1)) = u8c (c + 1) := by
  rw [wrap_u8, u8c, UInt8.toNat_add]
  rfl
theorem ShaOwn_ok {w0 : World} {b : List UInt8} {v : Value} {K : Ws} (hA : IsAwake w0 13) (hK : Tab w0 0 64 fun j => w32 (K j)) (hK2 : ∀ i, i < 64 → hexOk constS i (K i) = true) (hl : b.length ≤ 9223372036854775807) (hr : RdO w0 [] v b.length (bcells b)) :
    FnO Tryd.prog w0 5 [v] [] (fun v _ => v = .bool true) := by
  refine FnO.rdF (fun _ h => h) hr fun hr0 => ?_
  obtain ⟨va, vc, rfl⟩ := hr0.lit
  refine FnO.intro (n := 48) Tryd.func5 rfl rfl rfl ?_
  by_cases hn : b.length ≤ 300
  · have hbl : (bcells b).length = b.length * 1 := by rw [bcells_length]; omega
    have hn1 : ([] : List UInt8).length + (cat [(Value.bool true, b)]).length ≤ 1000000 := by rw [show cat [(Value.bool true, b)] = b from List.append_nil _, List.length_nil]; omega
    refine J.seq ?_
    refine J.region ?_
    refine JL.pure rfl rfl (OpP.assign rfl) ?_
    refine JL.nil ?_
    refine J.seq ?_
    refine J.seq ?_
    refine J.region ?_
    refine JL.step rfl rfl (OpW.call (first := []) (captured := []) inferInstance rfl rfl (hA _)) ?_; rintro r6 _ ⟨rfl, rfl⟩
    refine JL.pure rfl rfl (OpP.notB rfl) ?_
    refine JL.pure rfl rfl (OpP.move rfl) ?_
    refine JL.pure rfl rfl (OpP.move rfl) ?_
    refine JL.pure rfl rfl (OpP.len rfl rfl) ?_
    refine JL.decF rfl rfl (OpP.gtr rfl rfl) (by omega) ?_
    refine JL.pure rfl rfl (OpP.pickF rfl rfl) ?_
    refine JL.nil ?_
    refine J.condF rfl ?_
    refine J.skip ?_
    refine J.seq ?_
    refine J.region ?_
    refine JL.mem rfl rfl (by apply OpM.buildSlice (by rfl) rfl (by rfl); (repeat (first | exact Fills.nil | (apply Fills.cons rfl rfl rfl; (case' hs => ((repeat (first | exact Spl.nil | apply Spl.here | apply Spl.there)); done)))))) ?_; rintro _ _ ⟨b14, rfl, rfl⟩
    refine JL.pure rfl rfl (OpP.move rfl) ?_
    refine JL.ownRow (n := 0) (sz := 1) (by decide) rfl ?_
    refine JL.mem rfl rfl (OpM.appendH0 rfl rfl (.inl ⟨_, Sl.und inferInstance⟩) (by rfl) rfl rfl (RdO.src (hr.conv fun _ h => h.none) (by first | assumption | exact fc_length _ _ | (simp; done) | (simp; omega))) (by first | exact bcells_one _ | exact scells_one _ | exact icells_one _ | assumption | exact fc_one fun _ => rfl) (by simp only [maxLen]; omega) (by omega)) ?_; rintro _ _ ⟨⟨a16, c16, rfl⟩, rfl⟩
    refine JL.pure rfl rfl (OpP.assign rfl) ?_
    refine JL.nil ?_
    refine J.seq ?_
    refine J.region ?_
    refine JL.step rfl rfl (OpW.call (first := []) (captured := []) inferInstance rfl rfl (New0_ok (K := K))) ?_; rintro r17 _ ⟨g, ⟨rfl, rfl⟩⟩
    refine JL.pure rfl rfl (OpP.assign rfl) ?_
    refine JL.nil ?_
    refine J.seq ?_
    refine J.region ?_
    refine JL.pure rfl rfl (OpP.move rfl) ?_
    refine JL.pure rfl rfl (OpP.move rfl) ?_
    refine JL.mem rfl rfl (by apply OpM.buildSlice (by rfl) rfl (by rfl); (repeat (first | exact Fills.nil | (apply Fills.cons rfl rfl rfl; (case' hs => ((repeat (first | exact Spl.nil | apply Spl.here | apply Spl.there)); done)))))) ?_; rintro _ _ ⟨b20, rfl, rfl⟩
    refine JL.f2 ?_; refine JL.f2 ?_; refine JL.step rfl rfl (OpW.call (first := []) (captured := []) inferInstance rfl rfl (Write_ok (ps := [(_, b)]) hK (by exact hn1) (by first | assumption | omega | rfl | exact Nat.le_of_ble_eq_true rfl | (simp; omega)) (Parts.row1 .head (RdO.own (.tail .head)) (Nat.le_refl _)))) ?_; rintro r21 _ ⟨s', rfl⟩
    refine JL.lit (.tail .head) fun as' cs' es' => ?_; subst es'
    refine JL.nil ?_
    refine J.seq ?_
    refine J.seq ?_
    refine J.region ?_
    refine JL.pure rfl rfl (OpP.assign rfl) ?_
    refine JL.nil ?_
    refine J.block ?_
    rw [show [] ++ cat [(Value.slice a16 b.length c16, b)] = b from List.append_nil b]
    refine J.loopI (fun i : Nat => b.length - i) (fun i => i ≤ b.length) (fun i => [(5, .int .i64 (i : Nat)), (4, .pointer (some ⟨g, 0, none⟩)), (3, .slice a16 b.length c16), (0, .slice va b.length vc), (2, .bool false)])
      (fun i => [row g 48 (stC K b (Value.slice as' (stL b).length cs')), own 5 1 (Value.slice as' (stL b).length cs') (stL b).length (bcells (stL b)), own 5 1 (.slice a16 b.length c16) b.length (bcells (incB b i))]) 0 (Nat.zero_le _) (by repeat (first | exact SubEnv.nil | refine SubEnv.cons (by first | rfl | exact congrArg (fun z => some (Value.int .i64 z)) (by omega) | (simp; done)) ?_)) (fun _ h => Own.pick (pre := [_, _, _, _]) [0, 1, 3] rfl h) (fun i hi back => ?_)
    dsimp only at hi back ⊢
    by_cases hlt : i < b.length
    · obtain ⟨h1, h2⟩ := incB_at hlt
      have h3 := incB_set hlt
      generalize b[i] = c at h1 h2 h3
      have hbi : (bcells b)[i]? = some (u8c c) := by rw [bcells_get, h2]; rfl
      have hbx : (bcells (incB b i))[i]? = some (u8c c) := by rw [bcells_get, h1]; rfl
      have hbn : i < (bcells (incB b i)).length := by rw [bcells_length, incB_length]; exact hlt
      refine J.seq ?_
      refine J.seq ?_
      refine J.region ?_
      refine JL.pure rfl rfl (OpP.move rfl) ?_
      refine JL.pure rfl rfl (OpP.move rfl) ?_
      refine JL.pure rfl rfl (OpP.len rfl rfl) ?_
      refine JL.decT rfl rfl (OpP.lss rfl rfl) (by omega) ?_
      refine JL.nil ?_
      refine J.condT rfl ?_
      refine J.skip ?_
      refine J.seq ?_
      refine J.block ?_
      refine J.seq ?_
      refine J.seq ?_
      refine J.regionD [3, 7] (by kernel_rfl) ?_
      refine DL.pure (i := 0) (by kernel_rfl) (by kernel_rfl) rfl rfl rfl (OpP.move rfl) ?_
      refine DL.pure (i := 1) (by kernel_rfl) (by kernel_rfl) rfl rfl rfl (OpP.move rfl) ?_
      refine DL.ownSome (.tail (.tail .head)) (by omega) fun ga16 pa16 ea16 ka16 => ?_; subst ea16
      refine DL.pure (i := 2) (by kernel_rfl) (by kernel_rfl) rfl rfl rfl (OpP.indexAddr rfl rfl (by omega) (by omega)) ?_
      refine DL.read (i := 3) (by kernel_rfl) (by kernel_rfl) rfl rfl rfl (fun _ h => h) (OpR.load1 rfl (by apply Cells.cell (hv := hbx) (Cells.own (.tail (.tail .head))) (fun _ h => h); omega)) ?_
      refine DL.pure (i := 4) (by kernel_rfl) (by kernel_rfl) rfl rfl rfl (OpP.move rfl) ?_
      refine DL.pure (i := 5) (by kernel_rfl) (by kernel_rfl) rfl rfl rfl (OpP.move rfl) ?_
      obtain ⟨gva, pva, qva, eva, kva, cva⟩ := hr0.pos (by omega); cases eva
      refine DL.pure (i := 6) (by kernel_rfl) (by kernel_rfl) rfl rfl rfl (OpP.indexAddr rfl rfl (by omega) (by omega)) ?_
      refine DL.read (i := 7) (by kernel_rfl) (by kernel_rfl) rfl rfl rfl (fun _ h => h) (OpR.load1 rfl (by apply Cells.cell cva (fun _ h => h.none); (case' hv => assumption); (case' ho => omega); done)) ?_
      refine DL.decF (i := 8) (by kernel_rfl) (by kernel_rfl) rfl rfl rfl (OpP.neq rfl rfl) (by omega) ?_
      refine DL.done (by kernel_rfl) ?_
      refine J.condF rfl ?_
      refine J.skip ?_
      refine J.region ?_
      refine JL.pure rfl rfl (OpP.move rfl) ?_
      refine JL.pure rfl rfl (OpP.move rfl) ?_
      refine JL.pure rfl rfl (OpP.indexAddr rfl rfl (by omega) (by omega)) ?_
      refine JL.read rfl rfl (OpR.load1 rfl (by apply Cells.cell (hv := hbx) (Cells.own (.tail (.tail .head))) (fun _ h => h); omega)) ?_
      refine JL.pure rfl rfl (OpP.add rfl rfl) ?_
      refine JL.pure rfl rfl (OpP.indexAddr rfl rfl (by omega) (by omega)) ?_
      refine JL.f2 ?_; refine JL.mem0 rfl (OpM.storeOwn rfl rfl rfl (by first | rfl | (simp only [Int.toNat_natCast, Nat.mul_one])) (by first | assumption | omega)) ?_; rintro _ _ ⟨rfl, rfl⟩
      refine JL.nil ?_
      refine J.inBlock ?_
      refine J.region ?_
      refine JL.pure rfl rfl (OpP.move rfl) ?_
      refine JL.pure rfl rfl (OpP.addI rfl rfl (by omega) (by omega)) ?_
      refine JL.pure rfl rfl (OpP.assign rfl) ?_
      refine JL.nil ?_
      refine back (i + 1) (by omega) (by omega) (by repeat (first | exact SubEnv.nil | refine SubEnv.cons (by first | rfl | exact congrArg (fun z => some (Value.int .i64 z)) (by omega) | (simp; done)) ?_)) (fun _ h => ?_)
      rw [show ((i : Nat) : Int).toNat * 1 = i by omega, incV, bcells_set, h3] at h
      exact Own.pick (pre := [_, _, _]) [1, 2, 0] rfl h
    · have : i = b.length := by omega
      subst this
      refine J.seq ?_
      refine J.seq ?_
      refine J.region ?_
      refine JL.pure rfl rfl (OpP.move rfl) ?_
      refine JL.pure rfl rfl (OpP.move rfl) ?_
      refine JL.pure rfl rfl (OpP.len rfl rfl) ?_
      refine JL.decF rfl rfl (OpP.lss rfl rfl) (by omega) ?_
      refine JL.nil ?_
      refine J.condF rfl ?_
      refine J.exit rfl ?_
      refine J.seq ?_
      refine J.region ?_
      refine JL.pure rfl rfl (OpP.move rfl) ?_
      refine JL.step rfl rfl (OpW.call (first := []) (captured := []) inferInstance rfl rfl (Sum_ok hK (by omega))) ?_; rintro r44 _ ⟨rfl, rfl⟩
      refine JL.pure rfl rfl (OpP.move rfl) ?_
      refine JL.step rfl rfl (OpW.call (first := []) (captured := []) inferInstance rfl rfl (RefSum_ok hK2 (by omega) (hr.conv fun _ h => h.none))) ?_; rintro r46 _ ⟨rfl, rfl⟩
      refine JL.pure rfl rfl (OpP.eqBytes rfl rfl (by first | assumption | exact Go.Proofs.B.shaB_length _ _ | solve_by_elim) (by first | assumption | exact Go.Proofs.B.shaB_length _ _ | solve_by_elim)) ?_
      refine JL.pure rfl rfl (OpP.assign rfl) ?_
      refine JL.nil ?_
      refine J.ret1 rfl rfl ?_
      exact congrArg Value.bool (decide_eq_true rfl)
  · refine J.seq ?_
    refine J.region ?_
    refine JL.pure rfl rfl (OpP.assign rfl) ?_
    refine JL.nil ?_
    refine J.seq ?_
    refine J.seq ?_
    refine J.region ?_
    refine JL.step rfl rfl (OpW.call (first := []) (captured := []) inferInstance rfl rfl (hA _)) ?_; rintro r6 _ ⟨rfl, rfl⟩
    refine JL.pure rfl rfl (OpP.notB rfl) ?_
    refine JL.pure rfl rfl (OpP.move rfl) ?_
    refine JL.pure rfl rfl (OpP.move rfl) ?_
    refine JL.pure rfl rfl (OpP.len rfl rfl) ?_
    refine JL.decT rfl rfl (OpP.gtr rfl rfl) (by omega) ?_
    refine JL.pure rfl rfl (OpP.pickF rfl rfl) ?_
    refine JL.nil ?_
    refine J.condT rfl ?_
    refine J.seq ?_
    refine J.region ?_
    refine JL.step rfl rfl (OpW.call (first := []) (captured := []) inferInstance rfl rfl (hA _)) ?_; rintro r13 _ ⟨rfl, rfl⟩
    refine JL.pure rfl rfl (OpP.assign rfl) ?_
    refine JL.nil ?_
    refine J.ret1 rfl rfl ?_
    rfl
theorem ShaStreams_ok {w0 : World} {v : Value} {ps : List (Value × List UInt8)} {b : List UInt8} {u : Value} {K : Ws} (hA : IsAwake w0 13) (hK : Tab w0 0 64 fun j => w32 (K j)) (hK2 : ∀ i, i < 64 → hexOk constS i (K i) = true)
    (hpl : ps.length ≤ 9223372036854775807) (hp : Parts w0 [] v ps) (hl : b.length ≤ 9223372036854775807) (hr : RdO w0 [] u b.length (bcells b)) :
    FnO Tryd.prog w0 6 [v, u] [] (fun v _ => v = .bool true) := by
  refine FnO.rdF (fun _ h => h) hr fun hr0 => ?_
  obtain ⟨ua, uc, rfl⟩ := hr0.lit
  refine FnO.rdF (fun _ h => h) hp.rd fun hp0 => ?_
  obtain ⟨va, vc, rfl⟩ := hp0.lit
  refine FnO.intro (n := 101) Tryd.func6 rfl rfl rfl ?_
  refine J.seq ?_
  refine J.region ?_
  refine JL.pure rfl rfl (OpP.assign rfl) ?_
  refine JL.nil ?_
  refine J.seq ?_
  refine J.seq ?_
  refine J.region ?_
  refine JL.step rfl rfl (OpW.call (first := []) (captured := []) inferInstance rfl rfl (hA _)) ?_; rintro r10 _ ⟨rfl, rfl⟩
  refine JL.pure rfl rfl (OpP.notB rfl) ?_
  refine JL.pure rfl rfl (OpP.move rfl) ?_
  refine JL.pure rfl rfl (OpP.move rfl) ?_
  refine JL.step rfl rfl (OpW.call (first := []) (captured := []) inferInstance rfl rfl (Few_ok (most := 500) (by omega) hpl (hp.conv (fun _ h => h.none)))) ?_; rintro r14 _ ⟨b1, ⟨rfl, ⟨rfl, h14⟩⟩⟩
  refine JL.pure rfl rfl (OpP.notB rfl) ?_
  refine JL.pure rfl rfl (OpP.pickF rfl rfl) ?_
  refine JL.pure rfl rfl (OpP.move rfl) ?_
  refine JL.splitAt 17 rfl (fun h17 => ?_) (fun h17 => ?_)
  focus
    refine JL.skip rfl rfl ?_
    refine JL.skip rfl rfl ?_
    refine JL.skip rfl rfl ?_
    refine JL.pure rfl rfl (OpP.pickT rfl rfl) ?_
    refine JL.pure rfl rfl (OpP.move rfl) ?_
    refine JL.skip rfl rfl ?_
    refine JL.skip rfl rfl ?_
    refine JL.skip rfl rfl ?_
    refine JL.pure rfl rfl (OpP.pickT rfl rfl) ?_
    refine JL.nil ?_
    refine J.condT rfl ?_
    refine J.seq ?_
    refine J.region ?_
    refine JL.step rfl rfl (OpW.call (first := []) (captured := []) inferInstance rfl rfl (hA _)) ?_; rintro r27 _ ⟨rfl, rfl⟩
    refine JL.pure rfl rfl (OpP.assign rfl) ?_
    refine JL.nil ?_
    refine J.ret1 rfl rfl ?_
  rotate_left 1
  focus
    refine JL.pure rfl rfl (OpP.move rfl) ?_
    refine JL.pure rfl rfl (OpP.len rfl rfl) ?_
    refine JL.dec rfl rfl (OpP.gtr rfl rfl) (fun h20 => ?_) (fun h20 => ?_)
    focus
      refine JL.pure rfl rfl (OpP.pickF rfl rfl) ?_
      refine JL.pure rfl rfl (OpP.move rfl) ?_
      refine JL.skip rfl rfl ?_
      refine JL.skip rfl rfl ?_
      refine JL.skip rfl rfl ?_
      refine JL.pure rfl rfl (OpP.pickT rfl rfl) ?_
      refine JL.nil ?_
      refine J.condT rfl ?_
      refine J.seq ?_
      refine J.region ?_
      refine JL.step rfl rfl (OpW.call (first := []) (captured := []) inferInstance rfl rfl (hA _)) ?_; rintro r27 _ ⟨rfl, rfl⟩
      refine JL.pure rfl rfl (OpP.assign rfl) ?_
      refine JL.nil ?_
      refine J.ret1 rfl rfl ?_
    rotate_left 1
    focus
      refine JL.pure rfl rfl (OpP.pickF rfl rfl) ?_
      refine JL.pure rfl rfl (OpP.move rfl) ?_
      refine JL.pure rfl rfl (OpP.move rfl) ?_
      refine JL.pure rfl rfl (OpP.len rfl rfl) ?_
      refine JL.dec rfl rfl (OpP.gtr rfl rfl) (fun h25 => ?_) (fun h25 => ?_)
      focus
        refine JL.pure rfl rfl (OpP.pickF rfl rfl) ?_
        refine JL.nil ?_
        refine J.condT rfl ?_
        refine J.seq ?_
        refine J.region ?_
        refine JL.step rfl rfl (OpW.call (first := []) (captured := []) inferInstance rfl rfl (hA _)) ?_; rintro r27 _ ⟨rfl, rfl⟩
        refine JL.pure rfl rfl (OpP.assign rfl) ?_
        refine JL.nil ?_
        refine J.ret1 rfl rfl ?_
      rotate_left 1
      focus
        refine JL.pure rfl rfl (OpP.pickF rfl rfl) ?_
        refine JL.nil ?_
        refine J.condF rfl ?_
        refine J.skip ?_
      rotate_left 1
    rotate_left 2
  rotate_left 3
  · rfl
  · rfl
  · rfl
  obtain ⟨hn, _⟩ := h14 (by cases b1 <;> first | rfl | cases h17)
  have hbl : (bcells b).length = b.length * 1 := by rw [bcells_length]; omega
  refine J.seq ?_
  refine J.region ?_
  refine JL.step rfl rfl (OpW.call (first := []) (captured := []) inferInstance rfl rfl (New0_ok (K := K))) ?_; rintro r28 _ ⟨g, ⟨rfl, rfl⟩⟩
  refine JL.pure rfl rfl (OpP.assign rfl) ?_
  refine JL.nil ?_
  refine J.seq ?_
  refine J.region ?_
  refine JL.pure rfl rfl (OpP.assign rfl) ?_
  refine JL.nil ?_
  refine J.seq ?_
  refine J.seq ?_
  refine J.region ?_
  refine JL.pure rfl rfl (OpP.assign rfl) ?_
  refine JL.nil ?_
  refine J.block ?_
  refine J.loopI (fun x : Nat × Value × Value => ps.length - x.1) (fun x => x.1 ≤ ps.length) (fun x => [(7, .int .i64 (x.1 : Nat)), (5, .pointer (some ⟨g, 0, none⟩)), (6, x.2.1), (0, .slice va ps.length vc), (1, .slice ua b.length uc), (4, .bool false)])
    (fun x => [row g 48 (stC K (cat (ps.take x.1)) x.2.2), own 5 1 x.2.2 (stL (cat (ps.take x.1))).length (bcells (stL (cat (ps.take x.1)))), own 5 1 x.2.1 (cat (ps.take x.1)).length (bcells (cat (ps.take x.1)))]) (0, .slice none 0 0, .slice none 0 0) (Nat.zero_le _) (by repeat (first | exact SubEnv.nil | refine SubEnv.cons (by first | rfl | exact congrArg (fun z => some (Value.int .i64 z)) (by omega) | (simp; done)) ?_)) (fun _ h => Own.pick (pre := [_, _, _]) [1, 2, 0] rfl (Own.own_nil (e := 5) (sz := 1) h)) (fun ⟨i, av, sv⟩ hi back => ?_)
  dsimp only at hi back ⊢
  by_cases hlt : i < ps.length
  · obtain ⟨pa, pc, p, hpi, hpv, hpr⟩ := hp.at hlt
    have hct := cat_take hpi
    have hct2 := congrArg List.length hct
    have hcl := cat_take_le ps (i + 1)
    rw [List.length_append] at hct2
    have hpb : (bcells p).length = p.length * 1 := by rw [bcells_length]; omega
    have hc1 : ∀ x, cat [(x, p)] = p := fun x => List.append_nil _
    have hn1 : (cat (ps.take i)).length + (cat [(Value.bool true, p)]).length ≤ 1000000 := by rw [hc1]; omega
    have hap : (cat (ps.take i) ++ p).length = (cat (ps.take i)).length + p.length := List.length_append
    generalize hcc : cat (ps.take (i + 1)) = c1 at *
    generalize cat (ps.take i) = c0 at *
    refine J.lit (.tail .head) fun asv csv esv => ?_; subst esv
    refine J.lit (.tail (.tail .head)) fun aav cav eav => ?_; subst eav
    refine J.seq ?_
    refine J.seq ?_
    refine J.region ?_
    refine JL.pure rfl rfl (OpP.move rfl) ?_
    refine JL.pure rfl rfl (OpP.move rfl) ?_
    refine JL.pure rfl rfl (OpP.len rfl rfl) ?_
    refine JL.decT rfl rfl (OpP.lss rfl rfl) (by omega) ?_
    refine JL.nil ?_
    refine J.condT rfl ?_
    refine J.skip ?_
    refine J.seq ?_
    refine J.block ?_
    refine J.seq ?_
    refine J.region ?_
    refine JL.pure rfl rfl (OpP.move rfl) ?_
    refine JL.pure rfl rfl (OpP.move rfl) ?_
    refine JL.pure rfl rfl (OpP.move rfl) ?_
    obtain ⟨gva, pva, qva, eva, kva, cva⟩ := hp0.pos (by omega); cases eva
    refine JL.pure rfl rfl (OpP.indexAddr rfl rfl (by omega) (by omega)) ?_
    refine JL.read rfl rfl (OpR.load1 rfl (by apply Cells.cell cva (fun _ h => h.none); (case' hv => assumption); (case' ho => omega); done)) ?_
    refine JL.mem rfl rfl (by apply OpM.buildSlice (by rfl) rfl (by rfl); (repeat (first | exact Fills.nil | (apply Fills.cons rfl rfl rfl; (case' hs => ((repeat (first | exact Spl.nil | apply Spl.here | apply Spl.there)); done)))))) ?_; rintro _ _ ⟨b40, rfl, rfl⟩
    refine JL.f2 ?_; refine JL.f2 ?_; refine JL.step rfl rfl (OpW.call (first := []) (captured := []) inferInstance rfl rfl (Write_ok (ps := [(_, p)]) hK (by exact hn1) (by first | assumption | omega | rfl | exact Nat.le_of_ble_eq_true rfl | (simp; omega)) (Parts.row1 .head (hpr.conv fun _ h => h.none) (Nat.le_refl _)))) ?_; rintro r41 _ ⟨s', rfl⟩
    refine JL.lit (.tail .head) fun as' cs' es' => ?_; subst es'
    refine JL.nil ?_
    refine J.seq ?_
    refine J.region ?_
    refine JL.pure rfl rfl (OpP.move rfl) ?_
    refine JL.pure rfl rfl (OpP.move rfl) ?_
    refine JL.pure rfl rfl (OpP.move rfl) ?_
    refine JL.pure rfl rfl (OpP.indexAddr rfl rfl (by omega) (by omega)) ?_
    refine JL.read rfl rfl (OpR.load1 rfl (by apply Cells.cell cva (fun _ h => h.none); (case' hv => assumption); (case' ho => omega); done)) ?_
    refine JL.f3 ?_; refine JL.mem rfl rfl (OpM.appendH rfl (.inl ⟨_, Sl.und inferInstance⟩) (by rfl) rfl rfl (RdO.src (hpr.conv fun _ h => h.none) (by first | assumption | exact fc_length _ _ | (simp; done) | (simp; omega))) (by first | exact bcells_one _ | exact scells_one _ | exact icells_one _ | assumption | exact fc_one fun _ => rfl) (by simp only [maxLen]; omega) (by omega)) ?_; rintro _ _ ⟨⟨a47, c47, rfl⟩, rfl⟩
    refine JL.pure rfl rfl (OpP.assign rfl) ?_
    refine JL.nil ?_
    rw [hc1, ← bcells_app, ← hap, ← hct]
    refine J.seq ?_
    refine J.region ?_
    refine JL.pure rfl rfl (OpP.move rfl) ?_
    refine JL.pure rfl rfl (OpP.nilCheck rfl) ?_
    refine JL.pure rfl rfl (OpP.fieldAddr rfl) ?_
    refine JL.f1 ?_; refine JL.step rfl rfl (OpW.call (first := []) (captured := []) inferInstance rfl rfl (Size_ok (K := K))) ?_; rintro r51 _ ⟨rfl, rfl⟩
    refine JL.pure rfl rfl (OpP.move rfl) ?_
    refine JL.pure rfl rfl (OpP.len rfl rfl) ?_
    refine JL.pure rfl rfl (OpP.convI rfl (by simp [IntKind.min, IntKind.max, IntKind.signed, IntKind.bits] <;> omega) (by simp [IntKind.min, IntKind.max, IntKind.signed, IntKind.bits] <;> omega)) ?_
    refine JL.decF rfl rfl (OpP.neq rfl rfl) (by omega) ?_
    refine JL.pure rfl rfl (OpP.move rfl) ?_
    refine JL.pure rfl rfl (OpP.move rfl) ?_
    refine JL.f2 ?_; refine JL.f1 ?_; refine JL.step rfl rfl (OpW.call (first := []) (captured := []) inferInstance rfl rfl (Sum_ok hK (by omega))) ?_; rintro r58 _ ⟨rfl, rfl⟩
    refine JL.pure rfl rfl (OpP.move rfl) ?_
    refine JL.step rfl rfl (OpW.call (first := []) (captured := []) inferInstance rfl rfl (RefSum_ok hK2 (by omega) (RdO.own (.tail (.tail .head))))) ?_; rintro r60 _ ⟨rfl, rfl⟩
    refine JL.pure rfl rfl (OpP.neBytes rfl rfl (by first | assumption | exact Go.Proofs.B.shaB_length _ _ | solve_by_elim) (by first | assumption | exact Go.Proofs.B.shaB_length _ _ | solve_by_elim)) ?_
    refine JL.pure rfl rfl (OpP.pickF rfl rfl) ?_
    refine JL.nil ?_
    refine J.decAt 62 rfl (fun h62 => ?_) (fun h62 => ?_)
    focus
      refine J.condT rfl ?_
      refine J.seq ?_
      refine J.region ?_
      refine JL.pure rfl rfl (OpP.assign rfl) ?_
      refine JL.nil ?_
      refine J.ret1 rfl rfl ?_
    rotate_left 1
    focus
      refine J.condF rfl ?_
      refine J.skip ?_
      refine J.inBlock ?_
      refine J.region ?_
      refine JL.pure rfl rfl (OpP.move rfl) ?_
      refine JL.pure rfl rfl (OpP.addI rfl rfl (by omega) (by omega)) ?_
      refine JL.pure rfl rfl (OpP.assign rfl) ?_
      refine JL.nil ?_
    rotate_left 1
    · first
        | exact absurd rfl h62
        | exact absurd rfl h61
        | exact absurd rfl h14
    · refine back (i + 1, .slice a47 c1.length c47, .slice as' (stL c1).length cs') (by dsimp only; omega) (by dsimp only; omega) (by repeat (first | exact SubEnv.nil | refine SubEnv.cons (by first | rfl | exact congrArg (fun z => some (Value.int .i64 z)) (by omega) | (simp; done)) ?_)) (fun _ h => ?_)
      rw [hcc] at *
      exact Own.pick (pre := [_, _, _, _]) [0, 1, 2] rfl h
  · have : i = ps.length := by omega
    subst this
    rw [List.take_length]
    clear back
    have hc2 : ∀ x y, cat [(x, b), (y, b)] = b ++ b := fun x y => by show b ++ (b ++ []) = _; rw [List.append_nil]
    have hn2 : (cat ps).length + (cat [(Value.bool true, b), (Value.bool true, b)]).length ≤ 1000000 := by rw [hc2, List.length_append]; omega
    generalize cat ps = c at *
    have hap : (c ++ b ++ b).length = c.length + b.length + b.length := by rw [List.length_append, List.length_append]
    have hcb : (bcells c).length = c.length * 1 := by rw [bcells_length]; omega
    refine J.lit (.tail .head) fun asv csv esv => ?_; subst esv
    refine J.lit (.tail (.tail .head)) fun aav cav eav => ?_; subst eav
    refine J.seq ?_
    refine J.seq ?_
    refine J.region ?_
    refine JL.pure rfl rfl (OpP.move rfl) ?_
    refine JL.pure rfl rfl (OpP.move rfl) ?_
    refine JL.pure rfl rfl (OpP.len rfl rfl) ?_
    refine JL.decF rfl rfl (OpP.lss rfl rfl) (by omega) ?_
    refine JL.nil ?_
    refine J.condF rfl ?_
    refine J.exit rfl ?_
    refine J.seq ?_
    refine J.region ?_
    refine JL.pure rfl rfl (OpP.move rfl) ?_
    refine JL.step rfl rfl (OpW.call (first := []) (captured := []) inferInstance rfl rfl Clone_ok) ?_; rintro r64 _ ⟨g2, ⟨s2, ⟨rfl, rfl⟩⟩⟩
    refine JL.lit (.tail .head) fun as2 cs2 es2 => ?_; subst es2
    refine JL.pure rfl rfl (OpP.assign rfl) ?_
    refine JL.nil ?_
    refine J.seq ?_
    refine J.seq ?_
    refine J.region ?_
    refine JL.pure rfl rfl (OpP.move rfl) ?_
    refine JL.pure rfl rfl (OpP.eqPtrNil rfl rfl) ?_
    refine JL.nil ?_
    refine J.condF rfl ?_
    refine J.skip ?_
    refine J.seq ?_
    refine J.region ?_
    refine JL.pure rfl rfl (OpP.move rfl) ?_
    refine JL.pure rfl rfl (OpP.move rfl) ?_
    refine JL.pure rfl rfl (OpP.move rfl) ?_
    refine JL.mem rfl rfl (by apply OpM.buildSlice (by rfl) rfl (by rfl); (repeat (first | exact Fills.nil | (apply Fills.cons rfl rfl rfl; (case' hs => ((repeat (first | exact Spl.nil | apply Spl.here | apply Spl.there)); done)))))) ?_; rintro _ _ ⟨b70, rfl, rfl⟩
    refine JL.f2 ?_; refine JL.f2 ?_; refine JL.step rfl rfl (OpW.call (first := []) (captured := []) inferInstance rfl rfl (Write_ok (ps := [(_, b), (_, b)]) hK (by exact hn2) (by first | assumption | omega | rfl | exact Nat.le_of_ble_eq_true rfl | (simp; omega)) (Parts.row2 .head (hr.conv fun _ h => h.none) (hr.conv fun _ h => h.none) (Nat.le_refl _)))) ?_; rintro r71 _ ⟨s', rfl⟩
    refine JL.lit (.tail .head) fun as' cs' es' => ?_; subst es'
    refine JL.nil ?_
    refine J.seq ?_
    refine J.region ?_
    refine JL.mem rfl rfl (by apply OpM.buildSlice (by rfl) rfl (by rfl); (repeat (first | exact Fills.nil | (apply Fills.cons rfl rfl rfl; (case' hs => ((repeat (first | exact Spl.nil | apply Spl.here | apply Spl.there)); done)))))) ?_; rintro _ _ ⟨b72, rfl, rfl⟩
    refine JL.pure rfl rfl (OpP.move rfl) ?_
    refine JL.ownRow (n := 0) (sz := 1) (by decide) rfl ?_
    refine JL.mem rfl rfl (OpM.appendH0 rfl rfl (.inl ⟨_, Sl.und inferInstance⟩) (by rfl) rfl rfl (RdO.src (RdO.own (.tail (.tail (.tail (.tail (.tail (.tail .head))))))) (by first | assumption | exact fc_length _ _ | (simp; done) | (simp; omega))) (by first | exact bcells_one _ | exact scells_one _ | exact icells_one _ | assumption | exact fc_one fun _ => rfl) (by simp only [maxLen]; omega) (by omega)) ?_; rintro _ _ ⟨⟨a74, c74, rfl⟩, rfl⟩
    refine JL.pure rfl rfl (OpP.move rfl) ?_
    refine JL.mem rfl rfl (OpM.appendH rfl (.inl ⟨_, Sl.und inferInstance⟩) (by rfl) rfl rfl (RdO.src (hr.conv fun _ h => h.none) (by first | assumption | exact fc_length _ _ | (simp; done) | (simp; omega))) (by first | exact bcells_one _ | exact scells_one _ | exact icells_one _ | assumption | exact fc_one fun _ => rfl) (by simp only [maxLen]; omega) (by omega)) ?_; rintro _ _ ⟨⟨a76, c76, rfl⟩, rfl⟩
    refine JL.pure rfl rfl (OpP.move rfl) ?_
    refine JL.mem rfl rfl (OpM.appendH rfl (.inl ⟨_, Sl.und inferInstance⟩) (by rfl) rfl rfl (RdO.src (hr.conv fun _ h => h.none) (by first | assumption | exact fc_length _ _ | (simp; done) | (simp; omega))) (by first | exact bcells_one _ | exact scells_one _ | exact icells_one _ | assumption | exact fc_one fun _ => rfl) (by simp only [maxLen]; omega) (by omega)) ?_; rintro _ _ ⟨⟨a78, c78, rfl⟩, rfl⟩
    refine JL.pure rfl rfl (OpP.assign rfl) ?_
    refine JL.nil ?_
    rw [hc2, ← List.append_assoc, ← bcells_app, ← bcells_app, ← hap]
    have hm : (c ++ b ++ b).length ≤ 1000 := by rw [hap]; omega
    generalize c ++ b ++ b = d at *
    refine J.seq ?_
    refine J.region ?_
    refine JL.pure rfl rfl (OpP.move rfl) ?_
    refine JL.f2 ?_; refine JL.f2 ?_; refine JL.step rfl rfl (OpW.call (first := []) (captured := []) inferInstance rfl rfl (Sum_ok (all := d) hK (by omega))) ?_; rintro r80 _ ⟨rfl, rfl⟩
    refine JL.pure rfl rfl (OpP.move rfl) ?_
    refine JL.step rfl rfl (OpW.call (first := []) (captured := []) inferInstance rfl rfl (RefSum_ok (text := d) hK2 (by omega) (RdO.own (.tail (.tail .head))))) ?_; rintro r82 _ ⟨rfl, rfl⟩
    refine JL.pure rfl rfl (OpP.eqBytes rfl rfl (by first | assumption | exact Go.Proofs.B.shaB_length _ _ | solve_by_elim) (by first | assumption | exact Go.Proofs.B.shaB_length _ _ | solve_by_elim)) ?_
    refine JL.pure rfl rfl (OpP.move rfl) ?_
    refine JL.decAt 84 rfl (fun h84 => ?_) (fun h84 => ?_)
    focus
      refine JL.pure rfl rfl (OpP.move rfl) ?_
      refine JL.f5 ?_; refine JL.f5 ?_; refine JL.step rfl rfl (OpW.call (first := []) (captured := []) inferInstance rfl rfl (Sum_ok (all := c) hK (by omega))) ?_; rintro r86 _ ⟨rfl, rfl⟩
      refine JL.pure rfl rfl (OpP.move rfl) ?_
      refine JL.step rfl rfl (OpW.call (first := []) (captured := []) inferInstance rfl rfl (RefSum_ok (text := c) hK2 (by omega) (RdO.own (.tail (.tail (.tail (.tail (.tail (.tail .head))))))))) ?_; rintro r88 _ ⟨rfl, rfl⟩
      refine JL.pure rfl rfl (OpP.eqBytes rfl rfl (by first | assumption | exact Go.Proofs.B.shaB_length _ _ | solve_by_elim) (by first | assumption | exact Go.Proofs.B.shaB_length _ _ | solve_by_elim)) ?_
      refine JL.pure rfl rfl (OpP.pickT rfl rfl) ?_
      refine JL.pure rfl rfl (OpP.move rfl) ?_
      refine JL.decAt 91 rfl (fun h91 => ?_) (fun h91 => ?_)
      focus
        refine JL.pure rfl rfl (OpP.move rfl) ?_
        refine JL.pure rfl rfl (OpP.nilCheck rfl) ?_
        refine JL.pure rfl rfl (OpP.fieldAddr rfl) ?_
        refine JL.f2 ?_; refine JL.step rfl rfl (OpW.call (first := []) (captured := []) inferInstance rfl rfl (Size_ok (K := K))) ?_; rintro r95 _ ⟨rfl, rfl⟩
        refine JL.pure rfl rfl (OpP.move rfl) ?_
        refine JL.pure rfl rfl (OpP.len rfl rfl) ?_
        refine JL.pure rfl rfl (OpP.convI rfl (by simp [IntKind.min, IntKind.max, IntKind.signed, IntKind.bits] <;> omega) (by simp [IntKind.min, IntKind.max, IntKind.signed, IntKind.bits] <;> omega)) ?_
        refine JL.decT rfl rfl (OpP.eql rfl rfl) (by omega) ?_
        refine JL.pure rfl rfl (OpP.pickT rfl rfl) ?_
        refine JL.pure rfl rfl (OpP.assign rfl) ?_
        refine JL.nil ?_
        refine J.ret1 rfl rfl ?_
      rotate_left 1
      focus
        refine JL.skip rfl rfl ?_
        refine JL.skip rfl rfl ?_
        refine JL.skip rfl rfl ?_
        refine JL.skip rfl rfl ?_
        refine JL.skip rfl rfl ?_
        refine JL.skip rfl rfl ?_
        refine JL.skip rfl rfl ?_
        refine JL.skip rfl rfl ?_
        refine JL.pure rfl rfl (OpP.pickF rfl rfl) ?_
        refine JL.pure rfl rfl (OpP.assign rfl) ?_
        refine JL.nil ?_
        refine J.ret1 rfl rfl ?_
      rotate_left 1
    rotate_left 2
    focus
      refine JL.skip rfl rfl ?_
      refine JL.skip rfl rfl ?_
      refine JL.skip rfl rfl ?_
      refine JL.skip rfl rfl ?_
      refine JL.skip rfl rfl ?_
      refine JL.pure rfl rfl (OpP.pickF rfl rfl) ?_
      refine JL.pure rfl rfl (OpP.move rfl) ?_
      refine JL.skip rfl rfl ?_
      refine JL.skip rfl rfl ?_
      refine JL.skip rfl rfl ?_
      refine JL.skip rfl rfl ?_
      refine JL.skip rfl rfl ?_
      refine JL.skip rfl rfl ?_
      refine JL.skip rfl rfl ?_
      refine JL.skip rfl rfl ?_
      refine JL.pure rfl rfl (OpP.pickF rfl rfl) ?_
      refine JL.pure rfl rfl (OpP.assign rfl) ?_
      refine JL.nil ?_
      refine J.ret1 rfl rfl ?_
    rotate_left 1
    all_goals first
      | rfl
      | exact absurd rfl h84
      | exact absurd rfl h91
      | exact absurd rfl h90
      | exact absurd rfl h83
theorem awakeSha {W : World} (hK : Tab W 0 64 fun j => w32 (Kc j)) : IsAwake W 13 := fun _ => Awake_ok hK
theorem ShaCuts_law {W : World} {a : Option Addr} {n c : Nat} {m : Int} (hK : Tab W 0 64 fun j => w32 (Kc j)) (h : Fm Tryd.prog W 29 [.slice a n c]) (hm : (Lit.int .u16 m).wf = true) :
    Calls Tryd.prog 4 #[.slice a n c, .int .u16 m] W fun e w' => e = .returned (.bool true) ∧ Below W.heap.size W w' := by
  obtain ⟨b, hl, hr⟩ := h.bytes Tryd.underlying29 Tryd.underlying5 (by kernel_rfl)
  have hs := h.shapeOf Tryd.underlying29
  obtain ⟨a', c', e⟩ := hr.lit
  cases e
  simp [Lit.wf, IntKind.min, IntKind.max, IntKind.signed, IntKind.bits] at hm
  exact FnO.law (args := [.slice a b.length c, .int .u16 m]) (ShaCuts_ok (awakeSha hK) hK hm.1 hm.2 hl hs hr.o) (Own.nil W)
theorem ShaOwn_law {W : World} {a : Option Addr} {n c : Nat} (hK : Tab W 0 64 fun j => w32 (Kc j)) (h : Fm Tryd.prog W 29 [.slice a n c]) :
    Calls Tryd.prog 5 #[.slice a n c] W fun e w' => e = .returned (.bool true) ∧ Below W.heap.size W w' := by
  obtain ⟨b, hl, hr⟩ := h.bytes Tryd.underlying29 Tryd.underlying5 (by kernel_rfl)
  exact FnO.law (args := [.slice a n c]) (ShaOwn_ok (awakeSha hK) hK hexKc hl hr.o) (Own.nil W)
theorem ShaStreams_law {W : World} {a a2 : Option Addr} {n c n2 c2 : Nat} (hK : Tab W 0 64 fun j => w32 (Kc j)) (h : Fm Tryd.prog W 22 [.slice a n c]) (h2 : Fm Tryd.prog W 29 [.slice a2 n2 c2]) :
    Calls Tryd.prog 6 #[.slice a n c, .slice a2 n2 c2] W fun e w' => e = .returned (.bool true) ∧ Below W.heap.size W w' := by
  obtain ⟨ps, hpl, _, hp⟩ := Fm.parts Tryd.underlying22 Tryd.underlying29 Tryd.underlying5 (by kernel_rfl) (by kernel_rfl) h
  obtain ⟨b, hl, hr⟩ := h2.bytes Tryd.underlying29 Tryd.underlying5 (by kernel_rfl)
  exact FnO.law (args := [.slice a n c, .slice a2 n2 c2]) (ShaStreams_ok (awakeSha hK) hK hexKc hpl hp hl hr.o) (Own.nil W)
theorem Fm.hash {P : Program} {w : World} {t e n : Nat} {cs : List Value} (ht : P.underlying t = some (.array n e)) (he : P.underlying e = some (.int .u8)) (hc : P.cellsOf e = 1) (hct : P.cellsOf t = n) (h : Fm P w t cs) : ∃ p : List UInt8, p.length = n ∧ cs = bcells p := by
  obtain ⟨hl, hf⟩ := h.array ht
  rw [hct] at hl
  have key : ∀ k, k ≤ n → ∃ p : List UInt8, p.length = k ∧ cs.take k = bcells p := by
    intro k
    induction k with
    | zero => exact fun _ => ⟨[], rfl, by rw [List.take_zero]; rfl⟩
    | succ k ih =>
      intro hk
      obtain ⟨p, h1, h2⟩ := ih (by omega)
      obtain ⟨c, h3⟩ := (hf k (by omega)).byte he
      rw [hc, Nat.mul_one] at h3
      refine ⟨p ++ [c], by simp [h1], ?_⟩
      rw [List.take_add, h2, h3, bcells_app]
      rfl
  obtain ⟨p, h1, h2⟩ := key n (Nat.le_refl _)
  exact ⟨p, h1, by rw [← h2, List.take_of_length_le (by omega)]⟩
theorem ShaLinks_law {W : World} {cs : Array Value} {a : Option Addr} {n c : Nat} (hK : Tab W 0 64 fun j => w32 (Kc j)) (hh : Fm Tryd.prog W 26 cs.toList) (h : Fm Tryd.prog W 29 [.slice a n c]) :
    Calls Tryd.prog 7 #[.agg cs, .slice a n c] W fun e w' => e = .returned (.bool true) ∧ Below W.heap.size W w' := by
  obtain ⟨p, hp, e⟩ := Fm.hash Tryd.underlying26 Tryd.underlying5 (by kernel_rfl) (by kernel_rfl) hh
  obtain ⟨b, hl, hr⟩ := h.bytes Tryd.underlying29 Tryd.underlying5 (by kernel_rfl)
  obtain rfl : cs = (bcells p).toArray := by rw [← e]
  exact FnO.law (args := [.agg (bcells p).toArray, .slice a n c]) (ShaLinks_ok hK hp hl hr.o) (Own.nil W)
end Go.Proofs.B
