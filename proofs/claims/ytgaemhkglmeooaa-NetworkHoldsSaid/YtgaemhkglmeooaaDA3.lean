/- A text of the proof of a statement about the given program: its part DA3. No person has read it. -/
import Derived.Test.YtgaemhkglmeooaaDA2
import Derived.Test.YtgaemhkglmeooaaDJ2
-- seat d
namespace Go.Proofs.D
open Go Go.Gp Go.RowKit

/-! The network. -/
abbrev zeroE : Ex := .mk noS noS noS ⟨0, 0, [], [], none, 0⟩ [] none 0
theorem zeroE_tr {w0 : World} : Tr w0 zeroE :=
  .mk (by decide) (by decide) (by decide) (fun l => ⟨by decide, by simp [Ex.v], by simp [Ex.v], (Rd.o (.inl ⟨_, _, rfl, rfl, rfl⟩))⟩) (fun l => (Rd.o (.inl ⟨_, _, rfl, rfl, rfl⟩))) (by decide) (by simp [Ex.ps])
noncomputable def ruleA (ns : List Nd) (l : List Ex) : List Nd × Int := rowN 2 (ns, 0) (ofS l 2)
noncomputable def ruleB (ns : List Nd) (l : List Ex) : List Nd × Int := rowN 3 ((ruleA ns l).1, 1) (ofS l 3)
noncomputable def ruleJ (ns : List Nd) (l : List Ex) : Nd := ⟨4, (ruleA ns l).2, (ruleB ns l).2, zeroE⟩
noncomputable def ruleC (ns : List Nd) (l : List Ex) : List Nd × Int := (nodeN (ruleB ns l).1 (ruleJ ns l), (place (ruleB ns l).1 (ruleJ ns l) : Nat))
noncomputable def ruleN (ns : List Nd) (l : List Ex) : List Nd × Int := rowN 5 (ruleC ns l) (ofS l 5)
theorem rule_len (ns : List Nd) {l : List Ex} (hl : l.length ≤ 120) : ns.length ≤ (ruleA ns l).1.length ∧ (ruleA ns l).1.length ≤ ns.length + 120 ∧ (ruleB ns l).1.length ≤ ns.length + 240 ∧ (ruleA ns l).1.length ≤ (ruleB ns l).1.length ∧ (ruleC ns l).1.length ≤ ns.length + 241 ∧ (ruleB ns l).1.length ≤ (ruleC ns l).1.length ∧ (ruleN ns l).1.length ≤ ns.length + 361 ∧ (ruleC ns l).1.length ≤ (ruleN ns l).1.length := by
  have h1 := rowN_len 2 (ofS l 2) (ns, 0)
  have h2 := rowN_len 3 (ofS l 3) ((ruleA ns l).1, 1)
  have h3 := nodeN_len (ruleB ns l).1 (ruleJ ns l)
  have h4 := rowN_len 5 (ofS l 5) (ruleC ns l)
  have k2 := ofS_len l 2
  have k3 := ofS_len l 3
  have k5 := ofS_len l 5
  rw [← ruleA] at h1
  rw [← ruleB] at h2
  rw [← ruleN] at h4
  rw [show nodeN (ruleB ns l).1 (ruleJ ns l) = (ruleC ns l).1 from rfl] at h3
  dsimp only at h1 h2 h3 h4
  omega
theorem rule_tr {w0 : World} {ns : List Nd} {l : List Ex} (ht : ∀ y ∈ ns, Tr w0 y.t) (hx : ∀ e ∈ l, Tr w0 e) : (∀ y ∈ (ruleA ns l).1, Tr w0 y.t) ∧ (∀ y ∈ (ruleB ns l).1, Tr w0 y.t) ∧ (∀ y ∈ (ruleC ns l).1, Tr w0 y.t) ∧ (∀ y ∈ (ruleN ns l).1, Tr w0 y.t) := by
  have h1 : ∀ y ∈ (ruleA ns l).1, Tr w0 y.t := rowN_all (P := fun y => Tr w0 y.t) 2 _ _ ht fun e he _ => hx e (ofS_mem he)
  have h2 : ∀ y ∈ (ruleB ns l).1, Tr w0 y.t := rowN_all (P := fun y => Tr w0 y.t) 3 _ _ h1 fun e he _ => hx e (ofS_mem he)
  have h3 : ∀ y ∈ (ruleC ns l).1, Tr w0 y.t := nodeN_all (P := fun y => Tr w0 y.t) h2 zeroE_tr
  exact ⟨h1, h2, h3, rowN_all (P := fun y => Tr w0 y.t) 5 _ _ h3 fun e he _ => hx e (ofS_mem he)⟩
theorem row_okS {w0 : World} {F : List HProp} {a la : Option Addr} {c lc bm : Nat} {pv : Value} {ns : List Nd} {fr side : Int} {l : List Ex} {S : List Nd × Int} (hS : rowN side (ns, fr) (ofS l side) = S) (hl : ns.length ≤ 80000) (hl2 : l.length ≤ 1000) (ht : ∀ y ∈ ns, Tr w0 y.t) (hx : ∀ e ∈ l, Tr w0 e) (hr : RdO w0 F (.slice la l.length lc) l.length (l.flatMap xcl)) :
    FnO Try.prog w0 35 [.pointer (some ⟨bm, 0, none⟩), .int .i64 fr, .int .i64 side, .slice la l.length lc] (row bm 65 [.slice a ns.length c, pv] :: own 45 11 (.slice a ns.length c) ns.length (ns.flatMap ncl) :: F)
      (fun u l' => ∃ a' c', u = .int .i64 S.2 ∧ l' = row bm 65 [.slice a' S.1.length c', pv] :: own 45 11 (.slice a' S.1.length c') S.1.length (S.1.flatMap ncl) :: F) := by
  subst hS
  exact row_ok hl hl2 ht hx hr
theorem node_okS {w0 : World} {F : List HProp} {a : Option Addr} {c bm : Nat} {pv : Value} {ns : List Nd} {x : Nd} {S : List Nd × Int} (hS : (nodeN ns x, ((place ns x : Nat) : Int)) = S) (hl : ns.length ≤ 90000) (ht : ∀ y ∈ ns, Tr w0 y.t) (hx : Tr w0 x.t) :
    FnO Try.prog w0 36 [.pointer (some ⟨bm, 0, none⟩), .agg (ncl x).toArray] (row bm 65 [.slice a ns.length c, pv] :: own 45 11 (.slice a ns.length c) ns.length (ns.flatMap ncl) :: F)
      (fun u l' => ∃ a' c', u = .int .i64 S.2 ∧ l' = row bm 65 [.slice a' S.1.length c', pv] :: own 45 11 (.slice a' S.1.length c') S.1.length (S.1.flatMap ncl) :: F) := by
  subst hS
  exact node_ok hl ht hx
abbrev u13 (permit : Bool) (name : Str) (hasIf : Bool) (e : Ex) (da : Option Addr) (dn dc : Nat) (aa : Option Addr) (an ac : Nat) : List Value := [.bool permit, .string name, .bool hasIf, .string e.op, .int .i64 e.v.k, .int .i64 e.v.i, .string (strB e.v.s), .slice e.v.a e.v.xs.length e.v.c, .string e.who, .string e.name, .slice e.a e.ps.length e.c, .slice da dn dc, .slice aa an ac]
theorem rule_ok {w0 : World} {F : List HProp} {a : Option Addr} {c bm : Nat} {pv : Value} {ns : List Nd} {p : Po} {r : Ru} (hl : ns.length ≤ 70000) (ht : ∀ y ∈ ns, Tr w0 y.t) (hpe : Tr w0 p.e) (hu : Tr w0 r.e) :
    FnO Try.prog w0 25 [.pointer (some ⟨bm, 0, none⟩), .agg (pcl p).toArray, .agg (ucl r).toArray] (row bm 65 [.slice a ns.length c, pv] :: own 45 11 (.slice a ns.length c) ns.length (ns.flatMap ncl) :: F)
      (fun u l' => ∃ a' c' ra rc, u = .agg #[.int .i64 0, .int .i64 0, .int .i64 (ruleN ns (all p r)).2, .slice ra (ofS (all p r) 6).length rc] ∧ l' = row bm 65 [.slice a' (ruleN ns (all p r)).1.length c', pv] :: own 45 11 (.slice a' (ruleN ns (all p r)).1.length c') (ruleN ns (all p r)).1.length ((ruleN ns (all p r)).1.flatMap ncl) :: own 27 8 (.slice ra (ofS (all p r) 6).length rc) (ofS (all p r) 6).length ((ofS (all p r) 6).flatMap xcl) :: F) := by
  have hal := all_tr hpe hu
  have hrl := rule_len ns hal.2
  have hrt := rule_tr ht hal.1
  obtain ⟨hx, hal⟩ := hal
  obtain ⟨rt1, rt2, rt3, rt4⟩ := hrt
  have d1 := fun (G : List HProp) => conj_ok (F := G) hpe
  have d2 := fun (G : List HProp) => conj_ok (F := G) hu
  have o1 := xcls_one (es := conj p.e)
  have hl1 := chunk8 (conj p.e)
  have c1 : (conj p.e).length ≤ 60 := by
    have c1 := (conj_all hpe).2.2
    cases hpe; omega
  have o2 := xcls_one (es := conj r.e)
  have hl2 := chunk8 (conj r.e)
  have c2' : (conj r.e).length ≤ 60 := by
    have c1 := (conj_all hu).2.2
    cases hu; omega
  have hall : all p r = (if p.hasFor = true then conj p.e else []) ++ (if r.hasIf = true then conj r.e else []) := rfl
  generalize all p r = l at *
  obtain ⟨name, by_, use2, hasFor, e, rs, a2, c2⟩ := p
  obtain ⟨permit, name3, hasIf, e3, da, dn, dc, aa, an, ac⟩ := r
  dsimp only at *
  have hlen : ∀ p ∈ l, (xcl p).length = 8 := fun _ _ => rfl
  refine FnO.weak ?_
  change FnO Try.prog w0 25 [.pointer (some ⟨bm, 0, none⟩), .agg (pc13 name by_ use2 hasFor e a2 rs.length c2).toArray, .agg (u13 permit name3 hasIf e3 da dn dc aa an ac).toArray] _ _
  refine FnO.intro (n := 59) Try.func25 rfl rfl rfl ?_
  generalize h1 : (if hasFor = true then conj e else []) = l1 at *
  generalize h2 : (if hasIf = true then conj e3 else []) = l2 at *
  have hl12 : l.length = l1.length + l2.length := by rw [hall, List.length_append]
  have hll2 : l1.length ≤ 60 ∧ l2.length ≤ 60 := by
    rw [← h1, ← h2]
    constructor <;> split <;> (try simp) <;> omega
  refine J.seq ?_
  refine J.region ?_
  refine JL.mem rfl rfl (OpM.box rfl rfl) ?_; rintro _ _ ⟨b4, rfl, rfl⟩
  refine JL.mem rfl rfl (OpM.box rfl rfl) ?_; rintro _ _ ⟨b5, rfl, rfl⟩
  refine JL.mem rfl rfl OpM.alloc ?_; rintro _ _ ⟨b6, rfl, rfl⟩
  refine JL.nil ?_
  refine J.seq ?_
  refine J.region ?_
  refine JL.pure rfl rfl (OpP.assign rfl) ?_
  refine JL.nil ?_
  refine J.seq ?_
  refine J.cut (σ := Option Addr × Nat) (fun _ => True) (fun s => [(7, .slice s.1 l1.length s.2), (6, .pointer (some ⟨b6, 0, none⟩)), (5, .pointer (some ⟨b5, 0, none⟩)), (4, .pointer (some ⟨b4, 0, none⟩)), (0, .pointer (some ⟨bm, 0, none⟩))])
    (fun s => own 27 8 (.slice s.1 l1.length s.2) l1.length (l1.flatMap xcl) :: row b6 48 [.int .i64 0, .int .i64 0, .int .i64 0, .slice none 0 0] :: row b5 62 (u13 permit name3 hasIf e3 da dn dc aa an ac) :: row bm 65 [.slice a ns.length c, pv] :: own 45 11 (.slice a ns.length c) ns.length (ns.flatMap ncl) :: F) (fun ⟨sa, sc⟩ _ => ?_) (fun k' go => ?_)
  rotate_left
  · cases hasFor
    · rw [if_neg (by decide)] at h1
      subst h1
      refine J.seq ?_
      refine J.region ?_
      refine JL.pure rfl rfl (OpP.fieldAddr rfl) ?_
      refine JL.read rfl rfl (OpR.load1 rfl (Cell.row (.tail (.tail .head)) rfl)) ?_
      refine JL.nil ?_
      refine J.condF rfl ?_
      refine J.skip ?_
      exact go (none, 0) trivial (by repeat (first | exact SubEnv.nil | refine SubEnv.cons (by first | rfl | exact congrArg (fun z => some (Value.int .i64 z)) (by omega) | (simp; done)) ?_)) (fun _ h => Own.own_nil (Own.pick (pre := [_, _, _]) [0, 1] rfl h))
    · rw [if_pos rfl] at h1
      subst h1
      refine J.seq ?_
      refine J.region ?_
      refine JL.pure rfl rfl (OpP.fieldAddr rfl) ?_
      refine JL.read rfl rfl (OpR.load1 rfl (Cell.row (.tail (.tail .head)) rfl)) ?_
      refine JL.nil ?_
      refine J.condT rfl ?_
      refine J.region ?_
      refine JL.pure rfl rfl (OpP.fieldAddr rfl) ?_
      refine JL.read rfl rfl (OpR.loadN rfl (Cells.sub 8 (.tail (.tail .head)) rfl) rfl) ?_
      refine JL.step rfl rfl (OpW.call (first := []) (captured := []) inferInstance rfl rfl (d1 _)) ?_; rintro r18 _ ⟨a1, ⟨c3, ⟨rfl, rfl⟩⟩⟩
      refine JL.pure rfl rfl (OpP.assign rfl) ?_
      refine JL.nil ?_
      exact go (_, _) trivial (by repeat (first | exact SubEnv.nil | refine SubEnv.cons (by first | rfl | exact congrArg (fun z => some (Value.int .i64 z)) (by omega) | (simp; done)) ?_)) (fun _ h => Own.pick (pre := [_, _, _, _]) [0, 1, 2] rfl h)
  refine J.seq ?_
  refine J.cut (σ := Option Addr × Nat) (fun _ => True) (fun s => [(7, .slice s.1 l.length s.2), (6, .pointer (some ⟨b6, 0, none⟩)), (0, .pointer (some ⟨bm, 0, none⟩))])
    (fun s => row b6 48 [.int .i64 0, .int .i64 0, .int .i64 0, .slice none 0 0] :: row bm 65 [.slice a ns.length c, pv] :: own 45 11 (.slice a ns.length c) ns.length (ns.flatMap ncl) :: own 27 8 (.slice s.1 l.length s.2) l.length (l.flatMap xcl) :: F) (fun ⟨ta, tc⟩ _ => ?_) (fun k' go => ?_)
  rotate_left
  · cases hasIf
    · rw [if_neg (by decide)] at h2
      subst h2
      rw [List.append_nil] at hall
      subst hall
      refine J.seq ?_
      refine J.region ?_
      refine JL.pure rfl rfl (OpP.fieldAddr rfl) ?_
      refine JL.read rfl rfl (OpR.load1 rfl (Cell.row (.tail (.tail .head)) rfl)) ?_
      refine JL.nil ?_
      refine J.condF rfl ?_
      refine J.skip ?_
      exact go (_, _) trivial (by repeat (first | exact SubEnv.nil | refine SubEnv.cons (by first | rfl | exact congrArg (fun z => some (Value.int .i64 z)) (by omega) | (simp; done)) ?_)) (fun _ h => Own.pick (pre := [_, _, _, _, _]) [1, 3, 4, 0] rfl h)
    · rw [if_pos rfl] at h2
      subst h2
      subst hall
      rw [List.length_append, List.flatMap_append] at go
      refine J.seq ?_
      refine J.region ?_
      refine JL.pure rfl rfl (OpP.fieldAddr rfl) ?_
      refine JL.read rfl rfl (OpR.load1 rfl (Cell.row (.tail (.tail .head)) rfl)) ?_
      refine JL.nil ?_
      refine J.condT rfl ?_
      refine J.region ?_
      refine JL.pure rfl rfl (OpP.move rfl) ?_
      refine JL.pure rfl rfl (OpP.fieldAddr rfl) ?_
      refine JL.read rfl rfl (OpR.loadN rfl (Cells.sub 8 (.tail (.tail .head)) rfl) rfl) ?_
      refine JL.step rfl rfl (OpW.call (first := []) (captured := []) inferInstance rfl rfl (d2 _)) ?_; rintro r24 _ ⟨a1, ⟨c3, ⟨rfl, rfl⟩⟩⟩
      refine JL.f1 ?_; refine JL.mem rfl rfl (OpM.appendH rfl (.inl ⟨_, Sl.und inferInstance⟩) (by rfl) rfl rfl (RdO.src (RdO.own (.tail .head)) (by first | assumption | exact fc_length _ _ | (simp; done) | (simp; omega))) (by first | exact bcells_one _ | exact scells_one _ | exact icells_one _ | assumption | exact fc_one fun _ => rfl) (by simp only [maxLen]; omega) (by omega)) ?_; rintro _ _ ⟨⟨a25, c25, rfl⟩, rfl⟩
      refine JL.pure rfl rfl (OpP.assign rfl) ?_
      refine JL.nil ?_
      refine go (a25, c25) trivial ?_ (fun _ h => Own.pick (pre := [_, _, _, _, _, _]) [2, 4, 5, 0] rfl h)
      exact (by repeat (first | exact SubEnv.nil | refine SubEnv.cons (by first | rfl | exact congrArg (fun z => some (Value.int .i64 z)) (by omega) | (simp; done)) ?_))
  dsimp only
  refine J.seq ?_
  refine J.region ?_
  refine JL.pure rfl rfl (OpP.move rfl) ?_
  refine JL.pure rfl rfl (OpP.move rfl) ?_
  refine JL.f3 ?_; refine JL.f1 ?_; refine JL.f3 ?_; refine JL.f3 ?_; refine JL.step rfl rfl (OpW.call (first := []) (captured := []) inferInstance rfl rfl (row_okS (S := ruleA ns l) (ns := ns) (fr := 0) (side := 2) (l := l) rfl (by omega) (by omega) ht hx (RdO.own (.tail .head)))) ?_; rintro r28 _ ⟨a', ⟨c', ⟨rfl, rfl⟩⟩⟩
  refine JL.pure rfl rfl (OpP.assign rfl) ?_
  refine JL.nil ?_
  refine J.seq ?_
  refine J.region ?_
  refine JL.pure rfl rfl (OpP.move rfl) ?_
  refine JL.pure rfl rfl (OpP.move rfl) ?_
  refine JL.step rfl rfl (OpW.call (first := []) (captured := []) inferInstance rfl rfl (row_okS (S := ruleB ns l) (ns := (ruleA ns l).1) (fr := 1) (side := 3) (l := l) rfl (by omega) (by omega) rt1 hx (RdO.own (.tail .head)))) ?_; rintro r31 _ ⟨a'1, ⟨c'1, ⟨rfl, rfl⟩⟩⟩
  refine JL.pure rfl rfl (OpP.assign rfl) ?_
  refine JL.nil ?_
  refine J.seq ?_
  refine J.region ?_
  refine JL.pure rfl rfl (OpP.move rfl) ?_
  refine JL.pure rfl rfl (OpP.move rfl) ?_
  refine JL.pure rfl rfl (OpP.move rfl) ?_
  refine JL.pure rfl rfl (OpP.build rfl (by (repeat (first | exact Fills.nil | (apply Fills.cons rfl rfl rfl; (case' hs => ((repeat (first | exact Spl.nil | apply Spl.here | apply Spl.there)); done))))))) ?_
  refine JL.step rfl rfl (OpW.call (first := []) (captured := []) inferInstance rfl rfl (node_okS (S := ruleC ns l) (x := ruleJ ns l) rfl (by omega) rt2 zeroE_tr)) ?_; rintro r36 _ ⟨a'2, ⟨c'2, ⟨rfl, rfl⟩⟩⟩
  refine JL.pure rfl rfl (OpP.assign rfl) ?_
  refine JL.nil ?_
  have o6 := fun j : Nat => ofS_len (l.take j) 6
  have c5 : ∀ (bm : Nat) (G : List HProp) (a : Option Addr) (c : Nat), RdO w0 G (.slice ta l.length tc) l.length (l.flatMap xcl) → _ := fun bm G a c hr => row_okS (F := G) (a := a) (c := c) (bm := bm) (pv := pv) (lc := tc) (la := ta) (S := ruleN ns l) (ns := (ruleC ns l).1) (fr := (ruleC ns l).2) (side := 5) (l := l) rfl (by omega) (by omega) rt3 hx hr
  refine J.seq ?_
  refine J.region ?_
  refine JL.pure rfl rfl (OpP.move rfl) ?_
  refine JL.pure rfl rfl (OpP.move rfl) ?_
  refine JL.pure rfl rfl (OpP.move rfl) ?_
  refine JL.step rfl rfl (OpW.call (first := []) (captured := []) inferInstance rfl rfl (c5 _ _ _ _ (RdO.own (.tail .head)))) ?_; rintro r40 _ ⟨a'3, ⟨c'3, ⟨rfl, rfl⟩⟩⟩
  refine JL.pure rfl rfl (OpP.build rfl (by (repeat (first | exact Fills.nil | (apply Fills.cons rfl rfl rfl; (case' hs => ((repeat (first | exact Spl.nil | apply Spl.here | apply Spl.there)); done))))))) ?_
  refine JL.mem rfl rfl OpM.alloc ?_; rintro _ _ ⟨b11, rfl, rfl⟩
  refine JL.mem0 rfl (by apply OpM.storeN rfl rfl (by rfl) (oneC rfl (oneC rfl (oneC rfl (one1 rfl)))); (case' hu => exact .head); (case' hs => exact (.here (.here (.here (.here .nil))))); done) ?_; rintro _ _ ⟨rfl, rfl⟩
  refine JL.nil ?_
  refine J.seq ?_
  refine J.seq ?_
  refine J.region ?_
  refine JL.pure rfl rfl (OpP.move rfl) ?_
  refine JL.pure rfl rfl (OpP.len rfl rfl) ?_
  refine JL.pure rfl rfl (OpP.move rfl) ?_
  refine JL.nil ?_
  refine J.block ?_
  refine J.loopI (σ := Nat × Option Addr × Nat) (fun s => l.length - s.1) (fun s => s.1 ≤ l.length) (fun s => [(44, .int .i64 (s.1 : Nat)), (43, .int .i64 l.length), (42, .slice ta l.length tc), (11, .pointer (some ⟨b11, 0, none⟩)), (6, .pointer (some ⟨b6, 0, none⟩)), (0, .pointer (some ⟨bm, 0, none⟩))])
    (fun s => own 27 8 (.slice s.2.1 (ofS (l.take s.1) 6).length s.2.2) (ofS (l.take s.1) 6).length ((ofS (l.take s.1) 6).flatMap xcl) :: row b11 48 [.int .i64 0, .int .i64 0, .int .i64 (ruleN ns l).2, .slice s.2.1 (ofS (l.take s.1) 6).length s.2.2] :: row b6 48 [.int .i64 0, .int .i64 0, .int .i64 0, .slice none 0 0] :: row bm 65 [.slice a'3 (ruleN ns l).1.length c'3, pv] :: own 45 11 (.slice a'3 (ruleN ns l).1.length c'3) (ruleN ns l).1.length ((ruleN ns l).1.flatMap ncl) :: own 27 8 (.slice ta l.length tc) l.length (l.flatMap xcl) :: F) (0, none, 0) (Nat.zero_le _) (by repeat (first | exact SubEnv.nil | refine SubEnv.cons (by first | rfl | exact congrArg (fun z => some (Value.int .i64 z)) (by omega) | (simp; done)) ?_)) (fun _ h => Own.own_nil (Own.pick (pre := [_, _, _, _, _]) [0, 3, 1, 2, 4] rfl h)) (fun ⟨j, ea, ec⟩ hj back => ?_)
  dsimp only at hj back ⊢
  by_cases hlt : j < l.length
  · obtain ⟨e, hej⟩ : ∃ x, l[j]? = some x := ⟨_, List.getElem?_eq_getElem hlt⟩
    have hem := hx e (List.mem_of_getElem? hej)
    have hof := ofS_take (side := 6) hej
    have hb2 := ofS_len (l.take j) 6
    have hb3 := List.length_take_le j l
    generalize hS : ofS (l.take j) 6 = S at *
    refine J.ownSome (.tail (.tail (.tail (.tail (.tail .head))))) (by omega) fun ga pa ea ka => ?_
    subst ea
    have sd := fun (G : List HProp) => side_ok (F := G) hem
    refine J.seq ?_
    refine J.region ?_
    refine JL.decT rfl rfl (OpP.lss rfl rfl) (by omega) ?_
    refine JL.nil ?_
    refine J.seq ?_
    refine J.condT rfl ?_
    refine J.skip ?_
    refine J.seq ?_
    refine J.block ?_
    refine J.seq ?_
    refine J.region ?_
    refine JL.pure rfl rfl (OpP.indexAddr rfl rfl (by omega) (by omega)) ?_
    refine JL.read rfl rfl (OpR.loadN rfl (by apply Cells.chunkAt (Cells.own (.tail (.tail (.tail (.tail (.tail .head)))))); (case' h => assumption); (case' hi => assumption); done) (by first | rfl | assumption)) ?_
    refine JL.mem rfl rfl OpM.alloc ?_; rintro _ _ ⟨b13, rfl, rfl⟩
    refine JL.mem0 rfl (by apply OpM.storeN rfl rfl (by rfl) (oneC rfl (oneC rfl (oneC rfl (oneC rfl (oneC rfl (oneC rfl (oneC rfl (one1 rfl)))))))); (case' hu => exact .head); (case' hs => exact (.here (.here (.here (.here (.here (.here (.here (.here .nil))))))))); done) ?_; rintro _ _ ⟨rfl, rfl⟩
    refine JL.nil ?_
    refine J.seq ?_
    refine J.region ?_
    refine JL.read rfl rfl (OpR.loadN rfl (Cells.full .head) rfl) ?_
    refine JL.step rfl rfl (OpW.call (first := []) (captured := []) inferInstance rfl rfl (sd _)) ?_; rintro r49 _ ⟨rfl, rfl⟩
    refine JL.dec rfl rfl (OpP.eql rfl rfl) (fun h50 => ?_) (fun h50 => ?_)
    focus
      refine JL.nil ?_
      refine J.condT rfl ?_
      refine J.region ?_
      refine JL.pure rfl rfl (OpP.fieldAddr rfl) ?_
      refine JL.read rfl rfl (OpR.load1 rfl (Cell.row (.tail (.tail .head)) rfl)) ?_
      refine JL.read rfl rfl (OpR.loadN rfl (Cells.full .head) rfl) ?_
      refine JL.mem rfl rfl (by apply OpM.buildSlice (by rfl) rfl (by rfl); (repeat (first | exact Fills.nil | (apply Fills.cons rfl rfl rfl; (case' hs => ((repeat (first | exact Spl.nil | apply Spl.here | apply Spl.there)); done)))))) ?_; rintro _ _ ⟨b54, rfl, rfl⟩
      refine JL.f2 ?_; refine JL.mem rfl rfl (OpM.appendH rfl (.inl ⟨_, Sl.und inferInstance⟩) (by rfl) rfl rfl (RdO.src (RdO.ofRow (.tail .head) (by first | exact Nat.le_refl _ | decide | omega)) (by first | assumption | exact fc_length _ _ | (simp; done) | (simp; omega))) (oneC rfl (oneC rfl (oneC rfl (oneC rfl (oneC rfl (oneC rfl (oneC rfl (one1 rfl)))))))) (by simp only [maxLen]; omega) (by omega)) ?_; rintro _ _ ⟨⟨a55, c55, rfl⟩, rfl⟩
      refine JL.pure rfl rfl (OpP.fieldAddr rfl) ?_
      refine JL.mem0 rfl (by apply OpM.store1 rfl rfl rfl; (case' hu => exact (.tail (.tail (.tail .head)))); (case' hs => exact (.there (.there (.there (.here .nil))))); done) ?_; rintro _ _ ⟨rfl, rfl⟩
      refine JL.nil ?_
      refine J.inBlock ?_
      refine J.region ?_
      refine JL.pure rfl rfl (OpP.addI rfl rfl (by omega) (by omega)) ?_
      refine JL.pure rfl rfl (OpP.move rfl) ?_
      refine JL.nil ?_
    rotate_left 1
    focus
      refine JL.nil ?_
      refine J.condF rfl ?_
      refine J.skip ?_
      refine J.inBlock ?_
      refine J.region ?_
      refine JL.pure rfl rfl (OpP.addI rfl rfl (by omega) (by omega)) ?_
      refine JL.pure rfl rfl (OpP.move rfl) ?_
      refine JL.nil ?_
    rotate_left 1
    · have bk := @back (j + 1, a55, c55) (by dsimp only; omega) (by dsimp only; omega)
      dsimp only at bk
      rw [hof, if_pos (by assumption), List.flatMap_append, List.length_append] at bk
      exact bk (by repeat (first | exact SubEnv.nil | refine SubEnv.cons (by first | rfl | exact congrArg (fun z => some (Value.int .i64 z)) (by omega) | (simp; done)) ?_)) (fun _ h => Own.pick (pre := [_, _, _, _, _, _, _, _]) [0, 3, 4, 5, 6, 7] rfl h)
    · have bk := @back (j + 1, ea, ec) (by dsimp only; omega) (by dsimp only; omega)
      dsimp only at bk
      rw [hof, if_neg (by assumption), List.append_nil] at bk
      exact bk (by repeat (first | exact SubEnv.nil | refine SubEnv.cons (by first | rfl | exact congrArg (fun z => some (Value.int .i64 z)) (by omega) | (simp; done)) ?_)) (fun _ h => h.tail)
  · have : j = l.length := by omega
    subst this
    rw [List.take_length]
    refine J.seq ?_
    refine J.region ?_
    refine JL.decF rfl rfl (OpP.lss rfl rfl) (by omega) ?_
    refine JL.nil ?_
    refine J.seq ?_
    refine J.condF rfl ?_
    refine J.exit rfl ?_
    refine J.seq ?_
    refine J.region ?_
    refine JL.read rfl rfl (OpR.loadN rfl (Cells.full (.tail .head)) rfl) ?_
    refine JL.mem0 rfl (by apply OpM.storeN rfl rfl (by rfl) (oneC rfl (oneC rfl (oneC rfl (one1 rfl)))); (case' hu => exact (.tail (.tail .head))); (case' hs => exact (.here (.here (.here (.here .nil))))); done) ?_; rintro _ _ ⟨rfl, rfl⟩
    refine JL.nil ?_
    refine J.retC rfl rfl (by apply Cells.full; (with_reducible repeat (first | exact .head | apply Has.tail))) (by first | (rw [List.length_append, hdC_len (by first | assumption | exact Go.Proofs.B.shaB_length _ _ | solve_by_elim)]; rfl) | exact hdC_len (by first | assumption | exact Go.Proofs.B.shaB_length _ _ | solve_by_elim) | (rw [bcells_length]; first | assumption | exact Go.Proofs.B.shaB_length _ _ | solve_by_elim) | exact fc_length _ _ | exact fB_length _ _ | rfl) ?_
    exact ⟨_, ⟨a'3, c'3, ea, ec, rfl, rfl⟩, fun _ h => Own.pick (pre := [_, _, _, _, _, _]) [3, 4, 0] rfl h⟩
end Go.Proofs.D

-- seat d
namespace Go.Proofs.D
open Go Go.Gp Go.RowKit

structure Pr where
  i : Nat
  k : Nat
  node : Int
  rest : List Ex
  a : Option Addr
  c : Nat
abbrev prcl (p : Pr) : List Value := [.int .i64 (p.i : Nat), .int .i64 (p.k : Nat), .int .i64 p.node, .slice p.a p.rest.length p.c]
abbrev PP := Nat × Nat × Int × List Ex
def Pr.pure (p : Pr) : PP := (p.i, p.k, p.node, p.rest)
abbrev restL (p : Pr) : HProp := own 27 8 (.slice p.a p.rest.length p.c) p.rest.length (p.rest.flatMap xcl)
/-- The rests of all ends. -/
def rests (ps : List Pr) : HProp := hall (ps.map restL)
theorem rests_nil {w0 w : World} {F : List HProp} (h : Own w0 w F) : Own w0 w (rests [] :: F) := Own.hall_in (ls := []) h
theorem rests_snoc {w0 w : World} {F : List HProp} {ps : List Pr} {p : Pr} (h : Own w0 w (restL p :: rests ps :: F)) : Own w0 w (rests (ps ++ [p]) :: F) := by
  have h2 : Own w0 w (rests ps :: restL p :: F) := h.perm (List.Perm.swap _ _ _)
  have h3 : Own w0 w ((ps ++ [p]).map restL ++ F) := by
    have := h2.hall_out
    simpa using this
  exact h3.hall_in
theorem prcl_one {ps : List Pr} : ∀ u ∈ ps.flatMap prcl, u.oneCell' = true := by
  intro u hu
  obtain ⟨e, _, hu⟩ := List.mem_flatMap.1 hu
  simp only [prcl, List.mem_cons, List.not_mem_nil, or_false] at hu
  rcases hu with rfl | rfl | rfl | rfl <;> rfl
theorem chunk4 (es : List Pr) : (es.flatMap prcl).length = es.length * 4 := chunk_length fun _ _ => rfl

abbrev NetP := List Nd × List PP
noncomputable def polN (i : Nat) (p : Po) (n : NetP) : Nat → NetP
  | 0 => n
  | k + 1 => match p.rs[k]? with
    | some r => ((ruleN (polN i p n k).1 (all p r)).1, (polN i p n k).2 ++ [(i, k, (ruleN (polN i p n k).1 (all p r)).2, ofS (all p r) 6)])
    | none => polN i p n k
noncomputable def docN (d : Dc) : Nat → NetP
  | 0 => ([⟨0, 0, 0, zeroE⟩, ⟨1, 0, 0, zeroE⟩], [])
  | i + 1 => match d.ps[i]? with
    | some p => polN i p (docN d i) p.rs.length
    | none => docN d i
/-- A document's network. -/
noncomputable def netN (d : Dc) : NetP := docN d d.ps.length
theorem polN_succ {i : Nat} {p : Po} {n : NetP} {k : Nat} {r : Ru} (h : p.rs[k]? = some r) : polN i p n (k + 1) = ((ruleN (polN i p n k).1 (all p r)).1, (polN i p n k).2 ++ [(i, k, (ruleN (polN i p n k).1 (all p r)).2, ofS (all p r) 6)]) := by rw [polN, h]
theorem docN_succ {d : Dc} {i : Nat} {p : Po} (h : d.ps[i]? = some p) : docN d (i + 1) = polN i p (docN d i) p.rs.length := by rw [docN, h]
structure NetOk (w0 : World) (n : NetP) (a b : Nat) : Prop where
  l1 : 2 ≤ n.1.length ∧ n.1.length ≤ a
  l2 : n.2.length ≤ b
  t : ∀ y ∈ n.1, Tr w0 y.t
theorem polN_ok {w0 : World} {i : Nat} {p : Po} {n : NetP} {a b : Nat} (hp : PoT w0 p) (h : NetOk w0 n a b) : ∀ k, k ≤ p.rs.length → NetOk w0 (polN i p n k) (a + k * 361) (b + k)
  | 0, _ => by simpa [polN] using h
  | k + 1, hk => by
    have ih := polN_ok (i := i) hp h k (by omega)
    obtain ⟨r, hr⟩ : ∃ r, p.rs[k]? = some r := ⟨_, List.getElem?_eq_getElem (by omega)⟩
    have hal := all_tr hp.e (hp.ru r (List.mem_of_getElem? hr))
    rw [polN_succ hr]
    have hrl := rule_len (polN i p n k).1 hal.2
    obtain ⟨_, _, _, h4⟩ := rule_tr ih.t hal.1
    have := ih.l1
    have := ih.l2
    exact ⟨by dsimp only; omega, by dsimp only; rw [List.length_append, List.length_singleton]; omega, h4⟩
theorem docN_ok {w0 : World} {d : Dc} (hd : DcT w0 d) : ∀ i, i ≤ d.ps.length → NetOk w0 (docN d i) (2 + i * 2888) (i * 8)
  | 0, _ => ⟨by simp [docN], by simp [docN], by
    intro y hy
    simp only [docN, List.mem_cons, List.not_mem_nil, or_false] at hy
    rcases hy with rfl | rfl <;> exact zeroE_tr⟩
  | i + 1, hi => by
    have ih := docN_ok hd i (by omega)
    obtain ⟨p, hp⟩ : ∃ r, d.ps[i]? = some r := ⟨_, List.getElem?_eq_getElem (by omega)⟩
    have hpt := hd.po p (List.mem_of_getElem? hp)
    rw [docN_succ hp]
    have hn := hpt.n
    have := polN_ok (i := i) hpt ih p.rs.length (Nat.le_refl _)
    exact ⟨by have := this.l1; omega, by have := this.l2; omega, this.t⟩
theorem compile_ok {w0 : World} {F : List HProp} {d : Dc} (hd : DcT w0 d) :
    FnO Try.prog w0 16 [.agg (dcl d).toArray] F (fun u l' => ∃ a c pa pc, ∃ ps : List Pr, ps.map Pr.pure = (netN d).2 ∧ u = .agg #[.slice a (netN d).1.length c, .slice pa ps.length pc] ∧ l' = own 45 11 (.slice a (netN d).1.length c) (netN d).1.length ((netN d).1.flatMap ncl) :: own 48 4 (.slice pa ps.length pc) ps.length (ps.flatMap prcl) :: rests ps :: F) := by
  have hn6 := hd.n
  have hdr := hd.hr
  have hdp := hd.po
  have hok := docN_ok hd
  have hsucc := fun (i : Nat) (p : Po) => docN_succ (d := d) (i := i) (p := p)
  rw [show netN d = docN d d.ps.length from rfl]
  have h0 : docN d 0 = ([⟨0, 0, 0, zeroE⟩, ⟨1, 0, 0, zeroE⟩], []) := rfl
  generalize docN d = dN at *
  clear hd
  obtain ⟨fa, fn, fc, use, ps, a, c⟩ := d
  dsimp only at *
  have hlen : ∀ p ∈ ps, (pcl p).length = 13 := fun _ _ => rfl
  refine FnO.rdF (fun _ h => h) (hdr F) fun hr1 => ?_
  refine FnO.weak ?_
  change FnO Try.prog w0 16 [.agg [Value.slice fa fn fc, .string use, .slice a ps.length c].toArray] F _
  refine FnO.intro (n := 57) Try.func16 rfl rfl rfl ?_
  refine J.seq ?_
  refine J.region ?_
  refine JL.mem rfl rfl (OpM.box rfl rfl) ?_; rintro _ _ ⟨b1, rfl, rfl⟩
  refine JL.mem rfl rfl OpM.alloc ?_; rintro _ _ ⟨b2, rfl, rfl⟩
  refine JL.nil ?_
  refine J.seq ?_
  refine J.region ?_
  refine JL.pure rfl rfl (OpP.build rfl (by (repeat (first | exact Fills.nil | (apply Fills.cons rfl rfl rfl; (case' hs => ((repeat (first | exact Spl.nil | apply Spl.here | apply Spl.there)); done))))))) ?_
  refine JL.pure rfl rfl (OpP.build rfl (by (repeat (first | exact Fills.nil | (apply Fills.cons rfl rfl rfl; (case' hs => ((repeat (first | exact Spl.nil | apply Spl.here | apply Spl.there)); done))))))) ?_
  refine JL.mem rfl rfl (by apply OpM.buildSlice (by rfl) rfl (by rfl); (repeat (first | exact Fills.nil | (apply Fills.cons rfl rfl rfl; (case' hs => ((repeat (first | exact Spl.nil | apply Spl.here | apply Spl.there)); done)))))) ?_; rintro _ _ ⟨b11, rfl, rfl⟩
  refine JL.pure rfl rfl (OpP.build rfl (by (repeat (first | exact Fills.nil | (apply Fills.cons rfl rfl rfl; (case' hs => ((repeat (first | exact Spl.nil | apply Spl.here | apply Spl.there)); done))))))) ?_
  refine JL.pure rfl rfl (OpP.build rfl (by (repeat (first | exact Fills.nil | (apply Fills.cons rfl rfl rfl; (case' hs => ((repeat (first | exact Spl.nil | apply Spl.here | apply Spl.there)); done))))))) ?_
  refine JL.mem rfl rfl (OpM.box rfl rfl) ?_; rintro _ _ ⟨b14, rfl, rfl⟩
  refine JL.pure rfl rfl (OpP.assign rfl) ?_
  refine JL.nil ?_
  refine J.seq ?_
  refine J.seq ?_
  refine J.region ?_
  refine JL.pure rfl rfl (OpP.fieldAddr rfl) ?_
  refine JL.read rfl rfl (OpR.load1 rfl (Cell.row (.tail (.tail (.tail .head))) rfl)) ?_
  refine JL.pure rfl rfl (OpP.len rfl rfl) ?_
  refine JL.pure rfl rfl (OpP.move rfl) ?_
  refine JL.nil ?_
  refine J.block ?_
  refine J.loopI (σ := Nat × Option Addr × Nat × Option Addr × Nat × List Pr) (fun s => ps.length - s.1) (fun s => s.1 ≤ ps.length ∧ s.2.2.2.2.2.map Pr.pure = (dN s.1).2)
    (fun s => [(18, .int .i64 (s.1 : Nat)), (17, .int .i64 ps.length), (16, .slice a ps.length c), (3, .pointer (some ⟨b14, 0, none⟩)), (2, .pointer (some ⟨b2, 0, none⟩))])
    (fun s => row b14 65 [.slice s.2.1 (dN s.1).1.length s.2.2.1, .slice s.2.2.2.1 s.2.2.2.2.2.length s.2.2.2.2.1] :: own 45 11 (.slice s.2.1 (dN s.1).1.length s.2.2.1) (dN s.1).1.length ((dN s.1).1.flatMap ncl) :: own 48 4 (.slice s.2.2.2.1 s.2.2.2.2.2.length s.2.2.2.2.1) s.2.2.2.2.2.length (s.2.2.2.2.2.flatMap prcl) :: rests s.2.2.2.2.2 :: row b2 42 [.slice none 0 0, .slice none 0 0] :: F)
    (0, some ⟨b11, 0, none⟩, 2, none, 0, []) ⟨Nat.zero_le _, by rw [h0]; rfl⟩ (by repeat (first | exact SubEnv.nil | refine SubEnv.cons (by first | rfl | exact congrArg (fun z => some (Value.int .i64 z)) (by omega) | (simp; done)) ?_)) (fun _ h => ?_) (fun ⟨i, na, nc, qa, qc, qs⟩ hi back => ?_)
  · rw [h0]
    exact Own.pick (pre := [_, _, _, _, _]) [3, 2, 0, 1, 4] rfl (Own.own_nil (rests_nil (Own.own_whole (by decide) rfl (Own.pick (pre := [_, _, _, _]) [1, 0, 2] rfl h))))
  obtain ⟨hi, hq⟩ := hi
  dsimp only at hi hq back ⊢
  have hoki := hok i hi
  by_cases hlt : i < ps.length
  · obtain ⟨p, hpi⟩ : ∃ x, ps[i]? = some x := ⟨_, List.getElem?_eq_getElem hlt⟩
    have hpt := hdp p (List.mem_of_getElem? hpi)
    have hs := hsucc i p hpi
    have hpr := hpt.hr
    have hp8 := hpt.n
    have hpol := polN_ok (i := i) hpt hoki
    have hps := fun (k : Nat) (r : Ru) => polN_succ (i := i) (p := p) (n := dN i) (k := k) (r := r)
    have hpe := hpt.e
    have hpu := hpt.ru
    have hp0 : polN i p (dN i) 0 = dN i := rfl
    have hback := fun (na : Option Addr) (nc : Nat) (qa : Option Addr) (qc : Nat) (qs : List Pr) h1 h2 => @back (i + 1, na, nc, qa, qc, qs) h1 h2
    dsimp only at hback
    rw [hs] at hback
    clear back hsucc hok
    generalize polN i p (dN i) = pN at *
    generalize dN i = dI at *
    have hlen2 : ∀ r ∈ p.rs, (ucl r).length = 13 := fun _ _ => rfl
    obtain ⟨ga, oa, xa, ea, ka, hcs⟩ := hr1.pos (by omega)
    cases ea
    refine J.seq ?_
    refine J.region ?_
    refine JL.decT rfl rfl (OpP.lss rfl rfl) (by omega) ?_
    refine JL.nil ?_
    refine J.seq ?_
    refine J.condT rfl ?_
    refine J.skip ?_
    refine J.seq ?_
    refine J.block ?_
    refine J.seq ?_
    refine J.region ?_
    refine JL.pure rfl rfl (OpP.move rfl) ?_
    refine JL.pure rfl rfl (OpP.indexAddr rfl rfl (by omega) (by omega)) ?_
    refine JL.read rfl rfl (OpR.loadN rfl (by apply Cells.conv (fun _ h => Own.pick (pre := [_, _, _, _, _]) [] rfl h); apply Cells.chunkAt hcs; (case' h => assumption); (case' hi => assumption); done) (by first | rfl | assumption)) ?_
    refine JL.mem rfl rfl OpM.alloc ?_; rintro _ _ ⟨b5, rfl, rfl⟩
    refine JL.pure rfl rfl (OpP.assign rfl) ?_
    refine JL.mem0 rfl (by apply OpM.storeN rfl rfl (by rfl) (oneC rfl (oneC rfl (oneC rfl (oneC rfl (oneC rfl (oneC rfl (oneC rfl (oneC rfl (oneC rfl (oneC rfl (oneC rfl (oneC rfl (one1 rfl))))))))))))); (case' hu => exact .head); (case' hs => exact (.here (.here (.here (.here (.here (.here (.here (.here (.here (.here (.here (.here (.here .nil)))))))))))))); done) ?_; rintro _ _ ⟨rfl, rfl⟩
    refine JL.nil ?_
    refine J.seq ?_
    refine J.region ?_
    refine JL.pure rfl rfl (OpP.fieldAddr rfl) ?_
    refine JL.read rfl rfl (OpR.load1 rfl (Cell.row .head rfl)) ?_
    refine JL.pure rfl rfl (OpP.len rfl rfl) ?_
    refine JL.pure rfl rfl (OpP.move rfl) ?_
    refine JL.nil ?_
    refine J.block ?_
    refine J.loopI (σ := Nat × Option Addr × Nat × Option Addr × Nat × List Pr) (fun s => p.rs.length - s.1) (fun s => s.1 ≤ p.rs.length ∧ s.2.2.2.2.2.map Pr.pure = (pN s.1).2)
      (fun s => [(26, .int .i64 (s.1 : Nat)), (25, .int .i64 p.rs.length), (24, .slice p.a p.rs.length p.c), (4, .int .i64 (i : Nat)), (5, .pointer (some ⟨b5, 0, none⟩)), (18, .int .i64 (i : Nat)), (17, .int .i64 ps.length), (16, .slice (some ⟨ga, oa, none⟩) ps.length c), (3, .pointer (some ⟨b14, 0, none⟩)), (2, .pointer (some ⟨b2, 0, none⟩))])
      (fun s => row b5 51 (pcl p) :: row b14 65 [.slice s.2.1 (pN s.1).1.length s.2.2.1, .slice s.2.2.2.1 s.2.2.2.2.2.length s.2.2.2.2.1] :: own 45 11 (.slice s.2.1 (pN s.1).1.length s.2.2.1) (pN s.1).1.length ((pN s.1).1.flatMap ncl) :: own 48 4 (.slice s.2.2.2.1 s.2.2.2.2.2.length s.2.2.2.2.1) s.2.2.2.2.2.length (s.2.2.2.2.2.flatMap prcl) :: rests s.2.2.2.2.2 :: row b2 42 [.slice none 0 0, .slice none 0 0] :: F)
      (0, na, nc, qa, qc, qs) ⟨Nat.zero_le _, by rw [hp0]; exact hq⟩ (by repeat (first | exact SubEnv.nil | refine SubEnv.cons (by first | rfl | exact congrArg (fun z => some (Value.int .i64 z)) (by omega) | (simp; done)) ?_)) (fun _ h => by rw [hp0]; exact h) (fun ⟨k, na, nc, qa, qc, qs⟩ hi2 back2 => ?_)
    clear hq
    obtain ⟨hk, hq⟩ := hi2
    dsimp only at hk hq back2 ⊢
    by_cases hlt2 : k < p.rs.length
    · obtain ⟨r, hrk⟩ : ∃ x, p.rs[k]? = some x := ⟨_, List.getElem?_eq_getElem hlt2⟩
      have hre := hpu r (List.mem_of_getElem? hrk)
      have hpk := hpol k hk
      have hb2 := fun (na : Option Addr) (nc : Nat) (qa : Option Addr) (qc : Nat) (qs : List Pr) h1 h2 => @back2 (k + 1, na, nc, qa, qc, qs) h1 h2
      dsimp only at hb2
      rw [hps k r hrk] at hb2
      dsimp only at hb2
      clear back2 hback hpol hps hs
      generalize pN k = S at *
      obtain ⟨N, PS⟩ := S
      dsimp only at *
      obtain ⟨hN1, hN2, hN3⟩ := hpk
      have hql : qs.length = PS.length := by rw [← hq, List.length_map]
      dsimp only at hN1 hN2 hN3
      refine J.rd (hpr _) fun hr2 => ?_
      obtain ⟨gb, pb, qb, eb, kb, hcs2⟩ := hr2.pos (by omega)
      simp only [Value.slice.injEq] at eb
      obtain ⟨ha, _, _⟩ := eb
      rw [ha]
      have rk := fun (bm : Nat) (G : List HProp) (a : Option Addr) (c : Nat) (pv : Value) => rule_ok (F := G) (a := a) (c := c) (bm := bm) (pv := pv) (p := p) (r := r) (ns := N) (by omega) hN3 hpe hre
      have o4 := prcl_one (ps := qs)
      have hl4 := chunk4 qs
      refine J.seq ?_
      refine J.region ?_
      refine JL.decT rfl rfl (OpP.lss rfl rfl) (by omega) ?_
      refine JL.nil ?_
      refine J.seq ?_
      refine J.condT rfl ?_
      refine J.skip ?_
      refine J.seq ?_
      refine J.block ?_
      refine J.seq ?_
      refine J.region ?_
      refine JL.pure rfl rfl (OpP.move rfl) ?_
      refine JL.pure rfl rfl (OpP.indexAddr rfl rfl (by omega) (by omega)) ?_
      refine JL.read rfl rfl (OpR.loadN rfl (by apply Cells.conv (fun _ h => h); apply Cells.chunkAt hcs2; (case' h => assumption); (case' hi => assumption); done) (by first | rfl | assumption)) ?_
      refine JL.mem rfl rfl OpM.alloc ?_; rintro _ _ ⟨b7, rfl, rfl⟩
      refine JL.pure rfl rfl (OpP.assign rfl) ?_
      refine JL.mem0 rfl (by apply OpM.storeN rfl rfl (by rfl) (oneC rfl (oneC rfl (oneC rfl (oneC rfl (oneC rfl (oneC rfl (oneC rfl (oneC rfl (oneC rfl (oneC rfl (oneC rfl (oneC rfl (one1 rfl))))))))))))); (case' hu => exact .head); (case' hs => exact (.here (.here (.here (.here (.here (.here (.here (.here (.here (.here (.here (.here (.here .nil)))))))))))))); done) ?_; rintro _ _ ⟨rfl, rfl⟩
      refine JL.nil ?_
      refine J.seq ?_
      refine J.region ?_
      refine JL.pure rfl rfl (OpP.move rfl) ?_
      refine JL.read rfl rfl (OpR.loadN rfl (Cells.full (.tail .head)) rfl) ?_
      refine JL.read rfl rfl (OpR.loadN rfl (Cells.full .head) rfl) ?_
      refine JL.f3 ?_; refine JL.f3 ?_; refine JL.step rfl rfl (OpW.call (first := []) (captured := []) inferInstance rfl rfl (rk _ _ _ _ _)) ?_; rintro r34 _ ⟨a', ⟨c', ⟨ra, ⟨rc, ⟨rfl, rfl⟩⟩⟩⟩⟩
      refine JL.mem rfl rfl OpM.alloc ?_; rintro _ _ ⟨b8, rfl, rfl⟩
      refine JL.mem0 rfl (by apply OpM.storeN rfl rfl (by rfl) (oneC rfl (oneC rfl (oneC rfl (one1 rfl)))); (case' hu => exact .head); (case' hs => exact (.here (.here (.here (.here .nil))))); done) ?_; rintro _ _ ⟨rfl, rfl⟩
      refine JL.nil ?_
      refine J.seq ?_
      refine J.region ?_
      refine JL.pure rfl rfl (OpP.move rfl) ?_
      refine JL.pure rfl rfl (OpP.move rfl) ?_
      refine JL.pure rfl rfl (OpP.fieldAddr rfl) ?_
      refine JL.mem0 rfl (by apply OpM.store1 rfl rfl rfl; (case' hu => exact .head); (case' hs => exact (.here .nil)); done) ?_; rintro _ _ ⟨rfl, rfl⟩
      refine JL.pure rfl rfl (OpP.fieldAddr rfl) ?_
      refine JL.mem0 rfl (by apply OpM.store1 rfl rfl rfl; (case' hu => exact .head); (case' hs => exact (.there (.here .nil))); done) ?_; rintro _ _ ⟨rfl, rfl⟩
      refine JL.nil ?_
      refine J.regionD [5, 6] (by kernel_rfl) ?_
      refine DL.pure (i := 0) (by kernel_rfl) (by kernel_rfl) rfl rfl rfl (OpP.move rfl) ?_
      refine DL.pure (i := 1) (by kernel_rfl) (by kernel_rfl) rfl rfl rfl (OpP.move rfl) ?_
      refine DL.pure (i := 2) (by kernel_rfl) (by kernel_rfl) rfl rfl rfl (OpP.nilCheck rfl) ?_
      refine DL.pure (i := 3) (by kernel_rfl) (by kernel_rfl) rfl rfl rfl (OpP.fieldAddr rfl) ?_
      refine DL.pure (i := 4) (by kernel_rfl) (by kernel_rfl) rfl rfl rfl (OpP.fieldAddr rfl) ?_
      refine DL.read (i := 5) (by kernel_rfl) (by kernel_rfl) rfl rfl rfl (fun _ h => h) (OpR.load1 rfl (Cell.row (.tail .head) rfl)) ?_
      refine DL.read (i := 6) (by kernel_rfl) (by kernel_rfl) rfl rfl rfl (fun _ h => h) (OpR.loadN rfl (Cells.full .head) rfl) ?_
      refine DL.only (i := 7) (by kernel_rfl) ?_
      refine DL1.stepK rfl rfl rfl (OpM.w (by apply OpM.buildSlice (by rfl) rfl (by rfl); (repeat (first | exact Fills.nil | (apply Fills.cons rfl rfl rfl; (case' hs => ((repeat (first | exact Spl.nil | apply Spl.here | apply Spl.there)); done))))))) (by rintro _ _ ⟨b46, rfl, rfl⟩ _ h; exact Own.pick (pre := [_, _, _, _, _, _, _, _, _, _]) [1, 2, 3, 4, 5, 6, 7, 8, 9] rfl h) ?_; rintro _ _ ⟨b46, rfl, rfl⟩
      refine DL.only (i := 8) (by kernel_rfl) ?_
      refine DL1.f7 ?_; refine DL1.stepF rfl rfl rfl (by kernel_rfl) (OpM.w (OpM.appendH rfl (.inl ⟨_, Sl.und inferInstance⟩) (by rfl) rfl rfl (RdO.src (RdO.ofRow (.tail .head) (by first | exact Nat.le_refl _ | decide | omega)) (by first | assumption | exact fc_length _ _ | (simp; done) | (simp; omega))) (oneC rfl (oneC rfl (oneC rfl (one1 rfl)))) (by simp only [maxLen]; omega) (by omega))) ?_; rintro _ _ ⟨⟨a47, c47, rfl⟩, rfl⟩
      refine DL.pure (i := 9) (by kernel_rfl) (by kernel_rfl) rfl rfl rfl (OpP.nilCheck rfl) ?_
      refine DL.pure (i := 10) (by kernel_rfl) (by kernel_rfl) rfl rfl rfl (OpP.fieldAddr rfl) ?_
      refine DL.pure (i := 11) (by kernel_rfl) (by kernel_rfl) rfl rfl rfl (OpP.fieldAddr rfl) ?_
      refine DL.only (i := 12) (by kernel_rfl) ?_
      refine DL1.stepF0 rfl rfl (by kernel_rfl) (OpM.w (by apply OpM.store1 rfl rfl rfl; (case' hu => exact (.tail (.tail (.tail .head)))); (case' hs => exact (.there (.here .nil))); done)) ?_; rintro _ _ ⟨rfl, rfl⟩
      refine DL.done (by kernel_rfl) ?_
      refine J.inBlock ?_
      refine J.region ?_
      refine JL.pure rfl rfl (OpP.addI rfl rfl (by omega) (by omega)) ?_
      refine JL.pure rfl rfl (OpP.move rfl) ?_
      refine JL.nil ?_
      have bk := @hb2 a' c' a47 c47 (qs ++ [⟨i, k, (ruleN N (all p r)).2, ofS (all p r) 6, ra, rc⟩]) ⟨by omega, by rw [List.map_append, hq]; rfl⟩ (by omega)
      rw [List.flatMap_append, List.length_append, ha] at bk
      refine bk (by repeat (first | exact SubEnv.nil | refine SubEnv.cons (by first | rfl | exact congrArg (fun z => some (Value.int .i64 z)) (by omega) | (simp; done)) ?_)) (fun _ h => ?_)
      have h2 := rests_snoc (p := ⟨i, k, (ruleN N (all p r)).2, ofS (all p r) 6, ra, rc⟩) (Own.pick (pre := [_, _, _, _, _, _, _, _, _, _]) [5, 8, 7, 3, 4, 0, 9] rfl h)
      exact Own.pick (pre := [_, _, _, _, _, _]) [1, 2, 3, 4, 0, 5] rfl h2
    · have : k = p.rs.length := by omega
      subst this
      refine J.seq ?_
      refine J.region ?_
      refine JL.decF rfl rfl (OpP.lss rfl rfl) (by omega) ?_
      refine JL.nil ?_
      refine J.seq ?_
      refine J.condF rfl ?_
      refine J.exit rfl ?_
      refine J.inBlock ?_
      refine J.region ?_
      refine JL.pure rfl rfl (OpP.addI rfl rfl (by omega) (by omega)) ?_
      refine JL.pure rfl rfl (OpP.move rfl) ?_
      refine JL.nil ?_
      exact hback na nc qa qc qs ⟨by omega, hq⟩ (by omega) (by repeat (first | exact SubEnv.nil | refine SubEnv.cons (by first | rfl | exact congrArg (fun z => some (Value.int .i64 z)) (by omega) | (simp; done)) ?_)) (fun _ h => h.tail)
  · have : i = ps.length := by omega
    subst this
    refine J.seq ?_
    refine J.region ?_
    refine JL.decF rfl rfl (OpP.lss rfl rfl) (by omega) ?_
    refine JL.nil ?_
    refine J.seq ?_
    refine J.condF rfl ?_
    refine J.exit rfl ?_
    refine J.seq ?_
    refine J.region ?_
    refine JL.pure rfl rfl (OpP.move rfl) ?_
    refine JL.pure rfl rfl (OpP.nilCheck rfl) ?_
    refine JL.pure rfl rfl (OpP.fieldAddr rfl) ?_
    refine JL.read rfl rfl (OpR.loadN rfl (Cells.full .head) rfl) ?_
    refine JL.mem0 rfl (by apply OpM.storeN rfl rfl (by rfl) (oneC rfl (one1 rfl)); (case' hu => exact (.tail (.tail (.tail (.tail .head))))); (case' hs => exact (.here (.here .nil))); done) ?_; rintro _ _ ⟨rfl, rfl⟩
    refine JL.nil ?_
    refine J.retC rfl rfl (by apply Cells.full; (with_reducible repeat (first | exact .head | apply Has.tail))) (by first | (rw [List.length_append, hdC_len (by first | assumption | exact Go.Proofs.B.shaB_length _ _ | solve_by_elim)]; rfl) | exact hdC_len (by first | assumption | exact Go.Proofs.B.shaB_length _ _ | solve_by_elim) | (rw [bcells_length]; first | assumption | exact Go.Proofs.B.shaB_length _ _ | solve_by_elim) | exact fc_length _ _ | exact fB_length _ _ | rfl) ?_
    exact ⟨_, ⟨na, nc, qa, qc, qs, hq, rfl, rfl⟩, fun _ h => Own.pick (pre := [_, _, _, _, _]) [1, 2, 3] rfl h⟩
end Go.Proofs.D

-- seat d
namespace Go.Proofs.D
open Go Go.Gp Go.RowKit

end Go.Proofs.D

-- seat d
namespace Go.Proofs.D
open Go Go.Gp Go.RowKit

/-- The document without anything. -/
def noD : Dc := ⟨none, 0, 0, noS, [], none, 0⟩
theorem noD_t {w0 : World} : DcT w0 noD := ⟨fun l => (Rd.o (.inl ⟨_, _, rfl, rfl, rfl⟩)), by decide, by simp [noD]⟩
theorem noD_net : (netN noD).1.length = 2 := by simp [netN, noD, docN]
theorem awake_ok {w0 : World} {F : List HProp} : FnO Try.prog w0 7 [] F (fun u l' => u = .bool true ∧ l' = F) := by
  have s1 := side_ok (w0 := w0) (F := F) nowE_tr
  rw [nowE_side] at s1
  have c1 := compile_ok (w0 := w0) (F := F) noD_t
  rw [noD_net] at c1
  refine FnO.weak ?_
  refine FnO.intro (n := 11) Try.func7 rfl rfl rfl ?_
  refine J.seq ?_
  refine J.region ?_
  refine JL.pure rfl rfl (OpP.assign rfl) ?_
  refine JL.nil ?_
  refine J.seq ?_
  refine J.region ?_
  refine JL.pure rfl rfl (OpP.build rfl (by (repeat (first | exact Fills.nil | (apply Fills.cons rfl rfl rfl; (case' hs => ((repeat (first | exact Spl.nil | apply Spl.here | apply Spl.there)); done))))))) ?_
  refine JL.step rfl rfl (OpW.call (first := []) (captured := []) inferInstance rfl rfl s1) ?_; rintro r2 _ ⟨rfl, rfl⟩
  refine JL.decT rfl rfl (OpP.eql rfl rfl) (by omega) ?_
  refine JL.pure rfl rfl (OpP.move rfl) ?_
  refine JL.pure rfl rfl (OpP.build rfl (by (repeat (first | exact Fills.nil | (apply Fills.cons rfl rfl rfl; (case' hs => ((repeat (first | exact Spl.nil | apply Spl.here | apply Spl.there)); done))))))) ?_
  refine JL.step rfl rfl (OpW.call (first := []) (captured := []) inferInstance rfl rfl c1) ?_; rintro r6 _ ⟨a, ⟨c, ⟨pa, ⟨pc, ⟨ps, ⟨h6, ⟨rfl, rfl⟩⟩⟩⟩⟩⟩⟩
  refine JL.pure rfl rfl (OpP.field1 rfl rfl) ?_
  refine JL.pure rfl rfl (OpP.len rfl rfl) ?_
  refine JL.decT rfl rfl (OpP.eql rfl rfl) (by omega) ?_
  refine JL.pure rfl rfl (OpP.pickT rfl rfl) ?_
  refine JL.pure rfl rfl (OpP.assign rfl) ?_
  refine JL.nil ?_
  refine J.ret1 rfl rfl ?_
  exact ⟨_, ⟨rfl, rfl⟩, fun _ h => h.tail.tail.tail⟩
end Go.Proofs.D

-- seat d
namespace Go.Proofs.D
open Go Go.Gp Go.RowKit

theorem rests_rd {w0 : World} {l : List HProp} {ps : List Pr} {p : Pr} (hm : Has (rests ps) l) (hp : p ∈ ps) : RdO w0 l (.slice p.a p.rest.length p.c) p.rest.length (p.rest.flatMap xcl) :=
  (RdO.own (l := [restL p]) .head).conv fun w h => by
    obtain ⟨m, hm⟩ := Own.mem_front hm.mem
    have h2 := (h.perm hm).hall_out
    obtain ⟨m2, h3⟩ := Own.mem_front (List.mem_append_left m (List.mem_map_of_mem (f := restL) hp))
    exact (h2.perm h3).head
noncomputable def stepN (n : NetP) (i k : Nat) (l : List Ex) : NetP := ((ruleN n.1 l).1, n.2 ++ [(i, k, (ruleN n.1 l).2, ofS l 6)])
/-- What holds of the first network, and stays with each rule, holds of a document's. -/
theorem netN_ind {d : Dc} {Q : NetP → Prop} (h0 : Q ([⟨0, 0, 0, zeroE⟩, ⟨1, 0, 0, zeroE⟩], [])) (hs : ∀ n i k p r, Q n → d.ps[i]? = some p → p.rs[k]? = some r → Q (stepN n i k (all p r))) : Q (netN d) := by
  have hp : ∀ i p n, d.ps[i]? = some p → Q n → ∀ k, k ≤ p.rs.length → Q (polN i p n k) := by
    intro i p n hi hn k
    induction k with
    | zero => exact fun _ => hn
    | succ k ih =>
      intro hk
      obtain ⟨r, hr⟩ : ∃ r, p.rs[k]? = some r := ⟨_, List.getElem?_eq_getElem (by omega)⟩
      rw [polN_succ hr]
      exact hs _ i k p r (ih (by omega)) hi hr
  have hd : ∀ i, i ≤ d.ps.length → Q (docN d i) := by
    intro i
    induction i with
    | zero => exact fun _ => h0
    | succ i ih =>
      intro hi
      obtain ⟨p, hp'⟩ : ∃ r, d.ps[i]? = some r := ⟨_, List.getElem?_eq_getElem (by omega)⟩
      rw [docN_succ hp']
      exact hp i p _ hp' (ih (by omega)) _ (Nat.le_refl _)
  exact hd _ (Nat.le_refl _)
theorem netN_rest {w0 : World} {d : Dc} (hd : DcT w0 d) : ∀ q ∈ (netN d).2, (∀ e ∈ q.2.2.2, Tr w0 e) ∧ q.2.2.2.length ≤ 120 := by
  refine netN_ind (Q := fun n => ∀ q ∈ n.2, (∀ e ∈ q.2.2.2, Tr w0 e) ∧ q.2.2.2.length ≤ 120) (by simp) ?_
  intro n i k p r hn hi hk q hq
  have hp := hd.po p (List.mem_of_getElem? hi)
  obtain ⟨h1, h2⟩ := all_tr hp.e (hp.ru r (List.mem_of_getElem? hk))
  rcases List.mem_append.1 hq with hq | hq
  · exact hn q hq
  · rw [List.mem_singleton.1 hq]
    exact ⟨fun e he => h1 e (ofS_mem he), Nat.le_trans (ofS_len _ _) h2⟩
theorem netN_ok {w0 : World} {d : Dc} (hd : DcT w0 d) : NetOk w0 (netN d) 17330 48 := by
  have h := docN_ok hd d.ps.length (Nat.le_refl _)
  have hn := hd.n
  exact ⟨by have := h.l1; rw [netN]; omega, by have := h.l2; rw [netN]; omega, h.t⟩
theorem plen {w0 : World} {d : Dc} {ps : List Pr} (hd : DcT w0 d) (h : ps.map Pr.pure = (netN d).2) : ps.length ≤ 1000 := by
  have := congrArg List.length h
  have h2 := (netN_ok hd).l2
  rw [List.length_map] at this
  omega
end Go.Proofs.D
