/- A text of the proof of a statement about the given program: its part ACachePlays. No person has read it. -/
import Derived.Test.YtmfdjjbmckdmfaaACRef2
import Derived.Test.YtmfdjjbmckdmfaaJ20
-- seat a
namespace Go.Proofs.A
open Go Go.Gp Go.RowKit

theorem capOf_le (n : Int) : capOf n ≤ 16 := by unfold capOf; omega
theorem capOf_min {n : Int} : max (min n 16) 0 = (capOf n : Int) := by unfold capOf; omega
structure WOk (w0 : World) (cap : Nat) (W : List OpC) : Prop where
  len : W.length ≤ cap
  ok : ∀ o ∈ W, o.Ok w0
  few : ∀ o ∈ W, o.few
theorem doO_sub {cap : Nat} {W : List OpC} {o x : OpC} (h : x ∈ doO cap W o) : x ∈ W ∨ x = o := by
  unfold doO at h
  split at h
  · unfold putO at h
    split at h
    · exact .inl (List.eraseP_sublist.subset h)
    · rcases List.mem_append.1 h with h | h
      · have h2 : x ∈ W.eraseP (kO o.key) := by
          unfold cutO at h
          split at h
          · exact (List.eraseIdx_sublist _ _).subset h
          · exact h
        exact .inl (List.eraseP_sublist.subset h2)
      · exact .inr (List.mem_singleton.1 h)
  · split at h
    · exact .inl (List.mem_filter.1 h).1
    · split at h
      · cases h
      · exact .inl h
theorem WOk.step {w0 : World} {cap : Nat} {W : List OpC} {o : OpC} (h : WOk w0 cap W) (ho : o.Ok w0) (hf : o.few) : WOk w0 cap (doO cap W o) where
  len := by
    have := doE_len (cap := cap) (L := W.map opE) (o := o) (by rw [List.length_map]; exact h.len)
    rw [← doO_map, List.length_map] at this
    exact this
  ok := fun x hx => by rcases doO_sub hx with q | rfl; exact h.ok x q; exact ho
  few := fun x hx => by rcases doO_sub hx with q | rfl; exact h.few x q; exact hf
theorem doN_len {cap : Nat} {W : List OpC} {o : OpC} (hk : o.k % 4 = 2) : doN (W.map opE) o = (W.length : Int) - ((doO cap W o).length : Int) := by
  have e : (doO cap W o).length = ((W.map opE).filter fun e => !tE o.a o.b e).length := by
    have := congrArg List.length (doO_map cap W o)
    rw [List.length_map] at this
    rw [this, doE, if_neg (by omega), if_pos hk]
  have hle : ((W.map opE).filter fun e => !tE o.a o.b e).length ≤ (W.map opE).length := List.length_filter_le _ _
  rw [doN, if_pos hk, e]
  rw [List.length_map] at hle ⊢
  omega

theorem find_first_of {p : OpC → Bool} : ∀ {es : List OpC}, (∃ (i : Nat) (e : OpC), es[i]? = some e ∧ p e = true ∧ ∀ (j : Nat) (f : OpC), j < i → es[j]? = some f → p f = false) ∨ ∀ e ∈ es, p e = false
  | [] => .inr (by simp)
  | x :: es => by
    cases hx : p x with
    | true => exact .inl ⟨0, x, rfl, hx, fun j f h => by omega⟩
    | false =>
      rcases find_first_of (p := p) (es := es) with ⟨i, e, h1, h2, h3⟩ | h
      · refine .inl ⟨i + 1, e, by simpa using h1, h2, fun j f hj hf => ?_⟩
        cases j with
        | zero => simp at hf; rw [← hf]; exact hx
        | succ j => exact h3 j f (by omega) (by simpa using hf)
      · refine .inr fun e he => ?_
        rcases List.mem_cons.1 he with rfl | he
        · exact hx
        · exact h e he
theorem RFindS_ok {w0 : World} {F : List HProp} {n : Int} {key : Str} {v : Value} {L : List OpC} {i : Nat} {e : OpC} (h1 : L[i]? = some e) (h2 : kO key e = true) (h3 : ∀ (j : Nat) (f : OpC), j < i → L[j]? = some f → kO key f = false) (hr : RdO w0 F v L.length (L.flatMap ocl)) (hl : L.length ≤ 1000) :
    FnO Try.prog w0 38 [.agg #[.int .i64 n, v], .string key] F (fun u l' => u = .int .i64 (i : Nat) ∧ l' = F) := by
  refine (RFind_ok hr hl).mono ?_
  rintro u l' ⟨⟨x, rfl, ⟨j, f, rfl, q1, q2, q3⟩ | ⟨_, q⟩⟩, rfl⟩
  · have : j = i := by
      rcases Nat.lt_trichotomy j i with h | h | h
      · have := h3 j f h q1; rw [q2] at this; cases this
      · exact h
      · have := q3 i e h h1; rw [h2] at this; cases this
    rw [this]; exact ⟨rfl, rfl⟩
  · have := q e (List.mem_of_getElem? h1); rw [h2] at this; cases this
theorem RFindN_ok {w0 : World} {F : List HProp} {n : Int} {key : Str} {v : Value} {L : List OpC} (h : ∀ e ∈ L, kO key e = false) (hr : RdO w0 F v L.length (L.flatMap ocl)) (hl : L.length ≤ 1000) :
    FnO Try.prog w0 38 [.agg #[.int .i64 n, v], .string key] F (fun u l' => u = .int .i64 (-1) ∧ l' = F) := by
  refine (RFind_ok hr hl).mono ?_
  rintro u l' ⟨⟨x, rfl, ⟨j, f, rfl, q1, q2, q3⟩ | ⟨rfl, _⟩⟩, rfl⟩
  · have := h f (List.mem_of_getElem? q1); rw [q2] at this; cases this
  · exact ⟨rfl, rfl⟩
theorem ELenO_ok {w0 : World} {g cap : Nat} {W : List OpC} {F : List HProp} :
    FnO Try.prog w0 35 [.pointer (some ⟨g, 0, none⟩)] (cacheE g cap (W.map opE) :: F) (fun v l' => v = .int .i64 W.length ∧ l' = cacheE g cap (W.map opE) :: F) := by
  have := ELen_ok (w0 := w0) (g := g) (cap := cap) (L := W.map opE) (F := F)
  rwa [List.length_map] at this
theorem EKeysO_ok {w0 : World} {g cap : Nat} {W : List OpC} {F : List HProp} :
    FnO Try.prog w0 37 [.pointer (some ⟨g, 0, none⟩)] (cacheE g cap (W.map opE) :: F) (fun v l' => l' = own 9 1 v W.length (scells (W.map OpC.key)) :: cacheE g cap (W.map opE) :: F) := by
  have := EKeys_ok (w0 := w0) (g := g) (cap := cap) (L := W.map opE) (F := F)
  rwa [List.length_map, List.map_map] at this
theorem SameT_ok {w0 : World} {F : List HProp} {u v : Value} {W : List OpC} (hx : RdO w0 F u W.length (scells (W.map OpC.key))) (hy : RdO w0 F v W.length (scells (W.map OpC.key))) (hl : W.length ≤ 1000) :
    FnO Try.prog w0 22 [u, v] F (fun r l' => r = .bool true ∧ l' = F) := by
  refine (SameTexts_ok (xs := W.map OpC.key) (ys := W.map OpC.key) (by rwa [List.length_map]) (by rwa [List.length_map]) (by rw [List.length_map]; omega)).mono ?_
  rintro r l' ⟨rfl, rfl⟩
  simp
theorem SameR_ok {w0 : World} {F : List HProp} {n : Int} {u1 u2 x1 x2 : Value} {dl al : List Str} (h1 : RdO w0 F u1 dl.length (scells dl)) (h2 : RdO w0 F u2 al.length (scells al)) (h3 : RdO w0 F x1 dl.length (scells dl)) (h4 : RdO w0 F x2 al.length (scells al)) (h5 : dl.length ≤ 1000) (h6 : al.length ≤ 1000) :
    FnO Try.prog w0 34 [.agg #[.int .i64 n, u1, u2], .agg #[.int .i64 n, x1, x2]] F (fun v l' => v = .bool true ∧ l' = F) := by
  refine (Same_ok (d := ⟨n, u1, u2, dl, al⟩) (e := ⟨n, x1, x2, dl, al⟩) ⟨h1, h2, h5, h6⟩ ⟨h3, h4, h5, h6⟩).mono ?_
  rintro v l' ⟨rfl, rfl⟩
  simp [sameD]
theorem EGetOS_ok {w0 : World} {g cap : Nat} {key : Str} {W : List OpC} {e : OpC} {F : List HProp} (hf : (W.map opE).find? (kE key) = some (opE e)) :
    FnO Try.prog w0 21 [.pointer (some ⟨g, 0, none⟩), .string key] (cacheE g cap (W.map opE) :: F) (fun v l' => ∃ u1 u2, e.d.dl.length ≤ 1000 ∧ e.d.al.length ≤ 1000 ∧ v = .tuple #[.agg #[.int .i64 e.d.an, u1, u2], .bool true] ∧ l' = own 9 1 u1 e.d.dl.length (scells e.d.dl) :: own 9 1 u2 e.d.al.length (scells e.d.al) :: cacheE g cap (W.map opE) :: F) := EGetS_ok hf
theorem SameE_ok {w0 : World} {d e : Dec} {F : List HProp} (h : sameD d e = true) (hd : d.RdO w0 F) (he : e.RdO w0 F) :
    FnO Try.prog w0 34 [.agg (dcell d).toArray, .agg (dcell e).toArray] F (fun v l' => v = .bool true ∧ l' = F) := by
  rw [← h]; exact Same_ok hd he
theorem SameZ_ok {w0 : World} {F : List HProp} :
    FnO Try.prog w0 34 [.agg #[.int .i64 0, .slice none 0 0, .slice none 0 0], .agg #[.int .i64 0, .slice none 0 0, .slice none 0 0]] F (fun v l' => v = .bool true ∧ l' = F) :=
  have h : Gp.RdO w0 F (.slice none 0 0) 0 [] := fun _ _ => .inl ⟨none, 0, rfl, rfl, rfl⟩
  SameR_ok (dl := []) (al := []) h h h h (by decide) (by decide)
theorem find_firstS {p : OpC → Bool} : ∀ {es : List OpC} {i : Nat} {e : OpC}, es[i]? = some e → p e = true → (∀ (j : Nat) (f : OpC), j < i → es[j]? = some f → p f = false) → es.find? p = some e
  | [], i, e, h, _, _ => by simp at h
  | x :: es, 0, e, h, h2, _ => by simp at h; subst h; simp [h2]
  | x :: es, i + 1, e, h, h2, h3 => by
    have hx := h3 0 x (by omega) rfl
    rw [List.find?_cons_of_neg (by simp [hx])]
    exact find_firstS (by simpa using h) h2 fun j f hj hf => h3 (j + 1) f (by omega) (by simpa using hf)
theorem map_findS {key : Str} {es : List OpC} {e : OpC} (h : es.find? (kO key) = some e) : (es.map opE).find? (kE key) = some (opE e) := by
  rw [List.find?_map]
  exact congrArg (Option.map opE) h
theorem map_findN {key : Str} {es : List OpC} (h : ∀ e ∈ es, kO key e = false) : (es.map opE).find? (kE key) = none := by
  rw [List.find?_eq_none]
  intro x hx
  obtain ⟨e, he, rfl⟩ := List.mem_map.1 hx
  rw [show kE key (opE e) = kO key e from rfl, h e he]
  exact Bool.false_ne_true
theorem CachePlays_ok {w0 : World} {n : Int} {l : List OpC} {v : Value} (hr : Rd w0 [] v l.length (l.flatMap ocl)) (ho : ∀ o ∈ l, o.Ok w0) :
    FnO Try.prog w0 11 [.int .i64 n, v] [] (fun u _ => u = .bool true) := by
  obtain ⟨a, c, rfl⟩ := hr.lit
  refine FnO.intro (n := 140) Try.func11 rfl rfl rfl ?_
  refine J.seq ?_
  refine J.region ?_
  refine JL.pure rfl rfl (OpP.assign rfl) ?_
  refine JL.nil ?_
  refine J.seq ?_
  refine J.seq ?_
  refine J.region ?_
  refine JL.step rfl rfl (OpW.call (first := []) (captured := []) inferInstance rfl rfl Cawake_ok) ?_; rintro r15 _ ⟨rfl, rfl⟩
  refine JL.pure rfl rfl (OpP.notB rfl) ?_
  refine JL.pure rfl rfl (OpP.move rfl) ?_
  refine JL.pure rfl rfl (OpP.move rfl) ?_
  refine JL.step rfl rfl (OpW.call (first := []) (captured := []) inferInstance rfl rfl (Few_ok hr ho (by decide))) ?_; rintro r19 _ ⟨rfl, ⟨b, ⟨rfl, h19⟩⟩⟩
  refine JL.pure rfl rfl (OpP.notB rfl) ?_
  refine JL.pure rfl rfl (OpP.pickF rfl rfl) ?_
  refine JL.nil ?_
  refine J.splitAt 21 rfl (fun h21 => ?_) (fun h21 => ?_)
  focus
    refine J.condT rfl ?_
    refine J.seq ?_
    refine J.region ?_
    refine JL.step rfl rfl (OpW.call (first := []) (captured := []) inferInstance rfl rfl Cawake_ok) ?_; rintro r22 _ ⟨rfl, rfl⟩
    refine JL.pure rfl rfl (OpP.assign rfl) ?_
    refine JL.nil ?_
    refine J.ret1 rfl rfl ?_
  rotate_left 1
  focus
    refine J.condF rfl ?_
    refine J.skip ?_
    refine J.seq ?_
    refine J.region ?_
    refine JL.pure rfl rfl (OpP.move rfl) ?_
    refine JL.step rfl rfl (OpW.call (first := []) (captured := []) inferInstance rfl rfl ENew_ok) ?_; rintro r24 _ ⟨g, ⟨rfl, rfl⟩⟩
    refine JL.pure rfl rfl (OpP.move rfl) ?_
    refine JL.pure rfl rfl (OpP.min rfl rfl) ?_
    refine JL.pure rfl rfl (OpP.max rfl rfl) ?_
    refine JL.pure rfl rfl (OpP.build rfl (by (repeat (first | exact Fills.nil | (apply Fills.cons rfl rfl rfl; (case' hs => ((repeat (first | exact Spl.nil | apply Spl.here | apply Spl.there)); done))))))) ?_
    refine JL.mem rfl rfl OpM.alloc ?_; rintro _ _ ⟨b6, rfl, rfl⟩
    refine JL.pure rfl rfl (OpP.assign rfl) ?_
    refine JL.mem0 rfl (by apply OpM.storeN rfl rfl (by rfl) (oneC rfl (one1 rfl)); (case' hu => exact .head); (case' hs => exact (.here (.here .nil))); done) ?_; rintro _ _ ⟨rfl, rfl⟩
    refine JL.nil ?_
    refine J.seq ?_
    refine J.seq ?_
    refine J.region ?_
    refine JL.pure rfl rfl (OpP.assign rfl) ?_
    refine JL.nil ?_
    refine J.block ?_
  rotate_left 1
  · rfl
  obtain ⟨hl60, hfew⟩ := h19 (by simpa using h21)
  rw [capOf_min]
  have hcap := capOf_le n
  generalize capOf n = cap at hcap ⊢
  refine J.loopI (fun x : Nat × List OpC × Value => l.length - x.1) (fun x => x.1 ≤ l.length ∧ WOk w0 cap x.2.1) (fun x => [(7, .int .i64 (x.1 : Nat)), (5, .pointer (some ⟨g, 0, none⟩)), (6, .pointer (some ⟨b6, 0, none⟩)), (1, .slice a l.length c)])
    (fun x => [row b6 77 [.int .i64 (cap : Nat), x.2.2], own 71 8 x.2.2 x.2.1.length (x.2.1.flatMap ocl), cacheE g cap (x.2.1.map opE)]) (0, [], .slice none 0 0) ⟨Nat.zero_le _, ⟨Nat.zero_le _, by simp, by simp⟩⟩ (by repeat (first | exact SubEnv.nil | refine SubEnv.cons (by first | rfl | exact congrArg (fun z => some (Value.int .i64 z)) (by omega) | (simp; done)) ?_)) (fun _ h => Own.pick (pre := [_, _, _]) [1, 0, 2] rfl (Own.own_nil h)) (fun ⟨i, W, vW⟩ ⟨hi, hW⟩ back => ?_)
  dsimp only at hi hW back ⊢
  have h8 := ocl_len l
  have hWl := hW.len
  by_cases hlt : i < l.length
  · obtain ⟨o, hoi⟩ : ∃ o, l[i]? = some o := ⟨_, List.getElem?_eq_getElem hlt⟩
    have hmem := List.mem_of_getElem? hoi
    have hok := ho o hmem
    have hof := hfew o hmem
    have k0 := hok.k0
    have k1 := hok.k1
    have h8' : (ocl o).length = 8 := rfl
    have hW' := hW.step hok hof
    have hW'l := hW'.len
    have hone := ocl_one hok
    have hdo : FnO Try.prog w0 33 [.pointer (some ⟨g, 0, none⟩), .agg (ocl o).toArray] (cacheE g cap (W.map opE) :: [row b6 77 [.int .i64 (cap : Nat), vW], own 71 8 vW W.length (W.flatMap ocl)]) (fun v l' => v = .int .i64 (doN (W.map opE) o) ∧ l' = cacheE g cap ((doO cap W o).map opE) :: [row b6 77 [.int .i64 (cap : Nat), vW], own 71 8 vW W.length (W.flatMap ocl)]) := by
      rw [doO_map]; exact Cdo_ok hok hof
    refine J.lit (.tail .head) fun avW cvW evW => ?_; subst evW
    refine J.seq ?_
    refine J.seq ?_
    refine J.region ?_
    refine JL.pure rfl rfl (OpP.move rfl) ?_
    refine JL.pure rfl rfl (OpP.move rfl) ?_
    refine JL.pure rfl rfl (OpP.len rfl rfl) ?_
    refine JL.decT rfl rfl (OpP.lss rfl rfl) (by omega) ?_
    refine JL.nil ?_
    refine J.condT rfl ?_
    refine J.skip ?_
    refine J.seq ?_
    refine J.block ?_
    refine J.seq ?_
    refine J.region ?_
    refine JL.pure rfl rfl (OpP.fieldAddr rfl) ?_
    refine JL.read rfl rfl (OpR.load1 rfl (Cell.row .head rfl)) ?_
    refine JL.pure rfl rfl (OpP.len rfl rfl) ?_
    refine JL.pure rfl rfl (OpP.assign rfl) ?_
    refine JL.nil ?_
    refine J.seq ?_
    refine J.region ?_
    refine JL.pure rfl rfl (OpP.move rfl) ?_
    refine JL.pure rfl rfl (OpP.move rfl) ?_
    refine JL.pure rfl rfl (OpP.move rfl) ?_
    obtain ⟨ga, pa, qa, ea, ka, ca⟩ := hr.pos (by omega); cases ea
    refine JL.pure rfl rfl (OpP.indexAddr rfl rfl (by omega) (by omega)) ?_
    refine JL.read rfl rfl (OpR.loadN rfl (by apply Cells.conv (fun _ h => h.none); apply Cells.chunkAt ca; (case' h => assumption); (case' hi => assumption); done) (by first | rfl | assumption)) ?_
    refine JL.f1 ?_; refine JL.f1 ?_; refine JL.f2 ?_; refine JL.step rfl rfl (OpW.call (first := []) (captured := []) inferInstance rfl rfl hdo) ?_; rintro r43 _ ⟨rfl, rfl⟩
    refine JL.pure rfl rfl (OpP.assign rfl) ?_
    refine JL.nil ?_
    refine J.seq ?_
    refine J.regionD [0, 4] (by kernel_rfl) ?_
    refine DL.read (i := 0) (by kernel_rfl) (by kernel_rfl) rfl rfl rfl (fun _ h => h) (OpR.loadN rfl (Cells.full (.tail .head)) rfl) ?_
    refine DL.pure (i := 1) (by kernel_rfl) (by kernel_rfl) rfl rfl rfl (OpP.move rfl) ?_
    refine DL.pure (i := 2) (by kernel_rfl) (by kernel_rfl) rfl rfl rfl (OpP.move rfl) ?_
    refine DL.pure (i := 3) (by kernel_rfl) (by kernel_rfl) rfl rfl rfl (OpP.indexAddr rfl rfl (by omega) (by omega)) ?_
    refine DL.read (i := 4) (by kernel_rfl) (by kernel_rfl) rfl rfl rfl (fun _ h => h) (OpR.loadN rfl (by apply Cells.conv (fun _ h => h.none); apply Cells.chunkAt ca; (case' h => assumption); (case' hi => assumption); done) (by first | rfl | assumption)) ?_
    refine DL.only (i := 5) (by kernel_rfl) ?_
    refine DL1.f2 ?_; refine DL1.stepF rfl rfl rfl (by kernel_rfl) (by exact OpW.call (first := []) (captured := []) inferInstance rfl rfl (RDo_ok hcap (by omega) hW.ok hok hof)) ?_; rintro r49 _ ⟨v', ⟨rfl, rfl⟩⟩
    refine DL.lit .head fun av' cv' ev' => ?_; subst ev'
    refine DL.only (i := 6) (by kernel_rfl) ?_
    refine DL1.stepF0 rfl rfl (by kernel_rfl) (OpM.w (by apply OpM.storeN rfl rfl (by rfl) (oneC rfl (one1 rfl)); (case' hu => exact (.tail (.tail .head))); (case' hs => exact (.here (.here .nil))); done)) ?_; rintro _ _ ⟨rfl, rfl⟩
    refine DL.done (by kernel_rfl) ?_
    refine J.seq ?_
    have hN : o.k % 4 = 2 → doN (W.map opE) o = (W.length : Int) - ((doO cap W o).length : Int) := doN_len
    generalize doN (W.map opE) o = nn at hN ⊢
    generalize doO cap W o = W2 at hW' hW'l hN ⊢
    have hkeys : (W2.map opE).map E.key = W2.map OpC.key := by rw [List.map_map]; rfl
    refine J.cut (σ := Unit) (fun _ => True) (fun _ => [(7, .int .i64 (i : Nat)), (5, .pointer (some ⟨g, 0, none⟩)), (6, .pointer (some ⟨b6, 0, none⟩)), (1, .slice (some ⟨ga, pa, none⟩) l.length c)])
      (fun _ => [row b6 77 [.int .i64 (cap : Nat), .slice av' W2.length cv'], own 71 8 (.slice av' W2.length cv') W2.length (W2.flatMap ocl), cacheE g cap (W2.map opE)]) (fun _ _ => ?_) (fun k' go => ?_)
    · refine J.seq ?_
      refine J.region ?_
      refine JL.pure rfl rfl (OpP.assign rfl) ?_
      refine JL.nil ?_
      refine J.seq ?_
      refine J.seq ?_
      refine J.region ?_
      refine JL.pure rfl rfl (OpP.assign rfl) ?_
      refine JL.nil ?_
      refine J.block ?_
      refine J.loopI (fun x : Nat × Value => W2.length - x.1) (fun x => x.1 ≤ W2.length) (fun x => [(11, .int .i64 (x.1 : Nat)), (10, x.2), (7, .int .i64 (i : Nat)), (5, .pointer (some ⟨g, 0, none⟩)), (6, .pointer (some ⟨b6, 0, none⟩)), (1, .slice (some ⟨ga, pa, none⟩) l.length c)])
        (fun x => [own 9 1 x.2 x.1 (scells ((W2.take x.1).map OpC.key)), row b6 77 [.int .i64 (cap : Nat), .slice av' W2.length cv'], own 71 8 (.slice av' W2.length cv') W2.length (W2.flatMap ocl), cacheE g cap (W2.map opE)]) (0, .slice none 0 0) (Nat.zero_le _) (by repeat (first | exact SubEnv.nil | refine SubEnv.cons (by first | rfl | exact congrArg (fun z => some (Value.int .i64 z)) (by omega) | (simp; done)) ?_)) (fun _ h => Own.own_nil h) (fun ⟨j, kv⟩ hj back2 => ?_)
      dsimp only at hj back2 ⊢
      have h82 := ocl_len W2
      by_cases hjt : j < W2.length
      · obtain ⟨e, he⟩ : ∃ e, W2[j]? = some e := ⟨_, List.getElem?_eq_getElem hjt⟩
        have htk : scells ((W2.take (j + 1)).map OpC.key) = scells ((W2.take j).map OpC.key) ++ [.string e.key] := by
          rw [List.take_add_one, he]; simp [scells]
        refine J.lit .head fun akv ckv ekv => ?_; subst ekv
        refine J.seq ?_
        refine J.seq ?_
        refine J.region ?_
        refine JL.pure rfl rfl (OpP.move rfl) ?_
        refine JL.pure rfl rfl (OpP.fieldAddr rfl) ?_
        refine JL.read rfl rfl (OpR.load1 rfl (Cell.row (.tail .head) rfl)) ?_
        refine JL.pure rfl rfl (OpP.len rfl rfl) ?_
        refine JL.decT rfl rfl (OpP.lss rfl rfl) (by omega) ?_
        refine JL.nil ?_
        refine J.condT rfl ?_
        refine J.skip ?_
        refine J.seq ?_
        refine J.block ?_
        refine J.region ?_
        refine JL.pure rfl rfl (OpP.move rfl) ?_
        refine JL.pure rfl rfl (OpP.fieldAddr rfl) ?_
        refine JL.read rfl rfl (OpR.load1 rfl (Cell.row (.tail .head) rfl)) ?_
        refine JL.pure rfl rfl (OpP.move rfl) ?_
        refine JL.ownSome (.tail (.tail .head)) (by omega) fun gav' pav' eav' kav' => ?_; subst eav'
        refine JL.pure rfl rfl (OpP.indexAddr rfl rfl (by omega) (by omega)) ?_
        refine JL.pure rfl rfl (OpP.fieldAddr rfl) ?_
        refine JL.read rfl rfl (OpR.load1 rfl (by apply Cells.cellChunk (j := 1) (Cells.own (.tail (.tail .head))) (fun _ h => h); (case' h => assumption); (case' hi => assumption); (case' hv => rfl); (case' ho => omega); done)) ?_
        refine JL.mem rfl rfl (by apply OpM.buildSlice (by rfl) rfl (by rfl); (repeat (first | exact Fills.nil | (apply Fills.cons rfl rfl rfl; (case' hs => ((repeat (first | exact Spl.nil | apply Spl.here | apply Spl.there)); done)))))) ?_; rintro _ _ ⟨b80, rfl, rfl⟩
        refine JL.f1 ?_; refine JL.mem rfl rfl (OpM.appendH rfl (.inl ⟨_, Sl.und inferInstance⟩) (by rfl) rfl rfl (RdO.src (RdO.ofRow (.tail .head) (by first | decide | omega)) (by first | assumption | (simp; done) | (simp; omega))) (one1 rfl) (by simp only [maxLen]; omega) (by omega)) ?_; rintro _ _ ⟨⟨a81, c81, rfl⟩, rfl⟩
        refine JL.pure rfl rfl (OpP.assign rfl) ?_
        refine JL.nil ?_
        refine J.inBlock ?_
        refine J.region ?_
        refine JL.pure rfl rfl (OpP.move rfl) ?_
        refine JL.pure rfl rfl (OpP.addI rfl rfl (by omega) (by omega)) ?_
        refine JL.pure rfl rfl (OpP.assign rfl) ?_
        refine JL.nil ?_
        exact back2 (j + 1, _) (by dsimp only; omega) (by dsimp only; omega) (by repeat (first | exact SubEnv.nil | refine SubEnv.cons (by first | rfl | exact congrArg (fun z => some (Value.int .i64 z)) (by omega) | (simp; done)) ?_)) (fun _ h => by dsimp only; rw [htk]; exact Own.pick (pre := [_, _, _, _, _]) [0, 2, 3, 4] rfl h)
      · have hjl : j = W2.length := by omega
        subst hjl
        rw [List.take_length]
        rcases find_first_of (p := kO o.key) (es := W2) with ⟨m, e, q1, q2, q3⟩ | q
        · have hfind := map_findS (find_firstS q1 q2 q3)
          have heok := hW'.ok e (List.mem_of_getElem? q1)
          have hef := hW'.few e (List.mem_of_getElem? q1)
          have hml := (List.getElem?_eq_some_iff.1 q1).1
          have hf5 : e.d.dl.length ≤ 1000 := by have := hef.1; omega
          have hf6 : e.d.al.length ≤ 1000 := by have := hef.2; omega
          refine J.lit .head fun akv ckv ekv => ?_; subst ekv
          refine J.seq ?_
          refine J.seq ?_
          refine J.region ?_
          refine JL.pure rfl rfl (OpP.move rfl) ?_
          refine JL.pure rfl rfl (OpP.fieldAddr rfl) ?_
          refine JL.read rfl rfl (OpR.load1 rfl (Cell.row (.tail .head) rfl)) ?_
          refine JL.pure rfl rfl (OpP.len rfl rfl) ?_
          refine JL.decF rfl rfl (OpP.lss rfl rfl) (by omega) ?_
          refine JL.nil ?_
          refine J.condF rfl ?_
          refine J.exit rfl ?_
          refine J.seq ?_
          refine J.seq ?_
          refine J.regionD [3] (by kernel_rfl) ?_
          refine DL.pure (i := 0) (by kernel_rfl) (by kernel_rfl) rfl rfl rfl (OpP.move rfl) ?_
          refine DL.pure (i := 2) (by kernel_rfl) (by kernel_rfl) rfl rfl rfl (OpP.fieldAddr rfl) ?_
          refine DL.read (i := 3) (by kernel_rfl) (by kernel_rfl) rfl rfl rfl (fun _ h => h) (OpR.load1 rfl (Cell.row (.tail .head) rfl)) ?_
          refine DL.pure (i := 4) (by kernel_rfl) (by kernel_rfl) rfl rfl rfl (OpP.len rfl rfl) ?_
          refine DL.only (i := 1) (by kernel_rfl) ?_
          refine DL1.f3 ?_; refine DL1.stepK rfl rfl rfl (by exact OpW.call (first := []) (captured := []) inferInstance rfl rfl ELenO_ok) (by rintro _ _ ⟨rfl, rfl⟩ _ h; exact Own.pick (pre := [_, _, _, _]) [1, 2, 3, 0] rfl h) ?_; rintro r83 _ ⟨rfl, rfl⟩
          refine DL.decF (i := 5) (by kernel_rfl) (by kernel_rfl) rfl rfl rfl (OpP.neq rfl rfl) (by omega) ?_
          refine DL.pure (i := 6) (by kernel_rfl) (by kernel_rfl) rfl rfl rfl (OpP.move rfl) ?_
          refine DL.pure (i := 7) (by kernel_rfl) (by kernel_rfl) rfl rfl rfl (OpP.move rfl) ?_
          refine DL.pure (i := 9) (by kernel_rfl) (by kernel_rfl) rfl rfl rfl (OpP.move rfl) ?_
          refine DL.only (i := 8) (by kernel_rfl) ?_
          refine DL1.stepF rfl rfl rfl (by kernel_rfl) (by exact OpW.call (first := []) (captured := []) inferInstance rfl rfl EKeysO_ok) ?_; rintro r90 _ rfl
          refine DL.lit .head fun ar90 cr90 er90 => ?_; subst er90
          refine DL.only (i := 10) (by kernel_rfl) ?_
          refine DL1.stepF rfl rfl rfl (by kernel_rfl) (by exact OpW.call (first := []) (captured := []) inferInstance rfl rfl (SameT_ok (RdO.own .head) (RdO.own (.tail (.tail .head))) (by first | assumption | omega | rfl))) ?_; rintro r92 _ ⟨rfl, rfl⟩
          refine DL.pure (i := 11) (by kernel_rfl) (by kernel_rfl) rfl rfl rfl (OpP.notB rfl) ?_
          refine DL.pure (i := 12) (by kernel_rfl) (by kernel_rfl) rfl rfl rfl (OpP.pickF rfl rfl) ?_
          refine DL.done (by kernel_rfl) ?_
          refine J.condF rfl ?_
          refine J.skip ?_
          refine J.seq ?_
          refine J.region ?_
          refine JL.pure rfl rfl (OpP.move rfl) ?_
          refine JL.pure rfl rfl (OpP.move rfl) ?_
          refine JL.pure rfl rfl (OpP.move rfl) ?_
          refine JL.pure rfl rfl (OpP.indexAddr rfl rfl (by omega) (by omega)) ?_
          refine JL.pure rfl rfl (OpP.fieldAddr rfl) ?_
          refine JL.read rfl rfl (OpR.load1 rfl (by apply Cells.cellChunk (j := 1) ca (fun _ h => h.none); (case' h => assumption); (case' hi => assumption); (case' hv => rfl); (case' ho => omega); done)) ?_
          refine JL.f1 ?_; refine JL.step rfl rfl (OpW.call (first := []) (captured := []) inferInstance rfl rfl (EGetOS_ok hfind)) ?_; rintro r102 _ ⟨u1, ⟨u2, ⟨h102, ⟨h1021, ⟨rfl, rfl⟩⟩⟩⟩⟩
          refine JL.lit .head fun au1 cu1 eu1 => ?_; subst eu1
          refine JL.lit (.tail .head) fun au2 cu2 eu2 => ?_; subst eu2
          refine JL.pure rfl rfl (OpP.move rfl) ?_
          refine JL.pure rfl rfl (OpP.extract rfl rfl) ?_
          refine JL.pure rfl rfl (OpP.extract rfl rfl) ?_
          refine JL.mem rfl rfl OpM.alloc ?_; rintro _ _ ⟨b12, rfl, rfl⟩
          refine JL.mem0 rfl (by apply OpM.storeN rfl rfl (by rfl) (oneC rfl (oneC rfl (one1 rfl))); (case' hu => exact .head); (case' hs => exact (.here (.here (.here .nil)))); done) ?_; rintro _ _ ⟨rfl, rfl⟩
          refine JL.pure rfl rfl (OpP.assign rfl) ?_
          refine JL.nil ?_
          refine J.seq ?_
          refine J.regionD [0, 5] (by kernel_rfl) ?_
          refine DL.read (i := 0) (by kernel_rfl) (by kernel_rfl) rfl rfl rfl (fun _ h => h) (OpR.loadN rfl (Cells.full (.tail (.tail (.tail (.tail (.tail (.tail .head))))))) rfl) ?_
          refine DL.pure (i := 1) (by kernel_rfl) (by kernel_rfl) rfl rfl rfl (OpP.move rfl) ?_
          refine DL.pure (i := 2) (by kernel_rfl) (by kernel_rfl) rfl rfl rfl (OpP.move rfl) ?_
          refine DL.pure (i := 3) (by kernel_rfl) (by kernel_rfl) rfl rfl rfl (OpP.indexAddr rfl rfl (by omega) (by omega)) ?_
          refine DL.pure (i := 4) (by kernel_rfl) (by kernel_rfl) rfl rfl rfl (OpP.fieldAddr rfl) ?_
          refine DL.read (i := 5) (by kernel_rfl) (by kernel_rfl) rfl rfl rfl (fun _ h => h) (OpR.load1 rfl (by apply Cells.cellChunk (j := 1) ca (fun _ h => h.none); (case' h => assumption); (case' hi => assumption); (case' hv => rfl); (case' ho => omega); done)) ?_
          refine DL.only (i := 6) (by kernel_rfl) ?_
          refine DL1.stepF rfl rfl rfl (by kernel_rfl) (by exact OpW.call (first := []) (captured := []) inferInstance rfl rfl (RFindS_ok q1 q2 q3 (RdO.own (.tail (.tail (.tail (.tail (.tail (.tail (.tail .head)))))))) (by first | assumption | omega | rfl))) ?_; rintro r111 _ ⟨rfl, rfl⟩
          refine DL.pure (i := 7) (by kernel_rfl) (by kernel_rfl) rfl rfl rfl (OpP.assign rfl) ?_
          refine DL.done (by kernel_rfl) ?_
          refine J.seq ?_
          refine J.regionD [7, 9, 13, 22] (by kernel_rfl) ?_
          refine DL.pure (i := 0) (by kernel_rfl) (by kernel_rfl) rfl rfl rfl (OpP.move rfl) ?_
          refine DL.pure (i := 1) (by kernel_rfl) (by kernel_rfl) rfl rfl rfl (OpP.move rfl) ?_
          refine DL.decT (i := 2) (by kernel_rfl) (by kernel_rfl) rfl rfl rfl (OpP.geq rfl rfl) (by omega) ?_
          refine DL.decF (i := 3) (by kernel_rfl) (by kernel_rfl) rfl rfl rfl (OpP.neBool rfl rfl) (by decide) ?_
          refine DL.pure (i := 4) (by kernel_rfl) (by kernel_rfl) rfl rfl rfl (OpP.move rfl) ?_
          refine DL.pure (i := 5) (by kernel_rfl) (by kernel_rfl) rfl rfl rfl (OpP.move rfl) ?_
          refine DL.pure (i := 6) (by kernel_rfl) (by kernel_rfl) rfl rfl rfl (OpP.move rfl) ?_
          refine DL.read (i := 7) (by kernel_rfl) (by kernel_rfl) rfl rfl rfl (fun _ h => h) (OpR.loadN rfl (Cells.full .head) rfl) ?_
          refine DL.pure (i := 8) (by kernel_rfl) (by kernel_rfl) rfl rfl rfl (OpP.fieldAddr rfl) ?_
          refine DL.read (i := 9) (by kernel_rfl) (by kernel_rfl) rfl rfl rfl (fun _ h => h) (OpR.load1 rfl (Cell.row (.tail (.tail (.tail (.tail (.tail (.tail .head)))))) rfl)) ?_
          refine DL.pure (i := 10) (by kernel_rfl) (by kernel_rfl) rfl rfl rfl (OpP.move rfl) ?_
          refine DL.ownSome (.tail (.tail (.tail (.tail (.tail (.tail (.tail .head))))))) (by omega) fun gav' pav' eav' kav' => ?_; subst eav'
          refine DL.pure (i := 11) (by kernel_rfl) (by kernel_rfl) rfl rfl rfl (OpP.indexAddr rfl rfl (by omega) (by omega)) ?_
          refine DL.pure (i := 12) (by kernel_rfl) (by kernel_rfl) rfl rfl rfl (OpP.fieldAddr rfl) ?_
          refine DL.read (i := 13) (by kernel_rfl) (by kernel_rfl) rfl rfl rfl (fun _ h => h) (OpR.loadN rfl (by apply Cells.chunkSub (j := 4) (m := 3) (Cells.own (.tail (.tail (.tail (.tail (.tail (.tail (.tail .head)))))))) (fun _ h => h); (case' h => assumption); (case' hi => assumption); (case' hv => rfl); (case' ho => omega); done) (by rfl)) ?_
          refine DL.only (i := 14) (by kernel_rfl) ?_
          refine DL1.stepK rfl rfl rfl (by exact OpW.call (first := []) (captured := []) inferInstance rfl rfl (SameE_ok (d := ⟨e.d.an, .slice au1 e.d.dl.length cu1, .slice au2 e.d.al.length cu2, e.d.dl, e.d.al⟩) (e := e.d) (by simp [sameD]) ⟨RdO.own (.tail .head), RdO.own (.tail (.tail .head)), hf5, hf6⟩ (heok.rd hef))) (by rintro _ _ ⟨rfl, rfl⟩ _ h; exact Own.pick (pre := [_, _, _, _, _, _, _, _]) [0, 1, 2, 3, 4, 5, 6, 7] rfl h) ?_; rintro r126 _ ⟨rfl, rfl⟩
          refine DL.pure (i := 15) (by kernel_rfl) (by kernel_rfl) rfl rfl rfl (OpP.notB rfl) ?_
          refine DL.pure (i := 16) (by kernel_rfl) (by kernel_rfl) rfl rfl rfl (OpP.pickT rfl rfl) ?_
          refine DL.pure (i := 17) (by kernel_rfl) (by kernel_rfl) rfl rfl rfl (OpP.pickF rfl rfl) ?_
          refine DL.pure (i := 18) (by kernel_rfl) (by kernel_rfl) rfl rfl rfl (OpP.move rfl) ?_
          refine DL.pure (i := 19) (by kernel_rfl) (by kernel_rfl) rfl rfl rfl (OpP.move rfl) ?_
          refine DL.pure (i := 20) (by kernel_rfl) (by kernel_rfl) rfl rfl rfl (OpP.notB rfl) ?_
          refine DL.pure (i := 21) (by kernel_rfl) (by kernel_rfl) rfl rfl rfl (OpP.move rfl) ?_
          refine DL.skip (i := 22) (by kernel_rfl) (by kernel_rfl) rfl rfl rfl ?_
          refine DL.skip (i := 23) (by kernel_rfl) (by kernel_rfl) rfl rfl rfl ?_
          refine DL.skip (i := 24) (by kernel_rfl) (by kernel_rfl) rfl rfl rfl ?_
          refine DL.skip (i := 25) (by kernel_rfl) (by kernel_rfl) rfl rfl rfl ?_
          refine DL.pure (i := 26) (by kernel_rfl) (by kernel_rfl) rfl rfl rfl (OpP.pickF rfl rfl) ?_
          refine DL.pure (i := 27) (by kernel_rfl) (by kernel_rfl) rfl rfl rfl (OpP.pickF rfl rfl) ?_
          refine DL.done (by kernel_rfl) ?_
          refine J.condF rfl ?_
          refine J.skip ?_
          refine J.inBlock ?_
          refine J.region ?_
          refine JL.pure rfl rfl (OpP.move rfl) ?_
          refine JL.pure rfl rfl (OpP.addI rfl rfl (by omega) (by omega)) ?_
          refine JL.pure rfl rfl (OpP.assign rfl) ?_
          refine JL.nil ?_
          exact back (i + 1, W2, _) ⟨by dsimp only; omega, hW'⟩ (by dsimp only; omega) (by repeat (first | exact SubEnv.nil | refine SubEnv.cons (by first | rfl | exact congrArg (fun z => some (Value.int .i64 z)) (by omega) | (simp; done)) ?_)) (fun _ h => Own.pick (pre := [_, _, _, _, _, _, _, _]) [6, 7, 3] rfl h)
        · have hfind := map_findN q
          refine J.lit .head fun akv ckv ekv => ?_; subst ekv
          refine J.seq ?_
          refine J.seq ?_
          refine J.region ?_
          refine JL.pure rfl rfl (OpP.move rfl) ?_
          refine JL.pure rfl rfl (OpP.fieldAddr rfl) ?_
          refine JL.read rfl rfl (OpR.load1 rfl (Cell.row (.tail .head) rfl)) ?_
          refine JL.pure rfl rfl (OpP.len rfl rfl) ?_
          refine JL.decF rfl rfl (OpP.lss rfl rfl) (by omega) ?_
          refine JL.nil ?_
          refine J.condF rfl ?_
          refine J.exit rfl ?_
          refine J.seq ?_
          refine J.seq ?_
          refine J.regionD [3] (by kernel_rfl) ?_
          refine DL.pure (i := 0) (by kernel_rfl) (by kernel_rfl) rfl rfl rfl (OpP.move rfl) ?_
          refine DL.pure (i := 2) (by kernel_rfl) (by kernel_rfl) rfl rfl rfl (OpP.fieldAddr rfl) ?_
          refine DL.read (i := 3) (by kernel_rfl) (by kernel_rfl) rfl rfl rfl (fun _ h => h) (OpR.load1 rfl (Cell.row (.tail .head) rfl)) ?_
          refine DL.pure (i := 4) (by kernel_rfl) (by kernel_rfl) rfl rfl rfl (OpP.len rfl rfl) ?_
          refine DL.only (i := 1) (by kernel_rfl) ?_
          refine DL1.f3 ?_; refine DL1.stepK rfl rfl rfl (by exact OpW.call (first := []) (captured := []) inferInstance rfl rfl ELenO_ok) (by rintro _ _ ⟨rfl, rfl⟩ _ h; exact Own.pick (pre := [_, _, _, _]) [1, 2, 3, 0] rfl h) ?_; rintro r83 _ ⟨rfl, rfl⟩
          refine DL.decF (i := 5) (by kernel_rfl) (by kernel_rfl) rfl rfl rfl (OpP.neq rfl rfl) (by omega) ?_
          refine DL.pure (i := 6) (by kernel_rfl) (by kernel_rfl) rfl rfl rfl (OpP.move rfl) ?_
          refine DL.pure (i := 7) (by kernel_rfl) (by kernel_rfl) rfl rfl rfl (OpP.move rfl) ?_
          refine DL.pure (i := 9) (by kernel_rfl) (by kernel_rfl) rfl rfl rfl (OpP.move rfl) ?_
          refine DL.only (i := 8) (by kernel_rfl) ?_
          refine DL1.stepF rfl rfl rfl (by kernel_rfl) (by exact OpW.call (first := []) (captured := []) inferInstance rfl rfl EKeysO_ok) ?_; rintro r90 _ rfl
          refine DL.lit .head fun ar90 cr90 er90 => ?_; subst er90
          refine DL.only (i := 10) (by kernel_rfl) ?_
          refine DL1.stepF rfl rfl rfl (by kernel_rfl) (by exact OpW.call (first := []) (captured := []) inferInstance rfl rfl (SameT_ok (RdO.own .head) (RdO.own (.tail (.tail .head))) (by first | assumption | omega | rfl))) ?_; rintro r92 _ ⟨rfl, rfl⟩
          refine DL.pure (i := 11) (by kernel_rfl) (by kernel_rfl) rfl rfl rfl (OpP.notB rfl) ?_
          refine DL.pure (i := 12) (by kernel_rfl) (by kernel_rfl) rfl rfl rfl (OpP.pickF rfl rfl) ?_
          refine DL.done (by kernel_rfl) ?_
          refine J.condF rfl ?_
          refine J.skip ?_
          refine J.seq ?_
          refine J.region ?_
          refine JL.pure rfl rfl (OpP.move rfl) ?_
          refine JL.pure rfl rfl (OpP.move rfl) ?_
          refine JL.pure rfl rfl (OpP.move rfl) ?_
          refine JL.pure rfl rfl (OpP.indexAddr rfl rfl (by omega) (by omega)) ?_
          refine JL.pure rfl rfl (OpP.fieldAddr rfl) ?_
          refine JL.read rfl rfl (OpR.load1 rfl (by apply Cells.cellChunk (j := 1) ca (fun _ h => h.none); (case' h => assumption); (case' hi => assumption); (case' hv => rfl); (case' ho => omega); done)) ?_
          refine JL.f1 ?_; refine JL.step rfl rfl (OpW.call (first := []) (captured := []) inferInstance rfl rfl (EGetN_ok hfind)) ?_; rintro r102 _ ⟨rfl, rfl⟩
          refine JL.pure rfl rfl (OpP.move rfl) ?_
          refine JL.pure rfl rfl (OpP.extract rfl rfl) ?_
          refine JL.pure rfl rfl (OpP.extract rfl rfl) ?_
          refine JL.mem rfl rfl OpM.alloc ?_; rintro _ _ ⟨b12, rfl, rfl⟩
          refine JL.mem0 rfl (by apply OpM.storeN rfl rfl (by rfl) (oneC rfl (oneC rfl (one1 rfl))); (case' hu => exact .head); (case' hs => exact (.here (.here (.here .nil)))); done) ?_; rintro _ _ ⟨rfl, rfl⟩
          refine JL.pure rfl rfl (OpP.assign rfl) ?_
          refine JL.nil ?_
          refine J.seq ?_
          refine J.regionD [0, 5] (by kernel_rfl) ?_
          refine DL.read (i := 0) (by kernel_rfl) (by kernel_rfl) rfl rfl rfl (fun _ h => h) (OpR.loadN rfl (Cells.full (.tail (.tail (.tail (.tail .head))))) rfl) ?_
          refine DL.pure (i := 1) (by kernel_rfl) (by kernel_rfl) rfl rfl rfl (OpP.move rfl) ?_
          refine DL.pure (i := 2) (by kernel_rfl) (by kernel_rfl) rfl rfl rfl (OpP.move rfl) ?_
          refine DL.pure (i := 3) (by kernel_rfl) (by kernel_rfl) rfl rfl rfl (OpP.indexAddr rfl rfl (by omega) (by omega)) ?_
          refine DL.pure (i := 4) (by kernel_rfl) (by kernel_rfl) rfl rfl rfl (OpP.fieldAddr rfl) ?_
          refine DL.read (i := 5) (by kernel_rfl) (by kernel_rfl) rfl rfl rfl (fun _ h => h) (OpR.load1 rfl (by apply Cells.cellChunk (j := 1) ca (fun _ h => h.none); (case' h => assumption); (case' hi => assumption); (case' hv => rfl); (case' ho => omega); done)) ?_
          refine DL.only (i := 6) (by kernel_rfl) ?_
          refine DL1.stepF rfl rfl rfl (by kernel_rfl) (by exact OpW.call (first := []) (captured := []) inferInstance rfl rfl (RFindN_ok q (RdO.own (.tail (.tail (.tail (.tail (.tail .head)))))) (by first | assumption | omega | rfl))) ?_; rintro r111 _ ⟨rfl, rfl⟩
          refine DL.pure (i := 7) (by kernel_rfl) (by kernel_rfl) rfl rfl rfl (OpP.assign rfl) ?_
          refine DL.done (by kernel_rfl) ?_
          refine J.seq ?_
          refine J.regionD [7, 9, 13, 22] (by kernel_rfl) ?_
          refine DL.pure (i := 0) (by kernel_rfl) (by kernel_rfl) rfl rfl rfl (OpP.move rfl) ?_
          refine DL.pure (i := 1) (by kernel_rfl) (by kernel_rfl) rfl rfl rfl (OpP.move rfl) ?_
          refine DL.decF (i := 2) (by kernel_rfl) (by kernel_rfl) rfl rfl rfl (OpP.geq rfl rfl) (by omega) ?_
          refine DL.decF (i := 3) (by kernel_rfl) (by kernel_rfl) rfl rfl rfl (OpP.neBool rfl rfl) (by decide) ?_
          refine DL.pure (i := 4) (by kernel_rfl) (by kernel_rfl) rfl rfl rfl (OpP.move rfl) ?_
          refine DL.pure (i := 5) (by kernel_rfl) (by kernel_rfl) rfl rfl rfl (OpP.move rfl) ?_
          refine DL.pure (i := 6) (by kernel_rfl) (by kernel_rfl) rfl rfl rfl (OpP.move rfl) ?_
          refine DL.skip (i := 7) (by kernel_rfl) (by kernel_rfl) rfl rfl rfl ?_
          refine DL.skip (i := 8) (by kernel_rfl) (by kernel_rfl) rfl rfl rfl ?_
          refine DL.skip (i := 9) (by kernel_rfl) (by kernel_rfl) rfl rfl rfl ?_
          refine DL.skip (i := 10) (by kernel_rfl) (by kernel_rfl) rfl rfl rfl ?_
          refine DL.skip (i := 11) (by kernel_rfl) (by kernel_rfl) rfl rfl rfl ?_
          refine DL.skip (i := 12) (by kernel_rfl) (by kernel_rfl) rfl rfl rfl ?_
          refine DL.skip (i := 13) (by kernel_rfl) (by kernel_rfl) rfl rfl rfl ?_
          refine DL.skip (i := 14) (by kernel_rfl) (by kernel_rfl) rfl rfl rfl ?_
          refine DL.skip (i := 15) (by kernel_rfl) (by kernel_rfl) rfl rfl rfl ?_
          refine DL.pure (i := 16) (by kernel_rfl) (by kernel_rfl) rfl rfl rfl (OpP.pickF rfl rfl) ?_
          refine DL.pure (i := 17) (by kernel_rfl) (by kernel_rfl) rfl rfl rfl (OpP.pickF rfl rfl) ?_
          refine DL.pure (i := 18) (by kernel_rfl) (by kernel_rfl) rfl rfl rfl (OpP.move rfl) ?_
          refine DL.pure (i := 19) (by kernel_rfl) (by kernel_rfl) rfl rfl rfl (OpP.move rfl) ?_
          refine DL.pure (i := 20) (by kernel_rfl) (by kernel_rfl) rfl rfl rfl (OpP.notB rfl) ?_
          refine DL.pure (i := 21) (by kernel_rfl) (by kernel_rfl) rfl rfl rfl (OpP.move rfl) ?_
          refine DL.read (i := 22) (by kernel_rfl) (by kernel_rfl) rfl rfl rfl (fun _ h => h) (OpR.loadN rfl (Cells.full .head) rfl) ?_
          refine DL.pure (i := 23) (by kernel_rfl) (by kernel_rfl) rfl rfl rfl (OpP.build rfl (by (repeat (first | exact Fills.nil | (apply Fills.cons rfl rfl rfl; (case' hs => ((repeat (first | exact Spl.nil | apply Spl.here | apply Spl.there)); done))))))) ?_
          refine DL.only (i := 24) (by kernel_rfl) ?_
          refine DL1.stepF rfl rfl rfl (by kernel_rfl) (by exact OpW.call (first := []) (captured := []) inferInstance rfl rfl SameZ_ok) ?_; rintro r136 _ ⟨rfl, rfl⟩
          refine DL.pure (i := 25) (by kernel_rfl) (by kernel_rfl) rfl rfl rfl (OpP.notB rfl) ?_
          refine DL.pure (i := 26) (by kernel_rfl) (by kernel_rfl) rfl rfl rfl (OpP.pickT rfl rfl) ?_
          refine DL.pure (i := 27) (by kernel_rfl) (by kernel_rfl) rfl rfl rfl (OpP.pickF rfl rfl) ?_
          refine DL.done (by kernel_rfl) ?_
          refine J.condF rfl ?_
          refine J.skip ?_
          refine J.inBlock ?_
          refine J.region ?_
          refine JL.pure rfl rfl (OpP.move rfl) ?_
          refine JL.pure rfl rfl (OpP.addI rfl rfl (by omega) (by omega)) ?_
          refine JL.pure rfl rfl (OpP.assign rfl) ?_
          refine JL.nil ?_
          exact back (i + 1, W2, _) ⟨by dsimp only; omega, hW'⟩ (by dsimp only; omega) (by repeat (first | exact SubEnv.nil | refine SubEnv.cons (by first | rfl | exact congrArg (fun z => some (Value.int .i64 z)) (by omega) | (simp; done)) ?_)) (fun _ h => Own.pick (pre := [_, _, _, _, _, _]) [4, 5, 1] rfl h)
    · by_cases hk2 : o.k % 4 = 2
      · have hN2 := hN hk2
        refine J.seq ?_
        refine J.region ?_
        refine JL.pure rfl rfl (OpP.move rfl) ?_
        refine JL.pure rfl rfl (OpP.move rfl) ?_
        refine JL.pure rfl rfl (OpP.indexAddr rfl rfl (by omega) (by omega)) ?_
        refine JL.pure rfl rfl (OpP.fieldAddr rfl) ?_
        refine JL.read rfl rfl (OpR.load1 rfl (by apply Cells.cellChunk (j := 0) ca (fun _ h => h.none); (case' h => assumption); (case' hi => assumption); (case' hv => rfl); (case' ho => omega); done)) ?_
        refine JL.pure rfl rfl (OpP.remI rfl rfl (by omega) (by omega)) ?_
        refine JL.decT rfl rfl (OpP.eql rfl rfl) (by omega) ?_
        refine JL.pure rfl rfl (OpP.move rfl) ?_
        refine JL.pure rfl rfl (OpP.move rfl) ?_
        refine JL.pure rfl rfl (OpP.move rfl) ?_
        refine JL.pure rfl rfl (OpP.fieldAddr rfl) ?_
        refine JL.read rfl rfl (OpR.load1 rfl (Cell.row (.tail (.tail .head)) rfl)) ?_
        refine JL.pure rfl rfl (OpP.len rfl rfl) ?_
        refine JL.pure rfl rfl (OpP.subI rfl rfl (by omega) (by omega)) ?_
        refine JL.decF rfl rfl (OpP.neq rfl rfl) (by omega) ?_
        refine JL.pure rfl rfl (OpP.pickT rfl rfl) ?_
        refine JL.nil ?_
        refine J.condF rfl ?_
        refine J.skip ?_
        exact go () trivial (by repeat (first | exact SubEnv.nil | refine SubEnv.cons (by first | rfl | exact congrArg (fun z => some (Value.int .i64 z)) (by omega) | (simp; done)) ?_)) (fun _ h => Own.pick (pre := [_, _, _]) [2, 0, 1] rfl h)
      · refine J.seq ?_
        refine J.region ?_
        refine JL.pure rfl rfl (OpP.move rfl) ?_
        refine JL.pure rfl rfl (OpP.move rfl) ?_
        refine JL.pure rfl rfl (OpP.indexAddr rfl rfl (by omega) (by omega)) ?_
        refine JL.pure rfl rfl (OpP.fieldAddr rfl) ?_
        refine JL.read rfl rfl (OpR.load1 rfl (by apply Cells.cellChunk (j := 0) ca (fun _ h => h.none); (case' h => assumption); (case' hi => assumption); (case' hv => rfl); (case' ho => omega); done)) ?_
        refine JL.pure rfl rfl (OpP.remI rfl rfl (by omega) (by omega)) ?_
        refine JL.decF rfl rfl (OpP.eql rfl rfl) (by omega) ?_
        refine JL.pure rfl rfl (OpP.move rfl) ?_
        refine JL.skip rfl rfl ?_
        refine JL.skip rfl rfl ?_
        refine JL.skip rfl rfl ?_
        refine JL.skip rfl rfl ?_
        refine JL.skip rfl rfl ?_
        refine JL.skip rfl rfl ?_
        refine JL.skip rfl rfl ?_
        refine JL.pure rfl rfl (OpP.pickF rfl rfl) ?_
        refine JL.nil ?_
        refine J.condF rfl ?_
        refine J.skip ?_
        exact go () trivial (by repeat (first | exact SubEnv.nil | refine SubEnv.cons (by first | rfl | exact congrArg (fun z => some (Value.int .i64 z)) (by omega) | (simp; done)) ?_)) (fun _ h => Own.pick (pre := [_, _, _]) [2, 0, 1] rfl h)
  · refine J.lit (.tail .head) fun avW cvW evW => ?_; subst evW
    refine J.seq ?_
    refine J.seq ?_
    refine J.region ?_
    refine JL.pure rfl rfl (OpP.move rfl) ?_
    refine JL.pure rfl rfl (OpP.move rfl) ?_
    refine JL.pure rfl rfl (OpP.len rfl rfl) ?_
    refine JL.decF rfl rfl (OpP.lss rfl rfl) (by omega) ?_
    refine JL.nil ?_
    refine J.condF rfl ?_
    refine J.exit rfl ?_
    refine J.seq ?_
    refine J.region ?_
    refine JL.pure rfl rfl (OpP.assign rfl) ?_
    refine JL.nil ?_
    refine J.ret1 rfl rfl ?_
    rfl
end Go.Proofs.A
