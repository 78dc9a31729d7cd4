/- A text of the proof of a statement about the given program: its part ACRef. No person has read it. -/
import Derived.Test.YtmfdjjbmckdmfaaACacheLaw
import Derived.Test.YtmfdjjbmckdmfaaJ20
import Derived.Test.YtmfdjjbmckdmfaaJ20
-- seat a
namespace Go.Proofs.A
open Go Go.Gp Go.RowKit

theorem ocl_one {o : OpC} {w0 : World} (h : o.Ok w0) : ∀ u ∈ ocl o, u.oneCell' = true := by
  obtain ⟨da, dc, hd⟩ := h.dv.lit
  obtain ⟨aa, ac, ha⟩ := h.av.lit
  exact oneC rfl (oneC rfl (oneC rfl (oneC rfl (oneC rfl (oneC (by rw [hd]; rfl) (oneC (by rw [ha]; rfl) (one1 rfl)))))))
theorem ocls_one {w0 : World} {l : List OpC} (h : ∀ o ∈ l, o.Ok w0) : ∀ u ∈ l.flatMap ocl, u.oneCell' = true := by
  intro u hu
  obtain ⟨o, ho, hu⟩ := List.mem_flatMap.1 hu
  exact ocl_one (h o ho) u hu
def kO (key : Str) (o : OpC) : Bool := decide (o.key = key)
def FirstO (p : OpC → Bool) (es : List OpC) (v : Int) : Prop :=
  (∃ i e, v = (i : Nat) ∧ es[i]? = some e ∧ p e = true ∧ ∀ j f, j < i → es[j]? = some f → p f = false) ∨ (v = -1 ∧ ∀ e ∈ es, p e = false)

theorem RFind_ok {w0 : World} {F : List HProp} {n : Int} {key : Str} {v : Value} {L : List OpC} (hr : RdO w0 F v L.length (L.flatMap ocl)) (hl : L.length ≤ 1000) :
    FnO Try.prog w0 38 [.agg #[.int .i64 n, v], .string key] F (fun u l' => (∃ x, u = .int .i64 x ∧ FirstO (kO key) L x) ∧ l' = F) := by
  refine FnO.rd hr fun hr' => ?_
  obtain ⟨a, c, rfl⟩ := hr'.lit
  refine FnO.weak ?_
  refine FnO.intro (n := 22) Try.func38 rfl rfl rfl ?_
  refine J.seq ?_
  refine J.region ?_
  refine JL.mem rfl rfl (OpM.box rfl rfl) ?_; rintro _ _ ⟨b2, rfl, rfl⟩
  refine JL.pure rfl rfl (OpP.assign rfl) ?_
  refine JL.nil ?_
  refine J.seq ?_
  refine J.seq ?_
  refine J.region ?_
  refine JL.pure rfl rfl (OpP.assign rfl) ?_
  refine JL.nil ?_
  refine J.block ?_
  have hr2 : Rd w0 (row b2 77 [.int .i64 n, .slice a L.length c] :: F) (.slice a L.length c) L.length (L.flatMap ocl) := hr'.conv fun _ h => h.tail
  refine J.loopI (fun i : Nat => L.length - i) (fun i => i ≤ L.length ∧ ∀ j f, j < i → L[j]? = some f → kO key f = false) (fun i => [(5, .int .i64 (i : Nat)), (2, .pointer (some ⟨b2, 0, none⟩)), (1, .string key)])
    (fun _ => row b2 77 [.int .i64 n, .slice a L.length c] :: F) 0 ⟨Nat.zero_le _, fun _ _ h => by omega⟩ (by repeat (first | exact SubEnv.nil | refine SubEnv.cons (by first | rfl | exact congrArg (fun z => some (Value.int .i64 z)) (by omega) | (simp; done)) ?_)) (fun _ h => h) (fun i ⟨hi, hf⟩ back => ?_)
  have h8 := ocl_len L
  by_cases hlt : i < L.length
  · obtain ⟨e, he⟩ : ∃ e, L[i]? = some e := ⟨_, List.getElem?_eq_getElem hlt⟩
    refine J.seq ?_
    refine J.seq ?_
    refine J.region ?_
    refine JL.pure rfl rfl (OpP.move rfl) ?_
    refine JL.pure rfl rfl (OpP.fieldAddr rfl) ?_
    refine JL.read rfl rfl (OpR.load1 rfl (Cell.row .head rfl)) ?_
    refine JL.pure rfl rfl (OpP.len rfl rfl) ?_
    refine JL.decT rfl rfl (OpP.lss rfl rfl) (by omega) ?_
    refine JL.nil ?_
    refine J.condT rfl ?_
    refine J.skip ?_
    refine J.seq ?_
    refine J.block ?_
    refine J.seq ?_
    refine J.region ?_
    refine JL.pure rfl rfl (OpP.fieldAddr rfl) ?_
    refine JL.read rfl rfl (OpR.load1 rfl (Cell.row .head rfl)) ?_
    refine JL.pure rfl rfl (OpP.move rfl) ?_
    obtain ⟨ga, pa, qa, ea, ka, ca⟩ := hr'.pos (by omega); cases ea
    refine JL.pure rfl rfl (OpP.indexAddr rfl rfl (by omega) (by omega)) ?_
    refine JL.pure rfl rfl (OpP.fieldAddr rfl) ?_
    refine JL.read rfl rfl (OpR.load1 rfl (by apply Cells.cellChunk (j := 1) ca (fun _ h => Own.pick (pre := [_]) [] rfl h); (case' h => assumption); (case' hi => assumption); (case' hv => rfl); (case' ho => omega); done)) ?_
    refine JL.pure rfl rfl (OpP.move rfl) ?_
    refine JL.dec rfl rfl (OpP.eqStr rfl rfl) (fun h20 => ?_) (fun h20 => ?_)
    focus
      refine JL.nil ?_
      refine J.condT rfl ?_
      refine J.seq ?_
      refine J.region ?_
      refine JL.pure rfl rfl (OpP.move rfl) ?_
      refine JL.pure rfl rfl (OpP.assign rfl) ?_
      refine JL.nil ?_
      refine J.ret1 rfl rfl ?_
    rotate_left 1
    focus
      refine JL.nil ?_
      refine J.condF rfl ?_
      refine J.skip ?_
      refine J.inBlock ?_
      refine J.region ?_
      refine JL.pure rfl rfl (OpP.move rfl) ?_
      refine JL.pure rfl rfl (OpP.addI rfl rfl (by omega) (by omega)) ?_
      refine JL.pure rfl rfl (OpP.assign rfl) ?_
      refine JL.nil ?_
    rotate_left 1
    · exact ⟨_, ⟨⟨_, rfl, .inl ⟨i, e, rfl, he, decide_eq_true h20, hf⟩⟩, rfl⟩, fun _ h => h.tail⟩
    · refine back (i + 1) ⟨by omega, fun j f hj hjf => ?_⟩ (by omega) (by repeat (first | exact SubEnv.nil | refine SubEnv.cons (by first | rfl | exact congrArg (fun z => some (Value.int .i64 z)) (by omega) | (simp; done)) ?_)) (fun _ h => h)
      by_cases hji : j < i
      · exact hf j f hji hjf
      · obtain rfl : j = i := by omega
        rw [he] at hjf; cases hjf; exact decide_eq_false h20
  · refine J.seq ?_
    refine J.seq ?_
    refine J.region ?_
    refine JL.pure rfl rfl (OpP.move rfl) ?_
    refine JL.pure rfl rfl (OpP.fieldAddr rfl) ?_
    refine JL.read rfl rfl (OpR.load1 rfl (Cell.row .head rfl)) ?_
    refine JL.pure rfl rfl (OpP.len rfl rfl) ?_
    refine JL.decF rfl rfl (OpP.lss rfl rfl) (by omega) ?_
    refine JL.nil ?_
    refine J.condF rfl ?_
    refine J.exit rfl ?_
    refine J.seq ?_
    refine J.region ?_
    refine JL.pure rfl rfl (OpP.assign rfl) ?_
    refine JL.nil ?_
    refine J.ret1 rfl rfl ?_
    refine ⟨_, ⟨⟨_, rfl, .inr ⟨rfl, fun e he => ?_⟩⟩, rfl⟩, fun _ h => h.tail⟩
    obtain ⟨j, hj⟩ := List.getElem?_of_mem he
    exact hf j e (by have := (List.getElem?_eq_some_iff.1 hj).1; omega) hj

theorem without_ok {w0 : World} {F : List HProp} {n : Int} {i : Nat} {v : Value} {L : List OpC} (hr : RdO w0 F v L.length (L.flatMap ocl)) (hl : L.length ≤ 1000) (hi : i < L.length) (ho : ∀ o ∈ L, o.Ok w0) :
    FnO Try.prog w0 49 [.agg #[.int .i64 n, v], .int .i64 i] F (fun u l' => ∃ v', u = .agg #[.int .i64 n, v'] ∧ l' = own 71 8 v' (L.length - 1) ((L.eraseIdx i).flatMap ocl) :: F) := by
  refine FnO.rd hr fun hr' => ?_
  obtain ⟨b, p, c, rfl, hc, hcs⟩ := hr'.pos (by omega)
  refine FnO.weak ?_
  refine FnO.intro (n := 22) Try.func49 rfl rfl rfl ?_
  have hlen : (L.flatMap ocl).length = L.length * 8 := chunk_length (ocl_len L)
  have hTo := hr.to 8 (k := i) (by omega)
  have hFrom := hr.from 8 (k := i + 1) (by omega) hlen
  rw [chunk_take (ocl_len L)] at hTo
  rw [chunk_drop (ocl_len L)] at hFrom
  have ho1 := ocls_one fun o h => ho o (List.mem_of_mem_take (i := i) h)
  have ho2 := ocls_one fun o h => ho o (List.mem_of_mem_drop (i := i + 1) h)
  have hl1 : ((L.take i).flatMap ocl).length = i * 8 := by rw [chunk_length (ocl_len _), List.length_take, Nat.min_eq_left (by omega)]
  have hl2 : ((L.drop (i + 1)).flatMap ocl).length = (L.length - (i + 1)) * 8 := by rw [chunk_length (ocl_len _), List.length_drop]
  refine J.seq ?_
  refine J.region ?_
  refine JL.mem rfl rfl (OpM.box rfl rfl) ?_; rintro _ _ ⟨b2, rfl, rfl⟩
  refine JL.mem rfl rfl OpM.alloc ?_; rintro _ _ ⟨b4, rfl, rfl⟩
  refine JL.nil ?_
  refine J.seq ?_
  refine J.region ?_
  refine JL.mem rfl rfl (by apply OpM.buildSlice (by rfl) rfl (by rfl); (repeat (first | exact Fills.nil | (apply Fills.cons rfl rfl rfl; (case' hs => ((repeat (first | exact Spl.nil | apply Spl.here | apply Spl.there)); done)))))) ?_; rintro _ _ ⟨b6, rfl, rfl⟩
  refine JL.pure rfl rfl (OpP.fieldAddr rfl) ?_
  refine JL.read rfl rfl (OpR.load1 rfl (Cell.row (.tail (.tail .head)) rfl)) ?_
  refine JL.pure rfl rfl (OpP.move rfl) ?_
  refine JL.pure rfl rfl (OpP.sliceTo _ rfl rfl rfl (by omega)) ?_
  refine JL.ownRow (n := 0) (sz := 8) (by decide) rfl ?_
  refine JL.mem rfl rfl (OpM.appendH0 rfl rfl (.inl ⟨_, Sl.und inferInstance⟩) (by rfl) rfl rfl (RdO.src (hTo.conv fun _ h => Own.pick (pre := [_, _, _]) [] rfl h) (by first | assumption | (simp; done) | (simp; omega))) (by first | exact bcells_one _ | exact scells_one _ | exact icells_one _ | assumption) (by simp only [maxLen]; omega) (by omega)) ?_; rintro _ _ ⟨⟨a11, c11, rfl⟩, rfl⟩
  refine JL.pure rfl rfl (OpP.assign rfl) ?_
  refine JL.nil ?_
  refine J.seq ?_
  refine J.regionX0 [1, 4] (by kernel_rfl) ?_
  refine DL.pure (i := 0) (by kernel_rfl) (by kernel_rfl) rfl rfl rfl (OpP.fieldAddr rfl) ?_
  refine DL.read (i := 1) (by kernel_rfl) (by kernel_rfl) rfl rfl rfl (fun _ h => Own.pick (pre := [_, _, _]) [1, 2] rfl h) (OpR.load1 rfl (Cell.row (.tail .head) rfl)) ?_
  refine DL.pure (i := 2) (by kernel_rfl) (by kernel_rfl) rfl rfl rfl (OpP.move rfl) ?_
  refine DL.pure (i := 3) (by kernel_rfl) (by kernel_rfl) rfl rfl rfl (OpP.fieldAddr rfl) ?_
  refine DL.read (i := 4) (by kernel_rfl) (by kernel_rfl) rfl rfl rfl (fun _ h => Own.pick (pre := [_, _, _]) [1, 2] rfl h) (OpR.load1 rfl (Cell.row (.tail .head) rfl)) ?_
  refine DL.pure (i := 5) (by kernel_rfl) (by kernel_rfl) rfl rfl rfl (OpP.move rfl) ?_
  refine DL.pure (i := 6) (by kernel_rfl) (by kernel_rfl) rfl rfl rfl (OpP.addI rfl rfl (by omega) (by omega)) ?_
  refine DL.pure (i := 7) (by kernel_rfl) (by kernel_rfl) rfl rfl rfl (OpP.sliceFrom (_ + 1) rfl rfl rfl (by omega) (by omega)) ?_
  refine DL.only (i := 8) (by kernel_rfl) ?_
  refine DL1.stepK rfl rfl rfl (OpM.w (OpM.appendH rfl (.inl ⟨_, Sl.und inferInstance⟩) (by rfl) rfl rfl (RdO.src (hFrom.conv fun _ h => Own.pick (pre := [_, _, _]) [] rfl h) (by first | assumption | (simp; done) | (simp; omega))) (by first | exact bcells_one _ | exact scells_one _ | exact icells_one _ | assumption) (by simp only [maxLen]; omega) (by omega))) (by rintro _ _ ⟨⟨a20, c20, rfl⟩, rfl⟩ _ h; exact Own.pick (pre := [_, _, _]) [1, 2] rfl h) ?_; rintro _ _ ⟨⟨a20, c20, rfl⟩, rfl⟩
  refine DL.pure (i := 9) (by kernel_rfl) (by kernel_rfl) rfl rfl rfl (OpP.build rfl (by (repeat (first | exact Fills.nil | (apply Fills.cons rfl rfl rfl; (case' hs => ((repeat (first | exact Spl.nil | apply Spl.here | apply Spl.there)); done))))))) ?_
  refine DL.only (i := 10) (by kernel_rfl) ?_
  refine DL1.stepF0 rfl rfl (by kernel_rfl) (OpM.w (by apply OpM.storeN rfl rfl (by rfl) (oneC rfl (one1 rfl)); (case' hu => exact (.tail .head)); (case' hs => exact (.here (.here .nil))); done)) ?_; rintro _ _ ⟨rfl, rfl⟩
  refine DL.done (by kernel_rfl) ?_
  refine J.retC rfl rfl (by apply Cells.full; (with_reducible repeat (first | exact .head | apply Has.tail))) (by rfl) ?_
  have e1 : (L.eraseIdx i).flatMap ocl = (L.take i).flatMap ocl ++ (L.drop (i + 1)).flatMap ocl := by rw [List.eraseIdx_eq_take_drop_succ, List.flatMap_append]
  have e2 : L.length - 1 = i + (L.length - (i + 1)) := by omega
  rw [e1, e2]
  exact ⟨_, ⟨_, rfl, rfl⟩, fun _ h => Own.pick (pre := [_, _, _]) [0] rfl h⟩

theorem map_eraseP_O {key : Str} {L : List OpC} : (L.eraseP (kO key)).map opE = (L.map opE).eraseP (kE key) := by
  rw [List.eraseP_map]; rfl
theorem eraseP_firstO {p : OpC → Bool} : ∀ {es : List OpC} {i : Nat} {e : OpC}, es[i]? = some e → p e = true → (∀ j f, j < i → es[j]? = some f → p f = false) → es.eraseP p = es.eraseIdx i
  | [], i, e, h, _, _ => by simp at h
  | x :: es, 0, e, h, hp, _ => by
    simp at h; subst h
    simp [hp]
  | x :: es, i + 1, e, h, hp, hb => by
    have hx := hb 0 x (by omega) rfl
    have ih := eraseP_firstO (es := es) (i := i) (by simpa using h) hp fun j f hj hf => hb (j + 1) f (by omega) (by simpa using hf)
    simp [hx, ih]
/-- What the reference does. -/
def cutO (L : List OpC) (cap : Nat) (pick : Int) : List OpC := if L.length = cap then L.eraseIdx (place pick L.length) else L
def putO (cap : Nat) (L : List OpC) (o : OpC) : List OpC := if cap = 0 then L.eraseP (kO o.key) else cutO (L.eraseP (kO o.key)) cap o.pick ++ [o]
def tO (who name : Str) (e : OpC) : Bool := decide (who = sSub) && decide (e.a = name) || decide (who = sRes) && decide (e.b = name)
def doO (cap : Nat) (L : List OpC) (o : OpC) : List OpC := if o.k % 4 = 0 then putO cap L o else if o.k % 4 = 2 then L.filter (fun e => !tO o.a o.b e) else if o.k % 4 = 3 then [] else L
theorem doO_map (cap : Nat) (L : List OpC) (o : OpC) : (doO cap L o).map opE = doE cap (L.map opE) o := by
  unfold doO doE
  split
  · unfold putO putE
    split
    · exact map_eraseP_O
    · rw [List.map_append]
      congr 1
      unfold cutO cut2
      have e : (L.eraseP (kO o.key)).map opE = (L.map opE).eraseP (kE (opE o).key) := map_eraseP_O
      rw [← e, List.length_map]
      split
      · rw [map_erase]
      · rfl
  · split
    · rw [List.filter_map]; rfl
    · split <;> rfl
end Go.Proofs.A
