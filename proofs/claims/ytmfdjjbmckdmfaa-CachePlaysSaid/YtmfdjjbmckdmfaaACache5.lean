/- A text of the proof of a statement about the given program: its part ACache5. No person has read it. -/
import Derived.Test.YtmfdjjbmckdmfaaACacheB
import Derived.Test.YtmfdjjbmckdmfaaJ17
-- seat a
namespace Go.Proofs.A
open Go Go.Gp Go.RowKit

theorem eraseP_first {p : Ent → Bool} : ∀ {es : List Ent} {i : Nat} {e : Ent}, es[i]? = some e → p e = true → (∀ j f, j < i → es[j]? = some f → p f = false) → es.eraseP p = es.eraseIdx i
  | [], i, e, h, _, _ => by simp at h
  | x :: es, 0, e, h, hp, _ => by
    simp at h; subst h
    simp [hp]
  | x :: es, i + 1, e, h, hp, hb => by
    have hx := hb 0 x (by omega) rfl
    have ih := eraseP_first (es := es) (i := i) (by simpa using h) hp fun j f hj hf => hb (j + 1) f (by omega) (by simpa using hf)
    simp [hx, ih]
theorem eraseP_none {p : Ent → Bool} {es : List Ent} (h : ∀ e ∈ es, p e = false) : es.eraseP p = es := List.eraseP_of_forall_not fun e he => by simp [h e he]

def put2 (es : List Ent) (cap : Nat) (pick : Int) : List Ent := if es.length = cap then es.eraseIdx (place pick es.length) else es
def puts (C : Ca) (key : Str) (pick : Int) : List Ent := put2 (C.es.eraseP (isKey key)) C.cap pick

theorem texts_snoc {w0 w : World} {es : List Ent} {e : Ent} {F : List HProp} (h : Own w0 w (texts es :: decL e.d ++ F)) : Own w0 w (texts (es ++ [e]) :: F) := by
  refine Own.hall_in ?_
  have h2 := Own.hall_out (F := decL e.d ++ F) h
  rw [List.flatMap_append, List.flatMap_cons, List.flatMap_nil, List.append_nil, List.append_assoc]
  exact h2
theorem eraseP_ok {C : Ca} (hok : C.Ok) (p : Ent → Bool) : Ca.Ok ⟨C.cap, C.es.eraseP p⟩ where
  cap := hok.cap
  len := Nat.le_trans List.eraseP_sublist.length_le hok.len
  sl := fun e he => hok.sl e (List.eraseP_sublist.subset he)
  dn := fun e he => hok.dn e (List.eraseP_sublist.subset he)

theorem Put_ok {w0 : World} {g cap : Nat} {key sub res : Str} {d : Dec} {pick : Int} {es : List Ent} {F : List HProp} (hd : d.RdO w0 F) (h1 : -9223372036854775808 ≤ pick) (h2 : pick ≤ 9223372036854775807) :
    FnO Try.prog w0 20 [.pointer (some ⟨g, 0, none⟩), .string key, .string sub, .string res, .agg (dcell d).toArray, .int .i64 pick] (cacheR g ⟨cap, es⟩ :: F) (fun v l' => v = .tuple #[] ∧
      ((cap = 0 ∧ l' = cacheR g ⟨cap, es.eraseP (isKey key)⟩ :: F) ∨
       (cap ≠ 0 ∧ ∃ u1 u2, l' = cacheR g ⟨cap, put2 (es.eraseP (isKey key)) cap pick ++ [⟨key, sub, res, { d with dv := u1, av := u2 }⟩]⟩ :: F))) := by
  refine FnO.weak ?_
  refine FnO.intro (n := 60) Try.func20 rfl rfl rfl ?_
  refine J.seq ?_
  refine J.region ?_
  refine JL.mem rfl rfl (OpM.box rfl rfl) ?_; rintro _ _ ⟨b10, rfl, rfl⟩
  refine JL.nil ?_
  refine J.seq ?_
  refine J.seq ?_
  refine J.region ?_
  refine JL.pure rfl rfl (OpP.move rfl) ?_
  refine JL.pure rfl rfl (OpP.move rfl) ?_
  refine JL.f1 ?_; refine JL.step rfl rfl (OpW.call (first := []) (captured := []) inferInstance rfl rfl at_ok) ?_; rintro r15 _ ⟨⟨x, ⟨rfl, h15⟩⟩, rfl⟩
  refine JL.pure rfl rfl (OpP.assign rfl) ?_
  refine JL.nil ?_
  refine J.cut (σ := Unit) (fun _ => True) (fun _ => [(10, .pointer (some ⟨b10, 0, none⟩)), (0, .pointer (some ⟨g, 0, none⟩)), (1, .string key), (2, .string sub), (3, .string res), (5, .int .i64 pick)])
    (fun _ => cacheR g ⟨cap, es.eraseP (isKey key)⟩ :: row b10 43 (dcell d) :: F) (fun _ _ => ?_) (fun k' go => ?_)
  · generalize es.eraseP (isKey key) = es1
    refine J.cacheO fun wa wc hok hcap hlen => ?_
    by_cases hc0 : cap = 0
    · refine J.seq ?_
      refine J.seq ?_
      refine J.region ?_
      refine JL.pure rfl rfl (OpP.move rfl) ?_
      refine JL.pure rfl rfl (OpP.nilCheck rfl) ?_
      refine JL.pure rfl rfl (OpP.fieldAddr rfl) ?_
      refine JL.read rfl rfl (OpR.load1 rfl (Cell.row .head rfl)) ?_
      refine JL.decT rfl rfl (OpP.eql rfl rfl) (by omega) ?_
      refine JL.nil ?_
      refine J.condT rfl ?_
      refine J.ret0 rfl ?_
      exact ⟨_, ⟨rfl, .inl ⟨hc0, rfl⟩⟩, fun _ h => cache_in hok (Own.pick (pre := [_, _, _, _]) [0, 1, 2] rfl h)⟩
    refine J.seq ?_
    refine J.seq ?_
    refine J.region ?_
    refine JL.pure rfl rfl (OpP.move rfl) ?_
    refine JL.pure rfl rfl (OpP.nilCheck rfl) ?_
    refine JL.pure rfl rfl (OpP.fieldAddr rfl) ?_
    refine JL.read rfl rfl (OpR.load1 rfl (Cell.row .head rfl)) ?_
    refine JL.decF rfl rfl (OpP.eql rfl rfl) (by omega) ?_
    refine JL.nil ?_
    refine J.condF rfl ?_
    refine J.skip ?_
    refine J.seq ?_
    refine J.cut (σ := Unit) (fun _ => True) (fun _ => [(10, .pointer (some ⟨b10, 0, none⟩)), (0, .pointer (some ⟨g, 0, none⟩)), (1, .string key), (2, .string sub), (3, .string res)])
      (fun _ => cacheR g ⟨cap, put2 es1 cap pick⟩ :: row b10 43 (dcell d) :: F) (fun _ _ => ?_) (fun k' go => ?_)
    · generalize hes : put2 es1 cap pick = es2
      refine J.cacheO fun wa wc hok hcap hlen => ?_
      have hd' := hd
      refine J.regionD [4, 8] (by kernel_rfl) ?_
      refine DL.pure (i := 0) (by kernel_rfl) (by kernel_rfl) rfl rfl rfl (OpP.move rfl) ?_
      refine DL.pure (i := 1) (by kernel_rfl) (by kernel_rfl) rfl rfl rfl (OpP.move rfl) ?_
      refine DL.pure (i := 2) (by kernel_rfl) (by kernel_rfl) rfl rfl rfl (OpP.nilCheck rfl) ?_
      refine DL.pure (i := 3) (by kernel_rfl) (by kernel_rfl) rfl rfl rfl (OpP.fieldAddr rfl) ?_
      refine DL.read (i := 4) (by kernel_rfl) (by kernel_rfl) rfl rfl rfl (fun _ h => h) (OpR.load1 rfl (Cell.row .head rfl)) ?_
      refine DL.pure (i := 5) (by kernel_rfl) (by kernel_rfl) rfl rfl rfl (OpP.move rfl) ?_
      refine DL.pure (i := 6) (by kernel_rfl) (by kernel_rfl) rfl rfl rfl (OpP.move rfl) ?_
      refine DL.pure (i := 7) (by kernel_rfl) (by kernel_rfl) rfl rfl rfl (OpP.move rfl) ?_
      refine DL.read (i := 8) (by kernel_rfl) (by kernel_rfl) rfl rfl rfl (fun _ h => h) (OpR.loadN rfl (Cells.full (.tail (.tail (.tail .head)))) rfl) ?_
      refine DL.only (i := 9) (by kernel_rfl) ?_
      refine DL1.stepK rfl rfl rfl (by exact OpW.call (first := []) (captured := []) inferInstance rfl rfl (own2_ok (hd.conv fun _ h => Own.pick (pre := [_, _, _, _]) [] rfl h))) (by rintro _ _ ⟨u1, ⟨u2, ⟨rfl, rfl⟩⟩⟩ _ h; exact Own.pick (pre := [_, _, _, _, _, _]) [2, 3, 4, 5] rfl h) ?_; rintro r54 _ ⟨u1, ⟨u2, ⟨rfl, rfl⟩⟩⟩
      refine DL.lit .head fun au2 cu2 eu2 => ?_; subst eu2
      refine DL.lit (.tail .head) fun au1 cu1 eu1 => ?_; subst eu1
      refine DL.pure (i := 10) (by kernel_rfl) (by kernel_rfl) rfl rfl rfl (OpP.build rfl (by (repeat (first | exact Fills.nil | (apply Fills.cons rfl rfl rfl; (case' hs => ((repeat (first | exact Spl.nil | apply Spl.here | apply Spl.there)); done))))))) ?_
      refine DL.only (i := 11) (by kernel_rfl) ?_
      refine DL1.stepK rfl rfl rfl (OpM.w (by apply OpM.buildSlice (by rfl) rfl (by rfl); (repeat (first | exact Fills.nil | (apply Fills.cons rfl rfl rfl; (case' hs => ((repeat (first | exact Spl.nil | apply Spl.here | apply Spl.there)); done))))))) (by rintro _ _ ⟨b56, rfl, rfl⟩ _ h; exact Own.pick (pre := [_, _, _, _, _, _, _]) [3, 4, 5, 6] rfl h) ?_; rintro _ _ ⟨b56, rfl, rfl⟩
      refine DL.only (i := 12) (by kernel_rfl) ?_
      refine DL1.f4 ?_; refine DL1.stepF rfl rfl rfl (by kernel_rfl) (OpM.w (OpM.appendH rfl (.inl ⟨_, Sl.und inferInstance⟩) (by rfl) rfl rfl (RdO.src (RdO.ofRow (.tail .head) (by first | decide | omega)) (by simp)) (oneC rfl (oneC rfl (oneC rfl (oneC rfl (oneC rfl (one1 rfl)))))) (by simp only [maxLen]; omega) (by omega))) ?_; rintro _ _ ⟨⟨a57, c57, rfl⟩, rfl⟩
      refine DL.pure (i := 13) (by kernel_rfl) (by kernel_rfl) rfl rfl rfl (OpP.nilCheck rfl) ?_
      refine DL.pure (i := 14) (by kernel_rfl) (by kernel_rfl) rfl rfl rfl (OpP.fieldAddr rfl) ?_
      refine DL.only (i := 15) (by kernel_rfl) ?_
      refine DL1.stepF0 rfl rfl (by kernel_rfl) (OpM.w (by apply OpM.store1 rfl rfl rfl; (case' hu => exact (.tail (.tail (.tail (.tail .head))))); (case' hs => exact (.there (.here .nil))); done)) ?_; rintro _ _ ⟨rfl, rfl⟩
      refine DL.done (by kernel_rfl) ?_
      refine J.fin0 rfl ?_
      have hp := place_lt (pick := pick) (n := es1.length)
      have hlen2 : es2.length + 1 ≤ cap := by
        rw [← hes, put2]
        split
        · rw [List.length_eraseIdx_of_lt (hp (by omega))]; omega
        · omega
      refine ⟨_, ⟨rfl, .inr ⟨hc0, .slice au1 d.dl.length cu1, .slice au2 d.al.length cu2, rfl⟩⟩, fun w h => ?_⟩
      refine cache_in (v := .slice a57 (es2.length + 1) c57) ⟨hcap, by simp only [List.length_append, List.length_cons, List.length_nil]; omega, ?_, ?_⟩ ?_
      · intro e he
        rcases List.mem_append.1 he with he | he
        · exact hok.sl e he
        · obtain rfl := List.mem_singleton.1 he
          exact ⟨⟨_, _, _, rfl⟩, ⟨_, _, _, rfl⟩⟩
      · intro e he
        rcases List.mem_append.1 he with he | he
        · exact hok.dn e he
        · obtain rfl := List.mem_singleton.1 he
          exact ⟨hd.dn, hd.an⟩
      · have h := Own.pick (pre := [_, _, _, _, _, _, _]) [5, 3, 2, 4, 0] rfl h
        have h := texts_snoc (e := ⟨key, sub, res, { d with dv := .slice au1 d.dl.length cu1, av := .slice au2 d.al.length cu2 }⟩) h
        have h := Own.pick (pre := [_, _, _]) [1, 2, 0] rfl h
        have e1 : (es2 ++ [(⟨key, sub, res, { d with dv := .slice au1 d.dl.length cu1, av := .slice au2 d.al.length cu2 }⟩ : Ent)]).length = es2.length + 1 := by simp
        have e2 : (es2 ++ [(⟨key, sub, res, { d with dv := .slice au1 d.dl.length cu1, av := .slice au2 d.al.length cu2 }⟩ : Ent)]).flatMap ecell = es2.flatMap ecell ++ ecell ⟨key, sub, res, { d with dv := .slice au1 d.dl.length cu1, av := .slice au2 d.al.length cu2 }⟩ := by simp
        simp only [cacheL]
        rw [e1, e2]
        exact h
    · have hp := place_lt (pick := pick) (n := es1.length)
      refine J.seq ?_
      refine J.regionD [3, 8] (by kernel_rfl) ?_
      refine DL.pure (i := 0) (by kernel_rfl) (by kernel_rfl) rfl rfl rfl (OpP.move rfl) ?_
      refine DL.pure (i := 1) (by kernel_rfl) (by kernel_rfl) rfl rfl rfl (OpP.nilCheck rfl) ?_
      refine DL.pure (i := 2) (by kernel_rfl) (by kernel_rfl) rfl rfl rfl (OpP.fieldAddr rfl) ?_
      refine DL.read (i := 3) (by kernel_rfl) (by kernel_rfl) rfl rfl rfl (fun _ h => h) (OpR.load1 rfl (Cell.row .head rfl)) ?_
      refine DL.pure (i := 4) (by kernel_rfl) (by kernel_rfl) rfl rfl rfl (OpP.len rfl rfl) ?_
      refine DL.pure (i := 5) (by kernel_rfl) (by kernel_rfl) rfl rfl rfl (OpP.move rfl) ?_
      refine DL.pure (i := 6) (by kernel_rfl) (by kernel_rfl) rfl rfl rfl (OpP.nilCheck rfl) ?_
      refine DL.pure (i := 7) (by kernel_rfl) (by kernel_rfl) rfl rfl rfl (OpP.fieldAddr rfl) ?_
      refine DL.read (i := 8) (by kernel_rfl) (by kernel_rfl) rfl rfl rfl (fun _ h => h) (OpR.load1 rfl (Cell.row .head rfl)) ?_
      refine DL.dec (i := 9) (by kernel_rfl) (by kernel_rfl) rfl rfl rfl (OpP.eql rfl rfl) (fun h35 => ?_) (fun h35 => ?_)
      focus
        refine DL.done (by kernel_rfl) ?_
        refine J.condT rfl ?_
        refine J.region ?_
        refine JL.pure rfl rfl (OpP.move rfl) ?_
        refine JL.pure rfl rfl (OpP.move rfl) ?_
        refine JL.pure rfl rfl (OpP.move rfl) ?_
        refine JL.pure rfl rfl (OpP.nilCheck rfl) ?_
        refine JL.pure rfl rfl (OpP.fieldAddr rfl) ?_
        refine JL.read rfl rfl (OpR.load1 rfl (Cell.row .head rfl)) ?_
        refine JL.pure rfl rfl (OpP.len rfl rfl) ?_
        refine JL.step rfl rfl (OpW.call (first := []) (captured := []) inferInstance rfl rfl (place_ok (by first | assumption | omega | rfl) (by first | assumption | omega | rfl) (by first | assumption | omega | rfl) (by first | assumption | omega | rfl))) ?_; rintro r43 _ ⟨rfl, rfl⟩
      rotate_left 1
      focus
        refine DL.done (by kernel_rfl) ?_
        refine J.condF rfl ?_
        refine J.skip ?_
      rotate_left 1
      · refine JL.conv (l' := cacheR g ⟨cap, es1⟩ :: row b10 43 (dcell d) :: F) (fun _ h => cache_in hok (Own.pick (pre := [_, _, _, _]) [0, 1, 2, 3] rfl h)) ?_
        have hp1 : place pick es1.length < es1.length := hp (by omega)
        refine JL.step rfl rfl (OpW.call (first := []) (captured := []) inferInstance rfl rfl (out_ok hp1)) ?_; rintro r44 _ ⟨rfl, rfl⟩
        refine JL.nil ?_
        exact go () trivial (by repeat (first | exact SubEnv.nil | refine SubEnv.cons (by first | rfl | exact congrArg (fun z => some (Value.int .i64 z)) (by omega) | (simp; done)) ?_)) (fun _ h => by rw [put2, if_pos (by omega)]; exact h)
      · exact go () trivial (by repeat (first | exact SubEnv.nil | refine SubEnv.cons (by first | rfl | exact congrArg (fun z => some (Value.int .i64 z)) (by omega) | (simp; done)) ?_)) (fun _ h => by rw [put2, if_neg (by omega)]; exact cache_in hok (Own.pick (pre := [_, _, _, _]) [0, 1, 2, 3] rfl h))
  · rcases h15 with ⟨i, e, hxi, hie, hpe, hbef⟩ | ⟨hxi, hall⟩
    · have hi : i < es.length := (List.getElem?_eq_some_iff.1 hie).1
      have he : Ca.out ⟨cap, es⟩ i = ⟨cap, es.eraseP (isKey key)⟩ := by rw [Ca.out, eraseP_first hie hpe hbef]
      subst hxi
      refine J.seq ?_
      refine J.region ?_
      refine JL.pure rfl rfl (OpP.move rfl) ?_
      refine JL.decT rfl rfl (OpP.geq rfl rfl) (by omega) ?_
      refine JL.nil ?_
      refine J.condT rfl ?_
      refine J.region ?_
      refine JL.pure rfl rfl (OpP.move rfl) ?_
      refine JL.pure rfl rfl (OpP.move rfl) ?_
      refine JL.step rfl rfl (OpW.call (first := []) (captured := []) inferInstance rfl rfl (out_ok hi)) ?_; rintro r20 _ ⟨rfl, rfl⟩
      refine JL.nil ?_
      rw [he]
      exact go () trivial (by repeat (first | exact SubEnv.nil | refine SubEnv.cons (by first | rfl | exact congrArg (fun z => some (Value.int .i64 z)) (by omega) | (simp; done)) ?_)) (fun _ h => h)
    · refine J.seq ?_
      refine J.region ?_
      refine JL.pure rfl rfl (OpP.move rfl) ?_
      refine JL.decF rfl rfl (OpP.geq rfl rfl) (by omega) ?_
      refine JL.nil ?_
      refine J.condF rfl ?_
      refine J.skip ?_
      exact go () trivial (by repeat (first | exact SubEnv.nil | refine SubEnv.cons (by first | rfl | exact congrArg (fun z => some (Value.int .i64 z)) (by omega) | (simp; done)) ?_)) (fun w h => by rw [eraseP_none hall]; exact h)

/-- What is got. -/
def gotten (p : Ent → Bool) (es : List Ent) : Option Ent := es.find? p
theorem find_first {p : Ent → Bool} : ∀ {es : List Ent} {i : Nat} {e : Ent}, es[i]? = some e → p e = true → (∀ j f, j < i → es[j]? = some f → p f = false) → es.find? p = some e
  | [], i, e, h, _, _ => by simp at h
  | x :: es, 0, e, h, hp, _ => by
    simp at h; subst h
    simp [hp]
  | x :: es, i + 1, e, h, hp, hb => by
    have hx := hb 0 x (by omega) rfl
    have ih := find_first (es := es) (i := i) (by simpa using h) hp fun j f hj hf => hb (j + 1) f (by omega) (by simpa using hf)
    simp [hx, ih]
theorem texts_rd {w0 : World} {es : List Ent} {e : Ent} (he : e ∈ es) (hdn : e.d.dl.length ≤ 1000 ∧ e.d.al.length ≤ 1000) : e.d.RdO w0 [texts es] := by
  have hsub : ∀ A ∈ decL e.d, ∀ w, Own w0 w [texts es] → Own w0 w [A] := by
    intro A hA w h
    have h2 := h.hall_out
    obtain ⟨m, hm⟩ := Own.mem_front (A := A) (l := (es.flatMap fun e => decL e.d) ++ []) (List.mem_append_left _ (List.mem_flatMap.2 ⟨e, he, hA⟩))
    exact (h2.perm hm).head
  exact ⟨(RdO.own (e := 9) (sz := 1) .head).conv (hsub _ (by simp [decL])), (RdO.own (e := 9) (sz := 1) .head).conv (hsub _ (by simp [decL])), hdn.1, hdn.2⟩
def decZ : Dec := ⟨0, .slice none 0 0, .slice none 0 0, [], []⟩
theorem Get_ok {w0 : World} {g cap : Nat} {key : Str} {es : List Ent} {F : List HProp} :
    FnO Try.prog w0 21 [.pointer (some ⟨g, 0, none⟩), .string key] (cacheR g ⟨cap, es⟩ :: F) (fun v l' => (es.find? (isKey key) = none ∧ v = .tuple #[.agg (dcell decZ).toArray, .bool false] ∧ l' = cacheR g ⟨cap, es⟩ :: F) ∨
      (∃ e u1 u2, es.find? (isKey key) = some e ∧ e.d.dl.length ≤ 1000 ∧ e.d.al.length ≤ 1000 ∧ v = .tuple #[.agg (dcell { e.d with dv := u1, av := u2 }).toArray, .bool true] ∧ l' = cacheR g ⟨cap, es⟩ :: own 9 1 u1 e.d.dl.length (scells e.d.dl) :: own 9 1 u2 e.d.al.length (scells e.d.al) :: F)) := by
  refine FnO.weak ?_
  refine FnO.intro (n := 22) Try.func21 rfl rfl rfl ?_
  refine J.seq ?_
  refine J.region ?_
  refine JL.mem rfl rfl OpM.alloc ?_; rintro _ _ ⟨b4, rfl, rfl⟩
  refine JL.pure rfl rfl (OpP.assign rfl) ?_
  refine JL.nil ?_
  refine J.seq ?_
  refine J.region ?_
  refine JL.pure rfl rfl (OpP.move rfl) ?_
  refine JL.pure rfl rfl (OpP.move rfl) ?_
  refine JL.f1 ?_; refine JL.step rfl rfl (OpW.call (first := []) (captured := []) inferInstance rfl rfl at_ok) ?_; rintro r9 _ ⟨⟨x, ⟨rfl, h9⟩⟩, rfl⟩
  refine JL.pure rfl rfl (OpP.assign rfl) ?_
  refine JL.nil ?_
  refine J.seq ?_
  rcases h9 with ⟨i, e, hxi, hie, hpe, hbef⟩ | ⟨hxi, hall⟩
  · subst hxi
    have hi : i < es.length := (List.getElem?_eq_some_iff.1 hie).1
    refine J.cacheO fun wa wc hok hcap hlen => ?_
    refine J.f1 ?_
    have hdn := hok.dn e (List.mem_of_getElem? hie)
    have hrd := texts_rd (w0 := w0) (List.mem_of_getElem? hie) hdn
    refine J.ownOpen (n := es.length) (by omega) fun b pre post wcap hx q1 q2 q3 q4 => ?_
    cases hx
    have hl6 : (ecell e).length = 6 := rfl
    refine J.seq ?_
    refine J.region ?_
    refine JL.pure rfl rfl (OpP.move rfl) ?_
    refine JL.decF rfl rfl (OpP.lss rfl rfl) (by omega) ?_
    refine JL.nil ?_
    refine J.condF rfl ?_
    refine J.skip ?_
    refine J.seq ?_
    refine J.region ?_
    refine JL.pure rfl rfl (OpP.move rfl) ?_
    refine JL.pure rfl rfl (OpP.nilCheck rfl) ?_
    refine JL.pure rfl rfl (OpP.fieldAddr rfl) ?_
    refine JL.read rfl rfl (OpR.load1 rfl (Cell.row (.tail .head) rfl)) ?_
    refine JL.pure rfl rfl (OpP.move rfl) ?_
    refine JL.pure rfl rfl (OpP.indexAddr rfl rfl (by omega) (by omega)) ?_
    refine JL.pure rfl rfl (OpP.fieldAddr rfl) ?_
    refine JL.read rfl rfl (OpR.loadN rfl ((Cells.midChunk (i := i) (f := ecell) .head (ecell_len _) hie).drop 3) rfl) ?_
    have hff := find_first hie hpe hbef
    refine JL.step rfl rfl (OpW.call (first := []) (captured := []) inferInstance rfl rfl (own2_ok (hrd.conv fun _ h => Own.left (ks := [_]) (Own.pick (pre := [_, _, _, _]) [2] rfl h)))) ?_; rintro r21 _ ⟨u1, ⟨u2, ⟨rfl, rfl⟩⟩⟩
    refine JL.lit .head fun au2 cu2 eu2 => ?_; subst eu2
    refine JL.lit (.tail .head) fun au1 cu1 eu1 => ?_; subst eu1
    refine JL.mem0 rfl (by apply OpM.storeN rfl rfl (by rfl) (oneC rfl (oneC rfl (one1 rfl))); (case' hu => exact (.tail (.tail (.tail (.tail (.tail .head)))))); (case' hs => exact (.here (.here (.here .nil)))); done) ?_; rintro _ _ ⟨rfl, rfl⟩
    refine JL.pure rfl rfl (OpP.assign rfl) ?_
    refine JL.nil ?_
    refine J.retC2 rfl rfl (by apply Cells.full; (with_reducible repeat (first | exact .head | apply Has.tail))) (by rfl) rfl ?_
    · exact ⟨_, .inr ⟨e, _, _, hff, hdn.1, hdn.2, rfl, rfl⟩, fun w h => by
        have h := Own.own_in (l := _ :: _ :: _ :: _ :: _ :: F) q1 q2 q3 q4 (Own.pick (pre := [_, _, _, _, _, _]) [2, 0, 1, 3, 4, 5] rfl h)
        have h := Own.pick (pre := [_, _, _, _, _, _]) [3, 0, 4, 2, 1] rfl h
        exact cache_in hok h⟩
  · refine J.seq ?_
    refine J.region ?_
    refine JL.pure rfl rfl (OpP.move rfl) ?_
    refine JL.decT rfl rfl (OpP.lss rfl rfl) (by omega) ?_
    refine JL.nil ?_
    refine J.condT rfl ?_
    refine J.seq ?_
    refine J.region ?_
    refine JL.pure rfl rfl (OpP.build rfl (by (repeat (first | exact Fills.nil | (apply Fills.cons rfl rfl rfl; (case' hs => ((repeat (first | exact Spl.nil | apply Spl.here | apply Spl.there)); done))))))) ?_
    refine JL.mem0 rfl (by apply OpM.storeN rfl rfl (by rfl) (oneC rfl (oneC rfl (one1 rfl))); (case' hu => exact (.tail .head)); (case' hs => exact (.here (.here (.here .nil)))); done) ?_; rintro _ _ ⟨rfl, rfl⟩
    refine JL.pure rfl rfl (OpP.assign rfl) ?_
    refine JL.nil ?_
    refine J.retC2 rfl rfl (by apply Cells.full; (with_reducible repeat (first | exact .head | apply Has.tail))) (by rfl) rfl ?_
    exact ⟨_, .inl ⟨List.find?_eq_none.2 fun e he => by simp [hall e he], rfl, rfl⟩, fun _ h => Own.pick (pre := [_, _]) [0] rfl h⟩
end Go.Proofs.A
