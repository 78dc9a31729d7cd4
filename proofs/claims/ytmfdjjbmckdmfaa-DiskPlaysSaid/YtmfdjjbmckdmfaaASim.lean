/- A text of the proof of a statement about the given program: its part ASim. No person has read it. -/
import Derived.Test.YtmfdjjbmckdmfaaARef4
namespace Go.Proofs.A
open Go Go.Gp Go.RowKit

abbrev Wr := Nat × Sec
def app (z : List Sec) (ps : List Wr) : List Sec := ps.foldl (fun a p => a.set p.1 p.2) z
def recT (p : Wr) : Rec := ⟨p.1, p.2, true⟩
def recF (p : Wr) : Rec := ⟨p.1, p.2, false⟩
theorem app_len (z : List Sec) (ps : List Wr) : (app z ps).length = z.length := by
  induction ps generalizing z with
  | nil => rfl
  | cons p ps ih => simp only [app, List.foldl_cons] at ih ⊢; rw [ih]; simp
theorem app_append (z : List Sec) (ps qs : List Wr) : app z (ps ++ qs) = app (app z ps) qs := by simp [app]
theorem app_snoc (z : List Sec) (ps : List Wr) (p : Wr) : app z (ps ++ [p]) = (app z ps).set p.1 p.2 := by simp [app]

structure Sim (m : Nat) (D : Dk) (R : Rf) (tr : List Wr) : Prop where
  n : R.n = m
  fuse : R.fuse = D.fuse
  recs : R.recs = tr.map recT ++ D.ws.map recF
  fl : D.fl = app (List.replicate m zsec) tr
  now : D.now = app (List.replicate m zsec) (tr ++ D.ws)
  lt : ∀ p ∈ tr ++ D.ws, p.1 < m

theorem Sim.len {n : Nat} {D : Dk} {R : Rf} {tr : List Wr} (h : Sim n D R tr) : D.now.length = n := by rw [h.now, app_len]; simp
theorem Sim.flen {n : Nat} {D : Dk} {R : Rf} {tr : List Wr} (h : Sim n D R tr) : D.fl.length = n := by rw [h.fl, app_len]; simp

theorem Sim.new (n : Nat) : Sim n (Dk.new n) ⟨n, -1, []⟩ [] := ⟨rfl, rfl, rfl, rfl, rfl, by simp [Dk.new]⟩

theorem Sim.write {n : Nat} {D : Dk} {R : Rf} {tr : List Wr} (h : Sim n D R tr) {i : Nat} {s : Sec} (hi : i < n) :
    Sim n (D.wrote i s) ⟨R.n, burnt R.fuse, R.recs ++ [⟨i, s, false⟩]⟩ tr where
  n := h.n
  fuse := by simp only [Dk.wrote, h.fuse]
  recs := by simp only [Dk.wrote, h.recs, List.map_append, List.append_assoc]; rfl
  fl := h.fl
  now := by simp only [Dk.wrote]; rw [← List.append_assoc, app_snoc, ← h.now]
  lt := by
    intro p hp
    simp only [Dk.wrote, ← List.append_assoc] at hp
    rcases List.mem_append.1 hp with hp | hp
    · exact h.lt p hp
    · simp at hp; subst hp; exact hi

theorem Sim.flush {n : Nat} {D : Dk} {R : Rf} {tr : List Wr} (h : Sim n D R tr) : Sim n { D with fl := D.now, ws := [] } R.lasts (tr ++ D.ws) where
  n := h.n
  fuse := h.fuse
  recs := by simp only [Rf.lasts, h.recs, List.map_append, List.map_map, List.map_nil, List.append_nil]; rfl
  fl := h.now
  now := by simpa using h.now
  lt := by simpa using h.lt

theorem Sim.fused {n : Nat} {D : Dk} {R : Rf} {tr : List Wr} (h : Sim n D R tr) (N : Int) : Sim n (D.fused N) ⟨R.n, if R.fuse = 0 then R.fuse else max N (-1), R.recs⟩ tr := by
  simp only [Dk.fused]
  by_cases h0 : D.fuse = 0
  · rw [if_pos h0, if_pos (by rw [h.fuse, h0])]
    exact ⟨h.n, h.fuse, h.recs, h.fl, h.now, h.lt⟩
  · rw [if_neg h0, if_neg (by rw [h.fuse]; exact h0)]
    exact ⟨h.n, rfl, h.recs, h.fl, h.now, h.lt⟩

/-- The writes that a crash keeps. -/
def kl (ws : List Wr) (pk : List Bool) : Nat → List Wr
  | 0 => []
  | i + 1 => match ws[i]? with
    | some w => if pk[i]? = some true then kl ws pk i ++ [w] else kl ws pk i
    | none => kl ws pk i
theorem kl_mem {ws : List Wr} {pk : List Bool} : ∀ i, ∀ p ∈ kl ws pk i, p ∈ ws
  | 0 => by simp [kl]
  | i + 1 => by
    intro p hp
    have ih := kl_mem (ws := ws) (pk := pk) i
    simp only [kl] at hp
    split at hp
    · next w hw =>
      split at hp
      · rcases List.mem_append.1 hp with hp | hp
        · exact ih p hp
        · simp at hp; subst hp; exact List.mem_of_getElem? hw
      · exact ih p hp
    · exact ih p hp
theorem kept_app (fl : List Sec) (ws : List Wr) (pk : List Bool) : ∀ i, kept fl ws pk i = app fl (kl ws pk i)
  | 0 => rfl
  | i + 1 => by
    have ih := kept_app fl ws pk i
    simp only [kept, kl, ih]
    cases ws[i]? with
    | none => rfl
    | some w =>
      simp only
      split
      · rw [app_snoc]
      · rfl

theorem cr_true (tr : List Wr) (rest : List Rec) (pk : List Bool) : ∀ i, i ≤ tr.length → cr (tr.map recT ++ rest) pk i = ((tr.take i).map recT, 0)
  | 0, _ => by simp [cr]
  | i + 1, hi => by
    have ih := cr_true tr rest pk i (by omega)
    have hp : tr[i]? = some (tr[i]'(by omega)) := List.getElem?_eq_getElem (by omega)
    have hr : (tr.map recT ++ rest)[i]? = some (recT (tr[i]'(by omega))) := by rw [List.getElem?_append_left (by simp; omega), List.getElem?_map, hp]; rfl
    rw [cr_succ hr, ih]
    simp only [recT, if_true]
    rw [List.take_add_one, hp]
    simp only [Option.toList_some, List.map_append, List.map_cons, List.map_nil]
    rfl
theorem cr_false (tr ws : List Wr) (pk : List Bool) : ∀ i, i ≤ ws.length → cr (tr.map recT ++ ws.map recF) pk (tr.length + i) = ((tr ++ kl ws pk i).map recT, i)
  | 0, _ => by rw [Nat.add_zero, cr_true _ _ _ _ (Nat.le_refl _)]; simp [kl]
  | i + 1, hi => by
    have ih := cr_false tr ws pk i (by omega)
    have hp : ws[i]? = some (ws[i]'(by omega)) := List.getElem?_eq_getElem (by omega)
    have hr : (tr.map recT ++ ws.map recF)[tr.length + i]? = some (recF (ws[i]'(by omega))) := by rw [List.getElem?_append_right (by simp), List.getElem?_map]; simp [hp]
    rw [← Nat.add_assoc, cr_succ hr, ih]
    simp only [recF, kl, hp, Bool.false_eq_true, if_false]
    split
    · simp only [← List.append_assoc, List.map_append, List.map_cons, List.map_nil]
      rfl
    · rfl

theorem Sim.crash {n : Nat} {D : Dk} {R : Rf} {tr : List Wr} (h : Sim n D R tr) (pk : List Bool) : Sim n (D.crash pk) (R.crash pk) (tr ++ kl D.ws pk D.ws.length) where
  n := h.n
  fuse := rfl
  recs := by
    have := cr_false tr D.ws pk D.ws.length (Nat.le_refl _)
    simp only [Rf.crash, Dk.crash, h.recs, List.length_append, List.length_map, this]
    simp
  fl := by simp only [Dk.crash]; rw [kept_app, h.fl, app_append]
  now := by simp only [Dk.crash]; rw [kept_app, h.fl, List.append_nil, app_append]
  lt := by
    intro p hp
    simp only [Dk.crash, List.append_nil] at hp
    rcases List.mem_append.1 hp with hp | hp
    · exact h.lt p (by simp [hp])
    · exact h.lt p (by simp [kl_mem _ _ hp])

theorem cnt_filter (l : List Rec) : ∀ i, i ≤ l.length → cnt l i = ((l.take i).filter fun r => !r.b).length
  | 0, _ => by simp [cnt]
  | i + 1, hi => by
    have ih := cnt_filter l i (by omega)
    have hp : l[i]? = some (l[i]'(by omega)) := List.getElem?_eq_getElem (by omega)
    simp only [cnt, hp]
    rw [List.take_add_one, hp, List.filter_append, List.length_append, ← ih]
    cases hb : (l[i]'(by omega)).b <;> simp [hb]
theorem Sim.waits {n : Nat} {D : Dk} {R : Rf} {tr : List Wr} (h : Sim n D R tr) : cnt R.recs R.recs.length = D.ws.length := by
  rw [cnt_filter _ _ (Nat.le_refl _), List.take_length, h.recs, List.filter_append]
  have e1 : (tr.map recT).filter (fun r => !r.b) = [] := by rw [List.filter_eq_nil_iff]; intro r hr; obtain ⟨p, _, rfl⟩ := List.mem_map.1 hr; exact fun h => by cases h
  have e2 : (D.ws.map recF).filter (fun r => !r.b) = D.ws.map recF := by rw [List.filter_eq_self]; intro r hr; obtain ⟨p, _, rfl⟩ := List.mem_map.1 hr; rfl
  rw [e1, e2]; simp

theorem look_app {z : List Sec} {a : Nat} (hz : z[a]? = some zsec) (l : List Rec) (hl : ∀ r ∈ l, r.i < z.length) : ∀ i, i ≤ l.length → (app z ((l.take i).map fun r => (r.i, r.s)))[a]? = some (lookN l a i)
  | 0, _ => by simpa [app, lookN] using hz
  | i + 1, hi => by
    have ih := look_app hz l hl i (by omega)
    have hp : l[i]? = some (l[i]'(by omega)) := List.getElem?_eq_getElem (by omega)
    rw [List.take_add_one, hp]
    simp only [Option.toList_some, List.map_append, List.map_cons, List.map_nil, app_snoc, lookN, hp]
    by_cases he : (l[i]'(by omega)).i = a
    · rw [if_pos (by omega), he, List.getElem?_set_self]
      rw [app_len, ← he]
      exact hl _ (List.getElem_mem _)
    · rw [if_neg (by omega), List.getElem?_set_ne he, ih]
theorem Sim.look {n : Nat} {D : Dk} {R : Rf} {tr : List Wr} (h : Sim n D R tr) {a : Nat} (ha : a < n) : D.now[a]? = some (lookN R.recs a R.recs.length) := by
  have e : R.recs.map (fun r => (r.i, r.s)) = tr ++ D.ws := by
    rw [h.recs]; simp [Function.comp_def, recT, recF]
  have := look_app (z := List.replicate n zsec) (a := a) (by simp [ha]) R.recs (by
    intro r hr
    have : (r.i, r.s) ∈ tr ++ D.ws := by rw [← e]; exact List.mem_map.2 ⟨r, hr, rfl⟩
    simpa using h.lt _ this) R.recs.length (Nat.le_refl _)
  rw [List.take_length, e] at this
  rw [h.now, this]
end Go.Proofs.A
