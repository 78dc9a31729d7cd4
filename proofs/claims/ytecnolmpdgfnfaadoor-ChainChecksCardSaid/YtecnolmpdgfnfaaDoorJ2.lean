/- A text of the proof of a statement about the given program: operations in a row, and calls. No person has read it. -/
import Derived.Test.YtecnolmpdgfnfaaDoorJ1
namespace Go.Gp
open Go Go.RowKit

/-! One operation. -/

structure OpP (P : Program) (o : Oper) (env : Env) (v : Value) : Prop where
  run : ∀ ρ : Operand → Value, Rds ρ env o.op.operands → ∀ w, (execOp ρ o).run P w = .ok (.value v) w

structure OpR (P : Program) (w0 : World) (o : Oper) (env : Env) (l : List HProp) (v : Value) : Prop where
  run : ∀ ρ : Operand → Value, Rds ρ env o.op.operands → ∀ w, Own w0 w l → (execOp ρ o).run P w = .ok (.value v) w

/-- It makes or writes memory: some value, some resources. -/
structure OpM (P : Program) (w0 : World) (o : Oper) (env : Env) (l : List HProp) (R : Value → List HProp → Prop) : Prop where
  run : ∀ ρ : Operand → Value, Rds ρ env o.op.operands → ∀ w, Own w0 w l → ∃ nx v w' l', (execOp ρ o).run P w = .ok nx w' ∧ (nx = .value v ∨ nx = .skip ∧ v = undef) ∧ R v l' ∧ Own w0 w' l'

/-- In any case: what stands behind is reached. -/
structure OpW (P : Program) (w0 : World) (o : Oper) (env : Env) (l : List HProp) (R : Value → List HProp → Prop) : Prop where
  run : ∀ a : Act, Rds a.eval env o.op.operands → ∀ w, Own w0 w l → ∀ (K : Act → World → Prop) (Q : Exit → Act → World → Prop), (∀ v w' l', R v l' → Own w0 w' l' → K (a.put o.dst v) w') → o.wp P a w K Q

section
variable {P : Program} {w0 : World} {o : Oper} {env : Env} {l : List HProp} {v : Value} {R : Value → List HProp → Prop}

theorem OpP.r (h : OpP P o env v) : OpR P w0 o env l v := ⟨fun ρ hr w _ => h.run ρ hr w⟩
theorem OpR.m (h : OpR P w0 o env l v) : OpM P w0 o env l (fun u l' => u = v ∧ l' = l) := ⟨fun ρ hr w hw => ⟨_, v, w, l, h.run ρ hr w hw, .inl rfl, ⟨rfl, rfl⟩, hw⟩⟩
theorem OpM.w (h : OpM P w0 o env l R) : OpW P w0 o env l R := by
  refine ⟨?_⟩
  intro a hr w hw K Q hK
  obtain ⟨nx, v, w', l', he, hv, hR, ho⟩ := h.run a.eval hr w hw
  unfold Oper.wp
  rw [he]
  rcases hv with rfl | ⟨rfl, rfl⟩
  · exact hK _ _ _ hR ho
  · exact hK _ _ _ hR ho
end

/-! A region in the text's order. -/

def QN (C : Cx) (k : List Item) : Exit → Act → World → Prop := fun e a w => e = .normal ∧ Goes C k a w

structure JL (C : Cx) (ops rest : List Oper) (k : List Item) (env : Env) (l : List HProp) : Prop where
  go : C.P.funcs[C.f]? = some C.fn → ∀ a w, EnvOk C.n a env → Own C.w0 w l → wpList C.P ops.toArray (QN C k) rest a w

def Gd (ops : List Oper) (env : Env) : Option (Nat × Bool) → Option Bool
  | none => some true
  | some (j, want) => match ops[j]? with
    | some o => (match o.dst with
      | some t => (match Env.get env t with
        | some (.bool c) => some (bif want then c else not c)
        | some (.tuple _) => some false
        | _ => none)
      | none => none)
    | none => none

theorem Gd.wanted {ops : List Oper} {env : Env} {o : Oper} {n : Nat} {a : Act} {b : Bool} (he : EnvOk n a env) (h : Gd ops env o.guard = some b) : Region.wanted o (yielded ops.toArray a.tmps) = b := by
  unfold Region.wanted
  cases hg : o.guard with
  | none => simp only [hg, Gd] at h; simpa using h
  | some g =>
    obtain ⟨j, want⟩ := g
    simp only [hg, Gd] at h ⊢
    cases ho : ops[j]? with
    | none => simp [ho] at h
    | some o' =>
      simp only [ho] at h
      cases hd : o'.dst with
      | none => simp [hd] at h
      | some t =>
        simp only [hd] at h
        cases ht : Env.get env t with
        | none => simp [ht] at h
        | some u =>
          simp only [ht] at h
          have hu := he.get t u ht
          cases u <;> simp at h
          case bool c => subst h; simp [yielded, ho, hd, hu]; cases want <;> cases c <;> rfl
          case tuple vs => subst h; simp [yielded, ho, hd, hu]

theorem J.region {C : Cx} {k : List Item} {env : Env} {l : List HProp} {id : Nat} {ops : List Oper} (h : JL C ops ops k env l) : J C (.code (.region id ops.toArray false) :: k) env l := by
  refine ⟨?_⟩
  intro hf a w he ho b cs hb hk
  obtain ⟨e, a', w', ⟨rfl, hq⟩, harr⟩ := wp_region_lit (P := C.P) (id := id) (h.go hf a w he ho) b k cs
  obtain ⟨e, w2, fr, hR, hc, hfr, hl⟩ := hq b cs hb hk
  exact ⟨e, w2, fr, hR, .of_steps harr hc, hfr, hl⟩

section
variable {C : Cx} {ops rest : List Oper} {o : Oper} {k : List Item} {env : Env} {l : List HProp} {v : Value} {R : Value → List HProp → Prop}

theorem JL.nil (h : J C k env l) : JL C ops [] k env l := ⟨fun hf a w he ho => ⟨rfl, h.go hf a w he ho⟩⟩

theorem JL.skipG (hg : Gd ops env o.guard = some false) (hd : okd o.dst C.n = true) (h : JL C ops rest k (putd o.dst undef env) l) : JL C ops (o :: rest) k env l := by
  refine ⟨?_⟩
  intro hf a w he ho
  unfold wpList
  rw [Gd.wanted he hg, if_neg (by simp)]
  exact h.go hf _ w (he.put hd _) ho

theorem JL.stepG (hg : Gd ops env o.guard = some true) (hd : okd o.dst C.n = true) (hop : OpW C.P C.w0 o env l R) (h : ∀ v l', R v l' → JL C ops rest k (putd o.dst v env) l') : JL C ops (o :: rest) k env l := by
  refine ⟨?_⟩
  intro hf a w he ho
  unfold wpList
  rw [Gd.wanted he hg, if_pos rfl]
  exact .inl (hop.run a (he.rds _) w ho _ _ fun v w' l' hR ho' => (h v l' hR).go hf _ w' (he.put hd v) ho')

variable {d : Tmp} {op : Op} {ty : TypeId} {pos : String} {after : Array Edge} {g : Option (Nat × Bool)}

theorem JL.skip (hg : Gd ops env g = some false) (hd : Nat.blt d C.n = true) (h : JL C ops rest k ((d, undef) :: env) l) : JL C ops (⟨some d, op, ty, pos, after, g⟩ :: rest) k env l := JL.skipG hg hd h
theorem JL.skip0 (hg : Gd ops env g = some false) (h : JL C ops rest k env l) : JL C ops (⟨none, op, ty, pos, after, g⟩ :: rest) k env l := JL.skipG hg rfl h
theorem JL.step (hg : Gd ops env g = some true) (hd : Nat.blt d C.n = true) (hop : OpW C.P C.w0 ⟨some d, op, ty, pos, after, g⟩ env l R) (h : ∀ v l', R v l' → JL C ops rest k ((d, v) :: env) l') : JL C ops (⟨some d, op, ty, pos, after, g⟩ :: rest) k env l := JL.stepG hg hd hop h
theorem JL.step0 (hg : Gd ops env g = some true) (hop : OpW C.P C.w0 ⟨none, op, ty, pos, after, g⟩ env l R) (h : ∀ v l', R v l' → JL C ops rest k env l') : JL C ops (⟨none, op, ty, pos, after, g⟩ :: rest) k env l := JL.stepG hg rfl hop h
theorem JL.read (hg : Gd ops env g = some true) (hd : Nat.blt d C.n = true) (hop : OpR C.P C.w0 ⟨some d, op, ty, pos, after, g⟩ env l v) (h : JL C ops rest k ((d, v) :: env) l) : JL C ops (⟨some d, op, ty, pos, after, g⟩ :: rest) k env l :=
  JL.step hg hd hop.m.w fun _ _ ⟨h1, h2⟩ => by subst h1; subst h2; exact h
theorem JL.pure (hg : Gd ops env g = some true) (hd : Nat.blt d C.n = true) (hop : OpP C.P ⟨some d, op, ty, pos, after, g⟩ env v) (h : JL C ops rest k ((d, v) :: env) l) : JL C ops (⟨some d, op, ty, pos, after, g⟩ :: rest) k env l :=
  JL.read hg hd hop.r h
theorem JL.mem (hg : Gd ops env g = some true) (hd : Nat.blt d C.n = true) (hop : OpM C.P C.w0 ⟨some d, op, ty, pos, after, g⟩ env l R) (h : ∀ v l', R v l' → JL C ops rest k ((d, v) :: env) l') : JL C ops (⟨some d, op, ty, pos, after, g⟩ :: rest) k env l :=
  JL.step hg hd hop.w h
theorem JL.mem0 (hg : Gd ops env g = some true) (hop : OpM C.P C.w0 ⟨none, op, ty, pos, after, g⟩ env l R) (h : ∀ v l', R v l' → JL C ops rest k env l') : JL C ops (⟨none, op, ty, pos, after, g⟩ :: rest) k env l :=
  JL.step0 hg hop.w h

theorem JL.conv {l' : List HProp} (hl : ∀ w, Own C.w0 w l → Own C.w0 w l') (h : JL C ops rest k env l') : JL C ops rest k env l := ⟨fun hf a w he ho => h.go hf a w he (hl w ho)⟩
theorem JL.open {α : Sort _} {p : α → Prop} {l' : α → List HProp} (hl : ∀ w, Own C.w0 w l → ∃ x, p x ∧ Own C.w0 w (l' x)) (h : ∀ x, p x → JL C ops rest k env (l' x)) : JL C ops rest k env l :=
  ⟨fun hf a w he ho => let ⟨x, hp, hx⟩ := hl w ho; (h x hp).go hf a w he hx⟩

/-! A call of a named function. -/
class CalleeOk (P : Program) (f : FuncId) : Prop where
  calls : ∀ args w, (callFunc f args).run P w = .ok (.enter f args) w

theorem CalleeOk.mk' {P : Program} {f : FuncId} {fn : Func} (h : P.funcs[f]? = some fn) (hb : fn.body.isSome = true) (hn : (fn.name == "runtime.NumGoroutine") = false) : CalleeOk P f := by
  refine ⟨fun args w => ?_⟩
  have hn' : ¬ fn.name = "runtime.NumGoroutine" := by simpa using hn
  cases e : fn.body with
  | none => simp [e] at hb
  | some c => simp [callFunc, h, e, hn']

theorem OpW.call {P : Program} {w0 : World} {dst : Option Tmp} {ty : TypeId} {pos : String} {after : Array Edge} {g : Option (Nat × Bool)} {f : Operand} {args : List Operand} {tys : Array TypeId} {fid : FuncId} {first captured : List Value} {vs : List Value}
    (hc : CalleeOk P fid) (hf : ev env f = some (.func (.func fid) first.toArray captured.toArray)) (ha : evs env args = some vs) (h : FnO P w0 fid (first ++ (vs ++ captured)) l R) :
    OpW P w0 ⟨dst, .call ⟨.value f, args.toArray, tys⟩, ty, pos, after, g⟩ env l R := by
  refine ⟨?_⟩
  intro a hr w hw K Q hK
  have hf' : a.eval f = _ := hr f (by simp [Op.operands, Call.operands]) _ hf
  have ha' : args.map a.eval = vs := Rds.evs (fun x hx => hr x (by simp [Op.operands, Call.operands, hx])) ha
  have hrun : (execOp a.eval ⟨dst, .call ⟨.value f, args.toArray, tys⟩, ty, pos, after, g⟩).run P w = .ok (.enter fid (first ++ (vs ++ captured)).toArray) w := by
    simp only [execOp, resolve, hf', Deferred.ofValue, List.map_toArray, ha']
    have := hc.calls (first ++ (vs ++ captured)).toArray w
    simp [invoke, this]
  unfold Oper.wp
  rw [hrun]
  simp only [Oper.upon_enter]
  refine (h.calls w hw).mono fun e w' ⟨v, l', he, hR, ho⟩ => ?_
  subst he
  exact hK v w' l' hR ho
end

/-! The end of a function. -/
def resTmps (env : Env) : List ResultVar → Option (List Value)
  | [] => some []
  | .tmp t :: r => match Env.get env t with
    | some v => (match resTmps env r with
      | some vs => some (v :: vs)
      | none => none)
    | none => none
  | _ => none

def tupled : List Value → Value
  | [v] => v
  | vs => .tuple vs.toArray

/-- What the results read as, in every world with these resources. -/
def ResOk (C : Cx) (env : Env) (l : List HProp) (v : Value) : Prop :=
  ∀ a w, EnvOk C.n a env → Own C.w0 w l → (results C.fn a.tmps).run C.P w = .ok v w

inductive ResVals (P : Program) (w0 : World) (env : Env) (l : List HProp) : List ResultVar → List Value → Prop where
  | nil : ResVals P w0 env l [] []
  | tmp {t : Tmp} {v : Value} {xs : List ResultVar} {vs : List Value} (h : Env.get env t = some v) (hs : ResVals P w0 env l xs vs) : ResVals P w0 env l (.tmp t :: xs) (v :: vs)
  | cell {t : Tmp} {ty : TypeId} {ad : Addr} {v : Value} {xs : List ResultVar} {vs : List Value} (h : Env.get env t = some (.pointer (some ad))) (hl : ∀ w, Own w0 w l → (loadVar ty ad).run P w = .ok v w) (hs : ResVals P w0 env l xs vs) : ResVals P w0 env l (.cell t ty :: xs) (v :: vs)

def resOne (tmps : Array Value) : ResultVar → Sem Value
  | .tmp t => Pure.pure (tmps.getD t undef)
  | .cell b t => asAddr (tmps.getD b undef) >>= fun ad => loadVar t ad

theorem results_eq (fn : Func) (tmps : Array Value) : results fn tmps = (do let vs ← fn.results.mapM (resOne tmps); Pure.pure (if h : vs.size = 1 then vs[0] else .tuple vs)) := by
  unfold results
  congr 1

theorem ResVals.run {P : Program} {w0 : World} {env : Env} {l : List HProp} {n : Nat} {a : Act} {w : World} (he : EnvOk n a env) (ho : Own w0 w l) : ∀ {xs : List ResultVar} {vs : List Value}, ResVals P w0 env l xs vs →
    (xs.mapM (resOne a.tmps)).run P w = .ok vs w
  | _, _, .nil => by simp
  | _, _, .tmp h hs => by
    have ih := ResVals.run he ho hs
    simp only [List.mapM_cons, Sem.run_bind]
    have h1 := he.get _ _ h
    simp only [resOne, Sem.run_pure, Result.andThen_ok, ih]
    simp [h1]
  | _, _, .cell h hl hs => by
    have ih := ResVals.run he ho hs
    simp only [List.mapM_cons, Sem.run_bind]
    have h1' := he.get _ _ h
    have e : ∀ (t : Tmp) (ty : TypeId) (ad : Addr), a.tmps[t]? = some (Value.pointer (some ad)) → (resOne a.tmps (.cell t ty)) = loadVar ty ad := fun t ty ad hh => by
      simp only [resOne, show a.tmps.getD t undef = .pointer (some ad) from by simp [hh]]
      rfl
    rw [e _ _ _ h1']
    simp only [Sem.run_pure, Result.andThen_ok, hl w ho, ih]

theorem ResOk.of {C : Cx} {env : Env} {l : List HProp} {xs : List ResultVar} {vs : List Value} (hx : C.fn.results = xs.toArray) (h : ResVals C.P C.w0 env l xs vs) : ResOk C env l (tupled vs) := by
  intro a w he ho
  have hr := ResVals.run he ho h
  rw [results_eq, hx]
  simp only [List.mapM_toArray, Sem.run_bind, Sem.run_map]
  rw [hr]
  simp only [Result.andThen_ok, Sem.run_pure]
  congr 1
  match vs with
  | [] => simp [tupled]
  | [v] => simp [tupled]
  | v :: u :: vs => simp [tupled]

theorem J.ret {C : Cx} {k : List Item} {env : Env} {l : List HProp} {v : Value} (hr : ResOk C env l v) (h : C.R v l) : J C (.code .ret :: k) env l := by
  refine ⟨?_⟩
  intro hf a w he ho b cs hb hk
  refine ⟨.returned v, w, { b.at a (.code .ret :: k) with mode := .returning }, ⟨v, l, rfl, h, ho⟩, ?_, hb, rfl, ?_, hk, C.fn, ?_, hr a w he ho⟩
  · exact Steps.one step_ret
  · exact he.defers
  · show C.P.funcs[b.fn]? = _
    rw [hb]; exact hf

theorem J.fin {C : Cx} {env : Env} {l : List HProp} {v : Value} (hr : ResOk C env l v) (h : C.R v l) : J C [] env l := by
  refine ⟨?_⟩
  intro hf a w he ho b cs hb hk
  refine ⟨.returned v, w, { b.at a [] with mode := .returning }, ⟨v, l, rfl, h, ho⟩, ?_, hb, rfl, ?_, hk, C.fn, ?_, hr a w he ho⟩
  · exact Steps.one step_end
  · exact he.defers
  · show C.P.funcs[b.fn]? = _
    rw [hb]; exact hf

end Go.Gp
