/- A text of the proof of a statement about the given program: stepping through code, by what holds. No person has read it. -/
import Derived.Test.YtecnolmpdgfnfaaDoorJ0
namespace Go.Gp
open Go Go.RowKit

/-! Frames: what is known of the slots. -/

abbrev Env := List (Nat × Value)

theorem nbeq {a b : Nat} (h : ¬ a = b) : Nat.beq a b = false := by
  cases e : Nat.beq a b with
  | false => rfl
  | true => exact absurd (Nat.eq_of_beq_eq_true e) h

def Env.get : Env → Nat → Option Value
  | [], _ => none
  | (t, v) :: e, s => bif Nat.beq s t then some v else Env.get e s

def ev (env : Env) : Operand → Option Value
  | .tmp t => Env.get env t
  | .const v => some v
  | .global g => some (.pointer (some ⟨g, 0, none⟩))
  | .func f => some (.func (.func f) #[] #[])

def evs (env : Env) : List Operand → Option (List Value)
  | [] => some []
  | x :: xs => match ev env x with
    | some v => (match evs env xs with
      | some vs => some (v :: vs)
      | none => none)
    | none => none

structure EnvOk (n : Nat) (a : Act) (env : Env) : Prop where
  size : a.tmps.size = n
  defers : a.defers = []
  get : ∀ t v, Env.get env t = some v → a.tmps[t]? = some v

theorem EnvOk.ev {n : Nat} {a : Act} {env : Env} (h : EnvOk n a env) {x : Operand} {u : Value} (hx : ev env x = some u) : a.eval x = u := by
  cases x with
  | tmp t => have := h.get t u hx; simp [Act.eval, this]
  | const v => simpa [Gp.ev, Act.eval] using hx
  | global g => simpa [Gp.ev, Act.eval] using hx
  | func f => simpa [Gp.ev, Act.eval] using hx

/-- The environment says the same of the operands 'xs'. -/
def Rds (ρ : Operand → Value) (env : Env) (xs : Array Operand) : Prop := ∀ x ∈ xs, ∀ u, ev env x = some u → ρ x = u

theorem EnvOk.rds {n : Nat} {a : Act} {env : Env} (h : EnvOk n a env) (xs : Array Operand) : Rds a.eval env xs := fun _ _ _ hx => h.ev hx

theorem Rds.evs {ρ : Operand → Value} {env : Env} : ∀ {xs : List Operand} {vs : List Value}, (∀ x ∈ xs, ∀ u, ev env x = some u → ρ x = u) → evs env xs = some vs → xs.map ρ = vs
  | [], vs, _, h => by simp [Gp.evs] at h; subst h; rfl
  | x :: xs, vs, hr, h => by
    unfold Gp.evs at h
    split at h
    · rename_i v hv
      split at h
      · rename_i vs' hvs
        simp at h; subst h
        simp only [List.map_cons]
        rw [hr x (.head _) v hv, Rds.evs (fun y hy => hr y (.tail _ hy)) hvs]
      · cases h
    · cases h

def putd (d : Option Tmp) (v : Value) (env : Env) : Env := match d with | some t => (t, v) :: env | none => env

def okd (d : Option Tmp) (n : Nat) : Bool := match d with | some t => Nat.blt t n | none => true

theorem EnvOk.put {n : Nat} {a : Act} {env : Env} (h : EnvOk n a env) {d : Option Tmp} (hd : okd d n = true) (v : Value) : EnvOk n (a.put d v) (putd d v env) := by
  cases d with
  | none => exact h
  | some t =>
    have hlt : t < n := by simpa [okd, Nat.blt_eq] using hd
    refine ⟨by simp [Act.put, h.size], h.defers, fun s u hs => ?_⟩
    simp only [putd, Env.get] at hs
    by_cases e : s = t
    · subst e; simp at hs; subst hs; simp [Act.put, h.size, hlt]
    · have : Nat.beq s t = false := nbeq e
      rw [this] at hs
      simp only [cond_false] at hs
      have := h.get s u hs
      simp only [Act.put]
      rw [Array.getElem?_setIfInBounds_ne (fun e' => e e'.symm)]
      exact this

/-- 'env'' knows no more than 'env'. -/
def SubEnv : Env → Env → Prop
  | [], _ => True
  | (t, v) :: e, env => Env.get env t = some v ∧ SubEnv e env

theorem SubEnv.get {env : Env} : ∀ {e : Env}, SubEnv e env → ∀ t v, Env.get e t = some v → Env.get env t = some v
  | [], _, _, _, h => by simp [Env.get] at h
  | (s, u) :: e, ⟨h1, h2⟩, t, v, h => by
    simp only [Env.get] at h
    by_cases e' : t = s
    · subst e'; simp at h; subst h; exact h1
    · have : Nat.beq t s = false := nbeq e'
      rw [this] at h
      exact h2.get t v h

theorem EnvOk.sub {n : Nat} {a : Act} {env e : Env} (h : EnvOk n a env) (hs : SubEnv e env) : EnvOk n a e := ⟨h.size, h.defers, fun t v ht => h.get t v (hs.get t v ht)⟩

/-! The machine from a point on: it comes to the function's end, and there 'R' holds. -/

structure Cx where
  P : Program
  w0 : World
  f : FuncId
  fn : Func
  n : Nat
  R : Value → List HProp → Prop

def Goes (C : Cx) (k : List Item) (a : Act) (w : World) : Prop :=
  ∀ (b : Frame) (cs : List Frame), b.fn = C.f → b.kind = .normal → ∃ e w' fr, (∃ v l', e = Ending.returned v ∧ C.R v l' ∧ Own C.w0 w' l') ∧ Comes C.P (lone (b.at a k) cs w) (lone fr cs w') e ∧ fr.fn = C.f ∧ fr.leaving C.P w' e

theorem Goes.step {C : Cx} {k k' : List Item} {a a' : Act} {w w' : World} (hs : ∀ (b : Frame) cs, Steps C.P (lone (b.at a k) cs w) (lone (b.at a' k') cs w')) (h : Goes C k' a' w') : Goes C k a w := by
  intro b cs hb hk
  obtain ⟨e, w2, fr, hR, hc, hf, hl⟩ := h b cs hb hk
  exact ⟨e, w2, fr, hR, .of_steps (hs b cs) hc, hf, hl⟩

structure FnO (P : Program) (w0 : World) (f : FuncId) (args : List Value) (l : List HProp) (R : Value → List HProp → Prop) : Prop where
  calls : ∀ w, Own w0 w l → Calls P f args.toArray w fun e w' => ∃ v l', e = Ending.returned v ∧ R v l' ∧ Own w0 w' l'

theorem FnO.mono {P : Program} {w0 : World} {f : FuncId} {args : List Value} {l : List HProp} {R R' : Value → List HProp → Prop} (h : FnO P w0 f args l R) (hr : ∀ v l', R v l' → R' v l') : FnO P w0 f args l R' :=
  ⟨fun w hw => (h.calls w hw).mono fun _ _ ⟨v, l', he, hR, ho⟩ => ⟨v, l', he, hr _ _ hR, ho⟩⟩

theorem FnO.conv {P : Program} {w0 : World} {f : FuncId} {args : List Value} {l l' : List HProp} {R : Value → List HProp → Prop} (hl : ∀ w, Own w0 w l → Own w0 w l') (h : FnO P w0 f args l' R) : FnO P w0 f args l R :=
  ⟨fun w hw => h.calls w (hl w hw)⟩

structure J (C : Cx) (k : List Item) (env : Env) (l : List HProp) : Prop where
  go : C.P.funcs[C.f]? = some C.fn → ∀ a w, EnvOk C.n a env → Own C.w0 w l → Goes C k a w

def argEnv : Nat → List Value → Env
  | _, [] => []
  | i, v :: vs => (i, v) :: argEnv (i + 1) vs

theorem argEnv_get {t : Nat} {v : Value} : ∀ {vs : List Value} {i : Nat}, Env.get (argEnv i vs) t = some v → i ≤ t ∧ vs[t - i]? = some v
  | [], _, h => by simp [argEnv, Env.get] at h
  | u :: vs, i, h => by
    simp only [argEnv, Env.get] at h
    by_cases e : t = i
    · subst e; simp at h; subst h; simp
    · have hb : Nat.beq t i = false := nbeq e
      rw [hb] at h
      simp only [cond_false] at h
      obtain ⟨h1, h2⟩ := argEnv_get h
      refine ⟨by omega, ?_⟩
      have : t - i = (t - (i + 1)) + 1 := by omega
      rw [this]; simpa using h2

theorem FnO.intro {P : Program} {w0 : World} {f : FuncId} {fn : Func} {c : Code} {n : Nat} {args : List Value} {l : List HProp} {R : Value → List HProp → Prop}
    (hf : P.funcs[f]? = some fn) (hb : fn.body = some c) (hnt : fn.ntmps = n) (hn : Nat.ble args.length n = true) (h : J ⟨P, w0, f, fn, n, R⟩ [.code c] (argEnv 0 args) l) : FnO P w0 f args l R := by
  refine ⟨?_⟩
  intro w hw cs
  let b : Frame := { (default : Frame) with fn := f, kind := .normal }
  have hn' : args.length ≤ n := by simpa using hn
  have henter : Frame.enter P f args.toArray .normal = b.at { tmps := args.toArray ++ Array.replicate (fn.ntmps - args.toArray.size) undef, defers := [] } [.code c] := by
    simp [Frame.enter, Frame.at, hf, hb, b]
  have hok : EnvOk n { tmps := args.toArray ++ Array.replicate (fn.ntmps - args.toArray.size) undef, defers := [] } (argEnv 0 args) := by
    refine ⟨by simp [hnt]; omega, rfl, fun t v ht => ?_⟩
    obtain ⟨_, h2⟩ := argEnv_get ht
    have hlt : t < args.length := by
      have := (List.getElem?_eq_some_iff.1 h2).1
      omega
    simp only [Nat.sub_zero] at h2
    rw [Array.getElem?_append_left (by simpa using hlt)]
    simpa using h2
  obtain ⟨e, w', fr, hR, hc, hfr, hl⟩ := h.go hf _ w hok hw b cs rfl rfl
  rw [henter]
  exact ⟨e, w', fr, hR, hc, hfr, hl⟩

section control
variable {C : Cx} {k : List Item} {env : Env} {l : List HProp}

theorem J.step {k' : List Item} (hs : ∀ a w, EnvOk C.n a env → ∀ (b : Frame) cs, Steps C.P (lone (b.at a k) cs w) (lone (b.at a k') cs w)) (h : J C k' env l) : J C k env l :=
  ⟨fun hf a w he ho => Goes.step (hs a w he) (h.go hf a w he ho)⟩

theorem J.seq {x y : Code} (h : J C (.code x :: .code y :: k) env l) : J C (.code (.seq x y) :: k) env l := J.step (fun _ _ _ _ _ => .one step_seq) h
theorem J.skip (h : J C k env l) : J C (.code .skip :: k) env l := J.step (fun _ _ _ _ _ => .one step_skip) h
theorem J.block {id : Nat} {c : Code} (h : J C (.code c :: .inBlock id :: k) env l) : J C (.code (.block id c) :: k) env l := J.step (fun _ _ _ _ _ => .one step_block) h
theorem J.inBlock {id : Nat} (h : J C k env l) : J C (.inBlock id :: k) env l := J.step (fun _ _ _ _ _ => .one step_inBlock) h
theorem J.exit {id : Nat} {k' : List Item} (hk : exitTo id k = some k') (h : J C k' env l) : J C (.code (.exit id) :: k) env l := J.step (fun _ _ _ _ _ => .one (step_exit hk)) h
theorem J.condT {c : Operand} {x y : Code} (hc : ev env c = some (.bool true)) (h : J C (.code x :: k) env l) : J C (.code (.cond c x y) :: k) env l :=
  J.step (fun _ _ he _ _ => .one (step_cond (t := true) (he.ev hc))) h
theorem J.condF {c : Operand} {x y : Code} (hc : ev env c = some (.bool false)) (h : J C (.code y :: k) env l) : J C (.code (.cond c x y) :: k) env l :=
  J.step (fun _ _ he _ _ => .one (step_cond (t := false) (he.ev hc))) h
theorem J.cond {c : Operand} {x y : Code} {t : Bool} (hc : ev env c = some (.bool t)) (h1 : t = true → J C (.code x :: k) env l) (h2 : t = false → J C (.code y :: k) env l) : J C (.code (.cond c x y) :: k) env l := by
  cases t
  · exact J.condF hc (h2 rfl)
  · exact J.condT hc (h1 rfl)
theorem J.loop {c : Code} (h : J C (.code c :: .inLoop c :: k) env l) : J C (.code (.loop c) :: k) env l := J.step (fun _ _ _ _ _ => .one step_loop) h
theorem J.inLoop {c : Code} (h : J C (.code c :: .inLoop c :: k) env l) : J C (.inLoop c :: k) env l := J.step (fun _ _ _ _ _ => .one step_inLoop) h
theorem J.ind {k' : List Item} {σ : Type} (μ : σ → Nat) (I : σ → Prop) (E : σ → Env) (L : σ → List HProp)
    (body : ∀ s, I s → (∀ s', I s' → μ s' < μ s → J C k' (E s') (L s')) → J C k (E s) (L s)) (back : ∀ s, J C k (E s) (L s) → J C k' (E s) (L s)) : ∀ s, I s → J C k (E s) (L s) := by
  have key : ∀ m s, μ s = m → I s → J C k (E s) (L s) := by
    intro m
    induction m using Nat.strongRecOn with
    | _ m ih => exact fun s hm hI => body s hI fun s' hI' hlt => back s' (ih (μ s') (hm ▸ hlt) s' rfl hI')
  exact fun s hI => key _ s rfl hI
theorem J.sub {e : Env} (hs : SubEnv e env) (h : J C k e l) : J C k env l := ⟨fun hf a w he ho => h.go hf a w (he.sub hs) ho⟩
theorem J.conv {l' : List HProp} (hl : ∀ w, Own C.w0 w l → Own C.w0 w l') (h : J C k env l') : J C k env l := ⟨fun hf a w he ho => h.go hf a w he (hl w ho)⟩
theorem J.open {α : Sort _} {p : α → Prop} {l' : α → List HProp} (hl : ∀ w, Own C.w0 w l → ∃ x, p x ∧ Own C.w0 w (l' x)) (h : ∀ x, p x → J C k env (l' x)) : J C k env l :=
  ⟨fun hf a w he ho => let ⟨x, hp, hx⟩ := hl w ho; (h x hp).go hf a w he hx⟩
end control

end Go.Gp
