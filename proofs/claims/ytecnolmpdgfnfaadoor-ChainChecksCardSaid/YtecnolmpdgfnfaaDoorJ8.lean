/- A text of the proof of a statement about the given program: regions that draw their order. No person has read it. -/
import Derived.Test.YtecnolmpdgfnfaaDoorJ7
namespace Go.Gp
open Go Go.RowKit

/-! A region that draws its order. -/

section
variable {P : Program} {ops : Array Oper} {Q : Exit → Act → World → Prop} {Cl : World → Prop} {fin : Nat → Bool}

def wpC (P : Program) (ops : Array Oper) (Q : Exit → Act → World → Prop) (Cl : World → Prop) (fin : Nat → Bool) : Nat → Array Bool → Act → World → Prop
  | 0, listed, a, w => Region.ready .any ops listed = [] ∧ Q .normal a w
  | fuel + 1, listed, a, w =>
    (Region.ready .any ops listed = [] → Q .normal a w) ∧
    ∀ i ∈ Region.ready .any ops listed, wpOp P ops Q i (fun a' w' => (fin i = true ∨ (Cl w → Cl w')) ∧ wpC P ops Q Cl fin fuel (listed.setIfInBounds i true) a' w') a w

theorem wpC_any : ∀ (fuel : Nat) (listed : Array Bool) (a : Act) (w : World), wpC P ops Q Cl fin fuel listed a w → wpAny P .any ops Q fuel listed a w
  | 0, _, _, _, h => h
  | fuel + 1, _, _, _, h => ⟨h.1, fun i hi => wpOp_mono (fun a' w' h' => wpC_any fuel _ a' w' h'.2) (h.2 i hi)⟩

def YieldsC (P : Program) (ops : Array Oper) (Cl : World → Prop) (o : Oper) (v : Value) (a : Act) : Prop :=
  (Region.wanted o (yielded ops a.tmps) = true ∧ ∀ w, Cl w → (execOp a.eval o).run P w = .ok (.value v) w) ∨
  (Region.wanted o (yielded ops a.tmps) = false ∧ v = undef)

theorem YieldsC.wpOp {i : Nat} {o : Oper} {v : Value} {a : Act} (hi : ops[i]? = some o) (hy : YieldsC P ops Cl o v a)
    {K : Act → World → Prop} {w : World} (hw : Cl w) (h : K (a.put o.dst v) w) : wpOp P ops Q i K a w := by
  unfold Go.wpOp
  simp only [hi]
  rcases hy with ⟨hw', hv⟩ | ⟨hw', rfl⟩
  · simp only [hw', if_true, Oper.wp, hv w hw, Oper.upon]; exact .inl h
  · simp only [hw', Bool.false_eq_true, if_false]; exact h

theorem YieldsC.of_same {o : Oper} {v : Value} {a a' : Act} (hy : YieldsC P ops Cl o v a) (he : execOp a'.eval o = execOp a.eval o)
    (hw : Region.wanted o (yielded ops a'.tmps) = Region.wanted o (yielded ops a.tmps)) : YieldsC P ops Cl o v a' := by
  unfold YieldsC at *
  rw [he, hw]
  exact hy

theorem wpOp_putC {j : Nat} {oi oj : Oper} {v : Value} (hj : ops[j]? = some oj) (hap : oi.apart ops oj = true)
    (hsi : ∀ cs b, oi.op ≠ .select cs b) (hsj : ∀ cs b, oj.op ≠ .select cs b)
    (hQ : ∀ c a w, Q (.panic c) (a.put oi.dst v) w → Q (.panic c) a w) {K : Act → World → Prop} {a : Act} {w : World}
    (hy : YieldsC P ops Cl oi v a) (h : wpOp P ops Q j K (a.put oi.dst v) w) :
    wpOp P ops Q j (fun a' w' => YieldsC P ops Cl oi v a' ∧ K (a'.put oi.dst v) w') a w := by
  obtain ⟨h1, h2, h3⟩ := Oper.apart_spec hap
  have keep : ∀ (a : Act), YieldsC P ops Cl oi v a → ∀ u, YieldsC P ops Cl oi v (a.put oj.dst u) := fun a hy u =>
    hy.of_same (execOp_put oi hsi a oj.dst u h3) (wanted_put oi a oj.dst u h3)
  have keepD : ∀ d, YieldsC P ops Cl oi v { a with defers := d :: a.defers } := fun d => hy.of_same rfl rfl
  unfold wpOp at *
  simp only [hj] at *
  rw [wanted_put oj a oi.dst v h1] at h
  split
  · rename_i hw
    simp only [hw, if_true] at h
    rcases h with h | ⟨hasks, hlets⟩
    case inr => exact .inr ⟨by unfold Oper.asks at *; rw [execOp_put oj hsj a oi.dst v h1] at hasks; exact hasks, hlets⟩
    refine .inl ?_
    unfold Oper.wp at *
    rw [execOp_put oj hsj a oi.dst v h1] at h
    generalize (execOp a.eval oj).run P w = r at *
    cases r with
    | ok n w' =>
      cases n <;> simp only [Oper.upon] at h ⊢
      case value u => exact ⟨keep a hy u, by rw [← Act.put_comm a v u h2]; exact h⟩
      case skip => exact ⟨keep a hy _, by rw [← Act.put_comm a v undef h2]; exact h⟩
      case defer d =>
        refine ⟨keep _ (keepD d) _, ?_⟩
        rw [← Act.put_comm _ v undef h2, ← Act.put_defers]
        exact h
      case enter f args =>
        refine Calls.mono h fun e w'' he => ?_
        cases e with
        | returned u => exact ⟨keep a hy u, by rw [← Act.put_comm a v u h2]; exact he⟩
        | panicked c => exact hQ _ _ _ he
        | outgrown => exact he
      case row row args => exact Rows.mono h fun u w'' he => ⟨keep a hy u, by rw [← Act.put_comm a v u h2]; exact he⟩
    | halt x w' =>
      cases x <;> simp only [Oper.upon] at h ⊢
      case panic u => exact hQ _ _ _ h
  · rename_i hw
    simp only [hw] at h
    exact ⟨keep a hy _, by rw [← Act.put_comm a v undef h2]; exact h⟩

/-- Every operation that has come up: so has all that it waits for. -/
def Closed (ops : Array Oper) (listed : Array Bool) : Prop :=
  ∀ j o, ops[j]? = some o → listed.getD j false = true → ∀ e ∈ o.after, Region.binds .any e = true → listed.getD e.on false = true

theorem Closed.add {listed : Array Bool} {j : Nat} (h : Closed ops listed) (hj : j ∈ Region.ready .any ops listed) : Closed ops (listed.setIfInBounds j true) := by
  intro i o ho hi e he hb
  by_cases hij : i = j
  · subst hij
    obtain ⟨_, o', ho', hall⟩ := mem_ready.1 hj
    rw [ho] at ho'; cases ho'
    exact getD_set_true (hall e he hb)
  · rw [getD_set_ne false (Ne.symm hij)] at hi
    exact getD_set_true (h i o ho hi e he hb)

def reach (ops : Array Oper) : Nat → Nat → Nat → Bool
  | 0, _, _ => false
  | f + 1, j, i => match ops[j]? with
    | none => false
    | some o => o.after.toList.any fun e => Region.binds .any e && (Nat.beq e.on i || reach ops f e.on i)

theorem reach_listed {listed : Array Bool} (hc : Closed ops listed) : ∀ (f j i : Nat), (∀ o, ops[j]? = some o → ∀ e ∈ o.after, Region.binds .any e = true → listed.getD e.on false = true) → reach ops f j i = true → listed.getD i false = true
  | 0, _, _, _, h => by simp [reach] at h
  | f + 1, j, i, hd, h => by
    unfold reach at h
    cases ho : ops[j]? with
    | none => simp [ho] at h
    | some o =>
      simp only [ho, List.any_eq_true, Bool.and_eq_true, Bool.or_eq_true] at h
      obtain ⟨e, he, hb, h⟩ := h
      have he' : e ∈ o.after := by simpa using he
      have hle := hd o ho e he' hb
      rcases h with h | h
      · have := Nat.eq_of_beq_eq_true h; rw [this] at hle; exact hle
      · exact reach_listed hc f e.on i (fun o' ho' e' he'' hb' => hc e.on o' ho' hle e' he'' hb') h

theorem getD_true_false {listed : Array Bool} {i : Nat} (h : listed.getD i true = false) : listed.getD i false = false := by
  rcases Nat.lt_or_ge i listed.size with h' | h'
  · simp [h'] at h ⊢; exact h
  · simp [Array.getElem?_eq_none h'] at h

theorem wpC_first {i : Nat} {oi : Oper} {v : Value} (hi : ops[i]? = some oi) (hsel : ∀ (j : Nat) (o : Oper) cs b, ops[j]? = some o → o.op ≠ .select cs b)
    (hQ : ∀ c a w, Q (.panic c) (a.put oi.dst v) w → Q (.panic c) a w) (hfin : ∀ j, fin j = true → ∃ f, reach ops f j i = true) :
    ∀ (fuel : Nat) (listed : Array Bool) (a : Act) (w : World), Closed ops listed →
      (∀ j oj, ops[j]? = some oj → j ≠ i → listed.getD j true = false → (∀ e ∈ oj.after, Region.binds .any e = true → e.on ≠ i) → oi.apart ops oj = true) →
      i ∈ Region.ready .any ops listed → Cl w → YieldsC P ops Cl oi v a →
      wpC P ops Q Cl fin fuel (listed.setIfInBounds i true) (a.put oi.dst v) w → wpC P ops Q Cl fin (fuel + 1) listed a w := by
  intro fuel
  induction fuel with
  | zero =>
    intro listed a w _ _ hr hw hy H
    refine ⟨fun h => (by rw [h] at hr; cases hr), fun j hj => ?_⟩
    by_cases hji : j = i
    · subst hji; exact hy.wpOp hi hw ⟨.inr fun h => h, H⟩
    · have := ready_mono hj hji
      rw [H.1] at this
      cases this
  | succ fuel ih =>
    intro listed a w hcl hfree hr hw hy H
    refine ⟨fun h => (by rw [h] at hr; cases hr), fun j hj => ?_⟩
    by_cases hji : j = i
    · subst hji; exact hy.wpOp hi hw ⟨.inr fun h => h, H⟩
    · have h1 := H.2 j (ready_mono hj hji)
      obtain ⟨hjun, oj, hoj, hall⟩ := mem_ready.1 hj
      have hiun := getD_true_false (mem_ready.1 hr).1
      have hnofin : fin j = true → False := fun hf => by
        obtain ⟨f, hre⟩ := hfin j hf
        have := reach_listed hcl f j i (fun o ho e he hb => by rw [hoj] at ho; cases ho; exact hall e he hb) hre
        rw [hiun] at this; cases this
      have hnot : ∀ e ∈ oj.after, Region.binds .any e = true → e.on ≠ i := fun e he hb heq => by
        have h1 := hall e he hb
        rw [heq, hiun] at h1; cases h1
      have h2 := wpOp_putC hoj (hfree j oj hoj hji hjun hnot) (fun cs b => hsel i oi cs b hi) (fun cs b => hsel j oj cs b hoj) hQ hy h1
      have hfree' : ∀ k ok, ops[k]? = some ok → k ≠ i → (listed.setIfInBounds j true).getD k true = false →
          (∀ e ∈ ok.after, Region.binds .any e = true → e.on ≠ i) → oi.apart ops ok = true := fun k ok hk hki hun hno => by
        refine hfree k ok hk hki ?_ hno
        by_cases hjk : j = k
        · subst hjk; exact hjun
        · rw [getD_set_ne true hjk] at hun; exact hun
      refine wpOp_mono (fun a' w' h3 => ?_) h2
      obtain ⟨h3y, h3c, h3w⟩ := h3
      have hcw : Cl w' := (h3c.resolve_left fun h => hnofin h) hw
      refine ⟨.inr fun _ => hcw, ih (listed.setIfInBounds j true) a' w' (hcl.add hj) hfree' (ready_mono hr (Ne.symm hji)) hcw h3y ?_⟩
      rw [Array.setIfInBounds_comm _ _ hji]
      exact h3w

/-- The same for an operation that looks at no memory. -/
theorem wpC_firstP {i : Nat} {oi : Oper} {v : Value} (hi : ops[i]? = some oi) (hsel : ∀ (j : Nat) (o : Oper) cs b, ops[j]? = some o → o.op ≠ .select cs b)
    (hQ : ∀ c a w, Q (.panic c) (a.put oi.dst v) w → Q (.panic c) a w) :
    ∀ (fuel : Nat) (listed : Array Bool) (a : Act) (w : World),
      (∀ j oj, ops[j]? = some oj → j ≠ i → listed.getD j true = false → (∀ e ∈ oj.after, Region.binds .any e = true → e.on ≠ i) → oi.apart ops oj = true) →
      i ∈ Region.ready .any ops listed → Yields P ops oi v a →
      wpC P ops Q Cl fin fuel (listed.setIfInBounds i true) (a.put oi.dst v) w → wpC P ops Q Cl fin (fuel + 1) listed a w := by
  intro fuel
  induction fuel with
  | zero =>
    intro listed a w _ hr hy H
    refine ⟨fun h => (by rw [h] at hr; cases hr), fun j hj => ?_⟩
    by_cases hji : j = i
    · subst hji; exact hy.wpOp hi ⟨.inr fun h => h, H⟩
    · have := ready_mono hj hji
      rw [H.1] at this
      cases this
  | succ fuel ih =>
    intro listed a w hfree hr hy H
    refine ⟨fun h => (by rw [h] at hr; cases hr), fun j hj => ?_⟩
    by_cases hji : j = i
    · subst hji; exact hy.wpOp hi ⟨.inr fun h => h, H⟩
    · have h1 := H.2 j (ready_mono hj hji)
      obtain ⟨hjun, oj, hoj, hall⟩ := mem_ready.1 hj
      have hiun := getD_true_false (mem_ready.1 hr).1
      have hnot : ∀ e ∈ oj.after, Region.binds .any e = true → e.on ≠ i := fun e he hb heq => by
        have h1 := hall e he hb
        rw [heq, hiun] at h1; cases h1
      have h2 := wpOp_put hoj (hfree j oj hoj hji hjun hnot) (fun cs b => hsel i oi cs b hi) (fun cs b => hsel j oj cs b hoj) hQ hy h1
      have hfree' : ∀ k ok, ops[k]? = some ok → k ≠ i → (listed.setIfInBounds j true).getD k true = false →
          (∀ e ∈ ok.after, Region.binds .any e = true → e.on ≠ i) → oi.apart ops ok = true := fun k ok hk hki hun hno => by
        refine hfree k ok hk hki ?_ hno
        by_cases hjk : j = k
        · subst hjk; exact hjun
        · rw [getD_set_ne true hjk] at hun; exact hun
      refine wpOp_mono (fun a' w' h3 => ?_) h2
      obtain ⟨h3y, h3c, h3w⟩ := h3
      refine ⟨h3c, ih (listed.setIfInBounds j true) a' w' hfree' (ready_mono hr (Ne.symm hji)) h3y ?_⟩
      rw [Array.setIfInBounds_comm _ _ hji]
      exact h3w
end

/-! The same over what is known of the slots and of memory. -/

def finB (ops : Array Oper) (rd : List Nat) (j : Nat) : Bool := rd.all fun r => reach ops ops.size j r

def closedB (ops : Array Oper) (listed : Array Bool) : Bool :=
  (List.range ops.size).all fun j => !listed.getD j false || match ops[j]? with
    | some o => o.after.toList.all fun e => !Region.binds .any e || listed.getD e.on false
    | none => true

theorem closedB_spec {ops : Array Oper} {listed : Array Bool} (h : closedB ops listed = true) : Closed ops listed := by
  intro j o ho hj e he hb
  simp only [closedB, List.all_eq_true, List.mem_range] at h
  have := h j (Array.getElem?_eq_some_iff.1 ho).1
  simp only [hj, Bool.not_true, Bool.false_or, ho, List.all_eq_true] at this
  have := this e (by simpa using he)
  simpa [hb] using this

/-- It may be taken first. -/
def takeB (ops : Array Oper) (listed : Array Bool) (i : Nat) : Bool :=
  (Region.ready .any ops listed).contains i && Region.free .any ops listed i

def readB (ops : Array Oper) (listed : Array Bool) (rd : List Nat) (i : Nat) : Bool := takeB ops listed i && closedB ops listed && rd.contains i

structure DL (C : Cx) (ops : List Oper) (rd : List Nat) (cl : List HProp) (fuel : Nat) (listed : List Bool) (k : List Item) (env : Env) (l : List HProp) : Prop where
  go : C.P.funcs[C.f]? = some C.fn → ∀ a w, EnvOk C.n a env → Own C.w0 w l →
    wpC C.P ops.toArray (QN C k) (fun w => Own C.w0 w cl) (finB ops.toArray rd) fuel listed.toArray a w

structure DL1 (C : Cx) (ops : List Oper) (rd : List Nat) (cl : List HProp) (fuel : Nat) (listed : List Bool) (i : Nat) (k : List Item) (env : Env) (l : List HProp) : Prop where
  go : C.P.funcs[C.f]? = some C.fn → ∀ a w, EnvOk C.n a env → Own C.w0 w l →
    wpOp C.P ops.toArray (QN C k) i (fun a' w' => (finB ops.toArray rd i = true ∨ (Own C.w0 w cl → Own C.w0 w' cl)) ∧ wpC C.P ops.toArray (QN C k) (fun w => Own C.w0 w cl) (finB ops.toArray rd) fuel (listed.set i true).toArray a' w') a w

section
variable {C : Cx} {ops : List Oper} {rd : List Nat} {cl : List HProp} {fuel : Nat} {listed : List Bool} {k : List Item} {env : Env} {l : List HProp}

theorem J.regionD (rd : List Nat) {id : Nat} (hm : C.P.follows .mixedOrders = true) (h : DL C ops rd l ops.length (List.replicate ops.length false) k env l) : J C (.code (.region id ops.toArray true) :: k) env l := by
  refine ⟨fun hf a w he ho b cs hb hk => ?_⟩
  have hd : Own C.w0 { w with drawn := w.drawn + 1 } l := ho.same ((Below.refl _ _).drew)
  have h1 := wpC_any _ _ _ _ (h.go hf a _ he hd)
  obtain ⟨e, a', w', ⟨rfl, hq⟩, harr⟩ := wp_region_any (P := C.P) (id := id) (ops := ops.toArray) hm (by simpa using h1) b k cs
  obtain ⟨e, w2, fr, hR, hc, hfr, hl⟩ := hq b cs hb hk
  exact ⟨e, w2, fr, hR, .of_steps harr hc, hfr, hl⟩

theorem DL.done (hr : Region.ready .any ops.toArray listed.toArray = []) (h : J C k env l) : DL C ops rd cl fuel listed k env l := by
  refine ⟨fun hf a w he ho => ?_⟩
  cases fuel with
  | zero => exact ⟨hr, rfl, h.go hf a w he ho⟩
  | succ f => exact ⟨fun _ => ⟨rfl, h.go hf a w he ho⟩, fun i hi => by rw [hr] at hi; cases hi⟩

theorem QN_panic (v : Value) (d : Option Tmp) : ∀ c a w, QN C k (.panic c) (a.put d v) w → QN C k (.panic c) a w := fun _ _ _ h => by cases h.1

variable {d : Tmp} {op : Op} {ty : TypeId} {pos : String} {after : Array Edge} {g : Option (Nat × Bool)} {v : Value} {R : Value → List HProp → Prop}

theorem toArray_set (i : Nat) : (listed.set i true).toArray = listed.toArray.setIfInBounds i true := by simp

theorem DL.take {i : Nat} (hs : Region.noSelect ops.toArray = true) (ht : takeB ops.toArray listed.toArray i = true) (ho : ops[i]? = some ⟨some d, op, ty, pos, after, g⟩) (hd : Nat.blt d C.n = true)
    (hy : ∀ a, EnvOk C.n a env → Yields C.P ops.toArray ⟨some d, op, ty, pos, after, g⟩ v a) (h : DL C ops rd cl fuel (listed.set i true) k ((d, v) :: env) l) : DL C ops rd cl (fuel + 1) listed k env l := by
  refine ⟨fun hf a w he how => ?_⟩
  simp only [takeB, Bool.and_eq_true] at ht
  have hi : ops.toArray[i]? = some ⟨some d, op, ty, pos, after, g⟩ := by simpa using ho
  refine wpC_firstP hi (Region.noSelect_spec hs) (QN_panic _ _) fuel _ a w (Region.free_spec hi ht.2) (by simpa using ht.1) (hy a he) ?_
  rw [← toArray_set]
  exact h.go hf _ w (he.put (d := some d) hd v) how

theorem DL.pure {i : Nat} (hs : Region.noSelect ops.toArray = true) (ht : takeB ops.toArray listed.toArray i = true) (ho : ops[i]? = some ⟨some d, op, ty, pos, after, g⟩) (hg : Gd ops env g = some true) (hd : Nat.blt d C.n = true)
    (hop : OpP C.P ⟨some d, op, ty, pos, after, g⟩ env v) (h : DL C ops rd cl fuel (listed.set i true) k ((d, v) :: env) l) : DL C ops rd cl (fuel + 1) listed k env l :=
  DL.take hs ht ho hd (fun _ he => .inl ⟨Gd.wanted (o := ⟨some d, op, ty, pos, after, g⟩) he hg, fun w => hop.run _ (he.rds _) w⟩) h

theorem DL.skip {i : Nat} (hs : Region.noSelect ops.toArray = true) (ht : takeB ops.toArray listed.toArray i = true) (ho : ops[i]? = some ⟨some d, op, ty, pos, after, g⟩) (hg : Gd ops env g = some false) (hd : Nat.blt d C.n = true)
    (h : DL C ops rd cl fuel (listed.set i true) k ((d, undef) :: env) l) : DL C ops rd cl (fuel + 1) listed k env l :=
  DL.take hs ht ho hd (fun _ he => .inr ⟨Gd.wanted (o := ⟨some d, op, ty, pos, after, g⟩) he hg, rfl⟩) h

theorem DL.read {i : Nat} (hs : Region.noSelect ops.toArray = true) (ht : readB ops.toArray listed.toArray rd i = true) (ho : ops[i]? = some ⟨some d, op, ty, pos, after, g⟩) (hg : Gd ops env g = some true) (hd : Nat.blt d C.n = true)
    (hcl : ∀ w, Own C.w0 w l → Own C.w0 w cl) (hop : OpR C.P C.w0 ⟨some d, op, ty, pos, after, g⟩ env cl v) (h : DL C ops rd cl fuel (listed.set i true) k ((d, v) :: env) l) : DL C ops rd cl (fuel + 1) listed k env l := by
  refine ⟨fun hf a w he how => ?_⟩
  simp only [readB, takeB, Bool.and_eq_true] at ht
  obtain ⟨⟨⟨ht1, ht2⟩, ht3⟩, ht4⟩ := ht
  have hi : ops.toArray[i]? = some ⟨some d, op, ty, pos, after, g⟩ := by simpa using ho
  refine wpC_first hi (Region.noSelect_spec hs) (QN_panic _ _) (fun j hj => ⟨ops.toArray.size, ?_⟩) fuel _ a w (closedB_spec ht3) (Region.free_spec hi ht2) (by simpa using ht1) (hcl w how) (.inl ⟨Gd.wanted (o := ⟨some d, op, ty, pos, after, g⟩) he hg, fun w' hw' => hop.run _ (he.rds _) w' hw'⟩) ?_
  · simp only [finB, List.all_eq_true] at hj
    exact hj i (by simpa using ht4)
  · rw [← toArray_set]
    exact h.go hf _ w (he.put (d := some d) hd v) how

theorem DL1.stepF {i : Nat} (ho : ops[i]? = some ⟨some d, op, ty, pos, after, g⟩) (hg : Gd ops env g = some true) (hd : Nat.blt d C.n = true) (hfin : finB ops.toArray rd i = true)
    (hop : OpW C.P C.w0 ⟨some d, op, ty, pos, after, g⟩ env l R) (h : ∀ v l', R v l' → DL C ops rd cl fuel (listed.set i true) k ((d, v) :: env) l') : DL1 C ops rd cl fuel listed i k env l := by
  refine ⟨fun hf a w he how => ?_⟩
  have hi : ops.toArray[i]? = some ⟨some d, op, ty, pos, after, g⟩ := by simpa using ho
  unfold wpOp
  simp only [hi]
  rw [Gd.wanted (o := ⟨some d, op, ty, pos, after, g⟩) he hg, if_pos rfl]
  exact .inl (hop.run a (he.rds _) w how _ _ fun v w' l' hR ho' => ⟨.inl hfin, (h v l' hR).go hf _ w' (he.put (d := some d) hd v) ho'⟩)

theorem DL1.stepK {i : Nat} (ho : ops[i]? = some ⟨some d, op, ty, pos, after, g⟩) (hg : Gd ops env g = some true) (hd : Nat.blt d C.n = true) 
    (hop : OpW C.P C.w0 ⟨some d, op, ty, pos, after, g⟩ env l R) (hk : ∀ v l', R v l' → ∀ w, Own C.w0 w l' → Own C.w0 w cl) (h : ∀ v l', R v l' → DL C ops rd cl fuel (listed.set i true) k ((d, v) :: env) l') : DL1 C ops rd cl fuel listed i k env l := by
  refine ⟨fun hf a w he how => ?_⟩
  have hi : ops.toArray[i]? = some ⟨some d, op, ty, pos, after, g⟩ := by simpa using ho
  unfold wpOp
  simp only [hi]
  rw [Gd.wanted (o := ⟨some d, op, ty, pos, after, g⟩) he hg, if_pos rfl]
  exact .inl (hop.run a (he.rds _) w how _ _ fun v w' l' hR ho' => ⟨.inr fun _ => hk v l' hR w' ho', (h v l' hR).go hf _ w' (he.put (d := some d) hd v) ho'⟩)

theorem DL1.stepF0 {i : Nat} (ho : ops[i]? = some ⟨none, op, ty, pos, after, g⟩) (hg : Gd ops env g = some true) (hfin : finB ops.toArray rd i = true)
    (hop : OpW C.P C.w0 ⟨none, op, ty, pos, after, g⟩ env l R) (h : ∀ v l', R v l' → DL C ops rd cl fuel (listed.set i true) k env l') : DL1 C ops rd cl fuel listed i k env l := by
  refine ⟨fun hf a w he how => ?_⟩
  have hi : ops.toArray[i]? = some ⟨none, op, ty, pos, after, g⟩ := by simpa using ho
  unfold wpOp
  simp only [hi]
  rw [Gd.wanted (o := ⟨none, op, ty, pos, after, g⟩) he hg, if_pos rfl]
  exact .inl (hop.run a (he.rds _) w how _ _ fun v w' l' hR ho' => ⟨.inl hfin, (h v l' hR).go hf _ w' (he.put (d := none) rfl v) ho'⟩)

theorem DL1.skip {i : Nat} (ho : ops[i]? = some ⟨some d, op, ty, pos, after, g⟩) (hg : Gd ops env g = some false) (hd : Nat.blt d C.n = true) (h : DL C ops rd cl fuel (listed.set i true) k ((d, undef) :: env) l) : DL1 C ops rd cl fuel listed i k env l := by
  refine ⟨fun hf a w he how => ?_⟩
  have hi : ops.toArray[i]? = some ⟨some d, op, ty, pos, after, g⟩ := by simpa using ho
  unfold wpOp
  simp only [hi]
  rw [Gd.wanted (o := ⟨some d, op, ty, pos, after, g⟩) he hg, if_neg (by simp)]
  exact ⟨.inr fun h => h, h.go hf _ w (he.put (d := some d) hd _) how⟩

theorem DL.only {i : Nat} (hr : Region.ready .any ops.toArray listed.toArray = [i]) (h : DL1 C ops rd cl fuel listed i k env l) : DL C ops rd cl (fuel + 1) listed k env l := by
  refine ⟨fun hf a w he how => ⟨fun h0 => (by rw [hr] at h0; cases h0), fun j hj => ?_⟩⟩
  rw [hr] at hj
  simp at hj
  subst hj
  rw [← toArray_set]
  exact h.go hf a w he how

theorem DL.two {i j : Nat} (hr : Region.ready .any ops.toArray listed.toArray = [i, j]) (h1 : DL1 C ops rd cl fuel listed i k env l) (h2 : DL1 C ops rd cl fuel listed j k env l) : DL C ops rd cl (fuel + 1) listed k env l := by
  refine ⟨fun hf a w he how => ⟨fun h0 => (by rw [hr] at h0; cases h0), fun m hm => ?_⟩⟩
  rw [hr] at hm
  simp at hm
  rw [← toArray_set]
  rcases hm with rfl | rfl
  · exact h1.go hf a w he how
  · exact h2.go hf a w he how

theorem DL.three {i j m : Nat} (hr : Region.ready .any ops.toArray listed.toArray = [i, j, m]) (h1 : DL1 C ops rd cl fuel listed i k env l) (h2 : DL1 C ops rd cl fuel listed j k env l) (h3 : DL1 C ops rd cl fuel listed m k env l) : DL C ops rd cl (fuel + 1) listed k env l := by
  refine ⟨fun hf a w he how => ⟨fun h0 => (by rw [hr] at h0; cases h0), fun x hx => ?_⟩⟩
  rw [hr] at hx
  simp at hx
  rw [← toArray_set]
  rcases hx with rfl | rfl | rfl
  · exact h1.go hf a w he how
  · exact h2.go hf a w he how
  · exact h3.go hf a w he how

theorem DL.dec {i : Nat} {p : Prop} [Decidable p] (hs : Region.noSelect ops.toArray = true) (ht : takeB ops.toArray listed.toArray i = true) (ho : ops[i]? = some ⟨some d, op, ty, pos, after, g⟩) (hg : Gd ops env g = some true) (hd : Nat.blt d C.n = true)
    (hop : OpP C.P ⟨some d, op, ty, pos, after, g⟩ env (.bool (decide p))) (h1 : p → DL C ops rd cl fuel (listed.set i true) k ((d, .bool true) :: env) l) (h2 : ¬ p → DL C ops rd cl fuel (listed.set i true) k ((d, .bool false) :: env) l) : DL C ops rd cl (fuel + 1) listed k env l := by
  by_cases hp : p
  · exact DL.pure hs ht ho hg hd (v := .bool true) (by simpa [hp] using hop) (h1 hp)
  · exact DL.pure hs ht ho hg hd (v := .bool false) (by simpa [hp] using hop) (h2 hp)
end

end Go.Gp
