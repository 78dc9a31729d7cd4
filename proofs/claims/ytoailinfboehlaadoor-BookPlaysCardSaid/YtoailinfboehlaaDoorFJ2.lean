/- A text of the proof of a statement about the given program: its part FJ2. No person has read it. -/
import Derived.Test.YtoailinfboehlaaDoorFJ1
import Derived.DeepKeys
import Derived.Lib.MakeNoZero
import Derived.Laws.Externs
import Derived.RangeFuncRecord
import Derived.Below
namespace Go.Gp
open Go Go.RowKit
section
variable {C : Cx} {ops : List Oper} {rd : List Nat} {cl : List HProp} {fuel : Nat} {listed : List Bool} {k : List Item} {env : Env} {l l' : List HProp} {i : Nat}

theorem DL.conv (hl : ∀ w, Own C.w0 w l → Own C.w0 w l') (h : DL C ops rd cl fuel listed k env l') : DL C ops rd cl fuel listed k env l := ⟨fun hf a w he ho => h.go hf a w he (hl w ho)⟩
theorem DL1.conv (hl : ∀ w, Own C.w0 w l → Own C.w0 w l') (h : DL1 C ops rd cl fuel listed i k env l') : DL1 C ops rd cl fuel listed i k env l := ⟨fun hf a w he ho => h.go hf a w he (hl w ho)⟩
theorem DL1.pick {pre F : List HProp} (is : List Nat) (hd : pickB pre.length is = true) (h : DL1 C ops rd cl fuel listed i k env (is.filterMap (fun i => pre[i]?) ++ F)) : DL1 C ops rd cl fuel listed i k env (pre ++ F) :=
  DL1.conv (fun _ ho => ho.pick is hd) h
theorem DL.open {α : Sort _} {p : α → Prop} {l' : α → List HProp} (hl : ∀ w, Own C.w0 w l → ∃ x, p x ∧ Own C.w0 w (l' x)) (h : ∀ x, p x → DL C ops rd cl fuel listed k env (l' x)) : DL C ops rd cl fuel listed k env l :=
  ⟨fun hf a w he ho => let ⟨x, hp, hx⟩ := hl w ho; (h x hp).go hf a w he hx⟩
theorem DL.decT {d : Tmp} {op : Op} {ty : TypeId} {pos : String} {after : Array Edge} {g : Option (Nat × Bool)} {p : Prop} [Decidable p] (hs : Region.noSelect ops.toArray = true) (ht : takeB ops.toArray listed.toArray i = true) (ho : ops[i]? = some ⟨some d, op, ty, pos, after, g⟩) (hg : Gd ops env g = some true) (hd : Nat.blt d C.n = true)
    (hop : OpP C.P ⟨some d, op, ty, pos, after, g⟩ env (.bool (decide p))) (hp : p) (h : DL C ops rd cl fuel (listed.set i true) k ((d, .bool true) :: env) l) : DL C ops rd cl (fuel + 1) listed k env l :=
  DL.pure hs ht ho hg hd (v := .bool true) (by simpa [hp] using hop) h
theorem DL.decF {d : Tmp} {op : Op} {ty : TypeId} {pos : String} {after : Array Edge} {g : Option (Nat × Bool)} {p : Prop} [Decidable p] (hs : Region.noSelect ops.toArray = true) (ht : takeB ops.toArray listed.toArray i = true) (ho : ops[i]? = some ⟨some d, op, ty, pos, after, g⟩) (hg : Gd ops env g = some true) (hd : Nat.blt d C.n = true)
    (hop : OpP C.P ⟨some d, op, ty, pos, after, g⟩ env (.bool (decide p))) (hp : ¬ p) (h : DL C ops rd cl fuel (listed.set i true) k ((d, .bool false) :: env) l) : DL C ops rd cl (fuel + 1) listed k env l :=
  DL.pure hs ht ho hg hd (v := .bool false) (by simpa [hp] using hop) h
end

/-- What holds between an item and those behind it. -/
theorem J.cut {C : Cx} {x : Item} {k : List Item} {env : Env} {l : List HProp} {σ : Type} (I : σ → Prop) (E : σ → Env) (L : σ → List HProp) (rest : ∀ s, I s → J C k (E s) (L s))
    (first : ∀ k', (∀ s, I s → ∀ {env' l'}, SubEnv (E s) env' → (∀ w, Own C.w0 w l' → Own C.w0 w (L s)) → J C k' env' l') → J C (x :: k') env l) : J C (x :: k) env l :=
  first k fun s hs _ _ he hl => J.sub he (J.conv hl (rest s hs))

variable {w0 : World} {l : List HProp}
theorem Cells.chunkAt {α : Type} {f : α → List Value} {n b o i : Nat} {xs : List α} {a : α} (hc : Cells w0 l b o (xs.flatMap f)) (h : ∀ a ∈ xs, (f a).length = n) (hi : xs[i]? = some a) : Cells w0 l b (o + i * n) (f a) := by
  have := (hc.drop (i * n)).take n
  rw [chunk_at h hi] at this
  exact this
theorem Own.none {w : World} (h : Own w0 w l) : Own w0 w [] := ⟨h.below, True.intro⟩
theorem Rd.any {v : Value} {n : Nat} {cs : List Value} (h : Rd w0 [] v n cs) : Rd w0 l v n cs := h.conv fun _ h => h.none
theorem Cells.base0 {b o j : Nat} {vs : List Value} {v : Value} (h : Cells w0 [] b o vs) (hv : vs[j]? = some v) : w0.cell? ⟨b, o + j, .none⟩ = some v := h w0 (Own.nil w0) j v hv

theorem chunk_get {α : Type} {f : α → List Value} {n i j : Nat} {xs : List α} {a : α} {v : Value} (h : ∀ a ∈ xs, (f a).length = n) (hi : xs[i]? = some a) (hv : (f a)[j]? = some v) : (xs.flatMap f)[i * n + j]? = some v := by
  have h1 := chunk_at h hi
  have hj := (List.getElem?_eq_some_iff.1 hv).1
  have hn := h a (List.mem_of_getElem? hi)
  rw [← h1, List.getElem?_take, if_pos (by omega), List.getElem?_drop] at hv
  exact hv
end Go.Gp

namespace Go.Gp
open Go Go.RowKit
variable {P : Program} {w : World} {t : TypeId} {cs : List Value}

theorem Fm.byte (ht : P.underlying t = some (.int .u8)) (h : Fm P w t cs) : ∃ c : UInt8, cs = [u8c c] := by
  obtain ⟨n, rfl, hw⟩ := h.int ht
  obtain ⟨c, e⟩ := u8_of_wf hw
  exact ⟨c, by rw [e]⟩

/-- A slice of whole numbers, of bytes, of truth values from outside. -/
theorem Fm.bytes {v : Value} {e : TypeId} (ht : P.underlying t = some (.slice e)) (he : P.underlying e = some (.int .u8)) (hc : P.cellsOf e = 1) (h : Fm P w t [v]) :
    ∃ bs : List UInt8, bs.length ≤ maxLen ∧ Rd w [] v bs.length (bcells bs) := by
  obtain ⟨xs, _, h2, h3⟩ := Fm.rows (f := fun c => [u8c c]) (Q := fun _ => True) ht hc (by decide) h fun cs _ hf => by
    obtain ⟨c, rfl⟩ := hf.byte he
    exact ⟨c, trivial, rfl⟩
  refine ⟨xs, h2, ?_⟩
  have e : bcells xs = xs.flatMap fun c => [u8c c] := List.map_eq_flatMap
  rw [e]; exact h3 []

theorem Fm.bools {v : Value} {e : TypeId} (ht : P.underlying t = some (.slice e)) (he : P.underlying e = some .bool) (hc : P.cellsOf e = 1) (h : Fm P w t [v]) :
    ∃ bs : List Bool, bs.length ≤ maxLen ∧ Rd w [] v bs.length (bs.map Value.bool) := by
  obtain ⟨xs, _, h2, h3⟩ := Fm.rows (f := fun c => [Value.bool c]) (Q := fun _ => True) ht hc (by decide) h fun cs _ hf => by
    obtain ⟨c, rfl⟩ := hf.bool he
    exact ⟨c, trivial, rfl⟩
  refine ⟨xs, h2, ?_⟩
  have e : xs.map Value.bool = xs.flatMap fun c => [Value.bool c] := List.map_eq_flatMap
  rw [e]; exact h3 []

end Go.Gp

namespace Go.Gp
open Go Go.RowKit
section
variable {P : Program} {w0 : World} {env : Env} {l l' : List HProp} {dst : Option Tmp} {ty : TypeId} {pos : String} {after : Array Edge} {g : Option (Nat × Bool)}

theorem OpM.clear {x : Operand} {tys : Array TypeId} {t e sz by_ b o n c : Nat} {z cs cs' : List Value} [hs : Sl P t e sz by_] [hz : Zr P e z] (htys : tys = #[t]) (hx : ev env x = some (.slice (some ⟨b, o, none⟩) n c)) (hzl : 0 < z.length) (h1 : ∀ u ∈ z, u.oneCell' = true)
    (hspl : Spl cs o (rep n z) cs') (hup : Upd (row b e cs) (row b e cs') l l') :
    OpM P w0 ⟨dst, .call ⟨.builtin .clear, #[x], tys⟩, ty, pos, after, g⟩ env l (fun r l'' => r = .tuple #[] ∧ l'' = l') := by
  subst htys
  refine ⟨fun ρ hr w ho => ?_⟩
  have hx' := hr x (by simp [Op.operands, Call.operands]) _ hx
  obtain ⟨i, hi1, hi2, _, _⟩ := hs.inf
  obtain ⟨v, hv, hc⟩ := run_zeroValue hz
  obtain ⟨hheap, _⟩ := ho.blk_heap hup.mem
  obtain ⟨hle, hcs⟩ := hspl.eq
  cases n with
  | zero =>
    have e : cs' = cs := by rw [hcs]; simp [rep]
    subst e
    obtain ⟨m, p1, p2⟩ := hup.perm
    refine ⟨_, _, w, l', ?_, .inl rfl, ⟨rfl, rfl⟩, (ho.perm p1).perm p2⟩
    simp [execOp, resolve, hx', invoke, builtin, Builtin.clear_, run_underlying hs.und]
  | succ n =>
    have hone : ∀ u ∈ rep (n + 1) z, u.oneCell' = true := by
      intro u hu
      simp only [rep, List.mem_flatten, List.mem_replicate] at hu
      obtain ⟨y, ⟨_, rfl⟩, hu⟩ := hu
      exact h1 u hu
    have hst := run_storeCells_at P b o e (rep (n + 1) z) 0 cs.toArray w hheap (by simpa using hle) hone
    simp only [Nat.add_zero] at hst
    rw [← hcs] at hst
    refine ⟨_, _, w.setRow b cs'.toArray, l', ?_, .inl rfl, ⟨rfl, rfl⟩, Own.setRow hup ho⟩
    have hzr : (Builtin.zeroCells v.cells (n + 1)).toList = rep (n + 1) z := by rw [hc, zeroCells_rep z (n + 1) hzl]
    simp [execOp, resolve, hx', invoke, builtin, Builtin.clear_, run_underlying hs.und, hv, hzr, hst]
theorem OpP.negI {x : Operand} {t : TypeId} {a : Int} (hx : ev env x = some (.int .i64 a)) (h1 : -9223372036854775808 ≤ -a) (h2 : -a ≤ 9223372036854775807) : OpP P ⟨dst, .unOp .neg t x, ty, pos, after, g⟩ env (.int .i64 (-a)) :=
  (OpP.neg hx).as (by rw [wrap_id (k := .i64)] <;> simp [IntKind.min, IntKind.max, IntKind.signed, IntKind.bits] <;> omega)
theorem OpP.sliceTo {x hi : Operand} {k : IntKind} {t e sz by_ b o len cap : Nat} {v : Int} (h : Nat) [hs : Sl P t e sz by_] (hx : ev env x = some (.slice (some ⟨b, o, none⟩) len cap)) (ehi : ev env hi = some (.int k v)) (hv : v = h) (h2 : h ≤ cap) :
    OpP P ⟨dst, .slice t x none (some hi) none, ty, pos, after, g⟩ env (.slice (some ⟨b, o, none⟩) h cap) := by
  subst hv
  exact (OpP.slice (vlo := none) (vhi := some (.int k h)) (l := 0) (h := h) hx rfl (by simp [ehi]) (.inl ⟨rfl, rfl⟩) (.inr ⟨_, rfl⟩) (Nat.zero_le _) h2).as (by simp)
theorem OpP.sliceFrom {x lo : Operand} {k : IntKind} {t e sz by_ b o len cap : Nat} {v : Int} (l : Nat) [hs : Sl P t e sz by_] (hx : ev env x = some (.slice (some ⟨b, o, none⟩) len cap)) (elo : ev env lo = some (.int k v)) (hv : v = l) (h1 : l ≤ len) (h2 : len ≤ cap) :
    OpP P ⟨dst, .slice t x (some lo) none none, ty, pos, after, g⟩ env (.slice (some ⟨b, if cap = l then o else o + l * sz, none⟩) (len - l) (cap - l)) := by
  subst hv
  exact OpP.slice (vlo := some (.int k l)) (vhi := none) (l := l) (h := len) hx (by simp [elo]) rfl (.inr ⟨_, rfl⟩) (.inl ⟨rfl, rfl⟩) h1 h2
theorem OpP.sliceFT {x lo hi : Operand} {k k' : IntKind} {t e sz by_ b o len cap : Nat} {v v' : Int} (l h : Nat) [hs : Sl P t e sz by_] (hx : ev env x = some (.slice (some ⟨b, o, none⟩) len cap)) (elo : ev env lo = some (.int k v)) (ehi : ev env hi = some (.int k' v')) (hv : v = l) (hv' : v' = h) (h1 : l ≤ h) (h2 : h ≤ cap) :
    OpP P ⟨dst, .slice t x (some lo) (some hi) none, ty, pos, after, g⟩ env (.slice (some ⟨b, if cap = l then o else o + l * sz, none⟩) (h - l) (cap - l)) := by
  subst hv hv'
  exact OpP.slice (vlo := some (.int k l)) (vhi := some (.int k' h)) (l := l) (h := h) hx (by simp [elo]) (by simp [ehi]) (.inr ⟨_, rfl⟩) (.inr ⟨_, rfl⟩) h1 h2
end

theorem Sat.sublist {w : World} {l1 l2 : List HProp} (h : l2.Sublist l1) : ∀ {S : Nat → Prop}, Sat w l1 S → Sat w l2 S := by
  induction h with
  | slnil => exact fun h => h
  | cons a _ ih => exact fun h => ih h.tail
  | cons_cons a _ ih => exact fun h => h.cons_mono fun _ => ih

theorem Own.sublist {w0 w : World} {l1 l2 : List HProp} (hs : l2.Sublist l1) (h : Own w0 w l1) : Own w0 w l2 := ⟨h.below, h.sat.sublist hs⟩
theorem Own.litOf {w0 w : World} {l : List HProp} {e sz n : Nat} {v : Value} {xs : List Value} (hm : Has (own e sz v n xs) l) (h : Own w0 w l) : ∃ x : Option Addr × Nat, v = .slice x.1 n x.2 ∧ Own w0 w l := by
  obtain ⟨s, t, e⟩ := List.append_of_mem hm.mem
  have h2 := h
  rw [e] at h2
  obtain ⟨a, c, h3⟩ := (h2.perm List.perm_middle).own_lit
  exact ⟨(a, c), h3, h⟩

section
variable {C : Cx} {ops rest : List Oper} {rd : List Nat} {cl : List HProp} {fuel : Nat} {listed : List Bool} {k : List Item} {env : Env} {l : List HProp} {e sz n : Nat} {v : Value} {xs : List Value}
theorem J.lit (hm : Has (own e sz v n xs) l) (h : ∀ a c, v = .slice a n c → J C k env l) : J C k env l := J.open (fun _ ho => ho.litOf hm) fun x hx => h x.1 x.2 hx
theorem JL.lit (hm : Has (own e sz v n xs) l) (h : ∀ a c, v = .slice a n c → JL C ops rest k env l) : JL C ops rest k env l := JL.open (fun _ ho => ho.litOf hm) fun x hx => h x.1 x.2 hx
theorem DL.lit (hm : Has (own e sz v n xs) l) (h : ∀ a c, v = .slice a n c → DL C ops rd cl fuel listed k env l) : DL C ops rd cl fuel listed k env l := DL.open (fun _ ho => ho.litOf hm) fun x hx => h x.1 x.2 hx
end

theorem Own.head {w0 w : World} {A : HProp} {l : List HProp} (h : Own w0 w (A :: l)) : Own w0 w [A] := h.sublist ((List.nil_sublist l).cons_cons A)
/-- What is left may be less. -/
theorem FnO.weak {P : Program} {w0 : World} {f : FuncId} {args : List Value} {l : List HProp} {R : Value → List HProp → Prop} (h : FnO P w0 f args l (fun v l' => ∃ l'', R v l'' ∧ ∀ w, Own w0 w l' → Own w0 w l'')) : FnO P w0 f args l R :=
  ⟨fun w hw => (h.calls w hw).mono fun _ _ ⟨v, _, he, ⟨l'', hR, hl⟩, ho⟩ => ⟨v, l'', he, hR, hl _ ho⟩⟩

theorem spl_tail {A T Z : List Value} {o : Nat} (ho : o = A.length) (h : Z.length = T.length) : Spl (A ++ T) o Z (A ++ Z) := by
  subst ho
  have := Spl.mk (cs := A ++ T) (vs := Z) (o := A.length) (by simp; omega)
  have e : List.take A.length (A ++ T) ++ Z ++ List.drop (A.length + Z.length) (A ++ T) = A ++ Z := by
    rw [List.take_left, List.drop_eq_nil_of_le (by simp; omega), List.append_nil]
  rw [e] at this
  exact this

end Go.Gp

namespace Go.Gp
open Go Go.RowKit

/-! One resource brought to the front, or dropped. -/
section
variable {C : Cx} {ops rest : List Oper} {rd : List Nat} {cl : List HProp} {fuel i : Nat} {listed : List Bool} {k : List Item} {env : Env}
theorem J.f1 {a0 a1 : HProp} {F : List HProp} (h : J C k env (a1 :: a0 :: F)) : J C k env (a0 :: a1 :: F) := J.pick (pre := [a0, a1]) [1, 0] rfl h
theorem JL.f1 {a0 a1 : HProp} {F : List HProp} (h : JL C ops rest k env (a1 :: a0 :: F)) : JL C ops rest k env (a0 :: a1 :: F) := JL.pick (pre := [a0, a1]) [1, 0] rfl h
theorem DL1.f1 {a0 a1 : HProp} {F : List HProp} (h : DL1 C ops rd cl fuel listed i k env (a1 :: a0 :: F)) : DL1 C ops rd cl fuel listed i k env (a0 :: a1 :: F) := DL1.pick (pre := [a0, a1]) [1, 0] rfl h
theorem Own.f1 {w0 w : World} {a0 a1 : HProp} {F : List HProp} (h : Own w0 w (a0 :: a1 :: F)) : Own w0 w (a1 :: a0 :: F) := Own.pick (pre := [a0, a1]) [1, 0] rfl h
theorem J.f2 {a0 a1 a2 : HProp} {F : List HProp} (h : J C k env (a2 :: a0 :: a1 :: F)) : J C k env (a0 :: a1 :: a2 :: F) := J.pick (pre := [a0, a1, a2]) [2, 0, 1] rfl h
theorem JL.f2 {a0 a1 a2 : HProp} {F : List HProp} (h : JL C ops rest k env (a2 :: a0 :: a1 :: F)) : JL C ops rest k env (a0 :: a1 :: a2 :: F) := JL.pick (pre := [a0, a1, a2]) [2, 0, 1] rfl h
theorem DL1.f2 {a0 a1 a2 : HProp} {F : List HProp} (h : DL1 C ops rd cl fuel listed i k env (a2 :: a0 :: a1 :: F)) : DL1 C ops rd cl fuel listed i k env (a0 :: a1 :: a2 :: F) := DL1.pick (pre := [a0, a1, a2]) [2, 0, 1] rfl h
theorem Own.f2 {w0 w : World} {a0 a1 a2 : HProp} {F : List HProp} (h : Own w0 w (a0 :: a1 :: a2 :: F)) : Own w0 w (a2 :: a0 :: a1 :: F) := Own.pick (pre := [a0, a1, a2]) [2, 0, 1] rfl h
theorem J.f3 {a0 a1 a2 a3 : HProp} {F : List HProp} (h : J C k env (a3 :: a0 :: a1 :: a2 :: F)) : J C k env (a0 :: a1 :: a2 :: a3 :: F) := J.pick (pre := [a0, a1, a2, a3]) [3, 0, 1, 2] rfl h
theorem JL.f3 {a0 a1 a2 a3 : HProp} {F : List HProp} (h : JL C ops rest k env (a3 :: a0 :: a1 :: a2 :: F)) : JL C ops rest k env (a0 :: a1 :: a2 :: a3 :: F) := JL.pick (pre := [a0, a1, a2, a3]) [3, 0, 1, 2] rfl h
theorem DL1.f3 {a0 a1 a2 a3 : HProp} {F : List HProp} (h : DL1 C ops rd cl fuel listed i k env (a3 :: a0 :: a1 :: a2 :: F)) : DL1 C ops rd cl fuel listed i k env (a0 :: a1 :: a2 :: a3 :: F) := DL1.pick (pre := [a0, a1, a2, a3]) [3, 0, 1, 2] rfl h
theorem Own.f3 {w0 w : World} {a0 a1 a2 a3 : HProp} {F : List HProp} (h : Own w0 w (a0 :: a1 :: a2 :: a3 :: F)) : Own w0 w (a3 :: a0 :: a1 :: a2 :: F) := Own.pick (pre := [a0, a1, a2, a3]) [3, 0, 1, 2] rfl h
theorem J.f4 {a0 a1 a2 a3 a4 : HProp} {F : List HProp} (h : J C k env (a4 :: a0 :: a1 :: a2 :: a3 :: F)) : J C k env (a0 :: a1 :: a2 :: a3 :: a4 :: F) := J.pick (pre := [a0, a1, a2, a3, a4]) [4, 0, 1, 2, 3] rfl h
theorem JL.f4 {a0 a1 a2 a3 a4 : HProp} {F : List HProp} (h : JL C ops rest k env (a4 :: a0 :: a1 :: a2 :: a3 :: F)) : JL C ops rest k env (a0 :: a1 :: a2 :: a3 :: a4 :: F) := JL.pick (pre := [a0, a1, a2, a3, a4]) [4, 0, 1, 2, 3] rfl h
theorem DL1.f4 {a0 a1 a2 a3 a4 : HProp} {F : List HProp} (h : DL1 C ops rd cl fuel listed i k env (a4 :: a0 :: a1 :: a2 :: a3 :: F)) : DL1 C ops rd cl fuel listed i k env (a0 :: a1 :: a2 :: a3 :: a4 :: F) := DL1.pick (pre := [a0, a1, a2, a3, a4]) [4, 0, 1, 2, 3] rfl h
theorem Own.f4 {w0 w : World} {a0 a1 a2 a3 a4 : HProp} {F : List HProp} (h : Own w0 w (a0 :: a1 :: a2 :: a3 :: a4 :: F)) : Own w0 w (a4 :: a0 :: a1 :: a2 :: a3 :: F) := Own.pick (pre := [a0, a1, a2, a3, a4]) [4, 0, 1, 2, 3] rfl h
theorem J.f5 {a0 a1 a2 a3 a4 a5 : HProp} {F : List HProp} (h : J C k env (a5 :: a0 :: a1 :: a2 :: a3 :: a4 :: F)) : J C k env (a0 :: a1 :: a2 :: a3 :: a4 :: a5 :: F) := J.pick (pre := [a0, a1, a2, a3, a4, a5]) [5, 0, 1, 2, 3, 4] rfl h
theorem JL.f5 {a0 a1 a2 a3 a4 a5 : HProp} {F : List HProp} (h : JL C ops rest k env (a5 :: a0 :: a1 :: a2 :: a3 :: a4 :: F)) : JL C ops rest k env (a0 :: a1 :: a2 :: a3 :: a4 :: a5 :: F) := JL.pick (pre := [a0, a1, a2, a3, a4, a5]) [5, 0, 1, 2, 3, 4] rfl h
theorem DL1.f5 {a0 a1 a2 a3 a4 a5 : HProp} {F : List HProp} (h : DL1 C ops rd cl fuel listed i k env (a5 :: a0 :: a1 :: a2 :: a3 :: a4 :: F)) : DL1 C ops rd cl fuel listed i k env (a0 :: a1 :: a2 :: a3 :: a4 :: a5 :: F) := DL1.pick (pre := [a0, a1, a2, a3, a4, a5]) [5, 0, 1, 2, 3, 4] rfl h
theorem Own.f5 {w0 w : World} {a0 a1 a2 a3 a4 a5 : HProp} {F : List HProp} (h : Own w0 w (a0 :: a1 :: a2 :: a3 :: a4 :: a5 :: F)) : Own w0 w (a5 :: a0 :: a1 :: a2 :: a3 :: a4 :: F) := Own.pick (pre := [a0, a1, a2, a3, a4, a5]) [5, 0, 1, 2, 3, 4] rfl h
theorem J.f6 {a0 a1 a2 a3 a4 a5 a6 : HProp} {F : List HProp} (h : J C k env (a6 :: a0 :: a1 :: a2 :: a3 :: a4 :: a5 :: F)) : J C k env (a0 :: a1 :: a2 :: a3 :: a4 :: a5 :: a6 :: F) := J.pick (pre := [a0, a1, a2, a3, a4, a5, a6]) [6, 0, 1, 2, 3, 4, 5] rfl h
theorem JL.f6 {a0 a1 a2 a3 a4 a5 a6 : HProp} {F : List HProp} (h : JL C ops rest k env (a6 :: a0 :: a1 :: a2 :: a3 :: a4 :: a5 :: F)) : JL C ops rest k env (a0 :: a1 :: a2 :: a3 :: a4 :: a5 :: a6 :: F) := JL.pick (pre := [a0, a1, a2, a3, a4, a5, a6]) [6, 0, 1, 2, 3, 4, 5] rfl h
theorem DL1.f6 {a0 a1 a2 a3 a4 a5 a6 : HProp} {F : List HProp} (h : DL1 C ops rd cl fuel listed i k env (a6 :: a0 :: a1 :: a2 :: a3 :: a4 :: a5 :: F)) : DL1 C ops rd cl fuel listed i k env (a0 :: a1 :: a2 :: a3 :: a4 :: a5 :: a6 :: F) := DL1.pick (pre := [a0, a1, a2, a3, a4, a5, a6]) [6, 0, 1, 2, 3, 4, 5] rfl h
theorem Own.f6 {w0 w : World} {a0 a1 a2 a3 a4 a5 a6 : HProp} {F : List HProp} (h : Own w0 w (a0 :: a1 :: a2 :: a3 :: a4 :: a5 :: a6 :: F)) : Own w0 w (a6 :: a0 :: a1 :: a2 :: a3 :: a4 :: a5 :: F) := Own.pick (pre := [a0, a1, a2, a3, a4, a5, a6]) [6, 0, 1, 2, 3, 4, 5] rfl h
theorem J.f7 {a0 a1 a2 a3 a4 a5 a6 a7 : HProp} {F : List HProp} (h : J C k env (a7 :: a0 :: a1 :: a2 :: a3 :: a4 :: a5 :: a6 :: F)) : J C k env (a0 :: a1 :: a2 :: a3 :: a4 :: a5 :: a6 :: a7 :: F) := J.pick (pre := [a0, a1, a2, a3, a4, a5, a6, a7]) [7, 0, 1, 2, 3, 4, 5, 6] rfl h
theorem JL.f7 {a0 a1 a2 a3 a4 a5 a6 a7 : HProp} {F : List HProp} (h : JL C ops rest k env (a7 :: a0 :: a1 :: a2 :: a3 :: a4 :: a5 :: a6 :: F)) : JL C ops rest k env (a0 :: a1 :: a2 :: a3 :: a4 :: a5 :: a6 :: a7 :: F) := JL.pick (pre := [a0, a1, a2, a3, a4, a5, a6, a7]) [7, 0, 1, 2, 3, 4, 5, 6] rfl h
theorem DL1.f7 {a0 a1 a2 a3 a4 a5 a6 a7 : HProp} {F : List HProp} (h : DL1 C ops rd cl fuel listed i k env (a7 :: a0 :: a1 :: a2 :: a3 :: a4 :: a5 :: a6 :: F)) : DL1 C ops rd cl fuel listed i k env (a0 :: a1 :: a2 :: a3 :: a4 :: a5 :: a6 :: a7 :: F) := DL1.pick (pre := [a0, a1, a2, a3, a4, a5, a6, a7]) [7, 0, 1, 2, 3, 4, 5, 6] rfl h
theorem Own.f7 {w0 w : World} {a0 a1 a2 a3 a4 a5 a6 a7 : HProp} {F : List HProp} (h : Own w0 w (a0 :: a1 :: a2 :: a3 :: a4 :: a5 :: a6 :: a7 :: F)) : Own w0 w (a7 :: a0 :: a1 :: a2 :: a3 :: a4 :: a5 :: a6 :: F) := Own.pick (pre := [a0, a1, a2, a3, a4, a5, a6, a7]) [7, 0, 1, 2, 3, 4, 5, 6] rfl h
end

/-! A slice that may be read, whatever it is. -/
def RdO (w0 : World) (l : List HProp) (v : Value) (n : Nat) (cs : List Value) : Prop := ∀ w, Own w0 w l → Rd w0 l v n cs
theorem Rd.o {w0 : World} {l : List HProp} {v : Value} {n : Nat} {cs : List Value} (h : Rd w0 l v n cs) : RdO w0 l v n cs := fun _ _ => h
theorem Rd.ao {w0 : World} {l : List HProp} {v : Value} {n : Nat} {cs : List Value} (h : Rd w0 [] v n cs) : RdO w0 l v n cs := h.any.o
theorem RdO.conv {w0 : World} {l l' : List HProp} {v : Value} {n : Nat} {cs : List Value} (hl : ∀ w, Own w0 w l' → Own w0 w l) (h : RdO w0 l v n cs) : RdO w0 l' v n cs := fun w hw => (h w (hl w hw)).conv hl
theorem RdO.ofRow {w0 : World} {l : List HProp} {b e n c : Nat} {cs : List Value} (hm : Has (row b e cs) l) (hc : n ≤ c) : RdO w0 l (.slice (some ⟨b, 0, none⟩) n c) n cs := (Rd.ofRow hm hc).o
theorem RdO.own {w0 : World} {l : List HProp} {e sz n : Nat} {v : Value} {xs : List Value} (hm : Has (own e sz v n xs) l) : RdO w0 l v n xs := by
  intro w hw
  obtain ⟨m, hp⟩ := Own.mem_front hm.mem
  rcases (hw.perm hp).own_out with ⟨rfl, rfl, rfl⟩ | ⟨g, pre, post, cap, rfl, hc, _, _, _, _⟩
  · exact .inl ⟨_, _, rfl, rfl, rfl⟩
  · refine .inr ⟨g, pre.length, cap, rfl, hc, fun w' hw' j u hj => ?_⟩
    rcases (hw'.perm hp).own_out with ⟨h, _, _⟩ | ⟨g', pre', post', cap', h, _, _, _, _, ho⟩
    · cases h
    · injection h with h1 h2 h3
      injection h1 with h1
      injection h1 with h1 h1'
      subst h1
      have hcl : Cells w0 (row g e (pre' ++ xs ++ post') :: m) g pre'.length xs := Cells.mid .head
      rw [h1']
      exact hcl w' ho j u hj
section
variable {C : Cx} {ops rest : List Oper} {rds : List Nat} {cl : List HProp} {fuel i : Nat} {listed : List Bool} {k : List Item} {env : Env} {l : List HProp} {v : Value} {n : Nat} {cs : List Value}
theorem J.rd (hr : RdO C.w0 l v n cs) (h : Rd C.w0 l v n cs → J C k env l) : J C k env l := ⟨fun hf a w he ho => (h (hr w ho)).go hf a w he ho⟩
theorem JL.rd (hr : RdO C.w0 l v n cs) (h : Rd C.w0 l v n cs → JL C ops rest k env l) : JL C ops rest k env l := ⟨fun hf a w he ho => (h (hr w ho)).go hf a w he ho⟩
theorem DL.rd (hr : RdO C.w0 l v n cs) (h : Rd C.w0 l v n cs → DL C ops rds cl fuel listed k env l) : DL C ops rds cl fuel listed k env l := ⟨fun hf a w he ho => (h (hr w ho)).go hf a w he ho⟩
theorem FnO.rd {P : Program} {w0 : World} {f : FuncId} {args : List Value} {R : Value → List HProp → Prop} (hr : RdO w0 l v n cs) (h : Rd w0 l v n cs → FnO P w0 f args l R) : FnO P w0 f args l R := ⟨fun w hw => (h (hr w hw)).calls w hw⟩
end
theorem EnvOk.again {n : Nat} {ds : List Deferred} {a : Act} {env : Env} {t : Nat} {v : Value} (h : EnvOk n ds a env) (hv : Env.get env t = some v) : EnvOk n ds a ((t, v) :: env) := by
  refine ⟨h.size, h.defers, fun s u hs => ?_⟩
  simp only [Env.get] at hs
  by_cases e : s = t
  · subst e; simp at hs; subst hs; exact h.get _ _ hv
  · rw [nbeq e] at hs; exact h.get _ _ hs
section
variable {C : Cx} {ops rest : List Oper} {rds : List Nat} {cl : List HProp} {fuel i : Nat} {listed : List Bool} {k : List Item} {env : Env} {l : List HProp} (t : Nat)
theorem J.decAt {p : Prop} [Decidable p] (hg : Env.get env t = some (.bool (decide p))) (h1 : p → J C k ((t, .bool true) :: env) l) (h2 : ¬ p → J C k ((t, .bool false) :: env) l) : J C k env l := by
  by_cases hp : p
  · rw [decide_eq_true hp] at hg; exact ⟨fun hf a w he ho => (h1 hp).go hf a w (he.again hg) ho⟩
  · rw [decide_eq_false hp] at hg; exact ⟨fun hf a w he ho => (h2 hp).go hf a w (he.again hg) ho⟩
theorem J.splitAt {c : Bool} (hg : Env.get env t = some (.bool c)) (h1 : c = true → J C k ((t, .bool true) :: env) l) (h2 : c = false → J C k ((t, .bool false) :: env) l) : J C k env l := by
  cases c
  · exact ⟨fun hf a w he ho => (h2 rfl).go hf a w (he.again hg) ho⟩
  · exact ⟨fun hf a w he ho => (h1 rfl).go hf a w (he.again hg) ho⟩
theorem JL.decAt {p : Prop} [Decidable p] (hg : Env.get env t = some (.bool (decide p))) (h1 : p → JL C ops rest k ((t, .bool true) :: env) l) (h2 : ¬ p → JL C ops rest k ((t, .bool false) :: env) l) : JL C ops rest k env l := by
  by_cases hp : p
  · rw [decide_eq_true hp] at hg; exact ⟨fun hf a w he ho => (h1 hp).go hf a w (he.again hg) ho⟩
  · rw [decide_eq_false hp] at hg; exact ⟨fun hf a w he ho => (h2 hp).go hf a w (he.again hg) ho⟩
theorem JL.splitAt {c : Bool} (hg : Env.get env t = some (.bool c)) (h1 : c = true → JL C ops rest k ((t, .bool true) :: env) l) (h2 : c = false → JL C ops rest k ((t, .bool false) :: env) l) : JL C ops rest k env l := by
  cases c
  · exact ⟨fun hf a w he ho => (h2 rfl).go hf a w (he.again hg) ho⟩
  · exact ⟨fun hf a w he ho => (h1 rfl).go hf a w (he.again hg) ho⟩
theorem DL.decAt {p : Prop} [Decidable p] (hg : Env.get env t = some (.bool (decide p))) (h1 : p → DL C ops rds cl fuel listed k ((t, .bool true) :: env) l) (h2 : ¬ p → DL C ops rds cl fuel listed k ((t, .bool false) :: env) l) : DL C ops rds cl fuel listed k env l := by
  by_cases hp : p
  · rw [decide_eq_true hp] at hg; exact ⟨fun hf a w he ho => (h1 hp).go hf a w (he.again hg) ho⟩
  · rw [decide_eq_false hp] at hg; exact ⟨fun hf a w he ho => (h2 hp).go hf a w (he.again hg) ho⟩
theorem DL.splitAt {c : Bool} (hg : Env.get env t = some (.bool c)) (h1 : c = true → DL C ops rds cl fuel listed k ((t, .bool true) :: env) l) (h2 : c = false → DL C ops rds cl fuel listed k ((t, .bool false) :: env) l) : DL C ops rds cl fuel listed k env l := by
  cases c
  · exact ⟨fun hf a w he ho => (h2 rfl).go hf a w (he.again hg) ho⟩
  · exact ⟨fun hf a w he ho => (h1 rfl).go hf a w (he.again hg) ho⟩
end
section
variable {C : Cx} {ops rest : List Oper} {rds : List Nat} {cl : List HProp} {fuel i : Nat} {listed : List Bool} {k : List Item} {env : Env} {l : List HProp} {e sz n g : Nat} {xs : List Value}
theorem J.ownRow (h2 : n ≤ maxLen) (h3 : xs.length = n * sz) (h : J C k env (own e sz (.slice (some ⟨g, 0, none⟩) n n) n xs :: l)) : J C k env (row g e xs :: l) := J.conv (fun _ ho => Own.own_whole h2 h3 ho) h
theorem JL.ownRow (h2 : n ≤ maxLen) (h3 : xs.length = n * sz) (h : JL C ops rest k env (own e sz (.slice (some ⟨g, 0, none⟩) n n) n xs :: l)) : JL C ops rest k env (row g e xs :: l) := JL.conv (fun _ ho => Own.own_whole h2 h3 ho) h
theorem DL1.ownRow (h2 : n ≤ maxLen) (h3 : xs.length = n * sz) (h : DL1 C ops rds cl fuel listed i k env (own e sz (.slice (some ⟨g, 0, none⟩) n n) n xs :: l)) : DL1 C ops rds cl fuel listed i k env (row g e xs :: l) := DL1.conv (fun _ ho => Own.own_whole h2 h3 ho) h
end
theorem Cells.own {w0 : World} {l : List HProp} {e sz n b p c : Nat} {xs : List Value} (hm : Has (own e sz (.slice (some ⟨b, p, none⟩) n c) n xs) l) : Cells w0 l b p xs := by
  intro w hw j u hj
  obtain ⟨m, hp⟩ := Own.mem_front hm.mem
  rcases (hw.perm hp).own_out with ⟨h, _, _⟩ | ⟨g', pre', post', cap', h, _, _, _, _, ho⟩
  · cases h
  · injection h with h1 h2 h3
    injection h1 with h1
    injection h1 with h1 h1'
    subst h1
    have hcl : Cells w0 (row b e (pre' ++ xs ++ post') :: m) b pre'.length xs := Cells.mid .head
    rw [h1']
    exact hcl w ho j u hj
theorem Own.ownSome {w0 w : World} {l : List HProp} {e sz n c : Nat} {a : Option Addr} {xs : List Value} (hm : Has (own e sz (.slice a n c) n xs) l) (hn : 0 < n) (h : Own w0 w l) : ∃ x : Nat × Nat, (a = some ⟨x.1, x.2, .none⟩ ∧ n ≤ c) ∧ Own w0 w l := by
  obtain ⟨m, hp⟩ := Own.mem_front hm.mem
  obtain ⟨g, pre, post, cap, hv, hc, _⟩ := (h.perm hp).own_form hn
  injection hv with h1 _ h3
  subst h3
  exact ⟨(g, pre.length), ⟨h1, hc⟩, h⟩
section
variable {C : Cx} {ops rest : List Oper} {rds : List Nat} {cl : List HProp} {fuel i : Nat} {listed : List Bool} {k : List Item} {env : Env} {l : List HProp} {e sz n c : Nat} {a : Option Addr} {xs : List Value}
theorem J.ownSome (hm : Has (Gp.own e sz (.slice a n c) n xs) l) (hn : 0 < n) (h : ∀ g p, a = some ⟨g, p, none⟩ → n ≤ c → J C k env l) : J C k env l := J.open (fun _ ho => Own.ownSome hm hn ho) fun x hx => h x.1 x.2 hx.1 hx.2
theorem JL.ownSome (hm : Has (Gp.own e sz (.slice a n c) n xs) l) (hn : 0 < n) (h : ∀ g p, a = some ⟨g, p, none⟩ → n ≤ c → JL C ops rest k env l) : JL C ops rest k env l := JL.open (fun _ ho => Own.ownSome hm hn ho) fun x hx => h x.1 x.2 hx.1 hx.2
theorem DL.ownSome (hm : Has (Gp.own e sz (.slice a n c) n xs) l) (hn : 0 < n) (h : ∀ g p, a = some ⟨g, p, none⟩ → n ≤ c → DL C ops rds cl fuel listed k env l) : DL C ops rds cl fuel listed k env l := DL.open (fun _ ho => Own.ownSome hm hn ho) fun x hx => h x.1 x.2 hx.1 hx.2
end
theorem RdO.src {P : Program} {w0 : World} {l : List HProp} {v : Value} {n sz : Nat} {cs : List Value} (h : RdO w0 l v n cs) (hl : cs.length = n * sz) : Src P w0 l sz v n cs :=
  ⟨hl, fun w hw => ((h w hw).src hl).lenOf w hw, fun w hw => ((h w hw).src hl).first w hw⟩
theorem Own.left {w0 w : World} {ks F : List HProp} (h : Own w0 w (ks ++ F)) : Own w0 w ks := h.sublist (List.sublist_append_left _ _)
theorem RdO.sub {w0 : World} {F : List HProp} {A : HProp} {v : Value} {n : Nat} {cs : List Value} (h : RdO w0 F v n cs) : RdO w0 (A :: F) v n cs := h.conv fun _ h => h.tail

section
variable {P : Program} {w0 : World} {env : Env} {F : List HProp} {dst : Option Tmp} {ty : TypeId} {pos : String} {after : Array Edge} {g : Option (Nat × Bool)}
/-- An append to the slice that is owned at the front. -/
theorem OpM.appendH {x y : Operand} {tys : Array TypeId} {t u e sz by_ n m : Nat} {v xv : Value} {xs news z : List Value} [hs : Sl P t e sz by_] [hz : Zr P e z]
    (htys : tys = #[t, u]) (hu : (∃ e2, P.underlying u = some (.slice e2)) ∨ P.underlying u = some .string) (hzl : z.length = sz)
    (hx : ev env x = some v) (hy : ev env y = some xv) (hsrc : Src P w0 (own e sz v n xs :: F) sz xv m news) (h1 : ∀ c ∈ news, c.oneCell' = true) (h63 : n + m ≤ maxLen) (hb : (n + m) * by_ ≤ 140737488355328) :
    OpM P w0 ⟨dst, .call ⟨.builtin .append, #[x, y], tys⟩, ty, pos, after, g⟩ env (own e sz v n xs :: F) (fun r l'' => (∃ a c, r = .slice a (n + m) c) ∧ l'' = own e sz r (n + m) (xs ++ news) :: F) :=
  OpM.append (L := fun r => own e sz r (n + m) (xs ++ news) :: F) htys hu hzl hx hy hsrc h1 h63 hb fun _ => .head
/-- The same to an empty one. -/
theorem OpM.appendH0 {x y : Operand} {tys : Array TypeId} {t u e sz by_ m : Nat} {v xv : Value} {xs news z : List Value} [hs : Sl P t e sz by_] [hz : Zr P e z]
    (hxs : xs = []) (htys : tys = #[t, u]) (hu : (∃ e2, P.underlying u = some (.slice e2)) ∨ P.underlying u = some .string) (hzl : z.length = sz)
    (hx : ev env x = some v) (hy : ev env y = some xv) (hsrc : Src P w0 (own e sz v 0 xs :: F) sz xv m news) (h1 : ∀ c ∈ news, c.oneCell' = true) (h63 : m ≤ maxLen) (hb : m * by_ ≤ 140737488355328) :
    OpM P w0 ⟨dst, .call ⟨.builtin .append, #[x, y], tys⟩, ty, pos, after, g⟩ env (own e sz v 0 xs :: F) (fun r l'' => (∃ a c, r = .slice a m c) ∧ l'' = own e sz r m news :: F) := by
  subst hxs
  have h := OpM.appendH (n := 0) (ty := ty) (pos := pos) (after := after) (g := g) (dst := dst) htys hu hzl hx hy hsrc h1 (by omega) (by rw [Nat.zero_add]; exact hb)
  rw [Nat.zero_add, List.nil_append] at h
  exact h
end
end Go.Gp

namespace Go.Gp
open Go Go.RowKit
variable {P : Program} {w : World} {t : TypeId} {cs : List Value}
def Fms (P : Program) (w : World) : List (TypeId × Nat) → List Value → Prop
  | [], cs => cs = []
  | (t, n) :: r, cs => (cs.take n).length = n ∧ Fm P w t (cs.take n) ∧ Fms P w r (cs.drop n)
theorem Fms.one {r : List (TypeId × Nat)} (h : Fms P w ((t, 1) :: r) cs) : ∃ c cs', cs = c :: cs' ∧ Fm P w t [c] ∧ Fms P w r cs' := by
  obtain ⟨h1, h2, h3⟩ := h
  cases cs with
  | nil => simp at h1
  | cons c cs => exact ⟨c, cs, rfl, by simpa using h2, by simpa using h3⟩
theorem one1 {a : Value} (h : a.oneCell' = true) : ∀ u ∈ [a], u.oneCell' = true := by intro u hu; cases hu with | head => exact h | tail _ h => cases h
theorem oneC {a : Value} {l : List Value} (h : a.oneCell' = true) (hl : ∀ u ∈ l, u.oneCell' = true) : ∀ u ∈ a :: l, u.oneCell' = true := by intro u hu; cases hu with | head => exact h | tail _ h => exact hl u h
end Go.Gp

namespace Go.Gp
open Go Go.RowKit
/-! Rows of whole numbers; slices that get shorter. -/
abbrev icells (l : List Int) : List Value := l.map (Value.int .i64)
theorem icells_one (l : List Int) : ∀ u ∈ icells l, u.oneCell' = true := by
  intro u hu
  obtain ⟨s, _, rfl⟩ := List.mem_map.1 hu
  rfl
end Go.Gp
namespace Go.Gp
open Go Go.RowKit
section
variable {P : Program} {w0 : World} {env : Env} {F : List HProp} {dst : Option Tmp} {ty : TypeId} {pos : String} {after : Array Edge} {g : Option (Nat × Bool)}
end
end Go.Gp
namespace Go.Gp
open Go Go.RowKit
section
variable {P : Program} {env : Env} {dst : Option Tmp} {ty : TypeId} {pos : String} {after : Array Edge} {g : Option (Nat × Bool)}
theorem OpP.sliceFTI {x lo hi : Operand} {k k' : IntKind} {t e sz by_ b o len cap : Nat} {v v' : Int} [hs : Sl P t e sz by_] (hx : ev env x = some (.slice (some ⟨b, o, none⟩) len cap)) (elo : ev env lo = some (.int k v)) (ehi : ev env hi = some (.int k' v')) (h0 : 0 ≤ v) (h1 : v ≤ v') (h2 : v' ≤ cap) :
    OpP P ⟨dst, .slice t x (some lo) (some hi) none, ty, pos, after, g⟩ env (.slice (some ⟨b, if cap = v.toNat then o else o + v.toNat * sz, none⟩) (v'.toNat - v.toNat) (cap - v.toNat)) := OpP.sliceFT v.toNat v'.toNat hx elo ehi (by omega) (by omega) (by omega) (by omega)
end
end Go.Gp
namespace Go.Gp
open Go Go.RowKit
end Go.Gp
namespace Go.Gp
open Go Go.RowKit
section
variable {P : Program} {env : Env} {dst : Option Tmp} {ty : TypeId} {pos : String} {after : Array Edge} {g : Option (Nat × Bool)}
theorem OpP.addK {x y : Operand} {t u : TypeId} {k : IntKind} {a b : Int} (hx : ev env x = some (.int k a)) (hy : ev env y = some (.int k b)) (h1 : k.min ≤ a + b) (h2 : a + b ≤ k.max) : OpP P ⟨dst, .binOp .add t x y u, ty, pos, after, g⟩ env (.int k (a + b)) := (OpP.add hx hy).as (by rw [wrap_id h1 h2])
theorem OpP.subK {x y : Operand} {t u : TypeId} {k : IntKind} {a b : Int} (hx : ev env x = some (.int k a)) (hy : ev env y = some (.int k b)) (h1 : k.min ≤ a - b) (h2 : a - b ≤ k.max) : OpP P ⟨dst, .binOp .sub t x y u, ty, pos, after, g⟩ env (.int k (a - b)) := (OpP.sub hx hy).as (by rw [wrap_id h1 h2])
theorem OpP.mulK {x y : Operand} {t u : TypeId} {k : IntKind} {a b : Int} (hx : ev env x = some (.int k a)) (hy : ev env y = some (.int k b)) (h1 : k.min ≤ a * b) (h2 : a * b ≤ k.max) : OpP P ⟨dst, .binOp .mul t x y u, ty, pos, after, g⟩ env (.int k (a * b)) := (OpP.mul hx hy).as (by rw [wrap_id h1 h2])
end
end Go.Gp
namespace Go.Gp
open Go Go.RowKit
end Go.Gp

namespace Go.Gp
open Go Go.RowKit
theorem run_slice_nil {P : Program} {t e : TypeId} {sz by_ : Nat} (hs : Sl P t e sz by_) (w : World) {lo hi : Option Value} (hlo : lo = none ∨ ∃ k, lo = some (.int k 0)) (hhi : hi = none ∨ ∃ k, hi = some (.int k 0)) :
    (Instr.sliceAt t (.slice none 0 0) lo hi none).run P w = .ok (.slice none 0 0) w := by
  obtain ⟨i, hi1, hi2, _, _⟩ := hs.inf
  have hb : (Instr.sliceBounds true 0 0 lo hi none).run P w = .ok (0, 0, 0) w := run_sliceBounds (P := P) (isS := true) w (l := 0) (h := 0) (len := 0) (cap := 0)
    (by rcases hlo with h | ⟨k, h⟩; exact .inl ⟨h, rfl⟩; exact .inr ⟨k, h⟩) (by rcases hhi with h | ⟨k, h⟩; exact .inl ⟨h, rfl⟩; exact .inr ⟨k, h⟩) (Nat.le_refl _) (Nat.le_refl _)
  simp [Instr.sliceAt, run_underlying hs.und, Instr.slice, hb, run_sizeOf_info w hi1]
section
variable {P : Program} {env : Env} {dst : Option Tmp} {ty : TypeId} {pos : String} {after : Array Edge} {g : Option (Nat × Bool)}
theorem OpP.sliceNilTo {x hi : Operand} {k : IntKind} {t e sz by_ : Nat} {v : Int} [hs : Sl P t e sz by_] (hx : ev env x = some (.slice none 0 0)) (ehi : ev env hi = some (.int k v)) (h0 : v = 0) :
    OpP P ⟨dst, .slice t x none (some hi) none, ty, pos, after, g⟩ env (.slice none 0 0) := by
  subst h0
  refine ⟨fun ρ hr w => ?_⟩
  have hx' := hr x (by simp [Op.operands]) _ hx
  have e2 := hr hi (by simp [Op.operands]) _ ehi
  simp only [execOp, hx', Option.map_none, Option.map_some, e2, Sem.run_bind]
  rw [run_slice_nil hs w (.inl rfl) (.inr ⟨_, rfl⟩)]
  rfl
theorem OpP.sliceNilFrom {x lo : Operand} {k : IntKind} {t e sz by_ : Nat} {v : Int} [hs : Sl P t e sz by_] (hx : ev env x = some (.slice none 0 0)) (elo : ev env lo = some (.int k v)) (h0 : v = 0) :
    OpP P ⟨dst, .slice t x (some lo) none none, ty, pos, after, g⟩ env (.slice none 0 0) := by
  subst h0
  refine ⟨fun ρ hr w => ?_⟩
  have hx' := hr x (by simp [Op.operands]) _ hx
  have e2 := hr lo (by simp [Op.operands]) _ elo
  simp only [execOp, hx', Option.map_none, Option.map_some, e2, Sem.run_bind]
  rw [run_slice_nil hs w (.inr ⟨_, rfl⟩) (.inl rfl)]
  rfl
end
/-- Parts of an owned slice, read. -/
theorem RdO.ownTo {w0 : World} {l : List HProp} {e sz b p n c k c' : Nat} {xs : List Value} (hm : Has (Gp.own e sz (.slice (some ⟨b, p, none⟩) n c) n xs) l) (hc : k ≤ c') : RdO w0 l (.slice (some ⟨b, p, none⟩) k c') k (xs.take (k * sz)) :=
  fun _ _ => .inr ⟨b, p, c', rfl, hc, (Cells.own hm).take _⟩
/-- Whether a slice is nil. -/
theorem J.ownCases {C : Cx} {k : List Item} {env : Env} {l : List HProp} {e sz n c : Nat} {a : Option Addr} {xs : List Value} (hm : Has (Gp.own e sz (.slice a n c) n xs) l)
    (h1 : a = none → n = 0 → c = 0 → J C k env l) (h2 : ∀ g p, a = some ⟨g, p, .none⟩ → n ≤ c → J C k env l) : J C k env l := by
  refine ⟨fun hf act w he ho => ?_⟩
  obtain ⟨m, hp⟩ := Own.mem_front hm.mem
  rcases (ho.perm hp).own_out with ⟨q1, q2, _⟩ | ⟨g, pre, post, cap, q1, q2, _⟩
  · injection q1 with r1 r2 r3; exact (h1 r1 q2 r3).go hf act w he ho
  · injection q1 with r1 r2 r3; subst r3; exact (h2 g pre.length r1 q2).go hf act w he ho
end Go.Gp

namespace Go.Gp
open Go Go.RowKit
/-! Parts of a slice that is read. -/
theorem RdO.to {w0 : World} {l : List HProp} {b p n c k : Nat} (sz : Nat) {cs : List Value} (h : RdO w0 l (.slice (some ⟨b, p, none⟩) n c) n cs) (hk : k ≤ n) : RdO w0 l (.slice (some ⟨b, p, none⟩) k c) k (cs.take (k * sz)) := by
  intro w hw
  rcases h w hw with ⟨a, c', h1, h2, h3⟩ | ⟨b', o', c', h1, h2, h3⟩
  · have : k = 0 := by omega
    subst this
    refine .inl ⟨some ⟨b, p, .none⟩, c, rfl, rfl, ?_⟩
    rw [Nat.zero_mul, List.take_zero]
  · cases h1
    exact .inr ⟨b, p, c, rfl, by omega, h3.take _⟩
theorem RdO.from {w0 : World} {l : List HProp} {b p n c k : Nat} (sz : Nat) {cs : List Value} (h : RdO w0 l (.slice (some ⟨b, p, none⟩) n c) n cs) (hk : k ≤ n) (hl : cs.length = n * sz) : RdO w0 l (.slice (some ⟨b, if c = k then p else p + k * sz, none⟩) (n - k) (c - k)) (n - k) (cs.drop (k * sz)) := by
  intro w hw
  rcases h w hw with ⟨a, c', h1, h2, h3⟩ | ⟨b', o', c', h1, h2, h3⟩
  · have : k = 0 := by omega
    subst this
    refine .inl ⟨some ⟨b, if c = 0 then p else p + 0 * sz, .none⟩, c - 0, by rw [h2], by omega, ?_⟩
    rw [h3]; simp
  · cases h1
    by_cases hc : c = k
    · have : n = k := by omega
      subst this
      refine .inl ⟨some ⟨b, if c = n then p else p + n * sz, .none⟩, c - n, by rw [Nat.sub_self], Nat.sub_self _, ?_⟩
      rw [List.drop_eq_nil_of_le (by omega)]
    · rw [if_neg hc]
      exact .inr ⟨b, p + k * sz, c - k, rfl, by omega, h3.drop _⟩
end Go.Gp
namespace Go.Gp
open Go Go.RowKit
/-! A region that draws its order, where something that is owned is written. -/
section
variable {C : Cx} {ops : List Oper} {k : List Item} {env : Env}
theorem J.regionDC (rd : List Nat) {l cl : List HProp} {id : Nat} (hm : C.P.follows .mixedOrders = true) (h : DL C ops rd cl ops.length (List.replicate ops.length false) k env l) (hro : C.ro = none := by rfl) : J C (.code (.region id ops.toArray true) :: k) env l := by
  refine ⟨fun hf a w he ho b cs hb hk hbr => ?_⟩
  have hd : Own C.w0 { w with drawn := w.drawn + 1 } l := ho.same ((Below.refl _ _).drew)
  have h1 := wpC_any _ _ _ _ (h.go hf a _ he hd)
  obtain ⟨e, a', w', ⟨rfl, hq⟩, harr⟩ := wp_region_any (P := C.P) (id := id) (ops := ops.toArray) hm (by simpa using h1) b k cs
  have e1 : ∀ a k, b.atR a k = b.at a k := fun a k => Frame.atR_of_none (hbr.trans hro) a k
  have h2 := hq b cs hb hk hbr
  rw [e1] at h2 ⊢
  exact .of_steps harr h2
theorem J.regionX1 (rd : List Nat) {a0 a1 : HProp} {F : List HProp} {id : Nat} (hm : C.P.follows .mixedOrders = true) (h : DL C ops rd (a0 :: F) ops.length (List.replicate ops.length false) k env (a0 :: a1 :: F)) (hro : C.ro = none := by rfl) : J C (.code (.region id ops.toArray true) :: k) env (a0 :: a1 :: F) := J.regionDC rd hm h hro
theorem J.regionX4 (rd : List Nat) {a0 a1 a2 a3 a4 : HProp} {F : List HProp} {id : Nat} (hm : C.P.follows .mixedOrders = true) (h : DL C ops rd (a0 :: a1 :: a2 :: a3 :: F) ops.length (List.replicate ops.length false) k env (a0 :: a1 :: a2 :: a3 :: a4 :: F)) (hro : C.ro = none := by rfl) : J C (.code (.region id ops.toArray true) :: k) env (a0 :: a1 :: a2 :: a3 :: a4 :: F) := J.regionDC rd hm h hro
end
end Go.Gp

/-! Words of 32 bits. -/
namespace Go.Gp
open Go

def w32 (x : BitVec 32) : Value := .int .u32 (x.toNat : Int)
theorem wrap_u32 (a : Int) : IntKind.u32.wrap a = a % 4294967296 := by
  simp [IntKind.wrap, IntKind.signed, IntKind.bits]
section
variable {P : Program} {env : Env} {dst : Option Tmp} {ty : TypeId} {pos : String} {after : Array Edge} {g : Option (Nat × Bool)}
theorem OpP.wAdd {x y : Operand} {t u : TypeId} {a b : BitVec 32} (hx : ev env x = some (w32 a)) (hy : ev env y = some (w32 b)) : OpP P ⟨dst, .binOp .add t x y u, ty, pos, after, g⟩ env (w32 (a + b)) :=
  (OpP.add hx hy).as (by
    rw [wrap_u32, w32, BitVec.toNat_add, Int.natCast_emod, Int.natCast_add]; rfl)
theorem ofInt32 (a : BitVec 32) : BitVec.ofInt IntKind.u32.bits (a.toNat : Int) = a := by
  show BitVec.ofInt 32 (a.toNat : Int) = a
  rw [BitVec.ofInt_natCast, BitVec.ofNat_toNat, BitVec.setWidth_eq]
theorem wBits {op : BinOp} {x y : Operand} {t u : TypeId} {a b c : BitVec 32} (hx : ev env x = some (w32 a)) (hy : ev env y = some (w32 b)) (hop : (match op with | .and | .or | .xor | .andNot => true | _ => false) = true)
    (hc : ∀ w, (Op.intBits op .u32 (a.toNat : Int) (b.toNat : Int)).run P w = .ok (.int .u32 (IntKind.u32.wrap (c.toNat : Int))) w) : OpP P ⟨dst, .binOp op t x y u, ty, pos, after, g⟩ env (w32 c) :=
  OpP.bits hx hy hop fun w => by
    rw [hc w, wrap_u32, w32]
    have := c.isLt
    rw [Int.emod_eq_of_lt (by omega) (by omega)]
theorem OpP.wXor {x y : Operand} {t u : TypeId} {a b : BitVec 32} (hx : ev env x = some (w32 a)) (hy : ev env y = some (w32 b)) : OpP P ⟨dst, .binOp .xor t x y u, ty, pos, after, g⟩ env (w32 (a ^^^ b)) :=
  wBits hx hy rfl fun w => by
    have h1 := ofInt32 a
    have h2 := ofInt32 b
    simp only [Op.intBits, h1, h2]; rfl
theorem OpP.wAnd {x y : Operand} {t u : TypeId} {a b : BitVec 32} (hx : ev env x = some (w32 a)) (hy : ev env y = some (w32 b)) : OpP P ⟨dst, .binOp .and t x y u, ty, pos, after, g⟩ env (w32 (a &&& b)) :=
  wBits hx hy rfl fun w => by
    have h1 := ofInt32 a
    have h2 := ofInt32 b
    simp only [Op.intBits, h1, h2]; rfl
theorem OpP.wOr {x y : Operand} {t u : TypeId} {a b : BitVec 32} (hx : ev env x = some (w32 a)) (hy : ev env y = some (w32 b)) : OpP P ⟨dst, .binOp .or t x y u, ty, pos, after, g⟩ env (w32 (a ||| b)) :=
  wBits hx hy rfl fun w => by
    have h1 := ofInt32 a
    have h2 := ofInt32 b
    simp only [Op.intBits, h1, h2]; rfl
theorem shl32 (a : BitVec 32) (m : Nat) : IntKind.u32.wrap ((a.toNat : Int) * 2 ^ m) = ((a <<< m).toNat : Int) := by
  rw [wrap_u32, BitVec.toNat_shiftLeft, Nat.shiftLeft_eq, Int.natCast_emod, Int.natCast_mul, Int.natCast_pow]; rfl
theorem shr32 (a : BitVec 32) (m : Nat) : Int.fdiv (a.toNat : Int) (2 ^ m) = ((a >>> m).toNat : Int) := by
  have h : (2 : Int) ^ m = ((2 ^ m : Nat) : Int) := by rw [Int.natCast_pow]; rfl
  rw [BitVec.toNat_ushiftRight, Nat.shiftRight_eq_div_pow, h, Int.fdiv_eq_ediv_of_nonneg _ (Int.natCast_nonneg _), Int.natCast_ediv]
theorem OpP.wShl {x y : Operand} {t u : TypeId} {k : IntKind} {a : BitVec 32} {n : Int} (m : Nat) (hx : ev env x = some (w32 a)) (hy : ev env y = some (.int k n)) (hn : n = m) (hm : m ≤ 32) : OpP P ⟨dst, .binOp .shl t x y u, ty, pos, after, g⟩ env (w32 (a <<< m)) :=
  OpP.shift hx hy rfl fun w => by
    subst hn
    have e : Min.min (m : Int).toNat 32 = m := by rw [Int.toNat_natCast]; exact Nat.min_eq_left hm
    have e2 := shl32 a m
    simp only [Op.shift, if_neg (show ¬ (m : Int) < 0 from Int.not_lt.2 (Int.natCast_nonneg _)), IntKind.bits, e, e2]; rfl
theorem OpP.wShr {x y : Operand} {t u : TypeId} {k : IntKind} {a : BitVec 32} {n : Int} (m : Nat) (hx : ev env x = some (w32 a)) (hy : ev env y = some (.int k n)) (hn : n = m) (hm : m ≤ 32) : OpP P ⟨dst, .binOp .shr t x y u, ty, pos, after, g⟩ env (w32 (a >>> m)) :=
  OpP.shift hx hy rfl fun w => by
    subst hn
    have e : Min.min (m : Int).toNat 32 = m := by rw [Int.toNat_natCast]; exact Nat.min_eq_left hm
    have e2 := shr32 a m
    simp only [Op.shift, if_neg (show ¬ (m : Int) < 0 from Int.not_lt.2 (Int.natCast_nonneg _)), IntKind.bits, e, e2]; rfl
theorem OpP.wOfByte {x : Operand} {s d : TypeId} {a : UInt8} [IntT P s .u8] [IntT P d .u32] (hx : ev env x = some (u8c a)) : OpP P ⟨dst, .convert s d x, ty, pos, after, g⟩ env (w32 (a.toBitVec.setWidth 32)) :=
  (OpP.conv (ks := .u8) hx).as (by
    rw [wrap_u32, w32]
    have := a.toNat_lt
    have e : (a.toBitVec.setWidth 32).toNat = a.toNat := by
      rw [BitVec.toNat_setWidth]; exact Nat.mod_eq_of_lt (by have : a.toBitVec.toNat = a.toNat := rfl; omega)
    rw [e, Int.emod_eq_of_lt (by omega) (by omega)])
theorem OpP.wToByte {x : Operand} {s d : TypeId} {a : BitVec 32} [IntT P s .u32] [IntT P d .u8] (hx : ev env x = some (w32 a)) : OpP P ⟨dst, .convert s d x, ty, pos, after, g⟩ env (u8c (UInt8.ofBitVec (a.setWidth 8))) :=
  (OpP.conv (ks := .u32) hx).as (by
    show Value.int .u8 (IntKind.u8.wrap (a.toNat : Int)) = _
    rw [u8c]
    have e : (UInt8.ofBitVec (a.setWidth 8)).toNat = a.toNat % 256 := by
      show (a.setWidth 8).toNat = _
      rw [BitVec.toNat_setWidth]
    have e2 : IntKind.u8.wrap (a.toNat : Int) = (a.toNat : Int) % 256 := by simp [IntKind.wrap, IntKind.signed, IntKind.bits]
    rw [e2, e, Int.natCast_emod]; rfl)
end
end Go.Gp

/-! Rows that a function tells: cell j holds f j. -/
namespace Go.Gp
open Go

def fc (n : Nat) (f : Nat → Value) : List Value := (List.range n).map f
def upd {α : Type} (f : Nat → α) (j : Nat) (v : α) : Nat → α := fun k => if k = j then v else f k
theorem fc_length (n : Nat) (f : Nat → Value) : (fc n f).length = n := by simp [fc]
theorem fc_get {n j : Nat} {f : Nat → Value} (h : j < n) : (fc n f)[j]? = some (f j) := by simp [fc, h]
theorem fc_congr {n : Nat} {f g : Nat → Value} (h : ∀ j, j < n → f j = g j) : fc n f = fc n g := by
  apply List.map_congr_left
  intro j hj
  exact h j (List.mem_range.1 hj)
theorem fc_set {n j : Nat} {f : Nat → Value} {v : Value} : (fc n f).set j v = fc n (upd f j v) := by
  apply List.ext_getElem?
  intro k
  by_cases hk : k < n
  · rw [fc_get hk, List.getElem?_set]
    by_cases hj : j = k
    · subst hj; simp [upd, fc_length, hk]
    · simp [hj, fc_get hk, upd, Ne.symm hj]
  · rw [List.getElem?_eq_none (by rw [List.length_set, fc_length]; omega), List.getElem?_eq_none (by rw [fc_length]; omega)]
theorem upd_w32 {V : Nat → BitVec 32} {j : Nat} {x : BitVec 32} : upd (fun k => w32 (V k)) j (w32 x) = fun k => w32 (upd V j x k) := by
  funext k; unfold upd; split <;> rfl
theorem spl_fc {n o j : Nat} {f : Nat → Value} {v : Value} (ho : o = j) (hj : j < n) : Spl (fc n f) o [v] (fc n (upd f j v)) := by
  rw [← fc_set]; exact spl_at ho (by rw [fc_length]; exact hj)
theorem spl_fcW {n o j : Nat} {V : Nat → BitVec 32} {x : BitVec 32} (ho : o = j) (hj : j < n) : Spl (fc n fun k => w32 (V k)) o [w32 x] (fc n fun k => w32 (upd V j x k)) := by
  rw [← upd_w32]; exact spl_fc ho hj
theorem spl_app {xs ys vs post : List Value} {o : Nat} (h : Spl xs o vs ys) : Spl (xs ++ post) o vs (ys ++ post) := by
  induction h with
  | nil => exact .nil
  | here h ih => exact .here ih
  | there h ih => exact .there ih
theorem cell_fc {w0 : World} {l : List HProp} {g t n o j : Nat} {f : Nat → Value} (hm : Has (row g t (fc n f)) l) (ho : o = j) (hj : j < n) : Cell w0 l ⟨g, o, none⟩ (f j) := by
  subst ho; exact Cell.row hm (fc_get hj)
theorem cell_fcP {w0 : World} {l : List HProp} {g t n o j : Nat} {f : Nat → Value} {post : List Value} (hm : Has (row g t (fc n f ++ post)) l) (ho : o = j) (hj : j < n) : Cell w0 l ⟨g, o, none⟩ (f j) := by
  subst ho; exact Cell.row hm (by rw [List.getElem?_append_left (by rw [fc_length]; exact hj)]; exact fc_get hj)
theorem cells_fcP {w0 : World} {l : List HProp} {g t n : Nat} {f : Nat → Value} {post : List Value} (hm : Has (row g t (fc n f ++ post)) l) : Cells w0 l g 0 (fc n f) := by
  have h := (Cells.full (w0 := w0) hm).take n
  rwa [List.take_left' (fc_length n f)] at h
theorem fc_one {n : Nat} {f : Nat → Value} (h : ∀ j, (f j).oneCell' = true) : ∀ u ∈ fc n f, u.oneCell' = true := by
  intro u hu
  obtain ⟨j, _, rfl⟩ := List.mem_map.1 hu
  exact h j
/-- What the world at the call holds from the beginning of a block on. -/
def Tab (w0 : World) (b n : Nat) (f : Nat → Value) : Prop := ∀ j, j < n → w0.cell? ⟨b, j, none⟩ = some (f j)
theorem Tab.cell {w0 : World} {l : List HProp} {b n j : Nat} {f : Nat → Value} (h : Tab w0 b n f) (hj : j < n) : Cell w0 l ⟨b, j, none⟩ (f j) := Cell.base (h j hj)
theorem fc_rep {n : Nat} {v : Value} {f : Nat → Value} (h : ∀ j, j < n → f j = v) : List.replicate n v = fc n f := by
  apply List.ext_getElem?
  intro k
  by_cases hk : k < n
  · rw [fc_get hk, h k hk, List.getElem?_replicate, if_pos hk]
  · rw [List.getElem?_eq_none (by rw [List.length_replicate]; omega), List.getElem?_eq_none (by rw [fc_length]; omega)]
section
variable {P : Program} {env : Env} {dst : Option Tmp} {ty : TypeId} {pos : String} {after : Array Edge} {g : Option (Nat × Bool)}
theorem OpP.indexAddrF {x i : Operand} {t e n b : Nat} {k : IntKind} {j : Int} [hs : Ar P t n e 1] (hx : ev env x = some (.pointer (some ⟨b, 0, none⟩))) (hi : ev env i = some (.int k j)) (h0 : 0 ≤ j) (h1 : j < n) :
    OpP P ⟨dst, .indexAddr t x i, ty, pos, after, g⟩ env (.pointer (some ⟨b, j.toNat, none⟩)) :=
  (OpP.indexAddrA hx hi h0 h1).as (by rw [Nat.zero_add, Nat.mul_one])
theorem OpP.indexAddrN {x i : Operand} {t e n b j : Nat} {k : IntKind} [hs : Ar P t n e 1] (hx : ev env x = some (.pointer (some ⟨b, 0, none⟩))) (hi : ev env i = some (.int k (j : Int))) (h1 : j < n) :
    OpP P ⟨dst, .indexAddr t x i, ty, pos, after, g⟩ env (.pointer (some ⟨b, j, none⟩)) :=
  OpP.indexAddrF hx hi (Int.natCast_nonneg _) (by omega)
theorem OpP.indexFc {x i : Operand} {t e n j : Nat} {k : IntKind} {f : Nat → Value} [hs : Ar P t n e 1] [One P e] (hx : ev env x = some (.agg (fc n f).toArray)) (hi : ev env i = some (.int k (j : Int))) (h1 : j < n) :
    OpP P ⟨dst, .index t x i, ty, pos, after, g⟩ env (f j) :=
  OpP.indexArr1 hx hi (Int.natCast_nonneg _) (by omega) (by rw [Int.toNat_natCast]; exact fc_get h1)
theorem OpP.wShlI {x y : Operand} {t u : TypeId} {k : IntKind} {a : BitVec 32} {n : Int} (hx : ev env x = some (w32 a)) (hy : ev env y = some (.int k n)) (h0 : 0 ≤ n) (h1 : n ≤ 32) : OpP P ⟨dst, .binOp .shl t x y u, ty, pos, after, g⟩ env (w32 (a <<< n.toNat)) := OpP.wShl n.toNat hx hy (by omega) (by omega)
theorem OpP.wShrI {x y : Operand} {t u : TypeId} {k : IntKind} {a : BitVec 32} {n : Int} (hx : ev env x = some (w32 a)) (hy : ev env y = some (.int k n)) (h0 : 0 ≤ n) (h1 : n ≤ 32) : OpP P ⟨dst, .binOp .shr t x y u, ty, pos, after, g⟩ env (w32 (a >>> n.toNat)) := OpP.wShr n.toNat hx hy (by omega) (by omega)
theorem and31 : ∀ a : Fin 32, (BitVec.ofInt 64 (18446744073709551616 - (a.val : Int)) &&& BitVec.ofInt 64 31).toNat = (32 - a.val) % 32 := by decide +kernel
theorem OpP.rotAnd {x y : Operand} {t u : TypeId} {a : Nat} (hx : ev env x = some (.int .u64 (IntKind.u64.wrap (-(a : Int))))) (hy : ev env y = some (.int .u64 31)) (h0 : 0 < a) (h1 : a < 32) : OpP P ⟨dst, .binOp .and t x y u, ty, pos, after, g⟩ env (.int .u64 (32 - (a : Int))) :=
  OpP.bits hx hy rfl fun w => by
    have e : IntKind.u64.wrap (-(a : Int)) = 18446744073709551616 - (a : Int) := by
      simp only [IntKind.wrap, IntKind.signed, IntKind.bits, Bool.false_and, Bool.false_eq_true, if_false]
      omega
    have h := and31 ⟨a, h1⟩
    have h : (BitVec.ofInt IntKind.u64.bits (18446744073709551616 - (a : Int)) &&& BitVec.ofInt IntKind.u64.bits 31).toNat = (32 - a) % 32 := h
    rw [e]
    simp only [Op.intBits, h]
    have e3 : IntKind.u64.wrap (((32 - a) % 32 : Nat) : Int) = 32 - (a : Int) := by
      simp only [IntKind.wrap, IntKind.signed, IntKind.bits, Bool.false_and, Bool.false_eq_true, if_false]
      omega
    rw [e3]; rfl
end
end Go.Gp

/-! Stores behind the told part of a row. -/
namespace Go.Gp
open Go

theorem spl_post {n k o : Nat} {f : Nat → Value} {post post' vs : List Value} (ho : o = n + k) (h : Spl post k vs post') : Spl (fc n f ++ post) o vs (fc n f ++ post') := by
  subst ho
  have e := fc_length n f
  generalize fc n f = xs at e ⊢
  induction xs generalizing n with
  | nil => subst e; simpa using h
  | cons x xs ih =>
    cases n with
    | zero => simp at e
    | succ n =>
      rw [show n + 1 + k = n + k + 1 by omega]
      exact .there (ih (by simpa using e))
/-- An owned slice from its k-th on. -/
theorem Own.fromK {w0 w : World} {l : List HProp} {e sz n k c b p : Nat} {xs : List Value} (hk : k ≤ n) (h : Own w0 w (own e sz (.slice (some ⟨b, p, .none⟩) n c) n xs :: l)) :
    Own w0 w (own e sz (.slice (some ⟨b, if c = k then p else p + k * sz, .none⟩) (n - k) (c - k)) (n - k) (xs.drop (k * sz)) :: l) := by
  rcases h.own_out with ⟨h1, _, _⟩ | ⟨g, pre, post, cap, hv, q1, q2, q3, q4, ho⟩
  · cases h1
  · cases hv
    have hks : k * sz ≤ n * sz := Nat.mul_le_mul_right _ hk
    have e1 := Nat.sub_mul n k sz
    have e2 := Nat.sub_mul c k sz
    have e3 := Nat.sub_mul c n sz
    have e4 : n * sz ≤ c * sz := Nat.mul_le_mul_right _ q1
    by_cases hc : c = k
    · have hn : n = k := by omega
      subst hn
      rw [if_pos hc, List.drop_of_length_le (by omega), Nat.sub_self, show c - n = 0 by omega]
      have e5 : pre ++ xs ++ post = pre ++ [] ++ (xs ++ post) := by simp
      rw [e5] at ho
      exact Own.own_in (Nat.le_refl _) (by simp [maxLen]) (by simp) (by simp) ho
    · rw [if_neg hc]
      have e5 : pre ++ xs ++ post = (pre ++ xs.take (k * sz)) ++ xs.drop (k * sz) ++ post := by
        rw [List.append_assoc pre (xs.take _) (xs.drop _), List.take_append_drop]
      rw [e5] at ho
      have e6 : pre.length + k * sz = (pre ++ xs.take (k * sz)).length := by rw [List.length_append, List.length_take]; omega
      rw [e6]
      exact Own.own_in (by omega) (by omega) (by rw [List.length_drop]; omega) (by rw [show c - k - (n - k) = c - n by omega]; exact q4) ho
end Go.Gp

/-! Words as 32 truths, rows of such words; bytes' operations. -/
namespace Go.Gp
open Go

abbrev bitV (x : BitVec 32) : Nat → Value := fun j => .bool (x.getLsbD j)
/-- Words, one behind the other, each as 32 truths. -/
def fB (n : Nat) (U : Nat → BitVec 32) : List Value := (List.range n).flatMap fun j => fc 32 (bitV (U j))
theorem fB_length (n : Nat) (U : Nat → BitVec 32) : (fB n U).length = n * 32 := by
  rw [fB, chunk_length (n := 32) (fun a _ => fc_length _ _), List.length_range]
theorem fB_one {n : Nat} {U : Nat → BitVec 32} : ∀ u ∈ fB n U, u.oneCell' = true := by
  intro u hu
  obtain ⟨j, _, hj⟩ := List.mem_flatMap.1 hu
  exact fc_one (fun _ => rfl) u hj
theorem fB_congr {n : Nat} {U V : Nat → BitVec 32} (h : ∀ j, j < n → U j = V j) : fB n U = fB n V := by
  unfold fB
  rw [List.flatMap_def, List.flatMap_def]
  congr 1
  apply List.map_congr_left
  intro j hj
  rw [h j (List.mem_range.1 hj)]
theorem fB_succ (n : Nat) (U : Nat → BitVec 32) : fB (n + 1) U = fB n U ++ fc 32 (bitV (U n)) := by
  rw [fB, List.range_succ, List.flatMap_append, List.flatMap_singleton]; rfl
theorem Cells.fB {w0 : World} {l : List HProp} {g t n a : Nat} {U : Nat → BitVec 32} (hm : Has (row g t (Gp.fB n U)) l) (ha : a < n) : Cells w0 l g (0 + a * 32) (fc 32 (bitV (U a))) := by
  rw [Nat.zero_add]
  exact Cells.chunk (f := fun j => fc 32 (bitV (U j))) hm (fun _ _ => fc_length _ _) (by simp [ha])
theorem Cells.fBo {w0 : World} {l : List HProp} {b p n a : Nat} {U : Nat → BitVec 32} (hc : Cells w0 l b p (Gp.fB n U)) (ha : a < n) : Cells w0 l b (p + a * 32) (fc 32 (bitV (U a))) :=
  Cells.chunkAt (f := fun j => fc 32 (bitV (U j))) hc (fun _ _ => fc_length _ _) (by simp [ha])
theorem Cells.fB1 {w0 : World} {l : List HProp} {g t n a j : Nat} {U : Nat → BitVec 32} (hm : Has (row g t (Gp.fB n U)) l) (ha : a < n) (hj : j < 32) : Cell w0 l ⟨g, 0 + a * 32 + j * 1, none⟩ (bitV (U a) j) := by
  rw [Nat.mul_one]
  exact (Cells.fB hm ha).at j (fc_get hj)
theorem spl_fB {n a : Nat} {U : Nat → BitVec 32} {x : BitVec 32} (ha : a < n) : Spl (fB n U) (0 + a * 32) (fc 32 (bitV x)) (fB n (upd U a x)) := by
  rw [Nat.zero_add]
  have h := chunk_spl (f := fun x => fc 32 (bitV x)) (l := (List.range n).map U) (i := a) (a := x) (n := 32) (fun _ _ => fc_length _ _) (fc_length _ _) (by simpa using ha)
  have e : ∀ V : Nat → BitVec 32, ((List.range n).map V).flatMap (fun x => fc 32 (bitV x)) = fB n V := fun V => by rw [List.flatMap_map]; rfl
  have e2 : ((List.range n).map U).set a x = (List.range n).map (upd U a x) := by
    apply List.ext_getElem?
    intro k
    rw [List.getElem?_set]
    by_cases hk : a = k
    · subst hk; simp [upd, ha]
    · rw [if_neg hk]
      by_cases hn : k < n
      · simp [hn, upd, Ne.symm hk]
      · simp [hn]
  rw [e2, e, e] at h
  exact h
theorem fB_rep (n : Nat) : List.replicate (n * 32) (Value.bool false) = fB n fun _ => 0 := by
  have e : fc 32 (bitV 0) = List.replicate 32 (Value.bool false) := (fc_rep fun j _ => by simp [bitV]).symm
  induction n with
  | zero => rfl
  | succ n ih => rw [fB_succ, ← ih, e, Nat.add_mul, Nat.one_mul, List.replicate_append_replicate]
theorem fB8 {a0 a1 a2 a3 a4 a5 a6 a7 : BitVec 32} : fB 8 (fun j => [a0, a1, a2, a3, a4, a5, a6, a7].getD j 0) = fc 32 (bitV a0) ++ (fc 32 (bitV a1) ++ (fc 32 (bitV a2) ++ (fc 32 (bitV a3) ++ (fc 32 (bitV a4) ++ (fc 32 (bitV a5) ++ (fc 32 (bitV a6) ++ fc 32 (bitV a7))))))) := by
  show (List.range 8).flatMap _ = _
  rw [show List.range 8 = [0, 1, 2, 3, 4, 5, 6, 7] from rfl]
  simp only [List.flatMap_cons, List.flatMap_nil, List.append_nil]
  rfl
/-- The parts, one behind the other, put over what was there. -/
def chunkParts : Nat → List (List Value) → List (Nat × Value)
  | _, [] => []
  | k, l :: ls => (k, .agg l.toArray) :: chunkParts (k + 1) ls
theorem Fills.chunks {sz : Nat} : ∀ {ls : List (List Value)} {k : Nat} {pre post : List Value}, pre.length = k * sz → post.length = ls.length * sz → (∀ l ∈ ls, l.length = sz) → Fills (fun i => some (i * sz, sz)) (pre ++ post) (chunkParts k ls) (pre ++ ls.flatten)
  | [], k, pre, post, _, h2, _ => by
    simp at h2; subst h2; exact .nil
  | l :: ls, k, pre, post, h1, h2, h3 => by
    have hl := h3 l (by simp)
    have e2 : post.length = sz + ls.length * sz := by rw [h2, List.length_cons, Nat.add_mul]; omega
    have hs := Spl.mk (cs := pre ++ post) (vs := l) (o := k * sz) (by rw [List.length_append]; omega)
    rw [← h1, List.take_left, List.drop_append, List.drop_of_length_le (by omega), List.nil_append, show pre.length + l.length - pre.length = sz by omega] at hs
    refine .cons rfl rfl hl (h1 ▸ hs) ?_
    have := Fills.chunks (sz := sz) (ls := ls) (k := k + 1) (pre := pre ++ l) (post := post.drop sz) (by rw [List.length_append, Nat.add_mul]; omega) (by rw [List.length_drop]; omega) (fun x hx => h3 x (by simp [hx]))
    rw [List.flatten_cons]
    rw [List.append_assoc pre l ls.flatten] at this
    exact this
section
variable {P : Program} {w0 : World} {env : Env} {l l' : List HProp} {dst : Option Tmp} {ty : TypeId} {pos : String} {after : Array Edge} {g : Option (Nat × Bool)}
set_option maxRecDepth 4000 in
theorem OpP.buildB8 {t e : Nat} {parts : List (Nat × Operand)} {a0 a1 a2 a3 a4 a5 a6 a7 : BitVec 32} {z : List Value} [ha : Ar P t 8 e 32] [hz : Zr P t z] (hzl : z.length = 256) (he : evp env parts = some [(0, .agg (fc 32 (bitV a0)).toArray), (1, .agg (fc 32 (bitV a1)).toArray), (2, .agg (fc 32 (bitV a2)).toArray), (3, .agg (fc 32 (bitV a3)).toArray), (4, .agg (fc 32 (bitV a4)).toArray), (5, .agg (fc 32 (bitV a5)).toArray), (6, .agg (fc 32 (bitV a6)).toArray), (7, .agg (fc 32 (bitV a7)).toArray)]) :
    OpP P ⟨dst, .build t parts.toArray, ty, pos, after, g⟩ env (.agg (fB 8 fun j => [a0, a1, a2, a3, a4, a5, a6, a7].getD j 0).toArray) := by
  refine OpP.buildA he ?_
  have h := Fills.chunks (sz := 32) (ls := [fc 32 (bitV a0), fc 32 (bitV a1), fc 32 (bitV a2), fc 32 (bitV a3), fc 32 (bitV a4), fc 32 (bitV a5), fc 32 (bitV a6), fc 32 (bitV a7)]) (k := 0) (pre := []) (post := z) rfl hzl (by
    intro l hl
    simp only [List.mem_cons, List.not_mem_nil, or_false] at hl
    rcases hl with rfl | rfl | rfl | rfl | rfl | rfl | rfl | rfl <;> exact fc_length _ _)
  rw [fB8]
  simp only [List.flatten_cons, List.flatten_nil, List.append_nil, List.nil_append] at h
  exact h
theorem OpM.buildSlice1 {t e sz by_ : Nat} {x : Operand} {vs : List Value} {z : List Value} [hs : Sl P t e sz by_] [hz : Zr P e z] (hzl : z.length = sz) (hx : ev env x = some (.agg vs.toArray)) (hv : vs.length = sz) (hlen : Nat.ble (1 * sz) 16777216 = true) :
    OpM P w0 ⟨dst, .buildSlice t 1 [(0, x)].toArray, ty, pos, after, g⟩ env l (fun u l'' => ∃ b, u = .slice (some ⟨b, 0, none⟩) 1 1 ∧ l'' = row b e vs :: l) := by
  refine OpM.buildSlice (ivs := [(0, .agg vs.toArray)]) hzl (by simp [evp, hx]) hlen ?_
  have h := Fills.chunks (sz := sz) (ls := [vs]) (k := 0) (pre := []) (post := rep 1 z) (by simp) (by rw [rep_length, hzl]; rfl) (by simp [hv])
  simpa [chunkParts] using h
theorem OpP.shrI {x y : Operand} {t u : TypeId} {k k' : IntKind} {a n : Int} (hx : ev env x = some (.int k a)) (hy : ev env y = some (.int k' n)) (h0 : 0 ≤ n) (h1 : n ≤ k.bits) : OpP P ⟨dst, .binOp .shr t x y u, ty, pos, after, g⟩ env (.int k (a / 2 ^ n.toNat)) :=
  OpP.shift hx hy rfl fun w => by
    have e : Min.min n.toNat k.bits = n.toNat := Nat.min_eq_left (by omega)
    have e2 : Int.fdiv a (2 ^ n.toNat) = a / 2 ^ n.toNat := Int.fdiv_eq_ediv_of_nonneg _ (Int.le_of_lt (Int.pow_pos (by decide)))
    simp only [Op.shift, if_neg (show ¬ n < 0 from Int.not_lt.2 h0), e, e2]; rfl
theorem OpP.orU8 {x y : Operand} {t u : TypeId} {a : UInt8} {b : Int} (hx : ev env x = some (u8c a)) (hy : ev env y = some (.int .u8 b)) (h0 : 0 ≤ b) (h1 : b < 256) : OpP P ⟨dst, .binOp .or t x y u, ty, pos, after, g⟩ env (u8c (a ||| UInt8.ofNat b.toNat)) :=
  OpP.bits hx hy rfl fun w => by
    have e1 : BitVec.ofInt IntKind.u8.bits (a.toNat : Int) = a.toBitVec := by
      show BitVec.ofInt 8 (a.toNat : Int) = _
      rw [BitVec.ofInt_natCast]
      exact BitVec.ofNat_toNat ..
    have e2 : BitVec.ofInt IntKind.u8.bits b = (UInt8.ofNat b.toNat).toBitVec := by
      show BitVec.ofInt 8 b = _
      obtain ⟨n, rfl⟩ := Int.eq_ofNat_of_zero_le h0
      rw [BitVec.ofInt_natCast]
      rfl
    simp only [Op.intBits, e1, e2]
    generalize hc : a ||| UInt8.ofNat b.toNat = c
    have e6 := c.toNat_lt
    have e5 : IntKind.u8.wrap (c.toNat : Int) = (c.toNat : Int) := wrap_id (k := .u8) (by simp [IntKind.min, IntKind.signed]) (by simp [IntKind.max, IntKind.signed, IntKind.bits]; omega)
    have key : ∀ d : BitVec IntKind.u8.bits, d.toNat = c.toNat → (Pure.pure (Value.int .u8 (IntKind.u8.wrap (d.toNat : Int))) : Sem Value).run P w = .ok (u8c c) w := fun d hd => by rw [hd, e5]; rfl
    exact key _ (by rw [← hc]; rfl)
end
end Go.Gp
namespace Go.Gp
open Go
section
variable {P : Program} {env : Env} {dst : Option Tmp} {ty : TypeId} {pos : String} {after : Array Edge} {g : Option (Nat × Bool)}
theorem OpP.shrN {x y : Operand} {t u : TypeId} {k k' : IntKind} {a : Nat} {n : Int} (hx : ev env x = some (.int k (a : Int))) (hy : ev env y = some (.int k' n)) (h0 : 0 ≤ n) (h1 : n ≤ k.bits) : OpP P ⟨dst, .binOp .shr t x y u, ty, pos, after, g⟩ env (.int k ((a / 2 ^ n.toNat : Nat) : Int)) :=
  (OpP.shrI hx hy h0 h1).as (by
    have h : (2 : Int) ^ n.toNat = ((2 ^ n.toNat : Nat) : Int) := by rw [Int.natCast_pow]; rfl
    rw [h, Int.natCast_ediv])
end
end Go.Gp
namespace Go.Gp
open Go Go.RowKit
section
variable {C : Cx} {ops : List Oper} {rd : List Nat} {cl : List HProp} {fuel : Nat} {listed : List Bool} {k : List Item} {env : Env} {l : List HProp} {R : Value → List HProp → Prop}
variable {op : Op} {ty : TypeId} {pos : String} {after : Array Edge} {g : Option (Nat × Bool)}
theorem DL1.stepK0 {i : Nat} (ho : ops[i]? = some ⟨none, op, ty, pos, after, g⟩) (hg : Gd ops env g = some true)
    (hop : OpW C.P C.w0 ⟨none, op, ty, pos, after, g⟩ env l R) (hk : ∀ v l', R v l' → ∀ w, Own C.w0 w l' → Own C.w0 w cl) (h : ∀ v l', R v l' → DL C ops rd cl fuel (listed.set i true) k env l') : DL1 C ops rd cl fuel listed i k env l := by
  refine ⟨fun hf a w he how => ?_⟩
  have hi : ops.toArray[i]? = some ⟨none, op, ty, pos, after, g⟩ := by simpa using ho
  unfold wpOp
  simp only [hi]
  rw [Gd.wanted (o := ⟨none, op, ty, pos, after, g⟩) he hg, if_pos rfl]
  exact .inl (hop.run a (he.rds _) w how _ _ fun v w' l' hR ho' => ⟨.inr fun _ => hk v l' hR w' ho', (h v l' hR).go hf _ w' (he.put (d := none) rfl v) ho'⟩)
end
end Go.Gp
namespace Go.Gp
open Go Go.RowKit
section
variable {P : Program} {w0 : World} {env : Env} {l l' : List HProp} {dst : Option Tmp} {ty : TypeId} {pos : String} {after : Array Edge} {g : Option (Nat × Bool)}
/-- copy into a row: all of what is copied. -/
theorem OpM.copyAll {x y : Operand} {tys : Array TypeId} {t u e sz by_ b o len cap : Nat} {xv : Value} {m : Nat} {cs cs' news : List Value} [hs : Sl P t e sz by_] (htys : tys = #[t, u]) (hx : ev env x = some (.slice (some ⟨b, o, none⟩) len cap)) (hy : ev env y = some xv)
    (hsrc : Src P w0 l sz xv m news) (hm : m ≤ len) (hlit : ∃ a c, xv = .slice a m c) (h1 : ∀ c ∈ news, c.oneCell' = true)
    (hspl : Spl cs o news cs') (hu : Upd (row b e cs) (row b e cs') l l') :
    OpM P w0 ⟨dst, .call ⟨.builtin .copy, #[x, y], tys⟩, ty, pos, after, g⟩ env l (fun r l'' => r = .int .i64 (m : Nat) ∧ l'' = l') := by
  obtain ⟨a, c, rfl⟩ := hlit
  have h := OpM.copy (P := P) (w0 := w0) (dst := dst) (ty := ty) (pos := pos) (after := after) (g := g) htys hx hy (m := m) (cs := cs) (cs' := cs') (news := news) (fun w => by simp [Builtin.lenOf]) (fun w hw => by
    rw [show Nat.min m len = m from Nat.min_eq_left hm]; exact hsrc.first w hw) h1 hspl hu
  rwa [show Nat.min m len = m from Nat.min_eq_left hm] at h
end
theorem bcells_set (L : List UInt8) (j : Nat) (b : UInt8) : (bcells L).set j (u8c b) = bcells (L.set j b) := by simp [bcells]
theorem bcells_rep (n : Nat) (b : UInt8) : bcells (List.replicate n b) = List.replicate n (u8c b) := by simp [bcells]
end Go.Gp

/-! Arrays and structures that are compared. -/
namespace Go.Gp
open Go Go.RowKit

/-- The type, as one that is compared cell by cell. -/
class KeyT (P : Program) (t : TypeId) (m : outParam Nat) : Prop where
  h : P.keyTypeAt m t = true
  hm : m ≤ 10000
  hg : P.eqGuardType P.depth t = false
  wide : (match P.underlying t with | some (.array _ _) | some (.struct _) => true | _ => false) = true

theorem formed_of_lits {P : Program} {t : TypeId} {D : Nat} {cs : List Value} {la : List Lit} (hw : (match P.underlying t with | some (.array _ _) | some (.struct _) => true | _ => false) = true) (h : P.keyLits D t cs = some la) : (Value.agg cs.toArray).formed P t = true := by
  cases D with
  | zero => simp [Program.keyLits] at h
  | succ D =>
    unfold Program.keyLits at h
    unfold Value.formed
    cases hu : P.underlying t with
    | none => simp [hu] at h
    | some d =>
      cases d <;> simp [hu] at hw h ⊢
      case array n e =>
        exact h.1
      case struct fs => exact h.1.1

section
variable {P : Program} {env : Env} {dst : Option Tmp} {ty : TypeId} {pos : String} {after : Array Edge} {g : Option (Nat × Bool)}
theorem OpP.eqGenA {op : BinOp} {x y : Operand} {t u : TypeId} {m : Nat} [hk : KeyT P t m] {xs ys : Array Value} {v : Value} (hx : ev env x = some (.agg xs)) (hy : ev env y = some (.agg ys))
    (hrun : ∀ w, (binOp op t (.agg xs) (.agg ys)).run P w = .ok v w) : OpP P ⟨dst, .binOp op t x y u, ty, pos, after, g⟩ env v := by
  refine ⟨?_⟩
  intro ρ hr w
  have hx' := hr x (by simp [Op.operands]) _ hx
  have hy' := hr y (by simp [Op.operands]) _ hy
  simp only [execOp, hx', hy', Sem.run_bind, run_eqGuard_agg w op t x y xs ys hk.hg, Result.andThen_ok, hrun, Sem.run_pure]
theorem run_eq_lits {t : TypeId} {m D D' : Nat} (hk : KeyT P t m) {cs ds : List Value} {la lb : List Lit} {p : Prop} [Decidable p] (ha : P.keyLits D t cs = some la) (hb : P.keyLits D' t ds = some lb) (hp : la = lb ↔ p) (w : World) :
    (Op.equalIn 10000 t (.agg cs.toArray) (.agg ds.toArray)).run P w = .ok (decide p) w := by
  have := hk.hm
  obtain ⟨r, hr, hiff⟩ := run_equalIn_deep (10000 - m) m t hk.h w D D' (.agg cs.toArray) (.agg ds.toArray) la lb (formed_of_lits hk.wide ha) (formed_of_lits hk.wide hb) (by simpa [Value.cells] using ha) (by simpa [Value.cells] using hb)
  rw [show 10000 - m + m = 10000 by omega] at hr
  rw [hr]
  congr 1
  cases r with
  | true => exact (decide_eq_true (hp.1 (hiff.1 rfl))).symm
  | false => exact (decide_eq_false fun e => by cases hiff.2 (hp.2 e)).symm
theorem OpP.eqLits {x y : Operand} {t u : TypeId} {m D D' : Nat} [hk : KeyT P t m] {cs ds : List Value} {la lb : List Lit} {p : Prop} [Decidable p] (hx : ev env x = some (.agg cs.toArray)) (hy : ev env y = some (.agg ds.toArray)) (ha : P.keyLits D t cs = some la) (hb : P.keyLits D' t ds = some lb) (hp : la = lb ↔ p) :
    OpP P ⟨dst, .binOp .eql t x y u, ty, pos, after, g⟩ env (.bool (decide p)) :=
  OpP.eqGenA hx hy fun w => by rw [run_eql_struct, run_eq_lits hk ha hb hp]; rfl
end

/-! Bytes in an array. -/
def blits (a : List UInt8) : List Lit := a.map fun b => .int .u8 (b.toNat : Int)
theorem blits_inj {a b : List UInt8} : blits a = blits b ↔ a = b := by
  constructor
  · intro h
    induction a generalizing b with
    | nil => cases b with
      | nil => rfl
      | cons y b => simp [blits] at h
    | cons x a ih =>
      cases b with
      | nil => simp [blits] at h
      | cons y b =>
        simp only [blits, List.map_cons, List.cons.injEq, Lit.int.injEq, true_and] at h
        have h1 : x = y := UInt8.toNat_inj.1 (by omega)
        rw [h1, ih h.2]
  · rintro rfl; rfl
theorem u8_wf (b : UInt8) : (Lit.int .u8 (b.toNat : Int)).wf = true := by
  have := b.toNat_lt
  simp [Lit.wf, IntKind.min, IntKind.max, IntKind.signed, IntKind.bits]
  omega
theorem mapM_lits {α β : Type} {f : α → Option β} {h : α → β} : ∀ {l : List α}, (∀ a ∈ l, f a = some (h a)) → l.mapM f = some (l.map h)
  | [], _ => rfl
  | a :: l, hf => by
    rw [List.mapM_cons, hf a (by simp), mapM_lits (l := l) (h := h) fun b hb => hf b (by simp [hb])]; rfl
theorem blits_keys {P : Program} {t e : TypeId} {n : Nat} (ht : P.underlying t = some (.array n e)) (he : P.underlying e = some (.int .u8)) (hct : P.cellsOf t = n) (hce : P.cellsOf e = 1) (D : Nat) {a : List UInt8} (ha : a.length = n) : P.keyLits (D + 2) t (bcells a) = some (blits a) := by
  unfold Program.keyLits
  rw [ht]
  simp only
  rw [if_pos (by rw [bcells_length, hct, ha])]
  have hm : ((List.range n).mapM fun i => P.keyLits (D + 1) e (((bcells a).drop (i * P.cellsOf e)).take (P.cellsOf e))) = some ((List.range n).map fun i => [Lit.int .u8 ((a.getD i 0).toNat : Int)]) := by
    refine mapM_lits fun i hi => ?_
    have hi := List.mem_range.1 hi
    rw [hce, Nat.mul_one]
    have e1 : ((bcells a).drop i).take 1 = [u8c (a.getD i 0)] := by
      rw [List.drop_eq_getElem_cons (by rw [bcells_length]; omega)]
      simp [bcells, List.getD, List.getElem?_eq_getElem (show i < a.length by omega)]
    rw [e1]
    unfold Program.keyLits
    rw [he]
    simp only [u8c]
    simp [u8_wf]
  rw [hm, Option.map_some]
  congr 1
  subst ha
  apply List.ext_getElem?
  intro k
  have : (List.map (fun i => [Lit.int IntKind.u8 ((a.getD i 0).toNat : Int)]) (List.range a.length)).flatten = (List.range a.length).map fun i => Lit.int IntKind.u8 ((a.getD i 0).toNat : Int) := by
    generalize List.range a.length = l
    induction l with
    | nil => rfl
    | cons x l ih => rw [List.map_cons, List.flatten_cons, ih]; rfl
  rw [this]
  by_cases hk : k < a.length
  · simp [blits, hk, List.getD]
  · simp [blits, hk]
end Go.Gp
namespace Go.Gp
open Go Go.RowKit
class BytesA (P : Program) (t : TypeId) (n : outParam Nat) : Prop where
  h : ∃ e, P.underlying t = some (.array n e) ∧ P.underlying e = some (.int .u8) ∧ P.cellsOf t = n ∧ P.cellsOf e = 1
theorem BytesA.keys {P : Program} {t n : Nat} (h : BytesA P t n) (D : Nat) {a : List UInt8} (ha : a.length = n) : P.keyLits (D + 2) t (bcells a) = some (blits a) := by
  obtain ⟨e, h1, h2, h3, h4⟩ := h.h
  exact blits_keys h1 h2 h3 h4 D ha
section
variable {P : Program} {env : Env} {dst : Option Tmp} {ty : TypeId} {pos : String} {after : Array Edge} {g : Option (Nat × Bool)}
theorem OpP.eqBytes {x y : Operand} {t u : TypeId} {m n : Nat} [hk : KeyT P t m] [hb : BytesA P t n] {a b : List UInt8} (hx : ev env x = some (.agg (bcells a).toArray)) (hy : ev env y = some (.agg (bcells b).toArray)) (h1 : a.length = n) (h2 : b.length = n) :
    OpP P ⟨dst, .binOp .eql t x y u, ty, pos, after, g⟩ env (.bool (decide (a = b))) :=
  OpP.eqLits hx hy (hb.keys 0 h1) (hb.keys 0 h2) blits_inj
end
/-- A slice of slices of bytes, that may be read. -/
structure Parts (w0 : World) (F : List HProp) (v : Value) (ps : List (Value × List UInt8)) : Prop where
  rd : RdO w0 F v ps.length (ps.map (·.1))
  each : ∀ p ∈ ps, (∃ a c, p.1 = .slice a p.2.length c) ∧ RdO w0 F p.1 p.2.length (bcells p.2)
abbrev cat (ps : List (Value × List UInt8)) : List UInt8 := ps.flatMap (·.2)
theorem Parts.conv {w0 : World} {F F' : List HProp} {v : Value} {ps : List (Value × List UInt8)} (hl : ∀ w, Own w0 w F' → Own w0 w F) (h : Parts w0 F v ps) : Parts w0 F' v ps := ⟨h.rd.conv hl, fun p hp => ⟨(h.each p hp).1, (h.each p hp).2.conv hl⟩⟩
theorem Parts.at {w0 : World} {F : List HProp} {v : Value} {ps : List (Value × List UInt8)} {i : Nat} (h : Parts w0 F v ps) (hi : i < ps.length) : ∃ a c l, ps[i]? = some (.slice a l.length c, l) ∧ (ps.map (·.1))[i]? = some (.slice a l.length c) ∧ RdO w0 F (.slice a l.length c) l.length (bcells l) := by
  obtain ⟨⟨a, c, he⟩, hr⟩ := h.each _ (List.getElem_mem hi)
  have e : ps[i] = (.slice a ps[i].2.length c, ps[i].2) := by rw [← he]
  exact ⟨a, c, ps[i].2, by rw [List.getElem?_eq_getElem hi, ← e], by rw [List.getElem?_map, List.getElem?_eq_getElem hi, Option.map_some, he], he ▸ hr⟩
theorem cat_take {ps : List (Value × List UInt8)} {i : Nat} {v : Value} {l : List UInt8} (h : ps[i]? = some (v, l)) : cat (ps.take (i + 1)) = cat (ps.take i) ++ l := by
  rw [List.take_add_one, h, cat, List.flatMap_append]
  simp
theorem cat_take_le (ps : List (Value × List UInt8)) (i : Nat) : (cat (ps.take i)).length ≤ (cat ps).length := by
  have h : cat ps = cat (ps.take i) ++ cat (ps.drop i) := by rw [cat, cat, cat, ← List.flatMap_append, List.take_append_drop]
  rw [h, List.length_append]
  exact Nat.le_add_right _ _
end Go.Gp
namespace Go.Gp
open Go Go.RowKit
theorem FnO.rdF {P : Program} {w0 : World} {f : FuncId} {args : List Value} {l F : List HProp} {R : Value → List HProp → Prop} {v : Value} {n : Nat} {cs : List Value} (hl : ∀ w, Own w0 w l → Own w0 w F) (hr : RdO w0 F v n cs) (h : Rd w0 F v n cs → FnO P w0 f args l R) : FnO P w0 f args l R :=
  ⟨fun w hw => (h (hr w (hl w hw))).calls w hw⟩
end Go.Gp
namespace Go.Gp
open Go Go.RowKit
section
variable {w0 : World} {F : List HProp} {b t c : Nat} {v1 v2 v3 : Value} {l1 l2 l3 : List UInt8}
theorem RdO.nil0 {a : Option Addr} : RdO w0 F (.slice a 0 c) 0 [] := fun _ _ => .inl ⟨a, c, rfl, rfl, rfl⟩
theorem RdO.nilB {a : Option Addr} : RdO w0 F (.slice a 0 c) ([] : List UInt8).length (bcells []) := RdO.nil0
variable {a1 a2 a3 : Option Addr} {c1 c2 c3 : Nat}
theorem Parts.row3 (hm : Has (row b t [.slice a1 l1.length c1, .slice a2 l2.length c2, .slice a3 l3.length c3]) F) (h1 : RdO w0 F (.slice a1 l1.length c1) l1.length (bcells l1)) (h2 : RdO w0 F (.slice a2 l2.length c2) l2.length (bcells l2)) (h3 : RdO w0 F (.slice a3 l3.length c3) l3.length (bcells l3)) (hc : 3 ≤ c) :
    Parts w0 F (.slice (some ⟨b, 0, none⟩) 3 c) [(.slice a1 l1.length c1, l1), (.slice a2 l2.length c2, l2), (.slice a3 l3.length c3, l3)] :=
  ⟨RdO.ofRow hm hc, by intro p hp; simp at hp; rcases hp with rfl | rfl | rfl; exact ⟨⟨_, _, rfl⟩, h1⟩; exact ⟨⟨_, _, rfl⟩, h2⟩; exact ⟨⟨_, _, rfl⟩, h3⟩⟩
theorem Parts.len {v : Value} {ps : List (Value × List UInt8)} {w : World} (h : Parts w0 F v ps) (hw : Own w0 w F) : ∃ a c, v = .slice a ps.length c := (h.rd w hw).lit
end
end Go.Gp
namespace Go.Gp
open Go Go.RowKit
section
variable {P : Program} {w0 : World} {env : Env} {l l' : List HProp} {dst : Option Tmp} {ty : TypeId} {pos : String} {after : Array Edge} {g : Option (Nat × Bool)}
end
end Go.Gp
namespace Go.Gp
open Go Go.RowKit
/-- A slice of slices of bytes from outside. -/
theorem Fm.parts {P : Program} {w : World} {t : TypeId} {v : Value} {e u : TypeId} (ht : P.underlying t = some (.slice e)) (he : P.underlying e = some (.slice u)) (hu : P.underlying u = some (.int .u8)) (hce : P.cellsOf e = 1) (hcu : P.cellsOf u = 1) (h : Fm P w t [v]) :
    ∃ ps : List (Value × List UInt8), ps.length ≤ maxLen ∧ (∀ p ∈ ps, p.2.length ≤ maxLen) ∧ Parts w [] v ps := by
  obtain ⟨xs, h1, h2, h3⟩ := Fm.rows (f := fun p : Value × List UInt8 => [p.1]) (Q := fun p => p.2.length ≤ maxLen ∧ Rd w [] p.1 p.2.length (bcells p.2)) ht hce (by decide) h fun cs hl hf => by
    match cs, hl with
    | [c], _ =>
      obtain ⟨bs, hb, hr⟩ := Fm.bytes he hu hcu hf
      exact ⟨(c, bs), ⟨hb, hr⟩, rfl⟩
  have hr := h3 []
  rw [← List.map_eq_flatMap] at hr
  exact ⟨xs, h2, fun p hp => (h1 p hp).1.1, hr.o, fun p hp => ⟨(h1 p hp).1.2.lit, (h1 p hp).1.2.o⟩⟩
end Go.Gp
namespace Go.Gp
open Go Go.RowKit
section
variable {P : Program} {env : Env} {dst : Option Tmp} {ty : TypeId} {pos : String} {after : Array Edge} {g : Option (Nat × Bool)}
/-- A slice without elements, sliced. -/
theorem OpP.slice00 {x : Operand} {lo hi : Option Operand} {vlo vhi : Option Value} {t e sz by_ cap : Nat} {a : Addr} [hs : Sl P t e sz by_] (hx : ev env x = some (.slice (some a) 0 cap))
    (elo : lo.map (ev env) = vlo.map some) (ehi : hi.map (ev env) = vhi.map some) (hlo : vlo = none ∨ ∃ k, vlo = some (.int k 0)) (hhi : vhi = none ∨ ∃ k, vhi = some (.int k 0)) :
    OpP P ⟨dst, .slice t x lo hi none, ty, pos, after, g⟩ env (.slice (some a) 0 cap) := by
  refine ⟨?_⟩
  intro ρ hr w
  have hx' := hr x (by simp [Op.operands]) _ hx
  have e1 : lo.map ρ = vlo := by
    cases lo with
    | none => cases vlo <;> simp at elo ⊢
    | some a => cases vlo with
      | none => simp at elo
      | some u => simp at elo; simp [hr a (by simp [Op.operands]) u elo]
  have e2 : hi.map ρ = vhi := by
    cases hi with
    | none => cases vhi <;> simp at ehi ⊢
    | some a => cases vhi with
      | none => simp at ehi
      | some u => simp at ehi; simp [hr a (by simp [Op.operands]) u ehi]
  obtain ⟨i, hi1, hi2, _, _⟩ := hs.inf
  have hb := run_sliceBounds (P := P) (isS := true) w (len := 0) (cap := cap) (l := 0) (h := 0) (by rcases hlo with h | ⟨k, h⟩; exact .inl ⟨h, rfl⟩; exact .inr ⟨k, h⟩) (by rcases hhi with h | ⟨k, h⟩; exact .inl ⟨h, rfl⟩; exact .inr ⟨k, h⟩) (Nat.le_refl _) (Nat.zero_le _)
  simp only [execOp, hx', e1, e2, Option.map_none, Instr.sliceAt, Sem.run_bind, run_underlying hs.und, Result.andThen_ok, Instr.slice, hb, run_sizeOf_info w hi1, hi2, Sem.run_pure]
  congr 3
  split
  · rfl
  · obtain ⟨b, o, sp⟩ := a
    simp [Addr.add]
theorem OpP.slice0To {x hi : Operand} {k : IntKind} {t e sz by_ cap : Nat} {a : Addr} {v : Int} [hs : Sl P t e sz by_] (hx : ev env x = some (.slice (some a) 0 cap)) (ehi : ev env hi = some (.int k v)) (hv : v = 0) :
    OpP P ⟨dst, .slice t x none (some hi) none, ty, pos, after, g⟩ env (.slice (some a) 0 cap) := by
  subst hv
  exact OpP.slice00 (vlo := none) (vhi := some (.int k 0)) hx rfl (by simp [ehi]) (.inl rfl) (.inr ⟨_, rfl⟩)
theorem OpP.slice0From {x lo : Operand} {k : IntKind} {t e sz by_ cap : Nat} {a : Addr} {v : Int} [hs : Sl P t e sz by_] (hx : ev env x = some (.slice (some a) 0 cap)) (elo : ev env lo = some (.int k v)) (hv : v = 0) :
    OpP P ⟨dst, .slice t x (some lo) none none, ty, pos, after, g⟩ env (.slice (some a) 0 cap) := by
  subst hv
  exact OpP.slice00 (vlo := some (.int k 0)) (vhi := none) hx (by simp [elo]) rfl (.inr ⟨_, rfl⟩) (.inl rfl)
end
theorem Fm.shape {P : Program} {w : World} {t e : TypeId} {v : Value} (ht : P.underlying t = some (.slice e)) (h : Fm P w t [v]) : v = .slice none 0 0 ∨ ∃ a n c, v = .slice (some a) n c := by
  rcases h.slice ht with h0 | ⟨a, n, c, h0, _⟩
  · simp at h0; exact .inl h0
  · simp at h0; exact .inr ⟨a, n, c, h0⟩
/-- The shape of a slice from outside. -/
def ShapeOf (v : Value) (n : Nat) : Prop := v = .slice none 0 0 ∨ ∃ a c, v = .slice (some a) n c
end Go.Gp
namespace Go.Gp
open Go Go.RowKit
/-! Slices from outside, sliced: of whatever shape. -/
def SlTo (P : Program) (t : TypeId) (v : Value) (k : Nat) (v1 : Value) : Prop := ∀ (dst : Option Tmp) (ty : TypeId) (pos : String) (after : Array Edge) (g : Option (Nat × Bool)) (env : Env) (x hi : Operand) (kk : IntKind), ev env x = some v → ev env hi = some (.int kk (k : Int)) → OpP P ⟨dst, .slice t x none (some hi) none, ty, pos, after, g⟩ env v1
def SlFrom (P : Program) (t : TypeId) (v : Value) (k : Nat) (v1 : Value) : Prop := ∀ (dst : Option Tmp) (ty : TypeId) (pos : String) (after : Array Edge) (g : Option (Nat × Bool)) (env : Env) (x lo : Operand) (kk : IntKind), ev env x = some v → ev env lo = some (.int kk (k : Int)) → OpP P ⟨dst, .slice t x (some lo) none none, ty, pos, after, g⟩ env v1
section
variable {P : Program} {env : Env} {dst : Option Tmp} {ty : TypeId} {pos : String} {after : Array Edge} {g : Option (Nat × Bool)}
theorem SlTo.op {t : TypeId} {v v1 : Value} {k : Nat} {kk : IntKind} {x hi : Operand} (h : SlTo P t v k v1) (hx : ev env x = some v) (hh : ev env hi = some (.int kk (k : Int))) : OpP P ⟨dst, .slice t x none (some hi) none, ty, pos, after, g⟩ env v1 := h _ _ _ _ _ _ _ _ _ hx hh
theorem SlFrom.op {t : TypeId} {v v1 : Value} {k : Nat} {kk : IntKind} {x lo : Operand} (h : SlFrom P t v k v1) (hx : ev env x = some v) (hh : ev env lo = some (.int kk (k : Int))) : OpP P ⟨dst, .slice t x (some lo) none none, ty, pos, after, g⟩ env v1 := h _ _ _ _ _ _ _ _ _ hx hh
end
theorem ShapeOf.to {P : Program} {w0 : World} {t e sz by_ n k : Nat} {v : Value} {cs : List Value} [Sl P t e sz by_] (hs : ShapeOf v n) (hr : RdO w0 [] v n cs) (hk : k ≤ n) : ∃ a c, SlTo P t v k (.slice a k c) ∧ RdO w0 [] (.slice a k c) k (cs.take (k * sz)) := by
  have hr0 := hr w0 (Own.nil w0)
  rcases hs with rfl | ⟨a, c, rfl⟩
  · rcases hr0 with ⟨a, c, _, h2, h3⟩ | ⟨b, o, c, h1, _⟩
    · subst h2 h3
      have : k = 0 := by omega
      subst this
      exact ⟨none, 0, fun _ _ _ _ _ _ _ _ _ hx hh => OpP.sliceNilTo hx hh rfl, by rw [List.take_nil]; exact RdO.nil0⟩
    · cases h1
  · by_cases hn : n = 0
    · subst hn
      have : k = 0 := by omega
      subst this
      refine ⟨some a, c, fun _ _ _ _ _ _ _ _ _ hx hh => OpP.slice0To hx hh rfl, ?_⟩
      rw [Nat.zero_mul, List.take_zero]; exact RdO.nil0
    · obtain ⟨b, o, c', h1, h2, _⟩ := hr0.pos (by omega)
      cases h1
      exact ⟨_, _, fun _ _ _ _ _ _ _ _ _ hx hh => OpP.sliceTo k hx hh rfl (by omega), hr.to sz hk⟩
theorem ShapeOf.from {P : Program} {w0 : World} {t e sz by_ n k : Nat} {v : Value} {cs : List Value} [Sl P t e sz by_] (hs : ShapeOf v n) (hr : RdO w0 [] v n cs) (hl : cs.length = n * sz) (hk : k ≤ n) : ∃ a c, SlFrom P t v k (.slice a (n - k) c) ∧ RdO w0 [] (.slice a (n - k) c) (n - k) (cs.drop (k * sz)) := by
  have hr0 := hr w0 (Own.nil w0)
  rcases hs with rfl | ⟨a, c, rfl⟩
  · rcases hr0 with ⟨a, c, _, h2, h3⟩ | ⟨b, o, c, h1, _⟩
    · subst h2 h3
      have : k = 0 := by omega
      subst this
      exact ⟨none, 0, fun _ _ _ _ _ _ _ _ _ hx hh => OpP.sliceNilFrom hx hh rfl, by rw [List.drop_nil]; exact RdO.nil0⟩
    · cases h1
  · by_cases hn : n = 0
    · subst hn
      have : k = 0 := by omega
      subst this
      refine ⟨some a, c, fun _ _ _ _ _ _ _ _ _ hx hh => OpP.slice0From hx hh rfl, ?_⟩
      rw [show cs = [] from List.eq_nil_of_length_eq_zero (by omega), List.drop_nil]; exact RdO.nil0
    · obtain ⟨b, o, c', h1, h2, _⟩ := hr0.pos (by omega)
      cases h1
      exact ⟨_, _, fun _ _ _ _ _ _ _ _ _ hx hh => OpP.sliceFrom k hx hh rfl hk h2, hr.from sz hk hl⟩
end Go.Gp

/-! Heads: a fingerprint, and a number; proofs: a head, and a slice. -/
namespace Go.Gp
open Go Go.RowKit

def hdC (h : List UInt8) (n : Int) : List Value := bcells h ++ [.int .i64 n]
theorem hdC_len {h : List UInt8} {n : Int} (hl : h.length = 32) : (hdC h n).length = 33 := by simp [hdC, bcells_length, hl]
theorem hdC_one {h : List UInt8} {n : Int} : ∀ u ∈ hdC h n, u.oneCell' = true := by
  intro u hu
  rcases List.mem_append.1 hu with hu | hu
  · exact bcells_one _ u hu
  · simp at hu; subst hu; rfl
section
variable {w0 : World} {l : List HProp} {g t : Nat} {h : List UInt8} {n : Int} {post : List Value}
theorem Cells.hd0 (hm : Has (row g t (hdC h n)) l) (hl : h.length = 32) : Cells w0 l g 0 (bcells h) := by
  refine Cells.sub 32 hm ?_
  rw [List.drop_zero, hdC, List.take_left' (by rw [bcells_length, hl])]
theorem Cell.hd1 (hm : Has (Gp.row g t (hdC h n)) l) (hl : h.length = 32) : Cell w0 l ⟨g, 32, none⟩ (.int .i64 n) := by
  refine Cell.row hm ?_
  rw [hdC, List.getElem?_append_right (by rw [bcells_length]; omega), bcells_length, hl]; rfl
end
section
variable {P : Program} {env : Env} {dst : Option Tmp} {ty : TypeId} {pos : String} {after : Array Edge} {g : Option (Nat × Bool)}
theorem OpP.buildHead {t : TypeId} {parts : List (Nat × Operand)} {h : List UInt8} {n : Int} {z : List Value} [hp : Plc P t [(0, 32), (32, 1)]] [hz : Zr P t z] (hzl : z.length = 33) (he : evp env parts = some [(0, .agg (bcells h).toArray), (1, .int .i64 n)]) (hl : h.length = 32) :
    OpP P ⟨dst, .build t parts.toArray, ty, pos, after, g⟩ env (.agg (hdC h n).toArray) := by
  refine OpP.build he ?_
  have h1 := Spl.mk (cs := z) (vs := bcells h) (o := 0) (by rw [bcells_length, hl]; omega)
  rw [List.take_zero, List.nil_append, Nat.zero_add, bcells_length, hl] at h1
  refine .cons rfl rfl (by rw [bcells_length, hl]) h1 (.cons (vs := [.int .i64 n]) rfl rfl rfl (?_ : Spl _ _ _ (hdC h n)) .nil)
  exact spl_tail (by rw [bcells_length, hl]) (by rw [List.length_drop, hzl]; rfl)
/-- The type of heads, as one that is compared. -/
class HeadT (P : Program) (t : TypeId) : Prop where
  h : ∀ (h : List UInt8) (n : Int), h.length = 32 → (Lit.int .i64 n).wf = true → P.keyLits 4 t (hdC h n) = some (blits h ++ [.int .i64 n])
end
end Go.Gp
namespace Go.Gp
open Go Go.RowKit
end Go.Gp

/-! Bytes told as text, whatever they lie in. -/
namespace Go.Gp
open Go Go.RowKit
section
variable {P : Program} {w0 : World} {env : Env} {l : List HProp} {dst : Option Tmp} {ty : TypeId} {pos : String} {after : Array Edge} {g : Option (Nat × Bool)}
theorem OpR.rdStr {x : Operand} {s d e : TypeId} {sz by_ n : Nat} {bs : List UInt8} {v : Value} [hs : Sl P s e sz by_] [he : IntT P e .u8] [hd : StrT P d] (hx : ev env x = some v) (hr : RdO w0 l v n (bcells bs)) (hn : n = bs.length) :
    OpR P w0 ⟨dst, .convert s d x, ty, pos, after, g⟩ env l (.string (strB bs)) := by
  refine ⟨fun ρ hrr w ho => ?_⟩
  rcases hr w ho with ⟨a, c, rfl, h0, h1⟩ | ⟨b, o, c, rfl, _, hc⟩
  · have hb : bs = [] := by
      cases bs with
      | nil => rfl
      | cons b bs => simp [bcells] at h1
    subst hb
    cases a with
    | none => exact (OpR.nilToStr (dst := dst) (ty := ty) (pos := pos) (after := after) (g := g) hx).run ρ hrr w
    | some a =>
      have hx' := hrr x (by simp [Op.operands]) _ hx
      have hl1 := run_loadCells_list (P := P) w a [] (fun j v hv => by simp at hv)
      have := run_bytesToString (P := P) w a 0 c [] (by simpa using hl1)
      have e2 : ByteArray.empty = strB [] := rfl
      rw [List.foldl_nil, e2] at this
      simp only [execOp, hx', Sem.run_bind, run_convert_bytes_string w s d e _ _ _ hs.und he.h hd.h, this, Result.andThen_ok, Sem.run_pure]
  · exact (OpR.bytesToStr (dst := dst) (ty := ty) (pos := pos) (after := after) (g := g) hx hc hn).run ρ hrr w ho
end
/-! Parts of parts. -/
theorem Parts.mk' {w0 : World} {F : List HProp} {v : Value} {ps : List (Value × List UInt8)} {n : Nat} (hn : n = ps.length) (hr : RdO w0 F v n (ps.map (·.1))) (he : ∀ p ∈ ps, (∃ a c, p.1 = .slice a p.2.length c) ∧ RdO w0 F p.1 p.2.length (bcells p.2)) : Parts w0 F v ps := by subst hn; exact ⟨hr, he⟩
theorem Parts.to {P : Program} {w0 : World} {t e by_ k : Nat} {v : Value} {ps : List (Value × List UInt8)} [Sl P t e 1 by_] (hs : ShapeOf v ps.length) (hp : Parts w0 [] v ps) (hk : k ≤ ps.length) : ∃ a c, SlTo P t v k (.slice a (ps.take k).length c) ∧ Parts w0 [] (.slice a (ps.take k).length c) (ps.take k) := by
  obtain ⟨a, c, h1, h2⟩ := ShapeOf.to (P := P) (t := t) hs hp.rd hk
  have e1 : (ps.take k).length = k := by rw [List.length_take]; omega
  refine ⟨a, c, e1.symm ▸ h1, Parts.mk' rfl ?_ fun p hm => hp.each p (List.mem_of_mem_take hm)⟩
  rw [Nat.mul_one, ← List.map_take] at h2
  rw [e1]
  exact h2
theorem Parts.from {P : Program} {w0 : World} {t e by_ k : Nat} {v : Value} {ps : List (Value × List UInt8)} [Sl P t e 1 by_] (hs : ShapeOf v ps.length) (hp : Parts w0 [] v ps) (hk : k ≤ ps.length) : ∃ a c, SlFrom P t v k (.slice a (ps.drop k).length c) ∧ Parts w0 [] (.slice a (ps.drop k).length c) (ps.drop k) := by
  obtain ⟨a, c, h1, h2⟩ := ShapeOf.from (P := P) (t := t) hs hp.rd (by simp) hk
  have e1 : (ps.drop k).length = ps.length - k := List.length_drop
  refine ⟨a, c, e1.symm ▸ h1, Parts.mk' rfl ?_ fun p hm => hp.each p (List.mem_of_mem_drop hm)⟩
  rw [Nat.mul_one, ← List.map_drop] at h2
  rw [e1]
  exact h2
end Go.Gp

/-! bytealg.MakeNoZero; slices with a bound of their own; rows filled from the front. -/
namespace Go.Gp
open Go Go.RowKit

/-- A function of no body that makes bytes of whatever worth. -/
class MakeT (P : Program) (fid : FuncId) (t : outParam TypeId) (e : outParam TypeId) : Prop where
  h : ∃ fn ps, P.funcs[fid]? = some fn ∧ (fn.name == "runtime.NumGoroutine") = false ∧ fn.body.isNone = true ∧ Extern.findNext fn = none ∧ Extern.find fn = some (Extern.BytealgMakeNoZero.makeNoZero ps #[t]) ∧ P.underlying t = some (.slice e)
section
variable {P : Program} {w0 : World} {env : Env} {l : List HProp} {dst : Option Tmp} {ty : TypeId} {pos : String} {after : Array Edge} {g : Option (Nat × Bool)}
theorem OpM.makeNoZero {f x : Operand} {fid : FuncId} {t e n : Nat} {tys : Array TypeId} [hm : MakeT P fid t e] (hf : ev env f = some (.func (.func fid) #[] #[])) (hx : ev env x = some (.int .i64 (n : Nat))) (hn : n ≤ 1000000) :
    OpM P w0 ⟨dst, .call ⟨.value f, #[x], tys⟩, ty, pos, after, g⟩ env l (fun u l'' => ∃ b cs, u = .slice (some ⟨b, 0, none⟩) n cs.length ∧ n ≤ cs.length ∧ l'' = row b e cs :: l) := by
  refine ⟨fun ρ hr w ho => ?_⟩
  obtain ⟨fn, ps, h1, h2, h3, h4, h5, h6⟩ := hm.h
  have hf' : ρ f = _ := hr f (by simp [Op.operands, Call.operands]) _ hf
  have hx' : ρ x = _ := hr x (by simp [Op.operands, Call.operands]) _ hx
  obtain ⟨cs, hrun, hle, _⟩ := Lib.run_makeNoZero (P := P) w ps t e h6 n (by omega)
  have hcall : (callFunc fid #[.int .i64 (n : Nat)]).run P w = .ok (.value (.slice (some ⟨w.heap.size, 0, none⟩) n cs.size)) (w.drew.drew.alloc (.cells cs e)) := by
    rw [run_callFunc_extern h1 h2 h3 h4 h5, hrun]; rfl
  refine ⟨_, .slice (some ⟨w.heap.size, 0, none⟩) n cs.size, w.drew.drew.alloc (.cells cs e), _, ?_, .inl rfl, ⟨w.heap.size, cs.toList, by simp, by simpa using hle, rfl⟩, ?_⟩
  · simp only [execOp, resolve, hf', Deferred.ofValue, List.map_toArray]
    simp [invoke, hx', hcall]
  · refine Own.imp (A := blk w.heap.size (.cells cs e)) ?_ (Own.new ho ((((Below.refl _ _).drew).drew).alloc (Nat.le_refl _) _) (heap_alloc_new w.drew.drew _))
    intro h hb
    show h w.heap.size = some (.cells cs.toList.toArray e (0, 0))
    rw [Array.toArray_toList]; exact hb
end
end Go.Gp
namespace Go.Gp
open Go Go.RowKit
end Go.Gp
namespace Go.Gp
open Go Go.RowKit
end Go.Gp
namespace Go.Gp
open Go Go.RowKit
theorem OpP.shlC {env : Env} {dst : Option Tmp} {ty : TypeId} {pos : String} {after : Array Edge} {g : Option (Nat × Bool)} {P : Program} {x y : Operand} {t u : TypeId} {k k' : IntKind} {a n : Int} (r : Int) (hx : ev env x = some (.int k a)) (hy : ev env y = some (.int k' n)) (h0 : 0 ≤ n) (hr : k.wrap (a * 2 ^ (Min.min n.toNat k.bits)) = r) : OpP P ⟨dst, .binOp .shl t x y u, ty, pos, after, g⟩ env (.int k r) :=
  OpP.shift hx hy rfl fun w => by
    simp only [Op.shift, if_neg (show ¬ n < 0 from Int.not_lt.2 h0), hr]; rfl
end Go.Gp
namespace Go.Gp
open Go Go.RowKit
end Go.Gp
namespace Go.Gp
open Go Go.RowKit
section
variable {P : Program} {env : Env} {dst : Option Tmp} {ty : TypeId} {pos : String} {after : Array Edge} {g : Option (Nat × Bool)}
theorem OpP.shl8 {x y : Operand} {t u : TypeId} {n : Nat} (hx : ev env x = some (.int .u64 (n : Nat))) (hy : ev env y = some (.int .u64 8)) (h : n * 256 < 18446744073709551616) : OpP P ⟨dst, .binOp .shl t x y u, ty, pos, after, g⟩ env (.int .u64 ((n * 256 : Nat) : Int)) :=
  OpP.shift hx hy rfl fun w => by
    have e1 : IntKind.u64.wrap ((n : Int) * 2 ^ (Min.min (8 : Int).toNat IntKind.u64.bits)) = ((n * 256 : Nat) : Int) := by
      rw [show (2 : Int) ^ (Min.min (8 : Int).toNat IntKind.u64.bits) = 256 from by decide, show (n : Int) * 256 = ((n * 256 : Nat) : Int) by omega]
      exact wrap_id (k := .u64) (by simp [IntKind.min, IntKind.signed]; omega) (by simp [IntKind.max, IntKind.signed, IntKind.bits]; omega)
    simp only [Op.shift, if_neg (show ¬ (8 : Int) < 0 by decide), e1]; rfl
theorem mod64 {n : Nat} (h : n < 18446744073709551616) : n % 2 ^ 64 = n := Nat.mod_eq_of_lt h
theorem OpP.or8 {x y : Operand} {t u : TypeId} {n c : Nat} (hx : ev env x = some (.int .u64 ((n * 256 : Nat) : Int))) (hy : ev env y = some (.int .u64 (c : Nat))) (hc : c < 256) (h : n * 256 + c < 18446744073709551616) : OpP P ⟨dst, .binOp .or t x y u, ty, pos, after, g⟩ env (.int .u64 ((n * 256 + c : Nat) : Int)) :=
  OpP.bits hx hy rfl fun w => by
    have e : ∀ k : Nat, BitVec.ofInt IntKind.u64.bits (k : Int) = BitVec.ofNat 64 k := fun k => BitVec.ofInt_natCast ..
    have e4 : n * 256 ||| c = n * 256 + c := by
      have := Nat.shiftLeft_add_eq_or_of_lt (a := n) (b := c) (i := 8) (by omega)
      rw [Nat.shiftLeft_eq, show (2 : Nat) ^ 8 = 256 from rfl] at this
      exact this.symm
    have e5 : (BitVec.ofNat 64 (n * 256) ||| BitVec.ofNat 64 c).toNat = n * 256 + c := by
      rw [BitVec.toNat_or, BitVec.toNat_ofNat, BitVec.toNat_ofNat, mod64 (n := n * 256) (Nat.lt_of_le_of_lt (Nat.le_add_right _ _) h), mod64 (n := c) (Nat.lt_of_le_of_lt (Nat.le_add_left _ _) h), e4]
    have e6 : IntKind.u64.wrap ((n * 256 + c : Nat) : Int) = ((n * 256 + c : Nat) : Int) := wrap_id (k := .u64) (by simp [IntKind.min, IntKind.signed]; omega) (by simp [IntKind.max, IntKind.signed, IntKind.bits]; omega)
    simp only [Op.intBits, e]
    have key : ∀ d : BitVec IntKind.u64.bits, d.toNat = n * 256 + c → (Pure.pure (Value.int .u64 (IntKind.u64.wrap (d.toNat : Int))) : Sem Value).run P w = .ok (.int .u64 ((n * 256 + c : Nat) : Int)) w := fun d hd => by rw [hd, e6]; rfl
    exact key _ e5
end
end Go.Gp

/-! Two texts, one behind the other. -/
namespace Go.Gp
open Go Go.RowKit
section
variable {P : Program} {env : Env} {dst : Option Tmp} {ty : TypeId} {pos : String} {after : Array Edge} {g : Option (Nat × Bool)}
theorem strB_app (s t : List UInt8) : strB s ++ strB t = strB (s ++ t) := by
  apply ByteArray.ext
  simp [strB, ByteArray.data_append]
theorem OpP.cat {x y : Operand} {t u : TypeId} {a b : List UInt8} (hx : ev env x = some (.string (strB a))) (hy : ev env y = some (.string (strB b))) (h : a.length + b.length ≤ 9223372036854775807) : OpP P ⟨dst, .binOp .add t x y u, ty, pos, after, g⟩ env (.string (strB (a ++ b))) := by
  refine OpP.str hx hy (fun w => ?_) rfl
  have h1 : ¬ ((((strB a).size + (strB b).size : Nat) : Int) > IntKind.i64.max) := by
    rw [strB_size, strB_size]
    simp only [IntKind.max, IntKind.signed, IntKind.bits]
    omega
  simp only [Op.stringOp, h1, if_false, strB_app]
  rfl
end
end Go.Gp

namespace Go.Gp
open Go Go.RowKit

/-! A range over a function. -/

theorem Own.putObj {w0 w : World} {l : List HProp} {r : Nat} {o : Obj} (o' : Obj) (h : Own w0 w (blk r o :: l)) : Own w0 (w.putObj r o') (blk r o' :: l) := by
  obtain ⟨h1, h2⟩ := Own.blk_heap h (.head _)
  have hlt : r < w.heap.size := (Array.getElem?_eq_some_iff.1 h1).1
  exact h.write ⟨rfl, rfl, rfl, by simp, fun k hk => World.putObj_heap_other (by omega)⟩ (fun k hk => World.putObj_heap_other hk) (World.putObj_heap_same hlt)

theorem Own.putU {w0 w : World} {l l' : List HProp} {r : Nat} {o o' : Obj} (hu : Upd (blk r o) (blk r o') l l') (h : Own w0 w l) : Own w0 (w.putObj r o') l' := by
  obtain ⟨m, h1, h2⟩ := hu.perm
  exact ((h.perm h1).putObj o').perm h2

def recL (f : FuncId) (tm : Array Value) (ps : Array Tmp) (as bd : Code) (D : Nat) (st : LoopState) (pe : Option Code) : Loop :=
  { state := st, pending := pe, fn := f, tmps := tm, params := ps, assign := as, body := bd, defers := D }

/-- A call of yield: a round is run. -/
structure YieldO (P : Program) (w0 : World) (L : Nat) (args : List Value) (l : List HProp) (R : Value → List HProp → Prop) : Prop where
  go : ∀ w, Own w0 w l → ∃ fn tmps assign body, (Instr.yield L args.toArray).run P w = .ok (.round L fn tmps assign body) w ∧
    ∀ c cs, ∃ v w' l', R v l' ∧ Own w0 w' l' ∧ Steps P (lone (Frame.round L fn tmps assign body .normal) (c :: cs) w) (lone (c.finish v) cs w')

theorem YieldO.mono {P : Program} {w0 : World} {L : Nat} {args : List Value} {l : List HProp} {R R' : Value → List HProp → Prop} (h : YieldO P w0 L args l R) (hr : ∀ v l', R v l' → R' v l') : YieldO P w0 L args l R' := by
  refine ⟨fun w hw => ?_⟩
  obtain ⟨fn, tmps, assign, body, h1, h2⟩ := h.go w hw
  exact ⟨fn, tmps, assign, body, h1, fun c cs => let ⟨v, w', l', a, b, d⟩ := h2 c cs; ⟨v, w', l', hr _ _ a, b, d⟩⟩

theorem YieldO.weak {P : Program} {w0 : World} {L : Nat} {args : List Value} {l : List HProp} {R : Value → List HProp → Prop} (h : YieldO P w0 L args l fun v l' => ∃ l2, R v l2 ∧ ∀ w, Own w0 w l' → Own w0 w l2) : YieldO P w0 L args l R := by
  refine ⟨fun w hw => ?_⟩
  obtain ⟨fn, tmps, assign, body, h1, h2⟩ := h.go w hw
  exact ⟨fn, tmps, assign, body, h1, fun c cs => let ⟨v, w', l', ⟨l2, a, a2⟩, b, d⟩ := h2 c cs; ⟨v, w', l2, a, a2 _ b, d⟩⟩

theorem YieldO.conv {P : Program} {w0 : World} {L : Nat} {args : List Value} {l l' : List HProp} {R : Value → List HProp → Prop} (hl : ∀ w, Own w0 w l → Own w0 w l') (h : YieldO P w0 L args l' R) : YieldO P w0 L args l R :=
  ⟨fun w hw => h.go w (hl w hw)⟩

theorem YieldO.intro {P : Program} {w0 : World} {f : FuncId} {fn : Func} {n : Nat} {R : Value → List HProp → Prop} {L D : Nat} {t : Tmp} {v : Value} {tm : Array Value} {as bd : Code} {env : Env} {l : List HProp} {pe : Option Code}
    (hf : P.funcs[f]? = some fn) (he : EnvOk n [] ⟨tm, []⟩ env) (hd : Nat.blt t n = true)
    (h : J ⟨P, w0, f, fn, n, R, some L, []⟩ [.code as, .beginRound, .code bd] ((t, v) :: env) (blk L (.loop (recL f tm #[t] as bd D .ready pe)) :: l)) :
    YieldO P w0 L [v] (blk L (.loop (recL f tm #[t] as bd D .ready pe)) :: l) R := by
  refine ⟨fun w hw => ?_⟩
  have h1 := (Own.blk_heap hw (.head _)).1
  have h2 := run_yield (P := P) (args := #[v]) h1 rfl
  refine ⟨f, tm.setIfInBounds t v, as, bd, by simpa [recL] using h2, fun c cs => ?_⟩
  let b : Frame := { (default : Frame) with fn := f, kind := .normal, roundOf := some L }
  have hb0 : Frame.round L f (tm.setIfInBounds t v) as bd .normal = b.atR ⟨tm.setIfInBounds t v, []⟩ [.code as, .beginRound, .code bd] := by
    simp [Frame.round, Frame.atR, b]
  rw [hb0]
  have h3 := h.go hf ⟨tm.setIfInBounds t v, []⟩ w (he.put (d := some t) hd v) hw b (c :: cs) rfl rfl rfl
  exact h3 c cs rfl

theorem JL.yield {C : Cx} {ops rest : List Oper} {k : List Item} {env : Env} {l : List HProp} {R : Value → List HProp → Prop} {d : Tmp} {ty : TypeId} {pos : String} {after : Array Edge} {g : Option (Nat × Bool)} {f : Operand} {args : List Operand} {tys : Array TypeId} {L : Nat} {vs : List Value}
    (hg : Gd ops env g = some true) (hd : Nat.blt d C.n = true) (hf : ev env f = some (.func (.yield L) #[] #[])) (ha : evs env args = some vs) (h : YieldO C.P C.w0 L vs l R)
    (hk : ∀ v l', R v l' → JL C ops rest k ((d, v) :: env) l') : JL C ops (⟨some d, .call ⟨.value f, args.toArray, tys⟩, ty, pos, after, g⟩ :: rest) k env l := by
  refine ⟨?_⟩
  intro hfn a w he ho
  have hr := he.rds (Op.operands (.call ⟨.value f, args.toArray, tys⟩))
  have hf' : a.eval f = _ := hr f (by simp [Op.operands, Call.operands]) _ hf
  have ha' : args.map a.eval = vs := Rds.evs (fun x hx => hr x (by simp [Op.operands, Call.operands, hx])) ha
  obtain ⟨fn, tmps, assign, body, h1, h2⟩ := h.go w ho
  unfold wpListIn
  rw [Gd.wanted (o := ⟨some d, .call ⟨.value f, args.toArray, tys⟩, ty, pos, after, g⟩) he hg, if_pos rfl]
  refine ⟨fun _ _ => trivial, ?_⟩
  rw [Oper.semAt_eq _ _ _ (by intro c e; cases e)]
  have hrun : (execOp a.eval ⟨some d, .call ⟨.value f, args.toArray, tys⟩, ty, pos, after, g⟩).run C.P w = .ok (.round L fn tmps assign body) w := by
    simp only [execOp, resolve, hf', Deferred.ofValue, List.map_toArray, ha']
    simpa [invoke] using h1
  rw [hrun, Oper.uponIn_round]
  refine ⟨fun h => by simp [wideR, Fence.wide] at h, trivial, fun c cs _ => ?_⟩
  obtain ⟨v, w', l', hR, ho', hs⟩ := h2 c cs
  exact ⟨.returned v, w', (hk v l' hR).go hfn _ w' (he.put (d := some d) hd v) ho', stepsIn_wide.2 hs⟩

section
variable {P : Program} {w0 : World} {f : FuncId} {fn : Func} {n : Nat} {R : Value → List HProp → Prop} {k : List Item} {env : Env} {l l' : List HProp}

theorem J.beginRound {L D : Nat} {tm : Array Value} {ps : Array Tmp} {as bd : Code} {pe : Option Code} {ds : List Deferred}
    (hu : Upd (blk L (.loop (recL f tm ps as bd D .ready pe))) (blk L (.loop (recL f tm ps as bd D .busy pe))) l l')
    (h : J ⟨P, w0, f, fn, n, R, some L, ds⟩ k env l') : J ⟨P, w0, f, fn, n, R, some L, ds⟩ (.beginRound :: k) env l := by
  refine ⟨fun hf a w he ho b cs hb hk hro => ?_⟩
  have h1 := (Own.blk_heap ho hu.mem).1
  have h2 := run_beginRound (P := P) h1 rfl
  refine .of_steps (.one (stepR_beginRound hro h2)) (h.go hf a _ he ?_ b cs hb hk hro)
  exact ho.putU hu

end

end Go.Gp

/-! Nought elements more, behind an owned slice. -/
namespace Go.Gp
open Go Go.RowKit
section
variable {P : Program} (w : World) {t u ty e : TypeId} {i : TypeInfo} {z : Value} {zc : List Value} {m n cap : Nat} {base : Option Addr} {olds : List Value} {k : IntKind}
theorem zeroCells_toList {zc : List Value} (h : 0 < zc.length) (hz : z.cells = zc.toArray) (m : Nat) : (Builtin.zeroCells z.cells m).toList = rep m zc := by rw [hz, zeroCells_rep zc m h]
theorem run_appendZ_fit (ht : P.underlying t = some (.slice e)) (hu : P.underlying u = some (.int k)) (hi : P.info? e = some i) (hz : i.zero = some z) (hzc : z.cells = zc.toArray) (hzl : zc.length = i.size) (hpos : 0 < i.size)
    (hm : (m : Int) ≤ 9223372036854775807) (hb : m * i.bytes ≤ 140737488355328) (hroom : n + m ≤ cap) {w' : World} {a : Addr} (hst : (storeCells (a.add (n * i.size)) (rep m zc)).run P w = .ok () w') :
    (Builtin.append_ #[t, u] ty #[.slice (some a) n cap, .int .i64 (m : Nat)]).run P w = .ok (.slice (some a) (n + m) cap) w' := by
  have hw : IntKind.i64.wrap (m : Int) = m := by rw [IntKind.wrap_i64]; omega
  have hneg : ¬ ((m : Int) < 0) := by omega
  have hbb : ¬ (281474976710656 < (m : Int) * (i.bytes : Int)) := by
    have := Int.ofNat_le.2 hb
    rw [Int.natCast_mul] at this; omega
  by_cases h0 : m = 0
  · subst h0
    have : rep 0 zc = [] := rfl
    rw [this] at hst
    have hw : IntKind.i64.wrap 0 = 0 := by rw [IntKind.wrap_i64]; omega
    have hroom' : n ≤ cap := by omega
    simp [Builtin.append_, run_underlying ht, run_underlying hu, sizeOf, typeInfo, asInt, asIntOf, hi, hw, hroom', hst]
  · have hnz : ¬ (m * i.size = 0) := by rw [Nat.mul_eq_zero]; omega
    have hne : ¬ (m = 0 ∨ i.size = 0) := by omega
    have hzt := zeroCells_toList (z := z) (zc := zc) (by omega) hzc m
    simp [Builtin.append_, run_underlying ht, run_underlying hu, sizeOf, typeInfo, asInt, asIntOf, hi, hw, hneg, hbb, hroom, hnz, hne, zeroValue, hz, hzt, hst]
theorem run_appendZ_grows (ht : P.underlying t = some (.slice e)) (hu : P.underlying u = some (.int k)) (hi : P.info? e = some i) (hz : i.zero = some z) (hpos : 0 < i.size)
    (hm : (m : Int) ≤ 9223372036854775807) (hold : (Builtin.firstCells i.size n (.slice base n cap)).run P w.drew = .ok olds.toArray w.drew)
    (hg : cap < n + m) (hn : n ≤ cap) (h63 : n + m ≤ maxLen) (hb : (n + m) * i.bytes ≤ 140737488355328) :
    (Builtin.append_ #[t, u] ty #[.slice base n cap, .int .i64 (m : Nat)]).run P w = .ok (.slice (some ⟨w.heap.size, 0, none⟩) (n + m) (grownCap w (n + m) cap e))
      (w.drew.alloc (.cells (olds.toArray ++ Builtin.zeroCells z.cells m ++ Builtin.zeroCells z.cells (grownCap w (n + m) cap e - (n + m))) e)) := by
  have hw : IntKind.i64.wrap (m : Int) = m := by rw [IntKind.wrap_i64]; omega
  have hneg : ¬ ((m : Int) < 0) := by omega
  have hmb : m * i.bytes ≤ (n + m) * i.bytes := Nat.mul_le_mul_right _ (by omega)
  have hbb : ¬ (281474976710656 < (m : Int) * (i.bytes : Int)) := by
    have := Int.ofNat_le.2 (Nat.le_trans hmb hb)
    rw [Int.natCast_mul] at this; omega
  have h1 : ¬ (n + m ≤ cap) := by omega
  have h2 := growslice_fits hg hb
  have h3 : ¬ (281474976710656 < Builtin.nextslicecap (n + m) cap * i.bytes) := by omega
  have h4 : ¬ ((9223372036854775807 : Int) < (n : Int) + (m : Int)) := by simp only [maxLen] at h63; omega
  have hnz : ¬ (m * i.size = 0) := by rw [Nat.mul_eq_zero]; omega
  have hne : ¬ (m = 0 ∨ i.size = 0) := by omega
  simp [Builtin.append_, run_underlying ht, run_underlying hu, sizeOf, typeInfo, asInt, asIntOf, hi, hw, hneg, hbb, h1, h3, h4, hnz, hne, Question.forced, hold, zeroValue, hz, newRow, grownCap]
end
section
variable {P : Program} {w0 : World} {env : Env} {F : List HProp} {dst : Option Tmp} {ty : TypeId} {pos : String} {after : Array Edge} {g : Option (Nat × Bool)}
theorem OpM.appendZH {x y : Operand} {tys : Array TypeId} {t u e sz by_ n m : Nat} {v : Value} {xs z : List Value} [hs : Sl P t e sz by_] [hz : Zr P e z]
    (htys : tys = #[t, u]) (hu : ∃ k, P.underlying u = some (.int k)) (hzl : z.length = sz) (hsz : 0 < sz) (h1 : ∀ c ∈ z, c.oneCell' = true)
    (hx : ev env x = some v) (hy : ev env y = some (.int .i64 (m : Nat))) (h63 : n + m ≤ maxLen) (hb : (n + m) * by_ ≤ 140737488355328) :
    OpM P w0 ⟨dst, .call ⟨.builtin .append, #[x, y], tys⟩, ty, pos, after, g⟩ env (own e sz v n xs :: F) (fun r l'' => (∃ a c, r = .slice a (n + m) c) ∧ l'' = own e sz r (n + m) (xs ++ rep m z) :: F) := by
  subst htys
  refine ⟨?_⟩
  intro ρ hr w ho
  have hx' := hr x (by simp [Op.operands, Call.operands]) _ hx
  have hy' := hr y (by simp [Op.operands, Call.operands]) _ hy
  obtain ⟨inf, v0, hi, hzv, hzc⟩ := hz.out
  obtain ⟨inf', h2, h3, h4, h5⟩ := hs.inf
  rw [hi] at h2; cases h2
  obtain ⟨k, hu⟩ := hu
  have hm2 : (m : Int) ≤ 9223372036854775807 := by have : maxLen = 9223372036854775807 := rfl; omega
  have hmb : m * by_ ≤ 140737488355328 := Nat.le_trans (Nat.mul_le_mul_right _ (by omega)) hb
  have hxl := ho.own_len
  have hone : ∀ c ∈ rep m z, c.oneCell' = true := by
    intro c hc
    simp only [rep, List.mem_flatten, List.mem_replicate] at hc
    obtain ⟨y, ⟨_, rfl⟩, hc⟩ := hc
    exact h1 c hc
  have key : ∃ v' w', (Builtin.append_ #[t, u] ty #[v, .int .i64 (m : Nat)]).run P w = .ok v' w' ∧ Own w0 w' (own e sz v' (n + m) (xs ++ rep m z) :: F) := by
    have grow : ∀ (base : Option Addr) (cap : Nat), (Builtin.firstCells inf.size n (.slice base n cap)).run P w.drew = .ok xs.toArray w.drew → cap < n + m → n ≤ cap → v = .slice base n cap →
        ∃ v' w', (Builtin.append_ #[t, u] ty #[v, .int .i64 (m : Nat)]).run P w = .ok v' w' ∧ Own w0 w' (own e sz v' (n + m) (xs ++ rep m z) :: F) := by
      intro base cap hold hg hn hv
      have hr' := run_appendZ_grows (P := P) (ty := ty) (m := m) w hs.und hu hi hzv (by omega) hm2 hold hg hn h63 (by rw [h4]; exact hb)
      refine ⟨_, _, by rw [hv]; exact hr', ?_⟩
      have hge := grownCap_ge w (n + m) cap e
      have hle := grownCap_le_maxLen w (n + m) cap e h63
      have ho2 : Own w0 (w.drew.alloc (.cells (xs.toArray ++ Builtin.zeroCells v0.cells m ++ Builtin.zeroCells v0.cells (grownCap w (n + m) cap e - (n + m))) e))
          (blk w.heap.size (.cells (xs.toArray ++ Builtin.zeroCells v0.cells m ++ Builtin.zeroCells v0.cells (grownCap w (n + m) cap e - (n + m))) e) :: F) := by
        refine Own.new ho.tail ?_ (heap_alloc_new w.drew _)
        exact ((Below.refl _ _).drew).alloc (Nat.le_refl _) _
      refine Own.own_in (pre := []) (post := rep (grownCap w (n + m) cap e - (n + m)) z) hge hle ?_ ?_ ?_
      · rw [List.length_append, hxl, rep_length, hzl, Nat.add_mul]
      · rw [rep_length, hzl]; exact Nat.le_refl _
      · refine ho2.imp fun h hb' => ?_
        unfold row
        have e1 : (xs.toArray ++ Builtin.zeroCells v0.cells m ++ Builtin.zeroCells v0.cells (grownCap w (n + m) cap e - (n + m))) = ([] ++ (xs ++ rep m z) ++ rep (grownCap w (n + m) cap e - (n + m)) z).toArray := by
          apply Array.ext'
          rw [hzc]
          simp [zeroCells_rep z _ (by omega : 0 < z.length)]
        rw [← e1]
        exact hb'
    rcases ho.own_out with ⟨rfl, rfl, rfl⟩ | ⟨gb, pre, post, cap, rfl, hn, hcm, _, hpl, horow⟩
    · by_cases hm : m = 0
      · subst hm
        refine ⟨.slice none 0 0, w, ?_, ?_⟩
        · have hw : IntKind.i64.wrap 0 = 0 := by rw [IntKind.wrap_i64]; omega
          simp [Builtin.append_, run_underlying hs.und, run_underlying hu, sizeOf, typeInfo, asInt, asIntOf, hi, hw]
        · have := Own.own_nil (e := e) (sz := sz) ho.tail
          simpa [rep] using this
      · exact grow none 0 (by simp [Builtin.firstCells]) (by omega) (Nat.le_refl _) rfl
    · obtain ⟨hheap, _⟩ := horow.sat.blk_heap
      have hnl : (rep m z).length = m * sz := by rw [rep_length, hzl]
      by_cases hroom : n + m ≤ cap
      · have hfit : pre.length + n * sz + (rep m z).length ≤ (pre ++ xs ++ post).length := by
          have : (n + m) * sz ≤ cap * sz := Nat.mul_le_mul_right _ hroom
          have e1 : (cap - n) * sz = cap * sz - n * sz := Nat.sub_mul _ _ _
          have e2 : (n + m) * sz = n * sz + m * sz := Nat.add_mul _ _ _
          simp only [List.length_append, hxl]
          omega
        have hst := run_storeCells_at P gb (pre.length + n * sz) e (rep m z) 0 (pre ++ xs ++ post).toArray w hheap (by simpa using hfit) hone
        simp only [Nat.add_zero] at hst
        have e4 : ((pre ++ xs ++ post).toArray.toList.take (pre.length + n * sz) ++ rep m z ++ (pre ++ xs ++ post).toArray.toList.drop (pre.length + n * sz + (rep m z).length)) = pre ++ (xs ++ rep m z) ++ post.drop (rep m z).length := by
          have a1 : (pre ++ xs).length = pre.length + n * sz := by rw [List.length_append, hxl]
          simp only
          rw [← a1, List.take_left, List.drop_append]
          simp
        rw [e4] at hst
        refine ⟨_, _, run_appendZ_fit (ty := ty) w hs.und hu hi hzv hzc (by rw [h3]; exact hzl) (by omega) hm2 (by rw [h4]; exact hmb) hroom (by rw [h3, addr_add]; exact hst), ?_⟩
        refine Own.own_in hroom hcm (by rw [List.length_append, hxl, hnl, Nat.add_mul]) ?_ (Own.setRow (cs := pre ++ xs ++ post) .head horow)
        rw [List.length_drop, hnl]
        have e1 : (cap - n) * sz = cap * sz - n * sz := Nat.sub_mul _ _ _
        have e2 : (n + m) * sz = n * sz + m * sz := Nat.add_mul _ _ _
        have e3 : (cap - (n + m)) * sz = cap * sz - (n + m) * sz := Nat.sub_mul _ _ _
        omega
      · refine grow (some ⟨gb, pre.length, none⟩) cap ?_ (by omega) hn rfl
        refine run_firstCells_some w.drew inf.size n _ n cap xs (by rw [h3]; exact hxl) (fun j u hj => ?_)
        rw [addr_add]
        show w.cell? _ = _
        have hjl := (List.getElem?_eq_some_iff.1 hj).1
        rw [cell_of_row w gb _ _ e _ hheap]
        simp only [List.getElem?_toArray]
        rw [List.append_assoc, List.getElem?_append_right (by omega), Nat.add_sub_cancel_left, List.getElem?_append_left hjl]
        exact hj
  obtain ⟨v', w', hrun, hown⟩ := key
  refine ⟨.value v', v', w', _, ?_, .inl rfl, ⟨hown.own_lit, rfl⟩, hown⟩
  simp [execOp, resolve, hx', hy', invoke, builtin, hrun]
end
end Go.Gp
