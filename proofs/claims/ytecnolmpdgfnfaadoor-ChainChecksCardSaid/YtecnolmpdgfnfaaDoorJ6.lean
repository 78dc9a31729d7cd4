/- A text of the proof of a statement about the given program: owned slices, and append. No person has read it. -/
import Derived.Test.YtecnolmpdgfnfaaDoorJ5
namespace Go.Gp
open Go Go.RowKit

/-! Slices that the call owns. -/

def own (e sz : Nat) (v : Value) (n : Nat) (xs : List Value) : HProp := fun h =>
  (v = .slice none 0 0 ∧ n = 0 ∧ xs = []) ∨
  (∃ g pre post cap, v = .slice (some ⟨g, pre.length, none⟩) n cap ∧ n ≤ cap ∧ cap ≤ maxLen ∧ xs.length = n * sz ∧ (cap - n) * sz ≤ post.length ∧ row g e (pre ++ xs ++ post) h)

theorem Own.own_out {w0 w : World} {l : List HProp} {e sz n : Nat} {v : Value} {xs : List Value} (h : Own w0 w (own e sz v n xs :: l)) :
    (v = .slice none 0 0 ∧ n = 0 ∧ xs = []) ∨
    (∃ g pre post cap, v = .slice (some ⟨g, pre.length, none⟩) n cap ∧ n ≤ cap ∧ cap ≤ maxLen ∧ xs.length = n * sz ∧ (cap - n) * sz ≤ post.length ∧ Own w0 w (row g e (pre ++ xs ++ post) :: l)) := by
  obtain ⟨hb, h1, hA, hh, hl⟩ := h
  rcases hA with hA | ⟨g, pre, post, cap, a1, a2, a3, a4, a5, a6⟩
  · exact .inl hA
  · exact .inr ⟨g, pre, post, cap, a1, a2, a3, a4, a5, hb, h1, a6, hh, hl⟩

theorem Own.own_nil {w0 w : World} {l : List HProp} {e sz : Nat} (h : Own w0 w l) : Own w0 w (own e sz (.slice none 0 0) 0 [] :: l) :=
  h.emp_in.imp (fun _ _ => .inl ⟨rfl, rfl, rfl⟩)

theorem Own.own_in {w0 w : World} {l : List HProp} {e sz n g cap : Nat} {pre xs post : List Value} (h1 : n ≤ cap) (h2 : cap ≤ maxLen) (h3 : xs.length = n * sz) (h4 : (cap - n) * sz ≤ post.length)
    (h : Own w0 w (row g e (pre ++ xs ++ post) :: l)) : Own w0 w (own e sz (.slice (some ⟨g, pre.length, none⟩) n cap) n xs :: l) :=
  h.imp (fun _ hr => .inr ⟨g, pre, post, cap, rfl, h1, h2, h3, h4, hr⟩)

/-- A row made whole is an owned slice. -/
theorem Own.own_whole {w0 w : World} {l : List HProp} {e sz n g : Nat} {xs : List Value} (h2 : n ≤ maxLen) (h3 : xs.length = n * sz) (h : Own w0 w (row g e xs :: l)) : Own w0 w (own e sz (.slice (some ⟨g, 0, none⟩) n n) n xs :: l) :=
  Own.own_in (pre := []) (post := []) (Nat.le_refl _) h2 h3 (by simp) (by simpa using h)

theorem Own.own_len {w0 w : World} {l : List HProp} {e sz n : Nat} {v : Value} {xs : List Value} (h : Own w0 w (own e sz v n xs :: l)) : xs.length = n * sz := by
  rcases h.own_out with ⟨_, rfl, rfl⟩ | ⟨_, _, _, _, _, _, _, h3, _⟩
  · simp
  · exact h3

theorem Own.own_lit {w0 w : World} {l : List HProp} {e sz n : Nat} {v : Value} {xs : List Value} (h : Own w0 w (own e sz v n xs :: l)) : ∃ a cap, v = .slice a n cap := by
  rcases h.own_out with ⟨rfl, rfl, rfl⟩ | ⟨_, _, _, _, rfl, _⟩
  · exact ⟨_, _, rfl⟩
  · exact ⟨_, _, rfl⟩

/-- What is appended. -/
structure Src (P : Program) (w0 : World) (l : List HProp) (sz : Nat) (x : Value) (m : Nat) (news : List Value) : Prop where
  len : news.length = m * sz
  lenOf : ∀ w, Own w0 w l → (Builtin.lenOf x).run P w = .ok m w
  first : ∀ w, Own w0 w l → (Builtin.firstCells sz m x).run P w = .ok news.toArray w

theorem Src.slice {P : Program} {w0 : World} {l : List HProp} {sz b o m c : Nat} {news : List Value} (h : Cells w0 l b o news) (hl : news.length = m * sz) : Src P w0 l sz (.slice (some ⟨b, o, none⟩) m c) m news :=
  ⟨hl, fun w _ => by simp [Builtin.lenOf], fun w ho => run_firstCells_some w sz m ⟨b, o, none⟩ m c news hl (fun j v hv => by rw [addr_add]; exact h w ho j v hv)⟩

theorem Src.nil {P : Program} {w0 : World} {l : List HProp} {sz : Nat} {a : Option Addr} {c : Nat} : Src P w0 l sz (.slice a 0 c) 0 [] :=
  ⟨by simp, fun w _ => by simp [Builtin.lenOf], fun w _ => by cases a <;> simp [Builtin.firstCells, loadCells, loadCellsFrom]⟩

def u8c (b : UInt8) : Value := .int .u8 b.toNat
def bcells (s : List UInt8) : List Value := s.map u8c

theorem Src.str {P : Program} {w0 : World} {l : List HProp} {s : ByteArray} : Src P w0 l 1 (.string s) s.size (bcells s.data.toList) :=
  ⟨by rw [bcells, List.length_map, Nat.mul_one]; rfl, fun w _ => by simp [Builtin.lenOf], fun w _ => by
    have : s.extract 0 s.size = s := by simp
    simp only [Builtin.firstCells, this, Sem.run_pure]
    congr 1
    apply Array.ext'
    simp only [Array.toList_map, bcells]
    rfl⟩

section
variable {P : Program} (w : World) {t u ty e : TypeId} {i : TypeInfo} {z x : Value} {m n cap : Nat} {base : Option Addr} {news olds : List Value} {d : TypeDesc}

theorem run_append_fit (ht : P.underlying t = some (.slice e)) (hu : (∃ e2, P.underlying u = some (.slice e2)) ∨ P.underlying u = some .string) (hi : P.info? e = some i)
    (hlen : (Builtin.lenOf x).run P w = .ok m w) (hnew : (Builtin.firstCells i.size m x).run P w = .ok news.toArray w) (hroom : n + m ≤ cap) {w' : World} {a : Addr}
    (hst : (storeCells (a.add (n * i.size)) news).run P w = .ok () w') :
    (Builtin.append_ #[t, u] ty #[.slice (some a) n cap, x]).run P w = .ok (.slice (some a) (n + m) cap) w' := by
  rcases hu with ⟨e2, hu⟩ | hu
  · simp [Builtin.append_, run_underlying ht, run_underlying hu, run_sizeOf_info w hi, hlen, hnew, hroom, hst]
  · simp [Builtin.append_, run_underlying ht, run_underlying hu, run_sizeOf_info w hi, hlen, hnew, hroom, hst]

theorem run_append_none (ht : P.underlying t = some (.slice e)) (hu : (∃ e2, P.underlying u = some (.slice e2)) ∨ P.underlying u = some .string) (hi : P.info? e = some i)
    (hlen : (Builtin.lenOf x).run P w = .ok 0 w) (hnew : (Builtin.firstCells i.size 0 x).run P w = .ok news.toArray w) :
    (Builtin.append_ #[t, u] ty #[.slice none 0 0, x]).run P w = .ok (.slice none 0 0) w := by
  rcases hu with ⟨e2, hu⟩ | hu
  · simp [Builtin.append_, run_underlying ht, run_underlying hu, run_sizeOf_info w hi, hlen, hnew]
  · simp [Builtin.append_, run_underlying ht, run_underlying hu, run_sizeOf_info w hi, hlen, hnew]

theorem run_append_grows (ht : P.underlying t = some (.slice e)) (hu : (∃ e2, P.underlying u = some (.slice e2)) ∨ P.underlying u = some .string) (hi : P.info? e = some i) (hz : i.zero = some z)
    (hlen : (Builtin.lenOf x).run P w = .ok m w) (hnew : (Builtin.firstCells i.size m x).run P w.drew = .ok news.toArray w.drew) (hold : (Builtin.firstCells i.size n (.slice base n cap)).run P w.drew = .ok olds.toArray w.drew)
    (hg : cap < n + m) (h63 : n + m ≤ maxLen) (hb : (n + m) * i.bytes ≤ 140737488355328) :
    (Builtin.append_ #[t, u] ty #[.slice base n cap, x]).run P w = .ok (.slice (some ⟨w.heap.size, 0, none⟩) (n + m) (grownCap w (n + m) cap e))
      (w.drew.alloc (.cells (olds.toArray ++ news.toArray ++ Builtin.zeroCells z.cells (grownCap w (n + m) cap e - (n + m))) e)) := by
  have h1 : ¬ (n + m ≤ cap) := by omega
  have h2 := growslice_fits hg hb
  have h3 : ¬ (281474976710656 < Builtin.nextslicecap (n + m) cap * i.bytes) := by omega
  have h4 : ¬ ((9223372036854775807 : Int) < (n : Int) + (m : Int)) := by simp only [maxLen] at h63; omega
  rcases hu with ⟨e2, hu⟩ | hu
  · simp [Builtin.append_, run_underlying ht, run_underlying hu, sizeOf, typeInfo, hi, hlen, h1, h3, h4, Question.forced, hold, hnew, zeroValue, hz, newRow, grownCap]
    rw [← List.append_toArray, Array.append_assoc]
  · simp [Builtin.append_, run_underlying ht, run_underlying hu, sizeOf, typeInfo, hi, hlen, h1, h3, h4, Question.forced, hold, hnew, zeroValue, hz, newRow, grownCap]
    rw [← List.append_toArray, Array.append_assoc]

end

section
variable {P : Program} {w0 : World} {env : Env} {l : List HProp} {dst : Option Tmp} {ty : TypeId} {pos : String} {after : Array Edge} {g : Option (Nat × Bool)}

theorem OpM.append {x y : Operand} {tys : Array TypeId} {t u e sz by_ n m : Nat} {v xv : Value} {xs news z : List Value} {L : Value → List HProp} [hs : Sl P t e sz by_] [hz : Zr P e z]
    (htys : tys = #[t, u]) (hu : (∃ e2, P.underlying u = some (.slice e2)) ∨ P.underlying u = some .string) (hzl : z.length = sz)
    (hx : ev env x = some v) (hy : ev env y = some xv) (hsrc : Src P w0 l sz xv m news) (h1 : ∀ c ∈ news, c.oneCell' = true) (h63 : n + m ≤ maxLen) (hb : (n + m) * by_ ≤ 140737488355328)
    (hu' : ∀ v', Upd (own e sz v n xs) (own e sz v' (n + m) (xs ++ news)) l (L v')) :
    OpM P w0 ⟨dst, .call ⟨.builtin .append, #[x, y], tys⟩, ty, pos, after, g⟩ env l (fun r l'' => (∃ a c, r = .slice a (n + m) c) ∧ l'' = L r) := by
  subst htys
  refine ⟨?_⟩
  intro ρ hr w ho
  have hx' := hr x (by simp [Op.operands, Call.operands]) _ hx
  have hy' := hr y (by simp [Op.operands, Call.operands]) _ hy
  obtain ⟨inf, v0, hi, hzv, hzc⟩ := hz.out
  obtain ⟨inf', h2, h3, h4, h5⟩ := hs.inf
  rw [hi] at h2; cases h2
  have hlen := hsrc.lenOf w ho
  have key : ∃ v' w', (Builtin.append_ #[t, u] ty #[v, xv]).run P w = .ok v' w' ∧ Own w0 w' (L v') ∧ ∃ a c, v' = .slice a (n + m) c := by
    obtain ⟨mm, hp1, _⟩ := (hu' v).perm
    have ho1 := ho.perm hp1
    have back : ∀ v' w', Own w0 w' (own e sz v' (n + m) (xs ++ news) :: mm) → Own w0 w' (L v') ∧ ∃ a c, v' = .slice a (n + m) c := by
      intro v' w' h
      refine ⟨?_, h.own_lit⟩
      obtain ⟨m2, q1, q2⟩ := (hu' v').perm
      have : (own e sz v n xs :: mm).Perm (own e sz v n xs :: m2) := hp1.symm.trans q1
      exact h.perm (((List.perm_cons _).1 this).cons _ |>.trans q2)
    have hxl := ho1.own_len
    have grow : ∀ (base : Option Addr) (cap : Nat), (Builtin.firstCells inf.size n (.slice base n cap)).run P w.drew = .ok xs.toArray w.drew → cap < n + m → v = .slice base n cap →
        ∃ v' w', (Builtin.append_ #[t, u] ty #[v, xv]).run P w = .ok v' w' ∧ Own w0 w' (L v') ∧ ∃ a c, v' = .slice a (n + m) c := by
      intro base cap hold hg hv
      have hod : Own w0 w.drew l := ho.same ((Below.refl _ _).drew)
      have hnew := hsrc.first w.drew hod
      have hr' := run_append_grows (P := P) (ty := ty) w hs.und hu hi hzv hlen (by rw [h3]; exact hnew) hold hg h63 (by rw [h4]; exact hb)
      refine ⟨_, _, by rw [hv]; exact hr', back _ _ ?_⟩
      have hge := grownCap_ge w (n + m) cap e
      have hle := grownCap_le_maxLen w (n + m) cap e h63
      have ho2 : Own w0 (w.drew.alloc (.cells (xs.toArray ++ news.toArray ++ Builtin.zeroCells v0.cells (grownCap w (n + m) cap e - (n + m))) e))
          (blk w.heap.size (.cells (xs.toArray ++ news.toArray ++ Builtin.zeroCells v0.cells (grownCap w (n + m) cap e - (n + m))) e) :: mm) := by
        refine Own.new ho1.tail ?_ (heap_alloc_new w.drew _)
        exact ((Below.refl _ _).drew).alloc (Nat.le_refl _) _
      refine Own.own_in (pre := []) (post := rep (grownCap w (n + m) cap e - (n + m)) z) hge hle ?_ ?_ ?_
      · rw [List.length_append, hxl, hsrc.len, Nat.add_mul]
      · rw [rep_length, hzl]; exact Nat.le_refl _
      · refine ho2.imp fun h hb' => ?_
        unfold row
        have e1 : (xs.toArray ++ news.toArray ++ Builtin.zeroCells v0.cells (grownCap w (n + m) cap e - (n + m))) = ([] ++ (xs ++ news) ++ rep (grownCap w (n + m) cap e - (n + m)) z).toArray := by
          apply Array.ext'
          rw [hzc]
          simp [zeroCells_rep z _ (by omega)]
        rw [← e1]
        exact hb'
    rcases ho1.own_out with ⟨rfl, rfl, rfl⟩ | ⟨gb, pre, post, cap, rfl, hn, hcm, _, hpl, horow⟩
    · by_cases hm : m = 0
      · subst hm
        have hnews : news = [] := List.eq_nil_of_length_eq_zero (by rw [hsrc.len]; simp)
        subst hnews
        refine ⟨_, w, run_append_none w hs.und hu hi hlen (by rw [h3]; exact hsrc.first w ho), back _ _ ?_⟩
        simpa using Own.own_nil (e := e) (sz := sz) ho1.tail
      · exact grow none 0 (by simp [Builtin.firstCells]) (by omega) rfl
    · obtain ⟨hheap, _⟩ := horow.sat.blk_heap
      by_cases hroom : n + m ≤ cap
      · have hfit : pre.length + n * sz + news.length ≤ (pre ++ xs ++ post).length := by
          have : (n + m) * sz ≤ cap * sz := Nat.mul_le_mul_right _ hroom
          have e1 : (cap - n) * sz = cap * sz - n * sz := Nat.sub_mul _ _ _
          have e2 : (n + m) * sz = n * sz + m * sz := Nat.add_mul _ _ _
          have e3 := hsrc.len
          simp only [List.length_append, hxl]
          omega
        have hst := run_storeCells_at P gb (pre.length + n * sz) e news 0 (pre ++ xs ++ post).toArray w hheap (by simpa using hfit) h1
        simp only [Nat.add_zero] at hst
        have e4 : ((pre ++ xs ++ post).toArray.toList.take (pre.length + n * sz) ++ news ++ (pre ++ xs ++ post).toArray.toList.drop (pre.length + n * sz + news.length)) = pre ++ (xs ++ news) ++ post.drop news.length := by
          have a1 : (pre ++ xs).length = pre.length + n * sz := by rw [List.length_append, hxl]
          simp only
          rw [← a1, List.take_left, List.drop_append]
          simp
        rw [e4] at hst
        refine ⟨_, _, run_append_fit w hs.und hu hi hlen (by rw [h3]; exact hsrc.first w ho) hroom (by rw [h3, addr_add]; exact hst), back _ _ ?_⟩
        refine Own.own_in hroom hcm (by rw [List.length_append, hxl, hsrc.len, Nat.add_mul]) ?_ (Own.setRow (cs := pre ++ xs ++ post) .head horow)
        rw [List.length_drop, hsrc.len]
        have e1 : (cap - n) * sz = cap * sz - n * sz := Nat.sub_mul _ _ _
        have e2 : (n + m) * sz = n * sz + m * sz := Nat.add_mul _ _ _
        have e3 : (cap - (n + m)) * sz = cap * sz - (n + m) * sz := Nat.sub_mul _ _ _
        omega
      · refine grow (some ⟨gb, pre.length, none⟩) cap ?_ (by omega) rfl
        refine run_firstCells_some w.drew inf.size n _ n cap xs (by rw [h3]; exact hxl) (fun j u hj => ?_)
        rw [addr_add]
        show w.cell? _ = _
        rw [cell_of_row w gb _ _ e _ hheap]
        have hj' : j < xs.length := (List.getElem?_eq_some_iff.1 hj).1
        simp only [List.getElem?_toArray]
        rw [List.append_assoc, List.getElem?_append_right (by omega), List.getElem?_append_left (by omega)]
        rw [show pre.length + j - pre.length = j from by omega]; exact hj
  obtain ⟨v', w', hrun, hown, hsh⟩ := key
  refine ⟨.value v', v', w', _, ?_, .inl rfl, ⟨hsh, rfl⟩, hown⟩
  simp [execOp, resolve, hx', hy', invoke, builtin, hrun]
end

end Go.Gp
