/- A text of the proof of a statement about the given program: rows of equal parts, bytes, copies. No person has read it. -/
import Derived.Test.YtecnolmpdgfnfaaDoorJ8
import Derived.WalkSpells
import Derived.Laws.IdiomStrings
namespace Go.Gp
open Go Go.RowKit

/-! Lists of equal parts. -/
section
variable {α : Type} {f : α → List Value} {n : Nat}

theorem chunk_length : ∀ {l : List α}, (∀ a ∈ l, (f a).length = n) → (l.flatMap f).length = l.length * n
  | [], _ => by simp
  | a :: l, h => by
    have ih := chunk_length (l := l) (fun b hb => h b (.tail _ hb))
    simp [List.flatMap_cons, ih, h a (.head _), Nat.add_mul]; omega

theorem chunk_drop : ∀ {l : List α} {i : Nat}, (∀ a ∈ l, (f a).length = n) → (l.flatMap f).drop (i * n) = (l.drop i).flatMap f
  | [], i, _ => by simp
  | a :: l, 0, _ => by simp
  | a :: l, i + 1, h => by
    have ih := chunk_drop (l := l) (i := i) (fun b hb => h b (.tail _ hb))
    simp only [List.flatMap_cons, List.drop_succ_cons]
    rw [show (i + 1) * n = (f a).length + i * n from by rw [h a (.head _), Nat.add_mul]; omega, ← List.drop_drop, List.drop_left, ih]

theorem chunk_take : ∀ {l : List α} {i : Nat}, (∀ a ∈ l, (f a).length = n) → (l.flatMap f).take (i * n) = (l.take i).flatMap f
  | [], i, _ => by simp
  | a :: l, 0, _ => by simp
  | a :: l, i + 1, h => by
    have ih := chunk_take (l := l) (i := i) (fun b hb => h b (.tail _ hb))
    simp only [List.flatMap_cons, List.take_succ_cons]
    rw [show (i + 1) * n = (f a).length + i * n from by rw [h a (.head _), Nat.add_mul]; omega, List.take_length_add_append, ih]

theorem chunk_at {l : List α} {i : Nat} {a : α} (h : ∀ a ∈ l, (f a).length = n) (hi : l[i]? = some a) : ((l.flatMap f).drop (i * n)).take n = f a := by
  rw [chunk_drop h]
  obtain ⟨hlt, rfl⟩ := List.getElem?_eq_some_iff.1 hi
  rw [List.drop_eq_getElem_cons hlt, List.flatMap_cons]
  have := h _ (List.getElem_mem hlt)
  rw [← this, List.take_left]

theorem chunk_spl {l : List α} {i : Nat} {a : α} (h : ∀ a ∈ l, (f a).length = n) (ha : (f a).length = n) (hi : i < l.length) : Spl (l.flatMap f) (i * n) (f a) ((l.set i a).flatMap f) := by
  have h1 : i * n + (f a).length ≤ (l.flatMap f).length := by
    rw [chunk_length h, ha]
    calc i * n + n = (i + 1) * n := by rw [Nat.add_mul]; omega
      _ ≤ l.length * n := Nat.mul_le_mul_right _ (by omega)
  have h2 := Spl.mk (vs := f a) h1
  have e : (l.flatMap f).take (i * n) ++ f a ++ (l.flatMap f).drop (i * n + (f a).length) = (l.set i a).flatMap f := by
    rw [chunk_take h, ha, show i * n + n = (i + 1) * n from by rw [Nat.add_mul]; omega, chunk_drop h]
    rw [List.set_eq_take_append_cons_drop, if_pos hi]
    simp
  rw [e] at h2
  exact h2
end

theorem Cells.chunk {w0 : World} {L : List HProp} {α : Type} {f : α → List Value} {n g t i : Nat} {l : List α} {a : α} (hm : Has (row g t (l.flatMap f)) L) (h : ∀ a ∈ l, (f a).length = n) (hi : l[i]? = some a) : Cells w0 L g (i * n) (f a) :=
  Cells.sub n hm (chunk_at h hi)

theorem Cells.mid {w0 : World} {L : List HProp} {g t : Nat} {pre xs post : List Value} (hm : Has (row g t (pre ++ xs ++ post)) L) : Cells w0 L g pre.length xs :=
  Cells.sub xs.length hm (by simp)

theorem bcells_length (s : List UInt8) : (bcells s).length = s.length := by simp [bcells]
theorem bcells_one (s : List UInt8) : ∀ u ∈ bcells s, u.oneCell' = true := by
  intro u hu
  simp [bcells] at hu
  obtain ⟨b, _, rfl⟩ := hu
  rfl
theorem bcells_append (a b : List UInt8) : bcells (a ++ b) = bcells a ++ bcells b := by simp [bcells]
theorem bcells_get (s : List UInt8) (j : Nat) : (bcells s)[j]? = (s[j]?).map u8c := by simp [bcells]
theorem bcells_take (s : List UInt8) (j : Nat) : (bcells s).take j = bcells (s.take j) := by simp [bcells]
theorem bcells_drop (s : List UInt8) (j : Nat) : (bcells s).drop j = bcells (s.drop j) := by simp [bcells]

def strB (s : List UInt8) : ByteArray := ⟨s.toArray⟩
theorem strB_inj {a b : List UInt8} : strB a = strB b ↔ a = b := by
  simp [strB]
theorem strB_size (s : List UInt8) : (strB s).size = s.length := by simp [strB, ByteArray.size]
theorem strB_data (s : List UInt8) : (strB s).data.toList = s := by simp [strB]
theorem strB_of (b : ByteArray) : strB b.data.toList = b := by cases b; simp [strB]

section
variable {P : Program} {w0 : World} {env : Env} {l l' : List HProp} {dst : Option Tmp} {ty : TypeId} {pos : String} {after : Array Edge} {g : Option (Nat × Bool)}

theorem OpP.eqSlNil {x y : Operand} {t u e sz by_ : Nat} {a : Option Addr} {n c n' c' : Nat} [ht : Sl P t e sz by_] (hx : ev env x = some (.slice a n c)) (hy : ev env y = some (.slice none n' c')) : OpP P ⟨dst, .binOp .eql t x y u, ty, pos, after, g⟩ env (.bool a.isNone) :=
  OpP.eqGen hx hy rfl fun w => by
    simp only [binOp]
    simp [Op.equal, Op.maxDepth, Lib.run_equalIn_slice_nil w 9999 t e a n c n' c' ht.und]
theorem OpP.neSlNil {x y : Operand} {t u e sz by_ : Nat} {a : Option Addr} {n c n' c' : Nat} [ht : Sl P t e sz by_] (hx : ev env x = some (.slice a n c)) (hy : ev env y = some (.slice none n' c')) : OpP P ⟨dst, .binOp .neq t x y u, ty, pos, after, g⟩ env (.bool (!a.isNone)) :=
  OpP.eqGen hx hy rfl fun w => by
    simp only [binOp]
    simp [Op.equal, Op.maxDepth, Lib.run_equalIn_slice_nil w 9999 t e a n c n' c' ht.und]

theorem foldl_push (s : List UInt8) : ∀ r : ByteArray, (s.map (fun b => ((b.toNat : Int)))).foldl (fun r n => r.push (UInt8.ofNat n.toNat)) r = ⟨r.data ++ s.toArray⟩ := by
  induction s with
  | nil => intro r; cases r; simp
  | cons b s ih =>
    intro r
    simp only [List.map_cons, List.foldl_cons]
    rw [ih]
    cases r
    simp [ByteArray.push]

theorem OpR.bytesToStr {x : Operand} {s d e : TypeId} {sz by_ b o cap : Nat} {bs : List UInt8} {len : Nat} [hs : Sl P s e sz by_] [he : IntT P e .u8] [hd : StrT P d] (hx : ev env x = some (.slice (some ⟨b, o, none⟩) len cap)) (hc : Cells w0 l b o (bcells bs)) (hl : len = bs.length) :
    OpR P w0 ⟨dst, .convert s d x, ty, pos, after, g⟩ env l (.string (strB bs)) := by
  refine ⟨fun ρ hr w ho => ?_⟩
  have hx' := hr x (by simp [Op.operands]) _ hx
  have hl1 := run_loadCells_list (P := P) w ⟨b, o, none⟩ (bcells bs) (fun j v hv => by rw [addr_add]; exact hc w ho j v hv)
  rw [bcells_length] at hl1
  subst hl
  have e1 : bcells bs = (bs.map (fun b => ((b.toNat : Int)))).map (Value.int .u8) := by simp [bcells, u8c]
  have := run_bytesToString (P := P) w ⟨b, o, none⟩ bs.length cap (bs.map (fun b => ((b.toNat : Int)))) (by rw [hl1, e1])
  rw [foldl_push] at this
  have e2 : (ByteArray.mk (ByteArray.empty.data ++ bs.toArray)) = strB bs := by rw [show ByteArray.empty.data = #[] from rfl]; simp [strB]
  rw [e2] at this
  simp only [execOp, hx', Sem.run_bind, run_convert_bytes_string w s d e _ _ _ hs.und he.h hd.h, this, Result.andThen_ok, Sem.run_pure]

theorem OpR.nilToStr {x : Operand} {s d e : TypeId} {sz by_ n c : Nat} [hs : Sl P s e sz by_] [he : IntT P e .u8] [hd : StrT P d] (hx : ev env x = some (.slice none n c)) :
    OpP P ⟨dst, .convert s d x, ty, pos, after, g⟩ env (.string (strB [])) := by
  refine ⟨fun ρ hr w => ?_⟩
  have hx' := hr x (by simp [Op.operands]) _ hx
  have e2 : ByteArray.empty = strB [] := rfl
  simp only [execOp, hx', Sem.run_bind, run_convert_bytes_nil w s e hs.und he.h n c d hd.h, Result.andThen_ok, Sem.run_pure, e2]

/-- A block that is only read: its first cells. -/
def rdo (b : Nat) (e : TypeId) (cs : List Value) : HProp := fun h => ∃ rest fr, h b = some (.cells (cs ++ rest).toArray e fr)

theorem Cells.rdo {b e : Nat} {cs : List Value} (hm : Has (Gp.rdo b e cs) l) : Cells w0 l b 0 cs := by
  intro w ho j v hv
  obtain ⟨m, hp⟩ := Own.mem_front hm.mem
  obtain ⟨_, h, ⟨rest, fr, hA⟩, hh, _⟩ := ho.perm hp
  have := (hh b _ hA).2
  rw [Nat.zero_add, cell_of_row w b j _ e _ this]
  simp only [List.getElem?_toArray]
  rw [List.getElem?_append_left (List.getElem?_eq_some_iff.1 hv).1]
  exact hv

theorem OpM.strToBytes {x : Operand} {s d e : TypeId} {sz by_ : Nat} {bs : ByteArray} [hs : StrT P s] [hd : Sl P d e sz by_] [he : IntT P e .u8] (hx : ev env x = some (.string bs)) :
    OpM P w0 ⟨dst, .convert s d x, ty, pos, after, g⟩ env l (fun u l'' => ∃ b c, u = .slice (some ⟨b, 0, none⟩) bs.size c ∧ l'' = Gp.rdo b e (bcells bs.data.toList) :: l) := by
  refine ⟨fun ρ hr w ho => ?_⟩
  have hx' := hr x (by simp [Op.operands]) _ hx
  have hr' := run_bytes_of_string (P := P) w s d e bs hs.h hd.und he.h
  refine ⟨_, _, _, _, by simp only [execOp, hx', Sem.run_bind, hr', Result.andThen_ok, Sem.run_pure]; rfl, .inl rfl, ⟨w.heap.size, _, rfl, rfl⟩, ?_⟩
  refine Own.imp (A := blk w.heap.size _) ?_ (Own.new ho (((Below.refl _ _).drew).alloc (Nat.le_refl _) _) (heap_alloc_new w.drew _))
  intro h hb
  refine ⟨List.replicate (grownCap w bs.size 0 e - bs.size) (.int .u8 0), ((bytesRow bs (grownCap w bs.size 0 e)).size, (bytesRow bs (grownCap w bs.size 0 e)).size + 1), ?_⟩
  have : (bcells bs.data.toList ++ List.replicate (grownCap w bs.size 0 e - bs.size) (Value.int .u8 0)).toArray = bytesRow bs (grownCap w bs.size 0 e) := by
    apply Array.ext'
    simp [bytesRow, bcells]
    intros; rfl
  rw [this]
  exact hb

/-- copy between two rows: all of the shorter one. -/
theorem OpM.copy {x y : Operand} {tys : Array TypeId} {t u e sz by_ b o len cap : Nat} {xv : Value} {m : Nat} {cs cs' news : List Value} [hs : Sl P t e sz by_] (htys : tys = #[t, u]) (hx : ev env x = some (.slice (some ⟨b, o, none⟩) len cap)) (hy : ev env y = some xv)
    (hlen : ∀ w, (Builtin.lenOf xv).run P w = .ok m w) (hfirst : ∀ w, Own w0 w l → (Builtin.firstCells sz (Nat.min m len) xv).run P w = .ok news.toArray w) (h1 : ∀ c ∈ news, c.oneCell' = true)
    (hspl : Spl cs o news cs') (hu : Upd (row b e cs) (row b e cs') l l') :
    OpM P w0 ⟨dst, .call ⟨.builtin .copy, #[x, y], tys⟩, ty, pos, after, g⟩ env l (fun r l'' => r = .int .i64 (Nat.min m len) ∧ l'' = l') := by
  subst htys
  refine ⟨fun ρ hr w ho => ?_⟩
  have hx' := hr x (by simp [Op.operands, Call.operands]) _ hx
  have hy' := hr y (by simp [Op.operands, Call.operands]) _ hy
  obtain ⟨i, hi1, hi2, _, _⟩ := hs.inf
  obtain ⟨hheap, _⟩ := ho.blk_heap hu.mem
  obtain ⟨hle, hcs⟩ := hspl.eq
  have hst := run_storeCells_at P b o e news 0 cs.toArray w hheap (by simpa using hle) h1
  simp only [Nat.add_zero] at hst
  rw [← hcs] at hst
  refine ⟨_, .int .i64 (Nat.min m len), w.setRow b cs'.toArray, l', ?_, .inl rfl, ⟨rfl, rfl⟩, Own.setRow hu ho⟩
  simp [execOp, resolve, hx', hy', invoke, builtin, Builtin.copy_, run_underlying hs.und, hlen, run_sizeOf_info w hi1, hi2, hfirst w ho, hst, goInt]
end

theorem Src.own {P : Program} {w0 : World} {l : List HProp} {e sz n : Nat} {v : Value} {xs : List Value} (hm : Has (Gp.own e sz v n xs) l) (hl : xs.length = n * sz) : Src P w0 l sz v n xs := by
  refine ⟨hl, fun w ho => ?_, fun w ho => ?_⟩
  · obtain ⟨m, hp⟩ := Own.mem_front hm.mem
    rcases (ho.perm hp).own_out with ⟨rfl, rfl, rfl⟩ | ⟨_, _, _, _, rfl, _⟩ <;> simp [Builtin.lenOf]
  · obtain ⟨m, hp⟩ := Own.mem_front hm.mem
    rcases (ho.perm hp).own_out with ⟨rfl, rfl, rfl⟩ | ⟨g, pre, post, cap, rfl, _, _, _, _, ho'⟩
    · simp [Builtin.firstCells]
    · exact run_firstCells_some w sz n ⟨g, pre.length, none⟩ n cap xs hl (fun j v hv => by rw [addr_add]; exact Cells.mid (w0 := w0) .head w ho' j v hv)

/-- A list of resources as one. -/
def hall : List HProp → HProp
  | [] => emp
  | A :: l => star A (hall l)

theorem Sat.hall_out {w : World} {F : List HProp} : ∀ {ls : List HProp} {S : Nat → Prop}, Sat w (hall ls :: F) S → Sat w (ls ++ F) S
  | [], _, h => h.tail
  | _ :: _, _, h => (Sat.star_out h).cons_mono fun _ => Sat.hall_out

theorem Sat.hall_in {w : World} {F : List HProp} : ∀ {ls : List HProp} {S : Nat → Prop}, Sat w (ls ++ F) S → Sat w (hall ls :: F) S
  | [], _, h => h.emp_in
  | _ :: _, _, h => Sat.star_in (Sat.cons_mono (fun _ => Sat.hall_in) h)

theorem Own.hall_out {w0 w : World} {ls F : List HProp} (h : Own w0 w (hall ls :: F)) : Own w0 w (ls ++ F) := ⟨h.below, h.sat.hall_out⟩
theorem Own.hall_in {w0 w : World} {ls F : List HProp} (h : Own w0 w (ls ++ F)) : Own w0 w (hall ls :: F) := ⟨h.below, h.sat.hall_in⟩

/-- Some of the resources, in another order. -/
theorem Sat.fam {w : World} : ∀ {l : List HProp} {S : Nat → Prop}, Sat w l S → ∃ hs : Nat → Hp, (∀ i A, l[i]? = some A → A (hs i) ∧ ∀ k o, hs i k = some o → S k ∧ w.heap[k]? = some o) ∧
    (∀ i j, i < l.length → j < l.length → i ≠ j → ∀ k, hs i k = none ∨ hs j k = none)
  | [], _, _ => ⟨fun _ _ => none, fun _ _ h => by simp at h, fun _ _ h => by simp at h⟩
  | B :: l, S, ⟨h, hB, hh, hl⟩ => by
    obtain ⟨hs, h1, h2⟩ := Sat.fam hl
    refine ⟨fun i => match i with | 0 => h | i + 1 => hs i, fun i A hi => ?_, fun i j hi hj hne k => ?_⟩
    · cases i with
      | zero => simp at hi; subst hi; exact ⟨hB, hh⟩
      | succ i => obtain ⟨a, b⟩ := h1 i A (by simpa using hi); exact ⟨a, fun k o e => ⟨(b k o e).1.1, (b k o e).2⟩⟩
    · have key : ∀ i, i < l.length → ∀ k, h k = none ∨ hs i k = none := fun i hi k => by
        cases e : hs i k with
        | none => exact .inr rfl
        | some o => exact .inl ((h1 i _ (List.getElem?_eq_getElem hi)).2 k o e).1.2
      cases i with
      | zero => cases j with
        | zero => exact absurd rfl hne
        | succ j => exact key j (by simpa using hj) k
      | succ i => cases j with
        | zero => exact (key i (by simpa using hi) k).symm
        | succ j => exact h2 i j (by simpa using hi) (by simpa using hj) (fun e => hne (by rw [e])) k

theorem Sat.of_fam {w : World} {l : List HProp} {hs : Nat → Hp} (h1 : ∀ i A, l[i]? = some A → A (hs i) ∧ ∀ k o, hs i k = some o → w.heap[k]? = some o)
    (h2 : ∀ i j, i < l.length → j < l.length → i ≠ j → ∀ k, hs i k = none ∨ hs j k = none) : ∀ (is : List Nat) (S : Nat → Prop), is.Nodup → (∀ i ∈ is, i < l.length → ∀ k o, hs i k = some o → S k) → Sat w (is.filterMap (fun i => l[i]?)) S
  | [], _, _, _ => trivial
  | i :: is, S, hd, hS => by
    have hd' := List.nodup_cons.1 hd
    cases e : l[i]? with
    | none => rw [List.filterMap_cons_none e]; exact Sat.of_fam h1 h2 is S hd'.2 (fun j hj => hS j (.tail _ hj))
    | some A =>
      rw [List.filterMap_cons_some e]
      have hi : i < l.length := (List.getElem?_eq_some_iff.1 e).1
      refine ⟨hs i, (h1 i A e).1, fun k o ek => ⟨hS i (.head _) hi k o ek, (h1 i A e).2 k o ek⟩, Sat.of_fam h1 h2 is _ hd'.2 (fun j hj hjl k o ek => ⟨hS j (.tail _ hj) hjl k o ek, ?_⟩)⟩
      have hne : i ≠ j := fun e' => hd'.1 (e' ▸ hj)
      rcases h2 i j hi hjl hne k with h | h
      · exact h
      · rw [ek] at h; cases h

theorem Sat.pick0 {w : World} {l : List HProp} {S : Nat → Prop} (is : List Nat) (hd : is.Nodup) (h : Sat w l S) : Sat w (is.filterMap (fun i => l[i]?)) S := by
  obtain ⟨hs, h1, h2⟩ := Sat.fam h
  refine Sat.of_fam (fun i A hi => ⟨(h1 i A hi).1, fun k o e => ((h1 i A hi).2 k o e).2⟩) h2 is S hd (fun i _ hi k o e => ?_)
  exact ((h1 i _ (List.getElem?_eq_getElem hi)).2 k o e).1

theorem filterMap_same {α β : Type _} {f g : α → Option β} : ∀ {l : List α}, (∀ a ∈ l, f a = g a) → l.filterMap f = l.filterMap g
  | [], _ => rfl
  | a :: l, h => by
    have ih := filterMap_same (l := l) (fun b hb => h b (.tail _ hb))
    simp only [List.filterMap_cons, h a (.head _), ih]

def nodupB : List Nat → Bool
  | [] => true
  | i :: is => is.all (fun j => !Nat.beq i j) && nodupB is

theorem nodupB_spec : ∀ {is : List Nat}, nodupB is = true → is.Nodup
  | [], _ => List.nodup_nil
  | i :: is, h => by
    simp only [nodupB, Bool.and_eq_true, List.all_eq_true] at h
    refine List.nodup_cons.2 ⟨fun hi => ?_, nodupB_spec h.2⟩
    have := h.1 i hi
    simp at this

def pickB (n : Nat) (is : List Nat) : Bool := nodupB is && is.all fun i => Nat.blt i n

theorem Own.pick {w0 w : World} {pre F : List HProp} (is : List Nat) (hd : pickB pre.length is = true) (h : Own w0 w (pre ++ F)) : Own w0 w (is.filterMap (fun i => pre[i]?) ++ F) := by
  simp only [pickB, Bool.and_eq_true, List.all_eq_true, Nat.blt_eq] at hd
  obtain ⟨hnd, hlt⟩ := hd
  have hnd := nodupB_spec hnd
  have h1 : Own w0 w (hall F :: pre) := Own.hall_in (h.perm List.perm_append_comm)
  have h2 : Own w0 w (pre ++ [hall F]) := h1.perm (List.perm_append_comm (l₁ := [hall F]))
  have h3 : Own w0 w ((is ++ [pre.length]).filterMap (fun i => (pre ++ [hall F])[i]?)) := ⟨h2.below, h2.sat.pick0 _ (by
    rw [List.nodup_append]
    refine ⟨hnd, by simp, ?_⟩
    intro a ha b hb
    simp at hb
    have := hlt a ha
    omega)⟩
  have e : (is ++ [pre.length]).filterMap (fun i => (pre ++ [hall F])[i]?) = is.filterMap (fun i => pre[i]?) ++ [hall F] := by
    rw [List.filterMap_append]
    congr 1
    · exact filterMap_same fun i hi => List.getElem?_append_left (hlt i hi)
    · simp
  rw [e] at h3
  have h4 : Own w0 w (hall F :: is.filterMap (fun i => pre[i]?)) := h3.perm List.perm_append_comm
  exact h4.hall_out.perm List.perm_append_comm

theorem J.pick {C : Cx} {k : List Item} {env : Env} {pre F : List HProp} (is : List Nat) (hd : pickB pre.length is = true) (h : J C k env (is.filterMap (fun i => pre[i]?) ++ F)) : J C k env (pre ++ F) :=
  J.conv (fun _ ho => ho.pick is hd) h

/-- A slice that reads as these cells. -/
def Rd (w0 : World) (l : List HProp) (v : Value) (n : Nat) (cs : List Value) : Prop :=
  (∃ a c, v = .slice a 0 c ∧ n = 0 ∧ cs = []) ∨ ∃ b o cap, v = .slice (some ⟨b, o, none⟩) n cap ∧ n ≤ cap ∧ Cells w0 l b o cs

theorem Rd.conv {w0 : World} {l l' : List HProp} {v : Value} {n : Nat} {cs : List Value} (hl : ∀ w, Own w0 w l' → Own w0 w l) (h : Rd w0 l v n cs) : Rd w0 l' v n cs := by
  rcases h with h | ⟨b, o, cap, h1, h2, h3⟩
  · exact .inl h
  · exact .inr ⟨b, o, cap, h1, h2, h3.conv hl⟩

theorem Rd.lit {w0 : World} {l : List HProp} {v : Value} {n : Nat} {cs : List Value} (h : Rd w0 l v n cs) : ∃ a cap, v = .slice a n cap := by
  rcases h with ⟨a, c, rfl, rfl, _⟩ | ⟨b, o, cap, rfl, _⟩
  · exact ⟨_, _, rfl⟩
  · exact ⟨_, _, rfl⟩

theorem Rd.pos {w0 : World} {l : List HProp} {v : Value} {n : Nat} {cs : List Value} (h : Rd w0 l v n cs) (hn : 0 < n) : ∃ b o cap, v = .slice (some ⟨b, o, none⟩) n cap ∧ n ≤ cap ∧ Cells w0 l b o cs := by
  rcases h with ⟨a, c, _, rfl, _⟩ | h
  · omega
  · exact h

theorem Rd.src {P : Program} {w0 : World} {l : List HProp} {v : Value} {n sz : Nat} {cs : List Value} (h : Rd w0 l v n cs) (hl : cs.length = n * sz) : Src P w0 l sz v n cs := by
  rcases h with ⟨a, c, rfl, rfl, rfl⟩ | ⟨b, o, cap, rfl, _, hc⟩
  · exact Src.nil
  · exact Src.slice hc hl

/-- What an owned slice reads as. -/
theorem Own.own_form {w0 w : World} {l : List HProp} {e sz n : Nat} {v : Value} {xs : List Value} (hn : 0 < n) (h : Own w0 w (own e sz v n xs :: l)) :
    ∃ g pre post cap, v = .slice (some ⟨g, pre.length, none⟩) n cap ∧ n ≤ cap ∧ cap ≤ maxLen ∧ xs.length = n * sz ∧ (cap - n) * sz ≤ post.length ∧ Own w0 w (row g e (pre ++ xs ++ post) :: l) := by
  rcases h.own_out with ⟨_, rfl, _⟩ | h
  · omega
  · exact h

end Go.Gp
