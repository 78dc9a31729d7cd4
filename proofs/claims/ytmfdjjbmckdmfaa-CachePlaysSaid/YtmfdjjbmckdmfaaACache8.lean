/- A text of the proof of a statement about the given program: its part ACache8. No person has read it. -/
import Derived.Test.YtmfdjjbmckdmfaaACache7
import Derived.Test.YtmfdjjbmckdmfaaJ17
-- seat a
namespace Go.Proofs.A
open Go Go.Gp Go.RowKit

def sameD (d e : Dec) : Bool := decide (d.an = e.an) && decide (d.dl = e.dl) && decide (d.al = e.al)
theorem Same_ok {w0 : World} {d e : Dec} {F : List HProp} (hd : d.RdO w0 F) (he : e.RdO w0 F) :
    FnO Try.prog w0 34 [.agg (dcell d).toArray, .agg (dcell e).toArray] F (fun v l' => v = .bool (sameD d e) ∧ l' = F) := by
  refine FnO.weak ?_
  have hd1 := hd.dv
  have hd2 := hd.av
  have he1 := he.dv
  have he2 := he.av
  have hdn := hd.dn
  have hda := hd.an
  refine FnO.intro (n := 24) Try.func34 rfl rfl rfl ?_
  refine J.seq ?_
  refine J.region ?_
  refine JL.mem rfl rfl (OpM.box rfl rfl) ?_; rintro _ _ ⟨b2, rfl, rfl⟩
  refine JL.mem rfl rfl (OpM.box rfl rfl) ?_; rintro _ _ ⟨b3, rfl, rfl⟩
  refine JL.pure rfl rfl (OpP.assign rfl) ?_
  refine JL.nil ?_
  refine J.seq ?_
  refine J.region ?_
  refine JL.pure rfl rfl (OpP.fieldAddr rfl) ?_
  refine JL.read rfl rfl (OpR.load1 rfl (Cell.row (.tail .head) rfl)) ?_
  refine JL.pure rfl rfl (OpP.fieldAddr rfl) ?_
  refine JL.read rfl rfl (OpR.load1 rfl (Cell.row .head rfl)) ?_
  refine JL.dec rfl rfl (OpP.eql rfl rfl) (fun h9 => ?_) (fun h9 => ?_)
  focus
    refine JL.pure rfl rfl (OpP.move rfl) ?_
    refine JL.pure rfl rfl (OpP.fieldAddr rfl) ?_
    refine JL.read rfl rfl (OpR.load1 rfl (Cell.row (.tail .head) rfl)) ?_
    refine JL.pure rfl rfl (OpP.fieldAddr rfl) ?_
    refine JL.read rfl rfl (OpR.load1 rfl (Cell.row .head rfl)) ?_
    refine JL.step rfl rfl (OpW.call (first := []) (captured := []) inferInstance rfl rfl (SameTexts_ok (hd1.conv fun _ h => Own.pick (pre := [_, _]) [] rfl h) (he1.conv fun _ h => Own.pick (pre := [_, _]) [] rfl h) (by first | assumption | omega | rfl))) ?_; rintro r15 _ ⟨rfl, rfl⟩
    refine JL.pure rfl rfl (OpP.pickT rfl rfl) ?_
    refine JL.pure rfl rfl (OpP.move rfl) ?_
    refine JL.decAt 17 rfl (fun h17 => ?_) (fun h17 => ?_)
    focus
      refine JL.pure rfl rfl (OpP.fieldAddr rfl) ?_
      refine JL.read rfl rfl (OpR.load1 rfl (Cell.row (.tail .head) rfl)) ?_
      refine JL.pure rfl rfl (OpP.fieldAddr rfl) ?_
      refine JL.read rfl rfl (OpR.load1 rfl (Cell.row .head rfl)) ?_
      refine JL.step rfl rfl (OpW.call (first := []) (captured := []) inferInstance rfl rfl (SameTexts_ok (hd2.conv fun _ h => Own.pick (pre := [_, _]) [] rfl h) (he2.conv fun _ h => Own.pick (pre := [_, _]) [] rfl h) (by first | assumption | omega | rfl))) ?_; rintro r22 _ ⟨rfl, rfl⟩
      refine JL.pure rfl rfl (OpP.pickT rfl rfl) ?_
      refine JL.pure rfl rfl (OpP.assign rfl) ?_
      refine JL.nil ?_
      refine J.ret1 rfl rfl ?_
    rotate_left 1
    focus
      refine JL.skip rfl rfl ?_
      refine JL.skip rfl rfl ?_
      refine JL.skip rfl rfl ?_
      refine JL.skip rfl rfl ?_
      refine JL.skip rfl rfl ?_
      refine JL.pure rfl rfl (OpP.pickF rfl rfl) ?_
      refine JL.pure rfl rfl (OpP.assign rfl) ?_
      refine JL.nil ?_
      refine J.ret1 rfl rfl ?_
    rotate_left 1
  rotate_left 2
  focus
    refine JL.pure rfl rfl (OpP.move rfl) ?_
    refine JL.skip rfl rfl ?_
    refine JL.skip rfl rfl ?_
    refine JL.skip rfl rfl ?_
    refine JL.skip rfl rfl ?_
    refine JL.skip rfl rfl ?_
    refine JL.pure rfl rfl (OpP.pickF rfl rfl) ?_
    refine JL.pure rfl rfl (OpP.move rfl) ?_
    refine JL.skip rfl rfl ?_
    refine JL.skip rfl rfl ?_
    refine JL.skip rfl rfl ?_
    refine JL.skip rfl rfl ?_
    refine JL.skip rfl rfl ?_
    refine JL.pure rfl rfl (OpP.pickF rfl rfl) ?_
    refine JL.pure rfl rfl (OpP.assign rfl) ?_
    refine JL.nil ?_
    refine J.ret1 rfl rfl ?_
  rotate_left 1
  all_goals exact ⟨_, ⟨congrArg Value.bool (by simp [sameD, *]), rfl⟩, fun _ h => Own.pick (pre := [_, _]) [] rfl h⟩

/-! Entries without where their texts lie. -/
structure E where
  key : Str
  sub : Str
  res : Str
  an : Int
  dl : List Str
  al : List Str
def er (e : Ent) : E := ⟨e.key, e.sub, e.res, e.d.an, e.d.dl, e.d.al⟩
def kE (key : Str) (e : E) : Bool := decide (e.key = key)
def tE (who name : Str) (e : E) : Bool := decide (who = sSub) && decide (e.sub = name) || decide (who = sRes) && decide (e.res = name)
theorem kE_er (key : Str) : kE key ∘ er = isKey key := rfl
theorem tE_er (who name : Str) : tE who name ∘ er = tp who name := rfl
def cut2 (L : List E) (cap : Nat) (pick : Int) : List E := if L.length = cap then L.eraseIdx (place pick L.length) else L
def putE (cap : Nat) (L : List E) (e : E) (pick : Int) : List E := if cap = 0 then L.eraseP (kE e.key) else cut2 (L.eraseP (kE e.key)) cap pick ++ [e]
theorem map_erase {α β : Type} (f : α → β) : ∀ (l : List α) (i : Nat), (l.eraseIdx i).map f = (l.map f).eraseIdx i
  | [], i => by simp
  | x :: l, 0 => by simp
  | x :: l, i + 1 => by simp [map_erase f l i]
theorem cut2_er (es : List Ent) (cap : Nat) (pick : Int) : (put2 es cap pick).map er = cut2 (es.map er) cap pick := by
  simp only [put2, cut2, List.length_map]
  split
  · rw [map_erase]
  · rfl

def cacheE (g cap : Nat) (L : List E) : HProp := hex fun es => hpure (es.map er = L) (cacheR g ⟨cap, es⟩)
theorem FnO.cacheE {P : Program} {w0 : World} {f : FuncId} {args : List Value} {g cap : Nat} {L : List E} {F : List HProp} {R : Value → List HProp → Prop} (h : ∀ es, es.map er = L → FnO P w0 f args (cacheR g ⟨cap, es⟩ :: F) R) : FnO P w0 f args (A.cacheE g cap L :: F) R :=
  ⟨fun w hw => by obtain ⟨es, hw⟩ := hw.ex_out; obtain ⟨he, hw⟩ := hw.pure_out; exact (h es he).calls w hw⟩
theorem cacheE_in {w0 w : World} {g cap : Nat} {es : List Ent} {L : List E} {F : List HProp} (he : es.map er = L) (h : Own w0 w (cacheR g ⟨cap, es⟩ :: F)) : Own w0 w (cacheE g cap L :: F) := .ex_in es (.pure_in he h)

def capOf (n : Int) : Nat := (min (max n 0) 16).toNat
theorem ENew_ok {w0 : World} {n : Int} {F : List HProp} :
    FnO Try.prog w0 19 [.int .i64 n] F (fun v l' => ∃ g, v = .pointer (some ⟨g, 0, none⟩) ∧ l' = cacheE g (capOf n) [] :: F) := by
  refine FnO.weak (CNew_ok.mono ?_)
  rintro v l' ⟨g, rfl, rfl⟩
  exact ⟨_, ⟨g, rfl, rfl⟩, fun _ h => cacheE_in rfl h⟩
theorem EPut_ok {w0 : World} {g cap : Nat} {key sub res : Str} {d : Dec} {pick : Int} {L : List E} {F : List HProp} (hd : d.RdO w0 F) (h1 : -9223372036854775808 ≤ pick) (h2 : pick ≤ 9223372036854775807) :
    FnO Try.prog w0 20 [.pointer (some ⟨g, 0, none⟩), .string key, .string sub, .string res, .agg (dcell d).toArray, .int .i64 pick] (cacheE g cap L :: F) (fun v l' => v = .tuple #[] ∧ l' = cacheE g cap (putE cap L ⟨key, sub, res, d.an, d.dl, d.al⟩ pick) :: F) := by
  refine FnO.cacheE fun es he => FnO.weak ((Put_ok hd h1 h2).mono ?_)
  have e1 : (es.eraseP (isKey key)).map er = L.eraseP (kE key) := by rw [← he, List.eraseP_map, kE_er]
  rintro v l' ⟨rfl, ⟨hc, rfl⟩ | ⟨hc, u1, u2, rfl⟩⟩
  · exact ⟨_, ⟨rfl, rfl⟩, fun _ h => cacheE_in (by rw [putE, if_pos hc, e1]) h⟩
  · refine ⟨_, ⟨rfl, rfl⟩, fun _ h => cacheE_in ?_ h⟩
    rw [putE, if_neg hc, List.map_append, cut2_er, e1]
    rfl
theorem EGet_ok {w0 : World} {g cap : Nat} {key : Str} {L : List E} {F : List HProp} :
    FnO Try.prog w0 21 [.pointer (some ⟨g, 0, none⟩), .string key] (cacheE g cap L :: F) (fun v l' => (L.find? (kE key) = none ∧ v = .tuple #[.agg #[.int .i64 0, .slice none 0 0, .slice none 0 0], .bool false] ∧ l' = cacheE g cap L :: F) ∨
      (∃ e u1 u2, L.find? (kE key) = some e ∧ e.dl.length ≤ 1000 ∧ e.al.length ≤ 1000 ∧ v = .tuple #[.agg #[.int .i64 e.an, u1, u2], .bool true] ∧ l' = own 9 1 u1 e.dl.length (scells e.dl) :: own 9 1 u2 e.al.length (scells e.al) :: cacheE g cap L :: F)) := by
  refine FnO.cacheE fun es he => FnO.weak (Get_ok.mono ?_)
  have e1 : L.find? (kE key) = (es.find? (isKey key)).map er := by rw [← he, List.find?_map, kE_er]
  rintro v l' (⟨h, rfl, rfl⟩ | ⟨e, u1, u2, h, q1, q2, rfl, rfl⟩)
  · exact ⟨_, .inl ⟨by rw [e1, h]; rfl, rfl, rfl⟩, fun _ h => cacheE_in he h⟩
  · exact ⟨_, .inr ⟨er e, u1, u2, by rw [e1, h]; rfl, q1, q2, rfl, rfl⟩, fun _ h => Own.pick (pre := [_, _, _]) [1, 2, 0] rfl (cacheE_in he h)⟩
theorem EGetS_ok {w0 : World} {g cap : Nat} {key : Str} {L : List E} {e : E} {F : List HProp} (hf : L.find? (kE key) = some e) :
    FnO Try.prog w0 21 [.pointer (some ⟨g, 0, none⟩), .string key] (cacheE g cap L :: F) (fun v l' => ∃ u1 u2, e.dl.length ≤ 1000 ∧ e.al.length ≤ 1000 ∧ v = .tuple #[.agg #[.int .i64 e.an, u1, u2], .bool true] ∧ l' = own 9 1 u1 e.dl.length (scells e.dl) :: own 9 1 u2 e.al.length (scells e.al) :: cacheE g cap L :: F) := by
  refine EGet_ok.mono ?_
  rintro v l' (⟨h, _⟩ | ⟨e', u1, u2, h, q1, q2, rfl, rfl⟩)
  · rw [hf] at h; cases h
  · rw [hf] at h; cases h; exact ⟨u1, u2, q1, q2, rfl, rfl⟩
theorem EGetN_ok {w0 : World} {g cap : Nat} {key : Str} {L : List E} {F : List HProp} (hf : L.find? (kE key) = none) :
    FnO Try.prog w0 21 [.pointer (some ⟨g, 0, none⟩), .string key] (cacheE g cap L :: F) (fun v l' => v = .tuple #[.agg #[.int .i64 0, .slice none 0 0, .slice none 0 0], .bool false] ∧ l' = cacheE g cap L :: F) := by
  refine EGet_ok.mono ?_
  rintro v l' (⟨h, rfl, rfl⟩ | ⟨e', u1, u2, h, _⟩)
  · exact ⟨rfl, rfl⟩
  · rw [hf] at h; cases h
theorem EClear_ok {w0 : World} {g cap : Nat} {L : List E} {F : List HProp} :
    FnO Try.prog w0 48 [.pointer (some ⟨g, 0, none⟩)] (cacheE g cap L :: F) (fun v l' => v = .tuple #[] ∧ l' = cacheE g cap [] :: F) := by
  refine FnO.cacheE fun es he => FnO.weak (Clear_ok.mono ?_)
  rintro v l' ⟨rfl, rfl⟩
  exact ⟨_, ⟨rfl, rfl⟩, fun _ h => cacheE_in rfl h⟩
theorem ELen_ok {w0 : World} {g cap : Nat} {L : List E} {F : List HProp} :
    FnO Try.prog w0 35 [.pointer (some ⟨g, 0, none⟩)] (cacheE g cap L :: F) (fun v l' => v = .int .i64 L.length ∧ l' = cacheE g cap L :: F) := by
  refine FnO.cacheE fun es he => FnO.weak (Len_ok.mono ?_)
  rintro v l' ⟨rfl, rfl⟩
  exact ⟨_, ⟨by rw [← he, List.length_map], rfl⟩, fun _ h => cacheE_in he h⟩
theorem ETouch_ok {w0 : World} {g cap : Nat} {who name : Str} {L : List E} {F : List HProp} :
    FnO Try.prog w0 47 [.pointer (some ⟨g, 0, none⟩), .string who, .string name] (cacheE g cap L :: F) (fun v l' => v = .int .i64 (L.length - (L.filter fun e => !tE who name e).length : Nat) ∧ l' = cacheE g cap (L.filter fun e => !tE who name e) :: F) := by
  refine FnO.cacheE fun es he => FnO.weak (Touch_ok.mono ?_)
  have e1 : (es.filter fun e => !tp who name e).map er = L.filter fun e => !tE who name e := by rw [← he, List.filter_map]; rfl
  rintro v l' ⟨rfl, rfl⟩
  exact ⟨_, ⟨by rw [← e1, ← he, List.length_map, List.length_map], rfl⟩, fun _ h => cacheE_in e1 h⟩
theorem EKeys_ok {w0 : World} {g cap : Nat} {L : List E} {F : List HProp} :
    FnO Try.prog w0 37 [.pointer (some ⟨g, 0, none⟩)] (cacheE g cap L :: F) (fun v l' => l' = own 9 1 v L.length (scells (L.map E.key)) :: cacheE g cap L :: F) := by
  refine FnO.cacheE fun es he => FnO.weak (Keys_ok.mono ?_)
  rintro v l' rfl
  refine ⟨_, rfl, fun _ h => ?_⟩
  have h := Own.pick (pre := [_, _]) [1, 0] rfl (cacheE_in he h)
  have e1 : L.map E.key = es.map Ent.key := by rw [← he, List.map_map]; rfl
  rw [e1, ← he, List.length_map]
  exact Own.pick (pre := [_, _]) [0, 1] rfl (he ▸ h)

/-! The law's own calls. -/
theorem decZ_rd {w0 : World} {F : List HProp} (n : Int) : Dec.RdO w0 F ⟨n, .slice none 0 0, .slice none 0 0, [], []⟩ :=
  ⟨Rd.o (.inl ⟨_, _, rfl, rfl, rfl⟩), Rd.o (.inl ⟨_, _, rfl, rfl, rfl⟩), Nat.zero_le _, Nat.zero_le _⟩
theorem Cawake_ok {w0 : World} {F : List HProp} : FnO Try.prog w0 18 [] F (fun v l' => v = .bool true ∧ l' = F) := by
  refine FnO.weak ?_
  refine FnO.intro (n := 21) Try.func18 rfl rfl rfl ?_
  refine J.seq ?_
  refine J.region ?_
  refine JL.pure rfl rfl (OpP.assign rfl) ?_
  refine JL.nil ?_
  refine J.seq ?_
  refine J.region ?_
  refine JL.step rfl rfl (OpW.call (first := []) (captured := []) inferInstance rfl rfl ENew_ok) ?_; rintro r4 _ ⟨g, ⟨rfl, rfl⟩⟩
  refine JL.pure rfl rfl (OpP.assign rfl) ?_
  refine JL.nil ?_
  refine J.seq ?_
  refine J.seq ?_
  refine J.region ?_
  refine JL.pure rfl rfl (OpP.move rfl) ?_
  refine JL.pure rfl rfl (OpP.eqPtrNil rfl rfl) ?_
  refine JL.nil ?_
  refine J.condF rfl ?_
  refine J.skip ?_
  refine J.seq ?_
  refine J.region ?_
  refine JL.pure rfl rfl (OpP.move rfl) ?_
  refine JL.pure rfl rfl (OpP.build rfl (by (repeat (first | exact Fills.nil | (apply Fills.cons rfl rfl rfl; (case' hs => ((repeat (first | exact Spl.nil | apply Spl.here | apply Spl.there)); done))))))) ?_
  refine JL.step rfl rfl (OpW.call (first := []) (captured := []) inferInstance rfl rfl (EPut_ok (d := ⟨2, .slice none 0 0, .slice none 0 0, [], []⟩) (decZ_rd 2) (by decide) (by decide))) ?_; rintro r9 _ ⟨rfl, rfl⟩
  refine JL.nil ?_
  refine J.seq ?_
  refine J.region ?_
  refine JL.pure rfl rfl (OpP.move rfl) ?_
  refine JL.step rfl rfl (OpW.call (first := []) (captured := []) inferInstance rfl rfl EGet_ok) ?_; rintro r12 _ (⟨h12, ⟨rfl, rfl⟩⟩ | ⟨e, ⟨u1, ⟨u2, ⟨h121, ⟨h122, ⟨h123, ⟨rfl, rfl⟩⟩⟩⟩⟩⟩⟩)
  focus
    refine JL.pure rfl rfl (OpP.move rfl) ?_
    refine JL.pure rfl rfl (OpP.extract rfl rfl) ?_
    refine JL.pure rfl rfl (OpP.extract rfl rfl) ?_
    refine JL.mem rfl rfl OpM.alloc ?_; rintro _ _ ⟨b2, rfl, rfl⟩
    refine JL.mem0 rfl (by apply OpM.storeN rfl rfl (by rfl) (oneC rfl (oneC rfl (one1 rfl))); (case' hu => exact .head); (case' hs => exact (.here (.here (.here .nil)))); done) ?_; rintro _ _ ⟨rfl, rfl⟩
    refine JL.pure rfl rfl (OpP.assign rfl) ?_
    refine JL.nil ?_
    refine J.seq ?_
    refine J.region ?_
    refine JL.pure rfl rfl (OpP.move rfl) ?_
    refine JL.pure rfl rfl (OpP.move rfl) ?_
    refine JL.skip rfl rfl ?_
    refine JL.skip rfl rfl ?_
    refine JL.skip rfl rfl ?_
    refine JL.pure rfl rfl (OpP.pickF rfl rfl) ?_
    refine JL.pure rfl rfl (OpP.assign rfl) ?_
    refine JL.nil ?_
    refine J.ret1 rfl rfl ?_
  rotate_left 1
  focus
    refine JL.lit .head fun au1 cu1 eu1 => ?_; subst eu1
    refine JL.lit (.tail .head) fun au2 cu2 eu2 => ?_; subst eu2
    refine JL.pure rfl rfl (OpP.move rfl) ?_
    refine JL.pure rfl rfl (OpP.extract rfl rfl) ?_
    refine JL.pure rfl rfl (OpP.extract rfl rfl) ?_
    refine JL.mem rfl rfl OpM.alloc ?_; rintro _ _ ⟨b2, rfl, rfl⟩
    refine JL.mem0 rfl (by apply OpM.storeN rfl rfl (by rfl) (oneC rfl (oneC rfl (one1 rfl))); (case' hu => exact .head); (case' hs => exact (.here (.here (.here .nil)))); done) ?_; rintro _ _ ⟨rfl, rfl⟩
    refine JL.pure rfl rfl (OpP.assign rfl) ?_
    refine JL.nil ?_
    refine J.seq ?_
    refine J.region ?_
    refine JL.pure rfl rfl (OpP.move rfl) ?_
    refine JL.pure rfl rfl (OpP.move rfl) ?_
    refine JL.pure rfl rfl (OpP.fieldAddr rfl) ?_
    refine JL.read rfl rfl (OpR.load1 rfl (Cell.row .head rfl)) ?_
    refine JL.dec rfl rfl (OpP.eql rfl rfl) (fun h19 => ?_) (fun h19 => ?_)
    focus
      refine JL.pure rfl rfl (OpP.pickT rfl rfl) ?_
      refine JL.pure rfl rfl (OpP.assign rfl) ?_
      refine JL.nil ?_
      refine J.ret1 rfl rfl ?_
    rotate_left 1
    focus
      refine JL.pure rfl rfl (OpP.pickT rfl rfl) ?_
      refine JL.pure rfl rfl (OpP.assign rfl) ?_
      refine JL.nil ?_
      refine J.ret1 rfl rfl ?_
    rotate_left 1
  rotate_left 2
  · have hc : capOf 2 = 2 := rfl
    simp [hc, putE, cut2, kE] at h12
  · exact ⟨_, ⟨rfl, rfl⟩, fun _ h => Own.pick (pre := [_, _, _, _]) [] rfl h⟩
  · have hc : capOf 2 = 2 := rfl
    simp [hc, putE, cut2, kE] at h121
    exact absurd (by rw [← h121]) h19

structure OpC where
  k : Int
  key : Str
  a : Str
  b : Str
  d : Dec
  pick : Int
def ocl (o : OpC) : List Value := .int .u8 o.k :: .string o.key :: .string o.a :: .string o.b :: .int .i64 o.d.an :: o.d.dv :: o.d.av :: [.int .i64 o.pick]
theorem ocl_len (l : List OpC) : ∀ o ∈ l, (ocl o).length = 8 := fun _ _ => rfl
structure OpC.Ok (w0 : World) (o : OpC) : Prop where
  k0 : 0 ≤ o.k
  k1 : o.k ≤ 255
  p0 : -9223372036854775808 ≤ o.pick
  p1 : o.pick ≤ 9223372036854775807
  dv : Rd w0 [] o.d.dv o.d.dl.length (scells o.d.dl)
  av : Rd w0 [] o.d.av o.d.al.length (scells o.d.al)
def OpC.few (o : OpC) : Prop := o.d.dl.length ≤ 20 ∧ o.d.al.length ≤ 20
theorem OpC.Ok.rd {w0 : World} {o : OpC} (h : o.Ok w0) (hf : o.few) {F : List HProp} : o.d.RdO w0 F := ⟨h.dv.ao, h.av.ao, by have := hf.1; omega, by have := hf.2; omega⟩
def opE (o : OpC) : E := ⟨o.key, o.a, o.b, o.d.an, o.d.dl, o.d.al⟩
def doE (cap : Nat) (L : List E) (o : OpC) : List E := if o.k % 4 = 0 then putE cap L (opE o) o.pick else if o.k % 4 = 2 then L.filter (fun e => !tE o.a o.b e) else if o.k % 4 = 3 then [] else L
def doN (L : List E) (o : OpC) : Int := if o.k % 4 = 2 then (L.length - (L.filter fun e => !tE o.a o.b e).length : Nat) else 0

theorem Cdo_ok {w0 : World} {g cap : Nat} {o : OpC} {L : List E} {F : List HProp} (ho : o.Ok w0) (hf : o.few) :
    FnO Try.prog w0 33 [.pointer (some ⟨g, 0, none⟩), .agg (ocl o).toArray] (cacheE g cap L :: F) (fun v l' => v = .int .i64 (doN L o) ∧ l' = cacheE g cap (doE cap L o) :: F) := by
  refine FnO.weak ?_
  have hrd := fun F => ho.rd hf (F := F)
  have k0 := ho.k0
  have k1 := ho.k1
  have p0 := ho.p0
  have p1 := ho.p1
  refine FnO.intro (n := 34) Try.func33 rfl rfl rfl ?_
  have hk : o.k % 4 = 0 ∨ o.k % 4 = 1 ∨ o.k % 4 = 2 ∨ o.k % 4 = 3 := by omega
  rcases hk with hk | hk | hk | hk
  focus
    refine J.seq ?_
    refine J.region ?_
    refine JL.mem rfl rfl (OpM.box rfl rfl) ?_; rintro _ _ ⟨b3, rfl, rfl⟩
    refine JL.pure rfl rfl (OpP.assign rfl) ?_
    refine JL.nil ?_
    refine J.seq ?_
    refine J.seq ?_
    refine J.region ?_
    refine JL.pure rfl rfl (OpP.fieldAddr rfl) ?_
    refine JL.read rfl rfl (OpR.load1 rfl (Cell.row .head rfl)) ?_
    refine JL.pure rfl rfl (OpP.remI rfl rfl (by omega) (by omega)) ?_
    refine JL.nil ?_
    refine J.block ?_
    refine J.seq ?_
    refine J.region ?_
    refine JL.decT rfl rfl (OpP.eql rfl rfl) (by omega) ?_
    refine JL.pure rfl rfl (OpP.assign rfl) ?_
    refine JL.nil ?_
    refine J.condT rfl ?_
    refine J.region ?_
    refine JL.pure rfl rfl (OpP.move rfl) ?_
    refine JL.pure rfl rfl (OpP.fieldAddr rfl) ?_
    refine JL.read rfl rfl (OpR.load1 rfl (Cell.row .head rfl)) ?_
    refine JL.pure rfl rfl (OpP.fieldAddr rfl) ?_
    refine JL.read rfl rfl (OpR.load1 rfl (Cell.row .head rfl)) ?_
    refine JL.pure rfl rfl (OpP.fieldAddr rfl) ?_
    refine JL.read rfl rfl (OpR.load1 rfl (Cell.row .head rfl)) ?_
    refine JL.pure rfl rfl (OpP.fieldAddr rfl) ?_
    refine JL.read rfl rfl (OpR.loadN rfl (Cells.sub 3 .head rfl) rfl) ?_
    refine JL.pure rfl rfl (OpP.fieldAddr rfl) ?_
    refine JL.read rfl rfl (OpR.load1 rfl (Cell.row .head rfl)) ?_
    refine JL.f1 ?_; refine JL.step rfl rfl (OpW.call (first := []) (captured := []) inferInstance rfl rfl (EPut_ok (d := o.d) (hrd _) p0 p1)) ?_; rintro r21 _ ⟨rfl, rfl⟩
    refine JL.nil ?_
    refine J.inBlock ?_
    refine J.seq ?_
    refine J.region ?_
    refine JL.pure rfl rfl (OpP.assign rfl) ?_
    refine JL.nil ?_
    refine J.ret1 rfl rfl ?_
  rotate_left 1
  focus
    refine J.seq ?_
    refine J.region ?_
    refine JL.mem rfl rfl (OpM.box rfl rfl) ?_; rintro _ _ ⟨b3, rfl, rfl⟩
    refine JL.pure rfl rfl (OpP.assign rfl) ?_
    refine JL.nil ?_
    refine J.seq ?_
    refine J.seq ?_
    refine J.region ?_
    refine JL.pure rfl rfl (OpP.fieldAddr rfl) ?_
    refine JL.read rfl rfl (OpR.load1 rfl (Cell.row .head rfl)) ?_
    refine JL.pure rfl rfl (OpP.remI rfl rfl (by omega) (by omega)) ?_
    refine JL.nil ?_
    refine J.block ?_
    refine J.seq ?_
    refine J.region ?_
    refine JL.decF rfl rfl (OpP.eql rfl rfl) (by omega) ?_
    refine JL.pure rfl rfl (OpP.assign rfl) ?_
    refine JL.nil ?_
    refine J.condF rfl ?_
    refine J.seq ?_
    refine J.region ?_
    refine JL.decF rfl rfl (OpP.eql rfl rfl) (by omega) ?_
    refine JL.pure rfl rfl (OpP.assign rfl) ?_
    refine JL.nil ?_
    refine J.condF rfl ?_
    refine J.seq ?_
    refine J.region ?_
    refine JL.decF rfl rfl (OpP.eql rfl rfl) (by omega) ?_
    refine JL.pure rfl rfl (OpP.assign rfl) ?_
    refine JL.nil ?_
    refine J.condF rfl ?_
    refine J.skip ?_
    refine J.inBlock ?_
    refine J.seq ?_
    refine J.region ?_
    refine JL.pure rfl rfl (OpP.assign rfl) ?_
    refine JL.nil ?_
    refine J.ret1 rfl rfl ?_
  rotate_left 1
  focus
    refine J.seq ?_
    refine J.region ?_
    refine JL.mem rfl rfl (OpM.box rfl rfl) ?_; rintro _ _ ⟨b3, rfl, rfl⟩
    refine JL.pure rfl rfl (OpP.assign rfl) ?_
    refine JL.nil ?_
    refine J.seq ?_
    refine J.seq ?_
    refine J.region ?_
    refine JL.pure rfl rfl (OpP.fieldAddr rfl) ?_
    refine JL.read rfl rfl (OpR.load1 rfl (Cell.row .head rfl)) ?_
    refine JL.pure rfl rfl (OpP.remI rfl rfl (by omega) (by omega)) ?_
    refine JL.nil ?_
    refine J.block ?_
    refine J.seq ?_
    refine J.region ?_
    refine JL.decF rfl rfl (OpP.eql rfl rfl) (by omega) ?_
    refine JL.pure rfl rfl (OpP.assign rfl) ?_
    refine JL.nil ?_
    refine J.condF rfl ?_
    refine J.seq ?_
    refine J.region ?_
    refine JL.decT rfl rfl (OpP.eql rfl rfl) (by omega) ?_
    refine JL.pure rfl rfl (OpP.assign rfl) ?_
    refine JL.nil ?_
    refine J.condT rfl ?_
    refine J.seq ?_
    refine J.region ?_
    refine JL.pure rfl rfl (OpP.move rfl) ?_
    refine JL.pure rfl rfl (OpP.fieldAddr rfl) ?_
    refine JL.read rfl rfl (OpR.load1 rfl (Cell.row .head rfl)) ?_
    refine JL.pure rfl rfl (OpP.fieldAddr rfl) ?_
    refine JL.read rfl rfl (OpR.load1 rfl (Cell.row .head rfl)) ?_
    refine JL.f1 ?_; refine JL.step rfl rfl (OpW.call (first := []) (captured := []) inferInstance rfl rfl ETouch_ok) ?_; rintro r29 _ ⟨rfl, rfl⟩
    refine JL.pure rfl rfl (OpP.assign rfl) ?_
    refine JL.nil ?_
    refine J.ret1 rfl rfl ?_
  rotate_left 1
  focus
    refine J.seq ?_
    refine J.region ?_
    refine JL.mem rfl rfl (OpM.box rfl rfl) ?_; rintro _ _ ⟨b3, rfl, rfl⟩
    refine JL.pure rfl rfl (OpP.assign rfl) ?_
    refine JL.nil ?_
    refine J.seq ?_
    refine J.seq ?_
    refine J.region ?_
    refine JL.pure rfl rfl (OpP.fieldAddr rfl) ?_
    refine JL.read rfl rfl (OpR.load1 rfl (Cell.row .head rfl)) ?_
    refine JL.pure rfl rfl (OpP.remI rfl rfl (by omega) (by omega)) ?_
    refine JL.nil ?_
    refine J.block ?_
    refine J.seq ?_
    refine J.region ?_
    refine JL.decF rfl rfl (OpP.eql rfl rfl) (by omega) ?_
    refine JL.pure rfl rfl (OpP.assign rfl) ?_
    refine JL.nil ?_
    refine J.condF rfl ?_
    refine J.seq ?_
    refine J.region ?_
    refine JL.decF rfl rfl (OpP.eql rfl rfl) (by omega) ?_
    refine JL.pure rfl rfl (OpP.assign rfl) ?_
    refine JL.nil ?_
    refine J.condF rfl ?_
    refine J.seq ?_
    refine J.region ?_
    refine JL.decT rfl rfl (OpP.eql rfl rfl) (by omega) ?_
    refine JL.pure rfl rfl (OpP.assign rfl) ?_
    refine JL.nil ?_
    refine J.condT rfl ?_
    refine J.region ?_
    refine JL.pure rfl rfl (OpP.move rfl) ?_
    refine JL.f1 ?_; refine JL.step rfl rfl (OpW.call (first := []) (captured := []) inferInstance rfl rfl EClear_ok) ?_; rintro r33 _ ⟨rfl, rfl⟩
    refine JL.nil ?_
    refine J.inBlock ?_
    refine J.seq ?_
    refine J.region ?_
    refine JL.pure rfl rfl (OpP.assign rfl) ?_
    refine JL.nil ?_
    refine J.ret1 rfl rfl ?_
  rotate_left 1
  · exact ⟨_, ⟨by simp [doN, hk], by simp [doE, hk]; rfl⟩, fun _ h => Own.pick (pre := [_, _]) [0] rfl h⟩
  · exact ⟨_, ⟨by simp [doN, hk], by simp [doE, hk]⟩, fun _ h => Own.pick (pre := [_, _]) [1] rfl h⟩
  · exact ⟨_, ⟨by simp [doN, hk], by simp [doE, hk]⟩, fun _ h => Own.pick (pre := [_, _]) [0] rfl h⟩
  · exact ⟨_, ⟨by simp [doN, hk], by simp [doE, hk]⟩, fun _ h => Own.pick (pre := [_, _]) [0] rfl h⟩

theorem Few_ok {w0 : World} {l : List OpC} {v : Value} {n : Int} {F : List HProp} (hr : Rd w0 [] v l.length (l.flatMap ocl)) (ho : ∀ o ∈ l, o.Ok w0) (hn : n ≤ 200) :
    FnO Try.prog w0 32 [v, .int .i64 n] F (fun r l' => l' = F ∧ ∃ b, r = .bool b ∧ (b = true → l.length ≤ n ∧ ∀ o ∈ l, o.few)) := by
  obtain ⟨a, c, rfl⟩ := hr.lit
  refine FnO.intro (n := 65) Try.func32 rfl rfl rfl ?_
  refine J.seq ?_
  refine J.region ?_
  refine JL.pure rfl rfl (OpP.assign rfl) ?_
  refine JL.nil ?_
  refine J.seq ?_
  refine J.seq ?_
  refine J.region ?_
  refine JL.pure rfl rfl (OpP.assign rfl) ?_
  refine JL.nil ?_
  refine J.block ?_
  refine J.loopI (fun i : Nat => 300 - i) (fun i => i ≤ l.length ∧ i ≤ 200 ∧ ∀ j o, j < i → l[j]? = some o → o.few) (fun i => [(5, .int .i64 (i : Nat)), (0, .slice a l.length c), (1, .int .i64 n)]) (fun _ => F) 0 ⟨Nat.zero_le _, by omega, fun _ _ h => by omega⟩ (by repeat (first | exact SubEnv.nil | refine SubEnv.cons (by first | rfl | exact congrArg (fun z => some (Value.int .i64 z)) (by omega) | (simp; done)) ?_)) (fun _ h => h) (fun i ⟨hi, hi2, hf⟩ back => ?_)
  by_cases hlt : i < l.length ∧ i < 200
  · obtain ⟨o, hoi⟩ : ∃ o, l[i]? = some o := ⟨_, List.getElem?_eq_getElem hlt.1⟩
    have hok := ho o (List.mem_of_getElem? hoi)
    obtain ⟨pb, po, pcap, hpv, hpc, hc⟩ := hr.pos (by omega)
    cases hpv
    have hlen := ocl_len l
    obtain ⟨da, dc, hdv⟩ := hok.dv.lit
    obtain ⟨aa, ac, hav⟩ := hok.av.lit
    obtain ⟨ok, okey, oa, ob, ⟨oan, odv, oav, odl, oal⟩, op⟩ := o
    dsimp only at hdv hav
    subst hdv hav
    refine J.seq ?_
    refine J.seq ?_
    refine J.region ?_
    refine JL.pure rfl rfl (OpP.move rfl) ?_
    refine JL.pure rfl rfl (OpP.move rfl) ?_
    refine JL.pure rfl rfl (OpP.len rfl rfl) ?_
    refine JL.decT rfl rfl (OpP.lss rfl rfl) (by omega) ?_
    refine JL.pure rfl rfl (OpP.move rfl) ?_
    refine JL.pure rfl rfl (OpP.move rfl) ?_
    refine JL.decT rfl rfl (OpP.lss rfl rfl) (by omega) ?_
    refine JL.pure rfl rfl (OpP.pickT rfl rfl) ?_
    refine JL.nil ?_
    refine J.condT rfl ?_
    refine J.skip ?_
    refine J.seq ?_
    refine J.block ?_
    refine J.seq ?_
    refine J.region ?_
    refine JL.pure rfl rfl (OpP.move rfl) ?_
    refine JL.pure rfl rfl (OpP.move rfl) ?_
    refine JL.pure rfl rfl (OpP.indexAddr rfl rfl (by omega) (by omega)) ?_
    refine JL.pure rfl rfl (OpP.fieldAddr rfl) ?_
    refine JL.read rfl rfl (OpR.load1 rfl (by apply Cells.cellChunk (j := 1) hc (fun _ h => h.none); (case' h => assumption); (case' hi => assumption); (case' hv => rfl); (case' ho => omega); done)) ?_
    refine JL.pure rfl rfl (OpP.lenStr rfl rfl) ?_
    refine JL.dec rfl rfl (OpP.gtr rfl rfl) (fun h22 => ?_) (fun h22 => ?_)
    focus
      refine JL.pure rfl rfl (OpP.move rfl) ?_
      refine JL.skip rfl rfl ?_
      refine JL.skip rfl rfl ?_
      refine JL.skip rfl rfl ?_
      refine JL.skip rfl rfl ?_
      refine JL.skip rfl rfl ?_
      refine JL.skip rfl rfl ?_
      refine JL.skip rfl rfl ?_
      refine JL.pure rfl rfl (OpP.pickT rfl rfl) ?_
      refine JL.pure rfl rfl (OpP.move rfl) ?_
      refine JL.skip rfl rfl ?_
      refine JL.skip rfl rfl ?_
      refine JL.skip rfl rfl ?_
      refine JL.skip rfl rfl ?_
      refine JL.skip rfl rfl ?_
      refine JL.skip rfl rfl ?_
      refine JL.skip rfl rfl ?_
      refine JL.pure rfl rfl (OpP.pickT rfl rfl) ?_
      refine JL.pure rfl rfl (OpP.move rfl) ?_
      refine JL.skip rfl rfl ?_
      refine JL.skip rfl rfl ?_
      refine JL.skip rfl rfl ?_
      refine JL.skip rfl rfl ?_
      refine JL.skip rfl rfl ?_
      refine JL.skip rfl rfl ?_
      refine JL.skip rfl rfl ?_
      refine JL.skip rfl rfl ?_
      refine JL.pure rfl rfl (OpP.pickT rfl rfl) ?_
      refine JL.pure rfl rfl (OpP.move rfl) ?_
      refine JL.skip rfl rfl ?_
      refine JL.skip rfl rfl ?_
      refine JL.skip rfl rfl ?_
      refine JL.skip rfl rfl ?_
      refine JL.skip rfl rfl ?_
      refine JL.skip rfl rfl ?_
      refine JL.skip rfl rfl ?_
      refine JL.skip rfl rfl ?_
      refine JL.pure rfl rfl (OpP.pickT rfl rfl) ?_
      refine JL.nil ?_
      refine J.condT rfl ?_
      refine J.seq ?_
      refine J.region ?_
      refine JL.pure rfl rfl (OpP.assign rfl) ?_
      refine JL.nil ?_
      refine J.ret1 rfl rfl ?_
    rotate_left 1
    focus
      refine JL.pure rfl rfl (OpP.move rfl) ?_
      refine JL.pure rfl rfl (OpP.move rfl) ?_
      refine JL.pure rfl rfl (OpP.move rfl) ?_
      refine JL.pure rfl rfl (OpP.indexAddr rfl rfl (by omega) (by omega)) ?_
      refine JL.pure rfl rfl (OpP.fieldAddr rfl) ?_
      refine JL.read rfl rfl (OpR.load1 rfl (by apply Cells.cellChunk (j := 2) hc (fun _ h => h.none); (case' h => assumption); (case' hi => assumption); (case' hv => rfl); (case' ho => omega); done)) ?_
      refine JL.pure rfl rfl (OpP.lenStr rfl rfl) ?_
      refine JL.dec rfl rfl (OpP.gtr rfl rfl) (fun h30 => ?_) (fun h30 => ?_)
      focus
        refine JL.pure rfl rfl (OpP.pickF rfl rfl) ?_
        refine JL.pure rfl rfl (OpP.move rfl) ?_
        refine JL.skip rfl rfl ?_
        refine JL.skip rfl rfl ?_
        refine JL.skip rfl rfl ?_
        refine JL.skip rfl rfl ?_
        refine JL.skip rfl rfl ?_
        refine JL.skip rfl rfl ?_
        refine JL.skip rfl rfl ?_
        refine JL.pure rfl rfl (OpP.pickT rfl rfl) ?_
        refine JL.pure rfl rfl (OpP.move rfl) ?_
        refine JL.skip rfl rfl ?_
        refine JL.skip rfl rfl ?_
        refine JL.skip rfl rfl ?_
        refine JL.skip rfl rfl ?_
        refine JL.skip rfl rfl ?_
        refine JL.skip rfl rfl ?_
        refine JL.skip rfl rfl ?_
        refine JL.skip rfl rfl ?_
        refine JL.pure rfl rfl (OpP.pickT rfl rfl) ?_
        refine JL.pure rfl rfl (OpP.move rfl) ?_
        refine JL.skip rfl rfl ?_
        refine JL.skip rfl rfl ?_
        refine JL.skip rfl rfl ?_
        refine JL.skip rfl rfl ?_
        refine JL.skip rfl rfl ?_
        refine JL.skip rfl rfl ?_
        refine JL.skip rfl rfl ?_
        refine JL.skip rfl rfl ?_
        refine JL.pure rfl rfl (OpP.pickT rfl rfl) ?_
        refine JL.nil ?_
        refine J.condT rfl ?_
        refine J.seq ?_
        refine J.region ?_
        refine JL.pure rfl rfl (OpP.assign rfl) ?_
        refine JL.nil ?_
        refine J.ret1 rfl rfl ?_
      rotate_left 1
      focus
        refine JL.pure rfl rfl (OpP.pickF rfl rfl) ?_
        refine JL.pure rfl rfl (OpP.move rfl) ?_
        refine JL.pure rfl rfl (OpP.move rfl) ?_
        refine JL.pure rfl rfl (OpP.move rfl) ?_
        refine JL.pure rfl rfl (OpP.indexAddr rfl rfl (by omega) (by omega)) ?_
        refine JL.pure rfl rfl (OpP.fieldAddr rfl) ?_
        refine JL.read rfl rfl (OpR.load1 rfl (by apply Cells.cellChunk (j := 3) hc (fun _ h => h.none); (case' h => assumption); (case' hi => assumption); (case' hv => rfl); (case' ho => omega); done)) ?_
        refine JL.pure rfl rfl (OpP.lenStr rfl rfl) ?_
        refine JL.dec rfl rfl (OpP.gtr rfl rfl) (fun h39 => ?_) (fun h39 => ?_)
        focus
          refine JL.pure rfl rfl (OpP.pickF rfl rfl) ?_
          refine JL.pure rfl rfl (OpP.move rfl) ?_
          refine JL.skip rfl rfl ?_
          refine JL.skip rfl rfl ?_
          refine JL.skip rfl rfl ?_
          refine JL.skip rfl rfl ?_
          refine JL.skip rfl rfl ?_
          refine JL.skip rfl rfl ?_
          refine JL.skip rfl rfl ?_
          refine JL.skip rfl rfl ?_
          refine JL.pure rfl rfl (OpP.pickT rfl rfl) ?_
          refine JL.pure rfl rfl (OpP.move rfl) ?_
          refine JL.skip rfl rfl ?_
          refine JL.skip rfl rfl ?_
          refine JL.skip rfl rfl ?_
          refine JL.skip rfl rfl ?_
          refine JL.skip rfl rfl ?_
          refine JL.skip rfl rfl ?_
          refine JL.skip rfl rfl ?_
          refine JL.skip rfl rfl ?_
          refine JL.pure rfl rfl (OpP.pickT rfl rfl) ?_
          refine JL.nil ?_
          refine J.condT rfl ?_
          refine J.seq ?_
          refine J.region ?_
          refine JL.pure rfl rfl (OpP.assign rfl) ?_
          refine JL.nil ?_
          refine J.ret1 rfl rfl ?_
        rotate_left 1
        focus
          refine JL.pure rfl rfl (OpP.pickF rfl rfl) ?_
          refine JL.pure rfl rfl (OpP.move rfl) ?_
          refine JL.pure rfl rfl (OpP.move rfl) ?_
          refine JL.pure rfl rfl (OpP.move rfl) ?_
          refine JL.pure rfl rfl (OpP.indexAddr rfl rfl (by omega) (by omega)) ?_
          refine JL.pure rfl rfl (OpP.fieldAddr rfl) ?_
          refine JL.pure rfl rfl (OpP.fieldAddr rfl) ?_
          refine JL.read rfl rfl (OpR.load1 rfl (by apply Cells.cellChunk (j := 5) hc (fun _ h => h.none); (case' h => assumption); (case' hi => assumption); (case' hv => rfl); (case' ho => omega); done)) ?_
          refine JL.pure rfl rfl (OpP.len rfl rfl) ?_
          refine JL.dec rfl rfl (OpP.gtr rfl rfl) (fun h49 => ?_) (fun h49 => ?_)
          focus
            refine JL.pure rfl rfl (OpP.pickF rfl rfl) ?_
            refine JL.pure rfl rfl (OpP.move rfl) ?_
            refine JL.skip rfl rfl ?_
            refine JL.skip rfl rfl ?_
            refine JL.skip rfl rfl ?_
            refine JL.skip rfl rfl ?_
            refine JL.skip rfl rfl ?_
            refine JL.skip rfl rfl ?_
            refine JL.skip rfl rfl ?_
            refine JL.skip rfl rfl ?_
            refine JL.pure rfl rfl (OpP.pickT rfl rfl) ?_
            refine JL.nil ?_
            refine J.condT rfl ?_
            refine J.seq ?_
            refine J.region ?_
            refine JL.pure rfl rfl (OpP.assign rfl) ?_
            refine JL.nil ?_
            refine J.ret1 rfl rfl ?_
          rotate_left 1
          focus
            refine JL.pure rfl rfl (OpP.pickF rfl rfl) ?_
            refine JL.pure rfl rfl (OpP.move rfl) ?_
            refine JL.pure rfl rfl (OpP.move rfl) ?_
            refine JL.pure rfl rfl (OpP.move rfl) ?_
            refine JL.pure rfl rfl (OpP.indexAddr rfl rfl (by omega) (by omega)) ?_
            refine JL.pure rfl rfl (OpP.fieldAddr rfl) ?_
            refine JL.pure rfl rfl (OpP.fieldAddr rfl) ?_
            refine JL.read rfl rfl (OpR.load1 rfl (by apply Cells.cellChunk (j := 6) hc (fun _ h => h.none); (case' h => assumption); (case' hi => assumption); (case' hv => rfl); (case' ho => omega); done)) ?_
            refine JL.pure rfl rfl (OpP.len rfl rfl) ?_
            refine JL.dec rfl rfl (OpP.gtr rfl rfl) (fun h59 => ?_) (fun h59 => ?_)
            focus
              refine JL.pure rfl rfl (OpP.pickF rfl rfl) ?_
              refine JL.nil ?_
              refine J.condT rfl ?_
              refine J.seq ?_
              refine J.region ?_
              refine JL.pure rfl rfl (OpP.assign rfl) ?_
              refine JL.nil ?_
              refine J.ret1 rfl rfl ?_
            rotate_left 1
            focus
              refine JL.pure rfl rfl (OpP.pickF rfl rfl) ?_
              refine JL.nil ?_
              refine J.condF rfl ?_
              refine J.skip ?_
              refine J.inBlock ?_
              refine J.region ?_
              refine JL.pure rfl rfl (OpP.move rfl) ?_
              refine JL.pure rfl rfl (OpP.addI rfl rfl (by omega) (by omega)) ?_
              refine JL.pure rfl rfl (OpP.assign rfl) ?_
              refine JL.nil ?_
            rotate_left 1
          rotate_left 2
        rotate_left 3
      rotate_left 4
    rotate_left 5
    all_goals (try exact ⟨rfl, _, rfl, fun h => absurd h Bool.false_ne_true⟩)
    refine back (i + 1) ⟨by omega, by omega, fun j o hj hjo => ?_⟩ (by omega) (by repeat (first | exact SubEnv.nil | refine SubEnv.cons (by first | rfl | exact congrArg (fun z => some (Value.int .i64 z)) (by omega) | (simp; done)) ?_)) (fun _ h => h)
    by_cases hji : j < i
    · exact hf j o hji hjo
    · obtain rfl : j = i := by omega
      rw [hoi] at hjo; cases hjo
      show odl.length ≤ 20 ∧ oal.length ≤ 20
      omega
  · refine J.seq ?_
    refine J.seq ?_
    refine J.region ?_
    refine JL.pure rfl rfl (OpP.move rfl) ?_
    refine JL.pure rfl rfl (OpP.move rfl) ?_
    refine JL.pure rfl rfl (OpP.len rfl rfl) ?_
    refine JL.dec rfl rfl (OpP.lss rfl rfl) (fun h9 => ?_) (fun h9 => ?_)
    focus
      refine JL.pure rfl rfl (OpP.move rfl) ?_
      refine JL.pure rfl rfl (OpP.move rfl) ?_
      refine JL.decF rfl rfl (OpP.lss rfl rfl) (by omega) ?_
      refine JL.pure rfl rfl (OpP.pickT rfl rfl) ?_
      refine JL.nil ?_
      refine J.condF rfl ?_
      refine J.exit rfl ?_
      refine J.seq ?_
      refine J.region ?_
      refine JL.pure rfl rfl (OpP.move rfl) ?_
      refine JL.pure rfl rfl (OpP.len rfl rfl) ?_
      refine JL.pure rfl rfl (OpP.move rfl) ?_
      refine JL.decF rfl rfl (OpP.leq rfl rfl) (by omega) ?_
      refine JL.pure rfl rfl (OpP.assign rfl) ?_
      refine JL.nil ?_
      refine J.ret1 rfl rfl ?_
    rotate_left 1
    focus
      refine JL.pure rfl rfl (OpP.move rfl) ?_
      refine JL.skip rfl rfl ?_
      refine JL.skip rfl rfl ?_
      refine JL.pure rfl rfl (OpP.pickF rfl rfl) ?_
      refine JL.nil ?_
      refine J.condF rfl ?_
      refine J.exit rfl ?_
      refine J.seq ?_
      refine J.region ?_
      refine JL.pure rfl rfl (OpP.move rfl) ?_
      refine JL.pure rfl rfl (OpP.len rfl rfl) ?_
      refine JL.pure rfl rfl (OpP.move rfl) ?_
      refine JL.dec rfl rfl (OpP.leq rfl rfl) (fun h64 => ?_) (fun h64 => ?_)
      focus
        refine JL.pure rfl rfl (OpP.assign rfl) ?_
        refine JL.nil ?_
        refine J.ret1 rfl rfl ?_
      rotate_left 1
      focus
        refine JL.pure rfl rfl (OpP.assign rfl) ?_
        refine JL.nil ?_
        refine J.ret1 rfl rfl ?_
      rotate_left 1
    rotate_left 2
    all_goals (try exact ⟨rfl, _, rfl, fun h => absurd h Bool.false_ne_true⟩)
    refine ⟨rfl, _, rfl, fun _ => ⟨by assumption, fun o ho => ?_⟩⟩
    obtain ⟨j, hj⟩ := List.getElem?_of_mem ho
    exact hf j o (by have := (List.getElem?_eq_some_iff.1 hj).1; omega) hj
end Go.Proofs.A
