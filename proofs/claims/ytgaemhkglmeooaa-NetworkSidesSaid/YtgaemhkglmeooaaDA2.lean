/- A text of the proof of a statement about the given program: its part DA2. No person has read it. -/
import Derived.Test.YtgaemhkglmeooaaDA1
import Derived.Test.YtgaemhkglmeooaaDJ2
-- seat d
namespace Go.Proofs.D
open Go Go.Gp Go.RowKit

/-! Documents, as they lie in memory. -/
structure Ru where
  permit : Bool
  name : Str
  hasIf : Bool
  e : Ex
  da : Option Addr
  dn : Nat
  dc : Nat
  aa : Option Addr
  an : Nat
  ac : Nat
abbrev ucl (r : Ru) : List Value := [.bool r.permit, .string r.name, .bool r.hasIf, .string r.e.op, .int .i64 r.e.v.k, .int .i64 r.e.v.i, .string (strB r.e.v.s), .slice r.e.v.a r.e.v.xs.length r.e.v.c, .string r.e.who, .string r.e.name, .slice r.e.a r.e.ps.length r.e.c, .slice r.da r.dn r.dc, .slice r.aa r.an r.ac]
structure Po where
  name : Str
  by_ : Str
  use : Str
  hasFor : Bool
  e : Ex
  rs : List Ru
  a : Option Addr
  c : Nat
abbrev pc13 (name by_ use : Str) (hasFor : Bool) (e : Ex) (a : Option Addr) (n c : Nat) : List Value := [.string name, .string by_, .string use, .bool hasFor, .string e.op, .int .i64 e.v.k, .int .i64 e.v.i, .string (strB e.v.s), .slice e.v.a e.v.xs.length e.v.c, .string e.who, .string e.name, .slice e.a e.ps.length e.c, .slice a n c]
abbrev pcl (p : Po) : List Value := pc13 p.name p.by_ p.use p.hasFor p.e p.a p.rs.length p.c
structure Dc where
  fa : Option Addr
  fn : Nat
  fc : Nat
  use : Str
  ps : List Po
  a : Option Addr
  c : Nat
abbrev dcl (d : Dc) : List Value := [.slice d.fa d.fn d.fc, .string d.use, .slice d.a d.ps.length d.c]
def PoOk (w0 : World) (p : Po) : Prop := ExOk w0 p.e ∧ (∀ l, RdO w0 l (.slice p.a p.rs.length p.c) p.rs.length (p.rs.flatMap ucl)) ∧ p.rs.length ≤ maxLen ∧ ∀ r ∈ p.rs, ExOk w0 r.e
/-- Of a size that is looked at. -/
structure PoT (w0 : World) (p : Po) : Prop where
  e : Tr w0 p.e
  hr : ∀ l, RdO w0 l (.slice p.a p.rs.length p.c) p.rs.length (p.rs.flatMap ucl)
  n : p.rs.length ≤ 8
  ru : ∀ r ∈ p.rs, Tr w0 r.e
structure DcT (w0 : World) (d : Dc) : Prop where
  hr : ∀ l, RdO w0 l (.slice d.a d.ps.length d.c) d.ps.length (d.ps.flatMap pcl)
  n : d.ps.length ≤ 6
  po : ∀ p ∈ d.ps, PoT w0 p
theorem slice_lit {w0 : World} {t e : Nat} {c : Value} (ht : Try.prog.underlying t = some (.slice e)) (h : Fm Try.prog w0 t [c]) : ∃ (a : Option Addr) (n k : Nat), c = .slice a n k ∧ n ≤ maxLen := by
  rcases h.slice ht with h0 | ⟨a, n, k, h0, h1, h2, _⟩
  · simp at h0; exact ⟨_, _, _, h0, Nat.zero_le _⟩
  · simp at h0; exact ⟨_, _, _, h0, Nat.le_trans h1 h2⟩
theorem Fm.ru {w0 : World} {cs : List Value} (h : Fm Try.prog w0 62 cs) : ∃ r : Ru, ExOk w0 r.e ∧ cs = ucl r := by
  have h := h.fields (l := [(4, 1), (9, 1), (4, 1), (27, 8), (60, 1), (60, 1)]) (by kernel_rfl)
  obtain ⟨c0, cs, rfl, f0, h⟩ := h.one
  obtain ⟨c1, cs, rfl, f1, h⟩ := h.one
  obtain ⟨c2, cs, rfl, f2, h⟩ := h.one
  obtain ⟨d, cs, rfl, _, f3, h⟩ := h.many
  obtain ⟨c4, cs, rfl, f4, h⟩ := h.one
  obtain ⟨c5, cs, rfl, f5, h⟩ := h.one
  cases h
  obtain ⟨permit, e0⟩ := f0.bool (by kernel_rfl)
  obtain ⟨name, e1, _⟩ := f1.str (by kernel_rfl)
  obtain ⟨hasIf, e2⟩ := f2.bool (by kernel_rfl)
  obtain ⟨e, he, rfl⟩ := Fm.tree f3
  obtain ⟨da, dn, dc, rfl, _⟩ := slice_lit (e := 9) (by kernel_rfl) f4
  obtain ⟨aa, an, ac, rfl, _⟩ := slice_lit (e := 9) (by kernel_rfl) f5
  cases e0; cases e1; cases e2
  exact ⟨⟨permit, name, hasIf, e, da, dn, dc, aa, an, ac⟩, he, rfl⟩
theorem Fm.po {w0 : World} {cs : List Value} (h : Fm Try.prog w0 51 cs) : ∃ p : Po, PoOk w0 p ∧ cs = pcl p := by
  have h := h.fields (l := [(9, 1), (9, 1), (9, 1), (4, 1), (27, 8), (49, 1)]) (by kernel_rfl)
  obtain ⟨c0, cs, rfl, f0, h⟩ := h.one
  obtain ⟨c1, cs, rfl, f1, h⟩ := h.one
  obtain ⟨c2, cs, rfl, f2, h⟩ := h.one
  obtain ⟨c3, cs, rfl, f3, h⟩ := h.one
  obtain ⟨d, cs, rfl, _, f4, h⟩ := h.many
  obtain ⟨c5, cs, rfl, f5, h⟩ := h.one
  cases h
  obtain ⟨name, e0, _⟩ := f0.str (by kernel_rfl)
  obtain ⟨by_, e1, _⟩ := f1.str (by kernel_rfl)
  obtain ⟨use, e2, _⟩ := f2.str (by kernel_rfl)
  obtain ⟨hasFor, e3⟩ := f3.bool (by kernel_rfl)
  obtain ⟨e, he, rfl⟩ := Fm.tree f4
  obtain ⟨rs, hl, hm, hr⟩ := Fm.rows (f := ucl) (Q := fun r => ExOk w0 r.e) (e := 62) (by kernel_rfl) (sz := 13) (by kernel_rfl) (by decide) f5 fun cs _ hf => Fm.ru hf
  obtain ⟨a, c, q⟩ := (hr []).lit
  cases q
  cases e0; cases e1; cases e2; cases e3
  exact ⟨⟨name, by_, use, hasFor, e, rs, a, c⟩, ⟨he, fun l => (hr l).o, hm, fun r hr => (hl r hr).1⟩, rfl⟩
end Go.Proofs.D

-- seat d
namespace Go.Proofs.D
open Go Go.Gp Go.RowKit

/-! Nodes. -/
structure Nd where
  k : Int
  p : Int
  o : Int
  t : Ex
abbrev n11 (k p o : Int) (e : Ex) : List Value := [.int .i64 k, .int .i64 p, .int .i64 o, .string e.op, .int .i64 e.v.k, .int .i64 e.v.i, .string (strB e.v.s), .slice e.v.a e.v.xs.length e.v.c, .string e.who, .string e.name, .slice e.a e.ps.length e.c]
abbrev ncl (n : Nd) : List Value := n11 n.k n.p n.o n.t
/-- By what a node is known. -/
def key (n : Nd) : Int × Int × Int × Nf := (n.k, n.p, n.o, enf n.t)
theorem key_iff {x y : Nd} : key y = key x ↔ y.k = x.k ∧ y.p = x.p ∧ y.o = x.o ∧ enf y.t = enf x.t := by simp [key]
open Classical in
noncomputable def place (ns : List Nd) (x : Nd) : Nat := ns.findIdx fun y => decide (key y = key x)
noncomputable def nodeN (ns : List Nd) (x : Nd) : List Nd := if place ns x < ns.length then ns else ns ++ [x]
theorem place_none {ns : List Nd} {x : Nd} (h : ∀ (j : Nat) (y : Nd), j < ns.length → ns[j]? = some y → key y ≠ key x) : place ns x = ns.length := by
  rw [place, List.findIdx_eq_length]
  intro y hy
  obtain ⟨j, hj⟩ := List.getElem?_of_mem hy
  simpa using h j y (List.getElem?_eq_some_iff.1 hj).1 hj
theorem place_at {ns : List Nd} {x y : Nd} {i : Nat} (hi : ns[i]? = some y) (hy : key y = key x) (h : ∀ (j : Nat) (y : Nd), j < i → ns[j]? = some y → key y ≠ key x) : place ns x = i := by
  have hl := (List.getElem?_eq_some_iff.1 hi).1
  rw [place, List.findIdx_eq hl]
  have e : ns[i] = y := (List.getElem?_eq_some_iff.1 hi).2
  refine ⟨by simpa [e] using hy, fun j hj => ?_⟩
  have := h j ns[j] hj (List.getElem?_eq_getElem (by omega))
  simpa using this
theorem nodeN_len (ns : List Nd) (x : Nd) : ns.length ≤ (nodeN ns x).length ∧ (nodeN ns x).length ≤ ns.length + 1 := by
  rw [nodeN]
  split
  · omega
  · simp
theorem nodeN_old {ns : List Nd} {x : Nd} (h : place ns x < ns.length) : nodeN ns x = ns := if_pos h
theorem nodeN_new {ns : List Nd} {x : Nd} (h : place ns x = ns.length) : nodeN ns x = ns ++ [x] := if_neg (by omega)
theorem nodeN_all {P : Nd → Prop} {ns : List Nd} {x : Nd} (h : ∀ y ∈ ns, P y) (hx : P x) : ∀ y ∈ nodeN ns x, P y := by
  rw [nodeN]
  split
  · exact h
  · intro y hy
    rcases List.mem_append.1 hy with hy | hy
    · exact h y hy
    · rw [List.mem_singleton.1 hy]; exact hx
theorem nodeEq_ok {w0 : World} {F : List HProp} {b3 : Nat} {x y : Nd} (hx : Tr w0 x.t) (hy : Tr w0 y.t) :
    FnO Try.prog w0 41 [.agg (ncl y).toArray, .pointer (some ⟨b3, 0, none⟩)] (row b3 45 (ncl x) :: F) (fun r l' => ∃ b, r = .bool b ∧ l' = row b3 45 (ncl x) :: F ∧ (b = true ↔ key y = key x)) := by
  have sm := fun (G : List HProp) => same_ok' (F := G) hy hx
  rw [key_iff]
  refine FnO.weak ?_
  refine FnO.intro (n := 30) Try.func41 rfl rfl rfl ?_
  refine J.seq ?_
  refine J.region ?_
  refine JL.mem rfl rfl (OpM.box rfl rfl) ?_; rintro _ _ ⟨b2, rfl, rfl⟩
  refine JL.pure rfl rfl (OpP.assign rfl) ?_
  refine JL.nil ?_
  refine J.seq ?_
  refine J.region ?_
  refine JL.pure rfl rfl (OpP.fieldAddr rfl) ?_
  refine JL.read rfl rfl (OpR.load1 rfl (Cell.row .head rfl)) ?_
  refine JL.pure rfl rfl (OpP.fieldAddr rfl) ?_
  refine JL.read rfl rfl (OpR.load1 rfl (Cell.row (.tail .head) rfl)) ?_
  refine JL.dec rfl rfl (OpP.eql rfl rfl) (fun h8 => ?_) (fun h8 => ?_)
  focus
    refine JL.pure rfl rfl (OpP.move rfl) ?_
    refine JL.pure rfl rfl (OpP.fieldAddr rfl) ?_
    refine JL.read rfl rfl (OpR.load1 rfl (Cell.row .head rfl)) ?_
    refine JL.pure rfl rfl (OpP.fieldAddr rfl) ?_
    refine JL.read rfl rfl (OpR.load1 rfl (Cell.row (.tail .head) rfl)) ?_
    refine JL.dec rfl rfl (OpP.eql rfl rfl) (fun h14 => ?_) (fun h14 => ?_)
    focus
      refine JL.pure rfl rfl (OpP.pickT rfl rfl) ?_
      refine JL.pure rfl rfl (OpP.move rfl) ?_
      refine JL.pure rfl rfl (OpP.fieldAddr rfl) ?_
      refine JL.read rfl rfl (OpR.load1 rfl (Cell.row .head rfl)) ?_
      refine JL.pure rfl rfl (OpP.fieldAddr rfl) ?_
      refine JL.read rfl rfl (OpR.load1 rfl (Cell.row (.tail .head) rfl)) ?_
      refine JL.dec rfl rfl (OpP.eql rfl rfl) (fun h21 => ?_) (fun h21 => ?_)
      focus
        refine JL.pure rfl rfl (OpP.pickT rfl rfl) ?_
        refine JL.pure rfl rfl (OpP.move rfl) ?_
        refine JL.pure rfl rfl (OpP.fieldAddr rfl) ?_
        refine JL.read rfl rfl (OpR.loadN rfl (Cells.sub 8 .head rfl) rfl) ?_
        refine JL.pure rfl rfl (OpP.fieldAddr rfl) ?_
        refine JL.read rfl rfl (OpR.loadN rfl (Cells.sub 8 (.tail .head) rfl) rfl) ?_
        refine JL.step rfl rfl (OpW.call (first := []) (captured := []) inferInstance rfl rfl (sm _)) ?_; rintro r28 _ ⟨b, ⟨rfl, ⟨rfl, h28⟩⟩⟩
        refine JL.pure rfl rfl (OpP.pickT rfl rfl) ?_
        refine JL.pure rfl rfl (OpP.assign rfl) ?_
        refine JL.nil ?_
        refine J.ret1 rfl rfl ?_
      rotate_left 1
      focus
        refine JL.pure rfl rfl (OpP.pickT rfl rfl) ?_
        refine JL.pure rfl rfl (OpP.move rfl) ?_
        refine JL.skip rfl rfl ?_
        refine JL.skip rfl rfl ?_
        refine JL.skip rfl rfl ?_
        refine JL.skip rfl rfl ?_
        refine JL.skip rfl rfl ?_
        refine JL.pure rfl rfl (OpP.pickF rfl rfl) ?_
        refine JL.pure rfl rfl (OpP.assign rfl) ?_
        refine JL.nil ?_
        refine J.ret1 rfl rfl ?_
      rotate_left 1
    rotate_left 2
    focus
      refine JL.pure rfl rfl (OpP.pickT rfl rfl) ?_
      refine JL.pure rfl rfl (OpP.move rfl) ?_
      refine JL.skip rfl rfl ?_
      refine JL.skip rfl rfl ?_
      refine JL.skip rfl rfl ?_
      refine JL.skip rfl rfl ?_
      refine JL.skip rfl rfl ?_
      refine JL.pure rfl rfl (OpP.pickF rfl rfl) ?_
      refine JL.pure rfl rfl (OpP.move rfl) ?_
      refine JL.skip rfl rfl ?_
      refine JL.skip rfl rfl ?_
      refine JL.skip rfl rfl ?_
      refine JL.skip rfl rfl ?_
      refine JL.skip rfl rfl ?_
      refine JL.pure rfl rfl (OpP.pickF rfl rfl) ?_
      refine JL.pure rfl rfl (OpP.assign rfl) ?_
      refine JL.nil ?_
      refine J.ret1 rfl rfl ?_
    rotate_left 1
  rotate_left 3
  focus
    refine JL.pure rfl rfl (OpP.move rfl) ?_
    refine JL.skip rfl rfl ?_
    refine JL.skip rfl rfl ?_
    refine JL.skip rfl rfl ?_
    refine JL.skip rfl rfl ?_
    refine JL.skip rfl rfl ?_
    refine JL.pure rfl rfl (OpP.pickF rfl rfl) ?_
    refine JL.pure rfl rfl (OpP.move rfl) ?_
    refine JL.skip rfl rfl ?_
    refine JL.skip rfl rfl ?_
    refine JL.skip rfl rfl ?_
    refine JL.skip rfl rfl ?_
    refine JL.skip rfl rfl ?_
    refine JL.pure rfl rfl (OpP.pickF rfl rfl) ?_
    refine JL.pure rfl rfl (OpP.move rfl) ?_
    refine JL.skip rfl rfl ?_
    refine JL.skip rfl rfl ?_
    refine JL.skip rfl rfl ?_
    refine JL.skip rfl rfl ?_
    refine JL.skip rfl rfl ?_
    refine JL.pure rfl rfl (OpP.pickF rfl rfl) ?_
    refine JL.pure rfl rfl (OpP.assign rfl) ?_
    refine JL.nil ?_
    refine J.ret1 rfl rfl ?_
  rotate_left 1
  · exact ⟨_, ⟨b, rfl, rfl, by simp_all⟩, fun _ h => h.tail⟩
  · exact ⟨_, ⟨false, rfl, rfl, ⟨(fun q => by cases q), fun q => by simp_all⟩⟩, fun _ h => h.tail⟩
  · exact ⟨_, ⟨false, rfl, rfl, ⟨(fun q => by cases q), fun q => by simp_all⟩⟩, fun _ h => h.tail⟩
  · exact ⟨_, ⟨false, rfl, rfl, ⟨(fun q => by cases q), fun q => by simp_all⟩⟩, fun _ h => h.tail⟩
theorem idxNode_ok {w0 : World} {F : List HProp} {a : Option Addr} {c b3 : Nat} {ns : List Nd} {x : Nd} (hl : ns.length ≤ 100000) (hr : RdO w0 F (.slice a ns.length c) ns.length (ns.flatMap ncl))
    (hcl : ∀ y ∈ ns, FnO Try.prog w0 41 [.agg (ncl y).toArray, .pointer (some ⟨b3, 0, none⟩)] F (fun r l' => ∃ b, r = .bool b ∧ l' = F ∧ (b = true ↔ key y = key x))) :
    FnO Try.prog w0 40 [.slice a ns.length c, .func (.func 41) #[] #[.pointer (some ⟨b3, 0, none⟩)]] F (fun u l' => ∃ i : Int, u = .int .i64 i ∧ l' = F ∧ (i = (place ns x : Nat) ∧ place ns x < ns.length ∨ i = -1 ∧ place ns x = ns.length)) := by
  have hlen : ∀ p ∈ ns, (ncl p).length = 11 := fun _ _ => rfl
  refine FnO.rd hr fun hr1 => ?_
  refine FnO.intro (n := 19) Try.func40 rfl rfl rfl ?_
  refine J.seq ?_
  refine J.region ?_
  refine JL.pure rfl rfl (OpP.assign rfl) ?_
  refine JL.nil ?_
  refine J.seq ?_
  refine J.seq ?_
  refine J.region ?_
  refine JL.pure rfl rfl (OpP.move rfl) ?_
  refine JL.pure rfl rfl (OpP.len rfl rfl) ?_
  refine JL.pure rfl rfl (OpP.move rfl) ?_
  refine JL.nil ?_
  refine J.block ?_
  refine J.loopI (fun i : Nat => ns.length - i) (fun i => i ≤ ns.length ∧ ∀ (j : Nat) (y : Nd), j < i → ns[j]? = some y → key y ≠ key x) (fun i => [(8, .int .i64 (i : Nat)), (7, .int .i64 ns.length), (0, .slice a ns.length c), (1, .func (.func 41) #[] #[.pointer (some ⟨b3, 0, none⟩)])]) (fun _ => F) 0 ⟨Nat.zero_le _, fun _ _ h => absurd h (Nat.not_lt_zero _)⟩ (by repeat (first | exact SubEnv.nil | refine SubEnv.cons (by first | rfl | exact congrArg (fun z => some (Value.int .i64 z)) (by omega) | (simp; done)) ?_)) (fun _ h => h) (fun i ⟨hi, hf⟩ back => ?_)
  by_cases hlt : i < ns.length
  · obtain ⟨p, hp⟩ : ∃ x, ns[i]? = some x := ⟨_, List.getElem?_eq_getElem hlt⟩
    have hpm := List.mem_of_getElem? hp
    have hc := hcl p hpm
    obtain ⟨ga, pa, qa, ea, ka, hcs⟩ := hr1.pos (by omega)
    cases ea
    refine J.seq ?_
    refine J.region ?_
    refine JL.decT rfl rfl (OpP.lss rfl rfl) (by omega) ?_
    refine JL.nil ?_
    refine J.seq ?_
    refine J.condT rfl ?_
    refine J.skip ?_
    refine J.seq ?_
    refine J.block ?_
    refine J.seq ?_
    refine J.region ?_
    refine JL.pure rfl rfl (OpP.move rfl) ?_
    refine JL.pure rfl rfl (OpP.assign rfl) ?_
    refine JL.nil ?_
    refine J.seq ?_
    refine J.region ?_
    refine JL.pure rfl rfl (OpP.move rfl) ?_
    refine JL.pure rfl rfl (OpP.move rfl) ?_
    refine JL.pure rfl rfl (OpP.move rfl) ?_
    refine JL.pure rfl rfl (OpP.indexAddr rfl rfl (by omega) (by omega)) ?_
    refine JL.read rfl rfl (OpR.loadN rfl (by apply Cells.conv (fun _ h => h); apply Cells.chunkAt hcs; (case' h => assumption); (case' hi => assumption); done) (by first | rfl | assumption)) ?_
    refine JL.step rfl rfl (OpW.call (first := []) (captured := [_]) inferInstance rfl rfl hc) ?_; rintro r16 _ ⟨b, ⟨rfl, ⟨rfl, h16⟩⟩⟩
    refine JL.nil ?_
    refine J.splitAt 16 rfl (fun h16 => ?_) (fun h16 => ?_)
    focus
      refine J.condT rfl ?_
      refine J.seq ?_
      refine J.region ?_
      refine JL.pure rfl rfl (OpP.move rfl) ?_
      refine JL.pure rfl rfl (OpP.assign rfl) ?_
      refine JL.nil ?_
      refine J.ret1 rfl rfl ?_
    rotate_left 1
    focus
      refine J.condF rfl ?_
      refine J.skip ?_
      refine J.inBlock ?_
      refine J.region ?_
      refine JL.pure rfl rfl (OpP.addI rfl rfl (by omega) (by omega)) ?_
      refine JL.pure rfl rfl (OpP.move rfl) ?_
      refine JL.nil ?_
    rotate_left 1
    · have e : place ns x = i := place_at hp (by simp_all) hf
      exact ⟨_, rfl, rfl, .inl ⟨by rw [e], by omega⟩⟩
    · refine back (i + 1) ⟨by omega, fun j y hj hy => ?_⟩ (by omega) (by repeat (first | exact SubEnv.nil | refine SubEnv.cons (by first | rfl | exact congrArg (fun z => some (Value.int .i64 z)) (by omega) | (simp; done)) ?_)) (fun _ h => h)
      by_cases hji : j < i
      · exact hf j y hji hy
      · obtain rfl : j = i := by omega
        obtain rfl : y = p := Option.some.inj (hy.symm.trans hp)
        simp_all
  · refine J.seq ?_
    refine J.region ?_
    refine JL.decF rfl rfl (OpP.lss rfl rfl) (by omega) ?_
    refine JL.nil ?_
    refine J.seq ?_
    refine J.condF rfl ?_
    refine J.exit rfl ?_
    refine J.seq ?_
    refine J.region ?_
    refine JL.pure rfl rfl (OpP.assign rfl) ?_
    refine JL.nil ?_
    refine J.ret1 rfl rfl ?_
    exact ⟨_, rfl, rfl, .inr ⟨rfl, place_none fun j y hj hy => hf j y (by omega) hy⟩⟩
theorem node_ok {w0 : World} {F : List HProp} {a : Option Addr} {c bm : Nat} {pv : Value} {ns : List Nd} {x : Nd} (hl : ns.length ≤ 90000) (ht : ∀ y ∈ ns, Tr w0 y.t) (hx : Tr w0 x.t) :
    FnO Try.prog w0 36 [.pointer (some ⟨bm, 0, none⟩), .agg (ncl x).toArray] (row bm 65 [.slice a ns.length c, pv] :: own 45 11 (.slice a ns.length c) ns.length (ns.flatMap ncl) :: F)
      (fun u l' => ∃ a' c', u = .int .i64 (place ns x : Nat) ∧ l' = row bm 65 [.slice a' (nodeN ns x).length c', pv] :: own 45 11 (.slice a' (nodeN ns x).length c') (nodeN ns x).length ((nodeN ns x).flatMap ncl) :: F) := by
  refine FnO.weak ?_
  refine FnO.intro (n := 35) Try.func36 rfl rfl rfl ?_
  have hcl := fun (b3 : Nat) (G : List HProp) (y : Nd) (hy : y ∈ ns) => nodeEq_ok (F := G) (b3 := b3) hx (ht y hy)
  refine J.seq ?_
  refine J.region ?_
  refine JL.mem rfl rfl (OpM.box rfl rfl) ?_; rintro _ _ ⟨b3, rfl, rfl⟩
  refine JL.pure rfl rfl (OpP.assign rfl) ?_
  refine JL.nil ?_
  refine J.seq ?_
  refine J.region ?_
  refine JL.pure rfl rfl (OpP.move rfl) ?_
  refine JL.pure rfl rfl (OpP.nilCheck rfl) ?_
  refine JL.pure rfl rfl (OpP.fieldAddr rfl) ?_
  refine JL.pure rfl rfl (OpP.fieldAddr rfl) ?_
  refine JL.read rfl rfl (OpR.load1 rfl (Cell.row (.tail .head) rfl)) ?_
  refine JL.pure rfl rfl (OpP.makeFunc rfl rfl) ?_
  refine JL.step rfl rfl (OpW.call (first := []) (captured := []) inferInstance rfl rfl (idxNode_ok (x := x) (by omega) (RdO.own (.tail (.tail .head))) (hcl _ _))) ?_; rintro r12 _ ⟨i, ⟨rfl, ⟨rfl, (⟨rfl, h12⟩ | ⟨rfl, h121⟩)⟩⟩⟩
  focus
    refine JL.pure rfl rfl (OpP.assign rfl) ?_
    refine JL.nil ?_
    refine J.seq ?_
    refine J.seq ?_
    refine J.region ?_
    refine JL.pure rfl rfl (OpP.move rfl) ?_
    refine JL.decT rfl rfl (OpP.geq rfl rfl) (by omega) ?_
    refine JL.nil ?_
    refine J.condT rfl ?_
    refine J.seq ?_
    refine J.region ?_
    refine JL.pure rfl rfl (OpP.move rfl) ?_
    refine JL.pure rfl rfl (OpP.assign rfl) ?_
    refine JL.nil ?_
    refine J.ret1 rfl rfl ?_
  rotate_left 1
  focus
    refine JL.pure rfl rfl (OpP.assign rfl) ?_
    refine JL.nil ?_
    refine J.seq ?_
    refine J.seq ?_
    refine J.region ?_
    refine JL.pure rfl rfl (OpP.move rfl) ?_
    refine JL.decF rfl rfl (OpP.geq rfl rfl) (by omega) ?_
    refine JL.nil ?_
    refine J.condF rfl ?_
    refine J.skip ?_
    refine J.seq ?_
    refine J.regionD [5, 6] (by kernel_rfl) ?_
    refine DL.pure (i := 0) (by kernel_rfl) (by kernel_rfl) rfl rfl rfl (OpP.move rfl) ?_
    refine DL.pure (i := 1) (by kernel_rfl) (by kernel_rfl) rfl rfl rfl (OpP.move rfl) ?_
    refine DL.pure (i := 2) (by kernel_rfl) (by kernel_rfl) rfl rfl rfl (OpP.nilCheck rfl) ?_
    refine DL.pure (i := 3) (by kernel_rfl) (by kernel_rfl) rfl rfl rfl (OpP.fieldAddr rfl) ?_
    refine DL.pure (i := 4) (by kernel_rfl) (by kernel_rfl) rfl rfl rfl (OpP.fieldAddr rfl) ?_
    refine DL.read (i := 5) (by kernel_rfl) (by kernel_rfl) rfl rfl rfl (fun _ h => h) (OpR.load1 rfl (Cell.row (.tail .head) rfl)) ?_
    refine DL.read (i := 6) (by kernel_rfl) (by kernel_rfl) rfl rfl rfl (fun _ h => h) (OpR.loadN rfl (Cells.full .head) rfl) ?_
    refine DL.only (i := 7) (by kernel_rfl) ?_
    refine DL1.stepK rfl rfl rfl (OpM.w (by apply OpM.buildSlice (by rfl) rfl (by rfl); (repeat (first | exact Fills.nil | (apply Fills.cons rfl rfl rfl; (case' hs => ((repeat (first | exact Spl.nil | apply Spl.here | apply Spl.there)); done))))))) (by rintro _ _ ⟨b23, rfl, rfl⟩ _ h; exact Own.pick (pre := [_, _, _, _]) [1, 2, 3] rfl h) ?_; rintro _ _ ⟨b23, rfl, rfl⟩
    refine DL.only (i := 8) (by kernel_rfl) ?_
    refine DL1.f3 ?_; refine DL1.stepF rfl rfl rfl (by kernel_rfl) (OpM.w (OpM.appendH rfl (.inl ⟨_, Sl.und inferInstance⟩) (by rfl) rfl rfl (RdO.src (RdO.ofRow (.tail .head) (by first | exact Nat.le_refl _ | decide | omega)) (by first | assumption | exact fc_length _ _ | (simp; done) | (simp; omega))) (oneC rfl (oneC rfl (oneC rfl (oneC rfl (oneC rfl (oneC rfl (oneC rfl (oneC rfl (oneC rfl (oneC rfl (one1 rfl))))))))))) (by simp only [maxLen]; omega) (by omega))) ?_; rintro _ _ ⟨⟨a24, c24, rfl⟩, rfl⟩
    refine DL.pure (i := 9) (by kernel_rfl) (by kernel_rfl) rfl rfl rfl (OpP.nilCheck rfl) ?_
    refine DL.pure (i := 10) (by kernel_rfl) (by kernel_rfl) rfl rfl rfl (OpP.fieldAddr rfl) ?_
    refine DL.pure (i := 11) (by kernel_rfl) (by kernel_rfl) rfl rfl rfl (OpP.fieldAddr rfl) ?_
    refine DL.only (i := 12) (by kernel_rfl) ?_
    refine DL1.stepF0 rfl rfl (by kernel_rfl) (OpM.w (by apply OpM.store1 rfl rfl rfl; (case' hu => exact (.tail (.tail (.tail .head)))); (case' hs => exact (.here .nil)); done)) ?_; rintro _ _ ⟨rfl, rfl⟩
    refine DL.done (by kernel_rfl) ?_
    refine J.seq ?_
    refine J.region ?_
    refine JL.pure rfl rfl (OpP.move rfl) ?_
    refine JL.pure rfl rfl (OpP.nilCheck rfl) ?_
    refine JL.pure rfl rfl (OpP.fieldAddr rfl) ?_
    refine JL.pure rfl rfl (OpP.fieldAddr rfl) ?_
    refine JL.read rfl rfl (OpR.load1 rfl (Cell.row (.tail (.tail (.tail .head))) rfl)) ?_
    refine JL.pure rfl rfl (OpP.len rfl rfl) ?_
    refine JL.pure rfl rfl (OpP.subI rfl rfl (by omega) (by omega)) ?_
    refine JL.pure rfl rfl (OpP.assign rfl) ?_
    refine JL.nil ?_
    refine J.ret1 rfl rfl ?_
  rotate_left 1
  · rw [nodeN_old h12]
    exact ⟨_, ⟨_, _, rfl, rfl⟩, fun _ h => h.tail⟩
  · rw [nodeN_new h121, h121, List.length_append, List.flatMap_append]
    exact ⟨_, ⟨a24, c24, congrArg (Value.int .i64) (by omega), rfl⟩, fun _ h => Own.pick (pre := [_, _, _, _]) [3, 0] rfl h⟩
end Go.Proofs.D

-- seat d
namespace Go.Proofs.D
open Go Go.Gp Go.RowKit

/-! A row of nodes, one below the other. -/
noncomputable def stepS (side : Int) (s : List Nd × Int) (e : Ex) : List Nd × Int := (nodeN s.1 ⟨side, s.2, 0, e⟩, (place s.1 ⟨side, s.2, 0, e⟩ : Nat))
noncomputable def rowN (side : Int) (s : List Nd × Int) (l : List Ex) : List Nd × Int := l.foldl (stepS side) s
def ofS (l : List Ex) (side : Int) : List Ex := l.filter fun e => decide (sideN (enf e) = side)
theorem rowN_snoc (side : Int) (s : List Nd × Int) (l : List Ex) (e : Ex) : rowN side s (l ++ [e]) = stepS side (rowN side s l) e := by rw [rowN, List.foldl_append]; rfl
theorem ofS_take {side : Int} {l : List Ex} {j : Nat} {e : Ex} (h : l[j]? = some e) : ofS (l.take (j + 1)) side = ofS (l.take j) side ++ (if sideN (enf e) = side then [e] else []) := by
  rw [ofS, filter_take_succ' h, ofS]
  by_cases hs : sideN (enf e) = side
  · simp [hs]
  · simp [hs]
theorem rowN_len (side : Int) : ∀ (l : List Ex) (s : List Nd × Int), s.1.length ≤ (rowN side s l).1.length ∧ (rowN side s l).1.length ≤ s.1.length + l.length
  | [], s => ⟨Nat.le_refl _, Nat.le_refl _⟩
  | e :: l, s => by
    have h := rowN_len side l (stepS side s e)
    have h2 := nodeN_len s.1 ⟨side, s.2, 0, e⟩
    rw [rowN, List.foldl_cons, ← rowN, List.length_cons]
    rw [show (stepS side s e).1 = nodeN s.1 ⟨side, s.2, 0, e⟩ from rfl] at h
    omega
theorem rowN_all {P : Nd → Prop} (side : Int) : ∀ (l : List Ex) (s : List Nd × Int), (∀ y ∈ s.1, P y) → (∀ e ∈ l, ∀ fr, P ⟨side, fr, 0, e⟩) → ∀ y ∈ (rowN side s l).1, P y
  | [], s, h, _ => h
  | e :: l, s, h, hl => by
    rw [rowN, List.foldl_cons, ← rowN]
    exact rowN_all side l _ (nodeN_all h (hl e (by simp) _)) fun e he => hl e (by simp [he])
theorem ofS_mem {l : List Ex} {side : Int} {e : Ex} (h : e ∈ ofS l side) : e ∈ l := (List.mem_filter.1 h).1
theorem ofS_len (l : List Ex) (side : Int) : (ofS l side).length ≤ l.length := List.length_filter_le _ _
theorem row_ok {w0 : World} {F : List HProp} {a la : Option Addr} {c lc bm : Nat} {pv : Value} {ns : List Nd} {fr side : Int} {l : List Ex} (hl : ns.length ≤ 80000) (hl2 : l.length ≤ 1000) (ht : ∀ y ∈ ns, Tr w0 y.t) (hx : ∀ e ∈ l, Tr w0 e) (hr : RdO w0 F (.slice la l.length lc) l.length (l.flatMap xcl)) :
    FnO Try.prog w0 35 [.pointer (some ⟨bm, 0, none⟩), .int .i64 fr, .int .i64 side, .slice la l.length lc] (row bm 65 [.slice a ns.length c, pv] :: own 45 11 (.slice a ns.length c) ns.length (ns.flatMap ncl) :: F)
      (fun u l' => ∃ a' c', u = .int .i64 (rowN side (ns, fr) (ofS l side)).2 ∧ l' = row bm 65 [.slice a' (rowN side (ns, fr) (ofS l side)).1.length c', pv] :: own 45 11 (.slice a' (rowN side (ns, fr) (ofS l side)).1.length c') (rowN side (ns, fr) (ofS l side)).1.length ((rowN side (ns, fr) (ofS l side)).1.flatMap ncl) :: F) := by
  have hlen : ∀ p ∈ l, (xcl p).length = 8 := fun _ _ => rfl
  refine FnO.rdF (fun _ h => h.tail.tail) hr fun hr1 => ?_
  refine FnO.weak ?_
  refine FnO.intro (n := 29) Try.func35 rfl rfl rfl ?_
  refine J.seq ?_
  refine J.region ?_
  refine JL.pure rfl rfl (OpP.assign rfl) ?_
  refine JL.nil ?_
  refine J.seq ?_
  refine J.seq ?_
  refine J.region ?_
  refine JL.pure rfl rfl (OpP.move rfl) ?_
  refine JL.pure rfl rfl (OpP.len rfl rfl) ?_
  refine JL.pure rfl rfl (OpP.move rfl) ?_
  refine JL.nil ?_
  refine J.block ?_
  refine J.loopI (σ := Nat × Option Addr × Nat) (fun s => l.length - s.1) (fun s => s.1 ≤ l.length) (fun s => [(13, .int .i64 (s.1 : Nat)), (12, .int .i64 l.length), (11, .slice la l.length lc), (0, .pointer (some ⟨bm, 0, none⟩)), (1, .int .i64 (rowN side (ns, fr) (ofS (l.take s.1) side)).2), (2, .int .i64 side)])
    (fun s => row bm 65 [.slice s.2.1 (rowN side (ns, fr) (ofS (l.take s.1) side)).1.length s.2.2, pv] :: own 45 11 (.slice s.2.1 (rowN side (ns, fr) (ofS (l.take s.1) side)).1.length s.2.2) (rowN side (ns, fr) (ofS (l.take s.1) side)).1.length ((rowN side (ns, fr) (ofS (l.take s.1) side)).1.flatMap ncl) :: F) (0, a, c) (Nat.zero_le _) (by repeat (first | exact SubEnv.nil | refine SubEnv.cons (by first | rfl | exact congrArg (fun z => some (Value.int .i64 z)) (by omega) | (simp; done)) ?_)) (fun _ h => h) (fun ⟨j, a, c⟩ hj back => ?_)
  dsimp only at hj back ⊢
  by_cases hlt : j < l.length
  · obtain ⟨e, hej⟩ : ∃ x, l[j]? = some x := ⟨_, List.getElem?_eq_getElem hlt⟩
    have hem := hx e (List.mem_of_getElem? hej)
    have hof := ofS_take (side := side) hej
    have ha : ∀ y ∈ (rowN side (ns, fr) (ofS (l.take j) side)).1, Tr w0 y.t := rowN_all (P := fun y => Tr w0 y.t) side _ _ ht fun e he _ => hx e (List.mem_of_mem_take (ofS_mem he))
    have hb := rowN_len side (ofS (l.take j) side) (ns, fr)
    have hb2 := ofS_len (l.take j) side
    have hb3 := List.length_take_le j l
    have hnx := rowN_snoc side (ns, fr) (ofS (l.take j) side) e
    generalize hS : rowN side (ns, fr) (ofS (l.take j) side) = S at *
    obtain ⟨N, f⟩ := S
    dsimp only at *
    obtain ⟨ga, pa, qa, ea, ka, hcs⟩ := hr1.pos (by omega)
    cases ea
    have sd := fun (G : List HProp) => side_ok (F := G) hem
    have nd := fun (G : List HProp) (a : Option Addr) (c : Nat) (x : Nd) (hx : Tr w0 x.t) => node_ok (F := G) (a := a) (c := c) (bm := bm) (pv := pv) (ns := N) (x := x) (by omega) ha hx
    refine J.seq ?_
    refine J.region ?_
    refine JL.decT rfl rfl (OpP.lss rfl rfl) (by omega) ?_
    refine JL.nil ?_
    refine J.seq ?_
    refine J.condT rfl ?_
    refine J.skip ?_
    refine J.seq ?_
    refine J.block ?_
    refine J.seq ?_
    refine J.region ?_
    refine JL.pure rfl rfl (OpP.indexAddr rfl rfl (by omega) (by omega)) ?_
    refine JL.read rfl rfl (OpR.loadN rfl (by apply Cells.conv (fun _ h => Own.pick (pre := [_, _]) [] rfl h); apply Cells.chunkAt hcs; (case' h => assumption); (case' hi => assumption); done) (by first | rfl | assumption)) ?_
    refine JL.mem rfl rfl OpM.alloc ?_; rintro _ _ ⟨b10, rfl, rfl⟩
    refine JL.mem0 rfl (by apply OpM.storeN rfl rfl (by rfl) (oneC rfl (oneC rfl (oneC rfl (oneC rfl (oneC rfl (oneC rfl (oneC rfl (one1 rfl)))))))); (case' hu => exact .head); (case' hs => exact (.here (.here (.here (.here (.here (.here (.here (.here .nil))))))))); done) ?_; rintro _ _ ⟨rfl, rfl⟩
    refine JL.nil ?_
    refine J.seq ?_
    refine J.region ?_
    refine JL.read rfl rfl (OpR.loadN rfl (Cells.full .head) rfl) ?_
    refine JL.step rfl rfl (OpW.call (first := []) (captured := []) inferInstance rfl rfl (sd _)) ?_; rintro r18 _ ⟨rfl, rfl⟩
    refine JL.pure rfl rfl (OpP.move rfl) ?_
    refine JL.dec rfl rfl (OpP.eql rfl rfl) (fun h20 => ?_) (fun h20 => ?_)
    focus
      refine JL.nil ?_
      refine J.condT rfl ?_
    rotate_left 1
    focus
      refine JL.nil ?_
      refine J.condF rfl ?_
      refine J.skip ?_
      refine J.inBlock ?_
      refine J.region ?_
      refine JL.pure rfl rfl (OpP.addI rfl rfl (by omega) (by omega)) ?_
      refine JL.pure rfl rfl (OpP.move rfl) ?_
      refine JL.nil ?_
    rotate_left 1
    · refine J.region ?_
      refine JL.pure rfl rfl (OpP.move rfl) ?_
      refine JL.pure rfl rfl (OpP.move rfl) ?_
      refine JL.pure rfl rfl (OpP.move rfl) ?_
      refine JL.read rfl rfl (OpR.loadN rfl (Cells.full .head) rfl) ?_
      refine JL.pure rfl rfl (OpP.build rfl (by (repeat (first | exact Fills.nil | (apply Fills.cons rfl rfl rfl; (case' hs => ((repeat (first | exact Spl.nil | apply Spl.here | apply Spl.there)); done))))))) ?_
      refine JL.f2 ?_; refine JL.f2 ?_; refine JL.step rfl rfl (OpW.call (first := []) (captured := []) inferInstance rfl rfl (nd _ _ _ ⟨side, f, 0, e⟩ hem)) ?_; rintro r26 _ ⟨a', ⟨c', ⟨rfl, rfl⟩⟩⟩
      refine JL.pure rfl rfl (OpP.assign rfl) ?_
      refine JL.nil ?_
      refine J.inBlock ?_
      refine J.region ?_
      refine JL.pure rfl rfl (OpP.addI rfl rfl (by omega) (by omega)) ?_
      refine JL.pure rfl rfl (OpP.move rfl) ?_
      refine JL.nil ?_
      have bk := @back (j + 1, a', c') (by dsimp only; omega) (by dsimp only; omega)
      dsimp only at bk
      rw [hof, if_pos (by assumption), hnx] at bk
      exact bk (by repeat (first | exact SubEnv.nil | refine SubEnv.cons (by first | rfl | exact congrArg (fun z => some (Value.int .i64 z)) (by omega) | (simp; done)) ?_)) (fun _ h => Own.pick (pre := [_, _, _]) [0, 1] rfl h)
    · skip
      have bk := @back (j + 1, a, c) (by dsimp only; omega) (by dsimp only; omega)
      dsimp only at bk
      rw [hof, if_neg (by assumption), List.append_nil, hS] at bk
      exact bk (by repeat (first | exact SubEnv.nil | refine SubEnv.cons (by first | rfl | exact congrArg (fun z => some (Value.int .i64 z)) (by omega) | (simp; done)) ?_)) (fun _ h => h.tail)
  · have : j = l.length := by omega
    subst this
    rw [List.take_length]
    refine J.seq ?_
    refine J.region ?_
    refine JL.decF rfl rfl (OpP.lss rfl rfl) (by omega) ?_
    refine JL.nil ?_
    refine J.seq ?_
    refine J.condF rfl ?_
    refine J.exit rfl ?_
    refine J.seq ?_
    refine J.region ?_
    refine JL.pure rfl rfl (OpP.move rfl) ?_
    refine JL.pure rfl rfl (OpP.assign rfl) ?_
    refine JL.nil ?_
    refine J.ret1 rfl rfl ?_
    exact ⟨_, ⟨_, _, rfl, rfl⟩, fun _ h => h⟩
end Go.Proofs.D

-- seat d
namespace Go.Proofs.D
open Go Go.Gp Go.RowKit

/-- A rule's conjuncts. -/
def all (p : Po) (r : Ru) : List Ex := (if p.hasFor = true then conj p.e else []) ++ (if r.hasIf = true then conj r.e else [])
theorem all_tr {w0 : World} {p : Po} {r : Ru} (hp : Tr w0 p.e) (hr : Tr w0 r.e) : (∀ x ∈ all p r, Tr w0 x) ∧ (all p r).length ≤ 120 := by
  obtain ⟨a1, _, a2⟩ := conj_all hp
  obtain ⟨b1, _, b2⟩ := conj_all hr
  have a3 : esz p.e ≤ 60 := by cases hp; assumption
  have b3 : esz r.e ≤ 60 := by cases hr; assumption
  rw [all]
  constructor
  · intro x hx
    rcases List.mem_append.1 hx with hx | hx
    · split at hx
      · exact a1 x hx
      · cases hx
    · split at hx
      · exact b1 x hx
      · cases hx
  · rw [List.length_append]
    split <;> split <;> (try simp) <;> omega
end Go.Proofs.D

-- seat d
namespace Go.Proofs.D
open Go Go.Gp Go.RowKit

/-! The network. -/
abbrev zeroE : Ex := .mk noS noS noS ⟨0, 0, [], [], none, 0⟩ [] none 0
theorem zeroE_tr {w0 : World} : Tr w0 zeroE :=
  .mk (by decide) (by decide) (by decide) (fun l => ⟨by decide, by simp [Ex.v], by simp [Ex.v], (Rd.o (.inl ⟨_, _, rfl, rfl, rfl⟩))⟩) (fun l => (Rd.o (.inl ⟨_, _, rfl, rfl, rfl⟩))) (by decide) (by simp [Ex.ps])
noncomputable def ruleA (ns : List Nd) (l : List Ex) : List Nd × Int := rowN 2 (ns, 0) (ofS l 2)
noncomputable def ruleB (ns : List Nd) (l : List Ex) : List Nd × Int := rowN 3 ((ruleA ns l).1, 1) (ofS l 3)
noncomputable def ruleJ (ns : List Nd) (l : List Ex) : Nd := ⟨4, (ruleA ns l).2, (ruleB ns l).2, zeroE⟩
noncomputable def ruleC (ns : List Nd) (l : List Ex) : List Nd × Int := (nodeN (ruleB ns l).1 (ruleJ ns l), (place (ruleB ns l).1 (ruleJ ns l) : Nat))
noncomputable def ruleN (ns : List Nd) (l : List Ex) : List Nd × Int := rowN 5 (ruleC ns l) (ofS l 5)
theorem rule_len (ns : List Nd) {l : List Ex} (hl : l.length ≤ 120) : ns.length ≤ (ruleA ns l).1.length ∧ (ruleA ns l).1.length ≤ ns.length + 120 ∧ (ruleB ns l).1.length ≤ ns.length + 240 ∧ (ruleA ns l).1.length ≤ (ruleB ns l).1.length ∧ (ruleC ns l).1.length ≤ ns.length + 241 ∧ (ruleB ns l).1.length ≤ (ruleC ns l).1.length ∧ (ruleN ns l).1.length ≤ ns.length + 361 ∧ (ruleC ns l).1.length ≤ (ruleN ns l).1.length := by
  have h1 := rowN_len 2 (ofS l 2) (ns, 0)
  have h2 := rowN_len 3 (ofS l 3) ((ruleA ns l).1, 1)
  have h3 := nodeN_len (ruleB ns l).1 (ruleJ ns l)
  have h4 := rowN_len 5 (ofS l 5) (ruleC ns l)
  have k2 := ofS_len l 2
  have k3 := ofS_len l 3
  have k5 := ofS_len l 5
  rw [← ruleA] at h1
  rw [← ruleB] at h2
  rw [← ruleN] at h4
  rw [show nodeN (ruleB ns l).1 (ruleJ ns l) = (ruleC ns l).1 from rfl] at h3
  dsimp only at h1 h2 h3 h4
  omega
theorem rule_tr {w0 : World} {ns : List Nd} {l : List Ex} (ht : ∀ y ∈ ns, Tr w0 y.t) (hx : ∀ e ∈ l, Tr w0 e) : (∀ y ∈ (ruleA ns l).1, Tr w0 y.t) ∧ (∀ y ∈ (ruleB ns l).1, Tr w0 y.t) ∧ (∀ y ∈ (ruleC ns l).1, Tr w0 y.t) ∧ (∀ y ∈ (ruleN ns l).1, Tr w0 y.t) := by
  have h1 : ∀ y ∈ (ruleA ns l).1, Tr w0 y.t := rowN_all (P := fun y => Tr w0 y.t) 2 _ _ ht fun e he _ => hx e (ofS_mem he)
  have h2 : ∀ y ∈ (ruleB ns l).1, Tr w0 y.t := rowN_all (P := fun y => Tr w0 y.t) 3 _ _ h1 fun e he _ => hx e (ofS_mem he)
  have h3 : ∀ y ∈ (ruleC ns l).1, Tr w0 y.t := nodeN_all (P := fun y => Tr w0 y.t) h2 zeroE_tr
  exact ⟨h1, h2, h3, rowN_all (P := fun y => Tr w0 y.t) 5 _ _ h3 fun e he _ => hx e (ofS_mem he)⟩
theorem row_okS {w0 : World} {F : List HProp} {a la : Option Addr} {c lc bm : Nat} {pv : Value} {ns : List Nd} {fr side : Int} {l : List Ex} {S : List Nd × Int} (hS : rowN side (ns, fr) (ofS l side) = S) (hl : ns.length ≤ 80000) (hl2 : l.length ≤ 1000) (ht : ∀ y ∈ ns, Tr w0 y.t) (hx : ∀ e ∈ l, Tr w0 e) (hr : RdO w0 F (.slice la l.length lc) l.length (l.flatMap xcl)) :
    FnO Try.prog w0 35 [.pointer (some ⟨bm, 0, none⟩), .int .i64 fr, .int .i64 side, .slice la l.length lc] (row bm 65 [.slice a ns.length c, pv] :: own 45 11 (.slice a ns.length c) ns.length (ns.flatMap ncl) :: F)
      (fun u l' => ∃ a' c', u = .int .i64 S.2 ∧ l' = row bm 65 [.slice a' S.1.length c', pv] :: own 45 11 (.slice a' S.1.length c') S.1.length (S.1.flatMap ncl) :: F) := by
  subst hS
  exact row_ok hl hl2 ht hx hr
theorem node_okS {w0 : World} {F : List HProp} {a : Option Addr} {c bm : Nat} {pv : Value} {ns : List Nd} {x : Nd} {S : List Nd × Int} (hS : (nodeN ns x, ((place ns x : Nat) : Int)) = S) (hl : ns.length ≤ 90000) (ht : ∀ y ∈ ns, Tr w0 y.t) (hx : Tr w0 x.t) :
    FnO Try.prog w0 36 [.pointer (some ⟨bm, 0, none⟩), .agg (ncl x).toArray] (row bm 65 [.slice a ns.length c, pv] :: own 45 11 (.slice a ns.length c) ns.length (ns.flatMap ncl) :: F)
      (fun u l' => ∃ a' c', u = .int .i64 S.2 ∧ l' = row bm 65 [.slice a' S.1.length c', pv] :: own 45 11 (.slice a' S.1.length c') S.1.length (S.1.flatMap ncl) :: F) := by
  subst hS
  exact node_ok hl ht hx
abbrev u13 (permit : Bool) (name : Str) (hasIf : Bool) (e : Ex) (da : Option Addr) (dn dc : Nat) (aa : Option Addr) (an ac : Nat) : List Value := [.bool permit, .string name, .bool hasIf, .string e.op, .int .i64 e.v.k, .int .i64 e.v.i, .string (strB e.v.s), .slice e.v.a e.v.xs.length e.v.c, .string e.who, .string e.name, .slice e.a e.ps.length e.c, .slice da dn dc, .slice aa an ac]
theorem rule_ok {w0 : World} {F : List HProp} {a : Option Addr} {c bm : Nat} {pv : Value} {ns : List Nd} {p : Po} {r : Ru} (hl : ns.length ≤ 70000) (ht : ∀ y ∈ ns, Tr w0 y.t) (hpe : Tr w0 p.e) (hu : Tr w0 r.e) :
    FnO Try.prog w0 25 [.pointer (some ⟨bm, 0, none⟩), .agg (pcl p).toArray, .agg (ucl r).toArray] (row bm 65 [.slice a ns.length c, pv] :: own 45 11 (.slice a ns.length c) ns.length (ns.flatMap ncl) :: F)
      (fun u l' => ∃ a' c' ra rc, u = .agg #[.int .i64 0, .int .i64 0, .int .i64 (ruleN ns (all p r)).2, .slice ra (ofS (all p r) 6).length rc] ∧ l' = row bm 65 [.slice a' (ruleN ns (all p r)).1.length c', pv] :: own 45 11 (.slice a' (ruleN ns (all p r)).1.length c') (ruleN ns (all p r)).1.length ((ruleN ns (all p r)).1.flatMap ncl) :: own 27 8 (.slice ra (ofS (all p r) 6).length rc) (ofS (all p r) 6).length ((ofS (all p r) 6).flatMap xcl) :: F) := by
  have hal := all_tr hpe hu
  have hrl := rule_len ns hal.2
  have hrt := rule_tr ht hal.1
  obtain ⟨hx, hal⟩ := hal
  obtain ⟨rt1, rt2, rt3, rt4⟩ := hrt
  have d1 := fun (G : List HProp) => conj_ok (F := G) hpe
  have d2 := fun (G : List HProp) => conj_ok (F := G) hu
  have o1 := xcls_one (es := conj p.e)
  have hl1 := chunk8 (conj p.e)
  have c1 : (conj p.e).length ≤ 60 := by
    have c1 := (conj_all hpe).2.2
    cases hpe; omega
  have o2 := xcls_one (es := conj r.e)
  have hl2 := chunk8 (conj r.e)
  have c2' : (conj r.e).length ≤ 60 := by
    have c1 := (conj_all hu).2.2
    cases hu; omega
  have hall : all p r = (if p.hasFor = true then conj p.e else []) ++ (if r.hasIf = true then conj r.e else []) := rfl
  generalize all p r = l at *
  obtain ⟨name, by_, use2, hasFor, e, rs, a2, c2⟩ := p
  obtain ⟨permit, name3, hasIf, e3, da, dn, dc, aa, an, ac⟩ := r
  dsimp only at *
  have hlen : ∀ p ∈ l, (xcl p).length = 8 := fun _ _ => rfl
  refine FnO.weak ?_
  change FnO Try.prog w0 25 [.pointer (some ⟨bm, 0, none⟩), .agg (pc13 name by_ use2 hasFor e a2 rs.length c2).toArray, .agg (u13 permit name3 hasIf e3 da dn dc aa an ac).toArray] _ _
  refine FnO.intro (n := 59) Try.func25 rfl rfl rfl ?_
  generalize h1 : (if hasFor = true then conj e else []) = l1 at *
  generalize h2 : (if hasIf = true then conj e3 else []) = l2 at *
  have hl12 : l.length = l1.length + l2.length := by rw [hall, List.length_append]
  have hll2 : l1.length ≤ 60 ∧ l2.length ≤ 60 := by
    rw [← h1, ← h2]
    constructor <;> split <;> (try simp) <;> omega
  refine J.seq ?_
  refine J.region ?_
  refine JL.mem rfl rfl (OpM.box rfl rfl) ?_; rintro _ _ ⟨b4, rfl, rfl⟩
  refine JL.mem rfl rfl (OpM.box rfl rfl) ?_; rintro _ _ ⟨b5, rfl, rfl⟩
  refine JL.mem rfl rfl OpM.alloc ?_; rintro _ _ ⟨b6, rfl, rfl⟩
  refine JL.nil ?_
  refine J.seq ?_
  refine J.region ?_
  refine JL.pure rfl rfl (OpP.assign rfl) ?_
  refine JL.nil ?_
  refine J.seq ?_
  refine J.cut (σ := Option Addr × Nat) (fun _ => True) (fun s => [(7, .slice s.1 l1.length s.2), (6, .pointer (some ⟨b6, 0, none⟩)), (5, .pointer (some ⟨b5, 0, none⟩)), (4, .pointer (some ⟨b4, 0, none⟩)), (0, .pointer (some ⟨bm, 0, none⟩))])
    (fun s => own 27 8 (.slice s.1 l1.length s.2) l1.length (l1.flatMap xcl) :: row b6 48 [.int .i64 0, .int .i64 0, .int .i64 0, .slice none 0 0] :: row b5 62 (u13 permit name3 hasIf e3 da dn dc aa an ac) :: row bm 65 [.slice a ns.length c, pv] :: own 45 11 (.slice a ns.length c) ns.length (ns.flatMap ncl) :: F) (fun ⟨sa, sc⟩ _ => ?_) (fun k' go => ?_)
  rotate_left
  · cases hasFor
    · rw [if_neg (by decide)] at h1
      subst h1
      refine J.seq ?_
      refine J.region ?_
      refine JL.pure rfl rfl (OpP.fieldAddr rfl) ?_
      refine JL.read rfl rfl (OpR.load1 rfl (Cell.row (.tail (.tail .head)) rfl)) ?_
      refine JL.nil ?_
      refine J.condF rfl ?_
      refine J.skip ?_
      exact go (none, 0) trivial (by repeat (first | exact SubEnv.nil | refine SubEnv.cons (by first | rfl | exact congrArg (fun z => some (Value.int .i64 z)) (by omega) | (simp; done)) ?_)) (fun _ h => Own.own_nil (Own.pick (pre := [_, _, _]) [0, 1] rfl h))
    · rw [if_pos rfl] at h1
      subst h1
      refine J.seq ?_
      refine J.region ?_
      refine JL.pure rfl rfl (OpP.fieldAddr rfl) ?_
      refine JL.read rfl rfl (OpR.load1 rfl (Cell.row (.tail (.tail .head)) rfl)) ?_
      refine JL.nil ?_
      refine J.condT rfl ?_
      refine J.region ?_
      refine JL.pure rfl rfl (OpP.fieldAddr rfl) ?_
      refine JL.read rfl rfl (OpR.loadN rfl (Cells.sub 8 (.tail (.tail .head)) rfl) rfl) ?_
      refine JL.step rfl rfl (OpW.call (first := []) (captured := []) inferInstance rfl rfl (d1 _)) ?_; rintro r18 _ ⟨a1, ⟨c3, ⟨rfl, rfl⟩⟩⟩
      refine JL.pure rfl rfl (OpP.assign rfl) ?_
      refine JL.nil ?_
      exact go (_, _) trivial (by repeat (first | exact SubEnv.nil | refine SubEnv.cons (by first | rfl | exact congrArg (fun z => some (Value.int .i64 z)) (by omega) | (simp; done)) ?_)) (fun _ h => Own.pick (pre := [_, _, _, _]) [0, 1, 2] rfl h)
  refine J.seq ?_
  refine J.cut (σ := Option Addr × Nat) (fun _ => True) (fun s => [(7, .slice s.1 l.length s.2), (6, .pointer (some ⟨b6, 0, none⟩)), (0, .pointer (some ⟨bm, 0, none⟩))])
    (fun s => row b6 48 [.int .i64 0, .int .i64 0, .int .i64 0, .slice none 0 0] :: row bm 65 [.slice a ns.length c, pv] :: own 45 11 (.slice a ns.length c) ns.length (ns.flatMap ncl) :: own 27 8 (.slice s.1 l.length s.2) l.length (l.flatMap xcl) :: F) (fun ⟨ta, tc⟩ _ => ?_) (fun k' go => ?_)
  rotate_left
  · cases hasIf
    · rw [if_neg (by decide)] at h2
      subst h2
      rw [List.append_nil] at hall
      subst hall
      refine J.seq ?_
      refine J.region ?_
      refine JL.pure rfl rfl (OpP.fieldAddr rfl) ?_
      refine JL.read rfl rfl (OpR.load1 rfl (Cell.row (.tail (.tail .head)) rfl)) ?_
      refine JL.nil ?_
      refine J.condF rfl ?_
      refine J.skip ?_
      exact go (_, _) trivial (by repeat (first | exact SubEnv.nil | refine SubEnv.cons (by first | rfl | exact congrArg (fun z => some (Value.int .i64 z)) (by omega) | (simp; done)) ?_)) (fun _ h => Own.pick (pre := [_, _, _, _, _]) [1, 3, 4, 0] rfl h)
    · rw [if_pos rfl] at h2
      subst h2
      subst hall
      rw [List.length_append, List.flatMap_append] at go
      refine J.seq ?_
      refine J.region ?_
      refine JL.pure rfl rfl (OpP.fieldAddr rfl) ?_
      refine JL.read rfl rfl (OpR.load1 rfl (Cell.row (.tail (.tail .head)) rfl)) ?_
      refine JL.nil ?_
      refine J.condT rfl ?_
      refine J.region ?_
      refine JL.pure rfl rfl (OpP.move rfl) ?_
      refine JL.pure rfl rfl (OpP.fieldAddr rfl) ?_
      refine JL.read rfl rfl (OpR.loadN rfl (Cells.sub 8 (.tail (.tail .head)) rfl) rfl) ?_
      refine JL.step rfl rfl (OpW.call (first := []) (captured := []) inferInstance rfl rfl (d2 _)) ?_; rintro r24 _ ⟨a1, ⟨c3, ⟨rfl, rfl⟩⟩⟩
      refine JL.f1 ?_; refine JL.mem rfl rfl (OpM.appendH rfl (.inl ⟨_, Sl.und inferInstance⟩) (by rfl) rfl rfl (RdO.src (RdO.own (.tail .head)) (by first | assumption | exact fc_length _ _ | (simp; done) | (simp; omega))) (by first | exact bcells_one _ | exact scells_one _ | exact icells_one _ | assumption | exact fc_one fun _ => rfl) (by simp only [maxLen]; omega) (by omega)) ?_; rintro _ _ ⟨⟨a25, c25, rfl⟩, rfl⟩
      refine JL.pure rfl rfl (OpP.assign rfl) ?_
      refine JL.nil ?_
      refine go (a25, c25) trivial ?_ (fun _ h => Own.pick (pre := [_, _, _, _, _, _]) [2, 4, 5, 0] rfl h)
      exact (by repeat (first | exact SubEnv.nil | refine SubEnv.cons (by first | rfl | exact congrArg (fun z => some (Value.int .i64 z)) (by omega) | (simp; done)) ?_))
  dsimp only
  refine J.seq ?_
  refine J.region ?_
  refine JL.pure rfl rfl (OpP.move rfl) ?_
  refine JL.pure rfl rfl (OpP.move rfl) ?_
  refine JL.f3 ?_; refine JL.f1 ?_; refine JL.f3 ?_; refine JL.f3 ?_; refine JL.step rfl rfl (OpW.call (first := []) (captured := []) inferInstance rfl rfl (row_okS (S := ruleA ns l) (ns := ns) (fr := 0) (side := 2) (l := l) rfl (by omega) (by omega) ht hx (RdO.own (.tail .head)))) ?_; rintro r28 _ ⟨a', ⟨c', ⟨rfl, rfl⟩⟩⟩
  refine JL.pure rfl rfl (OpP.assign rfl) ?_
  refine JL.nil ?_
  refine J.seq ?_
  refine J.region ?_
  refine JL.pure rfl rfl (OpP.move rfl) ?_
  refine JL.pure rfl rfl (OpP.move rfl) ?_
  refine JL.step rfl rfl (OpW.call (first := []) (captured := []) inferInstance rfl rfl (row_okS (S := ruleB ns l) (ns := (ruleA ns l).1) (fr := 1) (side := 3) (l := l) rfl (by omega) (by omega) rt1 hx (RdO.own (.tail .head)))) ?_; rintro r31 _ ⟨a'1, ⟨c'1, ⟨rfl, rfl⟩⟩⟩
  refine JL.pure rfl rfl (OpP.assign rfl) ?_
  refine JL.nil ?_
  refine J.seq ?_
  refine J.region ?_
  refine JL.pure rfl rfl (OpP.move rfl) ?_
  refine JL.pure rfl rfl (OpP.move rfl) ?_
  refine JL.pure rfl rfl (OpP.move rfl) ?_
  refine JL.pure rfl rfl (OpP.build rfl (by (repeat (first | exact Fills.nil | (apply Fills.cons rfl rfl rfl; (case' hs => ((repeat (first | exact Spl.nil | apply Spl.here | apply Spl.there)); done))))))) ?_
  refine JL.step rfl rfl (OpW.call (first := []) (captured := []) inferInstance rfl rfl (node_okS (S := ruleC ns l) (x := ruleJ ns l) rfl (by omega) rt2 zeroE_tr)) ?_; rintro r36 _ ⟨a'2, ⟨c'2, ⟨rfl, rfl⟩⟩⟩
  refine JL.pure rfl rfl (OpP.assign rfl) ?_
  refine JL.nil ?_
  have o6 := fun j : Nat => ofS_len (l.take j) 6
  have c5 : ∀ (bm : Nat) (G : List HProp) (a : Option Addr) (c : Nat), RdO w0 G (.slice ta l.length tc) l.length (l.flatMap xcl) → _ := fun bm G a c hr => row_okS (F := G) (a := a) (c := c) (bm := bm) (pv := pv) (lc := tc) (la := ta) (S := ruleN ns l) (ns := (ruleC ns l).1) (fr := (ruleC ns l).2) (side := 5) (l := l) rfl (by omega) (by omega) rt3 hx hr
  refine J.seq ?_
  refine J.region ?_
  refine JL.pure rfl rfl (OpP.move rfl) ?_
  refine JL.pure rfl rfl (OpP.move rfl) ?_
  refine JL.pure rfl rfl (OpP.move rfl) ?_
  refine JL.step rfl rfl (OpW.call (first := []) (captured := []) inferInstance rfl rfl (c5 _ _ _ _ (RdO.own (.tail .head)))) ?_; rintro r40 _ ⟨a'3, ⟨c'3, ⟨rfl, rfl⟩⟩⟩
  refine JL.pure rfl rfl (OpP.build rfl (by (repeat (first | exact Fills.nil | (apply Fills.cons rfl rfl rfl; (case' hs => ((repeat (first | exact Spl.nil | apply Spl.here | apply Spl.there)); done))))))) ?_
  refine JL.mem rfl rfl OpM.alloc ?_; rintro _ _ ⟨b11, rfl, rfl⟩
  refine JL.mem0 rfl (by apply OpM.storeN rfl rfl (by rfl) (oneC rfl (oneC rfl (oneC rfl (one1 rfl)))); (case' hu => exact .head); (case' hs => exact (.here (.here (.here (.here .nil))))); done) ?_; rintro _ _ ⟨rfl, rfl⟩
  refine JL.nil ?_
  refine J.seq ?_
  refine J.seq ?_
  refine J.region ?_
  refine JL.pure rfl rfl (OpP.move rfl) ?_
  refine JL.pure rfl rfl (OpP.len rfl rfl) ?_
  refine JL.pure rfl rfl (OpP.move rfl) ?_
  refine JL.nil ?_
  refine J.block ?_
  refine J.loopI (σ := Nat × Option Addr × Nat) (fun s => l.length - s.1) (fun s => s.1 ≤ l.length) (fun s => [(44, .int .i64 (s.1 : Nat)), (43, .int .i64 l.length), (42, .slice ta l.length tc), (11, .pointer (some ⟨b11, 0, none⟩)), (6, .pointer (some ⟨b6, 0, none⟩)), (0, .pointer (some ⟨bm, 0, none⟩))])
    (fun s => own 27 8 (.slice s.2.1 (ofS (l.take s.1) 6).length s.2.2) (ofS (l.take s.1) 6).length ((ofS (l.take s.1) 6).flatMap xcl) :: row b11 48 [.int .i64 0, .int .i64 0, .int .i64 (ruleN ns l).2, .slice s.2.1 (ofS (l.take s.1) 6).length s.2.2] :: row b6 48 [.int .i64 0, .int .i64 0, .int .i64 0, .slice none 0 0] :: row bm 65 [.slice a'3 (ruleN ns l).1.length c'3, pv] :: own 45 11 (.slice a'3 (ruleN ns l).1.length c'3) (ruleN ns l).1.length ((ruleN ns l).1.flatMap ncl) :: own 27 8 (.slice ta l.length tc) l.length (l.flatMap xcl) :: F) (0, none, 0) (Nat.zero_le _) (by repeat (first | exact SubEnv.nil | refine SubEnv.cons (by first | rfl | exact congrArg (fun z => some (Value.int .i64 z)) (by omega) | (simp; done)) ?_)) (fun _ h => Own.own_nil (Own.pick (pre := [_, _, _, _, _]) [0, 3, 1, 2, 4] rfl h)) (fun ⟨j, ea, ec⟩ hj back => ?_)
  dsimp only at hj back ⊢
  by_cases hlt : j < l.length
  · obtain ⟨e, hej⟩ : ∃ x, l[j]? = some x := ⟨_, List.getElem?_eq_getElem hlt⟩
    have hem := hx e (List.mem_of_getElem? hej)
    have hof := ofS_take (side := 6) hej
    have hb2 := ofS_len (l.take j) 6
    have hb3 := List.length_take_le j l
    generalize hS : ofS (l.take j) 6 = S at *
    refine J.ownSome (.tail (.tail (.tail (.tail (.tail .head))))) (by omega) fun ga pa ea ka => ?_
    subst ea
    have sd := fun (G : List HProp) => side_ok (F := G) hem
    refine J.seq ?_
    refine J.region ?_
    refine JL.decT rfl rfl (OpP.lss rfl rfl) (by omega) ?_
    refine JL.nil ?_
    refine J.seq ?_
    refine J.condT rfl ?_
    refine J.skip ?_
    refine J.seq ?_
    refine J.block ?_
    refine J.seq ?_
    refine J.region ?_
    refine JL.pure rfl rfl (OpP.indexAddr rfl rfl (by omega) (by omega)) ?_
    refine JL.read rfl rfl (OpR.loadN rfl (by apply Cells.chunkAt (Cells.own (.tail (.tail (.tail (.tail (.tail .head)))))); (case' h => assumption); (case' hi => assumption); done) (by first | rfl | assumption)) ?_
    refine JL.mem rfl rfl OpM.alloc ?_; rintro _ _ ⟨b13, rfl, rfl⟩
    refine JL.mem0 rfl (by apply OpM.storeN rfl rfl (by rfl) (oneC rfl (oneC rfl (oneC rfl (oneC rfl (oneC rfl (oneC rfl (oneC rfl (one1 rfl)))))))); (case' hu => exact .head); (case' hs => exact (.here (.here (.here (.here (.here (.here (.here (.here .nil))))))))); done) ?_; rintro _ _ ⟨rfl, rfl⟩
    refine JL.nil ?_
    refine J.seq ?_
    refine J.region ?_
    refine JL.read rfl rfl (OpR.loadN rfl (Cells.full .head) rfl) ?_
    refine JL.step rfl rfl (OpW.call (first := []) (captured := []) inferInstance rfl rfl (sd _)) ?_; rintro r49 _ ⟨rfl, rfl⟩
    refine JL.dec rfl rfl (OpP.eql rfl rfl) (fun h50 => ?_) (fun h50 => ?_)
    focus
      refine JL.nil ?_
      refine J.condT rfl ?_
      refine J.region ?_
      refine JL.pure rfl rfl (OpP.fieldAddr rfl) ?_
      refine JL.read rfl rfl (OpR.load1 rfl (Cell.row (.tail (.tail .head)) rfl)) ?_
      refine JL.read rfl rfl (OpR.loadN rfl (Cells.full .head) rfl) ?_
      refine JL.mem rfl rfl (by apply OpM.buildSlice (by rfl) rfl (by rfl); (repeat (first | exact Fills.nil | (apply Fills.cons rfl rfl rfl; (case' hs => ((repeat (first | exact Spl.nil | apply Spl.here | apply Spl.there)); done)))))) ?_; rintro _ _ ⟨b54, rfl, rfl⟩
      refine JL.f2 ?_; refine JL.mem rfl rfl (OpM.appendH rfl (.inl ⟨_, Sl.und inferInstance⟩) (by rfl) rfl rfl (RdO.src (RdO.ofRow (.tail .head) (by first | exact Nat.le_refl _ | decide | omega)) (by first | assumption | exact fc_length _ _ | (simp; done) | (simp; omega))) (oneC rfl (oneC rfl (oneC rfl (oneC rfl (oneC rfl (oneC rfl (oneC rfl (one1 rfl)))))))) (by simp only [maxLen]; omega) (by omega)) ?_; rintro _ _ ⟨⟨a55, c55, rfl⟩, rfl⟩
      refine JL.pure rfl rfl (OpP.fieldAddr rfl) ?_
      refine JL.mem0 rfl (by apply OpM.store1 rfl rfl rfl; (case' hu => exact (.tail (.tail (.tail .head)))); (case' hs => exact (.there (.there (.there (.here .nil))))); done) ?_; rintro _ _ ⟨rfl, rfl⟩
      refine JL.nil ?_
      refine J.inBlock ?_
      refine J.region ?_
      refine JL.pure rfl rfl (OpP.addI rfl rfl (by omega) (by omega)) ?_
      refine JL.pure rfl rfl (OpP.move rfl) ?_
      refine JL.nil ?_
    rotate_left 1
    focus
      refine JL.nil ?_
      refine J.condF rfl ?_
      refine J.skip ?_
      refine J.inBlock ?_
      refine J.region ?_
      refine JL.pure rfl rfl (OpP.addI rfl rfl (by omega) (by omega)) ?_
      refine JL.pure rfl rfl (OpP.move rfl) ?_
      refine JL.nil ?_
    rotate_left 1
    · have bk := @back (j + 1, a55, c55) (by dsimp only; omega) (by dsimp only; omega)
      dsimp only at bk
      rw [hof, if_pos (by assumption), List.flatMap_append, List.length_append] at bk
      exact bk (by repeat (first | exact SubEnv.nil | refine SubEnv.cons (by first | rfl | exact congrArg (fun z => some (Value.int .i64 z)) (by omega) | (simp; done)) ?_)) (fun _ h => Own.pick (pre := [_, _, _, _, _, _, _, _]) [0, 3, 4, 5, 6, 7] rfl h)
    · have bk := @back (j + 1, ea, ec) (by dsimp only; omega) (by dsimp only; omega)
      dsimp only at bk
      rw [hof, if_neg (by assumption), List.append_nil] at bk
      exact bk (by repeat (first | exact SubEnv.nil | refine SubEnv.cons (by first | rfl | exact congrArg (fun z => some (Value.int .i64 z)) (by omega) | (simp; done)) ?_)) (fun _ h => h.tail)
  · have : j = l.length := by omega
    subst this
    rw [List.take_length]
    refine J.seq ?_
    refine J.region ?_
    refine JL.decF rfl rfl (OpP.lss rfl rfl) (by omega) ?_
    refine JL.nil ?_
    refine J.seq ?_
    refine J.condF rfl ?_
    refine J.exit rfl ?_
    refine J.seq ?_
    refine J.region ?_
    refine JL.read rfl rfl (OpR.loadN rfl (Cells.full (.tail .head)) rfl) ?_
    refine JL.mem0 rfl (by apply OpM.storeN rfl rfl (by rfl) (oneC rfl (oneC rfl (oneC rfl (one1 rfl)))); (case' hu => exact (.tail (.tail .head))); (case' hs => exact (.here (.here (.here (.here .nil))))); done) ?_; rintro _ _ ⟨rfl, rfl⟩
    refine JL.nil ?_
    refine J.retC rfl rfl (by apply Cells.full; (with_reducible repeat (first | exact .head | apply Has.tail))) (by first | (rw [List.length_append, hdC_len (by first | assumption | exact Go.Proofs.B.shaB_length _ _ | solve_by_elim)]; rfl) | exact hdC_len (by first | assumption | exact Go.Proofs.B.shaB_length _ _ | solve_by_elim) | (rw [bcells_length]; first | assumption | exact Go.Proofs.B.shaB_length _ _ | solve_by_elim) | exact fc_length _ _ | exact fB_length _ _ | rfl) ?_
    exact ⟨_, ⟨a'3, c'3, ea, ec, rfl, rfl⟩, fun _ h => Own.pick (pre := [_, _, _, _, _, _]) [3, 4, 0] rfl h⟩
end Go.Proofs.D

-- seat d
namespace Go.Proofs.D
open Go Go.Gp Go.RowKit

structure Pr where
  i : Nat
  k : Nat
  node : Int
  rest : List Ex
  a : Option Addr
  c : Nat
abbrev prcl (p : Pr) : List Value := [.int .i64 (p.i : Nat), .int .i64 (p.k : Nat), .int .i64 p.node, .slice p.a p.rest.length p.c]
abbrev PP := Nat × Nat × Int × List Ex
def Pr.pure (p : Pr) : PP := (p.i, p.k, p.node, p.rest)
abbrev restL (p : Pr) : HProp := own 27 8 (.slice p.a p.rest.length p.c) p.rest.length (p.rest.flatMap xcl)
/-- The rests of all ends. -/
def rests (ps : List Pr) : HProp := hall (ps.map restL)
theorem rests_nil {w0 w : World} {F : List HProp} (h : Own w0 w F) : Own w0 w (rests [] :: F) := Own.hall_in (ls := []) h
theorem rests_snoc {w0 w : World} {F : List HProp} {ps : List Pr} {p : Pr} (h : Own w0 w (restL p :: rests ps :: F)) : Own w0 w (rests (ps ++ [p]) :: F) := by
  have h2 : Own w0 w (rests ps :: restL p :: F) := h.perm (List.Perm.swap _ _ _)
  have h3 : Own w0 w ((ps ++ [p]).map restL ++ F) := by
    have := h2.hall_out
    simpa using this
  exact h3.hall_in
theorem prcl_one {ps : List Pr} : ∀ u ∈ ps.flatMap prcl, u.oneCell' = true := by
  intro u hu
  obtain ⟨e, _, hu⟩ := List.mem_flatMap.1 hu
  simp only [prcl, List.mem_cons, List.not_mem_nil, or_false] at hu
  rcases hu with rfl | rfl | rfl | rfl <;> rfl
theorem chunk4 (es : List Pr) : (es.flatMap prcl).length = es.length * 4 := chunk_length fun _ _ => rfl

abbrev NetP := List Nd × List PP
noncomputable def polN (i : Nat) (p : Po) (n : NetP) : Nat → NetP
  | 0 => n
  | k + 1 => match p.rs[k]? with
    | some r => ((ruleN (polN i p n k).1 (all p r)).1, (polN i p n k).2 ++ [(i, k, (ruleN (polN i p n k).1 (all p r)).2, ofS (all p r) 6)])
    | none => polN i p n k
noncomputable def docN (d : Dc) : Nat → NetP
  | 0 => ([⟨0, 0, 0, zeroE⟩, ⟨1, 0, 0, zeroE⟩], [])
  | i + 1 => match d.ps[i]? with
    | some p => polN i p (docN d i) p.rs.length
    | none => docN d i
/-- A document's network. -/
noncomputable def netN (d : Dc) : NetP := docN d d.ps.length
theorem polN_succ {i : Nat} {p : Po} {n : NetP} {k : Nat} {r : Ru} (h : p.rs[k]? = some r) : polN i p n (k + 1) = ((ruleN (polN i p n k).1 (all p r)).1, (polN i p n k).2 ++ [(i, k, (ruleN (polN i p n k).1 (all p r)).2, ofS (all p r) 6)]) := by rw [polN, h]
theorem docN_succ {d : Dc} {i : Nat} {p : Po} (h : d.ps[i]? = some p) : docN d (i + 1) = polN i p (docN d i) p.rs.length := by rw [docN, h]
structure NetOk (w0 : World) (n : NetP) (a b : Nat) : Prop where
  l1 : 2 ≤ n.1.length ∧ n.1.length ≤ a
  l2 : n.2.length ≤ b
  t : ∀ y ∈ n.1, Tr w0 y.t
theorem polN_ok {w0 : World} {i : Nat} {p : Po} {n : NetP} {a b : Nat} (hp : PoT w0 p) (h : NetOk w0 n a b) : ∀ k, k ≤ p.rs.length → NetOk w0 (polN i p n k) (a + k * 361) (b + k)
  | 0, _ => by simpa [polN] using h
  | k + 1, hk => by
    have ih := polN_ok (i := i) hp h k (by omega)
    obtain ⟨r, hr⟩ : ∃ r, p.rs[k]? = some r := ⟨_, List.getElem?_eq_getElem (by omega)⟩
    have hal := all_tr hp.e (hp.ru r (List.mem_of_getElem? hr))
    rw [polN_succ hr]
    have hrl := rule_len (polN i p n k).1 hal.2
    obtain ⟨_, _, _, h4⟩ := rule_tr ih.t hal.1
    have := ih.l1
    have := ih.l2
    exact ⟨by dsimp only; omega, by dsimp only; rw [List.length_append, List.length_singleton]; omega, h4⟩
theorem docN_ok {w0 : World} {d : Dc} (hd : DcT w0 d) : ∀ i, i ≤ d.ps.length → NetOk w0 (docN d i) (2 + i * 2888) (i * 8)
  | 0, _ => ⟨by simp [docN], by simp [docN], by
    intro y hy
    simp only [docN, List.mem_cons, List.not_mem_nil, or_false] at hy
    rcases hy with rfl | rfl <;> exact zeroE_tr⟩
  | i + 1, hi => by
    have ih := docN_ok hd i (by omega)
    obtain ⟨p, hp⟩ : ∃ r, d.ps[i]? = some r := ⟨_, List.getElem?_eq_getElem (by omega)⟩
    have hpt := hd.po p (List.mem_of_getElem? hp)
    rw [docN_succ hp]
    have hn := hpt.n
    have := polN_ok (i := i) hpt ih p.rs.length (Nat.le_refl _)
    exact ⟨by have := this.l1; omega, by have := this.l2; omega, this.t⟩
theorem compile_ok {w0 : World} {F : List HProp} {d : Dc} (hd : DcT w0 d) :
    FnO Try.prog w0 16 [.agg (dcl d).toArray] F (fun u l' => ∃ a c pa pc, ∃ ps : List Pr, ps.map Pr.pure = (netN d).2 ∧ u = .agg #[.slice a (netN d).1.length c, .slice pa ps.length pc] ∧ l' = own 45 11 (.slice a (netN d).1.length c) (netN d).1.length ((netN d).1.flatMap ncl) :: own 48 4 (.slice pa ps.length pc) ps.length (ps.flatMap prcl) :: rests ps :: F) := by
  have hn6 := hd.n
  have hdr := hd.hr
  have hdp := hd.po
  have hok := docN_ok hd
  have hsucc := fun (i : Nat) (p : Po) => docN_succ (d := d) (i := i) (p := p)
  rw [show netN d = docN d d.ps.length from rfl]
  have h0 : docN d 0 = ([⟨0, 0, 0, zeroE⟩, ⟨1, 0, 0, zeroE⟩], []) := rfl
  generalize docN d = dN at *
  clear hd
  obtain ⟨fa, fn, fc, use, ps, a, c⟩ := d
  dsimp only at *
  have hlen : ∀ p ∈ ps, (pcl p).length = 13 := fun _ _ => rfl
  refine FnO.rdF (fun _ h => h) (hdr F) fun hr1 => ?_
  refine FnO.weak ?_
  change FnO Try.prog w0 16 [.agg [Value.slice fa fn fc, .string use, .slice a ps.length c].toArray] F _
  refine FnO.intro (n := 57) Try.func16 rfl rfl rfl ?_
  refine J.seq ?_
  refine J.region ?_
  refine JL.mem rfl rfl (OpM.box rfl rfl) ?_; rintro _ _ ⟨b1, rfl, rfl⟩
  refine JL.mem rfl rfl OpM.alloc ?_; rintro _ _ ⟨b2, rfl, rfl⟩
  refine JL.nil ?_
  refine J.seq ?_
  refine J.region ?_
  refine JL.pure rfl rfl (OpP.build rfl (by (repeat (first | exact Fills.nil | (apply Fills.cons rfl rfl rfl; (case' hs => ((repeat (first | exact Spl.nil | apply Spl.here | apply Spl.there)); done))))))) ?_
  refine JL.pure rfl rfl (OpP.build rfl (by (repeat (first | exact Fills.nil | (apply Fills.cons rfl rfl rfl; (case' hs => ((repeat (first | exact Spl.nil | apply Spl.here | apply Spl.there)); done))))))) ?_
  refine JL.mem rfl rfl (by apply OpM.buildSlice (by rfl) rfl (by rfl); (repeat (first | exact Fills.nil | (apply Fills.cons rfl rfl rfl; (case' hs => ((repeat (first | exact Spl.nil | apply Spl.here | apply Spl.there)); done)))))) ?_; rintro _ _ ⟨b11, rfl, rfl⟩
  refine JL.pure rfl rfl (OpP.build rfl (by (repeat (first | exact Fills.nil | (apply Fills.cons rfl rfl rfl; (case' hs => ((repeat (first | exact Spl.nil | apply Spl.here | apply Spl.there)); done))))))) ?_
  refine JL.pure rfl rfl (OpP.build rfl (by (repeat (first | exact Fills.nil | (apply Fills.cons rfl rfl rfl; (case' hs => ((repeat (first | exact Spl.nil | apply Spl.here | apply Spl.there)); done))))))) ?_
  refine JL.mem rfl rfl (OpM.box rfl rfl) ?_; rintro _ _ ⟨b14, rfl, rfl⟩
  refine JL.pure rfl rfl (OpP.assign rfl) ?_
  refine JL.nil ?_
  refine J.seq ?_
  refine J.seq ?_
  refine J.region ?_
  refine JL.pure rfl rfl (OpP.fieldAddr rfl) ?_
  refine JL.read rfl rfl (OpR.load1 rfl (Cell.row (.tail (.tail (.tail .head))) rfl)) ?_
  refine JL.pure rfl rfl (OpP.len rfl rfl) ?_
  refine JL.pure rfl rfl (OpP.move rfl) ?_
  refine JL.nil ?_
  refine J.block ?_
  refine J.loopI (σ := Nat × Option Addr × Nat × Option Addr × Nat × List Pr) (fun s => ps.length - s.1) (fun s => s.1 ≤ ps.length ∧ s.2.2.2.2.2.map Pr.pure = (dN s.1).2)
    (fun s => [(18, .int .i64 (s.1 : Nat)), (17, .int .i64 ps.length), (16, .slice a ps.length c), (3, .pointer (some ⟨b14, 0, none⟩)), (2, .pointer (some ⟨b2, 0, none⟩))])
    (fun s => row b14 65 [.slice s.2.1 (dN s.1).1.length s.2.2.1, .slice s.2.2.2.1 s.2.2.2.2.2.length s.2.2.2.2.1] :: own 45 11 (.slice s.2.1 (dN s.1).1.length s.2.2.1) (dN s.1).1.length ((dN s.1).1.flatMap ncl) :: own 48 4 (.slice s.2.2.2.1 s.2.2.2.2.2.length s.2.2.2.2.1) s.2.2.2.2.2.length (s.2.2.2.2.2.flatMap prcl) :: rests s.2.2.2.2.2 :: row b2 42 [.slice none 0 0, .slice none 0 0] :: F)
    (0, some ⟨b11, 0, none⟩, 2, none, 0, []) ⟨Nat.zero_le _, by rw [h0]; rfl⟩ (by repeat (first | exact SubEnv.nil | refine SubEnv.cons (by first | rfl | exact congrArg (fun z => some (Value.int .i64 z)) (by omega) | (simp; done)) ?_)) (fun _ h => ?_) (fun ⟨i, na, nc, qa, qc, qs⟩ hi back => ?_)
  · rw [h0]
    exact Own.pick (pre := [_, _, _, _, _]) [3, 2, 0, 1, 4] rfl (Own.own_nil (rests_nil (Own.own_whole (by decide) rfl (Own.pick (pre := [_, _, _, _]) [1, 0, 2] rfl h))))
  obtain ⟨hi, hq⟩ := hi
  dsimp only at hi hq back ⊢
  have hoki := hok i hi
  by_cases hlt : i < ps.length
  · obtain ⟨p, hpi⟩ : ∃ x, ps[i]? = some x := ⟨_, List.getElem?_eq_getElem hlt⟩
    have hpt := hdp p (List.mem_of_getElem? hpi)
    have hs := hsucc i p hpi
    have hpr := hpt.hr
    have hp8 := hpt.n
    have hpol := polN_ok (i := i) hpt hoki
    have hps := fun (k : Nat) (r : Ru) => polN_succ (i := i) (p := p) (n := dN i) (k := k) (r := r)
    have hpe := hpt.e
    have hpu := hpt.ru
    have hp0 : polN i p (dN i) 0 = dN i := rfl
    have hback := fun (na : Option Addr) (nc : Nat) (qa : Option Addr) (qc : Nat) (qs : List Pr) h1 h2 => @back (i + 1, na, nc, qa, qc, qs) h1 h2
    dsimp only at hback
    rw [hs] at hback
    clear back hsucc hok
    generalize polN i p (dN i) = pN at *
    generalize dN i = dI at *
    have hlen2 : ∀ r ∈ p.rs, (ucl r).length = 13 := fun _ _ => rfl
    obtain ⟨ga, oa, xa, ea, ka, hcs⟩ := hr1.pos (by omega)
    cases ea
    refine J.seq ?_
    refine J.region ?_
    refine JL.decT rfl rfl (OpP.lss rfl rfl) (by omega) ?_
    refine JL.nil ?_
    refine J.seq ?_
    refine J.condT rfl ?_
    refine J.skip ?_
    refine J.seq ?_
    refine J.block ?_
    refine J.seq ?_
    refine J.region ?_
    refine JL.pure rfl rfl (OpP.move rfl) ?_
    refine JL.pure rfl rfl (OpP.indexAddr rfl rfl (by omega) (by omega)) ?_
    refine JL.read rfl rfl (OpR.loadN rfl (by apply Cells.conv (fun _ h => Own.pick (pre := [_, _, _, _, _]) [] rfl h); apply Cells.chunkAt hcs; (case' h => assumption); (case' hi => assumption); done) (by first | rfl | assumption)) ?_
    refine JL.mem rfl rfl OpM.alloc ?_; rintro _ _ ⟨b5, rfl, rfl⟩
    refine JL.pure rfl rfl (OpP.assign rfl) ?_
    refine JL.mem0 rfl (by apply OpM.storeN rfl rfl (by rfl) (oneC rfl (oneC rfl (oneC rfl (oneC rfl (oneC rfl (oneC rfl (oneC rfl (oneC rfl (oneC rfl (oneC rfl (oneC rfl (oneC rfl (one1 rfl))))))))))))); (case' hu => exact .head); (case' hs => exact (.here (.here (.here (.here (.here (.here (.here (.here (.here (.here (.here (.here (.here .nil)))))))))))))); done) ?_; rintro _ _ ⟨rfl, rfl⟩
    refine JL.nil ?_
    refine J.seq ?_
    refine J.region ?_
    refine JL.pure rfl rfl (OpP.fieldAddr rfl) ?_
    refine JL.read rfl rfl (OpR.load1 rfl (Cell.row .head rfl)) ?_
    refine JL.pure rfl rfl (OpP.len rfl rfl) ?_
    refine JL.pure rfl rfl (OpP.move rfl) ?_
    refine JL.nil ?_
    refine J.block ?_
    refine J.loopI (σ := Nat × Option Addr × Nat × Option Addr × Nat × List Pr) (fun s => p.rs.length - s.1) (fun s => s.1 ≤ p.rs.length ∧ s.2.2.2.2.2.map Pr.pure = (pN s.1).2)
      (fun s => [(26, .int .i64 (s.1 : Nat)), (25, .int .i64 p.rs.length), (24, .slice p.a p.rs.length p.c), (4, .int .i64 (i : Nat)), (5, .pointer (some ⟨b5, 0, none⟩)), (18, .int .i64 (i : Nat)), (17, .int .i64 ps.length), (16, .slice (some ⟨ga, oa, none⟩) ps.length c), (3, .pointer (some ⟨b14, 0, none⟩)), (2, .pointer (some ⟨b2, 0, none⟩))])
      (fun s => row b5 51 (pcl p) :: row b14 65 [.slice s.2.1 (pN s.1).1.length s.2.2.1, .slice s.2.2.2.1 s.2.2.2.2.2.length s.2.2.2.2.1] :: own 45 11 (.slice s.2.1 (pN s.1).1.length s.2.2.1) (pN s.1).1.length ((pN s.1).1.flatMap ncl) :: own 48 4 (.slice s.2.2.2.1 s.2.2.2.2.2.length s.2.2.2.2.1) s.2.2.2.2.2.length (s.2.2.2.2.2.flatMap prcl) :: rests s.2.2.2.2.2 :: row b2 42 [.slice none 0 0, .slice none 0 0] :: F)
      (0, na, nc, qa, qc, qs) ⟨Nat.zero_le _, by rw [hp0]; exact hq⟩ (by repeat (first | exact SubEnv.nil | refine SubEnv.cons (by first | rfl | exact congrArg (fun z => some (Value.int .i64 z)) (by omega) | (simp; done)) ?_)) (fun _ h => by rw [hp0]; exact h) (fun ⟨k, na, nc, qa, qc, qs⟩ hi2 back2 => ?_)
    clear hq
    obtain ⟨hk, hq⟩ := hi2
    dsimp only at hk hq back2 ⊢
    by_cases hlt2 : k < p.rs.length
    · obtain ⟨r, hrk⟩ : ∃ x, p.rs[k]? = some x := ⟨_, List.getElem?_eq_getElem hlt2⟩
      have hre := hpu r (List.mem_of_getElem? hrk)
      have hpk := hpol k hk
      have hb2 := fun (na : Option Addr) (nc : Nat) (qa : Option Addr) (qc : Nat) (qs : List Pr) h1 h2 => @back2 (k + 1, na, nc, qa, qc, qs) h1 h2
      dsimp only at hb2
      rw [hps k r hrk] at hb2
      dsimp only at hb2
      clear back2 hback hpol hps hs
      generalize pN k = S at *
      obtain ⟨N, PS⟩ := S
      dsimp only at *
      obtain ⟨hN1, hN2, hN3⟩ := hpk
      have hql : qs.length = PS.length := by rw [← hq, List.length_map]
      dsimp only at hN1 hN2 hN3
      refine J.rd (hpr _) fun hr2 => ?_
      obtain ⟨gb, pb, qb, eb, kb, hcs2⟩ := hr2.pos (by omega)
      simp only [Value.slice.injEq] at eb
      obtain ⟨ha, _, _⟩ := eb
      rw [ha]
      have rk := fun (bm : Nat) (G : List HProp) (a : Option Addr) (c : Nat) (pv : Value) => rule_ok (F := G) (a := a) (c := c) (bm := bm) (pv := pv) (p := p) (r := r) (ns := N) (by omega) hN3 hpe hre
      have o4 := prcl_one (ps := qs)
      have hl4 := chunk4 qs
      refine J.seq ?_
      refine J.region ?_
      refine JL.decT rfl rfl (OpP.lss rfl rfl) (by omega) ?_
      refine JL.nil ?_
      refine J.seq ?_
      refine J.condT rfl ?_
      refine J.skip ?_
      refine J.seq ?_
      refine J.block ?_
      refine J.seq ?_
      refine J.region ?_
      refine JL.pure rfl rfl (OpP.move rfl) ?_
      refine JL.pure rfl rfl (OpP.indexAddr rfl rfl (by omega) (by omega)) ?_
      refine JL.read rfl rfl (OpR.loadN rfl (by apply Cells.conv (fun _ h => h); apply Cells.chunkAt hcs2; (case' h => assumption); (case' hi => assumption); done) (by first | rfl | assumption)) ?_
      refine JL.mem rfl rfl OpM.alloc ?_; rintro _ _ ⟨b7, rfl, rfl⟩
      refine JL.pure rfl rfl (OpP.assign rfl) ?_
      refine JL.mem0 rfl (by apply OpM.storeN rfl rfl (by rfl) (oneC rfl (oneC rfl (oneC rfl (oneC rfl (oneC rfl (oneC rfl (oneC rfl (oneC rfl (oneC rfl (oneC rfl (oneC rfl (oneC rfl (one1 rfl))))))))))))); (case' hu => exact .head); (case' hs => exact (.here (.here (.here (.here (.here (.here (.here (.here (.here (.here (.here (.here (.here .nil)))))))))))))); done) ?_; rintro _ _ ⟨rfl, rfl⟩
      refine JL.nil ?_
      refine J.seq ?_
      refine J.region ?_
      refine JL.pure rfl rfl (OpP.move rfl) ?_
      refine JL.read rfl rfl (OpR.loadN rfl (Cells.full (.tail .head)) rfl) ?_
      refine JL.read rfl rfl (OpR.loadN rfl (Cells.full .head) rfl) ?_
      refine JL.f3 ?_; refine JL.f3 ?_; refine JL.step rfl rfl (OpW.call (first := []) (captured := []) inferInstance rfl rfl (rk _ _ _ _ _)) ?_; rintro r34 _ ⟨a', ⟨c', ⟨ra, ⟨rc, ⟨rfl, rfl⟩⟩⟩⟩⟩
      refine JL.mem rfl rfl OpM.alloc ?_; rintro _ _ ⟨b8, rfl, rfl⟩
      refine JL.mem0 rfl (by apply OpM.storeN rfl rfl (by rfl) (oneC rfl (oneC rfl (oneC rfl (one1 rfl)))); (case' hu => exact .head); (case' hs => exact (.here (.here (.here (.here .nil))))); done) ?_; rintro _ _ ⟨rfl, rfl⟩
      refine JL.nil ?_
      refine J.seq ?_
      refine J.region ?_
      refine JL.pure rfl rfl (OpP.move rfl) ?_
      refine JL.pure rfl rfl (OpP.move rfl) ?_
      refine JL.pure rfl rfl (OpP.fieldAddr rfl) ?_
      refine JL.mem0 rfl (by apply OpM.store1 rfl rfl rfl; (case' hu => exact .head); (case' hs => exact (.here .nil)); done) ?_; rintro _ _ ⟨rfl, rfl⟩
      refine JL.pure rfl rfl (OpP.fieldAddr rfl) ?_
      refine JL.mem0 rfl (by apply OpM.store1 rfl rfl rfl; (case' hu => exact .head); (case' hs => exact (.there (.here .nil))); done) ?_; rintro _ _ ⟨rfl, rfl⟩
      refine JL.nil ?_
      refine J.regionD [5, 6] (by kernel_rfl) ?_
      refine DL.pure (i := 0) (by kernel_rfl) (by kernel_rfl) rfl rfl rfl (OpP.move rfl) ?_
      refine DL.pure (i := 1) (by kernel_rfl) (by kernel_rfl) rfl rfl rfl (OpP.move rfl) ?_
      refine DL.pure (i := 2) (by kernel_rfl) (by kernel_rfl) rfl rfl rfl (OpP.nilCheck rfl) ?_
      refine DL.pure (i := 3) (by kernel_rfl) (by kernel_rfl) rfl rfl rfl (OpP.fieldAddr rfl) ?_
      refine DL.pure (i := 4) (by kernel_rfl) (by kernel_rfl) rfl rfl rfl (OpP.fieldAddr rfl) ?_
      refine DL.read (i := 5) (by kernel_rfl) (by kernel_rfl) rfl rfl rfl (fun _ h => h) (OpR.load1 rfl (Cell.row (.tail .head) rfl)) ?_
      refine DL.read (i := 6) (by kernel_rfl) (by kernel_rfl) rfl rfl rfl (fun _ h => h) (OpR.loadN rfl (Cells.full .head) rfl) ?_
      refine DL.only (i := 7) (by kernel_rfl) ?_
      refine DL1.stepK rfl rfl rfl (OpM.w (by apply OpM.buildSlice (by rfl) rfl (by rfl); (repeat (first | exact Fills.nil | (apply Fills.cons rfl rfl rfl; (case' hs => ((repeat (first | exact Spl.nil | apply Spl.here | apply Spl.there)); done))))))) (by rintro _ _ ⟨b46, rfl, rfl⟩ _ h; exact Own.pick (pre := [_, _, _, _, _, _, _, _, _, _]) [1, 2, 3, 4, 5, 6, 7, 8, 9] rfl h) ?_; rintro _ _ ⟨b46, rfl, rfl⟩
      refine DL.only (i := 8) (by kernel_rfl) ?_
      refine DL1.f7 ?_; refine DL1.stepF rfl rfl rfl (by kernel_rfl) (OpM.w (OpM.appendH rfl (.inl ⟨_, Sl.und inferInstance⟩) (by rfl) rfl rfl (RdO.src (RdO.ofRow (.tail .head) (by first | exact Nat.le_refl _ | decide | omega)) (by first | assumption | exact fc_length _ _ | (simp; done) | (simp; omega))) (oneC rfl (oneC rfl (oneC rfl (one1 rfl)))) (by simp only [maxLen]; omega) (by omega))) ?_; rintro _ _ ⟨⟨a47, c47, rfl⟩, rfl⟩
      refine DL.pure (i := 9) (by kernel_rfl) (by kernel_rfl) rfl rfl rfl (OpP.nilCheck rfl) ?_
      refine DL.pure (i := 10) (by kernel_rfl) (by kernel_rfl) rfl rfl rfl (OpP.fieldAddr rfl) ?_
      refine DL.pure (i := 11) (by kernel_rfl) (by kernel_rfl) rfl rfl rfl (OpP.fieldAddr rfl) ?_
      refine DL.only (i := 12) (by kernel_rfl) ?_
      refine DL1.stepF0 rfl rfl (by kernel_rfl) (OpM.w (by apply OpM.store1 rfl rfl rfl; (case' hu => exact (.tail (.tail (.tail .head)))); (case' hs => exact (.there (.here .nil))); done)) ?_; rintro _ _ ⟨rfl, rfl⟩
      refine DL.done (by kernel_rfl) ?_
      refine J.inBlock ?_
      refine J.region ?_
      refine JL.pure rfl rfl (OpP.addI rfl rfl (by omega) (by omega)) ?_
      refine JL.pure rfl rfl (OpP.move rfl) ?_
      refine JL.nil ?_
      have bk := @hb2 a' c' a47 c47 (qs ++ [⟨i, k, (ruleN N (all p r)).2, ofS (all p r) 6, ra, rc⟩]) ⟨by omega, by rw [List.map_append, hq]; rfl⟩ (by omega)
      rw [List.flatMap_append, List.length_append, ha] at bk
      refine bk (by repeat (first | exact SubEnv.nil | refine SubEnv.cons (by first | rfl | exact congrArg (fun z => some (Value.int .i64 z)) (by omega) | (simp; done)) ?_)) (fun _ h => ?_)
      have h2 := rests_snoc (p := ⟨i, k, (ruleN N (all p r)).2, ofS (all p r) 6, ra, rc⟩) (Own.pick (pre := [_, _, _, _, _, _, _, _, _, _]) [5, 8, 7, 3, 4, 0, 9] rfl h)
      exact Own.pick (pre := [_, _, _, _, _, _]) [1, 2, 3, 4, 0, 5] rfl h2
    · have : k = p.rs.length := by omega
      subst this
      refine J.seq ?_
      refine J.region ?_
      refine JL.decF rfl rfl (OpP.lss rfl rfl) (by omega) ?_
      refine JL.nil ?_
      refine J.seq ?_
      refine J.condF rfl ?_
      refine J.exit rfl ?_
      refine J.inBlock ?_
      refine J.region ?_
      refine JL.pure rfl rfl (OpP.addI rfl rfl (by omega) (by omega)) ?_
      refine JL.pure rfl rfl (OpP.move rfl) ?_
      refine JL.nil ?_
      exact hback na nc qa qc qs ⟨by omega, hq⟩ (by omega) (by repeat (first | exact SubEnv.nil | refine SubEnv.cons (by first | rfl | exact congrArg (fun z => some (Value.int .i64 z)) (by omega) | (simp; done)) ?_)) (fun _ h => h.tail)
  · have : i = ps.length := by omega
    subst this
    refine J.seq ?_
    refine J.region ?_
    refine JL.decF rfl rfl (OpP.lss rfl rfl) (by omega) ?_
    refine JL.nil ?_
    refine J.seq ?_
    refine J.condF rfl ?_
    refine J.exit rfl ?_
    refine J.seq ?_
    refine J.region ?_
    refine JL.pure rfl rfl (OpP.move rfl) ?_
    refine JL.pure rfl rfl (OpP.nilCheck rfl) ?_
    refine JL.pure rfl rfl (OpP.fieldAddr rfl) ?_
    refine JL.read rfl rfl (OpR.loadN rfl (Cells.full .head) rfl) ?_
    refine JL.mem0 rfl (by apply OpM.storeN rfl rfl (by rfl) (oneC rfl (one1 rfl)); (case' hu => exact (.tail (.tail (.tail (.tail .head))))); (case' hs => exact (.here (.here .nil))); done) ?_; rintro _ _ ⟨rfl, rfl⟩
    refine JL.nil ?_
    refine J.retC rfl rfl (by apply Cells.full; (with_reducible repeat (first | exact .head | apply Has.tail))) (by first | (rw [List.length_append, hdC_len (by first | assumption | exact Go.Proofs.B.shaB_length _ _ | solve_by_elim)]; rfl) | exact hdC_len (by first | assumption | exact Go.Proofs.B.shaB_length _ _ | solve_by_elim) | (rw [bcells_length]; first | assumption | exact Go.Proofs.B.shaB_length _ _ | solve_by_elim) | exact fc_length _ _ | exact fB_length _ _ | rfl) ?_
    exact ⟨_, ⟨na, nc, qa, qc, qs, hq, rfl, rfl⟩, fun _ h => Own.pick (pre := [_, _, _, _, _]) [1, 2, 3] rfl h⟩
end Go.Proofs.D

-- seat d
namespace Go.Proofs.D
open Go Go.Gp Go.RowKit

/-- The document without anything. -/
def noD : Dc := ⟨none, 0, 0, noS, [], none, 0⟩
theorem noD_t {w0 : World} : DcT w0 noD := ⟨fun l => (Rd.o (.inl ⟨_, _, rfl, rfl, rfl⟩)), by decide, by simp [noD]⟩
theorem noD_net : (netN noD).1.length = 2 := by simp [netN, noD, docN]
theorem awake_ok {w0 : World} {F : List HProp} : FnO Try.prog w0 7 [] F (fun u l' => u = .bool true ∧ l' = F) := by
  have s1 := side_ok (w0 := w0) (F := F) nowE_tr
  rw [nowE_side] at s1
  have c1 := compile_ok (w0 := w0) (F := F) noD_t
  rw [noD_net] at c1
  refine FnO.weak ?_
  refine FnO.intro (n := 11) Try.func7 rfl rfl rfl ?_
  refine J.seq ?_
  refine J.region ?_
  refine JL.pure rfl rfl (OpP.assign rfl) ?_
  refine JL.nil ?_
  refine J.seq ?_
  refine J.region ?_
  refine JL.pure rfl rfl (OpP.build rfl (by (repeat (first | exact Fills.nil | (apply Fills.cons rfl rfl rfl; (case' hs => ((repeat (first | exact Spl.nil | apply Spl.here | apply Spl.there)); done))))))) ?_
  refine JL.step rfl rfl (OpW.call (first := []) (captured := []) inferInstance rfl rfl s1) ?_; rintro r2 _ ⟨rfl, rfl⟩
  refine JL.decT rfl rfl (OpP.eql rfl rfl) (by omega) ?_
  refine JL.pure rfl rfl (OpP.move rfl) ?_
  refine JL.pure rfl rfl (OpP.build rfl (by (repeat (first | exact Fills.nil | (apply Fills.cons rfl rfl rfl; (case' hs => ((repeat (first | exact Spl.nil | apply Spl.here | apply Spl.there)); done))))))) ?_
  refine JL.step rfl rfl (OpW.call (first := []) (captured := []) inferInstance rfl rfl c1) ?_; rintro r6 _ ⟨a, ⟨c, ⟨pa, ⟨pc, ⟨ps, ⟨h6, ⟨rfl, rfl⟩⟩⟩⟩⟩⟩⟩
  refine JL.pure rfl rfl (OpP.field1 rfl rfl) ?_
  refine JL.pure rfl rfl (OpP.len rfl rfl) ?_
  refine JL.decT rfl rfl (OpP.eql rfl rfl) (by omega) ?_
  refine JL.pure rfl rfl (OpP.pickT rfl rfl) ?_
  refine JL.pure rfl rfl (OpP.assign rfl) ?_
  refine JL.nil ?_
  refine J.ret1 rfl rfl ?_
  exact ⟨_, ⟨rfl, rfl⟩, fun _ h => h.tail.tail.tail⟩
theorem sameAll_eq {w0 : World} {F : List HProp} {a a2 : Option Addr} {c c2 : Nat} {ps : List Ex} (hn1 : ps.length ≤ 1000) (t1 : ∀ p ∈ ps, Tr w0 p) (hp : RdO w0 F (.slice a ps.length c) ps.length (ps.flatMap xcl)) (gp : RdO w0 F (.slice a2 ps.length c2) ps.length (ps.flatMap xcl)) :
    FnO Try.prog w0 10 [.slice a ps.length c, .slice a2 ps.length c2] F (fun r l' => r = .bool true ∧ l' = F) :=
  (sameAll_ok hn1 hn1 hp gp t1 t1).mono fun r l' ⟨b, h1, h2, h3⟩ => ⟨by rw [h1, h3.2 rfl], h2⟩
theorem NetworkSides_ok {w0 : World} {e : Ex} (he : ExOk w0 e) : FnO Try.prog w0 3 [.agg (xcl e).toArray] [] (fun v _ => v = .bool true) := by
  have fe := fun (G : List HProp) => fewExpr_ok (F := G) he
  refine FnO.intro (n := 44) Try.func3 rfl rfl rfl ?_
  refine J.seq ?_
  refine J.region ?_
  refine JL.mem rfl rfl (OpM.box rfl rfl) ?_; rintro _ _ ⟨b1, rfl, rfl⟩
  refine JL.pure rfl rfl (OpP.assign rfl) ?_
  refine JL.nil ?_
  refine J.seq ?_
  refine J.seq ?_
  refine J.region ?_
  refine JL.step rfl rfl (OpW.call (first := []) (captured := []) inferInstance rfl rfl awake_ok) ?_; rintro r5 _ ⟨rfl, rfl⟩
  refine JL.pure rfl rfl (OpP.notB rfl) ?_
  refine JL.pure rfl rfl (OpP.move rfl) ?_
  refine JL.read rfl rfl (OpR.loadN rfl (Cells.full .head) rfl) ?_
  refine JL.step rfl rfl (OpW.call (first := []) (captured := []) inferInstance rfl rfl (fe _)) ?_; rintro r9 _ ⟨b, ⟨rfl, ⟨rfl, h9⟩⟩⟩
  refine JL.pure rfl rfl (OpP.notB rfl) ?_
  refine JL.pure rfl rfl (OpP.pickF rfl rfl) ?_
  refine JL.nil ?_
  refine J.splitAt 11 rfl (fun h11 => ?_) (fun h11 => ?_)
  focus
    refine J.condT rfl ?_
    refine J.seq ?_
    refine J.region ?_
    refine JL.step rfl rfl (OpW.call (first := []) (captured := []) inferInstance rfl rfl awake_ok) ?_; rintro r12 _ ⟨rfl, rfl⟩
    refine JL.pure rfl rfl (OpP.assign rfl) ?_
    refine JL.nil ?_
    refine J.ret1 rfl rfl ?_
  rotate_left 1
  focus
    refine J.condF rfl ?_
    refine J.skip ?_
  rotate_left 1
  · rfl
  have ht : Tr w0 e := h9 (by simpa using h11)
  obtain ⟨hx, hp, hn⟩ := conj_all ht
  have hz : esz e ≤ 60 := by cases ht; assumption
  have d1 := fun (G : List HProp) => conj_ok (F := G) ht
  have d2 := fun (G : List HProp) => conjR_ok (F := G) ht
  have s1 := fun (G : List HProp) => side_ok (F := G) ht
  have s2 := fun (G : List HProp) => sideR_ok (F := G) ht
  have hlen : ∀ p ∈ conj e, (xcl p).length = 8 := fun _ _ => rfl
  refine J.seq ?_
  refine J.region ?_
  refine JL.read rfl rfl (OpR.loadN rfl (Cells.full .head) rfl) ?_
  refine JL.step rfl rfl (OpW.call (first := []) (captured := []) inferInstance rfl rfl (d1 _)) ?_; rintro r14 _ ⟨a, ⟨c, ⟨rfl, rfl⟩⟩⟩
  refine JL.pure rfl rfl (OpP.assign rfl) ?_
  refine JL.nil ?_
  refine J.seq ?_
  refine J.ownSome .head hp fun ga pa ea ka => ?_
  subst ea
  refine J.seq ?_
  refine J.regionD [1, 6, 8] (by kernel_rfl) ?_
  refine DL.pure (i := 0) (by kernel_rfl) (by kernel_rfl) rfl rfl rfl (OpP.move rfl) ?_
  refine DL.read (i := 1) (by kernel_rfl) (by kernel_rfl) rfl rfl rfl (fun _ h => h) (OpR.loadN rfl (Cells.full (.tail .head)) rfl) ?_
  refine DL.only (i := 2) (by kernel_rfl) ?_
  refine DL1.stepK rfl rfl rfl (by exact OpW.call (first := []) (captured := []) inferInstance rfl rfl (d2 _)) (by rintro _ _ ⟨a, ⟨c1, ⟨rfl, rfl⟩⟩⟩ _ h; exact Own.pick (pre := [_, _, _]) [1, 2] rfl h) ?_; rintro r17 _ ⟨a, ⟨c1, ⟨rfl, rfl⟩⟩⟩
  refine DL.only (i := 3) (by kernel_rfl) ?_
  refine DL1.stepK rfl rfl rfl (by exact OpW.call (first := []) (captured := []) inferInstance rfl rfl (sameAll_eq (by omega) hx (RdO.own (.tail .head)) (RdO.own .head))) (by rintro _ _ ⟨rfl, rfl⟩ _ h; exact Own.pick (pre := [_, _, _]) [1, 2] rfl h) ?_; rintro r18 _ ⟨rfl, rfl⟩
  refine DL.pure (i := 4) (by kernel_rfl) (by kernel_rfl) rfl rfl rfl (OpP.notB rfl) ?_
  refine DL.pure (i := 5) (by kernel_rfl) (by kernel_rfl) rfl rfl rfl (OpP.move rfl) ?_
  refine DL.read (i := 6) (by kernel_rfl) (by kernel_rfl) rfl rfl rfl (fun _ h => Own.pick (pre := [_, _, _]) [1, 2] rfl h) (OpR.loadN rfl (Cells.full (.tail .head)) rfl) ?_
  refine DL.read (i := 8) (by kernel_rfl) (by kernel_rfl) rfl rfl rfl (fun _ h => Own.pick (pre := [_, _, _]) [1, 2] rfl h) (OpR.loadN rfl (Cells.full (.tail .head)) rfl) ?_
  refine DL.only (i := 7) (by kernel_rfl) ?_
  refine DL1.stepK rfl rfl rfl (by exact OpW.call (first := []) (captured := []) inferInstance rfl rfl (s1 _)) (by rintro _ _ ⟨rfl, rfl⟩ _ h; exact Own.pick (pre := [_, _, _]) [1, 2] rfl h) ?_; rintro r22 _ ⟨rfl, rfl⟩
  refine DL.only (i := 9) (by kernel_rfl) ?_
  refine DL1.stepF rfl rfl rfl (by kernel_rfl) (by exact OpW.call (first := []) (captured := []) inferInstance rfl rfl (s2 _)) ?_; rintro r24 _ ⟨rfl, rfl⟩
  refine DL.decF (i := 10) (by kernel_rfl) (by kernel_rfl) rfl rfl rfl (OpP.neq rfl rfl) (by omega) ?_
  refine DL.pure (i := 11) (by kernel_rfl) (by kernel_rfl) rfl rfl rfl (OpP.pickF rfl rfl) ?_
  refine DL.done (by kernel_rfl) ?_
  refine J.condF rfl ?_
  refine J.skip ?_
  refine J.seq ?_
  refine J.seq ?_
  refine J.region ?_
  refine JL.pure rfl rfl (OpP.assign rfl) ?_
  refine JL.nil ?_
  refine J.block ?_
  generalize conj e = l at *
  refine J.loopI (fun j : Nat => l.length - j) (fun j => j ≤ l.length) (fun j => [(4, .int .i64 (j : Nat)), (3, .slice (some ⟨ga, pa, none⟩) l.length c)])
    (fun _ => [own 27 8 (.slice (some ⟨ga, pa, none⟩) l.length c) l.length (l.flatMap xcl)]) 0 (Nat.zero_le _) (by repeat (first | exact SubEnv.nil | refine SubEnv.cons (by first | rfl | exact congrArg (fun z => some (Value.int .i64 z)) (by omega) | (simp; done)) ?_)) (fun _ h => Own.pick (pre := [_, _, _]) (F := []) [1] rfl h) (fun j hj back => ?_)
  by_cases hlt : j < l.length
  · obtain ⟨p, hpj⟩ : ∃ p, l[j]? = some p := ⟨_, List.getElem?_eq_getElem hlt⟩
    have tp := hx p (List.mem_of_getElem? hpj)
    have u1 := fun (G : List HProp) => side_ok (F := G) tp
    have u2 := fun (G : List HProp) => sideR_ok (F := G) tp
    refine J.seq ?_
    refine J.seq ?_
    refine J.region ?_
    refine JL.pure rfl rfl (OpP.move rfl) ?_
    refine JL.pure rfl rfl (OpP.move rfl) ?_
    refine JL.pure rfl rfl (OpP.len rfl rfl) ?_
    refine JL.decT rfl rfl (OpP.lss rfl rfl) (by omega) ?_
    refine JL.nil ?_
    refine J.condT rfl ?_
    refine J.skip ?_
    refine J.seq ?_
    refine J.block ?_
    refine J.seq ?_
    refine J.regionD [3, 8] (by kernel_rfl) ?_
    refine DL.pure (i := 0) (by kernel_rfl) (by kernel_rfl) rfl rfl rfl (OpP.move rfl) ?_
    refine DL.pure (i := 1) (by kernel_rfl) (by kernel_rfl) rfl rfl rfl (OpP.move rfl) ?_
    refine DL.pure (i := 2) (by kernel_rfl) (by kernel_rfl) rfl rfl rfl (OpP.indexAddr rfl rfl (by omega) (by omega)) ?_
    refine DL.read (i := 3) (by kernel_rfl) (by kernel_rfl) rfl rfl rfl (fun _ h => h) (OpR.loadN rfl (by apply Cells.chunkAt (Cells.own .head); (case' h => assumption); (case' hi => assumption); done) (by first | rfl | assumption)) ?_
    refine DL.pure (i := 5) (by kernel_rfl) (by kernel_rfl) rfl rfl rfl (OpP.move rfl) ?_
    refine DL.pure (i := 6) (by kernel_rfl) (by kernel_rfl) rfl rfl rfl (OpP.move rfl) ?_
    refine DL.pure (i := 7) (by kernel_rfl) (by kernel_rfl) rfl rfl rfl (OpP.indexAddr rfl rfl (by omega) (by omega)) ?_
    refine DL.read (i := 8) (by kernel_rfl) (by kernel_rfl) rfl rfl rfl (fun _ h => h) (OpR.loadN rfl (by apply Cells.chunkAt (Cells.own .head); (case' h => assumption); (case' hi => assumption); done) (by first | rfl | assumption)) ?_
    refine DL.only (i := 4) (by kernel_rfl) ?_
    refine DL1.stepK rfl rfl rfl (by exact OpW.call (first := []) (captured := []) inferInstance rfl rfl (u1 _)) (by rintro _ _ ⟨rfl, rfl⟩ _ h; exact Own.pick (pre := [_]) [0] rfl h) ?_; rintro r37 _ ⟨rfl, rfl⟩
    refine DL.only (i := 9) (by kernel_rfl) ?_
    refine DL1.stepF rfl rfl rfl (by kernel_rfl) (by exact OpW.call (first := []) (captured := []) inferInstance rfl rfl (u2 _)) ?_; rintro r42 _ ⟨rfl, rfl⟩
    refine DL.decF (i := 10) (by kernel_rfl) (by kernel_rfl) rfl rfl rfl (OpP.neq rfl rfl) (by omega) ?_
    refine DL.done (by kernel_rfl) ?_
    refine J.condF rfl ?_
    refine J.skip ?_
    refine J.inBlock ?_
    refine J.region ?_
    refine JL.pure rfl rfl (OpP.move rfl) ?_
    refine JL.pure rfl rfl (OpP.addI rfl rfl (by omega) (by omega)) ?_
    refine JL.pure rfl rfl (OpP.assign rfl) ?_
    refine JL.nil ?_
    exact back (j + 1) (by omega) (by omega) (by repeat (first | exact SubEnv.nil | refine SubEnv.cons (by first | rfl | exact congrArg (fun z => some (Value.int .i64 z)) (by omega) | (simp; done)) ?_)) (fun _ h => h)
  · refine J.seq ?_
    refine J.seq ?_
    refine J.region ?_
    refine JL.pure rfl rfl (OpP.move rfl) ?_
    refine JL.pure rfl rfl (OpP.move rfl) ?_
    refine JL.pure rfl rfl (OpP.len rfl rfl) ?_
    refine JL.decF rfl rfl (OpP.lss rfl rfl) (by omega) ?_
    refine JL.nil ?_
    refine J.condF rfl ?_
    refine J.exit rfl ?_
    refine J.seq ?_
    refine J.region ?_
    refine JL.pure rfl rfl (OpP.assign rfl) ?_
    refine JL.nil ?_
    refine J.ret1 rfl rfl ?_
    rfl
theorem NetworkSides_law {W : World} {a : Array Value} (h : Fm Try.prog W 27 a.toList) :
    Calls Try.prog 3 #[.agg a] W fun e w' => e = .returned (.bool true) ∧ Below W.heap.size W w' := by
  obtain ⟨e, he, q⟩ := Fm.tree h
  obtain rfl : a = _ := by rw [← Array.toArray_toList (xs := a), q]
  exact FnO.law (NetworkSides_ok he) (Own.nil W)
end Go.Proofs.D
