/- A text of the proof of a statement about the given program: its part BEnd. No person has read it. -/
import Derived.Test.YtecnolmpdgfnfaaDoorJ26
import Derived.Lib.MakeNoZero
import Derived.Laws.Externs
import Derived.Test.YtecnolmpdgfnfaaDoorBLaw5
/-! Bytes told as text, whatever they lie in. -/
namespace Go.Gp
open Go Go.RowKit
section
variable {P : Program} {w0 : World} {env : Env} {l : List HProp} {dst : Option Tmp} {ty : TypeId} {pos : String} {after : Array Edge} {g : Option (Nat × Bool)}
theorem OpR.rdStr {x : Operand} {s d e : TypeId} {sz by_ n : Nat} {bs : List UInt8} {v : Value} [hs : Sl P s e sz by_] [he : IntT P e .u8] [hd : StrT P d] (hx : ev env x = some v) (hr : RdO w0 l v n (bcells bs)) (hn : n = bs.length) :
    OpR P w0 ⟨dst, .convert s d x, ty, pos, after, g⟩ env l (.string (strB bs)) := by
  refine ⟨fun ρ hrr w ho => ?_⟩
  rcases hr w ho with ⟨a, c, rfl, h0, h1⟩ | ⟨b, o, c, rfl, _, hc⟩
  · have hb : bs = [] := by
      cases bs with
      | nil => rfl
      | cons b bs => simp [bcells] at h1
    subst hb
    cases a with
    | none => exact (OpR.nilToStr (dst := dst) (ty := ty) (pos := pos) (after := after) (g := g) hx).run ρ hrr w
    | some a =>
      have hx' := hrr x (by simp [Op.operands]) _ hx
      have hl1 := run_loadCells_list (P := P) w a [] (fun j v hv => by simp at hv)
      have := run_bytesToString (P := P) w a 0 c [] (by simpa using hl1)
      have e2 : ByteArray.empty = strB [] := rfl
      rw [List.foldl_nil, e2] at this
      simp only [execOp, hx', Sem.run_bind, run_convert_bytes_string w s d e _ _ _ hs.und he.h hd.h, this, Result.andThen_ok, Sem.run_pure]
  · exact (OpR.bytesToStr (dst := dst) (ty := ty) (pos := pos) (after := after) (g := g) hx hc hn).run ρ hrr w ho
end
/-! Parts of parts. -/
theorem Parts.mk' {w0 : World} {F : List HProp} {v : Value} {ps : List (Value × List UInt8)} {n : Nat} (hn : n = ps.length) (hr : RdO w0 F v n (ps.map (·.1))) (he : ∀ p ∈ ps, (∃ a c, p.1 = .slice a p.2.length c) ∧ RdO w0 F p.1 p.2.length (bcells p.2)) : Parts w0 F v ps := by subst hn; exact ⟨hr, he⟩
theorem Parts.to {P : Program} {w0 : World} {t e by_ k : Nat} {v : Value} {ps : List (Value × List UInt8)} [Sl P t e 1 by_] (hs : ShapeOf v ps.length) (hp : Parts w0 [] v ps) (hk : k ≤ ps.length) : ∃ a c, SlTo P t v k (.slice a (ps.take k).length c) ∧ Parts w0 [] (.slice a (ps.take k).length c) (ps.take k) := by
  obtain ⟨a, c, h1, h2⟩ := ShapeOf.to (P := P) (t := t) hs hp.rd hk
  have e1 : (ps.take k).length = k := by rw [List.length_take]; omega
  refine ⟨a, c, e1.symm ▸ h1, Parts.mk' rfl ?_ fun p hm => hp.each p (List.mem_of_mem_take hm)⟩
  rw [Nat.mul_one, ← List.map_take] at h2
  rw [e1]
  exact h2
theorem Parts.from {P : Program} {w0 : World} {t e by_ k : Nat} {v : Value} {ps : List (Value × List UInt8)} [Sl P t e 1 by_] (hs : ShapeOf v ps.length) (hp : Parts w0 [] v ps) (hk : k ≤ ps.length) : ∃ a c, SlFrom P t v k (.slice a (ps.drop k).length c) ∧ Parts w0 [] (.slice a (ps.drop k).length c) (ps.drop k) := by
  obtain ⟨a, c, h1, h2⟩ := ShapeOf.from (P := P) (t := t) hs hp.rd (by simp) hk
  have e1 : (ps.drop k).length = ps.length - k := List.length_drop
  refine ⟨a, c, e1.symm ▸ h1, Parts.mk' rfl ?_ fun p hm => hp.each p (List.mem_of_mem_drop hm)⟩
  rw [Nat.mul_one, ← List.map_drop] at h2
  rw [e1]
  exact h2
end Go.Gp

/-! bytealg.MakeNoZero; slices with a bound of their own; rows filled from the front. -/
namespace Go.Gp
open Go Go.RowKit

/-- A function of no body that makes bytes of whatever worth. -/
class MakeT (P : Program) (fid : FuncId) (t : outParam TypeId) (e : outParam TypeId) : Prop where
  h : ∃ fn ps, P.funcs[fid]? = some fn ∧ (fn.name == "runtime.NumGoroutine") = false ∧ fn.body.isNone = true ∧ Extern.findNext fn = none ∧ Extern.find fn = some (Extern.BytealgMakeNoZero.makeNoZero ps #[t]) ∧ P.underlying t = some (.slice e)
section
variable {P : Program} {w0 : World} {env : Env} {l : List HProp} {dst : Option Tmp} {ty : TypeId} {pos : String} {after : Array Edge} {g : Option (Nat × Bool)}
theorem OpM.makeNoZero {f x : Operand} {fid : FuncId} {t e n : Nat} {tys : Array TypeId} [hm : MakeT P fid t e] (hf : ev env f = some (.func (.func fid) #[] #[])) (hx : ev env x = some (.int .i64 (n : Nat))) (hn : n ≤ 1000000) :
    OpM P w0 ⟨dst, .call ⟨.value f, #[x], tys⟩, ty, pos, after, g⟩ env l (fun u l'' => ∃ b cs, u = .slice (some ⟨b, 0, none⟩) n cs.length ∧ n ≤ cs.length ∧ l'' = row b e cs :: l) := by
  refine ⟨fun ρ hr w ho => ?_⟩
  obtain ⟨fn, ps, h1, h2, h3, h4, h5, h6⟩ := hm.h
  have hf' : ρ f = _ := hr f (by simp [Op.operands, Call.operands]) _ hf
  have hx' : ρ x = _ := hr x (by simp [Op.operands, Call.operands]) _ hx
  obtain ⟨cs, hrun, hle, _⟩ := Lib.run_makeNoZero (P := P) w ps t e h6 n (by omega)
  have hcall : (callFunc fid #[.int .i64 (n : Nat)]).run P w = .ok (.value (.slice (some ⟨w.heap.size, 0, none⟩) n cs.size)) (w.drew.drew.alloc (.cells cs e)) := by
    rw [run_callFunc_extern h1 h2 h3 h4 h5, hrun]; rfl
  refine ⟨_, .slice (some ⟨w.heap.size, 0, none⟩) n cs.size, w.drew.drew.alloc (.cells cs e), _, ?_, .inl rfl, ⟨w.heap.size, cs.toList, by simp, by simpa using hle, rfl⟩, ?_⟩
  · simp only [execOp, resolve, hf', Deferred.ofValue, List.map_toArray]
    simp [invoke, hx', hcall]
  · refine Own.imp (A := blk w.heap.size (.cells cs e)) ?_ (Own.new ho ((((Below.refl _ _).drew).drew).alloc (Nat.le_refl _) _) (heap_alloc_new w.drew.drew _))
    intro h hb
    show h w.heap.size = some (.cells cs.toList.toArray e (0, 0))
    rw [Array.toArray_toList]; exact hb
theorem run_sliceBounds3 (w : World) {isS : Bool} {len cap h m : Nat} {k k' : IntKind} (h1 : h ≤ m) (h2 : m ≤ cap) :
    (Instr.sliceBounds isS len cap none (some (.int k (h : Int))) (some (.int k' (m : Int)))).run P w = .ok (0, h, m) w := by
  simp [Instr.sliceBounds, Instr.sliceBound, asIntOf, h1, h2]
theorem OpP.sliceTo3 {x hi mx : Operand} {k k' : IntKind} {t e sz by_ b o len cap h m : Nat} [hs : Sl P t e sz by_] (hx : ev env x = some (.slice (some ⟨b, o, none⟩) len cap)) (ehi : ev env hi = some (.int k (h : Nat))) (emx : ev env mx = some (.int k' (m : Nat))) (h1 : h ≤ m) (h2 : m ≤ cap) :
    OpP P ⟨dst, .slice t x none (some hi) (some mx), ty, pos, after, g⟩ env (.slice (some ⟨b, o, none⟩) h m) := by
  refine ⟨?_⟩
  intro ρ hr w
  have hx' := hr x (by simp [Op.operands]) _ hx
  have e1 := hr hi (by simp [Op.operands]) _ ehi
  have e2 := hr mx (by simp [Op.operands]) _ emx
  obtain ⟨i, hi1, hi2, _, _⟩ := hs.inf
  have hb := run_sliceBounds3 (P := P) (isS := true) (len := len) (k := k) (k' := k') w h1 h2
  simp only [execOp, hx', e1, e2, Option.map_none, Option.map_some, Instr.sliceAt, Sem.run_bind, run_underlying hs.und, Result.andThen_ok, Instr.slice, hb, run_sizeOf_info w hi1, hi2, Sem.run_pure]
  congr 3
  split
  · rfl
  · simp [addr_add]
end
theorem spl_none {cs : List Value} {o : Nat} (h : o ≤ cs.length) : Spl cs o [] cs := by
  have := Spl.mk (cs := cs) (vs := []) (o := o) (by simpa using h)
  simpa using this
/-- A row that is filled from the front. -/
def bufC (L : List UInt8) (cs : List Value) : List Value := bcells L ++ cs.drop L.length
theorem bufC_length {L : List UInt8} {cs : List Value} (h : L.length ≤ cs.length) : (bufC L cs).length = cs.length := by
  rw [bufC, List.length_append, bcells_length, List.length_drop]; omega
theorem spl_buf {L N : List UInt8} {cs : List Value} {o : Nat} (h : L.length + N.length ≤ cs.length) (ho : o = L.length ∨ N = [] ∧ o ≤ cs.length) : Spl (bufC L cs) o (bcells N) (bufC (L ++ N) cs) := by
  rcases ho with rfl | ⟨rfl, ho⟩
  · have := Spl.mk (cs := bufC L cs) (vs := bcells N) (o := L.length) (by rw [bufC_length (by omega), bcells_length]; exact h)
    have e : (bufC L cs).take L.length ++ bcells N ++ (bufC L cs).drop (L.length + (bcells N).length) = bufC (L ++ N) cs := by
      rw [bufC, bufC, List.take_left' (bcells_length _), bcells_length, ← List.drop_drop, List.drop_left' (bcells_length _), List.drop_drop, bcells, bcells, bcells, List.map_append, List.length_append]
    rw [e] at this
    exact this
  · rw [List.append_nil]
    exact spl_none (by rw [bufC_length (by simpa using h)]; exact ho)
theorem bufC_nil {cs : List Value} : bufC [] cs = cs := rfl
end Go.Gp
namespace Go.Gp
open Go Go.RowKit
theorem RdO.ofHd {w0 : World} {l : List HProp} {b t c : Nat} {h : List UInt8} {n : Int} (hm : Has (row b t (hdC h n)) l) (hl : h.length = 32) (hc : h.length ≤ c) : RdO w0 l (.slice (some ⟨b, 0, none⟩) h.length c) h.length (bcells h) := (Rd.o (.inr ⟨b, 0, c, rfl, hc, Cells.hd0 hm hl⟩))
end Go.Gp

-- seat b
namespace Go.Proofs.B
open Go Go.Gp Go.RowKit

theorem Equal_ok {w0 : World} {F : List HProp} {v1 v2 : Value} {l1 l2 : List UInt8} (h1 : RdO w0 F v1 l1.length (bcells l1)) (h2 : RdO w0 F v2 l2.length (bcells l2)) :
    FnO Tryd.prog w0 41 [v1, v2] F (fun r l' => r = .bool (decide (l1 = l2)) ∧ l' = F) := by
  refine FnO.rdF (fun _ h => h) h1 fun hr1 => ?_
  obtain ⟨a1, c1, rfl⟩ := hr1.lit
  refine FnO.rdF (fun _ h => h) h2 fun hr2 => ?_
  obtain ⟨a2, c2, rfl⟩ := hr2.lit
  refine FnO.intro (n := 10) Tryd.func41 rfl rfl rfl ?_
  refine J.seq ?_
  refine J.region ?_
  refine JL.pure rfl rfl (OpP.assign rfl) ?_
  refine JL.nil ?_
  refine J.seq ?_
  refine J.region ?_
  refine JL.pure rfl rfl (OpP.move rfl) ?_
  refine JL.read rfl rfl (OpR.rdStr (by rfl) h1 (by rfl)) ?_
  refine JL.pure rfl rfl (OpP.move rfl) ?_
  refine JL.read rfl rfl (OpR.rdStr (by rfl) h2 (by rfl)) ?_
  refine JL.dec rfl rfl (OpP.eqStr rfl rfl) (fun h9 => ?_) (fun h9 => ?_)
  focus
    refine JL.pure rfl rfl (OpP.assign rfl) ?_
    refine JL.nil ?_
    refine J.ret1 rfl rfl ?_
  rotate_left 1
  focus
    refine JL.pure rfl rfl (OpP.assign rfl) ?_
    refine JL.nil ?_
    refine J.ret1 rfl rfl ?_
  rotate_left 1
  · exact ⟨congrArg Value.bool (decide_eq_true (strB_inj.1 h9)).symm, rfl⟩
  · exact ⟨congrArg Value.bool (decide_eq_false fun e => h9 (strB_inj.2 e)).symm, rfl⟩
/-- Does the record stand there? -/
def Told (K : Ws) (h : List UInt8) (n : Int) (place : Int) (lr h2 : List UInt8) (m : Int) (ls : List (List UInt8)) : Prop := m = place ∧ ls[0]? = some lr ∧ hsh K h2 ls = h ∧ m + ls.length = n
instance {K h n place lr h2 m ls} : Decidable (Told K h n place lr h2 m ls) := by unfold Told; infer_instance
theorem Proves_ok {w0 : World} {F : List HProp} {h lr h2 : List UInt8} {n m place : Int} {v : Value} {pa : Option Addr} {pc : Nat} {ps : List (Value × List UInt8)} {K : Ws} (hK : Tab w0 0 64 fun j => w32 (K j)) (hl : h.length = 32) (hl2 : h2.length = 32) (hn : (Lit.int .i64 n).wf = true)
    (hrl : ∀ p ∈ ps, p.2.length ≤ 80000) (hm1 : -9223372036854775808 ≤ m) (hm2 : m + ps.length ≤ 9223372036854775807) (hpl : ps.length ≤ 9223372036854775807) (hr : RdO w0 F v lr.length (bcells lr)) (hp : Parts w0 F (.slice pa ps.length pc) ps) :
    FnO Tryd.prog w0 31 [.agg (hdC h n).toArray, .int .i64 place, v, .agg (hdC h2 m ++ [Value.slice pa ps.length pc]).toArray] F (fun r l' => r = .bool (decide (Told K h n place lr h2 m (recs ps))) ∧ l' = F) := by
  refine FnO.rdF (fun _ h => h) hr fun hr1 => ?_
  obtain ⟨a1, c1, rfl⟩ := hr1.lit
  have hhl := hsh_len (K := K) hl2 (recs ps)
  refine FnO.rdF (fun _ h => h) hp.rd fun hp1 => ?_
  refine FnO.weak ?_
  by_cases h0 : 0 < ps.length
  · obtain ⟨pa0, pc0, p0, hpi, hpv, hpr⟩ := hp.at h0
    have hrc : (recs ps)[0]? = some p0 := by rw [recs, List.getElem?_map, hpi]; rfl
    have hrn : ((recs ps).length : Int) = ps.length := by simp [recs]
    refine FnO.intro (n := 37) Tryd.func31 rfl rfl rfl ?_
    have key : Told K h n place lr h2 m (recs ps) ↔ (m = place ∧ p0 = lr ∧ hsh K h2 (recs ps) = h ∧ m + ps.length = n) := by rw [Told, hrc, hrn, Option.some.injEq]
    clear hrc hrn
    refine J.seq ?_
    refine J.region ?_
    refine JL.mem rfl rfl (OpM.box rfl rfl) ?_; rintro _ _ ⟨b4, rfl, rfl⟩
    refine JL.mem rfl rfl (OpM.box rfl rfl) ?_; rintro _ _ ⟨b7, rfl, rfl⟩
    refine JL.pure rfl rfl (OpP.assign rfl) ?_
    refine JL.nil ?_
    refine J.seq ?_
    refine J.regionD [2, 7, 13, 15, 21, 23, 25] (by kernel_rfl) ?_
    refine DL.pure (i := 0) (by kernel_rfl) (by kernel_rfl) rfl rfl rfl (OpP.fieldAddr rfl) ?_
    refine DL.pure (i := 1) (by kernel_rfl) (by kernel_rfl) rfl rfl rfl (OpP.fieldAddr rfl) ?_
    refine DL.read (i := 2) (by kernel_rfl) (by kernel_rfl) rfl rfl rfl (fun _ h => h) (OpR.load1 rfl (Cell.pf1 .head (by first | assumption | exact Go.Proofs.B.shaB_length _ _ | solve_by_elim))) ?_
    refine DL.pure (i := 3) (by kernel_rfl) (by kernel_rfl) rfl rfl rfl (OpP.move rfl) ?_
    refine DL.dec (i := 4) (by kernel_rfl) (by kernel_rfl) rfl rfl rfl (OpP.eql rfl rfl) (fun h13 => ?_) (fun h13 => ?_)
    focus
      refine DL.pure (i := 5) (by kernel_rfl) (by kernel_rfl) rfl rfl rfl (OpP.move rfl) ?_
      refine DL.pure (i := 6) (by kernel_rfl) (by kernel_rfl) rfl rfl rfl (OpP.fieldAddr rfl) ?_
      refine DL.read (i := 7) (by kernel_rfl) (by kernel_rfl) rfl rfl rfl (fun _ h => h) (OpR.load1 rfl (Cell.pf2 .head (by first | assumption | exact Go.Proofs.B.shaB_length _ _ | solve_by_elim))) ?_
      refine DL.pure (i := 8) (by kernel_rfl) (by kernel_rfl) rfl rfl rfl (OpP.len rfl rfl) ?_
      refine DL.decT (i := 9) (by kernel_rfl) (by kernel_rfl) rfl rfl rfl (OpP.gtr rfl rfl) (by omega) ?_
      refine DL.pure (i := 10) (by kernel_rfl) (by kernel_rfl) rfl rfl rfl (OpP.pickT rfl rfl) ?_
      refine DL.pure (i := 11) (by kernel_rfl) (by kernel_rfl) rfl rfl rfl (OpP.move rfl) ?_
      refine DL.pure (i := 12) (by kernel_rfl) (by kernel_rfl) rfl rfl rfl (OpP.fieldAddr rfl) ?_
      refine DL.read (i := 13) (by kernel_rfl) (by kernel_rfl) rfl rfl rfl (fun _ h => h) (OpR.load1 rfl (Cell.pf2 .head (by first | assumption | exact Go.Proofs.B.shaB_length _ _ | solve_by_elim))) ?_
      obtain ⟨gpa, ppa, qpa, epa, kpa, cpa⟩ := hp1.pos (by omega); cases epa
      refine DL.pure (i := 14) (by kernel_rfl) (by kernel_rfl) rfl rfl rfl (OpP.indexAddr rfl rfl (by omega) (by omega)) ?_
      refine DL.read (i := 15) (by kernel_rfl) (by kernel_rfl) rfl rfl rfl (fun _ h => h) (OpR.load1 rfl (by apply Cells.cell cpa (fun _ h => Own.pick (pre := [_, _]) [] rfl h); (case' hv => assumption); (case' ho => omega); done)) ?_
      refine DL.pure (i := 16) (by kernel_rfl) (by kernel_rfl) rfl rfl rfl (OpP.move rfl) ?_
      refine DL.only (i := 17) (by kernel_rfl) ?_
      refine DL1.stepK rfl rfl rfl (by exact OpW.call (first := []) (captured := []) inferInstance rfl rfl (Equal_ok (hpr.conv fun _ h => Own.pick (pre := [_, _]) [] rfl h) (hr.conv fun _ h => Own.pick (pre := [_, _]) [] rfl h))) (by rintro _ _ ⟨rfl, rfl⟩ _ h; exact Own.pick (pre := [_, _]) [0, 1] rfl h) ?_; rintro r26 _ ⟨rfl, rfl⟩
      refine DL.pure (i := 18) (by kernel_rfl) (by kernel_rfl) rfl rfl rfl (OpP.pickT rfl rfl) ?_
      refine DL.pure (i := 19) (by kernel_rfl) (by kernel_rfl) rfl rfl rfl (OpP.move rfl) ?_
      refine DL.decAt 28 rfl (fun h28 => ?_) (fun h28 => ?_)
      focus
        refine DL.pure (i := 20) (by kernel_rfl) (by kernel_rfl) rfl rfl rfl (OpP.fieldAddr rfl) ?_
        refine DL.read (i := 21) (by kernel_rfl) (by kernel_rfl) rfl rfl rfl (fun _ h => h) (OpR.loadN rfl (Cells.pf0 .head (by first | assumption | exact Go.Proofs.B.shaB_length _ _ | solve_by_elim)) (hdC_len (by first | assumption | exact Go.Proofs.B.shaB_length _ _ | solve_by_elim))) ?_
        refine DL.pure (i := 22) (by kernel_rfl) (by kernel_rfl) rfl rfl rfl (OpP.fieldAddr rfl) ?_
        refine DL.read (i := 23) (by kernel_rfl) (by kernel_rfl) rfl rfl rfl (fun _ h => h) (OpR.load1 rfl (Cell.pf2 .head (by first | assumption | exact Go.Proofs.B.shaB_length _ _ | solve_by_elim))) ?_
        refine DL.read (i := 25) (by kernel_rfl) (by kernel_rfl) rfl rfl rfl (fun _ h => h) (OpR.loadN rfl (Cells.full (.tail .head)) (hdC_len (by first | assumption | exact Go.Proofs.B.shaB_length _ _ | solve_by_elim))) ?_
        refine DL.only (i := 24) (by kernel_rfl) ?_
        refine DL1.stepK rfl rfl rfl (by exact OpW.call (first := []) (captured := []) inferInstance rfl rfl (From_ok hK hl2 hrl hm1 hm2 hpl (hp.conv (fun _ h => Own.pick (pre := [_, _]) [] rfl h)))) (by rintro _ _ ⟨rfl, rfl⟩ _ h; exact Own.pick (pre := [_, _]) [0, 1] rfl h) ?_; rintro r33 _ ⟨rfl, rfl⟩
        refine DL.pure (i := 26) (by kernel_rfl) (by kernel_rfl) rfl rfl rfl (OpP.eqHead rfl rfl (by first | assumption | exact Go.Proofs.B.shaB_length _ _ | solve_by_elim) (by first | assumption | exact Go.Proofs.B.shaB_length _ _ | solve_by_elim) (by first | assumption | (simp [Lit.wf, IntKind.min, IntKind.max, IntKind.signed, IntKind.bits] <;> omega)) (by first | assumption | (simp [Lit.wf, IntKind.min, IntKind.max, IntKind.signed, IntKind.bits] <;> omega))) ?_
        refine DL.pure (i := 27) (by kernel_rfl) (by kernel_rfl) rfl rfl rfl (OpP.pickT rfl rfl) ?_
        refine DL.pure (i := 28) (by kernel_rfl) (by kernel_rfl) rfl rfl rfl (OpP.assign rfl) ?_
        refine DL.done (by kernel_rfl) ?_
        refine J.ret1 rfl rfl ?_
      rotate_left 1
      focus
        refine DL.skip (i := 20) (by kernel_rfl) (by kernel_rfl) rfl rfl rfl ?_
        refine DL.skip (i := 21) (by kernel_rfl) (by kernel_rfl) rfl rfl rfl ?_
        refine DL.skip (i := 22) (by kernel_rfl) (by kernel_rfl) rfl rfl rfl ?_
        refine DL.skip (i := 23) (by kernel_rfl) (by kernel_rfl) rfl rfl rfl ?_
        refine DL.skip (i := 24) (by kernel_rfl) (by kernel_rfl) rfl rfl rfl ?_
        refine DL.skip (i := 25) (by kernel_rfl) (by kernel_rfl) rfl rfl rfl ?_
        refine DL.skip (i := 26) (by kernel_rfl) (by kernel_rfl) rfl rfl rfl ?_
        refine DL.pure (i := 27) (by kernel_rfl) (by kernel_rfl) rfl rfl rfl (OpP.pickF rfl rfl) ?_
        refine DL.pure (i := 28) (by kernel_rfl) (by kernel_rfl) rfl rfl rfl (OpP.assign rfl) ?_
        refine DL.done (by kernel_rfl) ?_
        refine J.ret1 rfl rfl ?_
      rotate_left 1
    rotate_left 2
    focus
      refine DL.pure (i := 5) (by kernel_rfl) (by kernel_rfl) rfl rfl rfl (OpP.move rfl) ?_
      refine DL.skip (i := 6) (by kernel_rfl) (by kernel_rfl) rfl rfl rfl ?_
      refine DL.skip (i := 7) (by kernel_rfl) (by kernel_rfl) rfl rfl rfl ?_
      refine DL.skip (i := 8) (by kernel_rfl) (by kernel_rfl) rfl rfl rfl ?_
      refine DL.skip (i := 9) (by kernel_rfl) (by kernel_rfl) rfl rfl rfl ?_
      refine DL.pure (i := 10) (by kernel_rfl) (by kernel_rfl) rfl rfl rfl (OpP.pickF rfl rfl) ?_
      refine DL.pure (i := 11) (by kernel_rfl) (by kernel_rfl) rfl rfl rfl (OpP.move rfl) ?_
      refine DL.skip (i := 12) (by kernel_rfl) (by kernel_rfl) rfl rfl rfl ?_
      refine DL.skip (i := 13) (by kernel_rfl) (by kernel_rfl) rfl rfl rfl ?_
      refine DL.skip (i := 14) (by kernel_rfl) (by kernel_rfl) rfl rfl rfl ?_
      refine DL.skip (i := 15) (by kernel_rfl) (by kernel_rfl) rfl rfl rfl ?_
      refine DL.skip (i := 16) (by kernel_rfl) (by kernel_rfl) rfl rfl rfl ?_
      refine DL.skip (i := 17) (by kernel_rfl) (by kernel_rfl) rfl rfl rfl ?_
      refine DL.pure (i := 18) (by kernel_rfl) (by kernel_rfl) rfl rfl rfl (OpP.pickF rfl rfl) ?_
      refine DL.pure (i := 19) (by kernel_rfl) (by kernel_rfl) rfl rfl rfl (OpP.move rfl) ?_
      refine DL.skip (i := 20) (by kernel_rfl) (by kernel_rfl) rfl rfl rfl ?_
      refine DL.skip (i := 21) (by kernel_rfl) (by kernel_rfl) rfl rfl rfl ?_
      refine DL.skip (i := 22) (by kernel_rfl) (by kernel_rfl) rfl rfl rfl ?_
      refine DL.skip (i := 23) (by kernel_rfl) (by kernel_rfl) rfl rfl rfl ?_
      refine DL.skip (i := 24) (by kernel_rfl) (by kernel_rfl) rfl rfl rfl ?_
      refine DL.skip (i := 25) (by kernel_rfl) (by kernel_rfl) rfl rfl rfl ?_
      refine DL.skip (i := 26) (by kernel_rfl) (by kernel_rfl) rfl rfl rfl ?_
      refine DL.pure (i := 27) (by kernel_rfl) (by kernel_rfl) rfl rfl rfl (OpP.pickF rfl rfl) ?_
      refine DL.pure (i := 28) (by kernel_rfl) (by kernel_rfl) rfl rfl rfl (OpP.assign rfl) ?_
      refine DL.done (by kernel_rfl) ?_
      refine J.ret1 rfl rfl ?_
    rotate_left 1
    all_goals refine ⟨_, ⟨congrArg Value.bool ?_, rfl⟩, fun _ h => h.tail.tail⟩
    all_goals first
      | (rw [decide_eq_decide, key]; exact ⟨fun q => ⟨by assumption, by assumption, q⟩, fun q => q.2.2⟩)
      | (rw [eq_comm, decide_eq_false_iff_not, key]; intro q; simp_all; done)
      | (rw [eq_comm, decide_eq_false_iff_not, key]; intro q; omega)
  · refine FnO.intro (n := 37) Tryd.func31 rfl rfl rfl ?_
    refine J.seq ?_
    refine J.region ?_
    refine JL.mem rfl rfl (OpM.box rfl rfl) ?_; rintro _ _ ⟨b4, rfl, rfl⟩
    refine JL.mem rfl rfl (OpM.box rfl rfl) ?_; rintro _ _ ⟨b7, rfl, rfl⟩
    refine JL.pure rfl rfl (OpP.assign rfl) ?_
    refine JL.nil ?_
    refine J.seq ?_
    refine J.regionD [2, 7, 13, 15, 21, 23, 25] (by kernel_rfl) ?_
    refine DL.pure (i := 0) (by kernel_rfl) (by kernel_rfl) rfl rfl rfl (OpP.fieldAddr rfl) ?_
    refine DL.pure (i := 1) (by kernel_rfl) (by kernel_rfl) rfl rfl rfl (OpP.fieldAddr rfl) ?_
    refine DL.read (i := 2) (by kernel_rfl) (by kernel_rfl) rfl rfl rfl (fun _ h => h) (OpR.load1 rfl (Cell.pf1 .head (by first | assumption | exact Go.Proofs.B.shaB_length _ _ | solve_by_elim))) ?_
    refine DL.pure (i := 3) (by kernel_rfl) (by kernel_rfl) rfl rfl rfl (OpP.move rfl) ?_
    refine DL.dec (i := 4) (by kernel_rfl) (by kernel_rfl) rfl rfl rfl (OpP.eql rfl rfl) (fun h13 => ?_) (fun h13 => ?_)
    focus
      refine DL.pure (i := 5) (by kernel_rfl) (by kernel_rfl) rfl rfl rfl (OpP.move rfl) ?_
      refine DL.pure (i := 6) (by kernel_rfl) (by kernel_rfl) rfl rfl rfl (OpP.fieldAddr rfl) ?_
      refine DL.read (i := 7) (by kernel_rfl) (by kernel_rfl) rfl rfl rfl (fun _ h => h) (OpR.load1 rfl (Cell.pf2 .head (by first | assumption | exact Go.Proofs.B.shaB_length _ _ | solve_by_elim))) ?_
      refine DL.pure (i := 8) (by kernel_rfl) (by kernel_rfl) rfl rfl rfl (OpP.len rfl rfl) ?_
      refine DL.decF (i := 9) (by kernel_rfl) (by kernel_rfl) rfl rfl rfl (OpP.gtr rfl rfl) (by omega) ?_
      refine DL.pure (i := 10) (by kernel_rfl) (by kernel_rfl) rfl rfl rfl (OpP.pickT rfl rfl) ?_
      refine DL.pure (i := 11) (by kernel_rfl) (by kernel_rfl) rfl rfl rfl (OpP.move rfl) ?_
      refine DL.skip (i := 12) (by kernel_rfl) (by kernel_rfl) rfl rfl rfl ?_
      refine DL.skip (i := 13) (by kernel_rfl) (by kernel_rfl) rfl rfl rfl ?_
      refine DL.skip (i := 14) (by kernel_rfl) (by kernel_rfl) rfl rfl rfl ?_
      refine DL.skip (i := 15) (by kernel_rfl) (by kernel_rfl) rfl rfl rfl ?_
      refine DL.skip (i := 16) (by kernel_rfl) (by kernel_rfl) rfl rfl rfl ?_
      refine DL.skip (i := 17) (by kernel_rfl) (by kernel_rfl) rfl rfl rfl ?_
      refine DL.pure (i := 18) (by kernel_rfl) (by kernel_rfl) rfl rfl rfl (OpP.pickF rfl rfl) ?_
      refine DL.pure (i := 19) (by kernel_rfl) (by kernel_rfl) rfl rfl rfl (OpP.move rfl) ?_
      refine DL.skip (i := 20) (by kernel_rfl) (by kernel_rfl) rfl rfl rfl ?_
      refine DL.skip (i := 21) (by kernel_rfl) (by kernel_rfl) rfl rfl rfl ?_
      refine DL.skip (i := 22) (by kernel_rfl) (by kernel_rfl) rfl rfl rfl ?_
      refine DL.skip (i := 23) (by kernel_rfl) (by kernel_rfl) rfl rfl rfl ?_
      refine DL.skip (i := 24) (by kernel_rfl) (by kernel_rfl) rfl rfl rfl ?_
      refine DL.skip (i := 25) (by kernel_rfl) (by kernel_rfl) rfl rfl rfl ?_
      refine DL.skip (i := 26) (by kernel_rfl) (by kernel_rfl) rfl rfl rfl ?_
      refine DL.pure (i := 27) (by kernel_rfl) (by kernel_rfl) rfl rfl rfl (OpP.pickF rfl rfl) ?_
      refine DL.pure (i := 28) (by kernel_rfl) (by kernel_rfl) rfl rfl rfl (OpP.assign rfl) ?_
      refine DL.done (by kernel_rfl) ?_
      refine J.ret1 rfl rfl ?_
    rotate_left 1
    focus
      refine DL.pure (i := 5) (by kernel_rfl) (by kernel_rfl) rfl rfl rfl (OpP.move rfl) ?_
      refine DL.skip (i := 6) (by kernel_rfl) (by kernel_rfl) rfl rfl rfl ?_
      refine DL.skip (i := 7) (by kernel_rfl) (by kernel_rfl) rfl rfl rfl ?_
      refine DL.skip (i := 8) (by kernel_rfl) (by kernel_rfl) rfl rfl rfl ?_
      refine DL.skip (i := 9) (by kernel_rfl) (by kernel_rfl) rfl rfl rfl ?_
      refine DL.pure (i := 10) (by kernel_rfl) (by kernel_rfl) rfl rfl rfl (OpP.pickF rfl rfl) ?_
      refine DL.pure (i := 11) (by kernel_rfl) (by kernel_rfl) rfl rfl rfl (OpP.move rfl) ?_
      refine DL.skip (i := 12) (by kernel_rfl) (by kernel_rfl) rfl rfl rfl ?_
      refine DL.skip (i := 13) (by kernel_rfl) (by kernel_rfl) rfl rfl rfl ?_
      refine DL.skip (i := 14) (by kernel_rfl) (by kernel_rfl) rfl rfl rfl ?_
      refine DL.skip (i := 15) (by kernel_rfl) (by kernel_rfl) rfl rfl rfl ?_
      refine DL.skip (i := 16) (by kernel_rfl) (by kernel_rfl) rfl rfl rfl ?_
      refine DL.skip (i := 17) (by kernel_rfl) (by kernel_rfl) rfl rfl rfl ?_
      refine DL.pure (i := 18) (by kernel_rfl) (by kernel_rfl) rfl rfl rfl (OpP.pickF rfl rfl) ?_
      refine DL.pure (i := 19) (by kernel_rfl) (by kernel_rfl) rfl rfl rfl (OpP.move rfl) ?_
      refine DL.skip (i := 20) (by kernel_rfl) (by kernel_rfl) rfl rfl rfl ?_
      refine DL.skip (i := 21) (by kernel_rfl) (by kernel_rfl) rfl rfl rfl ?_
      refine DL.skip (i := 22) (by kernel_rfl) (by kernel_rfl) rfl rfl rfl ?_
      refine DL.skip (i := 23) (by kernel_rfl) (by kernel_rfl) rfl rfl rfl ?_
      refine DL.skip (i := 24) (by kernel_rfl) (by kernel_rfl) rfl rfl rfl ?_
      refine DL.skip (i := 25) (by kernel_rfl) (by kernel_rfl) rfl rfl rfl ?_
      refine DL.skip (i := 26) (by kernel_rfl) (by kernel_rfl) rfl rfl rfl ?_
      refine DL.pure (i := 27) (by kernel_rfl) (by kernel_rfl) rfl rfl rfl (OpP.pickF rfl rfl) ?_
      refine DL.pure (i := 28) (by kernel_rfl) (by kernel_rfl) rfl rfl rfl (OpP.assign rfl) ?_
      refine DL.done (by kernel_rfl) ?_
      refine J.ret1 rfl rfl ?_
    rotate_left 1
    all_goals refine ⟨_, ⟨congrArg Value.bool ?_, rfl⟩, fun _ h => h.tail.tail⟩
    all_goals
      rw [eq_comm, decide_eq_false_iff_not, Told]
      have : recs ps = [] := by rw [List.eq_nil_of_length_eq_zero (show ps.length = 0 by omega)]; rfl
      rw [this]
      intro q
      cases q.2.1
end Go.Proofs.B

-- seat b
namespace Go.Proofs.B
open Go Go.Gp Go.RowKit

set_option maxRecDepth 8000 in
set_option maxHeartbeats 4000000 in
theorem ChainTells_ok {w0 : World} {h h2 : List UInt8} {n m place : Int} {pa : Option Addr} {pc : Nat} {ps : List (Value × List UInt8)} {K : Ws} (hA : IsAwake w0 25) (hK : Tab w0 0 64 fun j => w32 (K j)) (hK2 : ∀ i, i < 64 → hexOk constS i (K i) = true) (hl : h.length = 32) (hl2 : h2.length = 32) (hn : (Lit.int .i64 n).wf = true) (hm1 : -9223372036854775808 ≤ m)
    (hpl : ps.length ≤ 9223372036854775807) (hp : Parts w0 [] (.slice pa ps.length pc) ps) :
    FnO Tryd.prog w0 10 [.agg (hdC h n).toArray, .int .i64 place, .agg (hdC h2 m ++ [Value.slice pa ps.length pc]).toArray] [] (fun v _ => v = .bool true) := by
  refine FnO.rdF (fun _ h => h) hp.rd fun hp1 => ?_
  refine FnO.intro (n := 105) Tryd.func10 rfl rfl rfl ?_
  by_cases h0 : 0 < ps.length
  · obtain ⟨gp, pp, qp, ep, kp, cp⟩ := hp1.pos h0
    cases ep
    obtain ⟨pa0, pc0, p0, hpi, hpv, hpr⟩ := hp.at h0
    have hrc : (recs ps)[0]? = some p0 := by rw [recs, List.getElem?_map, hpi]; rfl
    have hrn : ((recs ps).length : Int) = ps.length := by simp [recs]
    refine J.seq ?_
    refine J.region ?_
    refine JL.mem rfl rfl (OpM.box rfl rfl) ?_; rintro _ _ ⟨b3, rfl, rfl⟩
    refine JL.mem rfl rfl (OpM.box rfl rfl) ?_; rintro _ _ ⟨b5, rfl, rfl⟩
    refine JL.pure rfl rfl (OpP.assign rfl) ?_
    refine JL.nil ?_
    refine J.seq ?_
    refine J.region ?_
    refine JL.mem rfl rfl (by apply OpM.buildSlice (by rfl) rfl (by rfl); (repeat (first | exact Fills.nil | (apply Fills.cons rfl rfl rfl; (case' hs => ((repeat (first | exact Spl.nil | apply Spl.here | apply Spl.there)); done)))))) ?_; rintro _ _ ⟨b11, rfl, rfl⟩
    refine JL.mem rfl rfl (OpM.bytesMark rfl .head) ?_; rintro _ _ ⟨rfl, rfl⟩
    refine JL.pure rfl rfl (OpP.assign rfl) ?_
    refine JL.nil ?_
    refine J.seq ?_
    refine J.seq ?_
    refine J.region ?_
    refine JL.pure rfl rfl (OpP.fieldAddr rfl) ?_
    refine JL.read rfl rfl (OpR.load1 rfl (Cell.pf2 (.tail .head) (by first | assumption | exact Go.Proofs.B.shaB_length _ _ | solve_by_elim))) ?_
    refine JL.pure rfl rfl (OpP.len rfl rfl) ?_
    refine JL.decT rfl rfl (OpP.gtr rfl rfl) (by omega) ?_
    refine JL.pure rfl rfl (OpP.move rfl) ?_
    refine JL.pure rfl rfl (OpP.fieldAddr rfl) ?_
    refine JL.read rfl rfl (OpR.load1 rfl (Cell.hd1 (.tail (.tail .head)) (by first | assumption | exact Go.Proofs.B.shaB_length _ _ | solve_by_elim))) ?_
    refine JL.pure rfl rfl (OpP.rem rfl rfl (by omega)) ?_
    refine JL.dec rfl rfl (OpP.neq rfl rfl) (fun h21 => ?_) (fun h21 => ?_)
    focus
      refine JL.pure rfl rfl (OpP.pickT rfl rfl) ?_
      refine JL.nil ?_
      refine J.condT rfl ?_
      refine J.region ?_
      refine JL.pure rfl rfl (OpP.fieldAddr rfl) ?_
      refine JL.read rfl rfl (OpR.load1 rfl (Cell.pf2 (.tail .head) (by first | assumption | exact Go.Proofs.B.shaB_length _ _ | solve_by_elim))) ?_
      refine JL.pure rfl rfl (OpP.indexAddr rfl rfl (by omega) (by omega)) ?_
      refine JL.read rfl rfl (OpR.load1 rfl (by apply Cells.cell cp (fun _ h => h.none); (case' hv => assumption); (case' ho => omega); done)) ?_
      refine JL.pure rfl rfl (OpP.assign rfl) ?_
      refine JL.nil ?_
      refine J.seq ?_
      refine J.seq ?_
      refine J.region ?_
      refine JL.step rfl rfl (OpW.call (first := []) (captured := []) inferInstance rfl rfl (hA _)) ?_; rintro r27 _ ⟨rfl, rfl⟩
      refine JL.pure rfl rfl (OpP.notB rfl) ?_
      refine JL.pure rfl rfl (OpP.move rfl) ?_
      refine JL.pure rfl rfl (OpP.fieldAddr rfl) ?_
      refine JL.read rfl rfl (OpR.load1 rfl (Cell.pf2 (.tail .head) (by first | assumption | exact Go.Proofs.B.shaB_length _ _ | solve_by_elim))) ?_
      refine JL.step rfl rfl (OpW.call (first := []) (captured := []) inferInstance rfl rfl (Few5_ok (m := 12) (most := 400) (by omega) (by omega) hpl (hp.conv (fun _ h => h.none)))) ?_; rintro r32 _ ⟨b, ⟨rfl, ⟨rfl, h32⟩⟩⟩
      refine JL.pure rfl rfl (OpP.notB rfl) ?_
      refine JL.pure rfl rfl (OpP.pickF rfl rfl) ?_
      refine JL.pure rfl rfl (OpP.move rfl) ?_
      refine JL.splitAt 35 rfl (fun h35 => ?_) (fun h35 => ?_)
      focus
        refine JL.skip rfl rfl ?_
        refine JL.skip rfl rfl ?_
        refine JL.skip rfl rfl ?_
        refine JL.skip rfl rfl ?_
        refine JL.pure rfl rfl (OpP.pickT rfl rfl) ?_
        refine JL.nil ?_
        refine J.condT rfl ?_
        refine J.seq ?_
        refine J.region ?_
        refine JL.step rfl rfl (OpW.call (first := []) (captured := []) inferInstance rfl rfl (hA _)) ?_; rintro r41 _ ⟨rfl, rfl⟩
        refine JL.pure rfl rfl (OpP.assign rfl) ?_
        refine JL.nil ?_
        refine J.ret1 rfl rfl ?_
      rotate_left 1
      focus
        refine JL.pure rfl rfl (OpP.fieldAddr rfl) ?_
        refine JL.pure rfl rfl (OpP.fieldAddr rfl) ?_
        refine JL.read rfl rfl (OpR.load1 rfl (Cell.pf1 (.tail .head) (by first | assumption | exact Go.Proofs.B.shaB_length _ _ | solve_by_elim))) ?_
        refine JL.dec rfl rfl (OpP.gtr rfl rfl) (fun h39 => ?_) (fun h39 => ?_)
        focus
          refine JL.pure rfl rfl (OpP.pickF rfl rfl) ?_
          refine JL.nil ?_
          refine J.condT rfl ?_
          refine J.seq ?_
          refine J.region ?_
          refine JL.step rfl rfl (OpW.call (first := []) (captured := []) inferInstance rfl rfl (hA _)) ?_; rintro r41 _ ⟨rfl, rfl⟩
          refine JL.pure rfl rfl (OpP.assign rfl) ?_
          refine JL.nil ?_
          refine J.ret1 rfl rfl ?_
        rotate_left 1
        focus
          refine JL.pure rfl rfl (OpP.pickF rfl rfl) ?_
          refine JL.nil ?_
          refine J.condF rfl ?_
          refine J.skip ?_
          refine J.seq ?_
          refine J.region ?_
          refine JL.pure rfl rfl (OpP.fieldAddr rfl) ?_
          refine JL.pure rfl rfl (OpP.fieldAddr rfl) ?_
          refine JL.read rfl rfl (OpR.loadN rfl (Cells.pfH (.tail .head) (by first | assumption | exact Go.Proofs.B.shaB_length _ _ | solve_by_elim)) (by rw [bcells_length]; exact (by first | assumption | exact Go.Proofs.B.shaB_length _ _ | solve_by_elim))) ?_
          refine JL.mem rfl rfl OpM.alloc ?_; rintro _ _ ⟨b8, rfl, rfl⟩
          refine JL.mem0 rfl (by apply OpM.storeN rfl rfl (by rw [bcells_length]; first | assumption | exact Go.Proofs.B.shaB_length _ _ | solve_by_elim) (bcells_one _); (case' hu => exact .head); (case' hs => exact spl_all (by first | (rw [bcells_length, List.length_replicate]; first | assumption | exact Go.Proofs.B.shaB_length _ _ | solve_by_elim) | (rw [bcells_length, bcells_length]; refine Eq.trans (b := 32) ?_ (Eq.symm ?_) <;> (first | assumption | exact Go.Proofs.B.shaB_length _ _ | solve_by_elim)) | (rw [bcells_length]; first | assumption | exact Go.Proofs.B.shaB_length _ _ | solve_by_elim))); done) ?_; rintro _ _ ⟨rfl, rfl⟩
          refine JL.nil ?_
          refine J.seq ?_
          refine J.seq ?_
          refine J.region ?_
          refine JL.pure rfl rfl (OpP.assign rfl) ?_
          refine JL.nil ?_
          refine J.block ?_
        rotate_left 1
      rotate_left 2
    rotate_left 3
    focus
      refine JL.pure rfl rfl (OpP.pickT rfl rfl) ?_
      refine JL.nil ?_
      refine J.condF rfl ?_
      refine J.skip ?_
      refine J.seq ?_
      refine J.seq ?_
      refine J.region ?_
      refine JL.step rfl rfl (OpW.call (first := []) (captured := []) inferInstance rfl rfl (hA _)) ?_; rintro r27 _ ⟨rfl, rfl⟩
      refine JL.pure rfl rfl (OpP.notB rfl) ?_
      refine JL.pure rfl rfl (OpP.move rfl) ?_
      refine JL.pure rfl rfl (OpP.fieldAddr rfl) ?_
      refine JL.read rfl rfl (OpR.load1 rfl (Cell.pf2 (.tail .head) (by first | assumption | exact Go.Proofs.B.shaB_length _ _ | solve_by_elim))) ?_
      refine JL.step rfl rfl (OpW.call (first := []) (captured := []) inferInstance rfl rfl (Few5_ok (m := 12) (most := 400) (by omega) (by omega) hpl (hp.conv (fun _ h => h.none)))) ?_; rintro r32 _ ⟨b, ⟨rfl, ⟨rfl, h32⟩⟩⟩
      refine JL.pure rfl rfl (OpP.notB rfl) ?_
      refine JL.pure rfl rfl (OpP.pickF rfl rfl) ?_
      refine JL.pure rfl rfl (OpP.move rfl) ?_
      refine JL.splitAt 35 rfl (fun h35 => ?_) (fun h35 => ?_)
      focus
        refine JL.skip rfl rfl ?_
        refine JL.skip rfl rfl ?_
        refine JL.skip rfl rfl ?_
        refine JL.skip rfl rfl ?_
        refine JL.pure rfl rfl (OpP.pickT rfl rfl) ?_
        refine JL.nil ?_
        refine J.condT rfl ?_
        refine J.seq ?_
        refine J.region ?_
        refine JL.step rfl rfl (OpW.call (first := []) (captured := []) inferInstance rfl rfl (hA _)) ?_; rintro r41 _ ⟨rfl, rfl⟩
        refine JL.pure rfl rfl (OpP.assign rfl) ?_
        refine JL.nil ?_
        refine J.ret1 rfl rfl ?_
      rotate_left 1
      focus
        refine JL.pure rfl rfl (OpP.fieldAddr rfl) ?_
        refine JL.pure rfl rfl (OpP.fieldAddr rfl) ?_
        refine JL.read rfl rfl (OpR.load1 rfl (Cell.pf1 (.tail .head) (by first | assumption | exact Go.Proofs.B.shaB_length _ _ | solve_by_elim))) ?_
        refine JL.dec rfl rfl (OpP.gtr rfl rfl) (fun h39 => ?_) (fun h39 => ?_)
        focus
          refine JL.pure rfl rfl (OpP.pickF rfl rfl) ?_
          refine JL.nil ?_
          refine J.condT rfl ?_
          refine J.seq ?_
          refine J.region ?_
          refine JL.step rfl rfl (OpW.call (first := []) (captured := []) inferInstance rfl rfl (hA _)) ?_; rintro r41 _ ⟨rfl, rfl⟩
          refine JL.pure rfl rfl (OpP.assign rfl) ?_
          refine JL.nil ?_
          refine J.ret1 rfl rfl ?_
        rotate_left 1
        focus
          refine JL.pure rfl rfl (OpP.pickF rfl rfl) ?_
          refine JL.nil ?_
          refine J.condF rfl ?_
          refine J.skip ?_
          refine J.seq ?_
          refine J.region ?_
          refine JL.pure rfl rfl (OpP.fieldAddr rfl) ?_
          refine JL.pure rfl rfl (OpP.fieldAddr rfl) ?_
          refine JL.read rfl rfl (OpR.loadN rfl (Cells.pfH (.tail .head) (by first | assumption | exact Go.Proofs.B.shaB_length _ _ | solve_by_elim)) (by rw [bcells_length]; exact (by first | assumption | exact Go.Proofs.B.shaB_length _ _ | solve_by_elim))) ?_
          refine JL.mem rfl rfl OpM.alloc ?_; rintro _ _ ⟨b8, rfl, rfl⟩
          refine JL.mem0 rfl (by apply OpM.storeN rfl rfl (by rw [bcells_length]; first | assumption | exact Go.Proofs.B.shaB_length _ _ | solve_by_elim) (bcells_one _); (case' hu => exact .head); (case' hs => exact spl_all (by first | (rw [bcells_length, List.length_replicate]; first | assumption | exact Go.Proofs.B.shaB_length _ _ | solve_by_elim) | (rw [bcells_length, bcells_length]; refine Eq.trans (b := 32) ?_ (Eq.symm ?_) <;> (first | assumption | exact Go.Proofs.B.shaB_length _ _ | solve_by_elim)) | (rw [bcells_length]; first | assumption | exact Go.Proofs.B.shaB_length _ _ | solve_by_elim))); done) ?_; rintro _ _ ⟨rfl, rfl⟩
          refine JL.nil ?_
          refine J.seq ?_
          refine J.seq ?_
          refine J.region ?_
          refine JL.pure rfl rfl (OpP.assign rfl) ?_
          refine JL.nil ?_
          refine J.block ?_
        rotate_left 1
      rotate_left 2
    rotate_left 3
    · rfl
    · rfl
    · obtain ⟨hm, hn12⟩ := h32 (by cases b <;> first | rfl | cases h35)
      have hrl : ∀ p ∈ ps, p.2.length ≤ 80000 := fun p hp => by have := recs_le p hp; omega
      refine J.loopI (fun i : Nat => ps.length - i) (fun i => i ≤ ps.length) (fun i => [(9, .int .i64 (i : Nat)), (8, .pointer (some ⟨b8, 0, none⟩)), (7, .slice pa0 p0.length pc0), (5, .pointer (some ⟨b5, 0, none⟩)), (3, .pointer (some ⟨b3, 0, none⟩)), (1, .int .i64 place)])
        (fun i => [row b8 26 (bcells (hsh K h2 (recs (ps.take i)))), rdo b11 5 (bcells [120]), row b5 63 (hdC h2 m ++ [Value.slice (some ⟨gp, pp, none⟩) ps.length pc]), row b3 55 (hdC h n)]) 0 (Nat.zero_le _) (by repeat (first | exact SubEnv.nil | refine SubEnv.cons (by first | rfl | exact congrArg (fun z => some (Value.int .i64 z)) (by omega) | (simp; done)) ?_)) (fun _ h => h) (fun i hi back => ?_)
      dsimp only at hi back ⊢
      by_cases hlt : i < ps.length
      · obtain ⟨pa1, pc1, p, hpi1, hpv1, hpr1⟩ := hp.at hlt
        have hct := recs_take hpi1
        have hpl2 : p.length ≤ 80000 := hrl _ (List.mem_of_getElem? hpi1)
        have hhi := hsh_len (K := K) hl2 (recs (ps.take i))
        have hsn := hsh_snoc K h2 (recs (ps.take i)) p
        rw [← hct] at hsn
        refine J.seq ?_
        refine J.seq ?_
        refine J.region ?_
        refine JL.pure rfl rfl (OpP.move rfl) ?_
        refine JL.pure rfl rfl (OpP.fieldAddr rfl) ?_
        refine JL.read rfl rfl (OpR.load1 rfl (Cell.pf2 (.tail (.tail .head)) (by first | assumption | exact Go.Proofs.B.shaB_length _ _ | solve_by_elim))) ?_
        refine JL.pure rfl rfl (OpP.len rfl rfl) ?_
        refine JL.decT rfl rfl (OpP.lss rfl rfl) (by omega) ?_
        refine JL.nil ?_
        refine J.condT rfl ?_
        refine J.skip ?_
        refine J.seq ?_
        refine J.block ?_
        refine J.regionD [0, 2, 5] (by kernel_rfl) ?_
        refine DL.read (i := 0) (by kernel_rfl) (by kernel_rfl) rfl rfl rfl (fun _ h => h) (OpR.loadN rfl (Cells.full .head) (by rw [bcells_length]; first | assumption | exact Go.Proofs.B.shaB_length _ _ | solve_by_elim)) ?_
        refine DL.pure (i := 1) (by kernel_rfl) (by kernel_rfl) rfl rfl rfl (OpP.fieldAddr rfl) ?_
        refine DL.read (i := 2) (by kernel_rfl) (by kernel_rfl) rfl rfl rfl (fun _ h => h) (OpR.load1 rfl (Cell.pf2 (.tail (.tail .head)) (by first | assumption | exact Go.Proofs.B.shaB_length _ _ | solve_by_elim))) ?_
        refine DL.pure (i := 3) (by kernel_rfl) (by kernel_rfl) rfl rfl rfl (OpP.move rfl) ?_
        refine DL.pure (i := 4) (by kernel_rfl) (by kernel_rfl) rfl rfl rfl (OpP.indexAddr rfl rfl (by omega) (by omega)) ?_
        refine DL.read (i := 5) (by kernel_rfl) (by kernel_rfl) rfl rfl rfl (fun _ h => h) (OpR.load1 rfl (by apply Cells.cell cp (fun _ h => h.none); (case' hv => assumption); (case' ho => omega); done)) ?_
        refine DL.only (i := 6) (by kernel_rfl) ?_
        refine DL1.stepF rfl rfl rfl (by kernel_rfl) (by exact OpW.call (first := []) (captured := []) inferInstance rfl rfl (RefLink_ok hK2 (by assumption) hpl2 (hpr1.conv fun _ h => h.none))) ?_; rintro r58 _ ⟨rfl, rfl⟩
        refine DL.only (i := 7) (by kernel_rfl) ?_
        refine DL1.stepF0 rfl rfl (by kernel_rfl) (OpM.w (by apply OpM.storeN rfl rfl (by rw [bcells_length]; first | assumption | exact Go.Proofs.B.shaB_length _ _ | solve_by_elim) (bcells_one _); (case' hu => exact .head); (case' hs => exact spl_all (by first | (rw [bcells_length, List.length_replicate]; first | assumption | exact Go.Proofs.B.shaB_length _ _ | solve_by_elim) | (rw [bcells_length, bcells_length]; refine Eq.trans (b := 32) ?_ (Eq.symm ?_) <;> (first | assumption | exact Go.Proofs.B.shaB_length _ _ | solve_by_elim)) | (rw [bcells_length]; first | assumption | exact Go.Proofs.B.shaB_length _ _ | solve_by_elim))); done)) ?_; rintro _ _ ⟨rfl, rfl⟩
        refine DL.done (by kernel_rfl) ?_
        refine J.inBlock ?_
        refine J.region ?_
        refine JL.pure rfl rfl (OpP.move rfl) ?_
        refine JL.pure rfl rfl (OpP.addI rfl rfl (by omega) (by omega)) ?_
        refine JL.pure rfl rfl (OpP.assign rfl) ?_
        refine JL.nil ?_
        refine back (i + 1) (by omega) (by omega) (by repeat (first | exact SubEnv.nil | refine SubEnv.cons (by first | rfl | exact congrArg (fun z => some (Value.int .i64 z)) (by omega) | (simp; done)) ?_)) (fun _ h => ?_)
        rw [hsn]
        exact h
      · have : i = ps.length := by omega
        subst this
        rw [List.take_length]
        have hhl := hsh_len (K := K) hl2 (recs ps)
        have key : Told K h n place (p0) h2 m (recs ps) ↔ (m = place ∧ p0 = p0 ∧ hsh K h2 (recs ps) = h ∧ m + ps.length = n) := by rw [Told, hrc, hrn, Option.some.injEq]
        refine J.seq ?_
        refine J.seq ?_
        refine J.region ?_
        refine JL.pure rfl rfl (OpP.move rfl) ?_
        refine JL.pure rfl rfl (OpP.fieldAddr rfl) ?_
        refine JL.read rfl rfl (OpR.load1 rfl (Cell.pf2 (.tail (.tail .head)) (by first | assumption | exact Go.Proofs.B.shaB_length _ _ | solve_by_elim))) ?_
        refine JL.pure rfl rfl (OpP.len rfl rfl) ?_
        refine JL.decF rfl rfl (OpP.lss rfl rfl) (by omega) ?_
        refine JL.nil ?_
        refine J.condF rfl ?_
        refine J.exit rfl ?_
        refine J.seq ?_
        refine J.regionD [2, 7, 13, 15, 16, 18, 23, 24, 29, 32, 34] (by kernel_rfl) ?_
        refine DL.pure (i := 0) (by kernel_rfl) (by kernel_rfl) rfl rfl rfl (OpP.fieldAddr rfl) ?_
        refine DL.pure (i := 1) (by kernel_rfl) (by kernel_rfl) rfl rfl rfl (OpP.fieldAddr rfl) ?_
        refine DL.read (i := 2) (by kernel_rfl) (by kernel_rfl) rfl rfl rfl (fun _ h => h) (OpR.load1 rfl (Cell.pf1 (.tail (.tail .head)) (by first | assumption | exact Go.Proofs.B.shaB_length _ _ | solve_by_elim))) ?_
        refine DL.pure (i := 3) (by kernel_rfl) (by kernel_rfl) rfl rfl rfl (OpP.move rfl) ?_
        refine DL.dec (i := 4) (by kernel_rfl) (by kernel_rfl) rfl rfl rfl (OpP.eql rfl rfl) (fun h63 => ?_) (fun h63 => ?_)
        focus
          refine DL.pure (i := 5) (by kernel_rfl) (by kernel_rfl) rfl rfl rfl (OpP.move rfl) ?_
          refine DL.pure (i := 6) (by kernel_rfl) (by kernel_rfl) rfl rfl rfl (OpP.fieldAddr rfl) ?_
          refine DL.read (i := 7) (by kernel_rfl) (by kernel_rfl) rfl rfl rfl (fun _ h => h) (OpR.load1 rfl (Cell.pf2 (.tail (.tail .head)) (by first | assumption | exact Go.Proofs.B.shaB_length _ _ | solve_by_elim))) ?_
          refine DL.pure (i := 8) (by kernel_rfl) (by kernel_rfl) rfl rfl rfl (OpP.len rfl rfl) ?_
          refine DL.decT (i := 9) (by kernel_rfl) (by kernel_rfl) rfl rfl rfl (OpP.gtr rfl rfl) (by omega) ?_
          refine DL.pure (i := 10) (by kernel_rfl) (by kernel_rfl) rfl rfl rfl (OpP.pickT rfl rfl) ?_
          refine DL.pure (i := 11) (by kernel_rfl) (by kernel_rfl) rfl rfl rfl (OpP.move rfl) ?_
          refine DL.pure (i := 12) (by kernel_rfl) (by kernel_rfl) rfl rfl rfl (OpP.fieldAddr rfl) ?_
          refine DL.read (i := 13) (by kernel_rfl) (by kernel_rfl) rfl rfl rfl (fun _ h => h) (OpR.load1 rfl (Cell.pf2 (.tail (.tail .head)) (by first | assumption | exact Go.Proofs.B.shaB_length _ _ | solve_by_elim))) ?_
          refine DL.pure (i := 14) (by kernel_rfl) (by kernel_rfl) rfl rfl rfl (OpP.indexAddr rfl rfl (by omega) (by omega)) ?_
          refine DL.read (i := 15) (by kernel_rfl) (by kernel_rfl) rfl rfl rfl (fun _ h => h) (OpR.load1 rfl (by apply Cells.cell cp (fun _ h => h.none); (case' hv => assumption); (case' ho => omega); done)) ?_
          refine DL.read (i := 16) (by kernel_rfl) (by kernel_rfl) rfl rfl rfl (fun _ h => h) (OpR.rdStr (by rfl) (hpr.conv fun _ h => h.none) (by rfl)) ?_
          refine DL.pure (i := 17) (by kernel_rfl) (by kernel_rfl) rfl rfl rfl (OpP.move rfl) ?_
          refine DL.read (i := 18) (by kernel_rfl) (by kernel_rfl) rfl rfl rfl (fun _ h => h) (OpR.rdStr (by rfl) (hpr.conv fun _ h => h.none) (by rfl)) ?_
          refine DL.dec (i := 19) (by kernel_rfl) (by kernel_rfl) rfl rfl rfl (OpP.eqStr rfl rfl) (fun h78 => ?_) (fun h78 => ?_)
          focus
            refine DL.pure (i := 20) (by kernel_rfl) (by kernel_rfl) rfl rfl rfl (OpP.pickT rfl rfl) ?_
            refine DL.pure (i := 21) (by kernel_rfl) (by kernel_rfl) rfl rfl rfl (OpP.move rfl) ?_
            refine DL.pure (i := 22) (by kernel_rfl) (by kernel_rfl) rfl rfl rfl (OpP.fieldAddr rfl) ?_
            refine DL.read (i := 23) (by kernel_rfl) (by kernel_rfl) rfl rfl rfl (fun _ h => h) (OpR.loadN rfl (Cells.hd0 (.tail (.tail (.tail .head))) (by first | assumption | exact Go.Proofs.B.shaB_length _ _ | solve_by_elim)) (by rw [bcells_length]; exact (by first | assumption | exact Go.Proofs.B.shaB_length _ _ | solve_by_elim))) ?_
            refine DL.read (i := 24) (by kernel_rfl) (by kernel_rfl) rfl rfl rfl (fun _ h => h) (OpR.loadN rfl (Cells.full .head) (by rw [bcells_length]; first | assumption | exact Go.Proofs.B.shaB_length _ _ | solve_by_elim)) ?_
            refine DL.pure (i := 25) (by kernel_rfl) (by kernel_rfl) rfl rfl rfl (OpP.eqBytes rfl rfl (by first | assumption | exact Go.Proofs.B.shaB_length _ _ | solve_by_elim) (by first | assumption | exact Go.Proofs.B.shaB_length _ _ | solve_by_elim)) ?_
            refine DL.pure (i := 26) (by kernel_rfl) (by kernel_rfl) rfl rfl rfl (OpP.pickT rfl rfl) ?_
            refine DL.pure (i := 27) (by kernel_rfl) (by kernel_rfl) rfl rfl rfl (OpP.move rfl) ?_
            refine DL.decAt 86 rfl (fun h86 => ?_) (fun h86 => ?_)
            focus
              refine DL.pure (i := 28) (by kernel_rfl) (by kernel_rfl) rfl rfl rfl (OpP.fieldAddr rfl) ?_
              refine DL.read (i := 29) (by kernel_rfl) (by kernel_rfl) rfl rfl rfl (fun _ h => h) (OpR.load1 rfl (Cell.hd1 (.tail (.tail (.tail .head))) (by first | assumption | exact Go.Proofs.B.shaB_length _ _ | solve_by_elim))) ?_
              refine DL.pure (i := 30) (by kernel_rfl) (by kernel_rfl) rfl rfl rfl (OpP.fieldAddr rfl) ?_
              refine DL.pure (i := 31) (by kernel_rfl) (by kernel_rfl) rfl rfl rfl (OpP.fieldAddr rfl) ?_
              refine DL.read (i := 32) (by kernel_rfl) (by kernel_rfl) rfl rfl rfl (fun _ h => h) (OpR.load1 rfl (Cell.pf1 (.tail (.tail .head)) (by first | assumption | exact Go.Proofs.B.shaB_length _ _ | solve_by_elim))) ?_
              refine DL.pure (i := 33) (by kernel_rfl) (by kernel_rfl) rfl rfl rfl (OpP.fieldAddr rfl) ?_
              refine DL.read (i := 34) (by kernel_rfl) (by kernel_rfl) rfl rfl rfl (fun _ h => h) (OpR.load1 rfl (Cell.pf2 (.tail (.tail .head)) (by first | assumption | exact Go.Proofs.B.shaB_length _ _ | solve_by_elim))) ?_
              refine DL.pure (i := 35) (by kernel_rfl) (by kernel_rfl) rfl rfl rfl (OpP.len rfl rfl) ?_
              refine DL.pure (i := 36) (by kernel_rfl) (by kernel_rfl) rfl rfl rfl (OpP.addI rfl rfl (by omega) (by omega)) ?_
              refine DL.dec (i := 37) (by kernel_rfl) (by kernel_rfl) rfl rfl rfl (OpP.eql rfl rfl) (fun h96 => ?_) (fun h96 => ?_)
              focus
                refine DL.pure (i := 38) (by kernel_rfl) (by kernel_rfl) rfl rfl rfl (OpP.pickT rfl rfl) ?_
                refine DL.pure (i := 39) (by kernel_rfl) (by kernel_rfl) rfl rfl rfl (OpP.assign rfl) ?_
                refine DL.done (by kernel_rfl) ?_
                refine J.seq ?_
                refine J.region ?_
                refine JL.read rfl rfl (OpR.loadN rfl (Cells.full (.tail (.tail (.tail .head)))) (hdC_len (by first | assumption | exact Go.Proofs.B.shaB_length _ _ | solve_by_elim))) ?_
                refine JL.pure rfl rfl (OpP.move rfl) ?_
                refine JL.pure rfl rfl (OpP.move rfl) ?_
                refine JL.read rfl rfl (OpR.loadN (n := 34) rfl (Cells.full (.tail (.tail .head))) (by rw [List.length_append, hdC_len (by first | assumption | exact Go.Proofs.B.shaB_length _ _ | solve_by_elim)]; rfl)) ?_
                refine JL.step rfl rfl (OpW.call (first := []) (captured := []) inferInstance rfl rfl (Proves_ok (lr := p0) hK hl hl2 hn hrl hm1 (by omega) hpl (hpr.conv fun _ h => h.none) (hp.conv (fun _ h => h.none)))) ?_; rintro r102 _ ⟨rfl, rfl⟩
                refine JL.pure rfl rfl (OpP.move rfl) ?_
                refine JL.dec rfl rfl (OpP.eqBool rfl rfl) (fun h104 => ?_) (fun h104 => ?_)
                focus
                  refine JL.pure rfl rfl (OpP.assign rfl) ?_
                  refine JL.nil ?_
                  refine J.ret1 rfl rfl ?_
                rotate_left 1
                focus
                  refine JL.pure rfl rfl (OpP.assign rfl) ?_
                  refine JL.nil ?_
                  refine J.ret1 rfl rfl ?_
                rotate_left 1
              rotate_left 2
              focus
                refine DL.pure (i := 38) (by kernel_rfl) (by kernel_rfl) rfl rfl rfl (OpP.pickT rfl rfl) ?_
                refine DL.pure (i := 39) (by kernel_rfl) (by kernel_rfl) rfl rfl rfl (OpP.assign rfl) ?_
                refine DL.done (by kernel_rfl) ?_
                refine J.seq ?_
                refine J.region ?_
                refine JL.read rfl rfl (OpR.loadN rfl (Cells.full (.tail (.tail (.tail .head)))) (hdC_len (by first | assumption | exact Go.Proofs.B.shaB_length _ _ | solve_by_elim))) ?_
                refine JL.pure rfl rfl (OpP.move rfl) ?_
                refine JL.pure rfl rfl (OpP.move rfl) ?_
                refine JL.read rfl rfl (OpR.loadN (n := 34) rfl (Cells.full (.tail (.tail .head))) (by rw [List.length_append, hdC_len (by first | assumption | exact Go.Proofs.B.shaB_length _ _ | solve_by_elim)]; rfl)) ?_
                refine JL.step rfl rfl (OpW.call (first := []) (captured := []) inferInstance rfl rfl (Proves_ok (lr := p0) hK hl hl2 hn hrl hm1 (by omega) hpl (hpr.conv fun _ h => h.none) (hp.conv (fun _ h => h.none)))) ?_; rintro r102 _ ⟨rfl, rfl⟩
                refine JL.pure rfl rfl (OpP.move rfl) ?_
                refine JL.dec rfl rfl (OpP.eqBool rfl rfl) (fun h104 => ?_) (fun h104 => ?_)
                focus
                  refine JL.pure rfl rfl (OpP.assign rfl) ?_
                  refine JL.nil ?_
                  refine J.ret1 rfl rfl ?_
                rotate_left 1
                focus
                  refine JL.pure rfl rfl (OpP.assign rfl) ?_
                  refine JL.nil ?_
                  refine J.ret1 rfl rfl ?_
                rotate_left 1
              rotate_left 2
            rotate_left 4
            focus
              refine DL.skip (i := 28) (by kernel_rfl) (by kernel_rfl) rfl rfl rfl ?_
              refine DL.skip (i := 29) (by kernel_rfl) (by kernel_rfl) rfl rfl rfl ?_
              refine DL.skip (i := 30) (by kernel_rfl) (by kernel_rfl) rfl rfl rfl ?_
              refine DL.skip (i := 31) (by kernel_rfl) (by kernel_rfl) rfl rfl rfl ?_
              refine DL.skip (i := 32) (by kernel_rfl) (by kernel_rfl) rfl rfl rfl ?_
              refine DL.skip (i := 33) (by kernel_rfl) (by kernel_rfl) rfl rfl rfl ?_
              refine DL.skip (i := 34) (by kernel_rfl) (by kernel_rfl) rfl rfl rfl ?_
              refine DL.skip (i := 35) (by kernel_rfl) (by kernel_rfl) rfl rfl rfl ?_
              refine DL.skip (i := 36) (by kernel_rfl) (by kernel_rfl) rfl rfl rfl ?_
              refine DL.skip (i := 37) (by kernel_rfl) (by kernel_rfl) rfl rfl rfl ?_
              refine DL.pure (i := 38) (by kernel_rfl) (by kernel_rfl) rfl rfl rfl (OpP.pickF rfl rfl) ?_
              refine DL.pure (i := 39) (by kernel_rfl) (by kernel_rfl) rfl rfl rfl (OpP.assign rfl) ?_
              refine DL.done (by kernel_rfl) ?_
              refine J.seq ?_
              refine J.region ?_
              refine JL.read rfl rfl (OpR.loadN rfl (Cells.full (.tail (.tail (.tail .head)))) (hdC_len (by first | assumption | exact Go.Proofs.B.shaB_length _ _ | solve_by_elim))) ?_
              refine JL.pure rfl rfl (OpP.move rfl) ?_
              refine JL.pure rfl rfl (OpP.move rfl) ?_
              refine JL.read rfl rfl (OpR.loadN (n := 34) rfl (Cells.full (.tail (.tail .head))) (by rw [List.length_append, hdC_len (by first | assumption | exact Go.Proofs.B.shaB_length _ _ | solve_by_elim)]; rfl)) ?_
              refine JL.step rfl rfl (OpW.call (first := []) (captured := []) inferInstance rfl rfl (Proves_ok (lr := p0) hK hl hl2 hn hrl hm1 (by omega) hpl (hpr.conv fun _ h => h.none) (hp.conv (fun _ h => h.none)))) ?_; rintro r102 _ ⟨rfl, rfl⟩
              refine JL.pure rfl rfl (OpP.move rfl) ?_
              refine JL.dec rfl rfl (OpP.eqBool rfl rfl) (fun h104 => ?_) (fun h104 => ?_)
              focus
                refine JL.pure rfl rfl (OpP.assign rfl) ?_
                refine JL.nil ?_
                refine J.ret1 rfl rfl ?_
              rotate_left 1
              focus
                refine JL.pure rfl rfl (OpP.assign rfl) ?_
                refine JL.nil ?_
                refine J.ret1 rfl rfl ?_
              rotate_left 1
            rotate_left 2
          rotate_left 6
          focus
            refine DL.pure (i := 20) (by kernel_rfl) (by kernel_rfl) rfl rfl rfl (OpP.pickT rfl rfl) ?_
            refine DL.pure (i := 21) (by kernel_rfl) (by kernel_rfl) rfl rfl rfl (OpP.move rfl) ?_
            refine DL.skip (i := 22) (by kernel_rfl) (by kernel_rfl) rfl rfl rfl ?_
            refine DL.skip (i := 23) (by kernel_rfl) (by kernel_rfl) rfl rfl rfl ?_
            refine DL.skip (i := 24) (by kernel_rfl) (by kernel_rfl) rfl rfl rfl ?_
            refine DL.skip (i := 25) (by kernel_rfl) (by kernel_rfl) rfl rfl rfl ?_
            refine DL.pure (i := 26) (by kernel_rfl) (by kernel_rfl) rfl rfl rfl (OpP.pickF rfl rfl) ?_
            refine DL.pure (i := 27) (by kernel_rfl) (by kernel_rfl) rfl rfl rfl (OpP.move rfl) ?_
            refine DL.skip (i := 28) (by kernel_rfl) (by kernel_rfl) rfl rfl rfl ?_
            refine DL.skip (i := 29) (by kernel_rfl) (by kernel_rfl) rfl rfl rfl ?_
            refine DL.skip (i := 30) (by kernel_rfl) (by kernel_rfl) rfl rfl rfl ?_
            refine DL.skip (i := 31) (by kernel_rfl) (by kernel_rfl) rfl rfl rfl ?_
            refine DL.skip (i := 32) (by kernel_rfl) (by kernel_rfl) rfl rfl rfl ?_
            refine DL.skip (i := 33) (by kernel_rfl) (by kernel_rfl) rfl rfl rfl ?_
            refine DL.skip (i := 34) (by kernel_rfl) (by kernel_rfl) rfl rfl rfl ?_
            refine DL.skip (i := 35) (by kernel_rfl) (by kernel_rfl) rfl rfl rfl ?_
            refine DL.skip (i := 36) (by kernel_rfl) (by kernel_rfl) rfl rfl rfl ?_
            refine DL.skip (i := 37) (by kernel_rfl) (by kernel_rfl) rfl rfl rfl ?_
            refine DL.pure (i := 38) (by kernel_rfl) (by kernel_rfl) rfl rfl rfl (OpP.pickF rfl rfl) ?_
            refine DL.pure (i := 39) (by kernel_rfl) (by kernel_rfl) rfl rfl rfl (OpP.assign rfl) ?_
            refine DL.done (by kernel_rfl) ?_
            refine J.seq ?_
            refine J.region ?_
            refine JL.read rfl rfl (OpR.loadN rfl (Cells.full (.tail (.tail (.tail .head)))) (hdC_len (by first | assumption | exact Go.Proofs.B.shaB_length _ _ | solve_by_elim))) ?_
            refine JL.pure rfl rfl (OpP.move rfl) ?_
            refine JL.pure rfl rfl (OpP.move rfl) ?_
            refine JL.read rfl rfl (OpR.loadN (n := 34) rfl (Cells.full (.tail (.tail .head))) (by rw [List.length_append, hdC_len (by first | assumption | exact Go.Proofs.B.shaB_length _ _ | solve_by_elim)]; rfl)) ?_
            refine JL.step rfl rfl (OpW.call (first := []) (captured := []) inferInstance rfl rfl (Proves_ok (lr := p0) hK hl hl2 hn hrl hm1 (by omega) hpl (hpr.conv fun _ h => h.none) (hp.conv (fun _ h => h.none)))) ?_; rintro r102 _ ⟨rfl, rfl⟩
            refine JL.pure rfl rfl (OpP.move rfl) ?_
            refine JL.dec rfl rfl (OpP.eqBool rfl rfl) (fun h104 => ?_) (fun h104 => ?_)
            focus
              refine JL.pure rfl rfl (OpP.assign rfl) ?_
              refine JL.nil ?_
              refine J.ret1 rfl rfl ?_
            rotate_left 1
            focus
              refine JL.pure rfl rfl (OpP.assign rfl) ?_
              refine JL.nil ?_
              refine J.ret1 rfl rfl ?_
            rotate_left 1
          rotate_left 2
        rotate_left 8
        focus
          refine DL.pure (i := 5) (by kernel_rfl) (by kernel_rfl) rfl rfl rfl (OpP.move rfl) ?_
          refine DL.skip (i := 6) (by kernel_rfl) (by kernel_rfl) rfl rfl rfl ?_
          refine DL.skip (i := 7) (by kernel_rfl) (by kernel_rfl) rfl rfl rfl ?_
          refine DL.skip (i := 8) (by kernel_rfl) (by kernel_rfl) rfl rfl rfl ?_
          refine DL.skip (i := 9) (by kernel_rfl) (by kernel_rfl) rfl rfl rfl ?_
          refine DL.pure (i := 10) (by kernel_rfl) (by kernel_rfl) rfl rfl rfl (OpP.pickF rfl rfl) ?_
          refine DL.pure (i := 11) (by kernel_rfl) (by kernel_rfl) rfl rfl rfl (OpP.move rfl) ?_
          refine DL.skip (i := 12) (by kernel_rfl) (by kernel_rfl) rfl rfl rfl ?_
          refine DL.skip (i := 13) (by kernel_rfl) (by kernel_rfl) rfl rfl rfl ?_
          refine DL.skip (i := 14) (by kernel_rfl) (by kernel_rfl) rfl rfl rfl ?_
          refine DL.skip (i := 15) (by kernel_rfl) (by kernel_rfl) rfl rfl rfl ?_
          refine DL.skip (i := 16) (by kernel_rfl) (by kernel_rfl) rfl rfl rfl ?_
          refine DL.skip (i := 17) (by kernel_rfl) (by kernel_rfl) rfl rfl rfl ?_
          refine DL.skip (i := 18) (by kernel_rfl) (by kernel_rfl) rfl rfl rfl ?_
          refine DL.skip (i := 19) (by kernel_rfl) (by kernel_rfl) rfl rfl rfl ?_
          refine DL.pure (i := 20) (by kernel_rfl) (by kernel_rfl) rfl rfl rfl (OpP.pickF rfl rfl) ?_
          refine DL.pure (i := 21) (by kernel_rfl) (by kernel_rfl) rfl rfl rfl (OpP.move rfl) ?_
          refine DL.skip (i := 22) (by kernel_rfl) (by kernel_rfl) rfl rfl rfl ?_
          refine DL.skip (i := 23) (by kernel_rfl) (by kernel_rfl) rfl rfl rfl ?_
          refine DL.skip (i := 24) (by kernel_rfl) (by kernel_rfl) rfl rfl rfl ?_
          refine DL.skip (i := 25) (by kernel_rfl) (by kernel_rfl) rfl rfl rfl ?_
          refine DL.pure (i := 26) (by kernel_rfl) (by kernel_rfl) rfl rfl rfl (OpP.pickF rfl rfl) ?_
          refine DL.pure (i := 27) (by kernel_rfl) (by kernel_rfl) rfl rfl rfl (OpP.move rfl) ?_
          refine DL.skip (i := 28) (by kernel_rfl) (by kernel_rfl) rfl rfl rfl ?_
          refine DL.skip (i := 29) (by kernel_rfl) (by kernel_rfl) rfl rfl rfl ?_
          refine DL.skip (i := 30) (by kernel_rfl) (by kernel_rfl) rfl rfl rfl ?_
          refine DL.skip (i := 31) (by kernel_rfl) (by kernel_rfl) rfl rfl rfl ?_
          refine DL.skip (i := 32) (by kernel_rfl) (by kernel_rfl) rfl rfl rfl ?_
          refine DL.skip (i := 33) (by kernel_rfl) (by kernel_rfl) rfl rfl rfl ?_
          refine DL.skip (i := 34) (by kernel_rfl) (by kernel_rfl) rfl rfl rfl ?_
          refine DL.skip (i := 35) (by kernel_rfl) (by kernel_rfl) rfl rfl rfl ?_
          refine DL.skip (i := 36) (by kernel_rfl) (by kernel_rfl) rfl rfl rfl ?_
          refine DL.skip (i := 37) (by kernel_rfl) (by kernel_rfl) rfl rfl rfl ?_
          refine DL.pure (i := 38) (by kernel_rfl) (by kernel_rfl) rfl rfl rfl (OpP.pickF rfl rfl) ?_
          refine DL.pure (i := 39) (by kernel_rfl) (by kernel_rfl) rfl rfl rfl (OpP.assign rfl) ?_
          refine DL.done (by kernel_rfl) ?_
          refine J.seq ?_
          refine J.region ?_
          refine JL.read rfl rfl (OpR.loadN rfl (Cells.full (.tail (.tail (.tail .head)))) (hdC_len (by first | assumption | exact Go.Proofs.B.shaB_length _ _ | solve_by_elim))) ?_
          refine JL.pure rfl rfl (OpP.move rfl) ?_
          refine JL.pure rfl rfl (OpP.move rfl) ?_
          refine JL.read rfl rfl (OpR.loadN (n := 34) rfl (Cells.full (.tail (.tail .head))) (by rw [List.length_append, hdC_len (by first | assumption | exact Go.Proofs.B.shaB_length _ _ | solve_by_elim)]; rfl)) ?_
          refine JL.step rfl rfl (OpW.call (first := []) (captured := []) inferInstance rfl rfl (Proves_ok (lr := p0) hK hl hl2 hn hrl hm1 (by omega) hpl (hpr.conv fun _ h => h.none) (hp.conv (fun _ h => h.none)))) ?_; rintro r102 _ ⟨rfl, rfl⟩
          refine JL.pure rfl rfl (OpP.move rfl) ?_
          refine JL.dec rfl rfl (OpP.eqBool rfl rfl) (fun h104 => ?_) (fun h104 => ?_)
          focus
            refine JL.pure rfl rfl (OpP.assign rfl) ?_
            refine JL.nil ?_
            refine J.ret1 rfl rfl ?_
          rotate_left 1
          focus
            refine JL.pure rfl rfl (OpP.assign rfl) ?_
            refine JL.nil ?_
            refine J.ret1 rfl rfl ?_
          rotate_left 1
        rotate_left 2
        all_goals first
          | rfl
          | exact absurd (decide_eq_true (key.2 ⟨by assumption, strB_inj.1 (by assumption), Eq.symm (by assumption), Eq.symm (by assumption)⟩)) h104
          | exact absurd (decide_eq_false fun q => absurd (key.1 q).1 (by assumption)) h104
          | exact absurd (decide_eq_false fun q => absurd (strB_inj.2 (key.1 q).2.1) (by assumption)) h104
          | exact absurd (decide_eq_false fun q => absurd (key.1 q).2.2.1.symm (by assumption)) h104
          | exact absurd (decide_eq_false fun q => absurd (key.1 q).2.2.2.symm (by assumption)) h104
    · rfl
    · rfl
    · obtain ⟨hm, hn12⟩ := h32 (by cases b <;> first | rfl | cases h35)
      have hrl : ∀ p ∈ ps, p.2.length ≤ 80000 := fun p hp => by have := recs_le p hp; omega
      refine J.loopI (fun i : Nat => ps.length - i) (fun i => i ≤ ps.length) (fun i => [(9, .int .i64 (i : Nat)), (8, .pointer (some ⟨b8, 0, none⟩)), (7, .slice (some ⟨b11, 0, none⟩) 1 1), (5, .pointer (some ⟨b5, 0, none⟩)), (3, .pointer (some ⟨b3, 0, none⟩)), (1, .int .i64 place)])
        (fun i => [row b8 26 (bcells (hsh K h2 (recs (ps.take i)))), rdo b11 5 (bcells [120]), row b5 63 (hdC h2 m ++ [Value.slice (some ⟨gp, pp, none⟩) ps.length pc]), row b3 55 (hdC h n)]) 0 (Nat.zero_le _) (by repeat (first | exact SubEnv.nil | refine SubEnv.cons (by first | rfl | exact congrArg (fun z => some (Value.int .i64 z)) (by omega) | (simp; done)) ?_)) (fun _ h => h) (fun i hi back => ?_)
      dsimp only at hi back ⊢
      by_cases hlt : i < ps.length
      · obtain ⟨pa1, pc1, p, hpi1, hpv1, hpr1⟩ := hp.at hlt
        have hct := recs_take hpi1
        have hpl2 : p.length ≤ 80000 := hrl _ (List.mem_of_getElem? hpi1)
        have hhi := hsh_len (K := K) hl2 (recs (ps.take i))
        have hsn := hsh_snoc K h2 (recs (ps.take i)) p
        rw [← hct] at hsn
        refine J.seq ?_
        refine J.seq ?_
        refine J.region ?_
        refine JL.pure rfl rfl (OpP.move rfl) ?_
        refine JL.pure rfl rfl (OpP.fieldAddr rfl) ?_
        refine JL.read rfl rfl (OpR.load1 rfl (Cell.pf2 (.tail (.tail .head)) (by first | assumption | exact Go.Proofs.B.shaB_length _ _ | solve_by_elim))) ?_
        refine JL.pure rfl rfl (OpP.len rfl rfl) ?_
        refine JL.decT rfl rfl (OpP.lss rfl rfl) (by omega) ?_
        refine JL.nil ?_
        refine J.condT rfl ?_
        refine J.skip ?_
        refine J.seq ?_
        refine J.block ?_
        refine J.regionD [0, 2, 5] (by kernel_rfl) ?_
        refine DL.read (i := 0) (by kernel_rfl) (by kernel_rfl) rfl rfl rfl (fun _ h => h) (OpR.loadN rfl (Cells.full .head) (by rw [bcells_length]; first | assumption | exact Go.Proofs.B.shaB_length _ _ | solve_by_elim)) ?_
        refine DL.pure (i := 1) (by kernel_rfl) (by kernel_rfl) rfl rfl rfl (OpP.fieldAddr rfl) ?_
        refine DL.read (i := 2) (by kernel_rfl) (by kernel_rfl) rfl rfl rfl (fun _ h => h) (OpR.load1 rfl (Cell.pf2 (.tail (.tail .head)) (by first | assumption | exact Go.Proofs.B.shaB_length _ _ | solve_by_elim))) ?_
        refine DL.pure (i := 3) (by kernel_rfl) (by kernel_rfl) rfl rfl rfl (OpP.move rfl) ?_
        refine DL.pure (i := 4) (by kernel_rfl) (by kernel_rfl) rfl rfl rfl (OpP.indexAddr rfl rfl (by omega) (by omega)) ?_
        refine DL.read (i := 5) (by kernel_rfl) (by kernel_rfl) rfl rfl rfl (fun _ h => h) (OpR.load1 rfl (by apply Cells.cell cp (fun _ h => h.none); (case' hv => assumption); (case' ho => omega); done)) ?_
        refine DL.only (i := 6) (by kernel_rfl) ?_
        refine DL1.stepF rfl rfl rfl (by kernel_rfl) (by exact OpW.call (first := []) (captured := []) inferInstance rfl rfl (RefLink_ok hK2 (by assumption) hpl2 (hpr1.conv fun _ h => h.none))) ?_; rintro r58 _ ⟨rfl, rfl⟩
        refine DL.only (i := 7) (by kernel_rfl) ?_
        refine DL1.stepF0 rfl rfl (by kernel_rfl) (OpM.w (by apply OpM.storeN rfl rfl (by rw [bcells_length]; first | assumption | exact Go.Proofs.B.shaB_length _ _ | solve_by_elim) (bcells_one _); (case' hu => exact .head); (case' hs => exact spl_all (by first | (rw [bcells_length, List.length_replicate]; first | assumption | exact Go.Proofs.B.shaB_length _ _ | solve_by_elim) | (rw [bcells_length, bcells_length]; refine Eq.trans (b := 32) ?_ (Eq.symm ?_) <;> (first | assumption | exact Go.Proofs.B.shaB_length _ _ | solve_by_elim)) | (rw [bcells_length]; first | assumption | exact Go.Proofs.B.shaB_length _ _ | solve_by_elim))); done)) ?_; rintro _ _ ⟨rfl, rfl⟩
        refine DL.done (by kernel_rfl) ?_
        refine J.inBlock ?_
        refine J.region ?_
        refine JL.pure rfl rfl (OpP.move rfl) ?_
        refine JL.pure rfl rfl (OpP.addI rfl rfl (by omega) (by omega)) ?_
        refine JL.pure rfl rfl (OpP.assign rfl) ?_
        refine JL.nil ?_
        refine back (i + 1) (by omega) (by omega) (by repeat (first | exact SubEnv.nil | refine SubEnv.cons (by first | rfl | exact congrArg (fun z => some (Value.int .i64 z)) (by omega) | (simp; done)) ?_)) (fun _ h => ?_)
        rw [hsn]
        exact h
      · have : i = ps.length := by omega
        subst this
        rw [List.take_length]
        have hhl := hsh_len (K := K) hl2 (recs ps)
        have key : Told K h n place ([120]) h2 m (recs ps) ↔ (m = place ∧ p0 = [120] ∧ hsh K h2 (recs ps) = h ∧ m + ps.length = n) := by rw [Told, hrc, hrn, Option.some.injEq]
        refine J.seq ?_
        refine J.seq ?_
        refine J.region ?_
        refine JL.pure rfl rfl (OpP.move rfl) ?_
        refine JL.pure rfl rfl (OpP.fieldAddr rfl) ?_
        refine JL.read rfl rfl (OpR.load1 rfl (Cell.pf2 (.tail (.tail .head)) (by first | assumption | exact Go.Proofs.B.shaB_length _ _ | solve_by_elim))) ?_
        refine JL.pure rfl rfl (OpP.len rfl rfl) ?_
        refine JL.decF rfl rfl (OpP.lss rfl rfl) (by omega) ?_
        refine JL.nil ?_
        refine J.condF rfl ?_
        refine J.exit rfl ?_
        refine J.seq ?_
        refine J.regionD [2, 7, 13, 15, 16, 18, 23, 24, 29, 32, 34] (by kernel_rfl) ?_
        refine DL.pure (i := 0) (by kernel_rfl) (by kernel_rfl) rfl rfl rfl (OpP.fieldAddr rfl) ?_
        refine DL.pure (i := 1) (by kernel_rfl) (by kernel_rfl) rfl rfl rfl (OpP.fieldAddr rfl) ?_
        refine DL.read (i := 2) (by kernel_rfl) (by kernel_rfl) rfl rfl rfl (fun _ h => h) (OpR.load1 rfl (Cell.pf1 (.tail (.tail .head)) (by first | assumption | exact Go.Proofs.B.shaB_length _ _ | solve_by_elim))) ?_
        refine DL.pure (i := 3) (by kernel_rfl) (by kernel_rfl) rfl rfl rfl (OpP.move rfl) ?_
        refine DL.dec (i := 4) (by kernel_rfl) (by kernel_rfl) rfl rfl rfl (OpP.eql rfl rfl) (fun h63 => ?_) (fun h63 => ?_)
        focus
          refine DL.pure (i := 5) (by kernel_rfl) (by kernel_rfl) rfl rfl rfl (OpP.move rfl) ?_
          refine DL.pure (i := 6) (by kernel_rfl) (by kernel_rfl) rfl rfl rfl (OpP.fieldAddr rfl) ?_
          refine DL.read (i := 7) (by kernel_rfl) (by kernel_rfl) rfl rfl rfl (fun _ h => h) (OpR.load1 rfl (Cell.pf2 (.tail (.tail .head)) (by first | assumption | exact Go.Proofs.B.shaB_length _ _ | solve_by_elim))) ?_
          refine DL.pure (i := 8) (by kernel_rfl) (by kernel_rfl) rfl rfl rfl (OpP.len rfl rfl) ?_
          refine DL.decT (i := 9) (by kernel_rfl) (by kernel_rfl) rfl rfl rfl (OpP.gtr rfl rfl) (by omega) ?_
          refine DL.pure (i := 10) (by kernel_rfl) (by kernel_rfl) rfl rfl rfl (OpP.pickT rfl rfl) ?_
          refine DL.pure (i := 11) (by kernel_rfl) (by kernel_rfl) rfl rfl rfl (OpP.move rfl) ?_
          refine DL.pure (i := 12) (by kernel_rfl) (by kernel_rfl) rfl rfl rfl (OpP.fieldAddr rfl) ?_
          refine DL.read (i := 13) (by kernel_rfl) (by kernel_rfl) rfl rfl rfl (fun _ h => h) (OpR.load1 rfl (Cell.pf2 (.tail (.tail .head)) (by first | assumption | exact Go.Proofs.B.shaB_length _ _ | solve_by_elim))) ?_
          refine DL.pure (i := 14) (by kernel_rfl) (by kernel_rfl) rfl rfl rfl (OpP.indexAddr rfl rfl (by omega) (by omega)) ?_
          refine DL.read (i := 15) (by kernel_rfl) (by kernel_rfl) rfl rfl rfl (fun _ h => h) (OpR.load1 rfl (by apply Cells.cell cp (fun _ h => h.none); (case' hv => assumption); (case' ho => omega); done)) ?_
          refine DL.read (i := 16) (by kernel_rfl) (by kernel_rfl) rfl rfl rfl (fun _ h => h) (OpR.rdStr (by rfl) (hpr.conv fun _ h => h.none) (by rfl)) ?_
          refine DL.pure (i := 17) (by kernel_rfl) (by kernel_rfl) rfl rfl rfl (OpP.move rfl) ?_
          refine DL.read (i := 18) (by kernel_rfl) (by kernel_rfl) rfl rfl rfl (fun _ h => h) (OpR.rdStr (by rfl) (RdO.ofRdo (.tail .head) (by first | exact Nat.le_refl _ | decide | omega)) (by rfl)) ?_
          refine DL.dec (i := 19) (by kernel_rfl) (by kernel_rfl) rfl rfl rfl (OpP.eqStr rfl rfl) (fun h78 => ?_) (fun h78 => ?_)
          focus
            refine DL.pure (i := 20) (by kernel_rfl) (by kernel_rfl) rfl rfl rfl (OpP.pickT rfl rfl) ?_
            refine DL.pure (i := 21) (by kernel_rfl) (by kernel_rfl) rfl rfl rfl (OpP.move rfl) ?_
            refine DL.pure (i := 22) (by kernel_rfl) (by kernel_rfl) rfl rfl rfl (OpP.fieldAddr rfl) ?_
            refine DL.read (i := 23) (by kernel_rfl) (by kernel_rfl) rfl rfl rfl (fun _ h => h) (OpR.loadN rfl (Cells.hd0 (.tail (.tail (.tail .head))) (by first | assumption | exact Go.Proofs.B.shaB_length _ _ | solve_by_elim)) (by rw [bcells_length]; exact (by first | assumption | exact Go.Proofs.B.shaB_length _ _ | solve_by_elim))) ?_
            refine DL.read (i := 24) (by kernel_rfl) (by kernel_rfl) rfl rfl rfl (fun _ h => h) (OpR.loadN rfl (Cells.full .head) (by rw [bcells_length]; first | assumption | exact Go.Proofs.B.shaB_length _ _ | solve_by_elim)) ?_
            refine DL.pure (i := 25) (by kernel_rfl) (by kernel_rfl) rfl rfl rfl (OpP.eqBytes rfl rfl (by first | assumption | exact Go.Proofs.B.shaB_length _ _ | solve_by_elim) (by first | assumption | exact Go.Proofs.B.shaB_length _ _ | solve_by_elim)) ?_
            refine DL.pure (i := 26) (by kernel_rfl) (by kernel_rfl) rfl rfl rfl (OpP.pickT rfl rfl) ?_
            refine DL.pure (i := 27) (by kernel_rfl) (by kernel_rfl) rfl rfl rfl (OpP.move rfl) ?_
            refine DL.decAt 86 rfl (fun h86 => ?_) (fun h86 => ?_)
            focus
              refine DL.pure (i := 28) (by kernel_rfl) (by kernel_rfl) rfl rfl rfl (OpP.fieldAddr rfl) ?_
              refine DL.read (i := 29) (by kernel_rfl) (by kernel_rfl) rfl rfl rfl (fun _ h => h) (OpR.load1 rfl (Cell.hd1 (.tail (.tail (.tail .head))) (by first | assumption | exact Go.Proofs.B.shaB_length _ _ | solve_by_elim))) ?_
              refine DL.pure (i := 30) (by kernel_rfl) (by kernel_rfl) rfl rfl rfl (OpP.fieldAddr rfl) ?_
              refine DL.pure (i := 31) (by kernel_rfl) (by kernel_rfl) rfl rfl rfl (OpP.fieldAddr rfl) ?_
              refine DL.read (i := 32) (by kernel_rfl) (by kernel_rfl) rfl rfl rfl (fun _ h => h) (OpR.load1 rfl (Cell.pf1 (.tail (.tail .head)) (by first | assumption | exact Go.Proofs.B.shaB_length _ _ | solve_by_elim))) ?_
              refine DL.pure (i := 33) (by kernel_rfl) (by kernel_rfl) rfl rfl rfl (OpP.fieldAddr rfl) ?_
              refine DL.read (i := 34) (by kernel_rfl) (by kernel_rfl) rfl rfl rfl (fun _ h => h) (OpR.load1 rfl (Cell.pf2 (.tail (.tail .head)) (by first | assumption | exact Go.Proofs.B.shaB_length _ _ | solve_by_elim))) ?_
              refine DL.pure (i := 35) (by kernel_rfl) (by kernel_rfl) rfl rfl rfl (OpP.len rfl rfl) ?_
              refine DL.pure (i := 36) (by kernel_rfl) (by kernel_rfl) rfl rfl rfl (OpP.addI rfl rfl (by omega) (by omega)) ?_
              refine DL.dec (i := 37) (by kernel_rfl) (by kernel_rfl) rfl rfl rfl (OpP.eql rfl rfl) (fun h96 => ?_) (fun h96 => ?_)
              focus
                refine DL.pure (i := 38) (by kernel_rfl) (by kernel_rfl) rfl rfl rfl (OpP.pickT rfl rfl) ?_
                refine DL.pure (i := 39) (by kernel_rfl) (by kernel_rfl) rfl rfl rfl (OpP.assign rfl) ?_
                refine DL.done (by kernel_rfl) ?_
                refine J.seq ?_
                refine J.region ?_
                refine JL.read rfl rfl (OpR.loadN rfl (Cells.full (.tail (.tail (.tail .head)))) (hdC_len (by first | assumption | exact Go.Proofs.B.shaB_length _ _ | solve_by_elim))) ?_
                refine JL.pure rfl rfl (OpP.move rfl) ?_
                refine JL.pure rfl rfl (OpP.move rfl) ?_
                refine JL.read rfl rfl (OpR.loadN (n := 34) rfl (Cells.full (.tail (.tail .head))) (by rw [List.length_append, hdC_len (by first | assumption | exact Go.Proofs.B.shaB_length _ _ | solve_by_elim)]; rfl)) ?_
                refine JL.step rfl rfl (OpW.call (first := []) (captured := []) inferInstance rfl rfl (Proves_ok (lr := [120]) hK hl hl2 hn hrl hm1 (by omega) hpl (RdO.ofRdo (.tail .head) (by first | exact Nat.le_refl _ | decide | omega)) (hp.conv (fun _ h => h.none)))) ?_; rintro r102 _ ⟨rfl, rfl⟩
                refine JL.pure rfl rfl (OpP.move rfl) ?_
                refine JL.dec rfl rfl (OpP.eqBool rfl rfl) (fun h104 => ?_) (fun h104 => ?_)
                focus
                  refine JL.pure rfl rfl (OpP.assign rfl) ?_
                  refine JL.nil ?_
                  refine J.ret1 rfl rfl ?_
                rotate_left 1
                focus
                  refine JL.pure rfl rfl (OpP.assign rfl) ?_
                  refine JL.nil ?_
                  refine J.ret1 rfl rfl ?_
                rotate_left 1
              rotate_left 2
              focus
                refine DL.pure (i := 38) (by kernel_rfl) (by kernel_rfl) rfl rfl rfl (OpP.pickT rfl rfl) ?_
                refine DL.pure (i := 39) (by kernel_rfl) (by kernel_rfl) rfl rfl rfl (OpP.assign rfl) ?_
                refine DL.done (by kernel_rfl) ?_
                refine J.seq ?_
                refine J.region ?_
                refine JL.read rfl rfl (OpR.loadN rfl (Cells.full (.tail (.tail (.tail .head)))) (hdC_len (by first | assumption | exact Go.Proofs.B.shaB_length _ _ | solve_by_elim))) ?_
                refine JL.pure rfl rfl (OpP.move rfl) ?_
                refine JL.pure rfl rfl (OpP.move rfl) ?_
                refine JL.read rfl rfl (OpR.loadN (n := 34) rfl (Cells.full (.tail (.tail .head))) (by rw [List.length_append, hdC_len (by first | assumption | exact Go.Proofs.B.shaB_length _ _ | solve_by_elim)]; rfl)) ?_
                refine JL.step rfl rfl (OpW.call (first := []) (captured := []) inferInstance rfl rfl (Proves_ok (lr := [120]) hK hl hl2 hn hrl hm1 (by omega) hpl (RdO.ofRdo (.tail .head) (by first | exact Nat.le_refl _ | decide | omega)) (hp.conv (fun _ h => h.none)))) ?_; rintro r102 _ ⟨rfl, rfl⟩
                refine JL.pure rfl rfl (OpP.move rfl) ?_
                refine JL.dec rfl rfl (OpP.eqBool rfl rfl) (fun h104 => ?_) (fun h104 => ?_)
                focus
                  refine JL.pure rfl rfl (OpP.assign rfl) ?_
                  refine JL.nil ?_
                  refine J.ret1 rfl rfl ?_
                rotate_left 1
                focus
                  refine JL.pure rfl rfl (OpP.assign rfl) ?_
                  refine JL.nil ?_
                  refine J.ret1 rfl rfl ?_
                rotate_left 1
              rotate_left 2
            rotate_left 4
            focus
              refine DL.skip (i := 28) (by kernel_rfl) (by kernel_rfl) rfl rfl rfl ?_
              refine DL.skip (i := 29) (by kernel_rfl) (by kernel_rfl) rfl rfl rfl ?_
              refine DL.skip (i := 30) (by kernel_rfl) (by kernel_rfl) rfl rfl rfl ?_
              refine DL.skip (i := 31) (by kernel_rfl) (by kernel_rfl) rfl rfl rfl ?_
              refine DL.skip (i := 32) (by kernel_rfl) (by kernel_rfl) rfl rfl rfl ?_
              refine DL.skip (i := 33) (by kernel_rfl) (by kernel_rfl) rfl rfl rfl ?_
              refine DL.skip (i := 34) (by kernel_rfl) (by kernel_rfl) rfl rfl rfl ?_
              refine DL.skip (i := 35) (by kernel_rfl) (by kernel_rfl) rfl rfl rfl ?_
              refine DL.skip (i := 36) (by kernel_rfl) (by kernel_rfl) rfl rfl rfl ?_
              refine DL.skip (i := 37) (by kernel_rfl) (by kernel_rfl) rfl rfl rfl ?_
              refine DL.pure (i := 38) (by kernel_rfl) (by kernel_rfl) rfl rfl rfl (OpP.pickF rfl rfl) ?_
              refine DL.pure (i := 39) (by kernel_rfl) (by kernel_rfl) rfl rfl rfl (OpP.assign rfl) ?_
              refine DL.done (by kernel_rfl) ?_
              refine J.seq ?_
              refine J.region ?_
              refine JL.read rfl rfl (OpR.loadN rfl (Cells.full (.tail (.tail (.tail .head)))) (hdC_len (by first | assumption | exact Go.Proofs.B.shaB_length _ _ | solve_by_elim))) ?_
              refine JL.pure rfl rfl (OpP.move rfl) ?_
              refine JL.pure rfl rfl (OpP.move rfl) ?_
              refine JL.read rfl rfl (OpR.loadN (n := 34) rfl (Cells.full (.tail (.tail .head))) (by rw [List.length_append, hdC_len (by first | assumption | exact Go.Proofs.B.shaB_length _ _ | solve_by_elim)]; rfl)) ?_
              refine JL.step rfl rfl (OpW.call (first := []) (captured := []) inferInstance rfl rfl (Proves_ok (lr := [120]) hK hl hl2 hn hrl hm1 (by omega) hpl (RdO.ofRdo (.tail .head) (by first | exact Nat.le_refl _ | decide | omega)) (hp.conv (fun _ h => h.none)))) ?_; rintro r102 _ ⟨rfl, rfl⟩
              refine JL.pure rfl rfl (OpP.move rfl) ?_
              refine JL.dec rfl rfl (OpP.eqBool rfl rfl) (fun h104 => ?_) (fun h104 => ?_)
              focus
                refine JL.pure rfl rfl (OpP.assign rfl) ?_
                refine JL.nil ?_
                refine J.ret1 rfl rfl ?_
              rotate_left 1
              focus
                refine JL.pure rfl rfl (OpP.assign rfl) ?_
                refine JL.nil ?_
                refine J.ret1 rfl rfl ?_
              rotate_left 1
            rotate_left 2
          rotate_left 6
          focus
            refine DL.pure (i := 20) (by kernel_rfl) (by kernel_rfl) rfl rfl rfl (OpP.pickT rfl rfl) ?_
            refine DL.pure (i := 21) (by kernel_rfl) (by kernel_rfl) rfl rfl rfl (OpP.move rfl) ?_
            refine DL.skip (i := 22) (by kernel_rfl) (by kernel_rfl) rfl rfl rfl ?_
            refine DL.skip (i := 23) (by kernel_rfl) (by kernel_rfl) rfl rfl rfl ?_
            refine DL.skip (i := 24) (by kernel_rfl) (by kernel_rfl) rfl rfl rfl ?_
            refine DL.skip (i := 25) (by kernel_rfl) (by kernel_rfl) rfl rfl rfl ?_
            refine DL.pure (i := 26) (by kernel_rfl) (by kernel_rfl) rfl rfl rfl (OpP.pickF rfl rfl) ?_
            refine DL.pure (i := 27) (by kernel_rfl) (by kernel_rfl) rfl rfl rfl (OpP.move rfl) ?_
            refine DL.skip (i := 28) (by kernel_rfl) (by kernel_rfl) rfl rfl rfl ?_
            refine DL.skip (i := 29) (by kernel_rfl) (by kernel_rfl) rfl rfl rfl ?_
            refine DL.skip (i := 30) (by kernel_rfl) (by kernel_rfl) rfl rfl rfl ?_
            refine DL.skip (i := 31) (by kernel_rfl) (by kernel_rfl) rfl rfl rfl ?_
            refine DL.skip (i := 32) (by kernel_rfl) (by kernel_rfl) rfl rfl rfl ?_
            refine DL.skip (i := 33) (by kernel_rfl) (by kernel_rfl) rfl rfl rfl ?_
            refine DL.skip (i := 34) (by kernel_rfl) (by kernel_rfl) rfl rfl rfl ?_
            refine DL.skip (i := 35) (by kernel_rfl) (by kernel_rfl) rfl rfl rfl ?_
            refine DL.skip (i := 36) (by kernel_rfl) (by kernel_rfl) rfl rfl rfl ?_
            refine DL.skip (i := 37) (by kernel_rfl) (by kernel_rfl) rfl rfl rfl ?_
            refine DL.pure (i := 38) (by kernel_rfl) (by kernel_rfl) rfl rfl rfl (OpP.pickF rfl rfl) ?_
            refine DL.pure (i := 39) (by kernel_rfl) (by kernel_rfl) rfl rfl rfl (OpP.assign rfl) ?_
            refine DL.done (by kernel_rfl) ?_
            refine J.seq ?_
            refine J.region ?_
            refine JL.read rfl rfl (OpR.loadN rfl (Cells.full (.tail (.tail (.tail .head)))) (hdC_len (by first | assumption | exact Go.Proofs.B.shaB_length _ _ | solve_by_elim))) ?_
            refine JL.pure rfl rfl (OpP.move rfl) ?_
            refine JL.pure rfl rfl (OpP.move rfl) ?_
            refine JL.read rfl rfl (OpR.loadN (n := 34) rfl (Cells.full (.tail (.tail .head))) (by rw [List.length_append, hdC_len (by first | assumption | exact Go.Proofs.B.shaB_length _ _ | solve_by_elim)]; rfl)) ?_
            refine JL.step rfl rfl (OpW.call (first := []) (captured := []) inferInstance rfl rfl (Proves_ok (lr := [120]) hK hl hl2 hn hrl hm1 (by omega) hpl (RdO.ofRdo (.tail .head) (by first | exact Nat.le_refl _ | decide | omega)) (hp.conv (fun _ h => h.none)))) ?_; rintro r102 _ ⟨rfl, rfl⟩
            refine JL.pure rfl rfl (OpP.move rfl) ?_
            refine JL.dec rfl rfl (OpP.eqBool rfl rfl) (fun h104 => ?_) (fun h104 => ?_)
            focus
              refine JL.pure rfl rfl (OpP.assign rfl) ?_
              refine JL.nil ?_
              refine J.ret1 rfl rfl ?_
            rotate_left 1
            focus
              refine JL.pure rfl rfl (OpP.assign rfl) ?_
              refine JL.nil ?_
              refine J.ret1 rfl rfl ?_
            rotate_left 1
          rotate_left 2
        rotate_left 8
        focus
          refine DL.pure (i := 5) (by kernel_rfl) (by kernel_rfl) rfl rfl rfl (OpP.move rfl) ?_
          refine DL.skip (i := 6) (by kernel_rfl) (by kernel_rfl) rfl rfl rfl ?_
          refine DL.skip (i := 7) (by kernel_rfl) (by kernel_rfl) rfl rfl rfl ?_
          refine DL.skip (i := 8) (by kernel_rfl) (by kernel_rfl) rfl rfl rfl ?_
          refine DL.skip (i := 9) (by kernel_rfl) (by kernel_rfl) rfl rfl rfl ?_
          refine DL.pure (i := 10) (by kernel_rfl) (by kernel_rfl) rfl rfl rfl (OpP.pickF rfl rfl) ?_
          refine DL.pure (i := 11) (by kernel_rfl) (by kernel_rfl) rfl rfl rfl (OpP.move rfl) ?_
          refine DL.skip (i := 12) (by kernel_rfl) (by kernel_rfl) rfl rfl rfl ?_
          refine DL.skip (i := 13) (by kernel_rfl) (by kernel_rfl) rfl rfl rfl ?_
          refine DL.skip (i := 14) (by kernel_rfl) (by kernel_rfl) rfl rfl rfl ?_
          refine DL.skip (i := 15) (by kernel_rfl) (by kernel_rfl) rfl rfl rfl ?_
          refine DL.skip (i := 16) (by kernel_rfl) (by kernel_rfl) rfl rfl rfl ?_
          refine DL.skip (i := 17) (by kernel_rfl) (by kernel_rfl) rfl rfl rfl ?_
          refine DL.skip (i := 18) (by kernel_rfl) (by kernel_rfl) rfl rfl rfl ?_
          refine DL.skip (i := 19) (by kernel_rfl) (by kernel_rfl) rfl rfl rfl ?_
          refine DL.pure (i := 20) (by kernel_rfl) (by kernel_rfl) rfl rfl rfl (OpP.pickF rfl rfl) ?_
          refine DL.pure (i := 21) (by kernel_rfl) (by kernel_rfl) rfl rfl rfl (OpP.move rfl) ?_
          refine DL.skip (i := 22) (by kernel_rfl) (by kernel_rfl) rfl rfl rfl ?_
          refine DL.skip (i := 23) (by kernel_rfl) (by kernel_rfl) rfl rfl rfl ?_
          refine DL.skip (i := 24) (by kernel_rfl) (by kernel_rfl) rfl rfl rfl ?_
          refine DL.skip (i := 25) (by kernel_rfl) (by kernel_rfl) rfl rfl rfl ?_
          refine DL.pure (i := 26) (by kernel_rfl) (by kernel_rfl) rfl rfl rfl (OpP.pickF rfl rfl) ?_
          refine DL.pure (i := 27) (by kernel_rfl) (by kernel_rfl) rfl rfl rfl (OpP.move rfl) ?_
          refine DL.skip (i := 28) (by kernel_rfl) (by kernel_rfl) rfl rfl rfl ?_
          refine DL.skip (i := 29) (by kernel_rfl) (by kernel_rfl) rfl rfl rfl ?_
          refine DL.skip (i := 30) (by kernel_rfl) (by kernel_rfl) rfl rfl rfl ?_
          refine DL.skip (i := 31) (by kernel_rfl) (by kernel_rfl) rfl rfl rfl ?_
          refine DL.skip (i := 32) (by kernel_rfl) (by kernel_rfl) rfl rfl rfl ?_
          refine DL.skip (i := 33) (by kernel_rfl) (by kernel_rfl) rfl rfl rfl ?_
          refine DL.skip (i := 34) (by kernel_rfl) (by kernel_rfl) rfl rfl rfl ?_
          refine DL.skip (i := 35) (by kernel_rfl) (by kernel_rfl) rfl rfl rfl ?_
          refine DL.skip (i := 36) (by kernel_rfl) (by kernel_rfl) rfl rfl rfl ?_
          refine DL.skip (i := 37) (by kernel_rfl) (by kernel_rfl) rfl rfl rfl ?_
          refine DL.pure (i := 38) (by kernel_rfl) (by kernel_rfl) rfl rfl rfl (OpP.pickF rfl rfl) ?_
          refine DL.pure (i := 39) (by kernel_rfl) (by kernel_rfl) rfl rfl rfl (OpP.assign rfl) ?_
          refine DL.done (by kernel_rfl) ?_
          refine J.seq ?_
          refine J.region ?_
          refine JL.read rfl rfl (OpR.loadN rfl (Cells.full (.tail (.tail (.tail .head)))) (hdC_len (by first | assumption | exact Go.Proofs.B.shaB_length _ _ | solve_by_elim))) ?_
          refine JL.pure rfl rfl (OpP.move rfl) ?_
          refine JL.pure rfl rfl (OpP.move rfl) ?_
          refine JL.read rfl rfl (OpR.loadN (n := 34) rfl (Cells.full (.tail (.tail .head))) (by rw [List.length_append, hdC_len (by first | assumption | exact Go.Proofs.B.shaB_length _ _ | solve_by_elim)]; rfl)) ?_
          refine JL.step rfl rfl (OpW.call (first := []) (captured := []) inferInstance rfl rfl (Proves_ok (lr := [120]) hK hl hl2 hn hrl hm1 (by omega) hpl (RdO.ofRdo (.tail .head) (by first | exact Nat.le_refl _ | decide | omega)) (hp.conv (fun _ h => h.none)))) ?_; rintro r102 _ ⟨rfl, rfl⟩
          refine JL.pure rfl rfl (OpP.move rfl) ?_
          refine JL.dec rfl rfl (OpP.eqBool rfl rfl) (fun h104 => ?_) (fun h104 => ?_)
          focus
            refine JL.pure rfl rfl (OpP.assign rfl) ?_
            refine JL.nil ?_
            refine J.ret1 rfl rfl ?_
          rotate_left 1
          focus
            refine JL.pure rfl rfl (OpP.assign rfl) ?_
            refine JL.nil ?_
            refine J.ret1 rfl rfl ?_
          rotate_left 1
        rotate_left 2
        all_goals first
          | rfl
          | exact absurd (decide_eq_true (key.2 ⟨by assumption, strB_inj.1 (by assumption), Eq.symm (by assumption), Eq.symm (by assumption)⟩)) h104
          | exact absurd (decide_eq_false fun q => absurd (key.1 q).1 (by assumption)) h104
          | exact absurd (decide_eq_false fun q => absurd (strB_inj.2 (key.1 q).2.1) (by assumption)) h104
          | exact absurd (decide_eq_false fun q => absurd (key.1 q).2.2.1.symm (by assumption)) h104
          | exact absurd (decide_eq_false fun q => absurd (key.1 q).2.2.2.symm (by assumption)) h104
  · refine J.seq ?_
    refine J.region ?_
    refine JL.mem rfl rfl (OpM.box rfl rfl) ?_; rintro _ _ ⟨b3, rfl, rfl⟩
    refine JL.mem rfl rfl (OpM.box rfl rfl) ?_; rintro _ _ ⟨b5, rfl, rfl⟩
    refine JL.pure rfl rfl (OpP.assign rfl) ?_
    refine JL.nil ?_
    refine J.seq ?_
    refine J.region ?_
    refine JL.mem rfl rfl (by apply OpM.buildSlice (by rfl) rfl (by rfl); (repeat (first | exact Fills.nil | (apply Fills.cons rfl rfl rfl; (case' hs => ((repeat (first | exact Spl.nil | apply Spl.here | apply Spl.there)); done)))))) ?_; rintro _ _ ⟨b11, rfl, rfl⟩
    refine JL.mem rfl rfl (OpM.bytesMark rfl .head) ?_; rintro _ _ ⟨rfl, rfl⟩
    refine JL.pure rfl rfl (OpP.assign rfl) ?_
    refine JL.nil ?_
    refine J.seq ?_
    refine J.seq ?_
    refine J.region ?_
    refine JL.pure rfl rfl (OpP.fieldAddr rfl) ?_
    refine JL.read rfl rfl (OpR.load1 rfl (Cell.pf2 (.tail .head) (by first | assumption | exact Go.Proofs.B.shaB_length _ _ | solve_by_elim))) ?_
    refine JL.pure rfl rfl (OpP.len rfl rfl) ?_
    refine JL.decF rfl rfl (OpP.gtr rfl rfl) (by omega) ?_
    refine JL.pure rfl rfl (OpP.move rfl) ?_
    refine JL.skip rfl rfl ?_
    refine JL.skip rfl rfl ?_
    refine JL.skip rfl rfl ?_
    refine JL.skip rfl rfl ?_
    refine JL.pure rfl rfl (OpP.pickF rfl rfl) ?_
    refine JL.nil ?_
    refine J.condF rfl ?_
    refine J.skip ?_
    refine J.seq ?_
    refine J.seq ?_
    refine J.region ?_
    refine JL.step rfl rfl (OpW.call (first := []) (captured := []) inferInstance rfl rfl (hA _)) ?_; rintro r27 _ ⟨rfl, rfl⟩
    refine JL.pure rfl rfl (OpP.notB rfl) ?_
    refine JL.pure rfl rfl (OpP.move rfl) ?_
    refine JL.pure rfl rfl (OpP.fieldAddr rfl) ?_
    refine JL.read rfl rfl (OpR.load1 rfl (Cell.pf2 (.tail .head) (by first | assumption | exact Go.Proofs.B.shaB_length _ _ | solve_by_elim))) ?_
    refine JL.step rfl rfl (OpW.call (first := []) (captured := []) inferInstance rfl rfl (Few5_ok (m := 12) (most := 400) (by omega) (by omega) hpl (hp.conv (fun _ h => h.none)))) ?_; rintro r32 _ ⟨b, ⟨rfl, ⟨rfl, h32⟩⟩⟩
    refine JL.pure rfl rfl (OpP.notB rfl) ?_
    refine JL.pure rfl rfl (OpP.pickF rfl rfl) ?_
    refine JL.pure rfl rfl (OpP.move rfl) ?_
    refine JL.splitAt 35 rfl (fun h35 => ?_) (fun h35 => ?_)
    focus
      refine JL.skip rfl rfl ?_
      refine JL.skip rfl rfl ?_
      refine JL.skip rfl rfl ?_
      refine JL.skip rfl rfl ?_
      refine JL.pure rfl rfl (OpP.pickT rfl rfl) ?_
      refine JL.nil ?_
      refine J.condT rfl ?_
      refine J.seq ?_
      refine J.region ?_
      refine JL.step rfl rfl (OpW.call (first := []) (captured := []) inferInstance rfl rfl (hA _)) ?_; rintro r41 _ ⟨rfl, rfl⟩
      refine JL.pure rfl rfl (OpP.assign rfl) ?_
      refine JL.nil ?_
      refine J.ret1 rfl rfl ?_
    rotate_left 1
    focus
      refine JL.pure rfl rfl (OpP.fieldAddr rfl) ?_
      refine JL.pure rfl rfl (OpP.fieldAddr rfl) ?_
      refine JL.read rfl rfl (OpR.load1 rfl (Cell.pf1 (.tail .head) (by first | assumption | exact Go.Proofs.B.shaB_length _ _ | solve_by_elim))) ?_
      refine JL.dec rfl rfl (OpP.gtr rfl rfl) (fun h39 => ?_) (fun h39 => ?_)
      focus
        refine JL.pure rfl rfl (OpP.pickF rfl rfl) ?_
        refine JL.nil ?_
        refine J.condT rfl ?_
        refine J.seq ?_
        refine J.region ?_
        refine JL.step rfl rfl (OpW.call (first := []) (captured := []) inferInstance rfl rfl (hA _)) ?_; rintro r41 _ ⟨rfl, rfl⟩
        refine JL.pure rfl rfl (OpP.assign rfl) ?_
        refine JL.nil ?_
        refine J.ret1 rfl rfl ?_
      rotate_left 1
      focus
        refine JL.pure rfl rfl (OpP.pickF rfl rfl) ?_
        refine JL.nil ?_
        refine J.condF rfl ?_
        refine J.skip ?_
        refine J.seq ?_
        refine J.region ?_
        refine JL.pure rfl rfl (OpP.fieldAddr rfl) ?_
        refine JL.pure rfl rfl (OpP.fieldAddr rfl) ?_
        refine JL.read rfl rfl (OpR.loadN rfl (Cells.pfH (.tail .head) (by first | assumption | exact Go.Proofs.B.shaB_length _ _ | solve_by_elim)) (by rw [bcells_length]; exact (by first | assumption | exact Go.Proofs.B.shaB_length _ _ | solve_by_elim))) ?_
        refine JL.mem rfl rfl OpM.alloc ?_; rintro _ _ ⟨b8, rfl, rfl⟩
        refine JL.mem0 rfl (by apply OpM.storeN rfl rfl (by rw [bcells_length]; first | assumption | exact Go.Proofs.B.shaB_length _ _ | solve_by_elim) (bcells_one _); (case' hu => exact .head); (case' hs => exact spl_all (by first | (rw [bcells_length, List.length_replicate]; first | assumption | exact Go.Proofs.B.shaB_length _ _ | solve_by_elim) | (rw [bcells_length, bcells_length]; refine Eq.trans (b := 32) ?_ (Eq.symm ?_) <;> (first | assumption | exact Go.Proofs.B.shaB_length _ _ | solve_by_elim)) | (rw [bcells_length]; first | assumption | exact Go.Proofs.B.shaB_length _ _ | solve_by_elim))); done) ?_; rintro _ _ ⟨rfl, rfl⟩
        refine JL.nil ?_
        refine J.seq ?_
        refine J.seq ?_
        refine J.region ?_
        refine JL.pure rfl rfl (OpP.assign rfl) ?_
        refine JL.nil ?_
        refine J.block ?_
      rotate_left 1
    rotate_left 2
    · rfl
    · rfl
    · obtain ⟨hm, hn12⟩ := h32 (by cases b <;> first | rfl | cases h35)
      have hrl : ∀ p ∈ ps, p.2.length ≤ 80000 := fun p hp => by have := recs_le p hp; omega
      refine J.loopI (fun i : Nat => ps.length - i) (fun i => i ≤ ps.length) (fun i => [(9, .int .i64 (i : Nat)), (8, .pointer (some ⟨b8, 0, none⟩)), (7, .slice (some ⟨b11, 0, none⟩) 1 1), (5, .pointer (some ⟨b5, 0, none⟩)), (3, .pointer (some ⟨b3, 0, none⟩)), (1, .int .i64 place)])
        (fun i => [row b8 26 (bcells (hsh K h2 (recs (ps.take i)))), rdo b11 5 (bcells [120]), row b5 63 (hdC h2 m ++ [Value.slice pa ps.length pc]), row b3 55 (hdC h n)]) 0 (Nat.zero_le _) (by repeat (first | exact SubEnv.nil | refine SubEnv.cons (by first | rfl | exact congrArg (fun z => some (Value.int .i64 z)) (by omega) | (simp; done)) ?_)) (fun _ h => h) (fun i hi back => ?_)
      dsimp only at hi back ⊢
      by_cases hlt : i < ps.length
      · obtain ⟨pa1, pc1, p, hpi1, hpv1, hpr1⟩ := hp.at hlt
        have hct := recs_take hpi1
        have hpl2 : p.length ≤ 80000 := hrl _ (List.mem_of_getElem? hpi1)
        have hhi := hsh_len (K := K) hl2 (recs (ps.take i))
        have hsn := hsh_snoc K h2 (recs (ps.take i)) p
        rw [← hct] at hsn
        refine J.seq ?_
        refine J.seq ?_
        refine J.region ?_
        refine JL.pure rfl rfl (OpP.move rfl) ?_
        refine JL.pure rfl rfl (OpP.fieldAddr rfl) ?_
        refine JL.read rfl rfl (OpR.load1 rfl (Cell.pf2 (.tail (.tail .head)) (by first | assumption | exact Go.Proofs.B.shaB_length _ _ | solve_by_elim))) ?_
        refine JL.pure rfl rfl (OpP.len rfl rfl) ?_
        refine JL.decT rfl rfl (OpP.lss rfl rfl) (by omega) ?_
        refine JL.nil ?_
        refine J.condT rfl ?_
        refine J.skip ?_
        refine J.seq ?_
        refine J.block ?_
        refine J.regionD [0, 2, 5] (by kernel_rfl) ?_
        refine DL.read (i := 0) (by kernel_rfl) (by kernel_rfl) rfl rfl rfl (fun _ h => h) (OpR.loadN rfl (Cells.full .head) (by rw [bcells_length]; first | assumption | exact Go.Proofs.B.shaB_length _ _ | solve_by_elim)) ?_
        refine DL.pure (i := 1) (by kernel_rfl) (by kernel_rfl) rfl rfl rfl (OpP.fieldAddr rfl) ?_
        refine DL.read (i := 2) (by kernel_rfl) (by kernel_rfl) rfl rfl rfl (fun _ h => h) (OpR.load1 rfl (Cell.pf2 (.tail (.tail .head)) (by first | assumption | exact Go.Proofs.B.shaB_length _ _ | solve_by_elim))) ?_
        refine DL.pure (i := 3) (by kernel_rfl) (by kernel_rfl) rfl rfl rfl (OpP.move rfl) ?_
        obtain ⟨gpa, ppa, qpa, epa, kpa, cpa⟩ := hp1.pos (by omega); cases epa
        refine DL.pure (i := 4) (by kernel_rfl) (by kernel_rfl) rfl rfl rfl (OpP.indexAddr rfl rfl (by omega) (by omega)) ?_
        refine DL.read (i := 5) (by kernel_rfl) (by kernel_rfl) rfl rfl rfl (fun _ h => h) (OpR.load1 rfl (by apply Cells.cell cpa (fun _ h => h.none); (case' hv => assumption); (case' ho => omega); done)) ?_
        refine DL.only (i := 6) (by kernel_rfl) ?_
        refine DL1.stepF rfl rfl rfl (by kernel_rfl) (by exact OpW.call (first := []) (captured := []) inferInstance rfl rfl (RefLink_ok hK2 (by assumption) hpl2 (hpr1.conv fun _ h => h.none))) ?_; rintro r58 _ ⟨rfl, rfl⟩
        refine DL.only (i := 7) (by kernel_rfl) ?_
        refine DL1.stepF0 rfl rfl (by kernel_rfl) (OpM.w (by apply OpM.storeN rfl rfl (by rw [bcells_length]; first | assumption | exact Go.Proofs.B.shaB_length _ _ | solve_by_elim) (bcells_one _); (case' hu => exact .head); (case' hs => exact spl_all (by first | (rw [bcells_length, List.length_replicate]; first | assumption | exact Go.Proofs.B.shaB_length _ _ | solve_by_elim) | (rw [bcells_length, bcells_length]; refine Eq.trans (b := 32) ?_ (Eq.symm ?_) <;> (first | assumption | exact Go.Proofs.B.shaB_length _ _ | solve_by_elim)) | (rw [bcells_length]; first | assumption | exact Go.Proofs.B.shaB_length _ _ | solve_by_elim))); done)) ?_; rintro _ _ ⟨rfl, rfl⟩
        refine DL.done (by kernel_rfl) ?_
        refine J.inBlock ?_
        refine J.region ?_
        refine JL.pure rfl rfl (OpP.move rfl) ?_
        refine JL.pure rfl rfl (OpP.addI rfl rfl (by omega) (by omega)) ?_
        refine JL.pure rfl rfl (OpP.assign rfl) ?_
        refine JL.nil ?_
        refine back (i + 1) (by omega) (by omega) (by repeat (first | exact SubEnv.nil | refine SubEnv.cons (by first | rfl | exact congrArg (fun z => some (Value.int .i64 z)) (by omega) | (simp; done)) ?_)) (fun _ h => ?_)
        rw [hsn]
        exact h
      · have : i = ps.length := by omega
        subst this
        rw [List.take_length]
        have hhl := hsh_len (K := K) hl2 (recs ps)
        have key : ¬ Told K h n place ([120]) h2 m (recs ps) := by
          rw [Told, show recs ps = [] by rw [List.eq_nil_of_length_eq_zero (show ps.length = 0 by omega)]; rfl]
          intro q
          cases q.2.1
        refine J.seq ?_
        refine J.seq ?_
        refine J.region ?_
        refine JL.pure rfl rfl (OpP.move rfl) ?_
        refine JL.pure rfl rfl (OpP.fieldAddr rfl) ?_
        refine JL.read rfl rfl (OpR.load1 rfl (Cell.pf2 (.tail (.tail .head)) (by first | assumption | exact Go.Proofs.B.shaB_length _ _ | solve_by_elim))) ?_
        refine JL.pure rfl rfl (OpP.len rfl rfl) ?_
        refine JL.decF rfl rfl (OpP.lss rfl rfl) (by omega) ?_
        refine JL.nil ?_
        refine J.condF rfl ?_
        refine J.exit rfl ?_
        refine J.seq ?_
        refine J.regionD [2, 7, 13, 15, 16, 18, 23, 24, 29, 32, 34] (by kernel_rfl) ?_
        refine DL.pure (i := 0) (by kernel_rfl) (by kernel_rfl) rfl rfl rfl (OpP.fieldAddr rfl) ?_
        refine DL.pure (i := 1) (by kernel_rfl) (by kernel_rfl) rfl rfl rfl (OpP.fieldAddr rfl) ?_
        refine DL.read (i := 2) (by kernel_rfl) (by kernel_rfl) rfl rfl rfl (fun _ h => h) (OpR.load1 rfl (Cell.pf1 (.tail (.tail .head)) (by first | assumption | exact Go.Proofs.B.shaB_length _ _ | solve_by_elim))) ?_
        refine DL.pure (i := 3) (by kernel_rfl) (by kernel_rfl) rfl rfl rfl (OpP.move rfl) ?_
        refine DL.dec (i := 4) (by kernel_rfl) (by kernel_rfl) rfl rfl rfl (OpP.eql rfl rfl) (fun h63 => ?_) (fun h63 => ?_)
        focus
          refine DL.pure (i := 5) (by kernel_rfl) (by kernel_rfl) rfl rfl rfl (OpP.move rfl) ?_
          refine DL.pure (i := 6) (by kernel_rfl) (by kernel_rfl) rfl rfl rfl (OpP.fieldAddr rfl) ?_
          refine DL.read (i := 7) (by kernel_rfl) (by kernel_rfl) rfl rfl rfl (fun _ h => h) (OpR.load1 rfl (Cell.pf2 (.tail (.tail .head)) (by first | assumption | exact Go.Proofs.B.shaB_length _ _ | solve_by_elim))) ?_
          refine DL.pure (i := 8) (by kernel_rfl) (by kernel_rfl) rfl rfl rfl (OpP.len rfl rfl) ?_
          refine DL.decF (i := 9) (by kernel_rfl) (by kernel_rfl) rfl rfl rfl (OpP.gtr rfl rfl) (by omega) ?_
          refine DL.pure (i := 10) (by kernel_rfl) (by kernel_rfl) rfl rfl rfl (OpP.pickT rfl rfl) ?_
          refine DL.pure (i := 11) (by kernel_rfl) (by kernel_rfl) rfl rfl rfl (OpP.move rfl) ?_
          refine DL.skip (i := 12) (by kernel_rfl) (by kernel_rfl) rfl rfl rfl ?_
          refine DL.skip (i := 13) (by kernel_rfl) (by kernel_rfl) rfl rfl rfl ?_
          refine DL.skip (i := 14) (by kernel_rfl) (by kernel_rfl) rfl rfl rfl ?_
          refine DL.skip (i := 15) (by kernel_rfl) (by kernel_rfl) rfl rfl rfl ?_
          refine DL.skip (i := 16) (by kernel_rfl) (by kernel_rfl) rfl rfl rfl ?_
          refine DL.skip (i := 17) (by kernel_rfl) (by kernel_rfl) rfl rfl rfl ?_
          refine DL.skip (i := 18) (by kernel_rfl) (by kernel_rfl) rfl rfl rfl ?_
          refine DL.skip (i := 19) (by kernel_rfl) (by kernel_rfl) rfl rfl rfl ?_
          refine DL.pure (i := 20) (by kernel_rfl) (by kernel_rfl) rfl rfl rfl (OpP.pickF rfl rfl) ?_
          refine DL.pure (i := 21) (by kernel_rfl) (by kernel_rfl) rfl rfl rfl (OpP.move rfl) ?_
          refine DL.skip (i := 22) (by kernel_rfl) (by kernel_rfl) rfl rfl rfl ?_
          refine DL.skip (i := 23) (by kernel_rfl) (by kernel_rfl) rfl rfl rfl ?_
          refine DL.skip (i := 24) (by kernel_rfl) (by kernel_rfl) rfl rfl rfl ?_
          refine DL.skip (i := 25) (by kernel_rfl) (by kernel_rfl) rfl rfl rfl ?_
          refine DL.pure (i := 26) (by kernel_rfl) (by kernel_rfl) rfl rfl rfl (OpP.pickF rfl rfl) ?_
          refine DL.pure (i := 27) (by kernel_rfl) (by kernel_rfl) rfl rfl rfl (OpP.move rfl) ?_
          refine DL.skip (i := 28) (by kernel_rfl) (by kernel_rfl) rfl rfl rfl ?_
          refine DL.skip (i := 29) (by kernel_rfl) (by kernel_rfl) rfl rfl rfl ?_
          refine DL.skip (i := 30) (by kernel_rfl) (by kernel_rfl) rfl rfl rfl ?_
          refine DL.skip (i := 31) (by kernel_rfl) (by kernel_rfl) rfl rfl rfl ?_
          refine DL.skip (i := 32) (by kernel_rfl) (by kernel_rfl) rfl rfl rfl ?_
          refine DL.skip (i := 33) (by kernel_rfl) (by kernel_rfl) rfl rfl rfl ?_
          refine DL.skip (i := 34) (by kernel_rfl) (by kernel_rfl) rfl rfl rfl ?_
          refine DL.skip (i := 35) (by kernel_rfl) (by kernel_rfl) rfl rfl rfl ?_
          refine DL.skip (i := 36) (by kernel_rfl) (by kernel_rfl) rfl rfl rfl ?_
          refine DL.skip (i := 37) (by kernel_rfl) (by kernel_rfl) rfl rfl rfl ?_
          refine DL.pure (i := 38) (by kernel_rfl) (by kernel_rfl) rfl rfl rfl (OpP.pickF rfl rfl) ?_
          refine DL.pure (i := 39) (by kernel_rfl) (by kernel_rfl) rfl rfl rfl (OpP.assign rfl) ?_
          refine DL.done (by kernel_rfl) ?_
          refine J.seq ?_
          refine J.region ?_
          refine JL.read rfl rfl (OpR.loadN rfl (Cells.full (.tail (.tail (.tail .head)))) (hdC_len (by first | assumption | exact Go.Proofs.B.shaB_length _ _ | solve_by_elim))) ?_
          refine JL.pure rfl rfl (OpP.move rfl) ?_
          refine JL.pure rfl rfl (OpP.move rfl) ?_
          refine JL.read rfl rfl (OpR.loadN (n := 34) rfl (Cells.full (.tail (.tail .head))) (by rw [List.length_append, hdC_len (by first | assumption | exact Go.Proofs.B.shaB_length _ _ | solve_by_elim)]; rfl)) ?_
          refine JL.step rfl rfl (OpW.call (first := []) (captured := []) inferInstance rfl rfl (Proves_ok (lr := [120]) hK hl hl2 hn hrl hm1 (by omega) hpl (RdO.ofRdo (.tail .head) (by first | exact Nat.le_refl _ | decide | omega)) (hp.conv (fun _ h => h.none)))) ?_; rintro r102 _ ⟨rfl, rfl⟩
          refine JL.pure rfl rfl (OpP.move rfl) ?_
          refine JL.dec rfl rfl (OpP.eqBool rfl rfl) (fun h104 => ?_) (fun h104 => ?_)
          focus
            refine JL.pure rfl rfl (OpP.assign rfl) ?_
            refine JL.nil ?_
            refine J.ret1 rfl rfl ?_
          rotate_left 1
          focus
            refine JL.pure rfl rfl (OpP.assign rfl) ?_
            refine JL.nil ?_
            refine J.ret1 rfl rfl ?_
          rotate_left 1
        rotate_left 2
        focus
          refine DL.pure (i := 5) (by kernel_rfl) (by kernel_rfl) rfl rfl rfl (OpP.move rfl) ?_
          refine DL.skip (i := 6) (by kernel_rfl) (by kernel_rfl) rfl rfl rfl ?_
          refine DL.skip (i := 7) (by kernel_rfl) (by kernel_rfl) rfl rfl rfl ?_
          refine DL.skip (i := 8) (by kernel_rfl) (by kernel_rfl) rfl rfl rfl ?_
          refine DL.skip (i := 9) (by kernel_rfl) (by kernel_rfl) rfl rfl rfl ?_
          refine DL.pure (i := 10) (by kernel_rfl) (by kernel_rfl) rfl rfl rfl (OpP.pickF rfl rfl) ?_
          refine DL.pure (i := 11) (by kernel_rfl) (by kernel_rfl) rfl rfl rfl (OpP.move rfl) ?_
          refine DL.skip (i := 12) (by kernel_rfl) (by kernel_rfl) rfl rfl rfl ?_
          refine DL.skip (i := 13) (by kernel_rfl) (by kernel_rfl) rfl rfl rfl ?_
          refine DL.skip (i := 14) (by kernel_rfl) (by kernel_rfl) rfl rfl rfl ?_
          refine DL.skip (i := 15) (by kernel_rfl) (by kernel_rfl) rfl rfl rfl ?_
          refine DL.skip (i := 16) (by kernel_rfl) (by kernel_rfl) rfl rfl rfl ?_
          refine DL.skip (i := 17) (by kernel_rfl) (by kernel_rfl) rfl rfl rfl ?_
          refine DL.skip (i := 18) (by kernel_rfl) (by kernel_rfl) rfl rfl rfl ?_
          refine DL.skip (i := 19) (by kernel_rfl) (by kernel_rfl) rfl rfl rfl ?_
          refine DL.pure (i := 20) (by kernel_rfl) (by kernel_rfl) rfl rfl rfl (OpP.pickF rfl rfl) ?_
          refine DL.pure (i := 21) (by kernel_rfl) (by kernel_rfl) rfl rfl rfl (OpP.move rfl) ?_
          refine DL.skip (i := 22) (by kernel_rfl) (by kernel_rfl) rfl rfl rfl ?_
          refine DL.skip (i := 23) (by kernel_rfl) (by kernel_rfl) rfl rfl rfl ?_
          refine DL.skip (i := 24) (by kernel_rfl) (by kernel_rfl) rfl rfl rfl ?_
          refine DL.skip (i := 25) (by kernel_rfl) (by kernel_rfl) rfl rfl rfl ?_
          refine DL.pure (i := 26) (by kernel_rfl) (by kernel_rfl) rfl rfl rfl (OpP.pickF rfl rfl) ?_
          refine DL.pure (i := 27) (by kernel_rfl) (by kernel_rfl) rfl rfl rfl (OpP.move rfl) ?_
          refine DL.skip (i := 28) (by kernel_rfl) (by kernel_rfl) rfl rfl rfl ?_
          refine DL.skip (i := 29) (by kernel_rfl) (by kernel_rfl) rfl rfl rfl ?_
          refine DL.skip (i := 30) (by kernel_rfl) (by kernel_rfl) rfl rfl rfl ?_
          refine DL.skip (i := 31) (by kernel_rfl) (by kernel_rfl) rfl rfl rfl ?_
          refine DL.skip (i := 32) (by kernel_rfl) (by kernel_rfl) rfl rfl rfl ?_
          refine DL.skip (i := 33) (by kernel_rfl) (by kernel_rfl) rfl rfl rfl ?_
          refine DL.skip (i := 34) (by kernel_rfl) (by kernel_rfl) rfl rfl rfl ?_
          refine DL.skip (i := 35) (by kernel_rfl) (by kernel_rfl) rfl rfl rfl ?_
          refine DL.skip (i := 36) (by kernel_rfl) (by kernel_rfl) rfl rfl rfl ?_
          refine DL.skip (i := 37) (by kernel_rfl) (by kernel_rfl) rfl rfl rfl ?_
          refine DL.pure (i := 38) (by kernel_rfl) (by kernel_rfl) rfl rfl rfl (OpP.pickF rfl rfl) ?_
          refine DL.pure (i := 39) (by kernel_rfl) (by kernel_rfl) rfl rfl rfl (OpP.assign rfl) ?_
          refine DL.done (by kernel_rfl) ?_
          refine J.seq ?_
          refine J.region ?_
          refine JL.read rfl rfl (OpR.loadN rfl (Cells.full (.tail (.tail (.tail .head)))) (hdC_len (by first | assumption | exact Go.Proofs.B.shaB_length _ _ | solve_by_elim))) ?_
          refine JL.pure rfl rfl (OpP.move rfl) ?_
          refine JL.pure rfl rfl (OpP.move rfl) ?_
          refine JL.read rfl rfl (OpR.loadN (n := 34) rfl (Cells.full (.tail (.tail .head))) (by rw [List.length_append, hdC_len (by first | assumption | exact Go.Proofs.B.shaB_length _ _ | solve_by_elim)]; rfl)) ?_
          refine JL.step rfl rfl (OpW.call (first := []) (captured := []) inferInstance rfl rfl (Proves_ok (lr := [120]) hK hl hl2 hn hrl hm1 (by omega) hpl (RdO.ofRdo (.tail .head) (by first | exact Nat.le_refl _ | decide | omega)) (hp.conv (fun _ h => h.none)))) ?_; rintro r102 _ ⟨rfl, rfl⟩
          refine JL.pure rfl rfl (OpP.move rfl) ?_
          refine JL.dec rfl rfl (OpP.eqBool rfl rfl) (fun h104 => ?_) (fun h104 => ?_)
          focus
            refine JL.pure rfl rfl (OpP.assign rfl) ?_
            refine JL.nil ?_
            refine J.ret1 rfl rfl ?_
          rotate_left 1
          focus
            refine JL.pure rfl rfl (OpP.assign rfl) ?_
            refine JL.nil ?_
            refine J.ret1 rfl rfl ?_
          rotate_left 1
        rotate_left 2
        all_goals first
          | rfl
          | exact absurd (decide_eq_false key) h104
end Go.Proofs.B

-- seat b
namespace Go.Proofs.B
open Go Go.Gp Go.RowKit

/-- A proof from outside. -/
theorem Fm.proof {w : World} {cs : List Value} (h : Fm Tryd.prog w 63 cs) : ∃ p n a c, ∃ ps : List (Value × List UInt8), p.length = 32 ∧ (Lit.int .i64 n).wf = true ∧ cs = hdC p n ++ [Value.slice a ps.length c] ∧ ps.length ≤ maxLen ∧ Parts w [] (.slice a ps.length c) ps := by
  have hf := h.fields (l := [(55, 33), (22, 1)]) (by kernel_rfl)
  obtain ⟨a1, cs', rfl, _, ha, hf1⟩ := hf.many
  obtain ⟨c, cs2, rfl, hc, hf2⟩ := hf1.one
  obtain ⟨p, n, hp, hn, rfl⟩ := Fm.head ha
  obtain ⟨ps, hl, _, hps⟩ := Fm.parts Tryd.underlying22 Tryd.underlying29 Tryd.underlying5 (by kernel_rfl) (by kernel_rfl) hc
  obtain ⟨a, c', rfl⟩ := hps.len (Own.nil w)
  have : cs2 = [] := hf2
  subst this
  exact ⟨p, n, a, c', ps, hp, hn, rfl, hl, hps⟩
theorem ChainTells_law {W : World} {cs ds : Array Value} {place : Int} (hK : Tab W 0 64 fun j => w32 (Kc j)) (hh : Fm Tryd.prog W 55 cs.toList) (_ : (Lit.int .i64 place).wf = true) (hd : Fm Tryd.prog W 63 ds.toList) :
    Calls Tryd.prog 10 #[.agg cs, .int .i64 place, .agg ds] W fun e w' => e = .returned (.bool true) ∧ Below W.heap.size W w' := by
  obtain ⟨h, n, hl, hn, e⟩ := Fm.head hh
  obtain ⟨h2, m, a, c, ps, hl2, hm, e2, hpl, hp⟩ := Fm.proof hd
  obtain rfl : cs = (hdC h n).toArray := by rw [← e]
  obtain rfl : ds = (hdC h2 m ++ [Value.slice a ps.length c]).toArray := by rw [← e2]
  have hm1 : -9223372036854775808 ≤ m := by simp [Lit.wf, IntKind.min, IntKind.max, IntKind.signed, IntKind.bits] at hm; omega
  have h9 := ChainTells_ok (place := place) (K := Kc) (awakeChain hK) hK hexKc hl hl2 hn hm1 hpl hp
  exact FnO.law h9 (Own.nil W)
end Go.Proofs.B

-- seat b
namespace Go.Proofs.B
open Go Go.Gp Go.RowKit

/-! Slices of bytes that are owned, in an owned slice. -/
def ownAll : List (Value × List UInt8) → HProp
  | [] => emp
  | q :: qs => star (own 5 1 q.1 q.2.length (bcells q.2)) (ownAll qs)
def ownP (r : Value) (qs : List (Value × List UInt8)) : HProp := star (own 29 1 r qs.length (qs.map (·.1))) (ownAll qs.reverse)
theorem ownAll_at {w0 w : World} {l : List HProp} {p : Value × List UInt8} : ∀ {rs : List (Value × List UInt8)}, p ∈ rs → Own w0 w (ownAll rs :: l) → Own w0 w [own 5 1 p.1 p.2.length (bcells p.2)]
  | [], h, _ => nomatch h
  | q :: rs, h, ho => by
    have ho := Own.star_out ho
    rcases List.mem_cons.1 h with rfl | h
    · exact ho.head
    · exact ownAll_at h ho.tail
theorem Parts.ofOwn {w0 : World} {F : List HProp} {r : Value} {qs : List (Value × List UInt8)} (hq : ∀ q ∈ qs, ∃ a c, q.1 = .slice a q.2.length c) : Parts w0 (ownP r qs :: F) r qs :=
  ⟨(RdO.own .head).conv fun _ h => (Own.star_out h).head, fun p hp => ⟨hq p hp, (RdO.own .head).conv fun _ h => ownAll_at (List.mem_reverse.2 hp) (Own.star_out h).tail⟩⟩
theorem Bclone_ok {w0 : World} {F : List HProp} {v : Value} {l : List UInt8} (hl : l.length ≤ 1000000) (hr : RdO w0 F v l.length (bcells l)) :
    FnO Tryd.prog w0 52 [v] F (fun r l' => (∃ a c, r = .slice a l.length c) ∧ l' = own 5 1 r l.length (bcells l) :: F) := by
  refine FnO.rdF (fun _ h => h) hr fun hr1 => ?_
  obtain ⟨a1, c1, rfl⟩ := hr1.lit
  have hbl : (bcells l).length = l.length * 1 := by rw [bcells_length]; omega
  refine FnO.weak ?_
  cases a1 with
  | none =>
    have h0 : l = [] := by
      rcases hr1 with ⟨a, c, h1, h2, _⟩ | ⟨b, o, c, h1, _⟩
      · exact List.eq_nil_of_length_eq_zero h2
      · cases h1
    subst h0
    refine FnO.intro (n := 8) Tryd.func52 rfl rfl rfl ?_
    refine J.seq ?_
    refine J.region ?_
    refine JL.pure rfl rfl (OpP.assign rfl) ?_
    refine JL.nil ?_
    refine J.seq ?_
    refine J.seq ?_
    refine J.region ?_
    refine JL.pure rfl rfl (OpP.move rfl) ?_
    refine JL.pure rfl rfl (OpP.eqSlNil rfl rfl) ?_
    refine JL.nil ?_
    refine J.condT rfl ?_
    refine J.seq ?_
    refine J.region ?_
    refine JL.pure rfl rfl (OpP.assign rfl) ?_
    refine JL.nil ?_
    refine J.ret1 rfl rfl ?_
    exact ⟨_, ⟨⟨none, 0, rfl⟩, rfl⟩, fun _ h => h.own_nil⟩
  | some a1 =>
    refine FnO.intro (n := 8) Tryd.func52 rfl rfl rfl ?_
    refine J.seq ?_
    refine J.region ?_
    refine JL.pure rfl rfl (OpP.assign rfl) ?_
    refine JL.nil ?_
    refine J.seq ?_
    refine J.seq ?_
    refine J.region ?_
    refine JL.pure rfl rfl (OpP.move rfl) ?_
    refine JL.pure rfl rfl (OpP.eqSlNil rfl rfl) ?_
    refine JL.nil ?_
    refine J.condF rfl ?_
    refine J.skip ?_
    refine J.seq ?_
    refine J.region ?_
    refine JL.mem rfl rfl (by apply OpM.buildSlice (by rfl) rfl (by rfl); (repeat (first | exact Fills.nil | (apply Fills.cons rfl rfl rfl; (case' hs => ((repeat (first | exact Spl.nil | apply Spl.here | apply Spl.there)); done)))))) ?_; rintro _ _ ⟨b5, rfl, rfl⟩
    refine JL.pure rfl rfl (OpP.move rfl) ?_
    refine JL.ownRow (n := 0) (sz := 1) (by decide) rfl ?_
    refine JL.mem rfl rfl (OpM.appendH0 rfl rfl (.inl ⟨_, Sl.und inferInstance⟩) (by rfl) rfl rfl (RdO.src (hr.conv fun _ h => Own.pick (pre := [_]) [] rfl h) (by first | assumption | exact fc_length _ _ | (simp; done) | (simp; omega))) (by first | exact bcells_one _ | exact scells_one _ | exact icells_one _ | assumption | exact fc_one fun _ => rfl) (by simp only [maxLen]; omega) (by omega)) ?_; rintro _ _ ⟨⟨a7, c7, rfl⟩, rfl⟩
    refine JL.pure rfl rfl (OpP.assign rfl) ?_
    refine JL.nil ?_
    refine J.ret1 rfl rfl ?_
    exact ⟨_, ⟨⟨_, _, rfl⟩, rfl⟩, fun _ h => h⟩
theorem Copied_ok {w0 : World} {F : List HProp} {v : Value} {ps : List (Value × List UInt8)} (hpl : ps.length ≤ 1000000) (hrl : ∀ p ∈ ps, p.2.length ≤ 80000) (hp : Parts w0 F v ps) :
    FnO Tryd.prog w0 42 [v] F (fun r l' => ∃ qs : List (Value × List UInt8), (∃ a c, r = .slice a qs.length c) ∧ recs qs = recs ps ∧ (∀ q ∈ qs, ∃ a c, q.1 = .slice a q.2.length c) ∧ l' = ownP r qs :: F) := by
  refine FnO.rdF (fun _ h => h) hp.rd fun hp0 => ?_
  obtain ⟨va, vc, rfl⟩ := hp0.lit
  refine FnO.weak ?_
  refine FnO.intro (n := 19) Tryd.func42 rfl rfl rfl ?_
  refine J.seq ?_
  refine J.region ?_
  refine JL.pure rfl rfl (OpP.assign rfl) ?_
  refine JL.nil ?_
  refine J.seq ?_
  refine J.region ?_
  refine JL.pure rfl rfl (OpP.assign rfl) ?_
  refine JL.nil ?_
  refine J.seq ?_
  refine J.seq ?_
  refine J.region ?_
  refine JL.pure rfl rfl (OpP.move rfl) ?_
  refine JL.pure rfl rfl (OpP.len rfl rfl) ?_
  refine JL.pure rfl rfl (OpP.move rfl) ?_
  refine JL.nil ?_
  refine J.block ?_
  refine J.loopI (fun x : Nat × Value × List (Value × List UInt8) => ps.length - x.1) (fun x => x.1 ≤ ps.length ∧ x.2.2.length = x.1 ∧ recs x.2.2 = recs (ps.take x.1) ∧ ∀ q ∈ x.2.2, ∃ a c, q.1 = .slice a q.2.length c) (fun x => [(8, .int .i64 (x.1 : Nat)), (7, .int .i64 (ps.length : Nat)), (6, .slice va ps.length vc), (3, x.2.1)])
    (fun x => own 29 1 x.2.1 x.1 (x.2.2.map (·.1)) :: ownAll x.2.2.reverse :: F) (0, .slice none 0 0, []) ⟨Nat.zero_le _, rfl, rfl, fun _ h => nomatch h⟩ (by repeat (first | exact SubEnv.nil | refine SubEnv.cons (by first | rfl | exact congrArg (fun z => some (Value.int .i64 z)) (by omega) | (simp; done)) ?_)) (fun _ h => h.emp_in.own_nil) (fun ⟨i, z, qs⟩ hi back => ?_)
  dsimp only at hi back ⊢
  obtain ⟨hi1, hi2, hi3, hi4⟩ := hi
  by_cases hlt : i < ps.length
  · obtain ⟨pa, pc, p, hpi, hpv, hpr⟩ := hp.at hlt
    have hct := recs_take hpi
    have hpl2 : p.length ≤ 1000000 := by have := hrl _ (List.mem_of_getElem? hpi); dsimp only at this; omega
    refine J.lit .head fun az cz ez => ?_; subst ez
    refine J.seq ?_
    refine J.region ?_
    refine JL.decT rfl rfl (OpP.lss rfl rfl) (by omega) ?_
    refine JL.nil ?_
    refine J.seq ?_
    refine J.condT rfl ?_
    refine J.skip ?_
    refine J.seq ?_
    refine J.block ?_
    refine J.seq ?_
    refine J.region ?_
    obtain ⟨gva, pva, qva, eva, kva, cva⟩ := hp0.pos (by omega); cases eva
    refine JL.pure rfl rfl (OpP.indexAddr rfl rfl (by omega) (by omega)) ?_
    refine JL.read rfl rfl (OpR.load1 rfl (by apply Cells.cell cva (fun _ h => Own.pick (pre := [_, _]) [] rfl h); (case' hv => assumption); (case' ho => omega); done)) ?_
    refine JL.pure rfl rfl (OpP.assign rfl) ?_
    refine JL.nil ?_
    refine J.region ?_
    refine JL.pure rfl rfl (OpP.move rfl) ?_
    refine JL.pure rfl rfl (OpP.move rfl) ?_
    refine JL.step rfl rfl (OpW.call (first := []) (captured := []) inferInstance rfl rfl (Bclone_ok hpl2 (hpr.conv fun _ h => Own.pick (pre := [_, _]) [] rfl h))) ?_; rintro r14 _ ⟨⟨a, ⟨c, rfl⟩⟩, rfl⟩
    refine JL.mem rfl rfl (by apply OpM.buildSlice (by rfl) rfl (by rfl); (repeat (first | exact Fills.nil | (apply Fills.cons rfl rfl rfl; (case' hs => ((repeat (first | exact Spl.nil | apply Spl.here | apply Spl.there)); done)))))) ?_; rintro _ _ ⟨b15, rfl, rfl⟩
    refine JL.f2 ?_; refine JL.mem rfl rfl (OpM.appendH rfl (.inl ⟨_, Sl.und inferInstance⟩) (by rfl) rfl rfl (RdO.src (RdO.ofRow (.tail .head) (by first | exact Nat.le_refl _ | decide | omega)) (by first | assumption | exact fc_length _ _ | (simp; done) | (simp; omega))) (one1 rfl) (by simp only [maxLen]; omega) (by omega)) ?_; rintro _ _ ⟨⟨a16, c16, rfl⟩, rfl⟩
    refine JL.pure rfl rfl (OpP.assign rfl) ?_
    refine JL.nil ?_
    refine J.inBlock ?_
    refine J.region ?_
    refine JL.pure rfl rfl (OpP.addI rfl rfl (by omega) (by omega)) ?_
    refine JL.pure rfl rfl (OpP.move rfl) ?_
    refine JL.nil ?_
    refine back (i + 1, .slice a16 (i + 1) c16, qs ++ [(.slice a p.length c, p)]) ⟨by dsimp only; omega, ?_, ?_, ?_⟩ (by dsimp only; omega) (by repeat (first | exact SubEnv.nil | refine SubEnv.cons (by first | rfl | exact congrArg (fun z => some (Value.int .i64 z)) (by omega) | (simp; done)) ?_)) (fun _ h => ?_)
    · dsimp only
      rw [List.length_append, hi2]; rfl
    · dsimp only
      rw [hct, ← hi3, recs, List.map_append]; rfl
    · dsimp only
      intro q hq
      rcases List.mem_append.1 hq with hq | hq
      · exact hi4 q hq
      · simp at hq; subst hq; exact ⟨_, _, rfl⟩
    · dsimp only at h ⊢
      have h := Own.star_in (Own.pick (pre := [_, _, _, _]) [2, 3, 0] rfl h)
      rw [List.map_append, List.reverse_append]
      exact Own.f1 h
  · have : i = ps.length := by omega
    subst this
    rw [List.take_length] at hi3
    refine J.lit .head fun az cz ez => ?_; subst ez
    refine J.seq ?_
    refine J.region ?_
    refine JL.decF rfl rfl (OpP.lss rfl rfl) (by omega) ?_
    refine JL.nil ?_
    refine J.seq ?_
    refine J.condF rfl ?_
    refine J.exit rfl ?_
    refine J.seq ?_
    refine J.region ?_
    refine JL.pure rfl rfl (OpP.move rfl) ?_
    refine JL.pure rfl rfl (OpP.assign rfl) ?_
    refine JL.nil ?_
    refine J.ret1 rfl rfl ?_
    refine ⟨_, ⟨qs, ⟨_, _, by rw [hi2]⟩, hi3, hi4, rfl⟩, fun _ h => Own.star_in ?_⟩
    rw [hi2]
    exact h
end Go.Proofs.B

-- seat b
namespace Go.Proofs.B
open Go Go.Gp Go.RowKit

theorem pf_one {h : List UInt8} {n : Int} {v : Value} (hv : v.oneCell' = true) : ∀ u ∈ hdC h n ++ [v], u.oneCell' = true := by
  intro u hu
  rcases List.mem_append.1 hu with hu | hu
  · exact hdC_one u hu
  · simp at hu; subst hu; exact hv
theorem Same_ok {w0 : World} {F : List HProp} {v1 v2 : Value} {ps1 ps2 : List (Value × List UInt8)} (hpl1 : ps1.length ≤ 9223372036854775807) (_ : ps2.length ≤ 9223372036854775807) (hp1 : Parts w0 F v1 ps1) (hp2 : Parts w0 F v2 ps2) :
    FnO Tryd.prog w0 33 [v1, v2] F (fun r l' => r = .bool (decide (recs ps1 = recs ps2)) ∧ l' = F) := by
  refine FnO.rdF (fun _ h => h) hp1.rd fun hr1 => ?_
  obtain ⟨va, vc, rfl⟩ := hr1.lit
  refine FnO.rdF (fun _ h => h) hp2.rd fun hr2 => ?_
  obtain ⟨ua, uc, rfl⟩ := hr2.lit
  refine FnO.intro (n := 28) Tryd.func33 rfl rfl rfl ?_
  by_cases hn : ps1.length = ps2.length
  · refine J.seq ?_
    refine J.region ?_
    refine JL.pure rfl rfl (OpP.assign rfl) ?_
    refine JL.nil ?_
    refine J.seq ?_
    refine J.seq ?_
    refine J.region ?_
    refine JL.pure rfl rfl (OpP.move rfl) ?_
    refine JL.pure rfl rfl (OpP.len rfl rfl) ?_
    refine JL.pure rfl rfl (OpP.move rfl) ?_
    refine JL.pure rfl rfl (OpP.len rfl rfl) ?_
    refine JL.decF rfl rfl (OpP.neq rfl rfl) (by omega) ?_
    refine JL.nil ?_
    refine J.condF rfl ?_
    refine J.skip ?_
    refine J.seq ?_
    refine J.seq ?_
    refine J.region ?_
    refine JL.pure rfl rfl (OpP.assign rfl) ?_
    refine JL.nil ?_
    refine J.block ?_
    refine J.loopI (fun i : Nat => ps1.length - i) (fun i => i ≤ ps1.length ∧ recs (ps1.take i) = recs (ps2.take i)) (fun i => [(5, .int .i64 (i : Nat)), (0, .slice va ps1.length vc), (1, .slice ua ps2.length uc)])
      (fun _ => F) 0 ⟨Nat.zero_le _, rfl⟩ (by repeat (first | exact SubEnv.nil | refine SubEnv.cons (by first | rfl | exact congrArg (fun z => some (Value.int .i64 z)) (by omega) | (simp; done)) ?_)) (fun _ h => h) (fun i hi back => ?_)
    dsimp only at hi back ⊢
    obtain ⟨hi1, hi2⟩ := hi
    by_cases hlt : i < ps1.length
    · obtain ⟨pa, pc, p, hpi, hpv, hpr⟩ := hp1.at hlt
      obtain ⟨qa, qc, q, hqi, hqv, hqr⟩ := hp2.at (hn ▸ hlt)
      have hct := recs_take hpi
      have hct2 := recs_take hqi
      have hrp : (recs ps1)[i]? = some p := by rw [recs, List.getElem?_map, hpi]; rfl
      have hrq : (recs ps2)[i]? = some q := by rw [recs, List.getElem?_map, hqi]; rfl
      refine J.seq ?_
      refine J.seq ?_
      refine J.region ?_
      refine JL.pure rfl rfl (OpP.move rfl) ?_
      refine JL.pure rfl rfl (OpP.move rfl) ?_
      refine JL.pure rfl rfl (OpP.len rfl rfl) ?_
      refine JL.decT rfl rfl (OpP.lss rfl rfl) (by omega) ?_
      refine JL.nil ?_
      refine J.condT rfl ?_
      refine J.skip ?_
      refine J.seq ?_
      refine J.block ?_
      refine J.seq ?_
      refine J.regionD [3, 4, 8, 9] (by kernel_rfl) ?_
      refine DL.pure (i := 0) (by kernel_rfl) (by kernel_rfl) rfl rfl rfl (OpP.move rfl) ?_
      refine DL.pure (i := 1) (by kernel_rfl) (by kernel_rfl) rfl rfl rfl (OpP.move rfl) ?_
      obtain ⟨gva, pva, qva, eva, kva, cva⟩ := hr1.pos (by omega); cases eva
      refine DL.pure (i := 2) (by kernel_rfl) (by kernel_rfl) rfl rfl rfl (OpP.indexAddr rfl rfl (by omega) (by omega)) ?_
      refine DL.read (i := 3) (by kernel_rfl) (by kernel_rfl) rfl rfl rfl (fun _ h => h) (OpR.load1 rfl (by apply Cells.cell cva (fun _ h => h); (case' hv => assumption); (case' ho => omega); done)) ?_
      refine DL.read (i := 4) (by kernel_rfl) (by kernel_rfl) rfl rfl rfl (fun _ h => h) (OpR.rdStr (by rfl) hpr (by rfl)) ?_
      refine DL.pure (i := 5) (by kernel_rfl) (by kernel_rfl) rfl rfl rfl (OpP.move rfl) ?_
      refine DL.pure (i := 6) (by kernel_rfl) (by kernel_rfl) rfl rfl rfl (OpP.move rfl) ?_
      obtain ⟨gua, pua, qua, eua, kua, cua⟩ := hr2.pos (by omega); cases eua
      refine DL.pure (i := 7) (by kernel_rfl) (by kernel_rfl) rfl rfl rfl (OpP.indexAddr rfl rfl (by omega) (by omega)) ?_
      refine DL.read (i := 8) (by kernel_rfl) (by kernel_rfl) rfl rfl rfl (fun _ h => h) (OpR.load1 rfl (by apply Cells.cell cua (fun _ h => h); (case' hv => assumption); (case' ho => omega); done)) ?_
      refine DL.read (i := 9) (by kernel_rfl) (by kernel_rfl) rfl rfl rfl (fun _ h => h) (OpR.rdStr (by rfl) hqr (by rfl)) ?_
      refine DL.dec (i := 10) (by kernel_rfl) (by kernel_rfl) rfl rfl rfl (OpP.neStr rfl rfl) (fun h27 => ?_) (fun h27 => ?_)
      focus
        refine DL.done (by kernel_rfl) ?_
        refine J.condT rfl ?_
        refine J.seq ?_
        refine J.region ?_
        refine JL.pure rfl rfl (OpP.assign rfl) ?_
        refine JL.nil ?_
        refine J.ret1 rfl rfl ?_
      rotate_left 1
      focus
        refine DL.done (by kernel_rfl) ?_
        refine J.condF rfl ?_
        refine J.skip ?_
        refine J.inBlock ?_
        refine J.region ?_
        refine JL.pure rfl rfl (OpP.move rfl) ?_
        refine JL.pure rfl rfl (OpP.addI rfl rfl (by omega) (by omega)) ?_
        refine JL.pure rfl rfl (OpP.assign rfl) ?_
        refine JL.nil ?_
      rotate_left 1
      · refine ⟨congrArg Value.bool (decide_eq_false fun e => h27 (strB_inj.2 ?_)).symm, rfl⟩
        rw [e, hrq] at hrp
        exact (Option.some.inj hrp).symm
      · refine back (i + 1) ⟨by omega, ?_⟩ (by omega) (by repeat (first | exact SubEnv.nil | refine SubEnv.cons (by first | rfl | exact congrArg (fun z => some (Value.int .i64 z)) (by omega) | (simp; done)) ?_)) (fun _ h => h)
        rw [hct, hct2, hi2, strB_inj.1 (Decidable.not_not.1 h27)]
    · have : i = ps1.length := by omega
      subst this
      rw [List.take_length, hn, List.take_length] at hi2
      refine J.seq ?_
      refine J.seq ?_
      refine J.region ?_
      refine JL.pure rfl rfl (OpP.move rfl) ?_
      refine JL.pure rfl rfl (OpP.move rfl) ?_
      refine JL.pure rfl rfl (OpP.len rfl rfl) ?_
      refine JL.decF rfl rfl (OpP.lss rfl rfl) (by omega) ?_
      refine JL.nil ?_
      refine J.condF rfl ?_
      refine J.exit rfl ?_
      refine J.seq ?_
      refine J.region ?_
      refine JL.pure rfl rfl (OpP.assign rfl) ?_
      refine JL.nil ?_
      refine J.ret1 rfl rfl ?_
      exact ⟨congrArg Value.bool (decide_eq_true hi2).symm, rfl⟩
  · refine J.seq ?_
    refine J.region ?_
    refine JL.pure rfl rfl (OpP.assign rfl) ?_
    refine JL.nil ?_
    refine J.seq ?_
    refine J.seq ?_
    refine J.region ?_
    refine JL.pure rfl rfl (OpP.move rfl) ?_
    refine JL.pure rfl rfl (OpP.len rfl rfl) ?_
    refine JL.pure rfl rfl (OpP.move rfl) ?_
    refine JL.pure rfl rfl (OpP.len rfl rfl) ?_
    refine JL.decT rfl rfl (OpP.neq rfl rfl) (by omega) ?_
    refine JL.nil ?_
    refine J.condT rfl ?_
    refine J.seq ?_
    refine J.region ?_
    refine JL.pure rfl rfl (OpP.assign rfl) ?_
    refine JL.nil ?_
    refine J.ret1 rfl rfl ?_
    refine ⟨congrArg Value.bool (decide_eq_false fun e => hn ?_).symm, rfl⟩
    have := congrArg List.length e
    simpa [recs] using this
/-- The count is in range. -/
theorem Prove_ok {w0 : World} {F : List HProp} {v : Value} {i : Nat} {ps : List (Value × List UInt8)} {K : Ws} (hK : Tab w0 0 64 fun j => w32 (K j)) (hs : ShapeOf v ps.length) (hpl : ps.length ≤ 1000000) (hrl : ∀ p ∈ ps, p.2.length ≤ 80000) (hp : Parts w0 [] v ps) (hi : i < ps.length) :
    FnO Tryd.prog w0 32 [v, .int .i64 (i : Nat)] F (fun r l' => ∃ q qs, r = .tuple #[.agg (hdC (hsh K h0 (recs (ps.take i))) (i : Nat) ++ [q]).toArray, .int .i64 0] ∧ (∃ a c, q = .slice a qs.length c) ∧ recs qs = recs (ps.drop i) ∧ (∀ q ∈ qs, ∃ a c, q.1 = .slice a q.2.length c) ∧ l' = ownP q qs :: F) := by
  obtain ⟨ta, tc, t1, t2⟩ := Parts.to (P := Tryd.prog) (t := 22) hs hp (Nat.le_of_lt hi)
  obtain ⟨da, dc, d1, d2⟩ := Parts.from (P := Tryd.prog) (t := 22) hs hp (Nat.le_of_lt hi)
  have e1 : (ps.take i).length = i := by rw [List.length_take]; omega
  have e2 : (ps.drop i).length = ps.length - i := List.length_drop
  have hlt : ∀ p ∈ ps.take i, p.2.length ≤ 80000 := fun p hm => hrl p (List.mem_of_mem_take hm)
  have hld : ∀ p ∈ ps.drop i, p.2.length ≤ 80000 := fun p hm => hrl p (List.mem_of_mem_drop hm)
  have hhl := hsh_len (K := K) (show h0.length = 32 by simp [h0]) (recs (ps.take i))
  obtain ⟨va, vc, rfl⟩ := hp.len (Own.nil w0)
  refine FnO.weak ?_
  refine FnO.intro (n := 24) Tryd.func32 rfl rfl rfl ?_
  refine J.seq ?_
  refine J.region ?_
  refine JL.mem rfl rfl OpM.alloc ?_; rintro _ _ ⟨b4, rfl, rfl⟩
  refine JL.pure rfl rfl (OpP.assign rfl) ?_
  refine JL.nil ?_
  refine J.seq ?_
  refine J.seq ?_
  refine J.region ?_
  refine JL.pure rfl rfl (OpP.move rfl) ?_
  refine JL.decF rfl rfl (OpP.lss rfl rfl) (by omega) ?_
  refine JL.pure rfl rfl (OpP.move rfl) ?_
  refine JL.pure rfl rfl (OpP.move rfl) ?_
  refine JL.pure rfl rfl (OpP.move rfl) ?_
  refine JL.pure rfl rfl (OpP.len rfl rfl) ?_
  refine JL.decF rfl rfl (OpP.geq rfl rfl) (by omega) ?_
  refine JL.pure rfl rfl (OpP.pickF rfl rfl) ?_
  refine JL.nil ?_
  refine J.condF rfl ?_
  refine J.skip ?_
  refine J.seq ?_
  refine J.regionD [] (by kernel_rfl) ?_
  refine DL.pure (i := 0) (by kernel_rfl) (by kernel_rfl) rfl rfl rfl (OpP.move rfl) ?_
  refine DL.pure (i := 1) (by kernel_rfl) (by kernel_rfl) rfl rfl rfl (OpP.move rfl) ?_
  refine DL.pure (i := 2) (by kernel_rfl) (by kernel_rfl) rfl rfl rfl ((SlTo.op (by assumption) rfl rfl)) ?_
  refine DL.pure (i := 4) (by kernel_rfl) (by kernel_rfl) rfl rfl rfl (OpP.move rfl) ?_
  refine DL.pure (i := 5) (by kernel_rfl) (by kernel_rfl) rfl rfl rfl (OpP.move rfl) ?_
  refine DL.pure (i := 6) (by kernel_rfl) (by kernel_rfl) rfl rfl rfl ((SlFrom.op (by assumption) rfl rfl)) ?_
  refine DL.only (i := 3) (by kernel_rfl) ?_
  refine DL1.stepF rfl rfl rfl (by kernel_rfl) (by exact OpW.call (first := []) (captured := []) inferInstance rfl rfl (All_ok hK hlt (by omega) (t2.conv (fun _ h => h.none)))) ?_; rintro r18 _ ⟨rfl, rfl⟩
  refine DL.only (i := 7) (by kernel_rfl) ?_
  refine DL1.stepF rfl rfl rfl (by kernel_rfl) (by exact OpW.call (first := []) (captured := []) inferInstance rfl rfl (Copied_ok (by omega) hld (d2.conv (fun _ h => h.none)))) ?_; rintro r22 _ ⟨qs, ⟨⟨a, ⟨c, rfl⟩⟩, ⟨h22, ⟨h221, rfl⟩⟩⟩⟩
  refine DL.pure (i := 8) (by kernel_rfl) (by kernel_rfl) rfl rfl rfl (OpP.buildProof (by rfl) rfl (by first | assumption | exact Go.Proofs.B.shaB_length _ _ | solve_by_elim) rfl) ?_
  refine DL.only (i := 9) (by kernel_rfl) ?_
  refine DL1.stepF0 rfl rfl (by kernel_rfl) (OpM.w (by apply OpM.storeN rfl rfl (by rw [List.length_append, hdC_len (by first | assumption | exact Go.Proofs.B.shaB_length _ _ | solve_by_elim)]; rfl) (Go.Proofs.B.pf_one rfl); (case' hu => exact (.tail .head)); (case' hs => exact spl_all (by rw [List.length_append, hdC_len (by first | assumption | exact Go.Proofs.B.shaB_length _ _ | solve_by_elim)]; rfl)); done)) ?_; rintro _ _ ⟨rfl, rfl⟩
  refine DL.pure (i := 10) (by kernel_rfl) (by kernel_rfl) rfl rfl rfl (OpP.assign rfl) ?_
  refine DL.done (by kernel_rfl) ?_
  refine J.retC2 rfl rfl (by apply Cells.full; (with_reducible repeat (first | exact .head | apply Has.tail))) (by first | (rw [List.length_append, hdC_len (by first | assumption | exact Go.Proofs.B.shaB_length _ _ | solve_by_elim)]; rfl) | exact hdC_len (by first | assumption | exact Go.Proofs.B.shaB_length _ _ | solve_by_elim) | (rw [bcells_length]; first | assumption | exact Go.Proofs.B.shaB_length _ _ | solve_by_elim) | exact fc_length _ _ | exact fB_length _ _ | rfl) rfl ?_
  exact ⟨_, ⟨.slice a qs.length c, qs, by rw [e1], ⟨a, c, rfl⟩, h22, h221, rfl⟩, fun _ h => Own.pick (pre := [_, _]) [0] rfl h⟩
theorem ProveNot_ok {w0 : World} {F : List HProp} {va : Option Addr} {n vc : Nat} {i : Int} (_ : n ≤ 9223372036854775807) (hi : i < 0 ∨ (n : Int) ≤ i) :
    FnO Tryd.prog w0 32 [.slice va n vc, .int .i64 i] F (fun r l' => r = .tuple #[.agg (List.replicate 32 (Value.int .u8 0) ++ [Value.int .i64 0, Value.slice none 0 0]).toArray, .int .i64 8] ∧ l' = F) := by
  refine FnO.weak ?_
  refine FnO.intro (n := 24) Tryd.func32 rfl rfl rfl ?_
  refine J.seq ?_
  refine J.region ?_
  refine JL.mem rfl rfl OpM.alloc ?_; rintro _ _ ⟨b4, rfl, rfl⟩
  refine JL.pure rfl rfl (OpP.assign rfl) ?_
  refine JL.nil ?_
  refine J.seq ?_
  refine J.seq ?_
  refine J.region ?_
  refine JL.pure rfl rfl (OpP.move rfl) ?_
  refine JL.dec rfl rfl (OpP.lss rfl rfl) (fun h7 => ?_) (fun h7 => ?_)
  focus
    refine JL.pure rfl rfl (OpP.move rfl) ?_
    refine JL.skip rfl rfl ?_
    refine JL.skip rfl rfl ?_
    refine JL.skip rfl rfl ?_
    refine JL.skip rfl rfl ?_
    refine JL.pure rfl rfl (OpP.pickT rfl rfl) ?_
    refine JL.nil ?_
    refine J.condT rfl ?_
    refine J.seq ?_
    refine J.region ?_
    refine JL.pure rfl rfl (OpP.build rfl (by (repeat (first | exact Fills.nil | (apply Fills.cons rfl rfl rfl; (case' hs => ((repeat (first | exact Spl.nil | apply Spl.here | apply Spl.there)); done))))))) ?_
    refine JL.mem0 rfl (by apply OpM.storeN rfl rfl (by rfl) (oneC rfl (oneC rfl (oneC rfl (oneC rfl (oneC rfl (oneC rfl (oneC rfl (oneC rfl (oneC rfl (oneC rfl (oneC rfl (oneC rfl (oneC rfl (oneC rfl (oneC rfl (oneC rfl (oneC rfl (oneC rfl (oneC rfl (oneC rfl (oneC rfl (oneC rfl (oneC rfl (oneC rfl (oneC rfl (oneC rfl (oneC rfl (oneC rfl (oneC rfl (oneC rfl (oneC rfl (oneC rfl (oneC rfl (one1 rfl)))))))))))))))))))))))))))))))))); (case' hu => exact .head); (case' hs => exact (.here (.here (.here (.here (.here (.here (.here (.here (.here (.here (.here (.here (.here (.here (.here (.here (.here (.here (.here (.here (.here (.here (.here (.here (.here (.here (.here (.here (.here (.here (.here (.here (.here (.here .nil))))))))))))))))))))))))))))))))))); done) ?_; rintro _ _ ⟨rfl, rfl⟩
    refine JL.pure rfl rfl (OpP.assign rfl) ?_
    refine JL.nil ?_
    refine J.retC2 rfl rfl (by apply Cells.full; (with_reducible repeat (first | exact .head | apply Has.tail))) (by first | (rw [List.length_append, hdC_len (by first | assumption | exact Go.Proofs.B.shaB_length _ _ | solve_by_elim)]; rfl) | exact hdC_len (by first | assumption | exact Go.Proofs.B.shaB_length _ _ | solve_by_elim) | (rw [bcells_length]; first | assumption | exact Go.Proofs.B.shaB_length _ _ | solve_by_elim) | exact fc_length _ _ | exact fB_length _ _ | rfl) rfl ?_
  rotate_left 1
  focus
    refine JL.pure rfl rfl (OpP.move rfl) ?_
    refine JL.pure rfl rfl (OpP.move rfl) ?_
    refine JL.pure rfl rfl (OpP.move rfl) ?_
    refine JL.pure rfl rfl (OpP.len rfl rfl) ?_
    refine JL.decT rfl rfl (OpP.geq rfl rfl) (by omega) ?_
    refine JL.pure rfl rfl (OpP.pickF rfl rfl) ?_
    refine JL.nil ?_
    refine J.condT rfl ?_
    refine J.seq ?_
    refine J.region ?_
    refine JL.pure rfl rfl (OpP.build rfl (by (repeat (first | exact Fills.nil | (apply Fills.cons rfl rfl rfl; (case' hs => ((repeat (first | exact Spl.nil | apply Spl.here | apply Spl.there)); done))))))) ?_
    refine JL.mem0 rfl (by apply OpM.storeN rfl rfl (by rfl) (oneC rfl (oneC rfl (oneC rfl (oneC rfl (oneC rfl (oneC rfl (oneC rfl (oneC rfl (oneC rfl (oneC rfl (oneC rfl (oneC rfl (oneC rfl (oneC rfl (oneC rfl (oneC rfl (oneC rfl (oneC rfl (oneC rfl (oneC rfl (oneC rfl (oneC rfl (oneC rfl (oneC rfl (oneC rfl (oneC rfl (oneC rfl (oneC rfl (oneC rfl (oneC rfl (oneC rfl (oneC rfl (oneC rfl (one1 rfl)))))))))))))))))))))))))))))))))); (case' hu => exact .head); (case' hs => exact (.here (.here (.here (.here (.here (.here (.here (.here (.here (.here (.here (.here (.here (.here (.here (.here (.here (.here (.here (.here (.here (.here (.here (.here (.here (.here (.here (.here (.here (.here (.here (.here (.here (.here .nil))))))))))))))))))))))))))))))))))); done) ?_; rintro _ _ ⟨rfl, rfl⟩
    refine JL.pure rfl rfl (OpP.assign rfl) ?_
    refine JL.nil ?_
    refine J.retC2 rfl rfl (by apply Cells.full; (with_reducible repeat (first | exact .head | apply Has.tail))) (by first | (rw [List.length_append, hdC_len (by first | assumption | exact Go.Proofs.B.shaB_length _ _ | solve_by_elim)]; rfl) | exact hdC_len (by first | assumption | exact Go.Proofs.B.shaB_length _ _ | solve_by_elim) | (rw [bcells_length]; first | assumption | exact Go.Proofs.B.shaB_length _ _ | solve_by_elim) | exact fc_length _ _ | exact fB_length _ _ | rfl) rfl ?_
  rotate_left 1
  all_goals exact ⟨_, ⟨rfl, rfl⟩, fun _ h => h.tail⟩
end Go.Proofs.B

-- seat b
namespace Go.Proofs.B
open Go Go.Gp Go.RowKit

theorem ChainProves_ok {w0 : World} {v : Value} {place : Int} {ps : List (Value × List UInt8)} {K : Ws} (hA : IsAwake w0 25) (hK : Tab w0 0 64 fun j => w32 (K j)) (hK2 : ∀ i, i < 64 → hexOk constS i (K i) = true) (hs : ShapeOf v ps.length) (hpl : ps.length ≤ 9223372036854775807) (hp : Parts w0 [] v ps) :
    FnO Tryd.prog w0 11 [v, .int .i64 place] [] (fun v _ => v = .bool true) := by
  obtain ⟨va, vc, rfl⟩ := hp.len (Own.nil w0)
  refine FnO.rdF (fun _ h => h) hp.rd fun hp1 => ?_
  refine FnO.intro (n := 89) Tryd.func11 rfl rfl rfl ?_
  refine J.seq ?_
  refine J.region ?_
  refine JL.pure rfl rfl (OpP.assign rfl) ?_
  refine JL.nil ?_
  refine J.seq ?_
  refine J.seq ?_
  refine J.region ?_
  refine JL.step rfl rfl (OpW.call (first := []) (captured := []) inferInstance rfl rfl (hA _)) ?_; rintro r8 _ ⟨rfl, rfl⟩
  refine JL.pure rfl rfl (OpP.notB rfl) ?_
  refine JL.pure rfl rfl (OpP.move rfl) ?_
  refine JL.pure rfl rfl (OpP.move rfl) ?_
  refine JL.step rfl rfl (OpW.call (first := []) (captured := []) inferInstance rfl rfl (Few5_ok (m := 12) (most := 400) (by omega) (by omega) hpl (hp.conv (fun _ h => h.none)))) ?_; rintro r12 _ ⟨b, ⟨rfl, ⟨rfl, h12⟩⟩⟩
  refine JL.pure rfl rfl (OpP.notB rfl) ?_
  refine JL.pure rfl rfl (OpP.pickF rfl rfl) ?_
  refine JL.nil ?_
  refine J.splitAt 14 rfl (fun h14 => ?_) (fun h14 => ?_)
  focus
    refine J.condT rfl ?_
    refine J.seq ?_
    refine J.region ?_
    refine JL.step rfl rfl (OpW.call (first := []) (captured := []) inferInstance rfl rfl (hA _)) ?_; rintro r15 _ ⟨rfl, rfl⟩
    refine JL.pure rfl rfl (OpP.assign rfl) ?_
    refine JL.nil ?_
    refine J.ret1 rfl rfl ?_
  rotate_left 1
  focus
    refine J.condF rfl ?_
    refine J.skip ?_
  rotate_left 1
  · rfl
  · obtain ⟨hm, hn12⟩ := h12 (by cases b <;> first | rfl | cases h14)
    have hrl : ∀ p ∈ ps, p.2.length ≤ 80000 := fun p hp => by have := recs_le p hp; omega
    have hl0 : h0.length = 32 := by simp [h0]
    by_cases hi : 0 ≤ place ∧ place < ps.length
    · obtain ⟨i, rfl⟩ := Int.eq_ofNat_of_zero_le hi.1
      have hi2 : i < ps.length := by omega
      obtain ⟨gp, pp, qp, ep, kp, cp⟩ := hp1.pos (by omega)
      cases ep
      have e1 : (ps.take i).length = i := by rw [List.length_take]; omega
      have e2 : (ps.drop i).length = ps.length - i := List.length_drop
      have hlt : ∀ p ∈ ps.take i, p.2.length ≤ 80000 := fun p hm => hrl p (List.mem_of_mem_take hm)
      have hld : ∀ p ∈ ps.drop i, p.2.length ≤ 80000 := fun p hm => hrl p (List.mem_of_mem_drop hm)
      have hhl := hsh_len (K := K) hl0 (recs (ps.take i))
      have hha := hsh_len (K := K) hl0 (recs ps)
      obtain ⟨pa, pc, p, hpi, hpv, hpr⟩ := hp.at hi2
      refine J.seq ?_
      refine J.region ?_
      refine JL.pure rfl rfl (OpP.move rfl) ?_
      refine JL.pure rfl rfl (OpP.move rfl) ?_
      refine JL.step rfl rfl (OpW.call (first := []) (captured := []) inferInstance rfl rfl (Prove_ok hK hs (by omega) hrl hp hi2)) ?_; rintro r19 _ ⟨q, ⟨qs, ⟨rfl, ⟨⟨a, ⟨c, rfl⟩⟩, ⟨h19, ⟨h191, rfl⟩⟩⟩⟩⟩⟩
      refine JL.pure rfl rfl (OpP.move rfl) ?_
      refine JL.pure rfl rfl (OpP.extract rfl rfl) ?_
      refine JL.pure rfl rfl (OpP.extract rfl rfl) ?_
      refine JL.mem rfl rfl OpM.alloc ?_; rintro _ _ ⟨b5, rfl, rfl⟩
      refine JL.mem0 rfl (by apply OpM.storeN rfl rfl (by rw [List.length_append, hdC_len (by first | assumption | exact Go.Proofs.B.shaB_length _ _ | solve_by_elim)]; rfl) (Go.Proofs.B.pf_one rfl); (case' hu => exact .head); (case' hs => exact spl_all (by rw [List.length_append, hdC_len (by first | assumption | exact Go.Proofs.B.shaB_length _ _ | solve_by_elim)]; rfl)); done) ?_; rintro _ _ ⟨rfl, rfl⟩
      refine JL.pure rfl rfl (OpP.assign rfl) ?_
      refine JL.nil ?_
      refine J.seq ?_
      refine J.seq ?_
      refine J.region ?_
      refine JL.pure rfl rfl (OpP.move rfl) ?_
      refine JL.decF rfl rfl (OpP.lss rfl rfl) (by omega) ?_
      refine JL.pure rfl rfl (OpP.move rfl) ?_
      refine JL.pure rfl rfl (OpP.move rfl) ?_
      refine JL.pure rfl rfl (OpP.move rfl) ?_
      refine JL.pure rfl rfl (OpP.len rfl rfl) ?_
      refine JL.decF rfl rfl (OpP.geq rfl rfl) (by omega) ?_
      refine JL.pure rfl rfl (OpP.pickF rfl rfl) ?_
      refine JL.nil ?_
      refine J.condF rfl ?_
      refine J.skip ?_
      refine J.seq ?_
      refine J.region ?_
      refine JL.pure rfl rfl (OpP.move rfl) ?_
      refine JL.step rfl rfl (OpW.call (first := []) (captured := []) inferInstance rfl rfl (All_ok hK hrl hpl (hp.conv (fun _ h => h.none)))) ?_; rintro r39 _ ⟨rfl, rfl⟩
      refine JL.mem rfl rfl OpM.alloc ?_; rintro _ _ ⟨b7, rfl, rfl⟩
      refine JL.mem0 rfl (by apply OpM.storeN rfl rfl (hdC_len (by first | assumption | exact Go.Proofs.B.shaB_length _ _ | solve_by_elim)) hdC_one; (case' hu => exact .head); (case' hs => exact spl_all (by first | (rw [hdC_len (by first | assumption | exact Go.Proofs.B.shaB_length _ _ | solve_by_elim), hdC_len (by first | assumption | exact Go.Proofs.B.shaB_length _ _ | solve_by_elim)]; done) | (rw [hdC_len (by first | assumption | exact Go.Proofs.B.shaB_length _ _ | solve_by_elim)]; rfl))); done) ?_; rintro _ _ ⟨rfl, rfl⟩
      refine JL.nil ?_
      obtain ⟨ta, tc, t1, t2⟩ := Parts.to (P := Tryd.prog) (t := 22) hs hp (Nat.le_of_lt hi2)
      obtain ⟨da, dc, d1, d2⟩ := Parts.from (P := Tryd.prog) (t := 22) hs hp (Nat.le_of_lt hi2)
      have hq : Parts w0 [ownP (.slice a qs.length c) qs] (.slice a qs.length c) qs := Parts.ofOwn (by assumption)
      have hqd : recs qs = recs (ps.drop i) := by assumption
      have hql : qs.length = ps.length - i := by
        have := congrArg List.length hqd
        simp [recs] at this
        omega
      have hrq : ∀ p ∈ qs, p.2.length ≤ 80000 := fun p hp => by
        have h1 : p.2 ∈ recs (ps.drop i) := by rw [← hqd]; exact List.mem_map.2 ⟨p, hp, rfl⟩
        obtain ⟨p', h2, h3⟩ := List.mem_map.1 h1
        rw [← h3]; exact hld p' h2
      have hq0 : (recs qs)[0]? = some p := by
        rw [hqd, recs, List.getElem?_map, List.getElem?_drop, Nat.add_zero, hpi]; rfl
      have hsa : hsh K (hsh K h0 (recs (ps.take i))) (recs qs) = hsh K h0 (recs ps) := by
        rw [hqd, hsh, hsh, ← List.foldl_append, recs, recs, ← List.map_append, List.take_append_drop]; rfl
      have hk1 : Told K (hsh K h0 (recs ps)) (ps.length : Nat) (i : Nat) p (hsh K h0 (recs (ps.take i))) (i : Nat) (recs qs) := ⟨rfl, hq0, hsa, by simp only [recs, List.length_map, hql]; omega⟩
      have hk2 : ¬ Told K (hsh K h0 (recs ps)) (ps.length : Nat) ((i : Nat) + 1) p (hsh K h0 (recs (ps.take i))) (i : Nat) (recs qs) := fun q => by have := q.1; omega
      have hwn : (Lit.int .i64 ((ps.length : Nat) : Int)).wf = true := by simp [Lit.wf, IntKind.min, IntKind.max, IntKind.signed, IntKind.bits]; omega
      refine J.seq ?_
      refine J.regionD [5, 15, 21, 28, 33, 34, 38, 44, 45] (by kernel_rfl) ?_
      refine DL.pure (i := 0) (by kernel_rfl) (by kernel_rfl) rfl rfl rfl (OpP.move rfl) ?_
      refine DL.decT (i := 1) (by kernel_rfl) (by kernel_rfl) rfl rfl rfl (OpP.eql rfl rfl) (by omega) ?_
      refine DL.pure (i := 2) (by kernel_rfl) (by kernel_rfl) rfl rfl rfl (OpP.move rfl) ?_
      refine DL.pure (i := 3) (by kernel_rfl) (by kernel_rfl) rfl rfl rfl (OpP.fieldAddr rfl) ?_
      refine DL.pure (i := 4) (by kernel_rfl) (by kernel_rfl) rfl rfl rfl (OpP.fieldAddr rfl) ?_
      refine DL.read (i := 5) (by kernel_rfl) (by kernel_rfl) rfl rfl rfl (fun _ h => h) (OpR.loadN rfl (Cells.pfH (.tail .head) (by first | assumption | exact Go.Proofs.B.shaB_length _ _ | solve_by_elim)) (by rw [bcells_length]; exact (by first | assumption | exact Go.Proofs.B.shaB_length _ _ | solve_by_elim))) ?_
      refine DL.pure (i := 6) (by kernel_rfl) (by kernel_rfl) rfl rfl rfl (OpP.move rfl) ?_
      refine DL.pure (i := 7) (by kernel_rfl) (by kernel_rfl) rfl rfl rfl (OpP.move rfl) ?_
      refine DL.pure (i := 8) (by kernel_rfl) (by kernel_rfl) rfl rfl rfl ((SlTo.op (by assumption) rfl rfl)) ?_
      refine DL.only (i := 9) (by kernel_rfl) ?_
      refine DL1.stepK rfl rfl rfl (by exact OpW.call (first := []) (captured := []) inferInstance rfl rfl (Hash_ok hK2 hlt (by omega) (t2.conv (fun _ h => h.none)))) (by rintro _ _ ⟨rfl, rfl⟩ _ h; exact Own.pick (pre := [_, _, _]) [0, 1, 2] rfl h) ?_; rintro r49 _ ⟨rfl, rfl⟩
      refine DL.pure (i := 10) (by kernel_rfl) (by kernel_rfl) rfl rfl rfl (OpP.eqBytes rfl rfl (by first | assumption | exact Go.Proofs.B.shaB_length _ _ | solve_by_elim) (by first | assumption | exact Go.Proofs.B.shaB_length _ _ | solve_by_elim)) ?_
      refine DL.pure (i := 11) (by kernel_rfl) (by kernel_rfl) rfl rfl rfl (OpP.pickT rfl rfl) ?_
      refine DL.pure (i := 12) (by kernel_rfl) (by kernel_rfl) rfl rfl rfl (OpP.move rfl) ?_
      refine DL.decAt 52 rfl (fun h52 => ?_) (fun h52 => ?_)
      focus
        refine DL.pure (i := 13) (by kernel_rfl) (by kernel_rfl) rfl rfl rfl (OpP.fieldAddr rfl) ?_
        refine DL.pure (i := 14) (by kernel_rfl) (by kernel_rfl) rfl rfl rfl (OpP.fieldAddr rfl) ?_
        refine DL.read (i := 15) (by kernel_rfl) (by kernel_rfl) rfl rfl rfl (fun _ h => h) (OpR.load1 rfl (Cell.pf1 (.tail .head) (by first | assumption | exact Go.Proofs.B.shaB_length _ _ | solve_by_elim))) ?_
        refine DL.pure (i := 16) (by kernel_rfl) (by kernel_rfl) rfl rfl rfl (OpP.move rfl) ?_
        refine DL.decT (i := 17) (by kernel_rfl) (by kernel_rfl) rfl rfl rfl (OpP.eql rfl rfl) (by omega) ?_
        refine DL.pure (i := 18) (by kernel_rfl) (by kernel_rfl) rfl rfl rfl (OpP.pickT rfl rfl) ?_
        refine DL.pure (i := 19) (by kernel_rfl) (by kernel_rfl) rfl rfl rfl (OpP.move rfl) ?_
        refine DL.pure (i := 20) (by kernel_rfl) (by kernel_rfl) rfl rfl rfl (OpP.fieldAddr rfl) ?_
        refine DL.read (i := 21) (by kernel_rfl) (by kernel_rfl) rfl rfl rfl (fun _ h => h) (OpR.load1 rfl (Cell.pf2 (.tail .head) (by first | assumption | exact Go.Proofs.B.shaB_length _ _ | solve_by_elim))) ?_
        refine DL.pure (i := 22) (by kernel_rfl) (by kernel_rfl) rfl rfl rfl (OpP.move rfl) ?_
        refine DL.pure (i := 23) (by kernel_rfl) (by kernel_rfl) rfl rfl rfl (OpP.move rfl) ?_
        refine DL.pure (i := 24) (by kernel_rfl) (by kernel_rfl) rfl rfl rfl ((SlFrom.op (by assumption) rfl rfl)) ?_
        refine DL.only (i := 25) (by kernel_rfl) ?_
        refine DL1.stepK rfl rfl rfl (by exact OpW.call (first := []) (captured := []) inferInstance rfl rfl (Same_ok (by omega) (by omega) (hq.conv (fun _ h => Own.pick (pre := [_, _, _]) [2] rfl h)) (d2.conv (fun _ h => h.none)))) (by rintro _ _ ⟨rfl, rfl⟩ _ h; exact Own.pick (pre := [_, _, _]) [0, 1, 2] rfl h) ?_; rintro r65 _ ⟨rfl, rfl⟩
        refine DL.pure (i := 26) (by kernel_rfl) (by kernel_rfl) rfl rfl rfl (OpP.pickT rfl rfl) ?_
        refine DL.pure (i := 27) (by kernel_rfl) (by kernel_rfl) rfl rfl rfl (OpP.move rfl) ?_
        refine DL.decAt 67 rfl (fun h67 => ?_) (fun h67 => ?_)
        focus
          refine DL.read (i := 28) (by kernel_rfl) (by kernel_rfl) rfl rfl rfl (fun _ h => h) (OpR.loadN rfl (Cells.full .head) (hdC_len (by first | assumption | exact Go.Proofs.B.shaB_length _ _ | solve_by_elim))) ?_
          refine DL.pure (i := 29) (by kernel_rfl) (by kernel_rfl) rfl rfl rfl (OpP.move rfl) ?_
          refine DL.pure (i := 30) (by kernel_rfl) (by kernel_rfl) rfl rfl rfl (OpP.move rfl) ?_
          refine DL.pure (i := 31) (by kernel_rfl) (by kernel_rfl) rfl rfl rfl (OpP.move rfl) ?_
          refine DL.pure (i := 32) (by kernel_rfl) (by kernel_rfl) rfl rfl rfl (OpP.indexAddr rfl rfl (by omega) (by omega)) ?_
          refine DL.read (i := 33) (by kernel_rfl) (by kernel_rfl) rfl rfl rfl (fun _ h => h) (OpR.load1 rfl (by apply Cells.cell cp (fun _ h => h.none); (case' hv => assumption); (case' ho => omega); done)) ?_
          refine DL.read (i := 34) (by kernel_rfl) (by kernel_rfl) rfl rfl rfl (fun _ h => h) (OpR.loadN (n := 34) rfl (Cells.full (.tail .head)) (by rw [List.length_append, hdC_len (by first | assumption | exact Go.Proofs.B.shaB_length _ _ | solve_by_elim)]; rfl)) ?_
          refine DL.only (i := 35) (by kernel_rfl) ?_
          refine DL1.stepK rfl rfl rfl (by exact OpW.call (first := []) (captured := []) inferInstance rfl rfl (Proves_ok (lr := p) hK hha hhl hwn hrq (by omega) (by omega) (by omega) (hpr.conv fun _ h => h.none) (hq.conv (fun _ h => Own.pick (pre := [_, _, _]) [2] rfl h)))) (by rintro _ _ ⟨rfl, rfl⟩ _ h; exact Own.pick (pre := [_, _, _]) [0, 1, 2] rfl h) ?_; rintro r75 _ ⟨rfl, rfl⟩
          refine DL.pure (i := 36) (by kernel_rfl) (by kernel_rfl) rfl rfl rfl (OpP.pickT rfl rfl) ?_
          refine DL.pure (i := 37) (by kernel_rfl) (by kernel_rfl) rfl rfl rfl (OpP.move rfl) ?_
          refine DL.decAt 77 rfl (fun h77 => ?_) (fun h77 => ?_)
          focus
            refine DL.read (i := 38) (by kernel_rfl) (by kernel_rfl) rfl rfl rfl (fun _ h => h) (OpR.loadN rfl (Cells.full .head) (hdC_len (by first | assumption | exact Go.Proofs.B.shaB_length _ _ | solve_by_elim))) ?_
            refine DL.pure (i := 39) (by kernel_rfl) (by kernel_rfl) rfl rfl rfl (OpP.move rfl) ?_
            refine DL.pure (i := 40) (by kernel_rfl) (by kernel_rfl) rfl rfl rfl (OpP.addI rfl rfl (by omega) (by omega)) ?_
            refine DL.pure (i := 41) (by kernel_rfl) (by kernel_rfl) rfl rfl rfl (OpP.move rfl) ?_
            refine DL.pure (i := 42) (by kernel_rfl) (by kernel_rfl) rfl rfl rfl (OpP.move rfl) ?_
            refine DL.pure (i := 43) (by kernel_rfl) (by kernel_rfl) rfl rfl rfl (OpP.indexAddr rfl rfl (by omega) (by omega)) ?_
            refine DL.read (i := 44) (by kernel_rfl) (by kernel_rfl) rfl rfl rfl (fun _ h => h) (OpR.load1 rfl (by apply Cells.cell cp (fun _ h => h.none); (case' hv => assumption); (case' ho => omega); done)) ?_
            refine DL.read (i := 45) (by kernel_rfl) (by kernel_rfl) rfl rfl rfl (fun _ h => h) (OpR.loadN (n := 34) rfl (Cells.full (.tail .head)) (by rw [List.length_append, hdC_len (by first | assumption | exact Go.Proofs.B.shaB_length _ _ | solve_by_elim)]; rfl)) ?_
            refine DL.only (i := 46) (by kernel_rfl) ?_
            refine DL1.stepF rfl rfl rfl (by kernel_rfl) (by exact OpW.call (first := []) (captured := []) inferInstance rfl rfl (Proves_ok (lr := p) hK hha hhl hwn hrq (by omega) (by omega) (by omega) (hpr.conv fun _ h => h.none) (hq.conv (fun _ h => Own.pick (pre := [_, _, _]) [2] rfl h)))) ?_; rintro r86 _ ⟨rfl, rfl⟩
            refine DL.pure (i := 47) (by kernel_rfl) (by kernel_rfl) rfl rfl rfl (OpP.notB rfl) ?_
            refine DL.pure (i := 48) (by kernel_rfl) (by kernel_rfl) rfl rfl rfl (OpP.pickT rfl rfl) ?_
            refine DL.pure (i := 49) (by kernel_rfl) (by kernel_rfl) rfl rfl rfl (OpP.assign rfl) ?_
            refine DL.done (by kernel_rfl) ?_
            refine J.ret1 rfl rfl ?_
          rotate_left 1
          focus
            refine DL.skip (i := 38) (by kernel_rfl) (by kernel_rfl) rfl rfl rfl ?_
            refine DL.skip (i := 39) (by kernel_rfl) (by kernel_rfl) rfl rfl rfl ?_
            refine DL.skip (i := 40) (by kernel_rfl) (by kernel_rfl) rfl rfl rfl ?_
            refine DL.skip (i := 41) (by kernel_rfl) (by kernel_rfl) rfl rfl rfl ?_
            refine DL.skip (i := 42) (by kernel_rfl) (by kernel_rfl) rfl rfl rfl ?_
            refine DL.skip (i := 43) (by kernel_rfl) (by kernel_rfl) rfl rfl rfl ?_
            refine DL.skip (i := 44) (by kernel_rfl) (by kernel_rfl) rfl rfl rfl ?_
            refine DL.skip (i := 45) (by kernel_rfl) (by kernel_rfl) rfl rfl rfl ?_
            refine DL.skip (i := 46) (by kernel_rfl) (by kernel_rfl) rfl rfl rfl ?_
            refine DL.skip (i := 47) (by kernel_rfl) (by kernel_rfl) rfl rfl rfl ?_
            refine DL.pure (i := 48) (by kernel_rfl) (by kernel_rfl) rfl rfl rfl (OpP.pickF rfl rfl) ?_
            refine DL.pure (i := 49) (by kernel_rfl) (by kernel_rfl) rfl rfl rfl (OpP.assign rfl) ?_
            refine DL.done (by kernel_rfl) ?_
            refine J.ret1 rfl rfl ?_
          rotate_left 1
        rotate_left 2
        focus
          refine DL.skip (i := 28) (by kernel_rfl) (by kernel_rfl) rfl rfl rfl ?_
          refine DL.skip (i := 29) (by kernel_rfl) (by kernel_rfl) rfl rfl rfl ?_
          refine DL.skip (i := 30) (by kernel_rfl) (by kernel_rfl) rfl rfl rfl ?_
          refine DL.skip (i := 31) (by kernel_rfl) (by kernel_rfl) rfl rfl rfl ?_
          refine DL.skip (i := 32) (by kernel_rfl) (by kernel_rfl) rfl rfl rfl ?_
          refine DL.skip (i := 33) (by kernel_rfl) (by kernel_rfl) rfl rfl rfl ?_
          refine DL.skip (i := 34) (by kernel_rfl) (by kernel_rfl) rfl rfl rfl ?_
          refine DL.skip (i := 35) (by kernel_rfl) (by kernel_rfl) rfl rfl rfl ?_
          refine DL.pure (i := 36) (by kernel_rfl) (by kernel_rfl) rfl rfl rfl (OpP.pickF rfl rfl) ?_
          refine DL.pure (i := 37) (by kernel_rfl) (by kernel_rfl) rfl rfl rfl (OpP.move rfl) ?_
          refine DL.skip (i := 38) (by kernel_rfl) (by kernel_rfl) rfl rfl rfl ?_
          refine DL.skip (i := 39) (by kernel_rfl) (by kernel_rfl) rfl rfl rfl ?_
          refine DL.skip (i := 40) (by kernel_rfl) (by kernel_rfl) rfl rfl rfl ?_
          refine DL.skip (i := 41) (by kernel_rfl) (by kernel_rfl) rfl rfl rfl ?_
          refine DL.skip (i := 42) (by kernel_rfl) (by kernel_rfl) rfl rfl rfl ?_
          refine DL.skip (i := 43) (by kernel_rfl) (by kernel_rfl) rfl rfl rfl ?_
          refine DL.skip (i := 44) (by kernel_rfl) (by kernel_rfl) rfl rfl rfl ?_
          refine DL.skip (i := 45) (by kernel_rfl) (by kernel_rfl) rfl rfl rfl ?_
          refine DL.skip (i := 46) (by kernel_rfl) (by kernel_rfl) rfl rfl rfl ?_
          refine DL.skip (i := 47) (by kernel_rfl) (by kernel_rfl) rfl rfl rfl ?_
          refine DL.pure (i := 48) (by kernel_rfl) (by kernel_rfl) rfl rfl rfl (OpP.pickF rfl rfl) ?_
          refine DL.pure (i := 49) (by kernel_rfl) (by kernel_rfl) rfl rfl rfl (OpP.assign rfl) ?_
          refine DL.done (by kernel_rfl) ?_
          refine J.ret1 rfl rfl ?_
        rotate_left 1
      rotate_left 3
      focus
        refine DL.skip (i := 13) (by kernel_rfl) (by kernel_rfl) rfl rfl rfl ?_
        refine DL.skip (i := 14) (by kernel_rfl) (by kernel_rfl) rfl rfl rfl ?_
        refine DL.skip (i := 15) (by kernel_rfl) (by kernel_rfl) rfl rfl rfl ?_
        refine DL.skip (i := 16) (by kernel_rfl) (by kernel_rfl) rfl rfl rfl ?_
        refine DL.skip (i := 17) (by kernel_rfl) (by kernel_rfl) rfl rfl rfl ?_
        refine DL.pure (i := 18) (by kernel_rfl) (by kernel_rfl) rfl rfl rfl (OpP.pickF rfl rfl) ?_
        refine DL.pure (i := 19) (by kernel_rfl) (by kernel_rfl) rfl rfl rfl (OpP.move rfl) ?_
        refine DL.skip (i := 20) (by kernel_rfl) (by kernel_rfl) rfl rfl rfl ?_
        refine DL.skip (i := 21) (by kernel_rfl) (by kernel_rfl) rfl rfl rfl ?_
        refine DL.skip (i := 22) (by kernel_rfl) (by kernel_rfl) rfl rfl rfl ?_
        refine DL.skip (i := 23) (by kernel_rfl) (by kernel_rfl) rfl rfl rfl ?_
        refine DL.skip (i := 24) (by kernel_rfl) (by kernel_rfl) rfl rfl rfl ?_
        refine DL.skip (i := 25) (by kernel_rfl) (by kernel_rfl) rfl rfl rfl ?_
        refine DL.pure (i := 26) (by kernel_rfl) (by kernel_rfl) rfl rfl rfl (OpP.pickF rfl rfl) ?_
        refine DL.pure (i := 27) (by kernel_rfl) (by kernel_rfl) rfl rfl rfl (OpP.move rfl) ?_
        refine DL.skip (i := 28) (by kernel_rfl) (by kernel_rfl) rfl rfl rfl ?_
        refine DL.skip (i := 29) (by kernel_rfl) (by kernel_rfl) rfl rfl rfl ?_
        refine DL.skip (i := 30) (by kernel_rfl) (by kernel_rfl) rfl rfl rfl ?_
        refine DL.skip (i := 31) (by kernel_rfl) (by kernel_rfl) rfl rfl rfl ?_
        refine DL.skip (i := 32) (by kernel_rfl) (by kernel_rfl) rfl rfl rfl ?_
        refine DL.skip (i := 33) (by kernel_rfl) (by kernel_rfl) rfl rfl rfl ?_
        refine DL.skip (i := 34) (by kernel_rfl) (by kernel_rfl) rfl rfl rfl ?_
        refine DL.skip (i := 35) (by kernel_rfl) (by kernel_rfl) rfl rfl rfl ?_
        refine DL.pure (i := 36) (by kernel_rfl) (by kernel_rfl) rfl rfl rfl (OpP.pickF rfl rfl) ?_
        refine DL.pure (i := 37) (by kernel_rfl) (by kernel_rfl) rfl rfl rfl (OpP.move rfl) ?_
        refine DL.skip (i := 38) (by kernel_rfl) (by kernel_rfl) rfl rfl rfl ?_
        refine DL.skip (i := 39) (by kernel_rfl) (by kernel_rfl) rfl rfl rfl ?_
        refine DL.skip (i := 40) (by kernel_rfl) (by kernel_rfl) rfl rfl rfl ?_
        refine DL.skip (i := 41) (by kernel_rfl) (by kernel_rfl) rfl rfl rfl ?_
        refine DL.skip (i := 42) (by kernel_rfl) (by kernel_rfl) rfl rfl rfl ?_
        refine DL.skip (i := 43) (by kernel_rfl) (by kernel_rfl) rfl rfl rfl ?_
        refine DL.skip (i := 44) (by kernel_rfl) (by kernel_rfl) rfl rfl rfl ?_
        refine DL.skip (i := 45) (by kernel_rfl) (by kernel_rfl) rfl rfl rfl ?_
        refine DL.skip (i := 46) (by kernel_rfl) (by kernel_rfl) rfl rfl rfl ?_
        refine DL.skip (i := 47) (by kernel_rfl) (by kernel_rfl) rfl rfl rfl ?_
        refine DL.pure (i := 48) (by kernel_rfl) (by kernel_rfl) rfl rfl rfl (OpP.pickF rfl rfl) ?_
        refine DL.pure (i := 49) (by kernel_rfl) (by kernel_rfl) rfl rfl rfl (OpP.assign rfl) ?_
        refine DL.done (by kernel_rfl) ?_
        refine J.ret1 rfl rfl ?_
      rotate_left 1
      · exact congrArg Value.bool (by rw [decide_eq_false hk2]; rfl)
      all_goals first
        | exact absurd hk1 (by assumption)
        | exact absurd hqd (by assumption)
        | exact absurd (rfl : hsh K h0 (recs (ps.take i)) = hsh K h0 (recs (ps.take i))) (by assumption)
    · refine J.seq ?_
      refine J.region ?_
      refine JL.pure rfl rfl (OpP.move rfl) ?_
      refine JL.pure rfl rfl (OpP.move rfl) ?_
      refine JL.step rfl rfl (OpW.call (first := []) (captured := []) inferInstance rfl rfl (ProveNot_ok (i := place) hpl (by omega))) ?_; rintro r19 _ ⟨rfl, rfl⟩
      refine JL.pure rfl rfl (OpP.move rfl) ?_
      refine JL.pure rfl rfl (OpP.extract rfl rfl) ?_
      refine JL.pure rfl rfl (OpP.extract rfl rfl) ?_
      refine JL.mem rfl rfl OpM.alloc ?_; rintro _ _ ⟨b5, rfl, rfl⟩
      refine JL.mem0 rfl (by apply OpM.storeN rfl rfl (by rfl) (oneC rfl (oneC rfl (oneC rfl (oneC rfl (oneC rfl (oneC rfl (oneC rfl (oneC rfl (oneC rfl (oneC rfl (oneC rfl (oneC rfl (oneC rfl (oneC rfl (oneC rfl (oneC rfl (oneC rfl (oneC rfl (oneC rfl (oneC rfl (oneC rfl (oneC rfl (oneC rfl (oneC rfl (oneC rfl (oneC rfl (oneC rfl (oneC rfl (oneC rfl (oneC rfl (oneC rfl (oneC rfl (oneC rfl (one1 rfl)))))))))))))))))))))))))))))))))); (case' hu => exact .head); (case' hs => exact (.here (.here (.here (.here (.here (.here (.here (.here (.here (.here (.here (.here (.here (.here (.here (.here (.here (.here (.here (.here (.here (.here (.here (.here (.here (.here (.here (.here (.here (.here (.here (.here (.here (.here .nil))))))))))))))))))))))))))))))))))); done) ?_; rintro _ _ ⟨rfl, rfl⟩
      refine JL.pure rfl rfl (OpP.assign rfl) ?_
      refine JL.nil ?_
      refine J.seq ?_
      refine J.seq ?_
      refine J.region ?_
      refine JL.pure rfl rfl (OpP.move rfl) ?_
      refine JL.dec rfl rfl (OpP.lss rfl rfl) (fun h23 => ?_) (fun h23 => ?_)
      focus
        refine JL.pure rfl rfl (OpP.move rfl) ?_
        refine JL.skip rfl rfl ?_
        refine JL.skip rfl rfl ?_
        refine JL.skip rfl rfl ?_
        refine JL.skip rfl rfl ?_
        refine JL.pure rfl rfl (OpP.pickT rfl rfl) ?_
        refine JL.nil ?_
        refine J.condT rfl ?_
        refine J.seq ?_
        refine J.region ?_
        refine JL.pure rfl rfl (OpP.move rfl) ?_
        refine JL.decT rfl rfl (OpP.eql rfl rfl) (by omega) ?_
        refine JL.pure rfl rfl (OpP.move rfl) ?_
        refine JL.pure rfl rfl (OpP.fieldAddr rfl) ?_
        refine JL.read rfl rfl (OpR.load1 rfl (Cell.row .head rfl)) ?_
        refine JL.pure rfl rfl (OpP.len rfl rfl) ?_
        refine JL.decT rfl rfl (OpP.eql rfl rfl) (by omega) ?_
        refine JL.pure rfl rfl (OpP.pickT rfl rfl) ?_
        refine JL.pure rfl rfl (OpP.assign rfl) ?_
        refine JL.nil ?_
        refine J.ret1 rfl rfl ?_
      rotate_left 1
      focus
        refine JL.pure rfl rfl (OpP.move rfl) ?_
        refine JL.pure rfl rfl (OpP.move rfl) ?_
        refine JL.pure rfl rfl (OpP.move rfl) ?_
        refine JL.pure rfl rfl (OpP.len rfl rfl) ?_
        refine JL.decT rfl rfl (OpP.geq rfl rfl) (by omega) ?_
        refine JL.pure rfl rfl (OpP.pickF rfl rfl) ?_
        refine JL.nil ?_
        refine J.condT rfl ?_
        refine J.seq ?_
        refine J.region ?_
        refine JL.pure rfl rfl (OpP.move rfl) ?_
        refine JL.decT rfl rfl (OpP.eql rfl rfl) (by omega) ?_
        refine JL.pure rfl rfl (OpP.move rfl) ?_
        refine JL.pure rfl rfl (OpP.fieldAddr rfl) ?_
        refine JL.read rfl rfl (OpR.load1 rfl (Cell.row .head rfl)) ?_
        refine JL.pure rfl rfl (OpP.len rfl rfl) ?_
        refine JL.decT rfl rfl (OpP.eql rfl rfl) (by omega) ?_
        refine JL.pure rfl rfl (OpP.pickT rfl rfl) ?_
        refine JL.pure rfl rfl (OpP.assign rfl) ?_
        refine JL.nil ?_
        refine J.ret1 rfl rfl ?_
      rotate_left 1
      all_goals rfl
end Go.Proofs.B

-- seat b
namespace Go.Proofs.B
open Go Go.Gp Go.RowKit

theorem ChainProves_law {W : World} {a : Option Addr} {n c : Nat} {place : Int} (hK : Tab W 0 64 fun j => w32 (Kc j)) (h : Fm Tryd.prog W 22 [.slice a n c]) (_ : (Lit.int .i64 place).wf = true) :
    Calls Tryd.prog 11 #[.slice a n c, .int .i64 place] W fun e w' => e = .returned (.bool true) ∧ Below W.heap.size W w' := by
  obtain ⟨ps, hl, _, hp⟩ := Fm.parts Tryd.underlying22 Tryd.underlying29 Tryd.underlying5 (by kernel_rfl) (by kernel_rfl) h
  have hs := h.shapeOf Tryd.underlying22
  obtain ⟨a', c', e⟩ := hp.len (Own.nil W)
  cases e
  exact FnO.law (ChainProves_ok (place := place) (K := Kc) (awakeChain hK) hK hexKc hs hl hp) (Own.nil W)
end Go.Proofs.B

-- seat b
namespace Go.Proofs.B
open Go Go.Gp Go.RowKit

instance : MakeT Tryd.prog 56 29 5 := ⟨by
  have h : ((Tryd.prog.funcs[56]?).map fun fn => (fn.name == "runtime.NumGoroutine", fn.body.isNone, (Extern.findNext fn).isNone)) = some (false, true, true) := by kernel_rfl
  cases hf : Tryd.prog.funcs[56]? with
  | none => rw [hf] at h; cases h
  | some fn =>
    rw [hf, Option.map_some, Option.some.injEq, Prod.mk.injEq, Prod.mk.injEq] at h
    refine ⟨fn, #[3], rfl, h.1, h.2.1, by simpa using h.2.2, ?_, Tryd.underlying29⟩
    have h2 : (Tryd.prog.funcs[56]?).map (fun fn => Extern.find fn) = some (some (Extern.BytealgMakeNoZero.makeNoZero #[3] #[29])) := by kernel_rfl
    rw [hf] at h2
    exact Option.some.inj h2⟩
theorem Join_ok {w0 : World} {F : List HProp} {v : Value} {ps : List (Value × List UInt8)} (h2 : 2 ≤ ps.length) (hpl : ps.length ≤ 1000) (hlen : (cat ps).length ≤ 1000000) (hp : Parts w0 F v ps) :
    FnO Tryd.prog w0 53 [v, .slice none 0 0] F (fun r l' => (∃ a c, r = .slice a (cat ps).length c) ∧ l' = own 5 1 r (cat ps).length (bcells (cat ps)) :: F) := by
  refine FnO.rdF (fun _ h => h) hp.rd fun hp0 => ?_
  obtain ⟨g, p, c, rfl, hc, hcs⟩ := hp0.pos (by omega)
  refine FnO.weak ?_
  refine FnO.intro (n := 92) Tryd.func53 rfl rfl rfl ?_
  refine J.seq ?_
  refine J.region ?_
  refine JL.pure rfl rfl (OpP.assign rfl) ?_
  refine JL.nil ?_
  refine J.seq ?_
  refine J.seq ?_
  refine J.region ?_
  refine JL.pure rfl rfl (OpP.move rfl) ?_
  refine JL.pure rfl rfl (OpP.len rfl rfl) ?_
  refine JL.decF rfl rfl (OpP.eql rfl rfl) (by omega) ?_
  refine JL.nil ?_
  refine J.condF rfl ?_
  refine J.skip ?_
  refine J.seq ?_
  refine J.seq ?_
  refine J.region ?_
  refine JL.pure rfl rfl (OpP.move rfl) ?_
  refine JL.pure rfl rfl (OpP.len rfl rfl) ?_
  refine JL.decF rfl rfl (OpP.eql rfl rfl) (by omega) ?_
  refine JL.nil ?_
  refine J.condF rfl ?_
  refine J.skip ?_
  refine J.seq ?_
  refine J.region ?_
  refine JL.pure rfl rfl (OpP.assign rfl) ?_
  refine JL.nil ?_
  refine J.seq ?_
  refine J.seq ?_
  refine J.region ?_
  refine JL.pure rfl rfl (OpP.move rfl) ?_
  refine JL.pure rfl rfl (OpP.len rfl rfl) ?_
  refine JL.decF rfl rfl (OpP.gtr rfl rfl) (by omega) ?_
  refine JL.nil ?_
  refine J.condF rfl ?_
  refine J.skip ?_
  refine J.seq ?_
  refine J.seq ?_
  refine J.region ?_
  refine JL.pure rfl rfl (OpP.move rfl) ?_
  refine JL.pure rfl rfl (OpP.len rfl rfl) ?_
  refine JL.pure rfl rfl (OpP.move rfl) ?_
  refine JL.nil ?_
  refine J.block ?_
  refine J.loopI (fun x : Nat × Nat => ps.length - x.1) (fun x => x.1 ≤ ps.length ∧ x.2 = (cat (ps.take x.1)).length) (fun x => [(44, .int .i64 (x.1 : Nat)), (43, .int .i64 (ps.length : Nat)), (42, .slice (some ⟨g, p, none⟩) ps.length c), (5, .int .i64 (x.2 : Nat)), (0, .slice (some ⟨g, p, none⟩) ps.length c), (1, .slice none 0 0)])
    (fun _ => F) (0, 0) ⟨Nat.zero_le _, rfl⟩ (by repeat (first | exact SubEnv.nil | refine SubEnv.cons (by first | rfl | exact congrArg (fun z => some (Value.int .i64 z)) (by omega) | (simp; done)) ?_)) (fun _ h => h) (fun ⟨i, n⟩ hi back => ?_)
  dsimp only at hi back ⊢
  obtain ⟨hi, hn⟩ := hi
  by_cases hlt : i < ps.length
  · obtain ⟨pa, pc, q, hpi, hpv, hpr⟩ := hp.at hlt
    have hct := congrArg List.length (cat_take hpi)
    rw [List.length_append] at hct
    have hle := cat_take_le ps (i + 1)
    refine J.seq ?_
    refine J.region ?_
    refine JL.decT rfl rfl (OpP.lss rfl rfl) (by omega) ?_
    refine JL.nil ?_
    refine J.seq ?_
    refine J.condT rfl ?_
    refine J.skip ?_
    refine J.seq ?_
    refine J.block ?_
    refine J.seq ?_
    refine J.region ?_
    refine JL.pure rfl rfl (OpP.indexAddr rfl rfl (by omega) (by omega)) ?_
    refine JL.read rfl rfl (OpR.load1 rfl (by apply Cells.cell hcs (fun _ h => h); (case' hv => assumption); (case' ho => omega); done)) ?_
    refine JL.pure rfl rfl (OpP.assign rfl) ?_
    refine JL.nil ?_
    refine J.seq ?_
    refine J.seq ?_
    refine J.region ?_
    refine JL.pure rfl rfl (OpP.move rfl) ?_
    refine JL.pure rfl rfl (OpP.len rfl rfl) ?_
    refine JL.pure rfl rfl (OpP.move rfl) ?_
    refine JL.pure rfl rfl (OpP.subI rfl rfl (by omega) (by omega)) ?_
    refine JL.decF rfl rfl (OpP.gtr rfl rfl) (by omega) ?_
    refine JL.nil ?_
    refine J.condF rfl ?_
    refine J.skip ?_
    refine J.region ?_
    refine JL.pure rfl rfl (OpP.move rfl) ?_
    refine JL.pure rfl rfl (OpP.move rfl) ?_
    refine JL.pure rfl rfl (OpP.len rfl rfl) ?_
    refine JL.pure rfl rfl (OpP.addI rfl rfl (by omega) (by omega)) ?_
    refine JL.pure rfl rfl (OpP.assign rfl) ?_
    refine JL.nil ?_
    refine J.inBlock ?_
    refine J.region ?_
    refine JL.pure rfl rfl (OpP.addI rfl rfl (by omega) (by omega)) ?_
    refine JL.pure rfl rfl (OpP.move rfl) ?_
    refine JL.nil ?_
    exact back (i + 1, n + q.length) ⟨by dsimp only; omega, by dsimp only; omega⟩ (by dsimp only; omega) (by repeat (first | exact SubEnv.nil | refine SubEnv.cons (by first | rfl | exact congrArg (fun z => some (Value.int .i64 z)) (by omega) | (simp; done)) ?_)) (fun _ h => h)
  · have : i = ps.length := by omega
    subst this
    rw [List.take_length] at hn
    clear back
    subst hn
    obtain ⟨pa, pc, q, hpi, hpv, hpr⟩ := hp.at (i := 0) (by omega)
    have hct := cat_take hpi
    rw [List.take_zero, show cat [] = [] from rfl, List.nil_append] at hct
    have hle0 := cat_take_le ps 1
    rw [hct] at hle0
    refine J.seq ?_
    refine J.region ?_
    refine JL.decF rfl rfl (OpP.lss rfl rfl) (by omega) ?_
    refine JL.nil ?_
    refine J.seq ?_
    refine J.condF rfl ?_
    refine J.exit rfl ?_
    refine J.seq ?_
    refine J.region ?_
    refine JL.pure rfl rfl (OpP.move rfl) ?_
    refine JL.mem rfl rfl (OpM.makeNoZero (fid := 56) (n := (cat ps).length) rfl rfl hlen) ?_; rintro _ _ ⟨b, cs, rfl, hcl, rfl⟩
    refine JL.pure rfl rfl (OpP.move rfl) ?_
    refine JL.pure rfl rfl (OpP.move rfl) ?_
    refine JL.pure rfl rfl (OpP.sliceTo3 (h := (cat ps).length) (m := (cat ps).length) rfl rfl rfl (Nat.le_refl _) hcl) ?_
    refine JL.pure rfl rfl (OpP.assign rfl) ?_
    refine JL.nil ?_
    refine J.seq ?_
    refine J.region ?_
    refine JL.pure rfl rfl (OpP.move rfl) ?_
    refine JL.pure rfl rfl (OpP.move rfl) ?_
    refine JL.pure rfl rfl (OpP.indexAddr rfl rfl (by omega) (by omega)) ?_
    refine JL.read rfl rfl (OpR.load1 rfl (by apply Cells.cell hcs (fun _ h => Own.pick (pre := [_]) [] rfl h); (case' hv => assumption); (case' ho => omega); done)) ?_
    have hspl : Spl cs 0 (bcells q) (bufC q cs) := spl_buf (L := []) (N := q) (o := 0) (by simp; omega) (.inl rfl)
    refine JL.mem rfl rfl (by apply OpM.copyAll rfl rfl rfl ((hpr.conv fun _ h => h.tail).src (sz := 1) (by rw [bcells_length]; omega)) (by omega) ⟨_, _, rfl⟩ (bcells_one _) hspl; exact .head) ?_; rintro _ _ ⟨rfl, rfl⟩
    clear hspl
    refine JL.pure rfl rfl (OpP.assign rfl) ?_
    refine JL.nil ?_
    refine J.seq ?_
    refine J.seq ?_
    refine J.region ?_
    refine JL.pure rfl rfl (OpP.move rfl) ?_
    refine JL.pure rfl rfl (OpP.sliceFrom 1 rfl rfl rfl (by omega) (by omega)) ?_
    refine JL.pure rfl rfl (OpP.len rfl rfl) ?_
    refine JL.pure rfl rfl (OpP.move rfl) ?_
    refine JL.nil ?_
    refine J.block ?_
    rw [show (if c = 1 then p else p + 1 * 1) = p + 1 from if_neg (by omega)]
    refine J.loopI (fun x : Nat × List UInt8 => ps.length - 1 - x.1) (fun x => x.1 + 1 ≤ ps.length ∧ x.2 = cat (ps.take (x.1 + 1))) (fun x => [(72, .int .i64 (x.1 : Nat)), (71, .int .i64 ((ps.length - 1 : Nat) : Int)), (70, .slice (some ⟨g, p + 1, none⟩) (ps.length - 1) (c - 1)), (9, .int .i64 (x.2.length : Nat)), (8, .slice (some ⟨b, 0, none⟩) (cat ps).length (cat ps).length), (1, .slice none 0 0)])
      (fun x => row b 5 (bufC x.2 cs) :: F) (0, q) ⟨by dsimp only; omega, hct.symm⟩ (by repeat (first | exact SubEnv.nil | refine SubEnv.cons (by first | rfl | exact congrArg (fun z => some (Value.int .i64 z)) (by omega) | (simp; done)) ?_)) (fun _ h => h) (fun ⟨i, L⟩ hi back => ?_)
    dsimp only at hi back ⊢
    obtain ⟨hi, hL⟩ := hi
    by_cases hlt : i < ps.length - 1
    · obtain ⟨pa, pc, q2, hpi2, hpv2, hpr2⟩ := hp.at (i := i + 1) (by omega)
      have hct2 := cat_take hpi2
      have hle2 := cat_take_le ps (i + 1 + 1)
      rw [hct2, ← hL] at hle2
      rw [List.length_append] at hle2
      refine J.seq ?_
      refine J.region ?_
      refine JL.decT rfl rfl (OpP.lss rfl rfl) (by omega) ?_
      refine JL.nil ?_
      refine J.seq ?_
      refine J.condT rfl ?_
      refine J.skip ?_
      refine J.seq ?_
      refine J.block ?_
      refine J.seq ?_
      refine J.region ?_
      refine JL.pure rfl rfl (OpP.indexAddr rfl rfl (by omega) (by omega)) ?_
      refine JL.read rfl rfl (OpR.load1 rfl (by apply Cells.cell hcs (fun _ h => Own.pick (pre := [_]) [] rfl h); (case' hv => assumption); (case' ho => omega); done)) ?_
      refine JL.pure rfl rfl (OpP.assign rfl) ?_
      refine JL.nil ?_
      refine J.seq ?_
      refine J.region ?_
      refine JL.pure rfl rfl (OpP.move rfl) ?_
      refine JL.pure rfl rfl (OpP.move rfl) ?_
      refine JL.pure rfl rfl (OpP.move rfl) ?_
      refine JL.pure rfl rfl (OpP.sliceFrom _ rfl rfl rfl (by omega) (by omega)) ?_
      refine JL.pure rfl rfl (OpP.move rfl) ?_
      have hs0 : Spl (bufC L cs) (if (cat ps).length = L.length then 0 else 0 + L.length * 1) [] (bufC L cs) := spl_none (by rw [bufC_length (by omega)]; split <;> omega)
      refine JL.mem rfl rfl (by apply OpM.copyAll (m := 0) (news := []) rfl rfl rfl Src.nil (Nat.zero_le _) ⟨_, _, rfl⟩ (fun _ h => nomatch h) hs0; exact .head) ?_; rintro _ _ ⟨rfl, rfl⟩
      clear hs0
      refine JL.pure rfl rfl (OpP.addI rfl rfl (by omega) (by omega)) ?_
      rw [show ((L.length : Nat) : Int) + ((0 : Nat) : Int) = ((L.length : Nat) : Int) from Int.add_zero _]
      refine JL.pure rfl rfl (OpP.assign rfl) ?_
      refine JL.nil ?_
      refine J.region ?_
      refine JL.pure rfl rfl (OpP.move rfl) ?_
      refine JL.pure rfl rfl (OpP.move rfl) ?_
      refine JL.pure rfl rfl (OpP.move rfl) ?_
      refine JL.pure rfl rfl (OpP.sliceFrom _ rfl rfl rfl (by omega) (by omega)) ?_
      refine JL.pure rfl rfl (OpP.move rfl) ?_
      have hspl : Spl (bufC L cs) (if (cat ps).length = L.length then 0 else 0 + L.length * 1) (bcells q2) (bufC (L ++ q2) cs) := by
        refine spl_buf (by omega) ?_
        split
        · exact .inr ⟨List.eq_nil_of_length_eq_zero (by omega), Nat.zero_le _⟩
        · exact .inl (by omega)
      refine JL.mem rfl rfl (by apply OpM.copyAll rfl rfl rfl ((hpr2.conv fun _ h => h.tail).src (sz := 1) (by rw [bcells_length]; omega)) (by omega) ⟨_, _, rfl⟩ (bcells_one _) hspl; exact .head) ?_; rintro _ _ ⟨rfl, rfl⟩
      clear hspl
      refine JL.pure rfl rfl (OpP.addI rfl rfl (by omega) (by omega)) ?_
      refine JL.pure rfl rfl (OpP.assign rfl) ?_
      refine JL.nil ?_
      refine J.inBlock ?_
      refine J.region ?_
      refine JL.pure rfl rfl (OpP.addI rfl rfl (by omega) (by omega)) ?_
      refine JL.pure rfl rfl (OpP.move rfl) ?_
      refine JL.nil ?_
      rw [show ((L.length : Nat) : Int) + ((q2.length : Nat) : Int) = (((L ++ q2).length : Nat) : Int) by rw [List.length_append]; rfl]
      refine back (i + 1, L ++ q2) ⟨by dsimp only; omega, by dsimp only; rw [hct2, hL]⟩ (by dsimp only; omega) (by repeat (first | exact SubEnv.nil | refine SubEnv.cons (by first | rfl | exact congrArg (fun z => some (Value.int .i64 z)) (by omega) | (simp; done)) ?_)) (fun _ h => h)
    · have : i + 1 = ps.length := by omega
      rw [this, List.take_length] at hL
      subst hL
      refine J.seq ?_
      refine J.region ?_
      refine JL.decF rfl rfl (OpP.lss rfl rfl) (by omega) ?_
      refine JL.nil ?_
      refine J.seq ?_
      refine J.condF rfl ?_
      refine J.exit rfl ?_
      refine J.seq ?_
      refine J.region ?_
      refine JL.pure rfl rfl (OpP.move rfl) ?_
      refine JL.pure rfl rfl (OpP.assign rfl) ?_
      refine JL.nil ?_
      refine J.ret1 rfl rfl ?_
      exact ⟨_, ⟨⟨_, _, rfl⟩, rfl⟩, fun _ h => Own.own_in (pre := []) (Nat.le_refl _) (by simp only [maxLen]; omega) (by rw [bcells_length]; omega) (by omega) h⟩
end Go.Proofs.B

-- seat b
namespace Go.Proofs.B
open Go Go.Gp Go.RowKit

theorem linkT_length {h rc : List UInt8} : (linkT h rc).length = h.length + (4 + rc.length) := by simp [linkT, be4]; omega
theorem linkT_inj {h h' rc rc' : List UInt8} (hl : h.length = 32) (hl' : h'.length = 32) (e : linkT h rc = linkT h' rc') : h = h' ∧ rc = rc' := by
  unfold linkT at e
  obtain ⟨e1, e2⟩ := List.append_inj e (by omega)
  have e3 := List.append_inj e2 (by simp [be4])
  exact ⟨e1, e3.2⟩
theorem Linked_ok {w0 : World} {F : List HProp} {h rc : List UInt8} {n : Int} {v : Value} (hp : h.length = 32) (hl : rc.length ≤ 80000) (hr : RdO w0 F v rc.length (bcells rc)) :
    FnO Tryd.prog w0 43 [.agg (hdC h n).toArray, v] F (fun r l' => (∃ a c, r = .slice a (linkT h rc).length c) ∧ l' = own 5 1 r (linkT h rc).length (bcells (linkT h rc)) :: F) := by
  refine FnO.rdF (fun _ h => h) hr fun hr0 => ?_
  obtain ⟨va, vc, rfl⟩ := hr0.lit
  refine FnO.weak ?_
  refine FnO.intro (n := 26) Tryd.func43 rfl rfl rfl ?_
  have hs : rc.length ≤ 4294967295 := by omega
  have hl2 : ∀ h : True, rc.length ≤ 80000 := fun _ => hl
  clear hl
  refine J.seq ?_
  refine J.region ?_
  refine JL.mem rfl rfl (OpM.box rfl rfl) ?_; rintro _ _ ⟨b2, rfl, rfl⟩
  refine JL.pure rfl rfl (OpP.assign rfl) ?_
  refine JL.nil ?_
  refine J.seq ?_
  refine J.region ?_
  refine JL.pure rfl rfl (OpP.move rfl) ?_
  refine JL.pure rfl rfl (OpP.len rfl rfl) ?_
  refine JL.pure rfl rfl (OpP.convI rfl (by simp [IntKind.min, IntKind.max, IntKind.signed, IntKind.bits] <;> omega) (by simp [IntKind.min, IntKind.max, IntKind.signed, IntKind.bits] <;> omega)) ?_
  refine JL.pure rfl rfl (OpP.assign rfl) ?_
  refine JL.nil ?_
  refine J.seq ?_
  refine J.region ?_
  refine JL.pure rfl rfl (OpP.fieldAddr rfl) ?_
  refine JL.pure rfl rfl (OpP.sliceA rfl rfl rfl (by first | exact .inl ⟨rfl, rfl⟩ | exact .inr ⟨_, rfl⟩) (by first | exact .inl ⟨rfl, rfl⟩ | exact .inr ⟨_, rfl⟩) (by omega) (by omega)) ?_
  refine JL.pure rfl rfl (OpP.move rfl) ?_
  refine JL.pure rfl rfl (OpP.shrN rfl rfl (by omega) (by first | decide | (simp only [IntKind.bits]; omega))) ?_
  refine JL.pure rfl rfl (OpP.convI rfl (by simp [IntKind.min, IntKind.max, IntKind.signed, IntKind.bits] <;> omega) (by simp [IntKind.min, IntKind.max, IntKind.signed, IntKind.bits] <;> omega)) ?_
  refine JL.pure rfl rfl (OpP.move rfl) ?_
  refine JL.pure rfl rfl (OpP.shrN rfl rfl (by omega) (by first | decide | (simp only [IntKind.bits]; omega))) ?_
  refine JL.pure rfl rfl (OpP.conv rfl) ?_
  refine JL.pure rfl rfl (OpP.move rfl) ?_
  refine JL.pure rfl rfl (OpP.shrN rfl rfl (by omega) (by first | decide | (simp only [IntKind.bits]; omega))) ?_
  refine JL.pure rfl rfl (OpP.conv rfl) ?_
  refine JL.pure rfl rfl (OpP.move rfl) ?_
  refine JL.pure rfl rfl (OpP.conv rfl) ?_
  refine JL.mem rfl rfl (by apply OpM.buildSlice (by rfl) rfl (by rfl); (repeat (first | exact Fills.nil | (apply Fills.cons rfl rfl rfl; (case' hs => ((repeat (first | exact Spl.nil | apply Spl.here | apply Spl.there)); done)))))) ?_; rintro _ _ ⟨b22, rfl, rfl⟩
  refine JL.pure rfl rfl (OpP.move rfl) ?_
  refine JL.mem rfl rfl (by apply OpM.buildSlice (by rfl) rfl (by rfl); (repeat (first | exact Fills.nil | (apply Fills.cons rfl rfl rfl; (case' hs => ((repeat (first | exact Spl.nil | apply Spl.here | apply Spl.there)); done)))))) ?_; rintro _ _ ⟨b24, rfl, rfl⟩
  have e24 : Value.int .u8 ((rc.length / 2 ^ Int.toNat 24 : Nat) : Int) = u8c (UInt8.ofNat (rc.length / 16777216)) := by
    rw [← wrapB, wrap_u8]
    show Value.int .u8 ((rc.length / 16777216 : Nat) : Int) = _
    congr 1
    omega
  rw [show (32 - 0 : Nat) = h.length from hp.symm, show (if 32 = 0 then 0 + 0 else 0 + 0 + 0 * 1) = 0 from rfl, e24, wrapB, wrapB, wrapB]
  have h1 : (cat [(Value.bool true, h), (Value.bool true, be4 rc.length), (Value.bool true, rc)]).length ≤ 1000000 := by
    have := hl2 trivial
    simp [cat, hp, be4]; omega
  refine JL.step rfl rfl (OpW.call (first := []) (captured := []) inferInstance rfl rfl (Join_ok (ps := [(_, h), (_, be4 rc.length), (_, rc)]) (by exact Nat.le_of_ble_eq_true rfl) (by exact Nat.le_of_ble_eq_true rfl) (by exact h1) (Parts.row3 .head (RdO.ofHd (.tail (.tail .head)) (by assumption) (by omega)) (RdO.ofRow (.tail .head) (by first | exact Nat.le_refl _ | decide | omega)) (hr.conv fun _ h => Own.pick (pre := [_, _, _]) [] rfl h) (Nat.le_refl _)))) ?_; rintro r25 _ ⟨⟨a, ⟨c, rfl⟩⟩, rfl⟩
  refine JL.pure rfl rfl (OpP.assign rfl) ?_
  refine JL.nil ?_
  refine J.ret1 rfl rfl ?_
  rw [cat_link]
  exact ⟨_, ⟨⟨a, _, rfl⟩, rfl⟩, fun _ h => Own.pick (pre := [_, _, _, _]) [0] rfl h⟩
theorem Clash_ok {w0 : World} {v1 v2 : Value} {ps1 ps2 : List (Value × List UInt8)} {K : Ws} (hK : Tab w0 0 64 fun j => w32 (K j)) (hs1 : ShapeOf v1 ps1.length) (hs2 : ShapeOf v2 ps2.length) (hpl1 : ps1.length ≤ 1000) (hpl2 : ps2.length ≤ 1000) (hrl1 : ∀ p ∈ ps1, p.2.length ≤ 80000) (hrl2 : ∀ p ∈ ps2, p.2.length ≤ 80000) (hp1 : Parts w0 [] v1 ps1) (hp2 : Parts w0 [] v2 ps2) :
    FnO Tryd.prog w0 34 [v1, v2] [] (fun r l' => (r = .tuple #[.slice none 0 0, .slice none 0 0, .bool false] ∧ (hsh K h0 (recs ps1) = hsh K h0 (recs ps2) ∧ ps1.length = ps2.length → recs ps1 = recs ps2) ∧ l' = []) ∨
      ∃ a c a2 c2, ∃ X Y : List UInt8, r = .tuple #[.slice a X.length c, .slice a2 Y.length c2, .bool true] ∧ (X ≠ Y ∧ shaB K X = shaB K Y ∧ X.length ≤ 90000 ∧ Y.length ≤ 90000 ∧ recs ps1 ≠ recs ps2 ∧ hsh K h0 (recs ps1) = hsh K h0 (recs ps2) ∧ ps1.length = ps2.length) ∧ l' = [own 5 1 (.slice a X.length c) X.length (bcells X), own 5 1 (.slice a2 Y.length c2) Y.length (bcells Y)]) := by
  obtain ⟨va, vc, rfl⟩ := hp1.len (Own.nil w0)
  obtain ⟨ua, uc, rfl⟩ := hp2.len (Own.nil w0)
  have hl0 : h0.length = 32 := by simp [h0]
  have hh1 := hsh_len (K := K) hl0 (recs ps1)
  have hh2 := hsh_len (K := K) hl0 (recs ps2)
  have hw1 : (Lit.int .i64 ((ps1.length : Nat) : Int)).wf = true := by simp [Lit.wf, IntKind.min, IntKind.max, IntKind.signed, IntKind.bits]; omega
  have hw2 : (Lit.int .i64 ((ps2.length : Nat) : Int)).wf = true := by simp [Lit.wf, IntKind.min, IntKind.max, IntKind.signed, IntKind.bits]; omega
  refine FnO.weak ?_
  refine FnO.intro (n := 46) Tryd.func34 rfl rfl rfl ?_
  refine J.seq ?_
  refine J.region ?_
  refine JL.pure rfl rfl (OpP.assign rfl) ?_
  refine JL.pure rfl rfl (OpP.assign rfl) ?_
  refine JL.pure rfl rfl (OpP.assign rfl) ?_
  refine JL.nil ?_
  refine J.seq ?_
  refine J.seq ?_
  refine J.region ?_
  refine JL.pure rfl rfl (OpP.move rfl) ?_
  refine JL.step rfl rfl (OpW.call (first := []) (captured := []) inferInstance rfl rfl (All_ok hK hrl1 (by omega) (hp1.conv (fun _ h => h.none)))) ?_; rintro r11 _ ⟨rfl, rfl⟩
  refine JL.pure rfl rfl (OpP.move rfl) ?_
  refine JL.step rfl rfl (OpW.call (first := []) (captured := []) inferInstance rfl rfl (All_ok hK hrl2 (by omega) (hp2.conv (fun _ h => h.none)))) ?_; rintro r13 _ ⟨rfl, rfl⟩
  refine JL.pure rfl rfl (OpP.neHead rfl rfl (by first | assumption | exact Go.Proofs.B.shaB_length _ _ | solve_by_elim) (by first | assumption | exact Go.Proofs.B.shaB_length _ _ | solve_by_elim) (by first | assumption | (simp [Lit.wf, IntKind.min, IntKind.max, IntKind.signed, IntKind.bits] <;> omega)) (by first | assumption | (simp [Lit.wf, IntKind.min, IntKind.max, IntKind.signed, IntKind.bits] <;> omega))) ?_
  refine JL.nil ?_
  refine J.decAt 14 rfl (fun h14 => ?_) (fun h14 => ?_)
  focus
    refine J.condT rfl ?_
    refine J.seq ?_
    refine J.region ?_
    refine JL.pure rfl rfl (OpP.assign rfl) ?_
    refine JL.pure rfl rfl (OpP.assign rfl) ?_
    refine JL.pure rfl rfl (OpP.assign rfl) ?_
    refine JL.nil ?_
    refine J.ret3 rfl rfl rfl rfl ?_
  rotate_left 1
  focus
    refine J.condF rfl ?_
    refine J.skip ?_
    refine J.seq ?_
    refine J.seq ?_
    refine J.region ?_
    refine JL.pure rfl rfl (OpP.move rfl) ?_
    refine JL.pure rfl rfl (OpP.len rfl rfl) ?_
    refine JL.pure rfl rfl (OpP.subI rfl rfl (by omega) (by omega)) ?_
    refine JL.pure rfl rfl (OpP.assign rfl) ?_
    refine JL.nil ?_
    refine J.block ?_
  rotate_left 1
  · exact ⟨_, .inl ⟨rfl, fun q => absurd ⟨q.1, by omega⟩ h14, rfl⟩, fun _ h => h⟩
  · obtain ⟨hhe, hne⟩ := Decidable.not_not.1 h14
    have hn : ps1.length = ps2.length := by omega
    refine J.loopI (fun k : Nat => k) (fun k => k ≤ ps1.length ∧ hsh K h0 (recs (ps1.take k)) = hsh K h0 (recs (ps2.take k)) ∧ recs (ps1.drop k) = recs (ps2.drop k)) (fun k => [(7, .int .i64 ((k : Nat) - 1 : Int)), (0, .slice va ps1.length vc), (1, .slice ua ps2.length uc)])
      (fun _ => []) ps1.length ⟨Nat.le_refl _, by rw [List.take_length, hn, List.take_length]; exact hhe, by rw [List.drop_length, hn, List.drop_length]⟩ (by repeat (first | exact SubEnv.nil | refine SubEnv.cons (by first | rfl | exact congrArg (fun z => some (Value.int .i64 z)) (by omega) | (simp; done)) ?_)) (fun _ h => h) (fun k hi back => ?_)
    dsimp only at hi back ⊢
    obtain ⟨hk, ha, hd⟩ := hi
    cases k with
    | zero =>
      refine J.seq ?_
      refine J.seq ?_
      refine J.region ?_
      refine JL.pure rfl rfl (OpP.move rfl) ?_
      refine JL.decF rfl rfl (OpP.geq rfl rfl) (by omega) ?_
      refine JL.nil ?_
      refine J.condF rfl ?_
      refine J.exit rfl ?_
      refine J.seq ?_
      refine J.region ?_
      refine JL.pure rfl rfl (OpP.assign rfl) ?_
      refine JL.pure rfl rfl (OpP.assign rfl) ?_
      refine JL.pure rfl rfl (OpP.assign rfl) ?_
      refine JL.nil ?_
      refine J.ret3 rfl rfl rfl rfl ?_
      exact ⟨_, .inl ⟨rfl, fun _ => hd, rfl⟩, fun _ h => h⟩
    | succ m =>
      rw [show (((m + 1 : Nat) : Int) - 1) = (m : Nat) by omega]
      obtain ⟨g1, o1, q1, e1, k1, cc1⟩ := (hp1.rd w0 (Own.nil w0)).pos (by omega)
      cases e1
      obtain ⟨g2, o2, q2, e2, k2, cc2⟩ := (hp2.rd w0 (Own.nil w0)).pos (by omega)
      cases e2
      obtain ⟨pa, pc, x, hpi, hpv, hpr⟩ := hp1.at (i := m) (by omega)
      obtain ⟨qa, qc, y, hqi, hqv, hqr⟩ := hp2.at (i := m) (by omega)
      obtain ⟨ta, tc, t1, t2⟩ := Parts.to (P := Tryd.prog) (t := 22) (k := m) hs1 hp1 (by omega)
      obtain ⟨ua, uc, u1, u2⟩ := Parts.to (P := Tryd.prog) (t := 22) (k := m) hs2 hp2 (by omega)
      have l1 : ∀ p ∈ ps1.take m, p.2.length ≤ 80000 := fun p hm => hrl1 p (List.mem_of_mem_take hm)
      have l2 : ∀ p ∈ ps2.take m, p.2.length ≤ 80000 := fun p hm => hrl2 p (List.mem_of_mem_take hm)
      have n1 : (ps1.take m).length = m := by rw [List.length_take]; omega
      have n2 : (ps2.take m).length = m := by rw [List.length_take]; omega
      have hx : x.length ≤ 80000 := hrl1 _ (List.mem_of_getElem? hpi)
      have hy : y.length ≤ 80000 := hrl2 _ (List.mem_of_getElem? hqi)
      have f1 := hsh_len (K := K) hl0 (recs (ps1.take m))
      have f2 := hsh_len (K := K) hl0 (recs (ps2.take m))
      refine J.seq ?_
      refine J.seq ?_
      refine J.region ?_
      refine JL.pure rfl rfl (OpP.move rfl) ?_
      refine JL.decT rfl rfl (OpP.geq rfl rfl) (by omega) ?_
      refine JL.nil ?_
      refine J.condT rfl ?_
      refine J.skip ?_
      refine J.seq ?_
      refine J.block ?_
      refine J.seq ?_
      refine J.regionD [7, 16] (by kernel_rfl) ?_
      refine DL.pure (i := 0) (by kernel_rfl) (by kernel_rfl) rfl rfl rfl (OpP.move rfl) ?_
      refine DL.pure (i := 1) (by kernel_rfl) (by kernel_rfl) rfl rfl rfl (OpP.move rfl) ?_
      refine DL.pure (i := 2) (by kernel_rfl) (by kernel_rfl) rfl rfl rfl ((SlTo.op (by assumption) rfl rfl)) ?_
      refine DL.pure (i := 4) (by kernel_rfl) (by kernel_rfl) rfl rfl rfl (OpP.move rfl) ?_
      refine DL.pure (i := 5) (by kernel_rfl) (by kernel_rfl) rfl rfl rfl (OpP.move rfl) ?_
      refine DL.pure (i := 6) (by kernel_rfl) (by kernel_rfl) rfl rfl rfl (OpP.indexAddr rfl rfl (by omega) (by omega)) ?_
      refine DL.read (i := 7) (by kernel_rfl) (by kernel_rfl) rfl rfl rfl (fun _ h => h) (OpR.load1 rfl (by apply Cells.cell cc1 (fun _ h => h.none); (case' hv => assumption); (case' ho => omega); done)) ?_
      refine DL.pure (i := 9) (by kernel_rfl) (by kernel_rfl) rfl rfl rfl (OpP.move rfl) ?_
      refine DL.pure (i := 10) (by kernel_rfl) (by kernel_rfl) rfl rfl rfl (OpP.move rfl) ?_
      refine DL.pure (i := 11) (by kernel_rfl) (by kernel_rfl) rfl rfl rfl ((SlTo.op (by assumption) rfl rfl)) ?_
      refine DL.pure (i := 13) (by kernel_rfl) (by kernel_rfl) rfl rfl rfl (OpP.move rfl) ?_
      refine DL.pure (i := 14) (by kernel_rfl) (by kernel_rfl) rfl rfl rfl (OpP.move rfl) ?_
      refine DL.pure (i := 15) (by kernel_rfl) (by kernel_rfl) rfl rfl rfl (OpP.indexAddr rfl rfl (by omega) (by omega)) ?_
      refine DL.read (i := 16) (by kernel_rfl) (by kernel_rfl) rfl rfl rfl (fun _ h => h) (OpR.load1 rfl (by apply Cells.cell cc2 (fun _ h => h.none); (case' hv => assumption); (case' ho => omega); done)) ?_
      refine DL.only (i := 3) (by kernel_rfl) ?_
      refine DL1.stepK rfl rfl rfl (by exact OpW.call (first := []) (captured := []) inferInstance rfl rfl (All_ok hK l1 (by omega) (t2.conv (fun _ h => h.none)))) (by rintro _ _ ⟨rfl, rfl⟩ _ h; exact Own.pick (pre := []) [] rfl h) ?_; rintro r25 _ ⟨rfl, rfl⟩
      refine DL.only (i := 8) (by kernel_rfl) ?_
      refine DL1.stepK rfl rfl rfl (by exact OpW.call (first := []) (captured := []) inferInstance rfl rfl (Linked_ok f1 hx (hpr.conv fun _ h => h.none))) (by rintro _ _ ⟨⟨a, ⟨c, rfl⟩⟩, rfl⟩ _ h; exact Own.pick (pre := [_]) [] rfl h) ?_; rintro r30 _ ⟨⟨a, ⟨c, rfl⟩⟩, rfl⟩
      refine DL.only (i := 12) (by kernel_rfl) ?_
      refine DL1.stepK rfl rfl rfl (by exact OpW.call (first := []) (captured := []) inferInstance rfl rfl (All_ok hK l2 (by omega) (u2.conv (fun _ h => h.none)))) (by rintro _ _ ⟨rfl, rfl⟩ _ h; exact Own.pick (pre := [_]) [] rfl h) ?_; rintro r34 _ ⟨rfl, rfl⟩
      refine DL.only (i := 17) (by kernel_rfl) ?_
      refine DL1.stepF rfl rfl rfl (by kernel_rfl) (by exact OpW.call (first := []) (captured := []) inferInstance rfl rfl (Linked_ok f2 hy (hqr.conv fun _ h => h.none))) ?_; rintro r39 _ ⟨⟨a1, ⟨c1, rfl⟩⟩, rfl⟩
      refine DL.pure (i := 18) (by kernel_rfl) (by kernel_rfl) rfl rfl rfl (OpP.assign rfl) ?_
      refine DL.pure (i := 19) (by kernel_rfl) (by kernel_rfl) rfl rfl rfl (OpP.assign rfl) ?_
      refine DL.done (by kernel_rfl) ?_
      refine J.seq ?_
      refine J.region ?_
      refine JL.pure rfl rfl (OpP.move rfl) ?_
      refine JL.pure rfl rfl (OpP.move rfl) ?_
      refine JL.step rfl rfl (OpW.call (first := []) (captured := []) inferInstance rfl rfl (Equal_ok (RdO.own (.tail .head)) (RdO.own .head))) ?_; rintro r42 _ ⟨rfl, rfl⟩
      refine JL.pure rfl rfl (OpP.notB rfl) ?_
      refine JL.nil ?_
      refine J.splitAt 43 rfl (fun h43 => ?_) (fun h43 => ?_)
      focus
        refine J.condT rfl ?_
        refine J.seq ?_
        refine J.region ?_
        refine JL.pure rfl rfl (OpP.move rfl) ?_
        refine JL.pure rfl rfl (OpP.move rfl) ?_
        refine JL.pure rfl rfl (OpP.assign rfl) ?_
        refine JL.pure rfl rfl (OpP.assign rfl) ?_
        refine JL.pure rfl rfl (OpP.assign rfl) ?_
        refine JL.nil ?_
        refine J.ret3 rfl rfl rfl rfl ?_
      rotate_left 1
      focus
        refine J.condF rfl ?_
        refine J.skip ?_
        refine J.inBlock ?_
        refine J.region ?_
        refine JL.pure rfl rfl (OpP.move rfl) ?_
        refine JL.pure rfl rfl (OpP.subI rfl rfl (by omega) (by omega)) ?_
        refine JL.pure rfl rfl (OpP.assign rfl) ?_
        refine JL.nil ?_
      rotate_left 1
      · have hXY : linkT (hsh K h0 (recs (ps1.take m))) x ≠ linkT (hsh K h0 (recs (ps2.take m))) y := by simpa using h43
        refine ⟨_, .inr ⟨_, _, _, _, _, _, rfl, ⟨hXY, ?_, by rw [linkT_length]; omega, by rw [linkT_length]; omega, fun e => hXY ?_, hhe, hn⟩, rfl⟩, fun _ h => Own.f1 h⟩
        · have h1 := hsh_snoc K h0 (recs (ps1.take m)) x
          have h2 := hsh_snoc K h0 (recs (ps2.take m)) y
          rw [← h1, ← h2, ← recs_take hpi, ← recs_take hqi]
          exact ha
        · have e1 : recs (ps1.take m) = recs (ps2.take m) := by rw [recs, recs, List.map_take, List.map_take]; exact congrArg (List.take m) e
          have hx0 : (recs ps1)[m]? = some x := by rw [recs, List.getElem?_map, hpi]; rfl
          have hy0 : (recs ps2)[m]? = some y := by rw [recs, List.getElem?_map, hqi]; rfl
          rw [e, hy0, Option.some.injEq] at hx0
          rw [e1, hx0]
      · have hXY : linkT (hsh K h0 (recs (ps1.take m))) x = linkT (hsh K h0 (recs (ps2.take m))) y := by simpa using h43
        obtain ⟨r1, r2⟩ := linkT_inj f1 f2 hXY
        have d1 : ps1.drop m = _ := List.drop_eq_getElem_cons (by omega)
        have d2 : ps2.drop m = _ := List.drop_eq_getElem_cons (by omega)
        refine back m ⟨by omega, r1, ?_⟩ (by omega) (by repeat (first | exact SubEnv.nil | refine SubEnv.cons (by first | rfl | exact congrArg (fun z => some (Value.int .i64 z)) (by omega) | (simp; done)) ?_)) (fun _ h => h.tail.tail)
        rw [List.getElem?_eq_getElem (by omega), Option.some.injEq] at hpi hqi
        rw [d1, d2, hpi, hqi, recs, recs, List.map_cons, List.map_cons, r2]
        exact congrArg (List.cons y) hd
end Go.Proofs.B

-- seat b
namespace Go.Proofs.B
open Go Go.Gp Go.RowKit

theorem ChainClashes_ok {w0 : World} {v1 v2 : Value} {ps1 ps2 : List (Value × List UInt8)} {K : Ws} (hA : IsAwake w0 25) (hK : Tab w0 0 64 fun j => w32 (K j)) (hK2 : ∀ i, i < 64 → hexOk constS i (K i) = true) (hs1 : ShapeOf v1 ps1.length) (hs2 : ShapeOf v2 ps2.length) (hpl1 : ps1.length ≤ 9223372036854775807) (hpl2 : ps2.length ≤ 9223372036854775807) (hp1 : Parts w0 [] v1 ps1) (hp2 : Parts w0 [] v2 ps2) :
    FnO Tryd.prog w0 12 [v1, v2] [] (fun v _ => v = .bool true) := by
  obtain ⟨va, vc, rfl⟩ := hp1.len (Own.nil w0)
  obtain ⟨ua, uc, rfl⟩ := hp2.len (Own.nil w0)
  have hl0 : h0.length = 32 := by simp [h0]
  have hh1 := hsh_len (K := K) hl0 (recs ps1)
  have hh2 := hsh_len (K := K) hl0 (recs ps2)
  refine FnO.intro (n := 75) Tryd.func12 rfl rfl rfl ?_
  refine J.seq ?_
  refine J.region ?_
  refine JL.pure rfl rfl (OpP.assign rfl) ?_
  refine JL.nil ?_
  refine J.seq ?_
  refine J.seq ?_
  refine J.region ?_
  refine JL.step rfl rfl (OpW.call (first := []) (captured := []) inferInstance rfl rfl (hA _)) ?_; rintro r9 _ ⟨rfl, rfl⟩
  refine JL.pure rfl rfl (OpP.notB rfl) ?_
  refine JL.pure rfl rfl (OpP.move rfl) ?_
  refine JL.pure rfl rfl (OpP.move rfl) ?_
  refine JL.step rfl rfl (OpW.call (first := []) (captured := []) inferInstance rfl rfl (Few5_ok (m := 12) (most := 400) (by omega) (by omega) hpl1 (hp1.conv (fun _ h => h.none)))) ?_; rintro r13 _ ⟨b, ⟨rfl, ⟨rfl, h13⟩⟩⟩
  refine JL.pure rfl rfl (OpP.notB rfl) ?_
  refine JL.pure rfl rfl (OpP.pickF rfl rfl) ?_
  refine JL.pure rfl rfl (OpP.move rfl) ?_
  refine JL.splitAt 16 rfl (fun h16 => ?_) (fun h16 => ?_)
  focus
    refine JL.skip rfl rfl ?_
    refine JL.skip rfl rfl ?_
    refine JL.skip rfl rfl ?_
    refine JL.pure rfl rfl (OpP.pickT rfl rfl) ?_
    refine JL.nil ?_
    refine J.condT rfl ?_
    refine J.seq ?_
    refine J.region ?_
    refine JL.step rfl rfl (OpW.call (first := []) (captured := []) inferInstance rfl rfl (hA _)) ?_; rintro r21 _ ⟨rfl, rfl⟩
    refine JL.pure rfl rfl (OpP.assign rfl) ?_
    refine JL.nil ?_
    refine J.ret1 rfl rfl ?_
  rotate_left 1
  focus
    refine JL.pure rfl rfl (OpP.move rfl) ?_
    refine JL.step rfl rfl (OpW.call (first := []) (captured := []) inferInstance rfl rfl (Few5_ok (m := 12) (most := 400) (by omega) (by omega) hpl2 (hp2.conv (fun _ h => h.none)))) ?_; rintro r18 _ ⟨b1, ⟨rfl, ⟨rfl, h18⟩⟩⟩
    refine JL.pure rfl rfl (OpP.notB rfl) ?_
    refine JL.pure rfl rfl (OpP.pickF rfl rfl) ?_
    refine JL.nil ?_
    refine J.splitAt 20 rfl (fun h20 => ?_) (fun h20 => ?_)
    focus
      refine J.condT rfl ?_
      refine J.seq ?_
      refine J.region ?_
      refine JL.step rfl rfl (OpW.call (first := []) (captured := []) inferInstance rfl rfl (hA _)) ?_; rintro r21 _ ⟨rfl, rfl⟩
      refine JL.pure rfl rfl (OpP.assign rfl) ?_
      refine JL.nil ?_
      refine J.ret1 rfl rfl ?_
    rotate_left 1
    focus
      refine J.condF rfl ?_
      refine J.skip ?_
    rotate_left 1
  rotate_left 2
  · rfl
  · rfl
  · obtain ⟨hm1, hn1⟩ := h13 (by cases b <;> first | rfl | cases h16)
    obtain ⟨hm2, hn2⟩ := h18 (by cases b1 <;> first | rfl | cases h20)
    have hrl1 : ∀ p ∈ ps1, p.2.length ≤ 80000 := fun p hp => by have := recs_le p hp; omega
    have hrl2 : ∀ p ∈ ps2, p.2.length ≤ 80000 := fun p hp => by have := recs_le p hp; omega
    refine J.seq ?_
    refine J.region ?_
    refine JL.pure rfl rfl (OpP.move rfl) ?_
    refine JL.pure rfl rfl (OpP.move rfl) ?_
    refine JL.step rfl rfl (OpW.call (first := []) (captured := []) inferInstance rfl rfl (Clash_ok hK hs1 hs2 (by omega) (by omega) hrl1 hrl2 hp1 hp2)) ?_; rintro r25 _ (⟨rfl, ⟨h25, rfl⟩⟩ | ⟨a, ⟨c, ⟨a2, ⟨c2, ⟨X, ⟨Y, ⟨rfl, ⟨⟨h251, ⟨h252, ⟨h253, ⟨h254, ⟨h255, ⟨h256, h257⟩⟩⟩⟩⟩⟩, rfl⟩⟩⟩⟩⟩⟩⟩⟩)
    focus
      refine JL.pure rfl rfl (OpP.move rfl) ?_
      refine JL.pure rfl rfl (OpP.extract rfl rfl) ?_
      refine JL.pure rfl rfl (OpP.extract rfl rfl) ?_
      refine JL.pure rfl rfl (OpP.extract rfl rfl) ?_
      refine JL.pure rfl rfl (OpP.assign rfl) ?_
      refine JL.pure rfl rfl (OpP.assign rfl) ?_
      refine JL.pure rfl rfl (OpP.assign rfl) ?_
      refine JL.nil ?_
      refine J.seq ?_
      refine J.region ?_
      refine JL.pure rfl rfl (OpP.move rfl) ?_
      refine JL.pure rfl rfl (OpP.len rfl rfl) ?_
      refine JL.pure rfl rfl (OpP.move rfl) ?_
      refine JL.pure rfl rfl (OpP.len rfl rfl) ?_
      refine JL.dec rfl rfl (OpP.eql rfl rfl) (fun h33 => ?_) (fun h33 => ?_)
      focus
        refine JL.pure rfl rfl (OpP.move rfl) ?_
        refine JL.pure rfl rfl (OpP.move rfl) ?_
        refine JL.step rfl rfl (OpW.call (first := []) (captured := []) inferInstance rfl rfl (Hash_ok hK2 hrl1 hpl1 (hp1.conv (fun _ h => h.none)))) ?_; rintro r36 _ ⟨rfl, rfl⟩
        refine JL.pure rfl rfl (OpP.move rfl) ?_
        refine JL.step rfl rfl (OpW.call (first := []) (captured := []) inferInstance rfl rfl (Hash_ok hK2 hrl2 hpl2 (hp2.conv (fun _ h => h.none)))) ?_; rintro r38 _ ⟨rfl, rfl⟩
        refine JL.pure rfl rfl (OpP.eqBytes rfl rfl (by first | assumption | exact Go.Proofs.B.shaB_length _ _ | solve_by_elim) (by first | assumption | exact Go.Proofs.B.shaB_length _ _ | solve_by_elim)) ?_
        refine JL.pure rfl rfl (OpP.pickT rfl rfl) ?_
        refine JL.pure rfl rfl (OpP.assign rfl) ?_
        refine JL.nil ?_
        refine J.seq ?_
        refine J.seq ?_
        refine J.region ?_
        refine JL.pure rfl rfl (OpP.move rfl) ?_
        refine JL.pure rfl rfl (OpP.notB rfl) ?_
        refine JL.pure rfl rfl (OpP.move rfl) ?_
        refine JL.splitAt 43 rfl (fun h43 => ?_) (fun h43 => ?_)
        focus
          refine JL.skip rfl rfl ?_
          refine JL.skip rfl rfl ?_
          refine JL.skip rfl rfl ?_
          refine JL.pure rfl rfl (OpP.pickT rfl rfl) ?_
          refine JL.nil ?_
          refine J.condT rfl ?_
          refine J.seq ?_
          refine J.region ?_
          refine JL.pure rfl rfl (OpP.move rfl) ?_
          refine JL.pure rfl rfl (OpP.notB rfl) ?_
          refine JL.pure rfl rfl (OpP.move rfl) ?_
          refine JL.pure rfl rfl (OpP.move rfl) ?_
          refine JL.pure rfl rfl (OpP.len rfl rfl) ?_
          refine JL.decT rfl rfl (OpP.eql rfl rfl) (by omega) ?_
          refine JL.pure rfl rfl (OpP.pickT rfl rfl) ?_
          refine JL.pure rfl rfl (OpP.move rfl) ?_
          refine JL.pure rfl rfl (OpP.move rfl) ?_
          refine JL.pure rfl rfl (OpP.len rfl rfl) ?_
          refine JL.decT rfl rfl (OpP.eql rfl rfl) (by omega) ?_
          refine JL.pure rfl rfl (OpP.pickT rfl rfl) ?_
          refine JL.pure rfl rfl (OpP.assign rfl) ?_
          refine JL.nil ?_
          refine J.ret1 rfl rfl ?_
        rotate_left 1
        focus
          refine JL.pure rfl rfl (OpP.move rfl) ?_
          refine JL.pure rfl rfl (OpP.move rfl) ?_
          refine JL.step rfl rfl (OpW.call (first := []) (captured := []) inferInstance rfl rfl (Same_ok (by omega) (by omega) (hp1.conv (fun _ h => h.none)) (hp2.conv (fun _ h => h.none)))) ?_; rintro r46 _ ⟨rfl, rfl⟩
          refine JL.pure rfl rfl (OpP.pickF rfl rfl) ?_
          refine JL.nil ?_
          refine J.decAt 47 rfl (fun h47 => ?_) (fun h47 => ?_)
          focus
            refine J.condT rfl ?_
            refine J.seq ?_
            refine J.region ?_
            refine JL.pure rfl rfl (OpP.move rfl) ?_
            refine JL.pure rfl rfl (OpP.notB rfl) ?_
            refine JL.pure rfl rfl (OpP.move rfl) ?_
            refine JL.pure rfl rfl (OpP.move rfl) ?_
            refine JL.pure rfl rfl (OpP.len rfl rfl) ?_
            refine JL.decT rfl rfl (OpP.eql rfl rfl) (by omega) ?_
            refine JL.pure rfl rfl (OpP.pickT rfl rfl) ?_
            refine JL.pure rfl rfl (OpP.move rfl) ?_
            refine JL.pure rfl rfl (OpP.move rfl) ?_
            refine JL.pure rfl rfl (OpP.len rfl rfl) ?_
            refine JL.decT rfl rfl (OpP.eql rfl rfl) (by omega) ?_
            refine JL.pure rfl rfl (OpP.pickT rfl rfl) ?_
            refine JL.pure rfl rfl (OpP.assign rfl) ?_
            refine JL.nil ?_
            refine J.ret1 rfl rfl ?_
          rotate_left 1
          focus
            refine J.condF rfl ?_
            refine J.skip ?_
            refine J.seq ?_
            refine J.region ?_
            refine JL.pure rfl rfl (OpP.move rfl) ?_
            refine JL.pure rfl rfl (OpP.move rfl) ?_
            refine JL.skip rfl rfl ?_
            refine JL.skip rfl rfl ?_
            refine JL.skip rfl rfl ?_
            refine JL.skip rfl rfl ?_
            refine JL.skip rfl rfl ?_
            refine JL.pure rfl rfl (OpP.pickF rfl rfl) ?_
            refine JL.pure rfl rfl (OpP.move rfl) ?_
            refine JL.skip rfl rfl ?_
            refine JL.skip rfl rfl ?_
            refine JL.skip rfl rfl ?_
            refine JL.skip rfl rfl ?_
            refine JL.skip rfl rfl ?_
            refine JL.pure rfl rfl (OpP.pickF rfl rfl) ?_
            refine JL.pure rfl rfl (OpP.assign rfl) ?_
            refine JL.nil ?_
            refine J.ret1 rfl rfl ?_
          rotate_left 1
        rotate_left 2
      rotate_left 3
      focus
        refine JL.pure rfl rfl (OpP.move rfl) ?_
        refine JL.skip rfl rfl ?_
        refine JL.skip rfl rfl ?_
        refine JL.skip rfl rfl ?_
        refine JL.skip rfl rfl ?_
        refine JL.skip rfl rfl ?_
        refine JL.pure rfl rfl (OpP.pickF rfl rfl) ?_
        refine JL.pure rfl rfl (OpP.assign rfl) ?_
        refine JL.nil ?_
        refine J.seq ?_
        refine J.seq ?_
        refine J.region ?_
        refine JL.pure rfl rfl (OpP.move rfl) ?_
        refine JL.pure rfl rfl (OpP.notB rfl) ?_
        refine JL.pure rfl rfl (OpP.move rfl) ?_
        refine JL.skip rfl rfl ?_
        refine JL.skip rfl rfl ?_
        refine JL.skip rfl rfl ?_
        refine JL.pure rfl rfl (OpP.pickT rfl rfl) ?_
        refine JL.nil ?_
        refine J.condT rfl ?_
        refine J.seq ?_
        refine J.region ?_
        refine JL.pure rfl rfl (OpP.move rfl) ?_
        refine JL.pure rfl rfl (OpP.notB rfl) ?_
        refine JL.pure rfl rfl (OpP.move rfl) ?_
        refine JL.pure rfl rfl (OpP.move rfl) ?_
        refine JL.pure rfl rfl (OpP.len rfl rfl) ?_
        refine JL.decT rfl rfl (OpP.eql rfl rfl) (by omega) ?_
        refine JL.pure rfl rfl (OpP.pickT rfl rfl) ?_
        refine JL.pure rfl rfl (OpP.move rfl) ?_
        refine JL.pure rfl rfl (OpP.move rfl) ?_
        refine JL.pure rfl rfl (OpP.len rfl rfl) ?_
        refine JL.decT rfl rfl (OpP.eql rfl rfl) (by omega) ?_
        refine JL.pure rfl rfl (OpP.pickT rfl rfl) ?_
        refine JL.pure rfl rfl (OpP.assign rfl) ?_
        refine JL.nil ?_
        refine J.ret1 rfl rfl ?_
      rotate_left 1
    rotate_left 4
    focus
      refine JL.pure rfl rfl (OpP.move rfl) ?_
      refine JL.pure rfl rfl (OpP.extract rfl rfl) ?_
      refine JL.pure rfl rfl (OpP.extract rfl rfl) ?_
      refine JL.pure rfl rfl (OpP.extract rfl rfl) ?_
      refine JL.pure rfl rfl (OpP.assign rfl) ?_
      refine JL.pure rfl rfl (OpP.assign rfl) ?_
      refine JL.pure rfl rfl (OpP.assign rfl) ?_
      refine JL.nil ?_
      refine J.seq ?_
      refine J.region ?_
      refine JL.pure rfl rfl (OpP.move rfl) ?_
      refine JL.pure rfl rfl (OpP.len rfl rfl) ?_
      refine JL.pure rfl rfl (OpP.move rfl) ?_
      refine JL.pure rfl rfl (OpP.len rfl rfl) ?_
      refine JL.decT rfl rfl (OpP.eql rfl rfl) (by omega) ?_
      refine JL.pure rfl rfl (OpP.move rfl) ?_
      refine JL.pure rfl rfl (OpP.move rfl) ?_
      refine JL.step rfl rfl (OpW.call (first := []) (captured := []) inferInstance rfl rfl (Hash_ok hK2 hrl1 hpl1 (hp1.conv (fun _ h => h.none)))) ?_; rintro r36 _ ⟨rfl, rfl⟩
      refine JL.pure rfl rfl (OpP.move rfl) ?_
      refine JL.step rfl rfl (OpW.call (first := []) (captured := []) inferInstance rfl rfl (Hash_ok hK2 hrl2 hpl2 (hp2.conv (fun _ h => h.none)))) ?_; rintro r38 _ ⟨rfl, rfl⟩
      refine JL.pure rfl rfl (OpP.eqBytes rfl rfl (by first | assumption | exact Go.Proofs.B.shaB_length _ _ | solve_by_elim) (by first | assumption | exact Go.Proofs.B.shaB_length _ _ | solve_by_elim)) ?_
      refine JL.pure rfl rfl (OpP.pickT rfl rfl) ?_
      refine JL.pure rfl rfl (OpP.assign rfl) ?_
      refine JL.nil ?_
      refine J.seq ?_
      refine J.seq ?_
      refine J.region ?_
      refine JL.pure rfl rfl (OpP.move rfl) ?_
      refine JL.pure rfl rfl (OpP.notB rfl) ?_
      refine JL.pure rfl rfl (OpP.move rfl) ?_
      refine JL.splitAt 43 rfl (fun h43 => ?_) (fun h43 => ?_)
      focus
        refine JL.skip rfl rfl ?_
        refine JL.skip rfl rfl ?_
        refine JL.skip rfl rfl ?_
        refine JL.pure rfl rfl (OpP.pickT rfl rfl) ?_
        refine JL.nil ?_
        refine J.condT rfl ?_
        refine J.seq ?_
        refine J.region ?_
        refine JL.pure rfl rfl (OpP.move rfl) ?_
        refine JL.pure rfl rfl (OpP.notB rfl) ?_
        refine JL.pure rfl rfl (OpP.move rfl) ?_
        refine JL.skip rfl rfl ?_
        refine JL.skip rfl rfl ?_
        refine JL.skip rfl rfl ?_
        refine JL.pure rfl rfl (OpP.pickF rfl rfl) ?_
        refine JL.pure rfl rfl (OpP.move rfl) ?_
        refine JL.skip rfl rfl ?_
        refine JL.skip rfl rfl ?_
        refine JL.skip rfl rfl ?_
        refine JL.pure rfl rfl (OpP.pickF rfl rfl) ?_
        refine JL.pure rfl rfl (OpP.assign rfl) ?_
        refine JL.nil ?_
        refine J.ret1 rfl rfl ?_
      rotate_left 1
      focus
        refine JL.pure rfl rfl (OpP.move rfl) ?_
        refine JL.pure rfl rfl (OpP.move rfl) ?_
        refine JL.step rfl rfl (OpW.call (first := []) (captured := []) inferInstance rfl rfl (Same_ok (by omega) (by omega) (hp1.conv (fun _ h => h.none)) (hp2.conv (fun _ h => h.none)))) ?_; rintro r46 _ ⟨rfl, rfl⟩
        refine JL.pure rfl rfl (OpP.pickF rfl rfl) ?_
        refine JL.nil ?_
        refine J.decAt 47 rfl (fun h47 => ?_) (fun h47 => ?_)
        focus
          refine J.condT rfl ?_
          refine J.seq ?_
          refine J.region ?_
          refine JL.pure rfl rfl (OpP.move rfl) ?_
          refine JL.pure rfl rfl (OpP.notB rfl) ?_
          refine JL.pure rfl rfl (OpP.move rfl) ?_
          refine JL.skip rfl rfl ?_
          refine JL.skip rfl rfl ?_
          refine JL.skip rfl rfl ?_
          refine JL.pure rfl rfl (OpP.pickF rfl rfl) ?_
          refine JL.pure rfl rfl (OpP.move rfl) ?_
          refine JL.skip rfl rfl ?_
          refine JL.skip rfl rfl ?_
          refine JL.skip rfl rfl ?_
          refine JL.pure rfl rfl (OpP.pickF rfl rfl) ?_
          refine JL.pure rfl rfl (OpP.assign rfl) ?_
          refine JL.nil ?_
          refine J.ret1 rfl rfl ?_
        rotate_left 1
        focus
          refine J.condF rfl ?_
          refine J.skip ?_
          refine J.seq ?_
          refine J.region ?_
          refine JL.pure rfl rfl (OpP.move rfl) ?_
          refine JL.pure rfl rfl (OpP.move rfl) ?_
          refine JL.pure rfl rfl (OpP.move rfl) ?_
          refine JL.read rfl rfl (OpR.rdStr (by rfl) (RdO.own .head) (by rfl)) ?_
          refine JL.pure rfl rfl (OpP.move rfl) ?_
          refine JL.read rfl rfl (OpR.rdStr (by rfl) (RdO.own (.tail .head)) (by rfl)) ?_
          refine JL.dec rfl rfl (OpP.neStr rfl rfl) (fun h66 => ?_) (fun h66 => ?_)
          focus
            refine JL.pure rfl rfl (OpP.pickT rfl rfl) ?_
            refine JL.pure rfl rfl (OpP.move rfl) ?_
            refine JL.pure rfl rfl (OpP.move rfl) ?_
            refine JL.step rfl rfl (OpW.call (first := []) (captured := []) inferInstance rfl rfl (RefSum_ok hK2 (by omega) (RdO.own .head))) ?_; rintro r70 _ ⟨rfl, rfl⟩
            refine JL.pure rfl rfl (OpP.move rfl) ?_
            refine JL.step rfl rfl (OpW.call (first := []) (captured := []) inferInstance rfl rfl (RefSum_ok hK2 (by omega) (RdO.own (.tail .head)))) ?_; rintro r72 _ ⟨rfl, rfl⟩
            refine JL.pure rfl rfl (OpP.eqBytes rfl rfl (by first | assumption | exact Go.Proofs.B.shaB_length _ _ | solve_by_elim) (by first | assumption | exact Go.Proofs.B.shaB_length _ _ | solve_by_elim)) ?_
            refine JL.pure rfl rfl (OpP.pickT rfl rfl) ?_
            refine JL.pure rfl rfl (OpP.assign rfl) ?_
            refine JL.nil ?_
            refine J.ret1 rfl rfl ?_
          rotate_left 1
          focus
            refine JL.pure rfl rfl (OpP.pickT rfl rfl) ?_
            refine JL.pure rfl rfl (OpP.move rfl) ?_
            refine JL.skip rfl rfl ?_
            refine JL.skip rfl rfl ?_
            refine JL.skip rfl rfl ?_
            refine JL.skip rfl rfl ?_
            refine JL.skip rfl rfl ?_
            refine JL.pure rfl rfl (OpP.pickF rfl rfl) ?_
            refine JL.pure rfl rfl (OpP.assign rfl) ?_
            refine JL.nil ?_
            refine J.ret1 rfl rfl ?_
          rotate_left 1
        rotate_left 2
      rotate_left 3
    rotate_left 4
    · rfl
    · rfl
    · exact absurd (h25 ⟨by simpa using h43, by omega⟩) h47
    · rfl
    · exact absurd h256 (by simpa using h43)
    · exact absurd h47 h255
    · exact congrArg Value.bool (decide_eq_true h252)
    · exact absurd (fun e => h251 (strB_inj.1 e)) h66
end Go.Proofs.B

-- seat b
namespace Go.Proofs.B
open Go Go.Gp Go.RowKit

theorem ChainClashes_law {W : World} {a b : Option Addr} {n c m d : Nat} (hK : Tab W 0 64 fun j => w32 (Kc j)) (h : Fm Tryd.prog W 22 [.slice a n c]) (h2 : Fm Tryd.prog W 22 [.slice b m d]) :
    Calls Tryd.prog 12 #[.slice a n c, .slice b m d] W fun e w' => e = .returned (.bool true) ∧ Below W.heap.size W w' := by
  obtain ⟨ps1, hl1, _, hp1⟩ := Fm.parts Tryd.underlying22 Tryd.underlying29 Tryd.underlying5 (by kernel_rfl) (by kernel_rfl) h
  obtain ⟨ps2, hl2, _, hp2⟩ := Fm.parts Tryd.underlying22 Tryd.underlying29 Tryd.underlying5 (by kernel_rfl) (by kernel_rfl) h2
  have hs1 := h.shapeOf Tryd.underlying22
  have hs2 := h2.shapeOf Tryd.underlying22
  obtain ⟨a', c', e⟩ := hp1.len (Own.nil W)
  cases e
  obtain ⟨a', c', e⟩ := hp2.len (Own.nil W)
  cases e
  exact FnO.law (ChainClashes_ok (K := Kc) (awakeChain hK) hK hexKc hs1 hs2 hl1 hl2 hp1 hp2) (Own.nil W)
end Go.Proofs.B
