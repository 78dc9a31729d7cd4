/- A text of the proof of a statement about the given program: its part CA1. No person has read it. -/
import Derived.Test.YtaodplndajeckaaCInstM
import Derived.Test.YtaodplndajeckaaCJ2
-- seat c
namespace Go.Proofs.C
open Go Go.Gp Go.RowKit

abbrev Str := ByteArray
/-- A grant. -/
structure Gr where
  num : Int
  fr : Str
  to : Str
  dep : Int
  til : Int
  par : Int
  rev : Bool
abbrev gcl (g : Gr) : List Value := [.int .i64 g.num, .string g.fr, .string g.to, .int .i64 g.dep, .int .i64 g.til, .int .i64 g.par, .bool g.rev]
/-- A ledger that may be read. -/
structure Led (w0 : World) (F : List HProp) (x : Nat) (a : Option Addr) (c : Nat) (gs : List Gr) : Prop where
  h : Cell w0 F ⟨x, 0, none⟩ (.slice a gs.length c)
  r : RdO w0 F (.slice a gs.length c) gs.length (gs.flatMap gcl)
theorem Led.conv {w0 : World} {F F' : List HProp} {x : Nat} {a : Option Addr} {c : Nat} {gs : List Gr} (h : Led w0 F x a c gs) (hl : ∀ w, Own w0 w F' → Own w0 w F) : Led w0 F' x a c gs := ⟨h.h.conv hl, h.r.conv hl⟩
def Wf (gs : List Gr) : Prop := gs.length ≤ 1000 ∧ ∀ (i : Nat) (g : Gr), gs[i]? = some g → 0 ≤ g.par ∧ g.par ≤ (i : Int) ∧ g.num = (i : Int) + 1

theorem time_ok {w0 : World} {t : Int} {F : List HProp} : FnO Try.prog w0 44 [.int .i64 t] F (fun r l' => r = .bool (decide (0 ≤ t ∧ t ≤ 1099511627776)) ∧ l' = F) := by
  refine FnO.intro (n := 9) Try.func44 rfl rfl rfl ?_
  refine J.seq ?_
  refine J.region ?_
  refine JL.pure rfl rfl (OpP.assign rfl) ?_
  refine JL.nil ?_
  refine J.seq ?_
  refine J.region ?_
  refine JL.pure rfl rfl (OpP.move rfl) ?_
  refine JL.dec rfl rfl (OpP.geq rfl rfl) (fun h4 => ?_) (fun h4 => ?_)
  focus
    refine JL.pure rfl rfl (OpP.move rfl) ?_
    refine JL.pure rfl rfl (OpP.move rfl) ?_
    refine JL.dec rfl rfl (OpP.leq rfl rfl) (fun h7 => ?_) (fun h7 => ?_)
    focus
      refine JL.pure rfl rfl (OpP.pickT rfl rfl) ?_
      refine JL.pure rfl rfl (OpP.assign rfl) ?_
      refine JL.nil ?_
      refine J.ret1 rfl rfl ?_
    rotate_left 1
    focus
      refine JL.pure rfl rfl (OpP.pickT rfl rfl) ?_
      refine JL.pure rfl rfl (OpP.assign rfl) ?_
      refine JL.nil ?_
      refine J.ret1 rfl rfl ?_
    rotate_left 1
  rotate_left 2
  focus
    refine JL.pure rfl rfl (OpP.move rfl) ?_
    refine JL.skip rfl rfl ?_
    refine JL.skip rfl rfl ?_
    refine JL.pure rfl rfl (OpP.pickF rfl rfl) ?_
    refine JL.pure rfl rfl (OpP.assign rfl) ?_
    refine JL.nil ?_
    refine J.ret1 rfl rfl ?_
  rotate_left 1
  all_goals exact ⟨congrArg Value.bool (by simp; omega), rfl⟩
theorem name_ok {w0 : World} {s : Str} {F : List HProp} (h : s.size ≤ 1000000) : FnO Try.prog w0 51 [.string s] F (fun r l' => r = .bool (decide (1 ≤ s.size ∧ s.size ≤ 64)) ∧ l' = F) := by
  refine FnO.intro (n := 11) Try.func51 rfl rfl rfl ?_
  refine J.seq ?_
  refine J.region ?_
  refine JL.pure rfl rfl (OpP.assign rfl) ?_
  refine JL.nil ?_
  refine J.seq ?_
  refine J.region ?_
  refine JL.pure rfl rfl (OpP.move rfl) ?_
  refine JL.pure rfl rfl (OpP.lenStr rfl rfl) ?_
  refine JL.dec rfl rfl (OpP.geq rfl rfl) (fun h5 => ?_) (fun h5 => ?_)
  focus
    refine JL.pure rfl rfl (OpP.move rfl) ?_
    refine JL.pure rfl rfl (OpP.move rfl) ?_
    refine JL.pure rfl rfl (OpP.lenStr rfl rfl) ?_
    refine JL.dec rfl rfl (OpP.leq rfl rfl) (fun h9 => ?_) (fun h9 => ?_)
    focus
      refine JL.pure rfl rfl (OpP.pickT rfl rfl) ?_
      refine JL.pure rfl rfl (OpP.assign rfl) ?_
      refine JL.nil ?_
      refine J.ret1 rfl rfl ?_
    rotate_left 1
    focus
      refine JL.pure rfl rfl (OpP.pickT rfl rfl) ?_
      refine JL.pure rfl rfl (OpP.assign rfl) ?_
      refine JL.nil ?_
      refine J.ret1 rfl rfl ?_
    rotate_left 1
  rotate_left 2
  focus
    refine JL.pure rfl rfl (OpP.move rfl) ?_
    refine JL.skip rfl rfl ?_
    refine JL.skip rfl rfl ?_
    refine JL.skip rfl rfl ?_
    refine JL.pure rfl rfl (OpP.pickF rfl rfl) ?_
    refine JL.pure rfl rfl (OpP.assign rfl) ?_
    refine JL.nil ?_
    refine J.ret1 rfl rfl ?_
  rotate_left 1
  all_goals exact ⟨congrArg Value.bool (by simp; omega), rfl⟩
theorem parents_ok {w0 : World} {x : Nat} {n : Int} {F : List HProp} : FnO Try.prog w0 47 [.pointer (some ⟨x, 0, none⟩), .int .i64 n] F (fun r l' => ∃ b2 b3, r = .func (.func 59) #[] #[.pointer (some ⟨b3, 0, none⟩), .pointer (some ⟨b2, 0, none⟩)] ∧ l' = row b3 3 [.int .i64 n] :: row b2 44 [.pointer (some ⟨x, 0, none⟩)] :: F) := by
  refine FnO.intro (n := 6) Try.func47 rfl rfl rfl ?_
  refine J.seq ?_
  refine J.region ?_
  refine JL.mem rfl rfl (OpM.box rfl rfl) ?_; rintro _ _ ⟨b2, rfl, rfl⟩
  refine JL.mem rfl rfl (OpM.box rfl rfl) ?_; rintro _ _ ⟨b3, rfl, rfl⟩
  refine JL.pure rfl rfl (OpP.assign rfl) ?_
  refine JL.nil ?_
  refine J.seq ?_
  refine J.region ?_
  refine JL.pure rfl rfl (OpP.makeFunc rfl rfl) ?_
  refine JL.pure rfl rfl (OpP.assign rfl) ?_
  refine JL.nil ?_
  refine J.ret1 rfl rfl ?_
  exact ⟨_, _, rfl, rfl⟩
end Go.Proofs.C

-- seat c
namespace Go.Proofs.C
open Go Go.Gp Go.RowKit

/-- A grant, its parent, and so on. -/
def upF (gs : List Gr) : Nat → Int → List Gr
  | 0, _ => []
  | f + 1, n => if 1 ≤ n ∧ n ≤ gs.length then (match gs[(n - 1).toNat]? with | some g => g :: upF gs f g.par | none => []) else []
def runU {σ : Type} (next : σ → Gr → σ × Bool) : List Gr → σ → σ
  | [], s => s
  | g :: l, s => if (next s g).2 then runU next l (next s g).1 else (next s g).1
theorem upF_out {gs : List Gr} {n : Int} (h : ¬ (1 ≤ n ∧ n ≤ gs.length)) (f : Nat) : upF gs f n = [] := by
  cases f with
  | zero => rfl
  | succ f => rw [upF, if_neg h]
theorem upF_in {gs : List Gr} {n : Int} {g : Gr} {f : Nat} (h : 1 ≤ n) (hg : gs[(n - 1).toNat]? = some g) : upF gs (f + 1) n = g :: upF gs f g.par := by
  have := (List.getElem?_eq_some_iff.1 hg).1
  rw [upF, if_pos ⟨h, by omega⟩, hg]

theorem parents1_okI {w0 : World} {L x b2 b3 : Nat} {a : Option Addr} {c : Nat} {gs : List Gr} {σ : Type} {S : σ → List HProp} {next : σ → Gr → σ × Bool} {Ok : σ → Int → Prop} {n0 : Int} {s0 : σ} {f0 : Nat} (wf : Wf gs) (h0 : Ok s0 n0) (hf : n0 ≤ f0)
    (hL : ∀ s n, Ok s n → Led w0 (S s) x a c gs) (h2 : ∀ s n, Ok s n → Cell w0 (S s) ⟨b2, 0, none⟩ (.pointer (some ⟨x, 0, none⟩))) (h3 : Cell w0 (S s0) ⟨b3, 0, none⟩ (.int .i64 n0))
    (hOk : ∀ s n g, Ok s n → 1 ≤ n → gs[(n - 1).toNat]? = some g → (next s g).2 = true → Ok (next s g).1 g.par)
    (hy : ∀ s n g, Ok s n → 1 ≤ n → gs[(n - 1).toNat]? = some g → YieldO Try.prog w0 L [.agg (gcl g).toArray] (S s) (fun v l' => v = .bool (next s g).2 ∧ l' = S (next s g).1)) :
    FnO Try.prog w0 59 [.func (.yield L) #[] #[], .pointer (some ⟨b3, 0, none⟩), .pointer (some ⟨b2, 0, none⟩)] (S s0) (fun _ l' => l' = S (runU next (upF gs f0 n0) s0)) := by
  have hlen : ∀ g ∈ gs, (gcl g).length = 7 := fun _ _ => rfl
  refine FnO.intro (n := 37) Try.func59 rfl rfl rfl ?_
  refine J.seq ?_
  refine J.region ?_
  refine JL.read rfl rfl (OpR.load1 rfl (h3.conv (fun _ h => h))) ?_
  refine JL.pure rfl rfl (OpP.assign rfl) ?_
  refine JL.nil ?_
  refine J.block ?_
  refine J.loopI (fun x : Int × σ × Nat => x.1.toNat) (fun x => Ok x.2.1 x.1 ∧ x.1 ≤ x.2.2 ∧ runU next (upF gs x.2.2 x.1) x.2.1 = runU next (upF gs f0 n0) s0) (fun z => [(4, .int .i64 z.1), (0, .func (.yield L) #[] #[]), (1, .pointer (some ⟨b3, 0, none⟩)), (2, .pointer (some ⟨b2, 0, none⟩))]) (fun z => S z.2.1) (n0, s0, f0) ⟨h0, hf, rfl⟩ (by repeat (first | exact SubEnv.nil | refine SubEnv.cons (by first | rfl | exact congrArg (fun z => some (Value.int .i64 z)) (by omega) | (simp; done)) ?_)) (fun _ h => h) (fun ⟨n, s, f⟩ hi back => ?_)
  dsimp only at hi back ⊢
  obtain ⟨hok, hnf, hrun⟩ := hi
  have wf1 := wf.1
  obtain ⟨hh, hr⟩ := hL s n hok
  have hp := h2 s n hok
  refine J.rd hr fun hr1 => ?_
  by_cases hin : 1 ≤ n ∧ n ≤ gs.length
  · obtain ⟨g, hg⟩ : ∃ g, gs[(n - 1).toNat]? = some g := ⟨_, List.getElem?_eq_getElem (by omega)⟩
    have hgm := List.mem_of_getElem? hg
    obtain ⟨w1, w2, w3⟩ := wf.2 _ _ hg
    obtain ⟨ga, pa, qa, ea, ka, hcs⟩ := hr1.pos (by omega)
    cases ea
    obtain ⟨f, rfl⟩ : ∃ f', f = f' + 1 := ⟨f - 1, by omega⟩
    rw [upF_in hin.1 hg, runU] at hrun
    refine J.seq ?_
    refine J.seq ?_
    refine J.region ?_
    refine JL.pure rfl rfl (OpP.move rfl) ?_
    refine JL.decT rfl rfl (OpP.geq rfl rfl) (by omega) ?_
    refine JL.pure rfl rfl (OpP.move rfl) ?_
    refine JL.pure rfl rfl (OpP.move rfl) ?_
    refine JL.read rfl rfl (OpR.load1 rfl (hp.conv (fun _ h => h))) ?_
    refine JL.pure rfl rfl (OpP.nilCheck rfl) ?_
    refine JL.pure rfl rfl (OpP.fieldAddr rfl) ?_
    refine JL.read rfl rfl (OpR.load1 rfl (hh.conv (fun _ h => h))) ?_
    refine JL.pure rfl rfl (OpP.len rfl rfl) ?_
    refine JL.decT rfl rfl (OpP.leq rfl rfl) (by omega) ?_
    refine JL.pure rfl rfl (OpP.pickT rfl rfl) ?_
    refine JL.nil ?_
    refine J.condT rfl ?_
    refine J.skip ?_
    refine J.seq ?_
    refine J.block ?_
    refine J.seq ?_
    refine J.region ?_
    refine JL.pure rfl rfl (OpP.move rfl) ?_
    refine JL.read rfl rfl (OpR.load1 rfl (hp.conv (fun _ h => h))) ?_
    refine JL.pure rfl rfl (OpP.nilCheck rfl) ?_
    refine JL.pure rfl rfl (OpP.fieldAddr rfl) ?_
    refine JL.read rfl rfl (OpR.load1 rfl (hh.conv (fun _ h => h))) ?_
    refine JL.pure rfl rfl (OpP.move rfl) ?_
    refine JL.pure rfl rfl (OpP.subI rfl rfl (by omega) (by omega)) ?_
    refine JL.pure rfl rfl (OpP.indexAddr rfl rfl (by omega) (by omega)) ?_
    refine JL.read rfl rfl (OpR.loadN rfl (by apply Cells.conv (fun _ h => h); apply Cells.chunkAt hcs; (case' h => assumption); (case' hi => assumption); done) (by first | rfl | assumption)) ?_
    refine JL.yield rfl rfl rfl rfl (hy s n g hok hin.1 hg) ?_
    rintro _ _ ⟨rfl, rfl⟩
    cases hb : (next s g).2 with
    | false =>
      rw [if_neg (by rw [hb]; decide)] at hrun
      refine JL.pure rfl rfl (OpP.notB rfl) ?_
      refine JL.nil ?_
      refine J.condT rfl ?_
      refine J.ret0 rfl ?_
      exact congrArg S hrun
    | true =>
      rw [if_pos hb] at hrun
      have hok' := hOk s n g hok hin.1 hg hb
      obtain ⟨hh', hr'⟩ := hL _ _ hok'
      have hp' := h2 _ _ hok'
      refine JL.rd hr' fun hr2 => ?_
      obtain ⟨ga, pa, qa, ea, ka, hcs⟩ := hr2.pos (by omega)
      cases ea
      refine JL.pure rfl rfl (OpP.notB rfl) ?_
      refine JL.nil ?_
      refine J.condF rfl ?_
      refine J.skip ?_
      refine J.inBlock ?_
      refine J.region ?_
      refine JL.read rfl rfl (OpR.load1 rfl (hp'.conv (fun _ h => h))) ?_
      refine JL.pure rfl rfl (OpP.nilCheck rfl) ?_
      refine JL.pure rfl rfl (OpP.fieldAddr rfl) ?_
      refine JL.read rfl rfl (OpR.load1 rfl (hh'.conv (fun _ h => h))) ?_
      refine JL.pure rfl rfl (OpP.move rfl) ?_
      refine JL.pure rfl rfl (OpP.subI rfl rfl (by omega) (by omega)) ?_
      refine JL.pure rfl rfl (OpP.indexAddr rfl rfl (by omega) (by omega)) ?_
      refine JL.pure rfl rfl (OpP.fieldAddr rfl) ?_
      refine JL.read rfl rfl (OpR.load1 rfl (by apply Cells.cellChunk (j := 5) hcs (fun _ h => h); (case' h => assumption); (case' hi => assumption); (case' hv => rfl); (case' ho => omega); done)) ?_
      refine JL.pure rfl rfl (OpP.assign rfl) ?_
      refine JL.nil ?_
      exact back (g.par, (next s g).1, f) ⟨hok', by dsimp only; omega, hrun⟩ (by dsimp only; omega) (by repeat (first | exact SubEnv.nil | refine SubEnv.cons (by first | rfl | exact congrArg (fun z => some (Value.int .i64 z)) (by omega) | (simp; done)) ?_)) (fun _ h => h)
  · rw [upF_out hin] at hrun
    refine J.seq ?_
    refine J.seq ?_
    refine J.region ?_
    refine JL.pure rfl rfl (OpP.move rfl) ?_
    refine JL.dec rfl rfl (OpP.geq rfl rfl) (fun h7 => ?_) (fun h7 => ?_)
    focus
      refine JL.pure rfl rfl (OpP.move rfl) ?_
      refine JL.pure rfl rfl (OpP.move rfl) ?_
      refine JL.read rfl rfl (OpR.load1 rfl (hp.conv (fun _ h => h))) ?_
      refine JL.pure rfl rfl (OpP.nilCheck rfl) ?_
      refine JL.pure rfl rfl (OpP.fieldAddr rfl) ?_
      refine JL.read rfl rfl (OpR.load1 rfl (hh.conv (fun _ h => h))) ?_
      refine JL.pure rfl rfl (OpP.len rfl rfl) ?_
      refine JL.decF rfl rfl (OpP.leq rfl rfl) (by omega) ?_
      refine JL.pure rfl rfl (OpP.pickT rfl rfl) ?_
      refine JL.nil ?_
      refine J.condF rfl ?_
      refine J.exit rfl ?_
      refine J.fin0 rfl ?_
    rotate_left 1
    focus
      refine JL.pure rfl rfl (OpP.move rfl) ?_
      refine JL.skip rfl rfl ?_
      refine JL.skip rfl rfl ?_
      refine JL.skip rfl rfl ?_
      refine JL.skip rfl rfl ?_
      refine JL.skip rfl rfl ?_
      refine JL.skip rfl rfl ?_
      refine JL.skip rfl rfl ?_
      refine JL.pure rfl rfl (OpP.pickF rfl rfl) ?_
      refine JL.nil ?_
      refine J.condF rfl ?_
      refine J.exit rfl ?_
      refine J.fin0 rfl ?_
    rotate_left 1
    all_goals exact congrArg S hrun
/-- A range over the parents. -/
theorem overParentsI {w0 : World} {f : FuncId} {fn : Func} {n t : Nat} {R : Value → List HProp → Prop} {k : List Item} {env : Env} {go : Operand} {asg bd : Code} {x b2 b3 : Nat} {a : Option Addr} {c : Nat} {gs : List Gr} {σ : Type} {G : σ → List HProp} {st : σ → LoopState} {pe : σ → Option Code}
    {next : σ → Gr → σ × Bool} {Ok : σ → Int → Prop} {n0 : Int} {s0 : σ} {f0 : Nat} (hP : Try.prog.funcs[f]? = some fn) (hg : ev env go = some (.func (.func 59) #[] #[.pointer (some ⟨b3, 0, none⟩), .pointer (some ⟨b2, 0, none⟩)])) (ht : Nat.blt t n = true) (wf : Wf gs) (h0 : Ok s0 n0) (hf : n0 ≤ f0)
    (hr0 : pe s0 = none) (hst : ∀ s n, Ok s n → st s = .ready) (hnb : ∀ s, st s ≠ .busy)
    (hL : ∀ s n, Ok s n → Led w0 (G s) x a c gs) (h2 : ∀ s n, Ok s n → Cell w0 (G s) ⟨b2, 0, none⟩ (.pointer (some ⟨x, 0, none⟩))) (h3 : Cell w0 (G s0) ⟨b3, 0, none⟩ (.int .i64 n0))
    (hOk : ∀ s n g, Ok s n → 1 ≤ n → gs[(n - 1).toNat]? = some g → (next s g).2 = true → Ok (next s g).1 g.par)
    (hy : ∀ D L tm s n' g, Ok s n' → 1 ≤ n' → gs[(n' - 1).toNat]? = some g → J ⟨Try.prog, w0, f, fn, n, fun v l' => ∃ l2, (v = .bool (next s g).2 ∧ l2 = blk L (.loop (recL f tm #[t] asg bd D (st (next s g).1) (pe (next s g).1))) :: blk D (.deferred (some [])) :: G (next s g).1) ∧ ∀ w, Own w0 w l' → Own w0 w l2, some L, []⟩
      [.code asg, .beginRound, .code bd] ((t, .agg (gcl g).toArray) :: env) (blk L (.loop (recL f tm #[t] asg bd D .ready (pe s))) :: blk D (.deferred (some [])) :: G s))
    (hk : ∀ D, J ⟨Try.prog, w0, f, fn, n, R, none, [⟨.collected D, #[]⟩]⟩ (((pe (runU next (upF gs f0 n0) s0)).map Item.code).toList ++ k) env (blk D (.deferred (some [])) :: G (runU next (upF gs f0 n0) s0))) :
    J ⟨Try.prog, w0, f, fn, n, R, none, []⟩ (.code (.rangeFunc go #[t] asg bd) :: k) env (G s0) := by
  refine J.rangeFunc (Q := fun D p l'' => p = pe (runU next (upF gs f0 n0) s0) ∧ l'' = blk D (.deferred (some [])) :: G (runU next (upF gs f0 n0) s0)) hg inferInstance (fun D L tm he => ?_) (fun D p l'' hQ => ?_)
  · have h := parents1_okI (w0 := w0) (L := L) (x := x) (b2 := b2) (b3 := b3) (a := a) (c := c) (gs := gs) (S := fun s => blk L (.loop (recL f tm #[t] asg bd D (st s) (pe s))) :: blk D (.deferred (some [])) :: G s) (next := next) (Ok := Ok) (n0 := n0) (s0 := s0) (f0 := f0) wf h0 hf
      (fun s n hs => (hL s n hs).conv fun _ h => h.tail.tail) (fun s n hs => (h2 s n hs).conv fun _ h => h.tail.tail) (h3.conv fun _ h => h.tail.tail) hOk (fun s n' g hs hn hg => by
        rw [hst s n' hs]
        exact YieldO.weak (YieldO.intro hP he ht (hy D L tm s n' g hs hn hg)))
    rw [hst s0 n0 h0, hr0] at h
    refine h.mono fun v l' hl => ?_
    subst hl
    exact ⟨_, _, _, hnb _, rfl, rfl, rfl⟩
  · obtain ⟨rfl, rfl⟩ := hQ
    exact hk D
theorem overParents {w0 : World} {f : FuncId} {fn : Func} {n t : Nat} {R : Value → List HProp → Prop} {k : List Item} {env : Env} {go : Operand} {asg bd : Code} {x b2 b3 : Nat} {a : Option Addr} {c : Nat} {gs : List Gr} {σ : Type} {G : σ → List HProp} {st : σ → LoopState} {pe : σ → Option Code}
    {next : σ → Gr → σ × Bool} {Ok : σ → Prop} {n0 : Int} {s0 : σ} {f0 : Nat} (hP : Try.prog.funcs[f]? = some fn) (hg : ev env go = some (.func (.func 59) #[] #[.pointer (some ⟨b3, 0, none⟩), .pointer (some ⟨b2, 0, none⟩)])) (ht : Nat.blt t n = true) (wf : Wf gs) (h0 : Ok s0) (hf : n0 ≤ f0)
    (hr0 : pe s0 = none) (hst : ∀ s, Ok s → st s = .ready) (hnb : ∀ s, st s ≠ .busy)
    (hL : ∀ s, Ok s → Led w0 (G s) x a c gs) (h2 : ∀ s, Ok s → Cell w0 (G s) ⟨b2, 0, none⟩ (.pointer (some ⟨x, 0, none⟩))) (h3 : Cell w0 (G s0) ⟨b3, 0, none⟩ (.int .i64 n0))
    (hOk : ∀ s g, Ok s → (next s g).2 = true → Ok (next s g).1)
    (hy : ∀ D L tm s g, Ok s → g ∈ gs → J ⟨Try.prog, w0, f, fn, n, fun v l' => ∃ l2, (v = .bool (next s g).2 ∧ l2 = blk L (.loop (recL f tm #[t] asg bd D (st (next s g).1) (pe (next s g).1))) :: blk D (.deferred (some [])) :: G (next s g).1) ∧ ∀ w, Own w0 w l' → Own w0 w l2, some L, []⟩
      [.code asg, .beginRound, .code bd] ((t, .agg (gcl g).toArray) :: env) (blk L (.loop (recL f tm #[t] asg bd D .ready (pe s))) :: blk D (.deferred (some [])) :: G s))
    (hk : ∀ D, J ⟨Try.prog, w0, f, fn, n, R, none, [⟨.collected D, #[]⟩]⟩ (((pe (runU next (upF gs f0 n0) s0)).map Item.code).toList ++ k) env (blk D (.deferred (some [])) :: G (runU next (upF gs f0 n0) s0))) :
    J ⟨Try.prog, w0, f, fn, n, R, none, []⟩ (.code (.rangeFunc go #[t] asg bd) :: k) env (G s0) :=
  overParentsI (Ok := fun s _ => Ok s) hP hg ht wf h0 hf hr0 (fun s _ => hst s) hnb (fun s _ => hL s) (fun s _ => h2 s) h3 (fun s _ g h _ _ => hOk s g h) (fun D L tm s _ g h _ hg => hy D L tm s g h (List.mem_of_getElem? hg)) hk
end Go.Proofs.C

-- seat c
namespace Go.Proofs.C
open Go Go.Gp Go.RowKit

def deadB (now : Int) (g : Gr) : Bool := g.rev || decide (g.til ≤ now)
def aliveP (gs : List Gr) (now n : Int) : Prop := (0 ≤ now ∧ now ≤ 1099511627776) ∧ (1 ≤ n ∧ n ≤ gs.length) ∧ ((upF gs gs.length n).all fun g => !deadB now g) = true
instance (gs : List Gr) (now n : Int) : Decidable (aliveP gs now n) := by unfold aliveP; infer_instance
def nextA (now : Int) (_ : Bool) (g : Gr) : Bool × Bool := if deadB now g then (true, false) else (false, true)
theorem run_alive (now : Int) : ∀ l : List Gr, runU (nextA now) l false = !(l.all fun g => !deadB now g)
  | [] => rfl
  | g :: l => by
    rw [runU, List.all_cons]
    cases h : deadB now g with
    | true => simp [nextA, h]
    | false => simp [nextA, h, run_alive now l]

theorem alive_ok {w0 : World} {F : List HProp} {x c : Nat} {a : Option Addr} {gs : List Gr} {now n : Int} (hL : Led w0 F x a c gs) (wf : Wf gs) :
    FnO Try.prog w0 26 [.pointer (some ⟨x, 0, none⟩), .int .i64 now, .int .i64 n] F (fun r l' => r = .bool (decide (aliveP gs now n)) ∧ l' = F) := by
  have wf1 := wf.1
  obtain ⟨hh, hr⟩ := hL
  refine FnO.weak ?_
  refine FnO.intro (n := 36) Try.func26 rfl rfl rfl ?_
  refine J.seq ?_
  refine J.region ?_
  refine JL.mem rfl rfl (OpM.box rfl rfl) ?_; rintro _ _ ⟨b4, rfl, rfl⟩
  refine JL.mem rfl rfl OpM.alloc ?_; rintro _ _ ⟨b6, rfl, rfl⟩
  refine JL.nil ?_
  refine J.seq ?_
  refine J.seq ?_
  refine J.region ?_
  refine JL.read rfl rfl (OpR.load1 rfl (Cell.row (.tail .head) rfl)) ?_
  refine JL.step rfl rfl (OpW.call (first := []) (captured := []) inferInstance rfl rfl time_ok) ?_; rintro r9 _ ⟨rfl, rfl⟩
  refine JL.pure rfl rfl (OpP.notB rfl) ?_
  refine JL.pure rfl rfl (OpP.move rfl) ?_
  refine JL.splitAt 11 rfl (fun h11 => ?_) (fun h11 => ?_)
  focus
    refine JL.skip rfl rfl ?_
    refine JL.skip rfl rfl ?_
    refine JL.pure rfl rfl (OpP.pickT rfl rfl) ?_
    refine JL.pure rfl rfl (OpP.move rfl) ?_
    refine JL.skip rfl rfl ?_
    refine JL.skip rfl rfl ?_
    refine JL.skip rfl rfl ?_
    refine JL.skip rfl rfl ?_
    refine JL.skip rfl rfl ?_
    refine JL.skip rfl rfl ?_
    refine JL.skip rfl rfl ?_
    refine JL.pure rfl rfl (OpP.pickT rfl rfl) ?_
    refine JL.nil ?_
    refine J.condT rfl ?_
    refine J.seq ?_
    refine J.region ?_
    refine JL.mem0 rfl (by apply OpM.store1 rfl rfl rfl; (case' hu => exact .head); (case' hs => exact (.here .nil)); done) ?_; rintro _ _ ⟨rfl, rfl⟩
    refine JL.nil ?_
    refine J.retB rfl rfl (Cell.row (by (with_reducible repeat (first | exact .head | apply Has.tail))) rfl) ?_
  rotate_left 1
  focus
    refine JL.pure rfl rfl (OpP.move rfl) ?_
    refine JL.dec rfl rfl (OpP.lss rfl rfl) (fun h13 => ?_) (fun h13 => ?_)
    focus
      refine JL.pure rfl rfl (OpP.pickF rfl rfl) ?_
      refine JL.pure rfl rfl (OpP.move rfl) ?_
      refine JL.skip rfl rfl ?_
      refine JL.skip rfl rfl ?_
      refine JL.skip rfl rfl ?_
      refine JL.skip rfl rfl ?_
      refine JL.skip rfl rfl ?_
      refine JL.skip rfl rfl ?_
      refine JL.skip rfl rfl ?_
      refine JL.pure rfl rfl (OpP.pickT rfl rfl) ?_
      refine JL.nil ?_
      refine J.condT rfl ?_
      refine J.seq ?_
      refine J.region ?_
      refine JL.mem0 rfl (by apply OpM.store1 rfl rfl rfl; (case' hu => exact .head); (case' hs => exact (.here .nil)); done) ?_; rintro _ _ ⟨rfl, rfl⟩
      refine JL.nil ?_
      refine J.retB rfl rfl (Cell.row (by (with_reducible repeat (first | exact .head | apply Has.tail))) rfl) ?_
    rotate_left 1
    focus
      refine JL.pure rfl rfl (OpP.pickF rfl rfl) ?_
      refine JL.pure rfl rfl (OpP.move rfl) ?_
      refine JL.pure rfl rfl (OpP.move rfl) ?_
      refine JL.pure rfl rfl (OpP.move rfl) ?_
      refine JL.pure rfl rfl (OpP.nilCheck rfl) ?_
      refine JL.pure rfl rfl (OpP.fieldAddr rfl) ?_
      refine JL.read rfl rfl (OpR.load1 rfl (hh.conv (fun _ h => Own.pick (pre := [_, _]) [] rfl h))) ?_
      refine JL.pure rfl rfl (OpP.len rfl rfl) ?_
      refine JL.dec rfl rfl (OpP.gtr rfl rfl) (fun h22 => ?_) (fun h22 => ?_)
      focus
        refine JL.pure rfl rfl (OpP.pickF rfl rfl) ?_
        refine JL.nil ?_
        refine J.condT rfl ?_
        refine J.seq ?_
        refine J.region ?_
        refine JL.mem0 rfl (by apply OpM.store1 rfl rfl rfl; (case' hu => exact .head); (case' hs => exact (.here .nil)); done) ?_; rintro _ _ ⟨rfl, rfl⟩
        refine JL.nil ?_
        refine J.retB rfl rfl (Cell.row (by (with_reducible repeat (first | exact .head | apply Has.tail))) rfl) ?_
      rotate_left 1
      focus
        refine JL.pure rfl rfl (OpP.pickF rfl rfl) ?_
        refine JL.nil ?_
        refine J.condF rfl ?_
        refine J.skip ?_
        refine J.seq ?_
      rotate_left 1
    rotate_left 2
  rotate_left 3
  · exact ⟨_, ⟨congrArg Value.bool (decide_eq_false fun q => by simp [aliveP] at *; omega).symm, rfl⟩, fun _ h => h.tail.tail⟩
  · exact ⟨_, ⟨congrArg Value.bool (decide_eq_false fun q => by simp [aliveP] at *; omega).symm, rfl⟩, fun _ h => h.tail.tail⟩
  · exact ⟨_, ⟨congrArg Value.bool (decide_eq_false fun q => by simp [aliveP] at *; omega).symm, rfl⟩, fun _ h => h.tail.tail⟩
  have ht : 0 ≤ now ∧ now ≤ 1099511627776 := by simpa using h11
  refine J.seq ?_
  refine J.region ?_
  refine JL.pure rfl rfl (OpP.move rfl) ?_
  refine JL.pure rfl rfl (OpP.move rfl) ?_
  refine JL.step rfl rfl (OpW.call (first := []) (captured := []) inferInstance rfl rfl parents_ok) ?_; rintro r26 _ ⟨b2, ⟨b3, ⟨rfl, rfl⟩⟩⟩
  refine JL.nil ?_
  refine J.block ?_
  refine overParents (σ := Bool) (G := fun _ => row b3 3 [.int .i64 n] :: row b2 44 [.pointer (some ⟨x, 0, none⟩)] :: row b6 4 [.bool false] :: row b4 2 [.int .i64 now] :: F) (st := fun s => bif s then .done else .ready) (pe := fun s => bif s then some Code.ret else none) (next := nextA now) (Ok := fun s => s = false) (n0 := n) (s0 := false) (f0 := gs.length)
    Try.func26 rfl rfl wf rfl (by omega) rfl (fun s hs => by subst hs; rfl) (fun s => by cases s <;> (intro h; cases h)) (fun s _ => (Led.mk hh hr).conv fun _ h => h.tail.tail.tail.tail) (fun s _ => Cell.row (.tail .head) rfl) (Cell.row .head rfl)
    (fun s g hs hn => ?_) (fun D L tm s g hs hg => ?_) (fun D => ?_)
  · unfold nextA at hn ⊢
    split at hn
    · cases hn
    · rw [if_neg (by assumption)]
  · subst hs
    have e : ∀ b, deadB now g = b → nextA now false g = (b, !b) := fun b hb => by rw [nextA, hb]; cases b <;> rfl
    refine J.region ?_
    refine JL.mem rfl rfl OpM.alloc ?_; rintro _ _ ⟨b7, rfl, rfl⟩
    refine JL.mem0 rfl (by apply OpM.storeN rfl rfl (by rfl) (oneC rfl (oneC rfl (oneC rfl (oneC rfl (oneC rfl (oneC rfl (one1 rfl))))))); (case' hu => exact .head); (case' hs => exact (.here (.here (.here (.here (.here (.here (.here .nil)))))))); done) ?_; rintro _ _ ⟨rfl, rfl⟩
    refine JL.nil ?_
    refine J.beginRound (by (with_reducible repeat (first | exact Upd.head | apply Upd.tail))) ?_
    refine J.block ?_
    refine J.seq ?_
    refine J.region ?_
    refine JL.pure rfl rfl (OpP.fieldAddr rfl) ?_
    refine JL.read rfl rfl (OpR.load1 rfl (Cell.row .head rfl)) ?_
    refine JL.pure rfl rfl (OpP.move rfl) ?_
    refine JL.splitAt 30 rfl (fun h30 => ?_) (fun h30 => ?_)
    focus
      refine JL.skip rfl rfl ?_
      refine JL.skip rfl rfl ?_
      refine JL.skip rfl rfl ?_
      refine JL.skip rfl rfl ?_
      refine JL.pure rfl rfl (OpP.pickT rfl rfl) ?_
      refine JL.nil ?_
      refine J.condT rfl ?_
      refine J.seq ?_
      refine J.region ?_
      refine JL.mem0 rfl (by apply OpM.store1 rfl rfl rfl; (case' hu => exact (.tail (.tail (.tail (.tail (.tail .head)))))); (case' hs => exact (.here .nil)); done) ?_; rintro _ _ ⟨rfl, rfl⟩
      refine JL.nil ?_
      refine J.roundRet (by (with_reducible repeat (first | exact Upd.head | apply Upd.tail))) ?_
    rotate_left 1
    focus
      refine JL.pure rfl rfl (OpP.fieldAddr rfl) ?_
      refine JL.read rfl rfl (OpR.load1 rfl (Cell.row .head rfl)) ?_
      refine JL.read rfl rfl (OpR.load1 rfl (Cell.row (.tail (.tail (.tail (.tail (.tail (.tail .head)))))) rfl)) ?_
      refine JL.dec rfl rfl (OpP.leq rfl rfl) (fun h34 => ?_) (fun h34 => ?_)
      focus
        refine JL.pure rfl rfl (OpP.pickF rfl rfl) ?_
        refine JL.nil ?_
        refine J.condT rfl ?_
        refine J.seq ?_
        refine J.region ?_
        refine JL.mem0 rfl (by apply OpM.store1 rfl rfl rfl; (case' hu => exact (.tail (.tail (.tail (.tail (.tail .head)))))); (case' hs => exact (.here .nil)); done) ?_; rintro _ _ ⟨rfl, rfl⟩
        refine JL.nil ?_
        refine J.roundRet (by (with_reducible repeat (first | exact Upd.head | apply Upd.tail))) ?_
      rotate_left 1
      focus
        refine JL.pure rfl rfl (OpP.pickF rfl rfl) ?_
        refine JL.nil ?_
        refine J.condF rfl ?_
        refine J.skip ?_
        refine J.inBlock ?_
        refine J.roundEnd (by (with_reducible repeat (first | exact Upd.head | apply Upd.tail))) ?_
      rotate_left 1
    rotate_left 2
    · rw [e true (by simp [deadB, *])]
      exact ⟨_, ⟨rfl, rfl⟩, fun _ h => h.tail⟩
    · rw [e true (by simp [deadB, *])]
      exact ⟨_, ⟨rfl, rfl⟩, fun _ h => h.tail⟩
    · rw [e false (by simp [deadB, *])]
      exact ⟨_, ⟨rfl, rfl⟩, fun _ h => h.tail⟩
  · have hrun := run_alive now (upF gs gs.length n)
    cases hb : runU (nextA now) (upF gs gs.length n) false
    · simp only [cond_false, Option.map_none, Option.toList_none, List.nil_append]
      refine J.inBlock ?_
      refine J.seq ?_
      refine J.region ?_
      refine JL.mem0 rfl (by apply OpM.store1 rfl rfl rfl; (case' hu => exact (.tail (.tail (.tail .head)))); (case' hs => exact (.here .nil)); done) ?_; rintro _ _ ⟨rfl, rfl⟩
      refine JL.nil ?_
      refine J.retKB (by (with_reducible repeat (first | exact Upd.head | apply Upd.tail))) rfl rfl (Cell.row (by (with_reducible repeat (first | exact .head | apply Has.tail))) rfl) ?_
      exact ⟨_, ⟨congrArg Value.bool (decide_eq_true ⟨ht, ⟨by omega, by omega⟩, by rw [hb] at hrun; simpa using hrun⟩).symm, rfl⟩, fun _ h => h.tail.tail.tail.tail.tail⟩
    · simp only [cond_true, Option.map_some, Option.toList_some, List.cons_append, List.nil_append]
      refine J.retKB (by (with_reducible repeat (first | exact Upd.head | apply Upd.tail))) rfl rfl (Cell.row (by (with_reducible repeat (first | exact .head | apply Has.tail))) rfl) ?_
      exact ⟨_, ⟨congrArg Value.bool (decide_eq_false fun q => by rw [hb, q.2.2] at hrun; cases hrun).symm, rfl⟩, fun _ h => h.tail.tail.tail.tail.tail⟩
end Go.Proofs.C

-- seat c
namespace Go.Proofs.C
open Go Go.Gp Go.RowKit

def hasB (gs : List Gr) (now : Int) (who : Str) (g : Gr) : Bool := decide (g.to = who) && decide (aliveP gs now g.num)
abbrev heldL (gs : List Gr) (now : Int) (who : Str) (l : List Gr) : List Gr := l.filter (hasB gs now who)
theorem held_take {gs : List Gr} {now : Int} {who : Str} {i : Nat} {g : Gr} (h : gs[i]? = some g) (b : Bool) (hb : hasB gs now who g = b) : heldL gs now who (gs.take (i + 1)) = heldL gs now who (gs.take i) ++ (bif b then [g] else []) := by
  rw [List.take_add_one, h, heldL, List.filter_append, Option.toList_some, List.filter_cons, hb]
  cases b <;> rfl
theorem held_le (gs : List Gr) (now : Int) (who : Str) (l : List Gr) : (heldL gs now who l).length ≤ l.length := List.length_filter_le _ _

theorem held_ok {w0 : World} {F : List HProp} {x c : Nat} {a : Option Addr} {gs : List Gr} {now : Int} {who : Str} (hL : Led w0 F x a c gs) (wf : Wf gs) :
    FnO Try.prog w0 45 [.pointer (some ⟨x, 0, none⟩), .int .i64 now, .string who] F (fun r l' => ∃ a c, r = .slice a (heldL gs now who gs).length c ∧ l' = own 62 7 (.slice a (heldL gs now who gs).length c) (heldL gs now who gs).length ((heldL gs now who gs).flatMap gcl) :: F) := by
  have hlen : ∀ g ∈ gs, (gcl g).length = 7 := fun _ _ => rfl
  have wf1 := wf.1
  obtain ⟨hh, hr⟩ := hL
  refine FnO.rd hr fun hr1 => ?_
  refine FnO.weak ?_
  refine FnO.intro (n := 36) Try.func45 rfl rfl rfl ?_
  refine J.seq ?_
  refine J.region ?_
  refine JL.pure rfl rfl (OpP.assign rfl) ?_
  refine JL.nil ?_
  refine J.seq ?_
  refine J.region ?_
  refine JL.pure rfl rfl (OpP.assign rfl) ?_
  refine JL.nil ?_
  refine J.seq ?_
  refine J.seq ?_
  refine J.region ?_
  refine JL.pure rfl rfl (OpP.move rfl) ?_
  refine JL.pure rfl rfl (OpP.nilCheck rfl) ?_
  refine JL.pure rfl rfl (OpP.fieldAddr rfl) ?_
  refine JL.read rfl rfl (OpR.load1 rfl (hh.conv (fun _ h => h))) ?_
  refine JL.pure rfl rfl (OpP.len rfl rfl) ?_
  refine JL.pure rfl rfl (OpP.move rfl) ?_
  refine JL.nil ?_
  refine J.block ?_
  refine J.loopI (fun x : Nat × Value => gs.length - x.1) (fun x => x.1 ≤ gs.length ∧ ∃ a c, x.2 = .slice a (heldL gs now who (gs.take x.1)).length c) (fun z => [(15, .int .i64 (z.1 : Nat)), (14, .int .i64 gs.length), (13, .slice a gs.length c), (7, z.2), (0, .pointer (some ⟨x, 0, none⟩)), (1, .int .i64 now), (2, .string who)])
    (fun x => own 62 7 x.2 (heldL gs now who (gs.take x.1)).length ((heldL gs now who (gs.take x.1)).flatMap gcl) :: F) (0, .slice none 0 0) ⟨Nat.zero_le _, none, 0, rfl⟩ (by repeat (first | exact SubEnv.nil | refine SubEnv.cons (by first | rfl | exact congrArg (fun z => some (Value.int .i64 z)) (by omega) | (simp; done)) ?_)) (fun _ h => h.own_nil) (fun ⟨j, u⟩ hi back => ?_)
  dsimp only at hi back ⊢
  obtain ⟨hj, av, cv, rfl⟩ := hi
  by_cases hlt : j < gs.length
  · obtain ⟨g, hg⟩ : ∃ e, gs[j]? = some e := ⟨_, List.getElem?_eq_getElem hlt⟩
    have hle := held_le gs now who (gs.take j)
    rw [List.length_take] at hle
    have hnx := fun b => held_take (now := now) (who := who) hg b
    generalize heldL gs now who (gs.take j) = hs at *
    obtain ⟨ga, pa, qa, ea, ka, hcs⟩ := hr1.pos (by omega)
    cases ea
    have al := fun (l : List HProp) (hl : ∀ w, Own w0 w l → Own w0 w F) => alive_ok (F := l) (now := now) (n := g.num) (Led.conv ⟨hh, hr⟩ hl) wf
    refine J.seq ?_
    refine J.region ?_
    refine JL.decT rfl rfl (OpP.lss rfl rfl) (by omega) ?_
    refine JL.nil ?_
    refine J.seq ?_
    refine J.condT rfl ?_
    refine J.skip ?_
    refine J.seq ?_
    refine J.block ?_
    refine J.seq ?_
    refine J.region ?_
    refine JL.pure rfl rfl (OpP.indexAddr rfl rfl (by omega) (by omega)) ?_
    refine JL.read rfl rfl (OpR.loadN rfl (by apply Cells.conv (fun _ h => Own.pick (pre := [_]) [] rfl h); apply Cells.chunkAt hcs; (case' h => assumption); (case' hi => assumption); done) (by first | rfl | assumption)) ?_
    refine JL.mem rfl rfl OpM.alloc ?_; rintro _ _ ⟨b9, rfl, rfl⟩
    refine JL.mem0 rfl (by apply OpM.storeN rfl rfl (by rfl) (oneC rfl (oneC rfl (oneC rfl (oneC rfl (oneC rfl (oneC rfl (one1 rfl))))))); (case' hu => exact .head); (case' hs => exact (.here (.here (.here (.here (.here (.here (.here .nil)))))))); done) ?_; rintro _ _ ⟨rfl, rfl⟩
    refine JL.nil ?_
    refine J.seq ?_
    refine J.region ?_
    refine JL.pure rfl rfl (OpP.fieldAddr rfl) ?_
    refine JL.read rfl rfl (OpR.load1 rfl (Cell.row .head rfl)) ?_
    refine JL.pure rfl rfl (OpP.move rfl) ?_
    refine JL.dec rfl rfl (OpP.eqStr rfl rfl) (fun h22 => ?_) (fun h22 => ?_)
    focus
      refine JL.pure rfl rfl (OpP.move rfl) ?_
      refine JL.pure rfl rfl (OpP.move rfl) ?_
      refine JL.pure rfl rfl (OpP.move rfl) ?_
      refine JL.pure rfl rfl (OpP.fieldAddr rfl) ?_
      refine JL.read rfl rfl (OpR.load1 rfl (Cell.row .head rfl)) ?_
      refine JL.step rfl rfl (OpW.call (first := []) (captured := []) inferInstance rfl rfl (al _ (fun _ h => Own.pick (pre := [_, _]) [] rfl h))) ?_; rintro r28 _ ⟨rfl, rfl⟩
      refine JL.pure rfl rfl (OpP.pickT rfl rfl) ?_
      refine JL.nil ?_
      refine J.decAt 29 rfl (fun h29 => ?_) (fun h29 => ?_)
      focus
        refine J.condT rfl ?_
        refine J.region ?_
        refine JL.pure rfl rfl (OpP.move rfl) ?_
        refine JL.read rfl rfl (OpR.loadN rfl (Cells.full .head) rfl) ?_
        refine JL.mem rfl rfl (by apply OpM.buildSlice (by rfl) rfl (by rfl); (repeat (first | exact Fills.nil | (apply Fills.cons rfl rfl rfl; (case' hs => ((repeat (first | exact Spl.nil | apply Spl.here | apply Spl.there)); done)))))) ?_; rintro _ _ ⟨b32, rfl, rfl⟩
        refine JL.f2 ?_; refine JL.mem rfl rfl (OpM.appendH rfl (.inl ⟨_, Sl.und inferInstance⟩) (by rfl) rfl rfl (RdO.src (RdO.ofRow (.tail .head) (by first | exact Nat.le_refl _ | decide | omega)) (by first | assumption | exact fc_length _ _ | (simp; done) | (simp; omega))) (oneC rfl (oneC rfl (oneC rfl (oneC rfl (oneC rfl (oneC rfl (one1 rfl))))))) (by simp only [maxLen]; omega) (by omega)) ?_; rintro _ _ ⟨⟨a33, c33, rfl⟩, rfl⟩
        refine JL.pure rfl rfl (OpP.assign rfl) ?_
        refine JL.nil ?_
        refine J.inBlock ?_
        refine J.region ?_
        refine JL.pure rfl rfl (OpP.addI rfl rfl (by omega) (by omega)) ?_
        refine JL.pure rfl rfl (OpP.move rfl) ?_
        refine JL.nil ?_
      rotate_left 1
      focus
        refine J.condF rfl ?_
        refine J.skip ?_
        refine J.inBlock ?_
        refine J.region ?_
        refine JL.pure rfl rfl (OpP.addI rfl rfl (by omega) (by omega)) ?_
        refine JL.pure rfl rfl (OpP.move rfl) ?_
        refine JL.nil ?_
      rotate_left 1
    rotate_left 2
    focus
      refine JL.pure rfl rfl (OpP.move rfl) ?_
      refine JL.skip rfl rfl ?_
      refine JL.skip rfl rfl ?_
      refine JL.skip rfl rfl ?_
      refine JL.skip rfl rfl ?_
      refine JL.skip rfl rfl ?_
      refine JL.pure rfl rfl (OpP.pickF rfl rfl) ?_
      refine JL.nil ?_
      refine J.condF rfl ?_
      refine J.skip ?_
      refine J.inBlock ?_
      refine J.region ?_
      refine JL.pure rfl rfl (OpP.addI rfl rfl (by omega) (by omega)) ?_
      refine JL.pure rfl rfl (OpP.move rfl) ?_
      refine JL.nil ?_
    rotate_left 1
    · have e : heldL gs now who (gs.take (j + 1)) = hs ++ [g] := hnx true (by simp [hasB, *])
      refine back (j + 1, .slice a33 (hs.length + 1) c33) ⟨by dsimp only; omega, a33, c33, by dsimp only; rw [e, List.length_append]; rfl⟩ (by dsimp only; omega) (by repeat (first | exact SubEnv.nil | refine SubEnv.cons (by first | rfl | exact congrArg (fun z => some (Value.int .i64 z)) (by omega) | (simp; done)) ?_)) (fun _ h => ?_)
      dsimp only
      rw [e, List.length_append, List.flatMap_append]
      exact Own.pick (pre := [_, _, _]) [0] rfl h
    · have e : heldL gs now who (gs.take (j + 1)) = hs := (hnx false (by simp [hasB, *])).trans (List.append_nil _)
      refine back (j + 1, .slice av hs.length cv) ⟨by dsimp only; omega, av, cv, by dsimp only; rw [e]⟩ (by dsimp only; omega) (by repeat (first | exact SubEnv.nil | refine SubEnv.cons (by first | rfl | exact congrArg (fun z => some (Value.int .i64 z)) (by omega) | (simp; done)) ?_)) (fun _ h => ?_)
      dsimp only
      rw [e]
      exact Own.pick (pre := [_, _]) [1] rfl h
    · have e : heldL gs now who (gs.take (j + 1)) = hs := (hnx false (by simp [hasB, *])).trans (List.append_nil _)
      refine back (j + 1, .slice av hs.length cv) ⟨by dsimp only; omega, av, cv, by dsimp only; rw [e]⟩ (by dsimp only; omega) (by repeat (first | exact SubEnv.nil | refine SubEnv.cons (by first | rfl | exact congrArg (fun z => some (Value.int .i64 z)) (by omega) | (simp; done)) ?_)) (fun _ h => ?_)
      dsimp only
      rw [e]
      exact Own.pick (pre := [_, _]) [1] rfl h
  · have : j = gs.length := by omega
    subst this
    rw [List.take_length]
    refine J.seq ?_
    refine J.region ?_
    refine JL.decF rfl rfl (OpP.lss rfl rfl) (by omega) ?_
    refine JL.nil ?_
    refine J.seq ?_
    refine J.condF rfl ?_
    refine J.exit rfl ?_
    refine J.seq ?_
    refine J.region ?_
    refine JL.pure rfl rfl (OpP.move rfl) ?_
    refine JL.pure rfl rfl (OpP.assign rfl) ?_
    refine JL.nil ?_
    refine J.ret1 rfl rfl ?_
    exact ⟨_, ⟨av, cv, rfl, rfl⟩, fun _ h => h⟩
end Go.Proofs.C

-- seat c
namespace Go.Proofs.C
open Go Go.Gp Go.RowKit

def maxF : Gr → List Gr → Gr
  | b, [] => b
  | b, g :: l => maxF (if b.dep < g.dep then g else b) l
theorem maxF_snoc : ∀ (l : List Gr) (b g : Gr), maxF b (l ++ [g]) = if (maxF b l).dep < g.dep then g else maxF b l
  | [], _, _ => rfl
  | _ :: l, _, g => by rw [List.cons_append, maxF, maxF, maxF_snoc l]
theorem maxF_mem : ∀ (l : List Gr) (b : Gr), maxF b l ∈ b :: l
  | [], b => .head _
  | g :: l, b => by
    rw [maxF]
    rcases List.mem_cons.1 (maxF_mem l (if b.dep < g.dep then g else b)) with h | h
    · rw [h]; split
      · exact .tail _ (.head _)
      · exact .head _
    · exact .tail _ (.tail _ h)
def DepOk (g : Gr) : Prop := 0 ≤ g.dep ∧ g.dep ≤ 5

theorem deep1_ok {w0 : World} {F : List HProp} {g h : Gr} (h1 : DepOk g) (h2 : DepOk h) : FnO Try.prog w0 58 [.agg (gcl g).toArray, .agg (gcl h).toArray] F (fun r l' => r = .int .i64 (g.dep - h.dep) ∧ l' = F) := by
  unfold DepOk at h1 h2
  refine FnO.weak ?_
  refine FnO.intro (n := 10) Try.func58 rfl rfl rfl ?_
  refine J.seq ?_
  refine J.region ?_
  refine JL.mem rfl rfl (OpM.box rfl rfl) ?_; rintro _ _ ⟨b2, rfl, rfl⟩
  refine JL.mem rfl rfl (OpM.box rfl rfl) ?_; rintro _ _ ⟨b3, rfl, rfl⟩
  refine JL.pure rfl rfl (OpP.assign rfl) ?_
  refine JL.nil ?_
  refine J.seq ?_
  refine J.region ?_
  refine JL.pure rfl rfl (OpP.fieldAddr rfl) ?_
  refine JL.read rfl rfl (OpR.load1 rfl (Cell.row (.tail .head) rfl)) ?_
  refine JL.pure rfl rfl (OpP.fieldAddr rfl) ?_
  refine JL.read rfl rfl (OpR.load1 rfl (Cell.row .head rfl)) ?_
  refine JL.pure rfl rfl (OpP.subI rfl rfl (by omega) (by omega)) ?_
  refine JL.pure rfl rfl (OpP.assign rfl) ?_
  refine JL.nil ?_
  refine J.ret1 rfl rfl ?_
  exact ⟨_, ⟨rfl, rfl⟩, fun _ h => h.tail.tail⟩
theorem max_ok {w0 : World} {F : List HProp} {c : Nat} {a : Option Addr} {g0 : Gr} {rest l : List Gr} (hl : l = g0 :: rest) (hn : l.length ≤ 1000) (hd : ∀ g ∈ l, DepOk g) (hr : RdO w0 F (.slice a l.length c) l.length (l.flatMap gcl)) :
    FnO Try.prog w0 57 [.slice a l.length c, .func (.func 58) #[] #[]] F (fun r l' => r = .agg (gcl (maxF g0 rest)).toArray ∧ l' = F) := by
  have hlen : ∀ g ∈ l, (gcl g).length = 7 := fun _ _ => rfl
  have hl1 : l.length = rest.length + 1 := by rw [hl]; rfl
  have hg0 : l[0]? = some g0 := by rw [hl]; rfl
  refine FnO.rd hr fun hr1 => ?_
  refine FnO.weak ?_
  refine FnO.intro (n := 33) Try.func57 rfl rfl rfl ?_
  obtain ⟨ga, pa, qa, ea, ka, hcs⟩ := hr1.pos (by omega)
  cases ea
  refine J.seq ?_
  refine J.region ?_
  refine JL.mem rfl rfl OpM.alloc ?_; rintro _ _ ⟨b4, rfl, rfl⟩
  refine JL.nil ?_
  refine J.seq ?_
  refine J.seq ?_
  refine J.region ?_
  refine JL.pure rfl rfl (OpP.move rfl) ?_
  refine JL.pure rfl rfl (OpP.len rfl rfl) ?_
  refine JL.decF rfl rfl (OpP.lss rfl rfl) (by omega) ?_
  refine JL.nil ?_
  refine J.condF rfl ?_
  refine J.skip ?_
  refine J.seq ?_
  refine J.region ?_
  refine JL.pure rfl rfl (OpP.move rfl) ?_
  refine JL.pure rfl rfl (OpP.indexAddr rfl rfl (by omega) (by omega)) ?_
  refine JL.read rfl rfl (OpR.loadN rfl (by apply Cells.conv (fun _ h => Own.pick (pre := [_]) [] rfl h); apply Cells.chunkAt hcs; (case' h => assumption); (case' hi => assumption); done) (by first | rfl | assumption)) ?_
  refine JL.mem rfl rfl OpM.alloc ?_; rintro _ _ ⟨b5, rfl, rfl⟩
  refine JL.mem0 rfl (by apply OpM.storeN rfl rfl (by rfl) (oneC rfl (oneC rfl (oneC rfl (oneC rfl (oneC rfl (oneC rfl (one1 rfl))))))); (case' hu => exact .head); (case' hs => exact (.here (.here (.here (.here (.here (.here (.here .nil)))))))); done) ?_; rintro _ _ ⟨rfl, rfl⟩
  refine JL.nil ?_
  refine J.seq ?_
  refine J.seq ?_
  refine J.region ?_
  refine JL.pure rfl rfl (OpP.assign rfl) ?_
  refine JL.nil ?_
  refine J.block ?_
  refine J.loopI (fun x : Nat × Gr => l.length - x.1) (fun x => 1 ≤ x.1 ∧ x.1 ≤ l.length ∧ x.2 = maxF g0 (rest.take (x.1 - 1)) ∧ DepOk x.2) (fun z => [(6, .int .i64 (z.1 : Nat)), (5, .pointer (some ⟨b5, 0, none⟩)), (4, .pointer (some ⟨b4, 0, none⟩)), (0, .slice (some ⟨ga, pa, none⟩) l.length c), (1, .func (.func 58) #[] #[])])
    (fun x => row b5 62 (gcl x.2) :: row b4 62 [.int .i64 0, .string ByteArray.empty, .string ByteArray.empty, .int .i64 0, .int .i64 0, .int .i64 0, .bool false] :: F) (1, g0) ⟨Nat.le_refl _, by dsimp only; omega, rfl, hd _ (List.mem_of_getElem? hg0)⟩ (by repeat (first | exact SubEnv.nil | refine SubEnv.cons (by first | rfl | exact congrArg (fun z => some (Value.int .i64 z)) (by omega) | (simp; done)) ?_)) (fun _ h => h) (fun ⟨j, b⟩ hi back => ?_)
  dsimp only at hi back ⊢
  obtain ⟨hj1, hj, hb, hbd⟩ := hi
  have hbd' := hbd
  unfold DepOk at hbd'
  by_cases hlt : j < l.length
  · obtain ⟨g, hg⟩ : ∃ e, l[j]? = some e := ⟨_, List.getElem?_eq_getElem hlt⟩
    have hgd := hd g (List.mem_of_getElem? hg)
    have hgd' := hgd
    unfold DepOk at hgd'
    have hnx : maxF g0 (rest.take j) = if b.dep < g.dep then g else b := by
      obtain ⟨i, rfl⟩ : ∃ i, j = i + 1 := ⟨j - 1, by omega⟩
      rw [hl, List.getElem?_cons_succ] at hg
      rw [List.take_add_one, hg, Option.toList_some, maxF_snoc, hb]; rfl
    have d1 := deep1_ok (w0 := w0) (F := row b5 62 (gcl b) :: row b4 62 [.int .i64 0, .string ByteArray.empty, .string ByteArray.empty, .int .i64 0, .int .i64 0, .int .i64 0, .bool false] :: F) hgd hbd
    refine J.seq ?_
    refine J.seq ?_
    refine J.region ?_
    refine JL.pure rfl rfl (OpP.move rfl) ?_
    refine JL.pure rfl rfl (OpP.move rfl) ?_
    refine JL.pure rfl rfl (OpP.len rfl rfl) ?_
    refine JL.decT rfl rfl (OpP.lss rfl rfl) (by omega) ?_
    refine JL.nil ?_
    refine J.condT rfl ?_
    refine J.skip ?_
    refine J.seq ?_
    refine J.block ?_
    refine J.seq ?_
    refine J.regionD [4, 5] (by kernel_rfl) ?_
    refine DL.pure (i := 0) (by kernel_rfl) (by kernel_rfl) rfl rfl rfl (OpP.move rfl) ?_
    refine DL.pure (i := 1) (by kernel_rfl) (by kernel_rfl) rfl rfl rfl (OpP.move rfl) ?_
    refine DL.pure (i := 2) (by kernel_rfl) (by kernel_rfl) rfl rfl rfl (OpP.move rfl) ?_
    refine DL.pure (i := 3) (by kernel_rfl) (by kernel_rfl) rfl rfl rfl (OpP.indexAddr rfl rfl (by omega) (by omega)) ?_
    refine DL.read (i := 4) (by kernel_rfl) (by kernel_rfl) rfl rfl rfl (fun _ h => h) (OpR.loadN rfl (by apply Cells.conv (fun _ h => Own.pick (pre := [_, _]) [] rfl h); apply Cells.chunkAt hcs; (case' h => assumption); (case' hi => assumption); done) (by first | rfl | assumption)) ?_
    refine DL.read (i := 5) (by kernel_rfl) (by kernel_rfl) rfl rfl rfl (fun _ h => h) (OpR.loadN rfl (Cells.full .head) rfl) ?_
    refine DL.only (i := 6) (by kernel_rfl) ?_
    refine DL1.stepF rfl rfl rfl (by kernel_rfl) (by exact OpW.call (first := []) (captured := []) inferInstance rfl rfl d1) ?_; rintro r26 _ ⟨rfl, rfl⟩
    refine DL.dec (i := 7) (by kernel_rfl) (by kernel_rfl) rfl rfl rfl (OpP.gtr rfl rfl) (fun h27 => ?_) (fun h27 => ?_)
    focus
      refine DL.done (by kernel_rfl) ?_
      refine J.condT rfl ?_
      refine J.region ?_
      refine JL.pure rfl rfl (OpP.move rfl) ?_
      refine JL.pure rfl rfl (OpP.move rfl) ?_
      refine JL.pure rfl rfl (OpP.indexAddr rfl rfl (by omega) (by omega)) ?_
      refine JL.read rfl rfl (OpR.loadN rfl (by apply Cells.conv (fun _ h => Own.pick (pre := [_, _]) [] rfl h); apply Cells.chunkAt hcs; (case' h => assumption); (case' hi => assumption); done) (by first | rfl | assumption)) ?_
      refine JL.mem0 rfl (by apply OpM.storeN rfl rfl (by rfl) (oneC rfl (oneC rfl (oneC rfl (oneC rfl (oneC rfl (oneC rfl (one1 rfl))))))); (case' hu => exact .head); (case' hs => exact (.here (.here (.here (.here (.here (.here (.here .nil)))))))); done) ?_; rintro _ _ ⟨rfl, rfl⟩
      refine JL.nil ?_
      refine J.inBlock ?_
      refine J.region ?_
      refine JL.pure rfl rfl (OpP.move rfl) ?_
      refine JL.pure rfl rfl (OpP.addI rfl rfl (by omega) (by omega)) ?_
      refine JL.pure rfl rfl (OpP.assign rfl) ?_
      refine JL.nil ?_
    rotate_left 1
    focus
      refine DL.done (by kernel_rfl) ?_
      refine J.condF rfl ?_
      refine J.skip ?_
      refine J.inBlock ?_
      refine J.region ?_
      refine JL.pure rfl rfl (OpP.move rfl) ?_
      refine JL.pure rfl rfl (OpP.addI rfl rfl (by omega) (by omega)) ?_
      refine JL.pure rfl rfl (OpP.assign rfl) ?_
      refine JL.nil ?_
    rotate_left 1
    · exact back (j + 1, g) ⟨by dsimp only; omega, by dsimp only; omega, by dsimp only; rw [Nat.add_sub_cancel, hnx, if_pos (by omega)], hgd⟩ (by dsimp only; omega) (by repeat (first | exact SubEnv.nil | refine SubEnv.cons (by first | rfl | exact congrArg (fun z => some (Value.int .i64 z)) (by omega) | (simp; done)) ?_)) (fun _ h => h)
    · exact back (j + 1, b) ⟨by dsimp only; omega, by dsimp only; omega, by dsimp only; rw [Nat.add_sub_cancel, hnx, if_neg (by omega)], hbd⟩ (by dsimp only; omega) (by repeat (first | exact SubEnv.nil | refine SubEnv.cons (by first | rfl | exact congrArg (fun z => some (Value.int .i64 z)) (by omega) | (simp; done)) ?_)) (fun _ h => h)
  · have : j = rest.length + 1 := by omega
    subst this
    rw [Nat.add_sub_cancel, List.take_length] at hb
    subst hb
    refine J.seq ?_
    refine J.seq ?_
    refine J.region ?_
    refine JL.pure rfl rfl (OpP.move rfl) ?_
    refine JL.pure rfl rfl (OpP.move rfl) ?_
    refine JL.pure rfl rfl (OpP.len rfl rfl) ?_
    refine JL.decF rfl rfl (OpP.lss rfl rfl) (by omega) ?_
    refine JL.nil ?_
    refine J.condF rfl ?_
    refine J.exit rfl ?_
    refine J.seq ?_
    refine J.region ?_
    refine JL.read rfl rfl (OpR.loadN rfl (Cells.full .head) rfl) ?_
    refine JL.mem0 rfl (by apply OpM.storeN rfl rfl (by rfl) (oneC rfl (oneC rfl (oneC rfl (oneC rfl (oneC rfl (oneC rfl (one1 rfl))))))); (case' hu => exact (.tail .head)); (case' hs => exact (.here (.here (.here (.here (.here (.here (.here .nil)))))))); done) ?_; rintro _ _ ⟨rfl, rfl⟩
    refine JL.nil ?_
    refine J.retC rfl rfl (by apply Cells.full; (with_reducible repeat (first | exact .head | apply Has.tail))) (by first | (rw [List.length_append, hdC_len (by first | assumption | exact Go.Proofs.B.shaB_length _ _ | solve_by_elim)]; rfl) | exact hdC_len (by first | assumption | exact Go.Proofs.B.shaB_length _ _ | solve_by_elim) | (rw [bcells_length]; first | assumption | exact Go.Proofs.B.shaB_length _ _ | solve_by_elim) | exact fc_length _ _ | exact fB_length _ _ | rfl) ?_
    exact ⟨_, ⟨rfl, rfl⟩, fun _ h => h.tail.tail⟩
theorem deepest_ok {w0 : World} {F : List HProp} {c : Nat} {a : Option Addr} {g0 : Gr} {rest l : List Gr} (hl : l = g0 :: rest) (hn : l.length ≤ 1000) (hd : ∀ g ∈ l, DepOk g) (hr : RdO w0 F (.slice a l.length c) l.length (l.flatMap gcl)) :
    FnO Try.prog w0 46 [.slice a l.length c] F (fun r l' => r = .agg (gcl (maxF g0 rest)).toArray ∧ l' = F) := by
  refine FnO.weak ?_
  refine FnO.intro (n := 5) Try.func46 rfl rfl rfl ?_
  refine J.seq ?_
  refine J.region ?_
  refine JL.mem rfl rfl OpM.alloc ?_; rintro _ _ ⟨b2, rfl, rfl⟩
  refine JL.nil ?_
  refine J.seq ?_
  refine J.region ?_
  refine JL.pure rfl rfl (OpP.move rfl) ?_
  refine JL.step rfl rfl (OpW.call (first := []) (captured := []) inferInstance rfl rfl (max_ok hl hn hd (hr.conv fun _ h => Own.pick (pre := [_]) [] rfl h))) ?_; rintro r4 _ ⟨rfl, rfl⟩
  refine JL.mem0 rfl (by apply OpM.storeN rfl rfl (by rfl) (oneC rfl (oneC rfl (oneC rfl (oneC rfl (oneC rfl (oneC rfl (one1 rfl))))))); (case' hu => exact .head); (case' hs => exact (.here (.here (.here (.here (.here (.here (.here .nil)))))))); done) ?_; rintro _ _ ⟨rfl, rfl⟩
  refine JL.nil ?_
  refine J.retC rfl rfl (by apply Cells.full; (with_reducible repeat (first | exact .head | apply Has.tail))) (by first | (rw [List.length_append, hdC_len (by first | assumption | exact Go.Proofs.B.shaB_length _ _ | solve_by_elim)]; rfl) | exact hdC_len (by first | assumption | exact Go.Proofs.B.shaB_length _ _ | solve_by_elim) | (rw [bcells_length]; first | assumption | exact Go.Proofs.B.shaB_length _ _ | solve_by_elim) | exact fc_length _ _ | exact fB_length _ _ | rfl) ?_
  exact ⟨_, ⟨rfl, rfl⟩, fun _ h => h.tail⟩
abbrev rootS : Str := ⟨#[114, 111, 111, 116]⟩
def topG : List Gr → Int × Bool
  | [] => (0, false)
  | g :: l => ((maxF g l).dep, true)
def authF (gs : List Gr) (now : Int) (who : Str) : Int × Bool := if who = rootS then (6, decide (0 ≤ now ∧ now ≤ 1099511627776)) else topG (heldL gs now who gs)
theorem auth_ok {w0 : World} {F : List HProp} {x c : Nat} {a : Option Addr} {gs : List Gr} {now : Int} {who : Str} (hL : Led w0 F x a c gs) (wf : Wf gs) (hd : ∀ g ∈ gs, DepOk g) :
    FnO Try.prog w0 24 [.pointer (some ⟨x, 0, none⟩), .int .i64 now, .string who] F (fun r l' => r = .tuple #[.int .i64 (authF gs now who).1, .bool (authF gs now who).2] ∧ l' = F) := by
  have wf1 := wf.1
  have hle := held_le gs now who gs
  refine FnO.weak ?_
  refine FnO.intro (n := 23) Try.func24 rfl rfl rfl ?_
  by_cases hw : who = rootS
  · rw [authF, if_pos hw]
    refine J.seq ?_
    refine J.region ?_
    refine JL.pure rfl rfl (OpP.assign rfl) ?_
    refine JL.pure rfl rfl (OpP.assign rfl) ?_
    refine JL.nil ?_
    refine J.seq ?_
    refine J.seq ?_
    refine J.region ?_
    refine JL.pure rfl rfl (OpP.move rfl) ?_
    refine JL.decT rfl rfl (OpP.eqStr rfl rfl) (by omega) ?_
    refine JL.nil ?_
    refine J.condT rfl ?_
    refine J.seq ?_
    refine J.region ?_
    refine JL.pure rfl rfl (OpP.move rfl) ?_
    refine JL.step rfl rfl (OpW.call (first := []) (captured := []) inferInstance rfl rfl time_ok) ?_; rintro r12 _ ⟨rfl, rfl⟩
    refine JL.pure rfl rfl (OpP.assign rfl) ?_
    refine JL.pure rfl rfl (OpP.assign rfl) ?_
    refine JL.nil ?_
    refine J.ret2 rfl rfl rfl ?_
    exact ⟨_, ⟨rfl, rfl⟩, fun _ h => h⟩
  · rw [authF, if_neg hw]
    have hdl : ∀ g ∈ heldL gs now who gs, DepOk g := fun g hg => hd g (List.mem_filter.1 hg).1
    have hH := held_ok (now := now) (who := who) hL wf
    generalize heldL gs now who gs = hs at *
    cases hs with
    | nil =>
      refine J.seq ?_
      refine J.region ?_
      refine JL.pure rfl rfl (OpP.assign rfl) ?_
      refine JL.pure rfl rfl (OpP.assign rfl) ?_
      refine JL.nil ?_
      refine J.seq ?_
      refine J.seq ?_
      refine J.region ?_
      refine JL.pure rfl rfl (OpP.move rfl) ?_
      refine JL.decF rfl rfl (OpP.eqStr rfl rfl) (by omega) ?_
      refine JL.nil ?_
      refine J.condF rfl ?_
      refine J.skip ?_
      refine J.seq ?_
      refine J.region ?_
      refine JL.pure rfl rfl (OpP.move rfl) ?_
      refine JL.pure rfl rfl (OpP.move rfl) ?_
      refine JL.pure rfl rfl (OpP.move rfl) ?_
      refine JL.step rfl rfl (OpW.call (first := []) (captured := []) inferInstance rfl rfl hH) ?_; rintro r16 _ ⟨a1, ⟨c1, ⟨rfl, rfl⟩⟩⟩
      refine JL.pure rfl rfl (OpP.assign rfl) ?_
      refine JL.nil ?_
      refine J.seq ?_
      refine J.seq ?_
      refine J.region ?_
      refine JL.pure rfl rfl (OpP.move rfl) ?_
      refine JL.pure rfl rfl (OpP.len rfl rfl) ?_
      refine JL.decT rfl rfl (OpP.eql rfl rfl) (by decide) ?_
      refine JL.nil ?_
      refine J.condT rfl ?_
      refine J.seq ?_
      refine J.region ?_
      refine JL.pure rfl rfl (OpP.assign rfl) ?_
      refine JL.pure rfl rfl (OpP.assign rfl) ?_
      refine JL.nil ?_
      refine J.ret2 rfl rfl rfl ?_
      exact ⟨_, ⟨rfl, rfl⟩, fun _ h => h.tail⟩
    | cons g l =>
      have hpos : 0 < (g :: l).length := Nat.succ_pos _
      refine J.seq ?_
      refine J.region ?_
      refine JL.pure rfl rfl (OpP.assign rfl) ?_
      refine JL.pure rfl rfl (OpP.assign rfl) ?_
      refine JL.nil ?_
      refine J.seq ?_
      refine J.seq ?_
      refine J.region ?_
      refine JL.pure rfl rfl (OpP.move rfl) ?_
      refine JL.decF rfl rfl (OpP.eqStr rfl rfl) (by omega) ?_
      refine JL.nil ?_
      refine J.condF rfl ?_
      refine J.skip ?_
      refine J.seq ?_
      refine J.region ?_
      refine JL.pure rfl rfl (OpP.move rfl) ?_
      refine JL.pure rfl rfl (OpP.move rfl) ?_
      refine JL.pure rfl rfl (OpP.move rfl) ?_
      refine JL.step rfl rfl (OpW.call (first := []) (captured := []) inferInstance rfl rfl hH) ?_; rintro r16 _ ⟨a1, ⟨c1, ⟨rfl, rfl⟩⟩⟩
      refine JL.pure rfl rfl (OpP.assign rfl) ?_
      refine JL.nil ?_
      refine J.seq ?_
      refine J.seq ?_
      refine J.region ?_
      refine JL.pure rfl rfl (OpP.move rfl) ?_
      refine JL.pure rfl rfl (OpP.len rfl rfl) ?_
      refine JL.decF rfl rfl (OpP.eql rfl rfl) (by omega) ?_
      refine JL.nil ?_
      refine J.condF rfl ?_
      refine J.skip ?_
      refine J.seq ?_
      refine J.region ?_
      refine JL.pure rfl rfl (OpP.move rfl) ?_
      refine JL.step rfl rfl (OpW.call (first := []) (captured := []) inferInstance rfl rfl (deepest_ok (g0 := g) (rest := l) rfl (by omega) hdl (RdO.own .head))) ?_; rintro r21 _ ⟨rfl, rfl⟩
      refine JL.pure rfl rfl (OpP.field1 rfl rfl) ?_
      refine JL.pure rfl rfl (OpP.assign rfl) ?_
      refine JL.pure rfl rfl (OpP.assign rfl) ?_
      refine JL.nil ?_
      refine J.ret2 rfl rfl rfl ?_
      exact ⟨_, ⟨rfl, rfl⟩, fun _ h => h.tail⟩
end Go.Proofs.C

-- seat c
namespace Go.Proofs.C
open Go Go.Gp Go.RowKit

theorem shal1_ok {w0 : World} {F : List HProp} {b : Nat} {d : Int} {g : Gr} (hc : Cell w0 F ⟨b, 0, none⟩ (.int .i64 d)) : FnO Try.prog w0 62 [.agg (gcl g).toArray, .pointer (some ⟨b, 0, none⟩)] F (fun r l' => r = .bool (decide (g.dep ≤ d)) ∧ l' = F) := by
  refine FnO.weak ?_
  refine FnO.intro (n := 8) Try.func62 rfl rfl rfl ?_
  refine J.seq ?_
  refine J.region ?_
  refine JL.mem rfl rfl (OpM.box rfl rfl) ?_; rintro _ _ ⟨b2, rfl, rfl⟩
  refine JL.pure rfl rfl (OpP.assign rfl) ?_
  refine JL.nil ?_
  refine J.seq ?_
  refine J.region ?_
  refine JL.pure rfl rfl (OpP.fieldAddr rfl) ?_
  refine JL.read rfl rfl (OpR.load1 rfl (Cell.row .head rfl)) ?_
  refine JL.read rfl rfl (OpR.load1 rfl (hc.conv (fun _ h => Own.pick (pre := [_]) [] rfl h))) ?_
  refine JL.dec rfl rfl (OpP.leq rfl rfl) (fun h7 => ?_) (fun h7 => ?_)
  focus
    refine JL.pure rfl rfl (OpP.assign rfl) ?_
    refine JL.nil ?_
    refine J.ret1 rfl rfl ?_
  rotate_left 1
  focus
    refine JL.pure rfl rfl (OpP.assign rfl) ?_
    refine JL.nil ?_
    refine J.ret1 rfl rfl ?_
  rotate_left 1
  · exact ⟨_, ⟨congrArg Value.bool (decide_eq_true (by assumption)).symm, rfl⟩, fun _ h => h.tail⟩
  · exact ⟨_, ⟨congrArg Value.bool (decide_eq_false (by assumption)).symm, rfl⟩, fun _ h => h.tail⟩
theorem gcl_one {g : Gr} : ∀ u ∈ gcl g, u.oneCell' = true := by
  intro u hu
  simp only [gcl, List.mem_cons, List.not_mem_nil, or_false] at hu
  rcases hu with rfl | rfl | rfl | rfl | rfl | rfl | rfl <;> rfl
def FirstG (d : Int) (xs : List Gr) (v : Int) : Prop := (∃ i : Nat, v = i ∧ (∃ g, xs[i]? = some g ∧ g.dep ≤ d) ∧ ∀ j y, j < i → xs[j]? = some y → d < y.dep) ∨ (v = -1 ∧ ∀ y ∈ xs, d < y.dep)
theorem IndexG_ok {w0 : World} {F : List HProp} {a : Option Addr} {c b : Nat} {d : Int} {xs : List Gr} (hc : Cell w0 F ⟨b, 0, none⟩ (.int .i64 d)) (hr : RdO w0 F (.slice a xs.length c) xs.length (xs.flatMap gcl)) (hl : xs.length ≤ 1000) :
    FnO Try.prog w0 63 [.slice a xs.length c, .func (.func 62) #[] #[.pointer (some ⟨b, 0, none⟩)]] F (fun u l' => (∃ x, u = .int .i64 x ∧ FirstG d xs x) ∧ l' = F) := by
  have hlen : ∀ g ∈ xs, (gcl g).length = 7 := fun _ _ => rfl
  refine FnO.rd hr fun hr1 => ?_
  refine FnO.intro (n := 19) Try.func63 rfl rfl rfl ?_
  refine J.seq ?_
  refine J.region ?_
  refine JL.pure rfl rfl (OpP.assign rfl) ?_
  refine JL.nil ?_
  refine J.seq ?_
  refine J.seq ?_
  refine J.region ?_
  refine JL.pure rfl rfl (OpP.move rfl) ?_
  refine JL.pure rfl rfl (OpP.len rfl rfl) ?_
  refine JL.pure rfl rfl (OpP.move rfl) ?_
  refine JL.nil ?_
  refine J.block ?_
  refine J.loopI (fun i : Nat => xs.length - i) (fun i => i ≤ xs.length ∧ ∀ j y, j < i → xs[j]? = some y → d < y.dep) (fun i => [(8, .int .i64 (i : Nat)), (7, .int .i64 xs.length), (0, .slice a xs.length c), (1, .func (.func 62) #[] #[.pointer (some ⟨b, 0, none⟩)])]) (fun _ => F) 0 ⟨Nat.zero_le _, fun _ _ h => by omega⟩ (by repeat (first | exact SubEnv.nil | refine SubEnv.cons (by first | rfl | exact congrArg (fun z => some (Value.int .i64 z)) (by omega) | (simp; done)) ?_)) (fun _ h => h) (fun i ⟨hi, hf⟩ back => ?_)
  by_cases hlt : i < xs.length
  · obtain ⟨g, hg⟩ : ∃ x, xs[i]? = some x := ⟨_, List.getElem?_eq_getElem hlt⟩
    obtain ⟨ga, pa, qa, ea, ka, hcs⟩ := hr1.pos (by omega)
    cases ea
    refine J.seq ?_
    refine J.region ?_
    refine JL.decT rfl rfl (OpP.lss rfl rfl) (by omega) ?_
    refine JL.nil ?_
    refine J.seq ?_
    refine J.condT rfl ?_
    refine J.skip ?_
    refine J.seq ?_
    refine J.block ?_
    refine J.seq ?_
    refine J.region ?_
    refine JL.pure rfl rfl (OpP.move rfl) ?_
    refine JL.pure rfl rfl (OpP.assign rfl) ?_
    refine JL.nil ?_
    refine J.seq ?_
    refine J.region ?_
    refine JL.pure rfl rfl (OpP.move rfl) ?_
    refine JL.pure rfl rfl (OpP.move rfl) ?_
    refine JL.pure rfl rfl (OpP.move rfl) ?_
    refine JL.pure rfl rfl (OpP.indexAddr rfl rfl (by omega) (by omega)) ?_
    refine JL.read rfl rfl (OpR.loadN rfl (by apply Cells.conv (fun _ h => h); apply Cells.chunkAt hcs; (case' h => assumption); (case' hi => assumption); done) (by first | rfl | assumption)) ?_
    refine JL.step rfl rfl (OpW.call (first := []) (captured := [_]) inferInstance rfl rfl (shal1_ok hc)) ?_; rintro r16 _ ⟨rfl, rfl⟩
    refine JL.nil ?_
    refine J.decAt 16 rfl (fun h16 => ?_) (fun h16 => ?_)
    focus
      refine J.condT rfl ?_
      refine J.seq ?_
      refine J.region ?_
      refine JL.pure rfl rfl (OpP.move rfl) ?_
      refine JL.pure rfl rfl (OpP.assign rfl) ?_
      refine JL.nil ?_
      refine J.ret1 rfl rfl ?_
    rotate_left 1
    focus
      refine J.condF rfl ?_
      refine J.skip ?_
      refine J.inBlock ?_
      refine J.region ?_
      refine JL.pure rfl rfl (OpP.addI rfl rfl (by omega) (by omega)) ?_
      refine JL.pure rfl rfl (OpP.move rfl) ?_
      refine JL.nil ?_
    rotate_left 1
    · exact ⟨⟨_, rfl, .inl ⟨i, rfl, ⟨g, hg, by assumption⟩, hf⟩⟩, rfl⟩
    · refine back (i + 1) ⟨by omega, fun j y hj hy => ?_⟩ (by omega) (by repeat (first | exact SubEnv.nil | refine SubEnv.cons (by first | rfl | exact congrArg (fun z => some (Value.int .i64 z)) (by omega) | (simp; done)) ?_)) (fun _ h => h)
      by_cases hji : j < i
      · exact hf j y hji hy
      · obtain rfl : j = i := by omega
        rw [hg] at hy; cases hy; omega
  · refine J.seq ?_
    refine J.region ?_
    refine JL.decF rfl rfl (OpP.lss rfl rfl) (by omega) ?_
    refine JL.nil ?_
    refine J.seq ?_
    refine J.condF rfl ?_
    refine J.exit rfl ?_
    refine J.seq ?_
    refine J.region ?_
    refine JL.pure rfl rfl (OpP.assign rfl) ?_
    refine JL.nil ?_
    refine J.ret1 rfl rfl ?_
    refine ⟨⟨_, rfl, .inr ⟨rfl, fun y hy => ?_⟩⟩, rfl⟩
    obtain ⟨j, hj⟩ := List.getElem?_of_mem hy
    exact hf j y (by have := (List.getElem?_eq_some_iff.1 hj).1; omega) hj

def moreL (d : Int) (l : List Gr) : List Gr := l.filter fun g => decide (d < g.dep)
theorem chunk7 (l : List Gr) : (l.flatMap gcl).length = l.length * 7 := chunk_length fun _ _ => rfl
theorem DeleteG_ok {w0 : World} {F : List HProp} {a : Option Addr} {c b : Nat} {d : Int} {xs : List Gr} (hc : Cell w0 F ⟨b, 0, none⟩ (.int .i64 d)) (hl : xs.length ≤ 1000) :
    FnO Try.prog w0 61 [.slice a xs.length c, .func (.func 62) #[] #[.pointer (some ⟨b, 0, none⟩)]] (own 62 7 (.slice a xs.length c) xs.length (xs.flatMap gcl) :: F) (fun u l' => ∃ a c, u = .slice a (moreL d xs).length c ∧ l' = own 62 7 (.slice a (moreL d xs).length c) (moreL d xs).length ((moreL d xs).flatMap gcl) :: F) := by
  have hc1 : Cell w0 (own 62 7 (.slice a xs.length c) xs.length (xs.flatMap gcl) :: F) ⟨b, 0, none⟩ (.int .i64 d) := hc.conv fun _ h => h.tail
  refine FnO.weak ?_
  refine FnO.intro (n := 42) Try.func61 rfl rfl rfl ?_
  refine J.seq ?_
  refine J.region ?_
  refine JL.pure rfl rfl (OpP.assign rfl) ?_
  refine JL.nil ?_
  refine J.seq ?_
  refine J.region ?_
  refine JL.pure rfl rfl (OpP.move rfl) ?_
  refine JL.pure rfl rfl (OpP.move rfl) ?_
  refine JL.step rfl rfl (OpW.call (first := []) (captured := []) inferInstance rfl rfl (IndexG_ok hc1 (RdO.own .head) hl)) ?_; rintro r10 _ ⟨⟨x, ⟨rfl, h10⟩⟩, rfl⟩
  refine JL.pure rfl rfl (OpP.assign rfl) ?_
  refine JL.nil ?_
  refine J.seq ?_
  rcases h10 with ⟨i, rfl, ⟨g0, hi, hg0⟩, hbef⟩ | ⟨rfl, hall⟩
  · have hlt : i < xs.length := (List.getElem?_eq_some_iff.1 hi).1
    refine J.ownSome .head (by omega) fun g p ea hcap => ?_
    subst ea
    refine J.seq ?_
    refine J.region ?_
    refine JL.pure rfl rfl (OpP.move rfl) ?_
    refine JL.decF rfl rfl (OpP.eql rfl rfl) (by omega) ?_
    refine JL.nil ?_
    refine J.condF rfl ?_
    refine J.skip ?_
    refine J.seq ?_
    refine J.seq ?_
    refine J.region ?_
    refine JL.pure rfl rfl (OpP.move rfl) ?_
    refine JL.pure rfl rfl (OpP.addI rfl rfl (by omega) (by omega)) ?_
    refine JL.pure rfl rfl (OpP.assign rfl) ?_
    refine JL.nil ?_
    refine J.block ?_
    have hK0 : moreL d (xs.take (i + 1)) = xs.take i := by
      unfold moreL
      rw [filter_take_succ' hi]
      rw [if_neg (by simp; omega), List.append_nil, List.filter_eq_self]
      intro f hf
      obtain ⟨j, hj⟩ := List.getElem?_of_mem hf
      have hji : j < i := by have := (List.getElem?_eq_some_iff.1 hj).1; simp at this; omega
      rw [List.getElem?_take, if_pos hji] at hj
      simpa using hbef j f hji hj
    refine J.loopI (fun x : Nat × List Gr × List Gr => xs.length - x.1) (fun x => x.1 ≤ xs.length ∧ x.2.1 = moreL d (xs.take x.1) ∧ x.2.1.length + x.2.2.length = x.1 ∧ 0 < x.2.2.length)
      (fun x => [(6, .int .i64 (x.1 : Nat)), (5, .int .i64 (x.2.1.length : Nat)), (0, .slice (some ⟨g, p, none⟩) xs.length c), (1, .func (.func 62) #[] #[.pointer (some ⟨b, 0, none⟩)])])
      (fun x => own 62 7 (.slice (some ⟨g, p, none⟩) xs.length c) xs.length ((x.2.1 ++ x.2.2 ++ xs.drop x.1).flatMap gcl) :: F) (i + 1, xs.take i, [g0]) ⟨by dsimp only; omega, hK0.symm, by simp; omega, by simp⟩ ?_ (fun w h => ?_) (fun ⟨j, K, G⟩ ⟨hj, hK, hKG, hG⟩ back => ?_)
    · dsimp only
      rw [List.length_take, Nat.min_eq_left (by omega)]
      exact (by repeat (first | exact SubEnv.nil | refine SubEnv.cons (by first | rfl | exact congrArg (fun z => some (Value.int .i64 z)) (by omega) | (simp; done)) ?_))
    · dsimp only
      have hd := List.drop_eq_getElem_cons hlt
      rw [show xs[i] = g0 from (List.getElem?_eq_some_iff.1 hi).2] at hd
      have : xs.take i ++ [g0] ++ xs.drop (i + 1) = xs := by
        rw [List.append_assoc, List.singleton_append, ← hd, List.take_append_drop]
      rw [this]; exact h
    dsimp only at hj hK hKG hG back ⊢
    by_cases hjn : j < xs.length
    · obtain ⟨f, hf⟩ : ∃ f, xs[j]? = some f := ⟨_, List.getElem?_eq_getElem hjn⟩
      have hzf : (K ++ G ++ xs.drop j)[j]? = some f := by
        rw [List.getElem?_append_right (by simp; omega), List.length_append, hKG, Nat.sub_self, List.getElem?_drop]
        exact hf
      have hlen : ∀ g ∈ K ++ G ++ xs.drop j, (gcl g).length = 7 := fun _ _ => rfl
      have hfil : moreL d (xs.take (j + 1)) = moreL d (xs.take j) ++ _ := filter_take_succ' hf
      rw [← hK] at hfil
      have hdj := List.drop_eq_getElem_cons hjn
      rw [show xs[j] = f from (List.getElem?_eq_some_iff.1 hf).2] at hdj
      refine J.seq ?_
      refine J.seq ?_
      refine J.region ?_
      refine JL.pure rfl rfl (OpP.move rfl) ?_
      refine JL.pure rfl rfl (OpP.move rfl) ?_
      refine JL.pure rfl rfl (OpP.len rfl rfl) ?_
      refine JL.decT rfl rfl (OpP.lss rfl rfl) (by omega) ?_
      refine JL.nil ?_
      refine J.condT rfl ?_
      refine J.skip ?_
      refine J.seq ?_
      refine J.block ?_
      refine J.seq ?_
      refine J.region ?_
      refine JL.pure rfl rfl (OpP.move rfl) ?_
      refine JL.pure rfl rfl (OpP.move rfl) ?_
      refine JL.pure rfl rfl (OpP.indexAddr rfl rfl (by omega) (by omega)) ?_
      refine JL.read rfl rfl (OpR.loadN rfl (by apply Cells.chunkAt (Cells.own .head); (case' h => assumption); (case' hi => assumption); done) (by first | rfl | assumption)) ?_
      refine JL.mem rfl rfl OpM.alloc ?_; rintro _ _ ⟨b7, rfl, rfl⟩
      refine JL.mem0 rfl (by apply OpM.storeN rfl rfl (by rfl) (oneC rfl (oneC rfl (oneC rfl (oneC rfl (oneC rfl (oneC rfl (one1 rfl))))))); (case' hu => exact .head); (case' hs => exact (.here (.here (.here (.here (.here (.here (.here .nil)))))))); done) ?_; rintro _ _ ⟨rfl, rfl⟩
      refine JL.nil ?_
      refine J.seq ?_
      refine J.region ?_
      refine JL.pure rfl rfl (OpP.move rfl) ?_
      refine JL.read rfl rfl (OpR.loadN rfl (Cells.full .head) rfl) ?_
      refine JL.step rfl rfl (OpW.call (first := []) (captured := [_]) inferInstance rfl rfl (shal1_ok (hc.conv fun _ h => h.tail.tail))) ?_; rintro r28 _ ⟨rfl, rfl⟩
      refine JL.pure rfl rfl (OpP.notB rfl) ?_
      refine JL.nil ?_
      refine J.splitAt 29 rfl (fun h29 => ?_) (fun h29 => ?_)
      focus
        refine J.condT rfl ?_
        refine J.seq ?_
        refine J.region ?_
        refine JL.pure rfl rfl (OpP.move rfl) ?_
        refine JL.pure rfl rfl (OpP.move rfl) ?_
        refine JL.read rfl rfl (OpR.loadN rfl (Cells.full .head) rfl) ?_
        refine JL.pure rfl rfl (OpP.indexAddr rfl rfl (by omega) (by omega)) ?_
      rotate_left 1
      focus
        refine J.condF rfl ?_
        refine J.skip ?_
        refine J.inBlock ?_
        refine J.region ?_
        refine JL.pure rfl rfl (OpP.move rfl) ?_
        refine JL.pure rfl rfl (OpP.addI rfl rfl (by omega) (by omega)) ?_
        refine JL.pure rfl rfl (OpP.assign rfl) ?_
        refine JL.nil ?_
      rotate_left 1
      · obtain ⟨q0, G', rfl⟩ : ∃ g0 G', G = g0 :: G' := by cases G with | nil => simp at hG | cons a l => exact ⟨a, l, rfl⟩
        have hset : (K ++ (q0 :: G') ++ xs.drop j).set K.length f = (K ++ [f]) ++ (G' ++ [f]) ++ xs.drop (j + 1) := by
          rw [List.append_assoc, List.set_append_right _ _ (Nat.le_refl _), Nat.sub_self, hdj]
          simp
        have hf0 : d < f.dep := by simpa using h29
        rw [if_pos (by simpa using hf0)] at hfil
        refine JL.f1 ?_
        refine JL.mem0 rfl (OpM.storeOwnN (vs := gcl f) (j := K.length * 7) rfl rfl rfl gcl_one (by simp) (chunk_spl (i := K.length) (a := f) hlen rfl (by simp))) ?_
        rintro _ _ ⟨rfl, rfl⟩
        refine JL.nil ?_
        refine J.region ?_
        refine JL.pure rfl rfl (OpP.move rfl) ?_
        refine JL.pure rfl rfl (OpP.addI rfl rfl (by omega) (by omega)) ?_
        refine JL.pure rfl rfl (OpP.assign rfl) ?_
        refine JL.nil ?_
        refine J.inBlock ?_
        refine J.region ?_
        refine JL.pure rfl rfl (OpP.move rfl) ?_
        refine JL.pure rfl rfl (OpP.addI rfl rfl (by omega) (by omega)) ?_
        refine JL.pure rfl rfl (OpP.assign rfl) ?_
        refine JL.nil ?_
        refine back (j + 1, K ++ [f], G' ++ [f]) ⟨by dsimp only; omega, hfil.symm, by simp at hKG ⊢; omega, by simp⟩ (by dsimp only; omega) ?_ (fun w h => ?_)
        · dsimp only
          rw [List.length_append, List.length_singleton]
          exact (by repeat (first | exact SubEnv.nil | refine SubEnv.cons (by first | rfl | exact congrArg (fun z => some (Value.int .i64 z)) (by omega) | (simp; done)) ?_))
        · dsimp only
          rw [← hset]
          exact Own.pick (pre := [_, _]) [0] rfl h
      · have hf0 : f.dep ≤ d := by simpa using h29
        rw [if_neg (by simp; omega), List.append_nil] at hfil
        refine back (j + 1, K, G ++ [f]) ⟨by dsimp only; omega, hfil.symm, by simp; omega, by simp⟩ (by dsimp only; omega) (by repeat (first | exact SubEnv.nil | refine SubEnv.cons (by first | rfl | exact congrArg (fun z => some (Value.int .i64 z)) (by omega) | (simp; done)) ?_)) (fun w h => ?_)
        dsimp only
        rw [hdj] at h
        have e2 : K ++ (G ++ [f]) ++ xs.drop (j + 1) = K ++ G ++ f :: xs.drop (j + 1) := by simp
        rw [e2]
        exact Own.pick (pre := [_, _]) [1] rfl h
    · have hjl : j = xs.length := by omega
      subst hjl
      rw [List.take_length] at hK
      refine J.seq ?_
      refine J.seq ?_
      refine J.region ?_
      refine JL.pure rfl rfl (OpP.move rfl) ?_
      refine JL.pure rfl rfl (OpP.move rfl) ?_
      refine JL.pure rfl rfl (OpP.len rfl rfl) ?_
      refine JL.decF rfl rfl (OpP.lss rfl rfl) (by omega) ?_
      refine JL.nil ?_
      refine J.condF rfl ?_
      refine J.exit rfl ?_
      refine J.seq ?_
      refine J.region ?_
      refine JL.pure rfl rfl (OpP.move rfl) ?_
      refine JL.pure rfl rfl (OpP.move rfl) ?_
      refine JL.pure rfl rfl (OpP.sliceFrom _ rfl rfl rfl (by omega) (by omega)) ?_
      rw [if_neg (show ¬ c = K.length by omega)]
      refine JL.mem0 rfl (OpM.clearOwn (k := K.length) rfl rfl (by decide) rfl (gcl_one (g := ⟨0, ByteArray.empty, ByteArray.empty, 0, 0, 0, false⟩)) rfl (by omega)) ?_; rintro _ _ ⟨rfl, rfl⟩
      refine JL.nil ?_
      refine J.seq ?_
      refine J.region ?_
      refine JL.pure rfl rfl (OpP.move rfl) ?_
      refine JL.pure rfl rfl (OpP.move rfl) ?_
      refine JL.pure rfl rfl (OpP.sliceTo _ rfl rfl rfl (by omega)) ?_
      refine JL.pure rfl rfl (OpP.assign rfl) ?_
      refine JL.nil ?_
      refine J.ret1 rfl rfl ?_
      rw [← hK]
      refine ⟨_, ⟨_, _, rfl, rfl⟩, fun w h => ?_⟩
      have h := Own.shrink (k := K.length) (by omega) h
      have e1 : ∀ z, List.take (K.length * 7) (List.take (K.length * 7) ((K ++ G ++ xs.drop xs.length).flatMap gcl) ++ z) = K.flatMap gcl := fun z => by
        rw [List.take_append_of_le_length (by rw [List.length_take, chunk7]; simp), List.take_take, Nat.min_self, List.append_assoc, List.flatMap_append, List.take_left' (chunk7 K)]
      rw [e1] at h
      exact h
  · refine J.seq ?_
    refine J.region ?_
    refine JL.pure rfl rfl (OpP.move rfl) ?_
    refine JL.decT rfl rfl (OpP.eql rfl rfl) (by omega) ?_
    refine JL.nil ?_
    refine J.condT rfl ?_
    refine J.seq ?_
    refine J.region ?_
    refine JL.pure rfl rfl (OpP.move rfl) ?_
    refine JL.pure rfl rfl (OpP.assign rfl) ?_
    refine JL.nil ?_
    refine J.ret1 rfl rfl ?_
    have : moreL d xs = xs := List.filter_eq_self.2 fun x hx => by simpa using hall x hx
    rw [this]
    exact ⟨_, ⟨_, _, rfl, rfl⟩, fun _ h => h⟩
def lateF : Gr → List Gr → Gr
  | b, [] => b
  | b, g :: l => lateF (if b.til < g.til then g else b) l
theorem lateF_snoc : ∀ (l : List Gr) (b g : Gr), lateF b (l ++ [g]) = if (lateF b l).til < g.til then g else lateF b l
  | [], _, _ => rfl
  | _ :: l, _, g => by rw [List.cons_append, lateF, lateF, lateF_snoc l]
theorem parent_ok {w0 : World} {F : List HProp} {x c : Nat} {a : Option Addr} {gs : List Gr} {now d : Int} {who : Str} {h0 : Gr} {rest : List Gr} (hL : Led w0 F x a c gs) (wf : Wf gs) (hne : who ≠ rootS → moreL d (heldL gs now who gs) = h0 :: rest) :
    FnO Try.prog w0 56 [.pointer (some ⟨x, 0, none⟩), .int .i64 now, .string who, .int .i64 d] F (fun r l' => r = .int .i64 (if who = rootS then 0 else (lateF h0 rest).num) ∧ l' = F) := by
  have wf1 := wf.1
  have hle := held_le gs now who gs
  refine FnO.weak ?_
  refine FnO.intro (n := 39) Try.func56 rfl rfl rfl ?_
  by_cases hw : who = rootS
  · rw [if_pos hw]
    refine J.seq ?_
    refine J.region ?_
    refine JL.mem rfl rfl (OpM.box rfl rfl) ?_; rintro _ _ ⟨b7, rfl, rfl⟩
    refine JL.pure rfl rfl (OpP.assign rfl) ?_
    refine JL.nil ?_
    refine J.seq ?_
    refine J.seq ?_
    refine J.region ?_
    refine JL.pure rfl rfl (OpP.move rfl) ?_
    refine JL.decT rfl rfl (OpP.eqStr rfl rfl) (by omega) ?_
    refine JL.nil ?_
    refine J.condT rfl ?_
    refine J.seq ?_
    refine J.region ?_
    refine JL.pure rfl rfl (OpP.assign rfl) ?_
    refine JL.nil ?_
    refine J.ret1 rfl rfl ?_
    exact ⟨_, ⟨rfl, rfl⟩, fun _ h => h.tail⟩
  · rw [if_neg hw]
    have hne := hne hw
    have hle2 : (moreL d (heldL gs now who gs)).length ≤ (heldL gs now who gs).length := List.length_filter_le _ _
    refine J.seq ?_
    refine J.region ?_
    refine JL.mem rfl rfl (OpM.box rfl rfl) ?_; rintro _ _ ⟨b7, rfl, rfl⟩
    refine JL.pure rfl rfl (OpP.assign rfl) ?_
    refine JL.nil ?_
    refine J.seq ?_
    refine J.seq ?_
    refine J.region ?_
    refine JL.pure rfl rfl (OpP.move rfl) ?_
    refine JL.decF rfl rfl (OpP.eqStr rfl rfl) (by omega) ?_
    refine JL.nil ?_
    refine J.condF rfl ?_
    refine J.skip ?_
    have hc : Cell w0 (row b7 3 [.int .i64 d] :: F) ⟨b7, 0, none⟩ (.int .i64 d) := Cell.row .head rfl
    have hH := held_ok (now := now) (who := who) (hL.conv fun w (h : Own w0 w (row b7 3 [.int .i64 d] :: F)) => h.tail) wf
    have hD := fun (a : Option Addr) (c : Nat) => DeleteG_ok (a := a) (c := c) (xs := heldL gs now who gs) hc (by omega)
    generalize heldL gs now who gs = hs at *
    generalize hms : moreL d hs = ms at *
    have hl1 : ms.length = rest.length + 1 := by rw [hne]; rfl
    have hg0 : ms[0]? = some h0 := by rw [hne]; rfl
    have hlen : ∀ g ∈ ms, (gcl g).length = 7 := fun _ _ => rfl
    refine J.seq ?_
    refine J.region ?_
    refine JL.pure rfl rfl (OpP.move rfl) ?_
    refine JL.pure rfl rfl (OpP.move rfl) ?_
    refine JL.pure rfl rfl (OpP.move rfl) ?_
    refine JL.step rfl rfl (OpW.call (first := []) (captured := []) inferInstance rfl rfl hH) ?_; rintro r18 _ ⟨a1, ⟨c1, ⟨rfl, rfl⟩⟩⟩
    refine JL.pure rfl rfl (OpP.makeFunc rfl rfl) ?_
    refine JL.step rfl rfl (OpW.call (first := []) (captured := []) inferInstance rfl rfl (hD _ _)) ?_; rintro r20 _ ⟨a2, ⟨c2, ⟨rfl, rfl⟩⟩⟩
    refine JL.pure rfl rfl (OpP.assign rfl) ?_
    refine JL.nil ?_
    refine J.seq ?_
    refine J.region ?_
    refine JL.pure rfl rfl (OpP.move rfl) ?_
    refine JL.ownSome .head (by omega) fun ga2 pa2 ea2 ka2 => ?_; subst ea2
    refine JL.pure rfl rfl (OpP.indexAddr rfl rfl (by omega) (by omega)) ?_
    refine JL.read rfl rfl (OpR.loadN rfl (by apply Cells.chunkAt (Cells.own .head); (case' h => assumption); (case' hi => assumption); done) (by first | rfl | assumption)) ?_
    refine JL.mem rfl rfl OpM.alloc ?_; rintro _ _ ⟨b10, rfl, rfl⟩
    refine JL.mem0 rfl (by apply OpM.storeN rfl rfl (by rfl) (oneC rfl (oneC rfl (oneC rfl (oneC rfl (oneC rfl (oneC rfl (one1 rfl))))))); (case' hu => exact .head); (case' hs => exact (.here (.here (.here (.here (.here (.here (.here .nil)))))))); done) ?_; rintro _ _ ⟨rfl, rfl⟩
    refine JL.nil ?_
    refine J.seq ?_
    refine J.seq ?_
    refine J.region ?_
    refine JL.pure rfl rfl (OpP.move rfl) ?_
    refine JL.pure rfl rfl (OpP.len rfl rfl) ?_
    refine JL.pure rfl rfl (OpP.move rfl) ?_
    refine JL.nil ?_
    refine J.block ?_
    refine J.loopI (fun x : Nat × Gr => ms.length - x.1) (fun x => x.1 ≤ ms.length ∧ x.2 = lateF h0 (ms.take x.1)) (fun z => [(26, .int .i64 (z.1 : Nat)), (25, .int .i64 ms.length), (24, .slice (some ⟨ga2, pa2, none⟩) ms.length c2), (10, .pointer (some ⟨b10, 0, none⟩))])
      (fun x => row b10 62 (gcl x.2) :: own 62 7 (.slice (some ⟨ga2, pa2, none⟩) ms.length c2) ms.length (ms.flatMap gcl) :: row b7 3 [.int .i64 d] :: F) (0, h0) ⟨Nat.zero_le _, rfl⟩ (by repeat (first | exact SubEnv.nil | refine SubEnv.cons (by first | rfl | exact congrArg (fun z => some (Value.int .i64 z)) (by omega) | (simp; done)) ?_)) (fun _ h => h) (fun ⟨j, b⟩ hi back => ?_)
    dsimp only at hi back ⊢
    obtain ⟨hj, hb⟩ := hi
    by_cases hlt : j < ms.length
    · obtain ⟨g, hg⟩ : ∃ e, ms[j]? = some e := ⟨_, List.getElem?_eq_getElem hlt⟩
      have hnx : lateF h0 (ms.take (j + 1)) = if b.til < g.til then g else b := by
        rw [List.take_add_one, hg, Option.toList_some, lateF_snoc, hb]
      refine J.seq ?_
      refine J.region ?_
      refine JL.decT rfl rfl (OpP.lss rfl rfl) (by omega) ?_
      refine JL.nil ?_
      refine J.seq ?_
      refine J.condT rfl ?_
      refine J.skip ?_
      refine J.seq ?_
      refine J.block ?_
      refine J.seq ?_
      refine J.region ?_
      refine JL.pure rfl rfl (OpP.indexAddr rfl rfl (by omega) (by omega)) ?_
      refine JL.read rfl rfl (OpR.loadN rfl (by apply Cells.chunkAt (Cells.own (.tail .head)); (case' h => assumption); (case' hi => assumption); done) (by first | rfl | assumption)) ?_
      refine JL.mem rfl rfl OpM.alloc ?_; rintro _ _ ⟨b12, rfl, rfl⟩
      refine JL.mem0 rfl (by apply OpM.storeN rfl rfl (by rfl) (oneC rfl (oneC rfl (oneC rfl (oneC rfl (oneC rfl (oneC rfl (one1 rfl))))))); (case' hu => exact .head); (case' hs => exact (.here (.here (.here (.here (.here (.here (.here .nil)))))))); done) ?_; rintro _ _ ⟨rfl, rfl⟩
      refine JL.nil ?_
      refine J.seq ?_
      refine J.region ?_
      refine JL.pure rfl rfl (OpP.fieldAddr rfl) ?_
      refine JL.read rfl rfl (OpR.load1 rfl (Cell.row .head rfl)) ?_
      refine JL.pure rfl rfl (OpP.fieldAddr rfl) ?_
      refine JL.read rfl rfl (OpR.load1 rfl (Cell.row (.tail .head) rfl)) ?_
      refine JL.dec rfl rfl (OpP.gtr rfl rfl) (fun h34 => ?_) (fun h34 => ?_)
      focus
        refine JL.nil ?_
        refine J.condT rfl ?_
        refine J.region ?_
        refine JL.read rfl rfl (OpR.loadN rfl (Cells.full .head) rfl) ?_
        refine JL.mem0 rfl (by apply OpM.storeN rfl rfl (by rfl) (oneC rfl (oneC rfl (oneC rfl (oneC rfl (oneC rfl (oneC rfl (one1 rfl))))))); (case' hu => exact (.tail .head)); (case' hs => exact (.here (.here (.here (.here (.here (.here (.here .nil)))))))); done) ?_; rintro _ _ ⟨rfl, rfl⟩
        refine JL.nil ?_
        refine J.inBlock ?_
        refine J.region ?_
        refine JL.pure rfl rfl (OpP.addI rfl rfl (by omega) (by omega)) ?_
        refine JL.pure rfl rfl (OpP.move rfl) ?_
        refine JL.nil ?_
      rotate_left 1
      focus
        refine JL.nil ?_
        refine J.condF rfl ?_
        refine J.skip ?_
        refine J.inBlock ?_
        refine J.region ?_
        refine JL.pure rfl rfl (OpP.addI rfl rfl (by omega) (by omega)) ?_
        refine JL.pure rfl rfl (OpP.move rfl) ?_
        refine JL.nil ?_
      rotate_left 1
      · exact back (j + 1, g) ⟨by dsimp only; omega, by dsimp only; rw [hnx, if_pos (by omega)]⟩ (by dsimp only; omega) (by repeat (first | exact SubEnv.nil | refine SubEnv.cons (by first | rfl | exact congrArg (fun z => some (Value.int .i64 z)) (by omega) | (simp; done)) ?_)) (fun _ h => h.tail)
      · exact back (j + 1, b) ⟨by dsimp only; omega, by dsimp only; rw [hnx, if_neg (by omega)]⟩ (by dsimp only; omega) (by repeat (first | exact SubEnv.nil | refine SubEnv.cons (by first | rfl | exact congrArg (fun z => some (Value.int .i64 z)) (by omega) | (simp; done)) ?_)) (fun _ h => h.tail)
    · have : j = ms.length := by omega
      subst this
      rw [List.take_length, hne, lateF, if_neg (by omega)] at hb
      subst hb
      refine J.seq ?_
      refine J.region ?_
      refine JL.decF rfl rfl (OpP.lss rfl rfl) (by omega) ?_
      refine JL.nil ?_
      refine J.seq ?_
      refine J.condF rfl ?_
      refine J.exit rfl ?_
      refine J.seq ?_
      refine J.region ?_
      refine JL.pure rfl rfl (OpP.fieldAddr rfl) ?_
      refine JL.read rfl rfl (OpR.load1 rfl (Cell.row .head rfl)) ?_
      refine JL.pure rfl rfl (OpP.assign rfl) ?_
      refine JL.nil ?_
      refine J.ret1 rfl rfl ?_
      exact ⟨_, ⟨rfl, rfl⟩, fun _ h => h.tail.tail.tail⟩
end Go.Proofs.C

-- seat c
namespace Go.Proofs.C
open Go Go.Gp Go.RowKit

def timeP (t : Int) : Prop := 0 ≤ t ∧ t ≤ 1099511627776
instance (t : Int) : Decidable (timeP t) := by unfold timeP; infer_instance
def nameP (s : Str) : Prop := 1 ≤ s.size ∧ s.size ≤ 64
instance (s : Str) : Decidable (nameP s) := by unfold nameP; infer_instance
def argP (now : Int) (g : Gr) : Prop := timeP now ∧ timeP g.til ∧ nameP g.fr ∧ nameP g.to ∧ g.to ≠ rootS ∧ 0 ≤ g.dep ∧ g.dep < 6
instance (now : Int) (g : Gr) : Decidable (argP now g) := by unfold argP; infer_instance
def wrongF (gs : List Gr) (now : Int) (g : Gr) : Int :=
  if ¬ argP now g then 1 else if g.til ≤ now then 12 else if (authF gs now g.fr).2 = false then 15 else if (authF gs now g.fr).1 ≤ g.dep then 11 else if 40 ≤ gs.length then 13 else 0

theorem wrong_ok {w0 : World} {F : List HProp} {x c : Nat} {a : Option Addr} {gs : List Gr} {now : Int} {g : Gr} (hL : Led w0 F x a c gs) (wf : Wf gs) (hd : ∀ g ∈ gs, DepOk g) (h1 : g.fr.size ≤ 1000) (h2 : g.to.size ≤ 1000) :
    FnO Try.prog w0 55 [.pointer (some ⟨x, 0, none⟩), .int .i64 now, .agg (gcl g).toArray] F (fun r l' => r = .int .i64 (wrongF gs now g) ∧ l' = F) := by
  have wf1 := wf.1
  have hh := hL.h
  refine FnO.weak ?_
  refine FnO.intro (n := 72) Try.func55 rfl rfl rfl ?_
  refine J.seq ?_
  refine J.region ?_
  refine JL.mem rfl rfl (OpM.box rfl rfl) ?_; rintro _ _ ⟨b5, rfl, rfl⟩
  refine JL.pure rfl rfl (OpP.assign rfl) ?_
  refine JL.nil ?_
  refine J.seq ?_
  refine J.seq ?_
  refine J.region ?_
  refine JL.pure rfl rfl (OpP.move rfl) ?_
  refine JL.step rfl rfl (OpW.call (first := []) (captured := []) inferInstance rfl rfl time_ok) ?_; rintro r10 _ ⟨rfl, rfl⟩
  refine JL.pure rfl rfl (OpP.notB rfl) ?_
  refine JL.pure rfl rfl (OpP.move rfl) ?_
  refine JL.splitAt 12 rfl (fun h12 => ?_) (fun h12 => ?_)
  focus
    refine JL.skip rfl rfl ?_
    refine JL.skip rfl rfl ?_
    refine JL.skip rfl rfl ?_
    refine JL.skip rfl rfl ?_
    refine JL.pure rfl rfl (OpP.pickT rfl rfl) ?_
    refine JL.pure rfl rfl (OpP.move rfl) ?_
    refine JL.skip rfl rfl ?_
    refine JL.skip rfl rfl ?_
    refine JL.skip rfl rfl ?_
    refine JL.skip rfl rfl ?_
    refine JL.pure rfl rfl (OpP.pickT rfl rfl) ?_
    refine JL.pure rfl rfl (OpP.move rfl) ?_
    refine JL.skip rfl rfl ?_
    refine JL.skip rfl rfl ?_
    refine JL.skip rfl rfl ?_
    refine JL.skip rfl rfl ?_
    refine JL.pure rfl rfl (OpP.pickT rfl rfl) ?_
    refine JL.pure rfl rfl (OpP.move rfl) ?_
    refine JL.skip rfl rfl ?_
    refine JL.skip rfl rfl ?_
    refine JL.skip rfl rfl ?_
    refine JL.pure rfl rfl (OpP.pickT rfl rfl) ?_
    refine JL.pure rfl rfl (OpP.move rfl) ?_
    refine JL.skip rfl rfl ?_
    refine JL.skip rfl rfl ?_
    refine JL.skip rfl rfl ?_
    refine JL.pure rfl rfl (OpP.pickT rfl rfl) ?_
    refine JL.pure rfl rfl (OpP.move rfl) ?_
    refine JL.skip rfl rfl ?_
    refine JL.skip rfl rfl ?_
    refine JL.skip rfl rfl ?_
    refine JL.pure rfl rfl (OpP.pickT rfl rfl) ?_
    refine JL.nil ?_
    refine J.condT rfl ?_
    refine J.seq ?_
    refine J.region ?_
    refine JL.pure rfl rfl (OpP.assign rfl) ?_
    refine JL.nil ?_
    refine J.ret1 rfl rfl ?_
  rotate_left 1
  focus
    refine JL.pure rfl rfl (OpP.fieldAddr rfl) ?_
    refine JL.read rfl rfl (OpR.load1 rfl (Cell.row .head rfl)) ?_
    refine JL.step rfl rfl (OpW.call (first := []) (captured := []) inferInstance rfl rfl time_ok) ?_; rintro r15 _ ⟨rfl, rfl⟩
    refine JL.pure rfl rfl (OpP.notB rfl) ?_
    refine JL.pure rfl rfl (OpP.pickF rfl rfl) ?_
    refine JL.pure rfl rfl (OpP.move rfl) ?_
    refine JL.splitAt 18 rfl (fun h18 => ?_) (fun h18 => ?_)
    focus
      refine JL.skip rfl rfl ?_
      refine JL.skip rfl rfl ?_
      refine JL.skip rfl rfl ?_
      refine JL.skip rfl rfl ?_
      refine JL.pure rfl rfl (OpP.pickT rfl rfl) ?_
      refine JL.pure rfl rfl (OpP.move rfl) ?_
      refine JL.skip rfl rfl ?_
      refine JL.skip rfl rfl ?_
      refine JL.skip rfl rfl ?_
      refine JL.skip rfl rfl ?_
      refine JL.pure rfl rfl (OpP.pickT rfl rfl) ?_
      refine JL.pure rfl rfl (OpP.move rfl) ?_
      refine JL.skip rfl rfl ?_
      refine JL.skip rfl rfl ?_
      refine JL.skip rfl rfl ?_
      refine JL.pure rfl rfl (OpP.pickT rfl rfl) ?_
      refine JL.pure rfl rfl (OpP.move rfl) ?_
      refine JL.skip rfl rfl ?_
      refine JL.skip rfl rfl ?_
      refine JL.skip rfl rfl ?_
      refine JL.pure rfl rfl (OpP.pickT rfl rfl) ?_
      refine JL.pure rfl rfl (OpP.move rfl) ?_
      refine JL.skip rfl rfl ?_
      refine JL.skip rfl rfl ?_
      refine JL.skip rfl rfl ?_
      refine JL.pure rfl rfl (OpP.pickT rfl rfl) ?_
      refine JL.nil ?_
      refine J.condT rfl ?_
      refine J.seq ?_
      refine J.region ?_
      refine JL.pure rfl rfl (OpP.assign rfl) ?_
      refine JL.nil ?_
      refine J.ret1 rfl rfl ?_
    rotate_left 1
    focus
      refine JL.pure rfl rfl (OpP.fieldAddr rfl) ?_
      refine JL.read rfl rfl (OpR.load1 rfl (Cell.row .head rfl)) ?_
      refine JL.step rfl rfl (OpW.call (first := []) (captured := []) inferInstance rfl rfl (name_ok (by first | assumption | omega | rfl | exact Nat.le_of_ble_eq_true rfl | (simp; omega)))) ?_; rintro r21 _ ⟨rfl, rfl⟩
      refine JL.pure rfl rfl (OpP.notB rfl) ?_
      refine JL.pure rfl rfl (OpP.pickF rfl rfl) ?_
      refine JL.pure rfl rfl (OpP.move rfl) ?_
      refine JL.splitAt 24 rfl (fun h24 => ?_) (fun h24 => ?_)
      focus
        refine JL.skip rfl rfl ?_
        refine JL.skip rfl rfl ?_
        refine JL.skip rfl rfl ?_
        refine JL.skip rfl rfl ?_
        refine JL.pure rfl rfl (OpP.pickT rfl rfl) ?_
        refine JL.pure rfl rfl (OpP.move rfl) ?_
        refine JL.skip rfl rfl ?_
        refine JL.skip rfl rfl ?_
        refine JL.skip rfl rfl ?_
        refine JL.pure rfl rfl (OpP.pickT rfl rfl) ?_
        refine JL.pure rfl rfl (OpP.move rfl) ?_
        refine JL.skip rfl rfl ?_
        refine JL.skip rfl rfl ?_
        refine JL.skip rfl rfl ?_
        refine JL.pure rfl rfl (OpP.pickT rfl rfl) ?_
        refine JL.pure rfl rfl (OpP.move rfl) ?_
        refine JL.skip rfl rfl ?_
        refine JL.skip rfl rfl ?_
        refine JL.skip rfl rfl ?_
        refine JL.pure rfl rfl (OpP.pickT rfl rfl) ?_
        refine JL.nil ?_
        refine J.condT rfl ?_
        refine J.seq ?_
        refine J.region ?_
        refine JL.pure rfl rfl (OpP.assign rfl) ?_
        refine JL.nil ?_
        refine J.ret1 rfl rfl ?_
      rotate_left 1
      focus
        refine JL.pure rfl rfl (OpP.fieldAddr rfl) ?_
        refine JL.read rfl rfl (OpR.load1 rfl (Cell.row .head rfl)) ?_
        refine JL.step rfl rfl (OpW.call (first := []) (captured := []) inferInstance rfl rfl (name_ok (by first | assumption | omega | rfl | exact Nat.le_of_ble_eq_true rfl | (simp; omega)))) ?_; rintro r27 _ ⟨rfl, rfl⟩
        refine JL.pure rfl rfl (OpP.notB rfl) ?_
        refine JL.pure rfl rfl (OpP.pickF rfl rfl) ?_
        refine JL.pure rfl rfl (OpP.move rfl) ?_
        refine JL.splitAt 30 rfl (fun h30 => ?_) (fun h30 => ?_)
        focus
          refine JL.skip rfl rfl ?_
          refine JL.skip rfl rfl ?_
          refine JL.skip rfl rfl ?_
          refine JL.pure rfl rfl (OpP.pickT rfl rfl) ?_
          refine JL.pure rfl rfl (OpP.move rfl) ?_
          refine JL.skip rfl rfl ?_
          refine JL.skip rfl rfl ?_
          refine JL.skip rfl rfl ?_
          refine JL.pure rfl rfl (OpP.pickT rfl rfl) ?_
          refine JL.pure rfl rfl (OpP.move rfl) ?_
          refine JL.skip rfl rfl ?_
          refine JL.skip rfl rfl ?_
          refine JL.skip rfl rfl ?_
          refine JL.pure rfl rfl (OpP.pickT rfl rfl) ?_
          refine JL.nil ?_
          refine J.condT rfl ?_
          refine J.seq ?_
          refine J.region ?_
          refine JL.pure rfl rfl (OpP.assign rfl) ?_
          refine JL.nil ?_
          refine J.ret1 rfl rfl ?_
        rotate_left 1
        focus
          refine JL.pure rfl rfl (OpP.fieldAddr rfl) ?_
          refine JL.read rfl rfl (OpR.load1 rfl (Cell.row .head rfl)) ?_
          refine JL.dec rfl rfl (OpP.eqStr rfl rfl) (fun h33 => ?_) (fun h33 => ?_)
          focus
            refine JL.pure rfl rfl (OpP.pickF rfl rfl) ?_
            refine JL.pure rfl rfl (OpP.move rfl) ?_
            refine JL.skip rfl rfl ?_
            refine JL.skip rfl rfl ?_
            refine JL.skip rfl rfl ?_
            refine JL.pure rfl rfl (OpP.pickT rfl rfl) ?_
            refine JL.pure rfl rfl (OpP.move rfl) ?_
            refine JL.skip rfl rfl ?_
            refine JL.skip rfl rfl ?_
            refine JL.skip rfl rfl ?_
            refine JL.pure rfl rfl (OpP.pickT rfl rfl) ?_
            refine JL.nil ?_
            refine J.condT rfl ?_
            refine J.seq ?_
            refine J.region ?_
            refine JL.pure rfl rfl (OpP.assign rfl) ?_
            refine JL.nil ?_
            refine J.ret1 rfl rfl ?_
          rotate_left 1
          focus
            refine JL.pure rfl rfl (OpP.pickF rfl rfl) ?_
            refine JL.pure rfl rfl (OpP.move rfl) ?_
            refine JL.pure rfl rfl (OpP.fieldAddr rfl) ?_
            refine JL.read rfl rfl (OpR.load1 rfl (Cell.row .head rfl)) ?_
            refine JL.dec rfl rfl (OpP.lss rfl rfl) (fun h38 => ?_) (fun h38 => ?_)
            focus
              refine JL.pure rfl rfl (OpP.pickF rfl rfl) ?_
              refine JL.pure rfl rfl (OpP.move rfl) ?_
              refine JL.skip rfl rfl ?_
              refine JL.skip rfl rfl ?_
              refine JL.skip rfl rfl ?_
              refine JL.pure rfl rfl (OpP.pickT rfl rfl) ?_
              refine JL.nil ?_
              refine J.condT rfl ?_
              refine J.seq ?_
              refine J.region ?_
              refine JL.pure rfl rfl (OpP.assign rfl) ?_
              refine JL.nil ?_
              refine J.ret1 rfl rfl ?_
            rotate_left 1
            focus
              refine JL.pure rfl rfl (OpP.pickF rfl rfl) ?_
              refine JL.pure rfl rfl (OpP.move rfl) ?_
              refine JL.pure rfl rfl (OpP.fieldAddr rfl) ?_
              refine JL.read rfl rfl (OpR.load1 rfl (Cell.row .head rfl)) ?_
              refine JL.dec rfl rfl (OpP.geq rfl rfl) (fun h43 => ?_) (fun h43 => ?_)
              focus
                refine JL.pure rfl rfl (OpP.pickF rfl rfl) ?_
                refine JL.nil ?_
                refine J.condT rfl ?_
                refine J.seq ?_
                refine J.region ?_
                refine JL.pure rfl rfl (OpP.assign rfl) ?_
                refine JL.nil ?_
                refine J.ret1 rfl rfl ?_
              rotate_left 1
              focus
                refine JL.pure rfl rfl (OpP.pickF rfl rfl) ?_
                refine JL.nil ?_
                refine J.condF rfl ?_
                refine J.skip ?_
                refine J.seq ?_
              rotate_left 1
            rotate_left 2
          rotate_left 3
        rotate_left 4
      rotate_left 5
    rotate_left 6
  rotate_left 7
  iterate 7
    · exact ⟨_, ⟨congrArg (Value.int .i64) (by rw [wrongF, if_pos (fun q => by obtain ⟨⟨q1, q2⟩, ⟨q3, q4⟩, ⟨q5, q6⟩, ⟨q7, q8⟩, q9, q10, q11⟩ := q; first | omega | simp_all | (simp_all; omega))]), rfl⟩, fun _ h => h.tail⟩
  have harg : argP now g := by
    unfold argP timeP nameP
    simp only [Bool.not_eq_false', decide_eq_true_eq] at *
    refine ⟨by assumption, by assumption, by assumption, by assumption, by assumption, by omega, by omega⟩
  have hA := auth_ok (F := row b5 62 (gcl g) :: F) (now := now) (who := g.fr) (hL.conv fun _ h => h.tail) wf hd
  generalize hAu : authF gs now g.fr = A at *
  obtain ⟨a1, a2⟩ := A
  dsimp only at hA
  refine J.seq ?_
  refine J.region ?_
  refine JL.pure rfl rfl (OpP.fieldAddr rfl) ?_
  refine JL.read rfl rfl (OpR.load1 rfl (Cell.row .head rfl)) ?_
  refine JL.pure rfl rfl (OpP.move rfl) ?_
  refine JL.dec rfl rfl (OpP.leq rfl rfl) (fun h48 => ?_) (fun h48 => ?_)
  focus
    refine JL.nil ?_
    refine J.condT rfl ?_
    refine J.seq ?_
    refine J.region ?_
    refine JL.pure rfl rfl (OpP.assign rfl) ?_
    refine JL.nil ?_
    refine J.ret1 rfl rfl ?_
  rotate_left 1
  focus
    refine JL.nil ?_
    refine J.condF rfl ?_
    refine J.skip ?_
    refine J.seq ?_
    refine J.region ?_
    refine JL.pure rfl rfl (OpP.move rfl) ?_
    refine JL.pure rfl rfl (OpP.move rfl) ?_
    refine JL.pure rfl rfl (OpP.fieldAddr rfl) ?_
    refine JL.read rfl rfl (OpR.load1 rfl (Cell.row .head rfl)) ?_
    refine JL.step rfl rfl (OpW.call (first := []) (captured := []) inferInstance rfl rfl hA) ?_; rintro r54 _ ⟨rfl, rfl⟩
    refine JL.pure rfl rfl (OpP.move rfl) ?_
    refine JL.pure rfl rfl (OpP.extract rfl rfl) ?_
    refine JL.pure rfl rfl (OpP.extract rfl rfl) ?_
    refine JL.pure rfl rfl (OpP.assign rfl) ?_
    refine JL.pure rfl rfl (OpP.assign rfl) ?_
    refine JL.nil ?_
    refine J.seq ?_
    refine J.block ?_
    refine J.seq ?_
    refine J.region ?_
    refine JL.pure rfl rfl (OpP.move rfl) ?_
    refine JL.pure rfl rfl (OpP.notB rfl) ?_
    refine JL.pure rfl rfl (OpP.assign rfl) ?_
    refine JL.nil ?_
    refine J.splitAt 57 rfl (fun h57 => ?_) (fun h57 => ?_)
    focus
      refine J.condT rfl ?_
      refine J.seq ?_
      refine J.region ?_
      refine JL.pure rfl rfl (OpP.assign rfl) ?_
      refine JL.nil ?_
      refine J.ret1 rfl rfl ?_
    rotate_left 1
    focus
      refine J.condF rfl ?_
      refine J.seq ?_
      refine J.region ?_
      refine JL.pure rfl rfl (OpP.fieldAddr rfl) ?_
      refine JL.read rfl rfl (OpR.load1 rfl (Cell.row .head rfl)) ?_
      refine JL.pure rfl rfl (OpP.move rfl) ?_
      refine JL.dec rfl rfl (OpP.geq rfl rfl) (fun h64 => ?_) (fun h64 => ?_)
      focus
        refine JL.pure rfl rfl (OpP.assign rfl) ?_
        refine JL.nil ?_
        refine J.condT rfl ?_
        refine J.seq ?_
        refine J.region ?_
        refine JL.pure rfl rfl (OpP.assign rfl) ?_
        refine JL.nil ?_
        refine J.ret1 rfl rfl ?_
      rotate_left 1
      focus
        refine JL.pure rfl rfl (OpP.assign rfl) ?_
        refine JL.nil ?_
        refine J.condF rfl ?_
        refine J.seq ?_
        refine J.region ?_
        refine JL.pure rfl rfl (OpP.move rfl) ?_
        refine JL.pure rfl rfl (OpP.nilCheck rfl) ?_
        refine JL.pure rfl rfl (OpP.fieldAddr rfl) ?_
        refine JL.read rfl rfl (OpR.load1 rfl (hh.conv (fun _ h => Own.pick (pre := [_]) [] rfl h))) ?_
        refine JL.pure rfl rfl (OpP.len rfl rfl) ?_
        refine JL.dec rfl rfl (OpP.geq rfl rfl) (fun h71 => ?_) (fun h71 => ?_)
        focus
          refine JL.pure rfl rfl (OpP.assign rfl) ?_
          refine JL.nil ?_
          refine J.condT rfl ?_
          refine J.seq ?_
          refine J.region ?_
          refine JL.pure rfl rfl (OpP.assign rfl) ?_
          refine JL.nil ?_
          refine J.ret1 rfl rfl ?_
        rotate_left 1
        focus
          refine JL.pure rfl rfl (OpP.assign rfl) ?_
          refine JL.nil ?_
          refine J.condF rfl ?_
          refine J.skip ?_
          refine J.inBlock ?_
          refine J.seq ?_
          refine J.region ?_
          refine JL.pure rfl rfl (OpP.assign rfl) ?_
          refine JL.nil ?_
          refine J.ret1 rfl rfl ?_
        rotate_left 1
      rotate_left 2
    rotate_left 3
  rotate_left 4
  all_goals
    refine ⟨_, ⟨congrArg (Value.int .i64) ?_, rfl⟩, fun _ h => h.tail⟩
    rw [wrongF, if_neg (fun h => h harg), hAu]
    dsimp only
    repeat' split
    all_goals first | rfl | omega | simp_all | (simp_all; omega)
end Go.Proofs.C

-- seat c
namespace Go.Proofs.C
open Go Go.Gp Go.RowKit

def ledL (x : Nat) (a : Option Addr) (c : Nat) (gs : List Gr) (F : List HProp) : List HProp := row x 82 [.slice a gs.length c] :: own 62 7 (.slice a gs.length c) gs.length (gs.flatMap gcl) :: F
theorem led_of {w0 : World} {x c : Nat} {a : Option Addr} {gs : List Gr} {F : List HProp} : Led w0 (ledL x a c gs F) x a c gs := ⟨Cell.row .head rfl, RdO.own (.tail .head)⟩
def parF (gs : List Gr) (now : Int) (who : Str) (d : Int) : Int := if who = rootS then 0 else match moreL d (heldL gs now who gs) with | [] => 0 | h :: l => (lateF h l).num
theorem topG_more {hs : List Gr} {d : Int} (h1 : (topG hs).2 = true) (h2 : ¬ (topG hs).1 ≤ d) : ∃ h l, moreL d hs = h :: l := by
  cases hs with
  | nil => cases h1
  | cons g l =>
    have hm := maxF_mem l g
    have : maxF g l ∈ moreL d (g :: l) := List.mem_filter.2 ⟨hm, by simp only [topG] at h2; simpa using h2⟩
    cases h : moreL d (g :: l) with
    | nil => rw [h] at this; cases this
    | cons a b => exact ⟨a, b, rfl⟩
theorem wrong0 {gs : List Gr} {now : Int} {g : Gr} (h : wrongF gs now g = 0) : argP now g ∧ now < g.til ∧ (authF gs now g.fr).2 = true ∧ g.dep < (authF gs now g.fr).1 ∧ gs.length < 40 := by
  unfold wrongF at h
  by_cases h1 : argP now g
  · rw [if_neg (fun q => q h1)] at h
    by_cases h2 : g.til ≤ now
    · rw [if_pos h2] at h; cases h
    · rw [if_neg h2] at h
      by_cases h3 : (authF gs now g.fr).2 = false
      · rw [if_pos h3] at h; cases h
      · rw [if_neg h3] at h
        by_cases h4 : (authF gs now g.fr).1 ≤ g.dep
        · rw [if_pos h4] at h; cases h
        · rw [if_neg h4] at h
          by_cases h5 : 40 ≤ gs.length
          · rw [if_pos h5] at h; cases h
          · exact ⟨h1, by omega, by simpa using h3, by omega, by omega⟩
  · rw [if_pos h1] at h; cases h
theorem parent_ok' {w0 : World} {F : List HProp} {x c : Nat} {a : Option Addr} {gs : List Gr} {now d : Int} {who : Str} (hL : Led w0 F x a c gs) (wf : Wf gs) (hne : who ≠ rootS → ∃ h l, moreL d (heldL gs now who gs) = h :: l) :
    FnO Try.prog w0 56 [.pointer (some ⟨x, 0, none⟩), .int .i64 now, .string who, .int .i64 d] F (fun r l' => r = .int .i64 (parF gs now who d) ∧ l' = F) := by
  by_cases hw : who = rootS
  · have := parent_ok (now := now) (d := d) (who := who) (h0 := ⟨0, who, who, 0, 0, 0, false⟩) (rest := []) hL wf (fun q => absurd hw q)
    rw [if_pos hw] at this
    rw [parF, if_pos hw]
    exact this
  · obtain ⟨h, l, e⟩ := hne hw
    have := parent_ok (now := now) (d := d) (who := who) hL wf (fun _ => e)
    rw [if_neg hw] at this
    rw [parF, if_neg hw, e]
    exact this
theorem Give_ok {w0 : World} {F : List HProp} {x c : Nat} {a : Option Addr} {gs : List Gr} {now d til : Int} {fr to : Str} (wf : Wf gs) (hd : ∀ g ∈ gs, DepOk g) (h1 : fr.size ≤ 1000) (h2 : to.size ≤ 1000) :
    FnO Try.prog w0 43 [.pointer (some ⟨x, 0, none⟩), .int .i64 now, .string fr, .string to, .int .i64 d, .int .i64 til] (ledL x a c gs F)
      (fun r l' => (wrongF gs now ⟨(gs.length : Int) + 1, fr, to, d, til, 0, false⟩ ≠ 0 ∧ r = .tuple #[.int .i64 0, .int .i64 (wrongF gs now ⟨(gs.length : Int) + 1, fr, to, d, til, 0, false⟩)] ∧ l' = ledL x a c gs F) ∨
        (wrongF gs now ⟨(gs.length : Int) + 1, fr, to, d, til, 0, false⟩ = 0 ∧ r = .tuple #[.int .i64 ((gs.length : Int) + 1), .int .i64 0] ∧ ∃ a c, l' = ledL x a c (gs ++ [⟨(gs.length : Int) + 1, fr, to, d, til, parF gs now fr d, false⟩]) F)) := by
  have wf1 := wf.1
  have hL : Led w0 (ledL x a c gs F) x a c gs := led_of
  refine FnO.weak ?_
  refine FnO.intro (n := 52) Try.func43 rfl rfl rfl ?_
  have hw := fun (G : HProp) => wrong_ok (F := G :: ledL x a c gs F) (now := now) (g := ⟨(gs.length : Int) + 1, fr, to, d, til, 0, false⟩) (hL.conv fun _ h => h.tail) wf hd h1 h2
  generalize hwe : wrongF gs now ⟨(gs.length : Int) + 1, fr, to, d, til, 0, false⟩ = e at *
  unfold ledL at *
  refine J.seq ?_
  refine J.region ?_
  refine JL.pure rfl rfl (OpP.assign rfl) ?_
  refine JL.pure rfl rfl (OpP.assign rfl) ?_
  refine JL.nil ?_
  refine J.seq ?_
  refine J.region ?_
  refine JL.pure rfl rfl (OpP.move rfl) ?_
  refine JL.pure rfl rfl (OpP.nilCheck rfl) ?_
  refine JL.pure rfl rfl (OpP.fieldAddr rfl) ?_
  refine JL.read rfl rfl (OpR.load1 rfl (Cell.row .head rfl)) ?_
  refine JL.pure rfl rfl (OpP.len rfl rfl) ?_
  refine JL.pure rfl rfl (OpP.addI rfl rfl (by omega) (by omega)) ?_
  refine JL.pure rfl rfl (OpP.move rfl) ?_
  refine JL.pure rfl rfl (OpP.move rfl) ?_
  refine JL.pure rfl rfl (OpP.move rfl) ?_
  refine JL.pure rfl rfl (OpP.move rfl) ?_
  refine JL.pure rfl rfl (OpP.build rfl (by (repeat (first | exact Fills.nil | (apply Fills.cons rfl rfl rfl; (case' hs => ((repeat (first | exact Spl.nil | apply Spl.here | apply Spl.there)); done))))))) ?_
  refine JL.mem rfl rfl OpM.alloc ?_; rintro _ _ ⟨b14, rfl, rfl⟩
  refine JL.mem0 rfl (by apply OpM.storeN rfl rfl (by rfl) (oneC rfl (oneC rfl (oneC rfl (oneC rfl (oneC rfl (oneC rfl (one1 rfl))))))); (case' hu => exact .head); (case' hs => exact (.here (.here (.here (.here (.here (.here (.here .nil)))))))); done) ?_; rintro _ _ ⟨rfl, rfl⟩
  refine JL.nil ?_
  refine J.seq ?_
  refine J.seq ?_
  refine J.region ?_
  refine JL.pure rfl rfl (OpP.move rfl) ?_
  refine JL.pure rfl rfl (OpP.move rfl) ?_
  refine JL.read rfl rfl (OpR.loadN rfl (Cells.full .head) rfl) ?_
  refine JL.step rfl rfl (OpW.call (first := []) (captured := []) inferInstance rfl rfl (hw _)) ?_; rintro r30 _ ⟨rfl, rfl⟩
  refine JL.pure rfl rfl (OpP.assign rfl) ?_
  refine JL.nil ?_
  refine J.seq ?_
  refine J.region ?_
  refine JL.pure rfl rfl (OpP.move rfl) ?_
  refine JL.dec rfl rfl (OpP.neq rfl rfl) (fun h32 => ?_) (fun h32 => ?_)
  focus
    refine JL.nil ?_
    refine J.condT rfl ?_
  rotate_left 1
  focus
    refine JL.nil ?_
    refine J.condF rfl ?_
    refine J.skip ?_
    refine J.seq ?_
    refine J.region ?_
    refine JL.pure rfl rfl (OpP.move rfl) ?_
    refine JL.pure rfl rfl (OpP.move rfl) ?_
    refine JL.pure rfl rfl (OpP.move rfl) ?_
    refine JL.pure rfl rfl (OpP.move rfl) ?_
  rotate_left 1
  · refine J.seq ?_
    refine J.region ?_
    refine JL.pure rfl rfl (OpP.move rfl) ?_
    refine JL.pure rfl rfl (OpP.assign rfl) ?_
    refine JL.pure rfl rfl (OpP.assign rfl) ?_
    refine JL.nil ?_
    refine J.ret2 rfl rfl rfl ?_
    exact ⟨_, .inl ⟨by assumption, rfl, rfl⟩, fun _ h => h.tail⟩
  · have he : e = 0 := by omega
    rw [he] at hwe
    obtain ⟨_, _, w1, w2, w3⟩ := wrong0 hwe
    dsimp only at w1 w2
    have hP := fun (G : HProp) => parent_ok' (F := G :: row x 82 [.slice a gs.length c] :: own 62 7 (.slice a gs.length c) gs.length (gs.flatMap gcl) :: F) (now := now) (who := fr) (d := d) (hL.conv fun _ h => h.tail) wf (fun q => by
      rw [authF, if_neg q] at w1 w2
      exact topG_more w1 (by omega))
    generalize parF gs now fr d = pn at *
    refine JL.step rfl rfl (OpW.call (first := []) (captured := []) inferInstance rfl rfl (hP _)) ?_; rintro r38 _ ⟨rfl, rfl⟩
    refine JL.pure rfl rfl (OpP.fieldAddr rfl) ?_
    refine JL.mem0 rfl (by apply OpM.store1 rfl rfl rfl; (case' hu => exact .head); (case' hs => exact (.there (.there (.there (.there (.there (.here .nil))))))); done) ?_; rintro _ _ ⟨rfl, rfl⟩
    refine JL.nil ?_
    refine J.seq ?_
    refine J.regionD [4, 5] (by kernel_rfl) ?_
    refine DL.pure (i := 0) (by kernel_rfl) (by kernel_rfl) rfl rfl rfl (OpP.move rfl) ?_
    refine DL.pure (i := 1) (by kernel_rfl) (by kernel_rfl) rfl rfl rfl (OpP.move rfl) ?_
    refine DL.pure (i := 2) (by kernel_rfl) (by kernel_rfl) rfl rfl rfl (OpP.nilCheck rfl) ?_
    refine DL.pure (i := 3) (by kernel_rfl) (by kernel_rfl) rfl rfl rfl (OpP.fieldAddr rfl) ?_
    refine DL.read (i := 4) (by kernel_rfl) (by kernel_rfl) rfl rfl rfl (fun _ h => h) (OpR.load1 rfl (Cell.row (.tail .head) rfl)) ?_
    refine DL.read (i := 5) (by kernel_rfl) (by kernel_rfl) rfl rfl rfl (fun _ h => h) (OpR.loadN rfl (Cells.full .head) rfl) ?_
    refine DL.only (i := 6) (by kernel_rfl) ?_
    refine DL1.stepK rfl rfl rfl (OpM.w (by apply OpM.buildSlice (by rfl) rfl (by rfl); (repeat (first | exact Fills.nil | (apply Fills.cons rfl rfl rfl; (case' hs => ((repeat (first | exact Spl.nil | apply Spl.here | apply Spl.there)); done))))))) (by rintro _ _ ⟨b46, rfl, rfl⟩ _ h; exact Own.pick (pre := [_, _, _, _]) [1, 2, 3] rfl h) ?_; rintro _ _ ⟨b46, rfl, rfl⟩
    refine DL.only (i := 7) (by kernel_rfl) ?_
    refine DL1.f3 ?_; refine DL1.stepF rfl rfl rfl (by kernel_rfl) (OpM.w (OpM.appendH rfl (.inl ⟨_, Sl.und inferInstance⟩) (by rfl) rfl rfl (RdO.src (RdO.ofRow (.tail .head) (by first | exact Nat.le_refl _ | decide | omega)) (by first | assumption | exact fc_length _ _ | (simp; done) | (simp; omega))) (oneC rfl (oneC rfl (oneC rfl (oneC rfl (oneC rfl (oneC rfl (one1 rfl))))))) (by simp only [maxLen]; omega) (by omega))) ?_; rintro _ _ ⟨⟨a47, c47, rfl⟩, rfl⟩
    refine DL.pure (i := 8) (by kernel_rfl) (by kernel_rfl) rfl rfl rfl (OpP.nilCheck rfl) ?_
    refine DL.pure (i := 9) (by kernel_rfl) (by kernel_rfl) rfl rfl rfl (OpP.fieldAddr rfl) ?_
    refine DL.only (i := 10) (by kernel_rfl) ?_
    refine DL1.stepF0 rfl rfl (by kernel_rfl) (OpM.w (by apply OpM.store1 rfl rfl rfl; (case' hu => exact (.tail (.tail (.tail .head)))); (case' hs => exact (.here .nil)); done)) ?_; rintro _ _ ⟨rfl, rfl⟩
    refine DL.done (by kernel_rfl) ?_
    refine J.seq ?_
    refine J.region ?_
    refine JL.pure rfl rfl (OpP.fieldAddr rfl) ?_
    refine JL.read rfl rfl (OpR.load1 rfl (Cell.row (.tail (.tail .head)) rfl)) ?_
    refine JL.pure rfl rfl (OpP.assign rfl) ?_
    refine JL.pure rfl rfl (OpP.assign rfl) ?_
    refine JL.nil ?_
    refine J.ret2 rfl rfl rfl ?_
    refine ⟨_, .inr ⟨he, rfl, a47, c47, rfl⟩, fun _ h => ?_⟩
    rw [List.length_append, List.flatMap_append]
    exact Own.pick (pre := [_, _, _, _]) [3, 0] rfl h
end Go.Proofs.C

-- seat c
namespace Go.Proofs.C
open Go Go.Gp Go.RowKit

theorem gcls_one {l : List Gr} : ∀ u ∈ l.flatMap gcl, u.oneCell' = true := by
  intro u hu
  obtain ⟨g, _, h⟩ := List.mem_flatMap.1 hu
  exact gcl_one u h
theorem cloneG_ok {w0 : World} {F : List HProp} {a : Option Addr} {c : Nat} {xs : List Gr} (hr : RdO w0 F (.slice a xs.length c) xs.length (xs.flatMap gcl)) (hl : xs.length ≤ 1000) :
    FnO Try.prog w0 50 [.slice a xs.length c] F (fun u l' => ∃ a c, u = .slice a xs.length c ∧ l' = own 62 7 (.slice a xs.length c) xs.length (xs.flatMap gcl) :: F) := by
  have h7 := chunk7 xs
  have hone : ∀ u ∈ xs.flatMap gcl, u.oneCell' = true := gcls_one
  refine FnO.rd hr fun hr' => ?_
  refine FnO.weak ?_
  refine FnO.intro (n := 8) Try.func50 rfl rfl rfl ?_
  cases a with
  | none =>
    have hn : xs = [] := by
      rcases hr' with ⟨_, _, h, h2, _⟩ | ⟨_, _, _, h, _⟩
      · exact List.eq_nil_of_length_eq_zero h2
      · cases h
    subst hn
    refine J.seq ?_
    refine J.region ?_
    refine JL.pure rfl rfl (OpP.assign rfl) ?_
    refine JL.nil ?_
    refine J.seq ?_
    refine J.seq ?_
    refine J.region ?_
    refine JL.pure rfl rfl (OpP.move rfl) ?_
    refine JL.pure rfl rfl (OpP.eqSlNil rfl rfl) ?_
    refine JL.nil ?_
    refine J.condT rfl ?_
    refine J.seq ?_
    refine J.region ?_
    refine JL.pure rfl rfl (OpP.assign rfl) ?_
    refine JL.nil ?_
    refine J.ret1 rfl rfl ?_
    exact ⟨_, ⟨none, 0, rfl, rfl⟩, fun _ h => Own.own_nil h⟩
  | some a =>
    refine J.seq ?_
    refine J.region ?_
    refine JL.pure rfl rfl (OpP.assign rfl) ?_
    refine JL.nil ?_
    refine J.seq ?_
    refine J.seq ?_
    refine J.region ?_
    refine JL.pure rfl rfl (OpP.move rfl) ?_
    refine JL.pure rfl rfl (OpP.eqSlNil rfl rfl) ?_
    refine JL.nil ?_
    refine J.condF rfl ?_
    refine J.skip ?_
    refine J.seq ?_
    refine J.region ?_
    refine JL.mem rfl rfl (by apply OpM.buildSlice (by rfl) rfl (by rfl); (repeat (first | exact Fills.nil | (apply Fills.cons rfl rfl rfl; (case' hs => ((repeat (first | exact Spl.nil | apply Spl.here | apply Spl.there)); done)))))) ?_; rintro _ _ ⟨b5, rfl, rfl⟩
    refine JL.pure rfl rfl (OpP.move rfl) ?_
    refine JL.ownRow (n := 0) (sz := 7) (by decide) rfl ?_
    refine JL.mem rfl rfl (OpM.appendH0 rfl rfl (.inl ⟨_, Sl.und inferInstance⟩) (by rfl) rfl rfl (RdO.src (hr.conv fun _ h => Own.pick (pre := [_]) [] rfl h) (by first | assumption | exact fc_length _ _ | (simp; done) | (simp; omega))) (by first | exact bcells_one _ | exact scells_one _ | exact icells_one _ | assumption | exact fc_one fun _ => rfl) (by simp only [maxLen]; omega) (by omega)) ?_; rintro _ _ ⟨⟨a7, c7, rfl⟩, rfl⟩
    refine JL.pure rfl rfl (OpP.assign rfl) ?_
    refine JL.nil ?_
    refine J.ret1 rfl rfl ?_
    exact ⟨_, ⟨_, _, rfl, rfl⟩, fun _ h => h⟩
theorem Grants_ok {w0 : World} {F : List HProp} {x c : Nat} {a : Option Addr} {gs : List Gr} (hL : Led w0 F x a c gs) (wf1 : gs.length ≤ 1000) :
    FnO Try.prog w0 32 [.pointer (some ⟨x, 0, none⟩)] F (fun u l' => ∃ a c, u = .slice a gs.length c ∧ l' = own 62 7 (.slice a gs.length c) gs.length (gs.flatMap gcl) :: F) := by
  have hh := hL.h
  refine FnO.intro (n := 8) Try.func32 rfl rfl rfl ?_
  refine J.seq ?_
  refine J.region ?_
  refine JL.pure rfl rfl (OpP.assign rfl) ?_
  refine JL.nil ?_
  refine J.seq ?_
  refine J.region ?_
  refine JL.pure rfl rfl (OpP.move rfl) ?_
  refine JL.pure rfl rfl (OpP.nilCheck rfl) ?_
  refine JL.pure rfl rfl (OpP.fieldAddr rfl) ?_
  refine JL.read rfl rfl (OpR.load1 rfl (hh.conv (fun _ h => h))) ?_
  refine JL.step rfl rfl (OpW.call (first := []) (captured := []) inferInstance rfl rfl (cloneG_ok hL.r wf1)) ?_; rintro r7 _ ⟨a1, ⟨c1, ⟨rfl, rfl⟩⟩⟩
  refine JL.pure rfl rfl (OpP.assign rfl) ?_
  refine JL.nil ?_
  refine J.ret1 rfl rfl ?_
  exact ⟨_, _, rfl, rfl⟩
theorem Clone_ok {w0 : World} {F : List HProp} {x c : Nat} {a : Option Addr} {gs : List Gr} (hL : Led w0 F x a c gs) (wf1 : gs.length ≤ 1000) :
    FnO Try.prog w0 33 [.pointer (some ⟨x, 0, none⟩)] F (fun u l' => ∃ y a c, u = .pointer (some ⟨y, 0, none⟩) ∧ l' = ledL y a c gs F) := by
  have hh := hL.h
  refine FnO.intro (n := 10) Try.func33 rfl rfl rfl ?_
  refine J.seq ?_
  refine J.region ?_
  refine JL.pure rfl rfl (OpP.assign rfl) ?_
  refine JL.nil ?_
  refine J.seq ?_
  refine J.region ?_
  refine JL.pure rfl rfl (OpP.move rfl) ?_
  refine JL.pure rfl rfl (OpP.nilCheck rfl) ?_
  refine JL.pure rfl rfl (OpP.fieldAddr rfl) ?_
  refine JL.read rfl rfl (OpR.load1 rfl (hh.conv (fun _ h => h))) ?_
  refine JL.step rfl rfl (OpW.call (first := []) (captured := []) inferInstance rfl rfl (cloneG_ok hL.r wf1)) ?_; rintro r7 _ ⟨a1, ⟨c1, ⟨rfl, rfl⟩⟩⟩
  refine JL.pure rfl rfl (OpP.build rfl (by (repeat (first | exact Fills.nil | (apply Fills.cons rfl rfl rfl; (case' hs => ((repeat (first | exact Spl.nil | apply Spl.here | apply Spl.there)); done))))))) ?_
  refine JL.mem rfl rfl (OpM.box rfl rfl) ?_; rintro _ _ ⟨b9, rfl, rfl⟩
  refine JL.pure rfl rfl (OpP.assign rfl) ?_
  refine JL.nil ?_
  refine J.ret1 rfl rfl ?_
  exact ⟨_, _, _, rfl, rfl⟩
theorem New_ok {w0 : World} {F : List HProp} : FnO Try.prog w0 29 [] F (fun u l' => ∃ y, u = .pointer (some ⟨y, 0, none⟩) ∧ l' = ledL y none 0 [] F) := by
  refine FnO.weak ?_
  refine FnO.intro (n := 3) Try.func29 rfl rfl rfl ?_
  refine J.seq ?_
  refine J.region ?_
  refine JL.pure rfl rfl (OpP.assign rfl) ?_
  refine JL.nil ?_
  refine J.seq ?_
  refine J.region ?_
  refine JL.pure rfl rfl (OpP.build rfl (by (repeat (first | exact Fills.nil | (apply Fills.cons rfl rfl rfl; (case' hs => ((repeat (first | exact Spl.nil | apply Spl.here | apply Spl.there)); done))))))) ?_
  refine JL.mem rfl rfl (OpM.box rfl rfl) ?_; rintro _ _ ⟨b2, rfl, rfl⟩
  refine JL.pure rfl rfl (OpP.assign rfl) ?_
  refine JL.nil ?_
  refine J.ret1 rfl rfl ?_
  exact ⟨_, ⟨_, rfl, rfl⟩, fun _ h => Own.pick (pre := [_, _]) [1, 0] rfl (Own.own_nil h)⟩

def upL (gs : List Gr) (n : Int) : List Gr := upF gs gs.length n
def mayP (gs : List Gr) (n : Int) (by_ : Str) : Prop := by_ = rootS ∨ ((upL gs n).any fun g => decide (g.fr = by_)) = true
instance (gs : List Gr) (n : Int) (by_ : Str) : Decidable (mayP gs n by_) := by unfold mayP; infer_instance
def nextR (by_ : Str) (s : Bool) (g : Gr) : Bool × Bool := (s || decide (g.fr = by_), true)
theorem run_rev (by_ : Str) : ∀ (l : List Gr) (s : Bool), runU (nextR by_) l s = (s || l.any fun g => decide (g.fr = by_))
  | [], s => by rw [runU, List.any_nil, Bool.or_false]
  | g :: l, s => by
    rw [runU, if_pos (show (nextR by_ s g).2 = true from rfl), run_rev by_ l, List.any_cons, nextR, Bool.or_assoc]
theorem Revoke_ok {w0 : World} {F : List HProp} {x c : Nat} {a : Option Addr} {gs : List Gr} {now n : Int} {who : Str} (wf : Wf gs) (h1 : who.size ≤ 1000) :
    FnO Try.prog w0 34 [.pointer (some ⟨x, 0, none⟩), .int .i64 now, .string who, .int .i64 n] (ledL x a c gs F)
      (fun r l' => (¬ (timeP now ∧ nameP who) ∧ r = .int .i64 1 ∧ l' = ledL x a c gs F) ∨ ((timeP now ∧ nameP who) ∧ ((¬ (1 ≤ n ∧ n ≤ gs.length) ∧ r = .int .i64 8 ∧ l' = ledL x a c gs F) ∨
        ∃ g, (1 ≤ n ∧ n ≤ gs.length) ∧ gs[(n - 1).toNat]? = some g ∧ ((g.rev = true ∧ r = .int .i64 8 ∧ l' = ledL x a c gs F) ∨ (g.rev = false ∧ ¬ mayP gs n who ∧ r = .int .i64 15 ∧ l' = ledL x a c gs F) ∨
          (g.rev = false ∧ mayP gs n who ∧ r = .int .i64 0 ∧ l' = ledL x a c (gs.set (n - 1).toNat { g with rev := true }) F))))) := by
  have wf1 := wf.1
  have hlen : ∀ g ∈ gs, (gcl g).length = 7 := fun _ _ => rfl
  refine FnO.weak ?_
  refine FnO.intro (n := 66) Try.func34 rfl rfl rfl ?_
  unfold ledL
  by_cases hin : 1 ≤ n ∧ n ≤ gs.length
  · obtain ⟨g, hg⟩ : ∃ g, gs[(n - 1).toNat]? = some g := ⟨_, List.getElem?_eq_getElem (by omega)⟩
    refine J.conv (l' := own 62 7 (.slice a gs.length c) gs.length (gs.flatMap gcl) :: row x 82 [.slice a gs.length c] :: F) (fun _ h => Own.pick (pre := [_, _]) [1, 0] rfl h) ?_
    refine J.ownSome .head (by omega) fun ga pa ea hcap => ?_
    subst ea
    refine J.seq ?_
    refine J.region ?_
    refine JL.mem rfl rfl (OpM.box rfl rfl) ?_; rintro _ _ ⟨b6, rfl, rfl⟩
    refine JL.pure rfl rfl (OpP.assign rfl) ?_
    refine JL.nil ?_
    refine J.seq ?_
    refine J.block ?_
    refine J.seq ?_
    refine J.region ?_
    refine JL.pure rfl rfl (OpP.move rfl) ?_
    refine JL.step rfl rfl (OpW.call (first := []) (captured := []) inferInstance rfl rfl time_ok) ?_; rintro r13 _ ⟨rfl, rfl⟩
    refine JL.pure rfl rfl (OpP.notB rfl) ?_
    refine JL.pure rfl rfl (OpP.move rfl) ?_
    refine JL.splitAt 15 rfl (fun h15 => ?_) (fun h15 => ?_)
    focus
      refine JL.skip rfl rfl ?_
      refine JL.skip rfl rfl ?_
      refine JL.skip rfl rfl ?_
      refine JL.pure rfl rfl (OpP.pickT rfl rfl) ?_
      refine JL.pure rfl rfl (OpP.assign rfl) ?_
      refine JL.nil ?_
      refine J.condT rfl ?_
      refine J.seq ?_
      refine J.region ?_
      refine JL.pure rfl rfl (OpP.assign rfl) ?_
      refine JL.nil ?_
      refine J.ret1 rfl rfl ?_
    rotate_left 1
    focus
      refine JL.read rfl rfl (OpR.load1 rfl (Cell.row .head rfl)) ?_
      refine JL.step rfl rfl (OpW.call (first := []) (captured := []) inferInstance rfl rfl (name_ok (by first | assumption | omega | rfl | exact Nat.le_of_ble_eq_true rfl | (simp; omega)))) ?_; rintro r17 _ ⟨rfl, rfl⟩
      refine JL.pure rfl rfl (OpP.notB rfl) ?_
      refine JL.pure rfl rfl (OpP.pickF rfl rfl) ?_
      refine JL.pure rfl rfl (OpP.assign rfl) ?_
      refine JL.nil ?_
      refine J.splitAt 11 rfl (fun h11 => ?_) (fun h11 => ?_)
      focus
        refine J.condT rfl ?_
        refine J.seq ?_
        refine J.region ?_
        refine JL.pure rfl rfl (OpP.assign rfl) ?_
        refine JL.nil ?_
        refine J.ret1 rfl rfl ?_
      rotate_left 1
      focus
        refine J.condF rfl ?_
        refine J.seq ?_
        refine J.region ?_
        refine JL.pure rfl rfl (OpP.move rfl) ?_
        refine JL.decF rfl rfl (OpP.lss rfl rfl) (by omega) ?_
        refine JL.pure rfl rfl (OpP.move rfl) ?_
        refine JL.pure rfl rfl (OpP.move rfl) ?_
        refine JL.pure rfl rfl (OpP.move rfl) ?_
        refine JL.pure rfl rfl (OpP.nilCheck rfl) ?_
        refine JL.pure rfl rfl (OpP.fieldAddr rfl) ?_
        refine JL.read rfl rfl (OpR.load1 rfl (Cell.row (.tail (.tail .head)) rfl)) ?_
        refine JL.pure rfl rfl (OpP.len rfl rfl) ?_
        refine JL.decF rfl rfl (OpP.gtr rfl rfl) (by omega) ?_
        refine JL.pure rfl rfl (OpP.pickF rfl rfl) ?_
        refine JL.pure rfl rfl (OpP.move rfl) ?_
        refine JL.pure rfl rfl (OpP.move rfl) ?_
        refine JL.pure rfl rfl (OpP.nilCheck rfl) ?_
        refine JL.pure rfl rfl (OpP.fieldAddr rfl) ?_
        refine JL.read rfl rfl (OpR.load1 rfl (Cell.row (.tail (.tail .head)) rfl)) ?_
        refine JL.pure rfl rfl (OpP.move rfl) ?_
        refine JL.pure rfl rfl (OpP.subI rfl rfl (by omega) (by omega)) ?_
        refine JL.pure rfl rfl (OpP.indexAddr rfl rfl (by omega) (by omega)) ?_
        refine JL.pure rfl rfl (OpP.fieldAddr rfl) ?_
        refine JL.read rfl rfl (OpR.load1 rfl (by apply Cells.cellChunk (j := 6) (Cells.own (.tail .head)) (fun _ h => h); (case' h => assumption); (case' hi => assumption); (case' hv => rfl); (case' ho => omega); done)) ?_
        refine JL.pure rfl rfl (OpP.pickF rfl rfl) ?_
        refine JL.pure rfl rfl (OpP.assign rfl) ?_
        refine JL.nil ?_
        refine J.splitAt 20 rfl (fun h20 => ?_) (fun h20 => ?_)
        focus
          refine J.condT rfl ?_
          refine J.seq ?_
          refine J.region ?_
          refine JL.pure rfl rfl (OpP.assign rfl) ?_
          refine JL.nil ?_
          refine J.ret1 rfl rfl ?_
        rotate_left 1
        focus
          refine J.condF rfl ?_
          refine J.skip ?_
          refine J.inBlock ?_
        rotate_left 1
      rotate_left 2
    rotate_left 3
    · exact ⟨_, .inl ⟨fun q => by have q1 := q.1; have q2 := q.2; unfold timeP at q1; unfold nameP at q2; simp_all <;> omega, rfl, rfl⟩, fun _ h => Own.pick (pre := [_, _, _]) [2, 1] rfl h⟩
    · exact ⟨_, .inl ⟨fun q => by have q1 := q.1; have q2 := q.2; unfold timeP at q1; unfold nameP at q2; simp_all <;> omega, rfl, rfl⟩, fun _ h => Own.pick (pre := [_, _, _]) [2, 1] rfl h⟩
    · exact ⟨_, .inr ⟨⟨by simp [timeP] at *; omega, by simp [nameP] at *; omega⟩, .inr ⟨g, hin, hg, .inl ⟨by assumption, rfl, rfl⟩⟩⟩, fun _ h => Own.pick (pre := [_, _, _]) [2, 1] rfl h⟩
    have htn : timeP now ∧ nameP who := ⟨by simp [timeP] at *; omega, by simp [nameP] at *; omega⟩
    have hrv : g.rev = false := by assumption
    refine J.seq ?_
    refine J.region ?_
    refine JL.read rfl rfl (OpR.load1 rfl (Cell.row .head rfl)) ?_
    refine JL.dec rfl rfl (OpP.eqStr rfl rfl) (fun h44 => ?_) (fun h44 => ?_)
    focus
      refine JL.mem rfl rfl OpM.alloc ?_; rintro _ _ ⟨b9, rfl, rfl⟩
      refine JL.mem0 rfl (by apply OpM.store1 rfl rfl rfl; (case' hu => exact .head); (case' hs => exact (.here .nil)); done) ?_; rintro _ _ ⟨rfl, rfl⟩
      refine JL.nil ?_
      refine J.seq ?_
      refine J.seq ?_
      refine J.region ?_
      refine JL.pure rfl rfl (OpP.move rfl) ?_
      refine JL.pure rfl rfl (OpP.move rfl) ?_
      refine JL.step rfl rfl (OpW.call (first := []) (captured := []) inferInstance rfl rfl parents_ok) ?_; rintro r47 _ ⟨b2, ⟨b3, ⟨rfl, rfl⟩⟩⟩
      refine JL.nil ?_
      refine J.block ?_
    rotate_left 1
    focus
      refine JL.mem rfl rfl OpM.alloc ?_; rintro _ _ ⟨b9, rfl, rfl⟩
      refine JL.mem0 rfl (by apply OpM.store1 rfl rfl rfl; (case' hu => exact .head); (case' hs => exact (.here .nil)); done) ?_; rintro _ _ ⟨rfl, rfl⟩
      refine JL.nil ?_
      refine J.seq ?_
      refine J.seq ?_
      refine J.region ?_
      refine JL.pure rfl rfl (OpP.move rfl) ?_
      refine JL.pure rfl rfl (OpP.move rfl) ?_
      refine JL.step rfl rfl (OpW.call (first := []) (captured := []) inferInstance rfl rfl parents_ok) ?_; rintro r47 _ ⟨b2, ⟨b3, ⟨rfl, rfl⟩⟩⟩
      refine JL.nil ?_
      refine J.block ?_
    rotate_left 1
    · refine overParents (σ := Bool) (G := fun s => row b3 3 [.int .i64 n] :: row b2 44 [.pointer (some ⟨x, 0, none⟩)] :: row b9 4 [.bool s] :: row b6 9 [.string who] :: own 62 7 (.slice (some ⟨ga, pa, none⟩) gs.length c) gs.length (gs.flatMap gcl) :: row x 82 [.slice (some ⟨ga, pa, none⟩) gs.length c] :: F)
        (st := fun _ => .ready) (pe := fun _ => none) (next := nextR who) (Ok := fun _ => True) (n0 := n) (s0 := true) (f0 := gs.length)
        Try.func34 rfl rfl wf trivial (by omega) rfl (fun _ _ => rfl) (fun _ h => by cases h) (fun s _ => ⟨Cell.row (.tail (.tail (.tail (.tail (.tail .head))))) rfl, RdO.own (.tail (.tail (.tail (.tail .head))))⟩) (fun s _ => Cell.row (.tail .head) rfl) (Cell.row .head rfl)
        (fun _ _ _ _ => trivial) (fun D L tm s g hs hg => ?_) (fun D => ?_)
      · cases s
        · refine J.region ?_
          refine JL.mem rfl rfl OpM.alloc ?_; rintro _ _ ⟨b10, rfl, rfl⟩
          refine JL.mem0 rfl (by apply OpM.storeN rfl rfl (by rfl) (oneC rfl (oneC rfl (oneC rfl (oneC rfl (oneC rfl (oneC rfl (one1 rfl))))))); (case' hu => exact .head); (case' hs => exact (.here (.here (.here (.here (.here (.here (.here .nil)))))))); done) ?_; rintro _ _ ⟨rfl, rfl⟩
          refine JL.nil ?_
          refine J.beginRound (by (with_reducible repeat (first | exact Upd.head | apply Upd.tail))) ?_
          refine J.block ?_
          refine J.region ?_
          refine JL.read rfl rfl (OpR.load1 rfl (Cell.row (.tail (.tail (.tail (.tail (.tail .head))))) rfl)) ?_
          refine JL.pure rfl rfl (OpP.move rfl) ?_
          refine JL.pure rfl rfl (OpP.fieldAddr rfl) ?_
          refine JL.read rfl rfl (OpR.load1 rfl (Cell.row .head rfl)) ?_
          refine JL.read rfl rfl (OpR.load1 rfl (Cell.row (.tail (.tail (.tail (.tail (.tail (.tail .head)))))) rfl)) ?_
          refine JL.dec rfl rfl (OpP.eqStr rfl rfl) (fun h54 => ?_) (fun h54 => ?_)
          focus
            refine JL.pure rfl rfl (OpP.pickF rfl rfl) ?_
            refine JL.mem0 rfl (by apply OpM.store1 rfl rfl rfl; (case' hu => exact (.tail (.tail (.tail (.tail (.tail .head)))))); (case' hs => exact (.here .nil)); done) ?_; rintro _ _ ⟨rfl, rfl⟩
            refine JL.nil ?_
            refine J.inBlock ?_
            refine J.roundEnd (by (with_reducible repeat (first | exact Upd.head | apply Upd.tail))) ?_
          rotate_left 1
          focus
            refine JL.pure rfl rfl (OpP.pickF rfl rfl) ?_
            refine JL.mem0 rfl (by apply OpM.store1 rfl rfl rfl; (case' hu => exact (.tail (.tail (.tail (.tail (.tail .head)))))); (case' hs => exact (.here .nil)); done) ?_; rintro _ _ ⟨rfl, rfl⟩
            refine JL.nil ?_
            refine J.inBlock ?_
            refine J.roundEnd (by (with_reducible repeat (first | exact Upd.head | apply Upd.tail))) ?_
          rotate_left 1
          · exact ⟨_, ⟨rfl, by rw [nextR, decide_eq_true (by assumption)]; rfl⟩, fun _ h => h.tail⟩
          · exact ⟨_, ⟨rfl, by rw [nextR, decide_eq_false (by assumption)]; rfl⟩, fun _ h => h.tail⟩
        · refine J.region ?_
          refine JL.mem rfl rfl OpM.alloc ?_; rintro _ _ ⟨b10, rfl, rfl⟩
          refine JL.mem0 rfl (by apply OpM.storeN rfl rfl (by rfl) (oneC rfl (oneC rfl (oneC rfl (oneC rfl (oneC rfl (oneC rfl (one1 rfl))))))); (case' hu => exact .head); (case' hs => exact (.here (.here (.here (.here (.here (.here (.here .nil)))))))); done) ?_; rintro _ _ ⟨rfl, rfl⟩
          refine JL.nil ?_
          refine J.beginRound (by (with_reducible repeat (first | exact Upd.head | apply Upd.tail))) ?_
          refine J.block ?_
          refine J.region ?_
          refine JL.read rfl rfl (OpR.load1 rfl (Cell.row (.tail (.tail (.tail (.tail (.tail .head))))) rfl)) ?_
          refine JL.pure rfl rfl (OpP.move rfl) ?_
          refine JL.skip rfl rfl ?_
          refine JL.skip rfl rfl ?_
          refine JL.skip rfl rfl ?_
          refine JL.skip rfl rfl ?_
          refine JL.pure rfl rfl (OpP.pickT rfl rfl) ?_
          refine JL.mem0 rfl (by apply OpM.store1 rfl rfl rfl; (case' hu => exact (.tail (.tail (.tail (.tail (.tail .head)))))); (case' hs => exact (.here .nil)); done) ?_; rintro _ _ ⟨rfl, rfl⟩
          refine JL.nil ?_
          refine J.inBlock ?_
          refine J.roundEnd (by (with_reducible repeat (first | exact Upd.head | apply Upd.tail))) ?_
          exact ⟨_, ⟨rfl, rfl⟩, fun _ h => h.tail⟩
      · have hrun := run_rev who (upF gs gs.length n) true
        generalize hb : runU (nextR who) (upF gs gs.length n) true = sF at *
        simp only [Option.map_none, Option.toList_none, List.nil_append]
        cases sF
        · exact absurd hrun (by simp)
        · refine J.inBlock ?_
          refine J.seq ?_
          refine J.seq ?_
          refine J.region ?_
          refine JL.read rfl rfl (OpR.load1 rfl (Cell.row (.tail (.tail (.tail .head))) rfl)) ?_
          refine JL.pure rfl rfl (OpP.notB rfl) ?_
          refine JL.nil ?_
          refine J.condF rfl ?_
          refine J.skip ?_
          refine J.seq ?_
          refine J.region ?_
          refine JL.pure rfl rfl (OpP.move rfl) ?_
          refine JL.pure rfl rfl (OpP.nilCheck rfl) ?_
          refine JL.pure rfl rfl (OpP.fieldAddr rfl) ?_
          refine JL.read rfl rfl (OpR.load1 rfl (Cell.row (.tail (.tail (.tail (.tail (.tail (.tail .head)))))) rfl)) ?_
          refine JL.pure rfl rfl (OpP.move rfl) ?_
          refine JL.pure rfl rfl (OpP.subI rfl rfl (by omega) (by omega)) ?_
          refine JL.pure rfl rfl (OpP.indexAddr rfl rfl (by omega) (by omega)) ?_
          refine JL.pure rfl rfl (OpP.fieldAddr rfl) ?_
          refine JL.f5 ?_
          refine JL.mem0 rfl (OpM.storeOwn (j := (n - 1).toNat * 7 + 6) rfl rfl rfl (by omega) (by rw [chunk7]; omega)) ?_
          rintro _ _ ⟨rfl, rfl⟩
          rw [chunk_set (f := gcl) (n := 7) (j := 6) (a := g) (a' := { g with rev := true }) (v := .bool true) rfl (by decide) hlen hg]
          refine JL.nil ?_
          refine J.seq ?_
          refine J.region ?_
          refine JL.pure rfl rfl (OpP.assign rfl) ?_
          refine JL.nil ?_
          refine J.retK1 (by (with_reducible repeat (first | exact Upd.head | apply Upd.tail))) rfl rfl ?_
          refine ⟨_, .inr ⟨htn, .inr ⟨g, hin, hg, .inr (.inr ⟨hrv, .inl (by assumption), rfl, rfl⟩)⟩⟩, fun _ h => ?_⟩
          rw [List.length_set]
          exact Own.pick (pre := [_, _, _, _, _, _, _]) [6, 0] rfl h
    · refine overParents (σ := Bool) (G := fun s => row b3 3 [.int .i64 n] :: row b2 44 [.pointer (some ⟨x, 0, none⟩)] :: row b9 4 [.bool s] :: row b6 9 [.string who] :: own 62 7 (.slice (some ⟨ga, pa, none⟩) gs.length c) gs.length (gs.flatMap gcl) :: row x 82 [.slice (some ⟨ga, pa, none⟩) gs.length c] :: F)
        (st := fun _ => .ready) (pe := fun _ => none) (next := nextR who) (Ok := fun _ => True) (n0 := n) (s0 := false) (f0 := gs.length)
        Try.func34 rfl rfl wf trivial (by omega) rfl (fun _ _ => rfl) (fun _ h => by cases h) (fun s _ => ⟨Cell.row (.tail (.tail (.tail (.tail (.tail .head))))) rfl, RdO.own (.tail (.tail (.tail (.tail .head))))⟩) (fun s _ => Cell.row (.tail .head) rfl) (Cell.row .head rfl)
        (fun _ _ _ _ => trivial) (fun D L tm s g hs hg => ?_) (fun D => ?_)
      · cases s
        · refine J.region ?_
          refine JL.mem rfl rfl OpM.alloc ?_; rintro _ _ ⟨b10, rfl, rfl⟩
          refine JL.mem0 rfl (by apply OpM.storeN rfl rfl (by rfl) (oneC rfl (oneC rfl (oneC rfl (oneC rfl (oneC rfl (oneC rfl (one1 rfl))))))); (case' hu => exact .head); (case' hs => exact (.here (.here (.here (.here (.here (.here (.here .nil)))))))); done) ?_; rintro _ _ ⟨rfl, rfl⟩
          refine JL.nil ?_
          refine J.beginRound (by (with_reducible repeat (first | exact Upd.head | apply Upd.tail))) ?_
          refine J.block ?_
          refine J.region ?_
          refine JL.read rfl rfl (OpR.load1 rfl (Cell.row (.tail (.tail (.tail (.tail (.tail .head))))) rfl)) ?_
          refine JL.pure rfl rfl (OpP.move rfl) ?_
          refine JL.pure rfl rfl (OpP.fieldAddr rfl) ?_
          refine JL.read rfl rfl (OpR.load1 rfl (Cell.row .head rfl)) ?_
          refine JL.read rfl rfl (OpR.load1 rfl (Cell.row (.tail (.tail (.tail (.tail (.tail (.tail .head)))))) rfl)) ?_
          refine JL.dec rfl rfl (OpP.eqStr rfl rfl) (fun h54 => ?_) (fun h54 => ?_)
          focus
            refine JL.pure rfl rfl (OpP.pickF rfl rfl) ?_
            refine JL.mem0 rfl (by apply OpM.store1 rfl rfl rfl; (case' hu => exact (.tail (.tail (.tail (.tail (.tail .head)))))); (case' hs => exact (.here .nil)); done) ?_; rintro _ _ ⟨rfl, rfl⟩
            refine JL.nil ?_
            refine J.inBlock ?_
            refine J.roundEnd (by (with_reducible repeat (first | exact Upd.head | apply Upd.tail))) ?_
          rotate_left 1
          focus
            refine JL.pure rfl rfl (OpP.pickF rfl rfl) ?_
            refine JL.mem0 rfl (by apply OpM.store1 rfl rfl rfl; (case' hu => exact (.tail (.tail (.tail (.tail (.tail .head)))))); (case' hs => exact (.here .nil)); done) ?_; rintro _ _ ⟨rfl, rfl⟩
            refine JL.nil ?_
            refine J.inBlock ?_
            refine J.roundEnd (by (with_reducible repeat (first | exact Upd.head | apply Upd.tail))) ?_
          rotate_left 1
          · exact ⟨_, ⟨rfl, by rw [nextR, decide_eq_true (by assumption)]; rfl⟩, fun _ h => h.tail⟩
          · exact ⟨_, ⟨rfl, by rw [nextR, decide_eq_false (by assumption)]; rfl⟩, fun _ h => h.tail⟩
        · refine J.region ?_
          refine JL.mem rfl rfl OpM.alloc ?_; rintro _ _ ⟨b10, rfl, rfl⟩
          refine JL.mem0 rfl (by apply OpM.storeN rfl rfl (by rfl) (oneC rfl (oneC rfl (oneC rfl (oneC rfl (oneC rfl (oneC rfl (one1 rfl))))))); (case' hu => exact .head); (case' hs => exact (.here (.here (.here (.here (.here (.here (.here .nil)))))))); done) ?_; rintro _ _ ⟨rfl, rfl⟩
          refine JL.nil ?_
          refine J.beginRound (by (with_reducible repeat (first | exact Upd.head | apply Upd.tail))) ?_
          refine J.block ?_
          refine J.region ?_
          refine JL.read rfl rfl (OpR.load1 rfl (Cell.row (.tail (.tail (.tail (.tail (.tail .head))))) rfl)) ?_
          refine JL.pure rfl rfl (OpP.move rfl) ?_
          refine JL.skip rfl rfl ?_
          refine JL.skip rfl rfl ?_
          refine JL.skip rfl rfl ?_
          refine JL.skip rfl rfl ?_
          refine JL.pure rfl rfl (OpP.pickT rfl rfl) ?_
          refine JL.mem0 rfl (by apply OpM.store1 rfl rfl rfl; (case' hu => exact (.tail (.tail (.tail (.tail (.tail .head)))))); (case' hs => exact (.here .nil)); done) ?_; rintro _ _ ⟨rfl, rfl⟩
          refine JL.nil ?_
          refine J.inBlock ?_
          refine J.roundEnd (by (with_reducible repeat (first | exact Upd.head | apply Upd.tail))) ?_
          exact ⟨_, ⟨rfl, rfl⟩, fun _ h => h.tail⟩
      · have hrun := run_rev who (upF gs gs.length n) false
        generalize hb : runU (nextR who) (upF gs gs.length n) false = sF at *
        simp only [Option.map_none, Option.toList_none, List.nil_append]
        cases sF
        · refine J.inBlock ?_
          refine J.seq ?_
          refine J.seq ?_
          refine J.region ?_
          refine JL.read rfl rfl (OpR.load1 rfl (Cell.row (.tail (.tail (.tail .head))) rfl)) ?_
          refine JL.pure rfl rfl (OpP.notB rfl) ?_
          refine JL.nil ?_
          refine J.condT rfl ?_
          refine J.seq ?_
          refine J.region ?_
          refine JL.pure rfl rfl (OpP.assign rfl) ?_
          refine JL.nil ?_
          refine J.retK1 (by (with_reducible repeat (first | exact Upd.head | apply Upd.tail))) rfl rfl ?_
          exact ⟨_, .inr ⟨htn, .inr ⟨g, hin, hg, .inr (.inl ⟨hrv, fun q => q.elim (fun q => absurd q (by assumption)) (fun q => by rw [Bool.false_or] at hrun; exact absurd (hrun.trans q) (by decide)), rfl, rfl⟩)⟩⟩, fun _ h => Own.pick (pre := [_, _, _, _, _, _, _]) [6, 5] rfl h⟩
        · refine J.inBlock ?_
          refine J.seq ?_
          refine J.seq ?_
          refine J.region ?_
          refine JL.read rfl rfl (OpR.load1 rfl (Cell.row (.tail (.tail (.tail .head))) rfl)) ?_
          refine JL.pure rfl rfl (OpP.notB rfl) ?_
          refine JL.nil ?_
          refine J.condF rfl ?_
          refine J.skip ?_
          refine J.seq ?_
          refine J.region ?_
          refine JL.pure rfl rfl (OpP.move rfl) ?_
          refine JL.pure rfl rfl (OpP.nilCheck rfl) ?_
          refine JL.pure rfl rfl (OpP.fieldAddr rfl) ?_
          refine JL.read rfl rfl (OpR.load1 rfl (Cell.row (.tail (.tail (.tail (.tail (.tail (.tail .head)))))) rfl)) ?_
          refine JL.pure rfl rfl (OpP.move rfl) ?_
          refine JL.pure rfl rfl (OpP.subI rfl rfl (by omega) (by omega)) ?_
          refine JL.pure rfl rfl (OpP.indexAddr rfl rfl (by omega) (by omega)) ?_
          refine JL.pure rfl rfl (OpP.fieldAddr rfl) ?_
          refine JL.f5 ?_
          refine JL.mem0 rfl (OpM.storeOwn (j := (n - 1).toNat * 7 + 6) rfl rfl rfl (by omega) (by rw [chunk7]; omega)) ?_
          rintro _ _ ⟨rfl, rfl⟩
          rw [chunk_set (f := gcl) (n := 7) (j := 6) (a := g) (a' := { g with rev := true }) (v := .bool true) rfl (by decide) hlen hg]
          refine JL.nil ?_
          refine J.seq ?_
          refine J.region ?_
          refine JL.pure rfl rfl (OpP.assign rfl) ?_
          refine JL.nil ?_
          refine J.retK1 (by (with_reducible repeat (first | exact Upd.head | apply Upd.tail))) rfl rfl ?_
          refine ⟨_, .inr ⟨htn, .inr ⟨g, hin, hg, .inr (.inr ⟨hrv, .inr (by rw [Bool.false_or] at hrun; exact hrun.symm), rfl, rfl⟩)⟩⟩, fun _ h => ?_⟩
          rw [List.length_set]
          exact Own.pick (pre := [_, _, _, _, _, _, _]) [6, 0] rfl h
  · refine J.seq ?_
    refine J.region ?_
    refine JL.mem rfl rfl (OpM.box rfl rfl) ?_; rintro _ _ ⟨b6, rfl, rfl⟩
    refine JL.pure rfl rfl (OpP.assign rfl) ?_
    refine JL.nil ?_
    refine J.seq ?_
    refine J.block ?_
    refine J.seq ?_
    refine J.region ?_
    refine JL.pure rfl rfl (OpP.move rfl) ?_
    refine JL.step rfl rfl (OpW.call (first := []) (captured := []) inferInstance rfl rfl time_ok) ?_; rintro r13 _ ⟨rfl, rfl⟩
    refine JL.pure rfl rfl (OpP.notB rfl) ?_
    refine JL.pure rfl rfl (OpP.move rfl) ?_
    refine JL.splitAt 15 rfl (fun h15 => ?_) (fun h15 => ?_)
    focus
      refine JL.skip rfl rfl ?_
      refine JL.skip rfl rfl ?_
      refine JL.skip rfl rfl ?_
      refine JL.pure rfl rfl (OpP.pickT rfl rfl) ?_
      refine JL.pure rfl rfl (OpP.assign rfl) ?_
      refine JL.nil ?_
      refine J.condT rfl ?_
      refine J.seq ?_
      refine J.region ?_
      refine JL.pure rfl rfl (OpP.assign rfl) ?_
      refine JL.nil ?_
      refine J.ret1 rfl rfl ?_
    rotate_left 1
    focus
      refine JL.read rfl rfl (OpR.load1 rfl (Cell.row .head rfl)) ?_
      refine JL.step rfl rfl (OpW.call (first := []) (captured := []) inferInstance rfl rfl (name_ok (by first | assumption | omega | rfl | exact Nat.le_of_ble_eq_true rfl | (simp; omega)))) ?_; rintro r17 _ ⟨rfl, rfl⟩
      refine JL.pure rfl rfl (OpP.notB rfl) ?_
      refine JL.pure rfl rfl (OpP.pickF rfl rfl) ?_
      refine JL.pure rfl rfl (OpP.assign rfl) ?_
      refine JL.nil ?_
      refine J.splitAt 11 rfl (fun h11 => ?_) (fun h11 => ?_)
      focus
        refine J.condT rfl ?_
        refine J.seq ?_
        refine J.region ?_
        refine JL.pure rfl rfl (OpP.assign rfl) ?_
        refine JL.nil ?_
        refine J.ret1 rfl rfl ?_
      rotate_left 1
      focus
        refine J.condF rfl ?_
        refine J.seq ?_
        refine J.region ?_
        refine JL.pure rfl rfl (OpP.move rfl) ?_
        refine JL.dec rfl rfl (OpP.lss rfl rfl) (fun h22 => ?_) (fun h22 => ?_)
        focus
          refine JL.pure rfl rfl (OpP.move rfl) ?_
          refine JL.skip rfl rfl ?_
          refine JL.skip rfl rfl ?_
          refine JL.skip rfl rfl ?_
          refine JL.skip rfl rfl ?_
          refine JL.skip rfl rfl ?_
          refine JL.skip rfl rfl ?_
          refine JL.skip rfl rfl ?_
          refine JL.pure rfl rfl (OpP.pickT rfl rfl) ?_
          refine JL.pure rfl rfl (OpP.move rfl) ?_
          refine JL.skip rfl rfl ?_
          refine JL.skip rfl rfl ?_
          refine JL.skip rfl rfl ?_
          refine JL.skip rfl rfl ?_
          refine JL.skip rfl rfl ?_
          refine JL.skip rfl rfl ?_
          refine JL.skip rfl rfl ?_
          refine JL.skip rfl rfl ?_
          refine JL.skip rfl rfl ?_
          refine JL.pure rfl rfl (OpP.pickT rfl rfl) ?_
          refine JL.pure rfl rfl (OpP.assign rfl) ?_
          refine JL.nil ?_
          refine J.condT rfl ?_
          refine J.seq ?_
          refine J.region ?_
          refine JL.pure rfl rfl (OpP.assign rfl) ?_
          refine JL.nil ?_
          refine J.ret1 rfl rfl ?_
        rotate_left 1
        focus
          refine JL.pure rfl rfl (OpP.move rfl) ?_
          refine JL.pure rfl rfl (OpP.move rfl) ?_
          refine JL.pure rfl rfl (OpP.move rfl) ?_
          refine JL.pure rfl rfl (OpP.nilCheck rfl) ?_
          refine JL.pure rfl rfl (OpP.fieldAddr rfl) ?_
          refine JL.read rfl rfl (OpR.load1 rfl (Cell.row (.tail .head) rfl)) ?_
          refine JL.pure rfl rfl (OpP.len rfl rfl) ?_
          refine JL.decT rfl rfl (OpP.gtr rfl rfl) (by omega) ?_
          refine JL.pure rfl rfl (OpP.pickF rfl rfl) ?_
          refine JL.pure rfl rfl (OpP.move rfl) ?_
          refine JL.skip rfl rfl ?_
          refine JL.skip rfl rfl ?_
          refine JL.skip rfl rfl ?_
          refine JL.skip rfl rfl ?_
          refine JL.skip rfl rfl ?_
          refine JL.skip rfl rfl ?_
          refine JL.skip rfl rfl ?_
          refine JL.skip rfl rfl ?_
          refine JL.skip rfl rfl ?_
          refine JL.pure rfl rfl (OpP.pickT rfl rfl) ?_
          refine JL.pure rfl rfl (OpP.assign rfl) ?_
          refine JL.nil ?_
          refine J.condT rfl ?_
          refine J.seq ?_
          refine J.region ?_
          refine JL.pure rfl rfl (OpP.assign rfl) ?_
          refine JL.nil ?_
          refine J.ret1 rfl rfl ?_
        rotate_left 1
      rotate_left 2
    rotate_left 3
    · exact ⟨_, .inl ⟨fun q => by have q1 := q.1; have q2 := q.2; unfold timeP at q1; unfold nameP at q2; simp_all <;> omega, rfl, rfl⟩, fun _ h => h.tail⟩
    · exact ⟨_, .inl ⟨fun q => by have q1 := q.1; have q2 := q.2; unfold timeP at q1; unfold nameP at q2; simp_all <;> omega, rfl, rfl⟩, fun _ h => h.tail⟩
    · exact ⟨_, .inr ⟨⟨by simp [timeP] at *; omega, by simp [nameP] at *; omega⟩, .inl ⟨hin, rfl, rfl⟩⟩, fun _ h => h.tail⟩
    · exact ⟨_, .inr ⟨⟨by simp [timeP] at *; omega, by simp [nameP] at *; omega⟩, .inl ⟨hin, rfl, rfl⟩⟩, fun _ h => h.tail⟩
end Go.Proofs.C

-- seat c
namespace Go.Proofs.C
open Go Go.Gp Go.RowKit

theorem Time_ok {w0 : World} {t : Int} {F : List HProp} : FnO Try.prog w0 28 [.int .i64 t] F (fun r l' => r = .bool (decide (0 ≤ t ∧ t ≤ 1099511627776)) ∧ l' = F) := by
  refine FnO.intro (n := 9) Try.func28 rfl rfl rfl ?_
  refine J.seq ?_
  refine J.region ?_
  refine JL.pure rfl rfl (OpP.assign rfl) ?_
  refine JL.nil ?_
  refine J.seq ?_
  refine J.region ?_
  refine JL.pure rfl rfl (OpP.move rfl) ?_
  refine JL.dec rfl rfl (OpP.geq rfl rfl) (fun h4 => ?_) (fun h4 => ?_)
  focus
    refine JL.pure rfl rfl (OpP.move rfl) ?_
    refine JL.pure rfl rfl (OpP.move rfl) ?_
    refine JL.dec rfl rfl (OpP.leq rfl rfl) (fun h7 => ?_) (fun h7 => ?_)
    focus
      refine JL.pure rfl rfl (OpP.pickT rfl rfl) ?_
      refine JL.pure rfl rfl (OpP.assign rfl) ?_
      refine JL.nil ?_
      refine J.ret1 rfl rfl ?_
    rotate_left 1
    focus
      refine JL.pure rfl rfl (OpP.pickT rfl rfl) ?_
      refine JL.pure rfl rfl (OpP.assign rfl) ?_
      refine JL.nil ?_
      refine J.ret1 rfl rfl ?_
    rotate_left 1
  rotate_left 2
  focus
    refine JL.pure rfl rfl (OpP.move rfl) ?_
    refine JL.skip rfl rfl ?_
    refine JL.skip rfl rfl ?_
    refine JL.pure rfl rfl (OpP.pickF rfl rfl) ?_
    refine JL.pure rfl rfl (OpP.assign rfl) ?_
    refine JL.nil ?_
    refine J.ret1 rfl rfl ?_
  rotate_left 1
  all_goals exact ⟨congrArg Value.bool (by simp; omega), rfl⟩
theorem Name_ok {w0 : World} {s : Str} {F : List HProp} (h : s.size ≤ 1000000) : FnO Try.prog w0 49 [.string s] F (fun r l' => r = .bool (decide (1 ≤ s.size ∧ s.size ≤ 64)) ∧ l' = F) := by
  refine FnO.intro (n := 11) Try.func49 rfl rfl rfl ?_
  refine J.seq ?_
  refine J.region ?_
  refine JL.pure rfl rfl (OpP.assign rfl) ?_
  refine JL.nil ?_
  refine J.seq ?_
  refine J.region ?_
  refine JL.pure rfl rfl (OpP.move rfl) ?_
  refine JL.pure rfl rfl (OpP.lenStr rfl rfl) ?_
  refine JL.dec rfl rfl (OpP.gtr rfl rfl) (fun h5 => ?_) (fun h5 => ?_)
  focus
    refine JL.pure rfl rfl (OpP.move rfl) ?_
    refine JL.pure rfl rfl (OpP.move rfl) ?_
    refine JL.pure rfl rfl (OpP.lenStr rfl rfl) ?_
    refine JL.dec rfl rfl (OpP.leq rfl rfl) (fun h9 => ?_) (fun h9 => ?_)
    focus
      refine JL.pure rfl rfl (OpP.pickT rfl rfl) ?_
      refine JL.pure rfl rfl (OpP.assign rfl) ?_
      refine JL.nil ?_
      refine J.ret1 rfl rfl ?_
    rotate_left 1
    focus
      refine JL.pure rfl rfl (OpP.pickT rfl rfl) ?_
      refine JL.pure rfl rfl (OpP.assign rfl) ?_
      refine JL.nil ?_
      refine J.ret1 rfl rfl ?_
    rotate_left 1
  rotate_left 2
  focus
    refine JL.pure rfl rfl (OpP.move rfl) ?_
    refine JL.skip rfl rfl ?_
    refine JL.skip rfl rfl ?_
    refine JL.skip rfl rfl ?_
    refine JL.pure rfl rfl (OpP.pickF rfl rfl) ?_
    refine JL.pure rfl rfl (OpP.assign rfl) ?_
    refine JL.nil ?_
    refine J.ret1 rfl rfl ?_
  rotate_left 1
  all_goals exact ⟨congrArg Value.bool (by simp; omega), rfl⟩

theorem upF_fuel {gs : List Gr} (wf : Wf gs) : ∀ (f : Nat) (n : Int), n ≤ f → ∀ f' : Nat, n ≤ f' → upF gs f n = upF gs f' n := by
  intro f
  induction f with
  | zero =>
    intro n hn f' _
    rw [upF_out (by omega), upF_out (by omega)]
  | succ f ih =>
    intro n hn f' hf'
    by_cases hin : 1 ≤ n ∧ n ≤ gs.length
    · obtain ⟨g, hg⟩ : ∃ g, gs[(n - 1).toNat]? = some g := ⟨_, List.getElem?_eq_getElem (by omega)⟩
      obtain ⟨f', rfl⟩ : ∃ k, f' = k + 1 := ⟨f' - 1, by omega⟩
      obtain ⟨_, h2, _⟩ := wf.2 _ _ hg
      rw [upF_in hin.1 hg, upF_in hin.1 hg, ih g.par (by omega) f' (by omega)]
    · rw [upF_out hin, upF_out hin]
theorem upL_in {gs : List Gr} (wf : Wf gs) {n : Int} {g : Gr} (h : 1 ≤ n) (hg : gs[(n - 1).toNat]? = some g) : upL gs n = g :: upL gs g.par := by
  obtain ⟨_, h2, _⟩ := wf.2 _ _ hg
  have := (List.getElem?_eq_some_iff.1 hg).1
  rw [upL, upF_fuel wf gs.length n (by omega) (gs.length + 1) (by omega), upF_in h hg]; rfl
theorem upL_out {gs : List Gr} {n : Int} (h : ¬ (1 ≤ n ∧ n ≤ gs.length)) : upL gs n = [] := upF_out h _
theorem alive_step {gs : List Gr} (wf : Wf gs) {now n : Int} {g : Gr} (ht : timeP now) (h : 1 ≤ n) (hg : gs[(n - 1).toNat]? = some g) : aliveP gs now n ↔ deadB now g = false ∧ (g.par = 0 ∨ aliveP gs now g.par) := by
  obtain ⟨h1, h2, _⟩ := wf.2 _ _ hg
  have h4 := (List.getElem?_eq_some_iff.1 hg).1
  have e : aliveP gs now n ↔ ((upL gs n).all fun g => !deadB now g) = true := ⟨fun q => q.2.2, fun q => ⟨ht, ⟨h, by omega⟩, q⟩⟩
  rw [e, upL_in wf h hg, List.all_cons]
  have e2 : aliveP gs now g.par ↔ (1 ≤ g.par) ∧ ((upL gs g.par).all fun g => !deadB now g) = true := ⟨fun q => ⟨q.2.1.1, q.2.2⟩, fun q => ⟨ht, ⟨q.1, by omega⟩, q.2⟩⟩
  rw [e2]
  by_cases hp : g.par = 0
  · rw [hp, upL_out (by omega)]; simp
  · simp [hp]; intro _ _; omega

theorem refAlive_ok {w0 : World} {F : List HProp} {c : Nat} {a : Option Addr} {gs : List Gr} {now : Int} (hr : RdO w0 F (.slice a gs.length c) gs.length (gs.flatMap gcl)) (wf : Wf gs) : ∀ (m : Nat) (n : Int), n.toNat ≤ m →
    FnO Try.prog w0 27 [.slice a gs.length c, .int .i64 now, .int .i64 n] F (fun r l' => r = .bool (decide (aliveP gs now n)) ∧ l' = F) := by
  have wf1 := wf.1
  have hlen : ∀ g ∈ gs, (gcl g).length = 7 := fun _ _ => rfl
  have hr0 := hr
  intro m
  induction m generalizing F with
  | zero =>
    intro n hn
    refine FnO.intro (n := 50) Try.func27 rfl rfl rfl ?_
    have e : decide (aliveP gs now n) = false := decide_eq_false fun q => by have := q.2.1; omega
    refine J.seq ?_
    refine J.region ?_
    refine JL.pure rfl rfl (OpP.assign rfl) ?_
    refine JL.nil ?_
    refine J.seq ?_
    refine J.seq ?_
    refine J.region ?_
    refine JL.pure rfl rfl (OpP.move rfl) ?_
    refine JL.step rfl rfl (OpW.call (first := []) (captured := []) inferInstance rfl rfl Time_ok) ?_; rintro r9 _ ⟨rfl, rfl⟩
    refine JL.pure rfl rfl (OpP.notB rfl) ?_
    refine JL.pure rfl rfl (OpP.move rfl) ?_
    refine JL.splitAt 11 rfl (fun h11 => ?_) (fun h11 => ?_)
    focus
      refine JL.skip rfl rfl ?_
      refine JL.skip rfl rfl ?_
      refine JL.pure rfl rfl (OpP.pickT rfl rfl) ?_
      refine JL.pure rfl rfl (OpP.move rfl) ?_
      refine JL.skip rfl rfl ?_
      refine JL.skip rfl rfl ?_
      refine JL.skip rfl rfl ?_
      refine JL.skip rfl rfl ?_
      refine JL.pure rfl rfl (OpP.pickT rfl rfl) ?_
      refine JL.nil ?_
      refine J.condT rfl ?_
      refine J.seq ?_
      refine J.region ?_
      refine JL.pure rfl rfl (OpP.assign rfl) ?_
      refine JL.nil ?_
      refine J.ret1 rfl rfl ?_
    rotate_left 1
    focus
      refine JL.pure rfl rfl (OpP.move rfl) ?_
      refine JL.decT rfl rfl (OpP.lss rfl rfl) (by omega) ?_
      refine JL.pure rfl rfl (OpP.pickF rfl rfl) ?_
      refine JL.pure rfl rfl (OpP.move rfl) ?_
      refine JL.skip rfl rfl ?_
      refine JL.skip rfl rfl ?_
      refine JL.skip rfl rfl ?_
      refine JL.skip rfl rfl ?_
      refine JL.pure rfl rfl (OpP.pickT rfl rfl) ?_
      refine JL.nil ?_
      refine J.condT rfl ?_
      refine J.seq ?_
      refine J.region ?_
      refine JL.pure rfl rfl (OpP.assign rfl) ?_
      refine JL.nil ?_
      refine J.ret1 rfl rfl ?_
    rotate_left 1
    all_goals exact ⟨by rw [e], rfl⟩
  | succ m ih =>
    intro n hn
    refine FnO.rd hr fun hr1 => ?_
    refine FnO.weak ?_
    refine FnO.intro (n := 50) Try.func27 rfl rfl rfl ?_
    refine J.seq ?_
    refine J.region ?_
    refine JL.pure rfl rfl (OpP.assign rfl) ?_
    refine JL.nil ?_
    refine J.seq ?_
    refine J.seq ?_
    refine J.region ?_
    refine JL.pure rfl rfl (OpP.move rfl) ?_
    refine JL.step rfl rfl (OpW.call (first := []) (captured := []) inferInstance rfl rfl Time_ok) ?_; rintro r9 _ ⟨rfl, rfl⟩
    refine JL.pure rfl rfl (OpP.notB rfl) ?_
    refine JL.pure rfl rfl (OpP.move rfl) ?_
    refine JL.splitAt 11 rfl (fun h11 => ?_) (fun h11 => ?_)
    focus
      refine JL.skip rfl rfl ?_
      refine JL.skip rfl rfl ?_
      refine JL.pure rfl rfl (OpP.pickT rfl rfl) ?_
      refine JL.pure rfl rfl (OpP.move rfl) ?_
      refine JL.skip rfl rfl ?_
      refine JL.skip rfl rfl ?_
      refine JL.skip rfl rfl ?_
      refine JL.skip rfl rfl ?_
      refine JL.pure rfl rfl (OpP.pickT rfl rfl) ?_
      refine JL.nil ?_
      refine J.condT rfl ?_
      refine J.seq ?_
      refine J.region ?_
      refine JL.pure rfl rfl (OpP.assign rfl) ?_
      refine JL.nil ?_
      refine J.ret1 rfl rfl ?_
    rotate_left 1
    focus
      refine JL.pure rfl rfl (OpP.move rfl) ?_
      refine JL.dec rfl rfl (OpP.lss rfl rfl) (fun h13 => ?_) (fun h13 => ?_)
      focus
        refine JL.pure rfl rfl (OpP.pickF rfl rfl) ?_
        refine JL.pure rfl rfl (OpP.move rfl) ?_
        refine JL.skip rfl rfl ?_
        refine JL.skip rfl rfl ?_
        refine JL.skip rfl rfl ?_
        refine JL.skip rfl rfl ?_
        refine JL.pure rfl rfl (OpP.pickT rfl rfl) ?_
        refine JL.nil ?_
        refine J.condT rfl ?_
        refine J.seq ?_
        refine J.region ?_
        refine JL.pure rfl rfl (OpP.assign rfl) ?_
        refine JL.nil ?_
        refine J.ret1 rfl rfl ?_
      rotate_left 1
      focus
        refine JL.pure rfl rfl (OpP.pickF rfl rfl) ?_
        refine JL.pure rfl rfl (OpP.move rfl) ?_
        refine JL.pure rfl rfl (OpP.move rfl) ?_
        refine JL.pure rfl rfl (OpP.move rfl) ?_
        refine JL.pure rfl rfl (OpP.len rfl rfl) ?_
        refine JL.dec rfl rfl (OpP.gtr rfl rfl) (fun h19 => ?_) (fun h19 => ?_)
        focus
          refine JL.pure rfl rfl (OpP.pickF rfl rfl) ?_
          refine JL.nil ?_
          refine J.condT rfl ?_
          refine J.seq ?_
          refine J.region ?_
          refine JL.pure rfl rfl (OpP.assign rfl) ?_
          refine JL.nil ?_
          refine J.ret1 rfl rfl ?_
        rotate_left 1
        focus
          refine JL.pure rfl rfl (OpP.pickF rfl rfl) ?_
          refine JL.nil ?_
          refine J.condF rfl ?_
          refine J.skip ?_
        rotate_left 1
      rotate_left 2
    rotate_left 3
    iterate 3
      · exact ⟨_, ⟨by rw [decide_eq_false (fun q => by have q1 := q.1; have q2 := q.2.1; first | omega | simp_all)], rfl⟩, fun _ h => h⟩
    have ht : timeP now := by simpa [timeP] using h11
    obtain ⟨g, hg⟩ : ∃ g, gs[(n - 1).toNat]? = some g := ⟨_, List.getElem?_eq_getElem (by omega)⟩
    have hst := alive_step wf ht (by omega) hg
    obtain ⟨w1, w2, w3⟩ := wf.2 _ _ hg
    obtain ⟨ga, pa, qa, ea, ka, hcs⟩ := hr1.pos (by omega)
    cases ea
    have ih' := fun (l : List HProp) (hl : RdO w0 l (.slice (some ⟨ga, pa, none⟩) gs.length c) gs.length (gs.flatMap gcl)) => ih hl hl g.par (by omega)
    refine J.seq ?_
    refine J.region ?_
    refine JL.pure rfl rfl (OpP.move rfl) ?_
    refine JL.pure rfl rfl (OpP.move rfl) ?_
    refine JL.pure rfl rfl (OpP.subI rfl rfl (by omega) (by omega)) ?_
    refine JL.pure rfl rfl (OpP.indexAddr rfl rfl (by omega) (by omega)) ?_
    refine JL.read rfl rfl (OpR.loadN rfl (by apply Cells.conv (fun _ h => h); apply Cells.chunkAt hcs; (case' h => assumption); (case' hi => assumption); done) (by first | rfl | assumption)) ?_
    refine JL.mem rfl rfl OpM.alloc ?_; rintro _ _ ⟨b7, rfl, rfl⟩
    refine JL.mem0 rfl (by apply OpM.storeN rfl rfl (by rfl) (oneC rfl (oneC rfl (oneC rfl (oneC rfl (oneC rfl (oneC rfl (one1 rfl))))))); (case' hu => exact .head); (case' hs => exact (.here (.here (.here (.here (.here (.here (.here .nil)))))))); done) ?_; rintro _ _ ⟨rfl, rfl⟩
    refine JL.nil ?_
    refine J.seq ?_
    refine J.seq ?_
    refine J.region ?_
    refine JL.pure rfl rfl (OpP.fieldAddr rfl) ?_
    refine JL.read rfl rfl (OpR.load1 rfl (Cell.row .head rfl)) ?_
    refine JL.pure rfl rfl (OpP.move rfl) ?_
    refine JL.splitAt 28 rfl (fun h28 => ?_) (fun h28 => ?_)
    focus
      refine JL.skip rfl rfl ?_
      refine JL.skip rfl rfl ?_
      refine JL.skip rfl rfl ?_
      refine JL.skip rfl rfl ?_
      refine JL.pure rfl rfl (OpP.pickT rfl rfl) ?_
      refine JL.nil ?_
      refine J.condT rfl ?_
      refine J.seq ?_
      refine J.region ?_
      refine JL.pure rfl rfl (OpP.assign rfl) ?_
      refine JL.nil ?_
      refine J.ret1 rfl rfl ?_
    rotate_left 1
    focus
      refine JL.pure rfl rfl (OpP.fieldAddr rfl) ?_
      refine JL.read rfl rfl (OpR.load1 rfl (Cell.row .head rfl)) ?_
      refine JL.pure rfl rfl (OpP.move rfl) ?_
      refine JL.dec rfl rfl (OpP.leq rfl rfl) (fun h32 => ?_) (fun h32 => ?_)
      focus
        refine JL.pure rfl rfl (OpP.pickF rfl rfl) ?_
        refine JL.nil ?_
        refine J.condT rfl ?_
        refine J.seq ?_
        refine J.region ?_
        refine JL.pure rfl rfl (OpP.assign rfl) ?_
        refine JL.nil ?_
        refine J.ret1 rfl rfl ?_
      rotate_left 1
      focus
        refine JL.pure rfl rfl (OpP.pickF rfl rfl) ?_
        refine JL.nil ?_
        refine J.condF rfl ?_
        refine J.skip ?_
        refine J.seq ?_
        refine J.region ?_
        refine JL.pure rfl rfl (OpP.fieldAddr rfl) ?_
        refine JL.read rfl rfl (OpR.load1 rfl (Cell.row .head rfl)) ?_
        refine JL.dec rfl rfl (OpP.eql rfl rfl) (fun h36 => ?_) (fun h36 => ?_)
        focus
          refine JL.pure rfl rfl (OpP.move rfl) ?_
          refine JL.skip rfl rfl ?_
          refine JL.skip rfl rfl ?_
          refine JL.skip rfl rfl ?_
          refine JL.skip rfl rfl ?_
          refine JL.skip rfl rfl ?_
          refine JL.skip rfl rfl ?_
          refine JL.skip rfl rfl ?_
          refine JL.skip rfl rfl ?_
          refine JL.skip rfl rfl ?_
          refine JL.skip rfl rfl ?_
          refine JL.skip rfl rfl ?_
          refine JL.pure rfl rfl (OpP.pickT rfl rfl) ?_
          refine JL.pure rfl rfl (OpP.assign rfl) ?_
          refine JL.nil ?_
          refine J.ret1 rfl rfl ?_
        rotate_left 1
        focus
          refine JL.pure rfl rfl (OpP.move rfl) ?_
          refine JL.pure rfl rfl (OpP.fieldAddr rfl) ?_
          refine JL.read rfl rfl (OpR.load1 rfl (Cell.row .head rfl)) ?_
          refine JL.pure rfl rfl (OpP.move rfl) ?_
          refine JL.decT rfl rfl (OpP.lss rfl rfl) (by omega) ?_
          refine JL.pure rfl rfl (OpP.move rfl) ?_
          refine JL.pure rfl rfl (OpP.move rfl) ?_
          refine JL.pure rfl rfl (OpP.move rfl) ?_
          refine JL.pure rfl rfl (OpP.fieldAddr rfl) ?_
          refine JL.read rfl rfl (OpR.load1 rfl (Cell.row .head rfl)) ?_
          refine JL.step rfl rfl (OpW.call (first := []) (captured := []) inferInstance rfl rfl (ih' _ (hr.conv fun _ h => Own.pick (pre := [_]) [] rfl h))) ?_; rintro r47 _ ⟨rfl, rfl⟩
          refine JL.pure rfl rfl (OpP.pickT rfl rfl) ?_
          refine JL.pure rfl rfl (OpP.pickF rfl rfl) ?_
          refine JL.pure rfl rfl (OpP.assign rfl) ?_
          refine JL.nil ?_
          refine J.ret1 rfl rfl ?_
        rotate_left 1
      rotate_left 2
    rotate_left 3
    all_goals
      refine ⟨_, ⟨congrArg Value.bool ?_, rfl⟩, fun _ h => h.tail⟩
      rw [show decide (aliveP gs now n) = decide (deadB now g = false ∧ (g.par = 0 ∨ aliveP gs now g.par)) from decide_eq_decide.2 hst]
      simp [deadB, *]
      try omega
theorem topG_snoc {hs : List Gr} {g : Gr} (hd : DepOk g) (hh : ∀ g ∈ hs, DepOk g) : topG (hs ++ [g]) = (max (topG hs).1 g.dep, true) := by
  unfold DepOk at hd
  cases hs with
  | nil => simp only [List.nil_append, topG, maxF]; congr 1; omega
  | cons h l =>
    rw [List.cons_append, topG, maxF_snoc, topG]
    congr 1
    split <;> omega
theorem refAuth_ok {w0 : World} {F : List HProp} {c : Nat} {a : Option Addr} {gs : List Gr} {now : Int} {who : Str} (hr : RdO w0 F (.slice a gs.length c) gs.length (gs.flatMap gcl)) (wf : Wf gs) (hd : ∀ g ∈ gs, DepOk g) :
    FnO Try.prog w0 25 [.slice a gs.length c, .int .i64 now, .string who] F (fun r l' => r = .tuple #[.int .i64 (authF gs now who).1, .bool (authF gs now who).2] ∧ l' = F) := by
  have wf1 := wf.1
  have hlen : ∀ g ∈ gs, (gcl g).length = 7 := fun _ _ => rfl
  refine FnO.rd hr fun hr1 => ?_
  refine FnO.intro (n := 44) Try.func25 rfl rfl rfl ?_
  by_cases hw : who = rootS
  · rw [authF, if_pos hw]
    refine J.seq ?_
    refine J.region ?_
    refine JL.pure rfl rfl (OpP.assign rfl) ?_
    refine JL.pure rfl rfl (OpP.assign rfl) ?_
    refine JL.nil ?_
    refine J.seq ?_
    refine J.seq ?_
    refine J.region ?_
    refine JL.pure rfl rfl (OpP.move rfl) ?_
    refine JL.decT rfl rfl (OpP.eqStr rfl rfl) (by omega) ?_
    refine JL.nil ?_
    refine J.condT rfl ?_
    refine J.seq ?_
    refine J.region ?_
    refine JL.pure rfl rfl (OpP.move rfl) ?_
    refine JL.step rfl rfl (OpW.call (first := []) (captured := []) inferInstance rfl rfl Time_ok) ?_; rintro r14 _ ⟨rfl, rfl⟩
    refine JL.pure rfl rfl (OpP.assign rfl) ?_
    refine JL.pure rfl rfl (OpP.assign rfl) ?_
    refine JL.nil ?_
    refine J.ret2 rfl rfl rfl ?_
    exact ⟨rfl, rfl⟩
  · rw [authF, if_neg hw]
    refine J.seq ?_
    refine J.region ?_
    refine JL.pure rfl rfl (OpP.assign rfl) ?_
    refine JL.pure rfl rfl (OpP.assign rfl) ?_
    refine JL.nil ?_
    refine J.seq ?_
    refine J.seq ?_
    refine J.region ?_
    refine JL.pure rfl rfl (OpP.move rfl) ?_
    refine JL.decF rfl rfl (OpP.eqStr rfl rfl) (by omega) ?_
    refine JL.nil ?_
    refine J.condF rfl ?_
    refine J.skip ?_
    refine J.seq ?_
    refine J.region ?_
    refine JL.pure rfl rfl (OpP.assign rfl) ?_
    refine JL.pure rfl rfl (OpP.assign rfl) ?_
    refine JL.nil ?_
    refine J.seq ?_
    refine J.seq ?_
    refine J.region ?_
    refine JL.pure rfl rfl (OpP.assign rfl) ?_
    refine JL.nil ?_
    refine J.block ?_
    refine J.loopI (fun x : Nat × Int × Bool => gs.length - x.1) (fun x => x.1 ≤ gs.length ∧ x.2 = topG (heldL gs now who (gs.take x.1))) (fun z => [(10, .int .i64 (z.1 : Nat)), (8, .int .i64 z.2.1), (9, .bool z.2.2), (0, .slice a gs.length c), (1, .int .i64 now), (2, .string who)]) (fun _ => F) (0, 0, false) ⟨Nat.zero_le _, rfl⟩ (by repeat (first | exact SubEnv.nil | refine SubEnv.cons (by first | rfl | exact congrArg (fun z => some (Value.int .i64 z)) (by omega) | (simp; done)) ?_)) (fun _ h => h) (fun ⟨j, b, h⟩ hi back => ?_)
    dsimp only at hi back ⊢
    obtain ⟨hj, hb⟩ := hi
    by_cases hlt : j < gs.length
    · obtain ⟨g, hg⟩ : ∃ e, gs[j]? = some e := ⟨_, List.getElem?_eq_getElem hlt⟩
      have hgn := (wf.2 _ _ hg).2.2
      have hgd := hd g (List.mem_of_getElem? hg)
      have hnx := fun b => held_take (now := now) (who := who) hg b
      have hhd : ∀ g ∈ heldL gs now who (gs.take j), DepOk g := fun g hg => hd g (List.mem_of_mem_take (List.mem_filter.1 hg).1)
      generalize heldL gs now who (gs.take j) = hs at *
      obtain ⟨ga, pa, qa, ea, ka, hcs⟩ := hr1.pos (by omega)
      cases ea
      have al := refAlive_ok (now := now) hr wf gs.length ((j : Int) + 1) (by omega)
      refine J.seq ?_
      refine J.seq ?_
      refine J.region ?_
      refine JL.pure rfl rfl (OpP.move rfl) ?_
      refine JL.pure rfl rfl (OpP.move rfl) ?_
      refine JL.pure rfl rfl (OpP.len rfl rfl) ?_
      refine JL.decT rfl rfl (OpP.lss rfl rfl) (by omega) ?_
      refine JL.nil ?_
      refine J.condT rfl ?_
      refine J.skip ?_
      refine J.seq ?_
      refine J.block ?_
      refine J.seq ?_
      refine J.region ?_
      refine JL.pure rfl rfl (OpP.move rfl) ?_
      refine JL.pure rfl rfl (OpP.move rfl) ?_
      refine JL.pure rfl rfl (OpP.indexAddr rfl rfl (by omega) (by omega)) ?_
      refine JL.pure rfl rfl (OpP.fieldAddr rfl) ?_
      refine JL.read rfl rfl (OpR.load1 rfl (by apply Cells.cellChunk (j := 2) hcs (fun _ h => h); (case' h => assumption); (case' hi => assumption); (case' hv => rfl); (case' ho => omega); done)) ?_
      refine JL.pure rfl rfl (OpP.move rfl) ?_
      refine JL.dec rfl rfl (OpP.eqStr rfl rfl) (fun h27 => ?_) (fun h27 => ?_)
      focus
        refine JL.pure rfl rfl (OpP.move rfl) ?_
        refine JL.pure rfl rfl (OpP.move rfl) ?_
        refine JL.pure rfl rfl (OpP.move rfl) ?_
        refine JL.pure rfl rfl (OpP.move rfl) ?_
        refine JL.pure rfl rfl (OpP.addI rfl rfl (by omega) (by omega)) ?_
        refine JL.step rfl rfl (OpW.call (first := []) (captured := []) inferInstance rfl rfl al) ?_; rintro r33 _ ⟨rfl, rfl⟩
        refine JL.pure rfl rfl (OpP.pickT rfl rfl) ?_
        refine JL.nil ?_
        refine J.decAt 34 rfl (fun h34 => ?_) (fun h34 => ?_)
        focus
          refine J.condT rfl ?_
          refine J.seq ?_
          refine J.region ?_
          refine JL.pure rfl rfl (OpP.move rfl) ?_
          refine JL.pure rfl rfl (OpP.move rfl) ?_
          refine JL.pure rfl rfl (OpP.move rfl) ?_
          refine JL.pure rfl rfl (OpP.indexAddr rfl rfl (by omega) (by omega)) ?_
          refine JL.pure rfl rfl (OpP.fieldAddr rfl) ?_
          refine JL.read rfl rfl (OpR.load1 rfl (by apply Cells.cellChunk (j := 3) hcs (fun _ h => h); (case' h => assumption); (case' hi => assumption); (case' hv => rfl); (case' ho => omega); done)) ?_
          refine JL.pure rfl rfl (OpP.max rfl rfl) ?_
          refine JL.pure rfl rfl (OpP.assign rfl) ?_
          refine JL.nil ?_
          refine J.region ?_
          refine JL.pure rfl rfl (OpP.assign rfl) ?_
          refine JL.nil ?_
          refine J.inBlock ?_
          refine J.region ?_
          refine JL.pure rfl rfl (OpP.move rfl) ?_
          refine JL.pure rfl rfl (OpP.addI rfl rfl (by omega) (by omega)) ?_
          refine JL.pure rfl rfl (OpP.assign rfl) ?_
          refine JL.nil ?_
        rotate_left 1
        focus
          refine J.condF rfl ?_
          refine J.skip ?_
          refine J.inBlock ?_
          refine J.region ?_
          refine JL.pure rfl rfl (OpP.move rfl) ?_
          refine JL.pure rfl rfl (OpP.addI rfl rfl (by omega) (by omega)) ?_
          refine JL.pure rfl rfl (OpP.assign rfl) ?_
          refine JL.nil ?_
        rotate_left 1
      rotate_left 2
      focus
        refine JL.pure rfl rfl (OpP.move rfl) ?_
        refine JL.skip rfl rfl ?_
        refine JL.skip rfl rfl ?_
        refine JL.skip rfl rfl ?_
        refine JL.skip rfl rfl ?_
        refine JL.skip rfl rfl ?_
        refine JL.pure rfl rfl (OpP.pickF rfl rfl) ?_
        refine JL.nil ?_
        refine J.condF rfl ?_
        refine J.skip ?_
        refine J.inBlock ?_
        refine J.region ?_
        refine JL.pure rfl rfl (OpP.move rfl) ?_
        refine JL.pure rfl rfl (OpP.addI rfl rfl (by omega) (by omega)) ?_
        refine JL.pure rfl rfl (OpP.assign rfl) ?_
        refine JL.nil ?_
      rotate_left 1
      · have e := hnx true (by simp [hasB, *])
        refine back (j + 1, max b g.dep, true) ⟨by dsimp only; omega, ?_⟩ (by dsimp only; omega) (by repeat (first | exact SubEnv.nil | refine SubEnv.cons (by first | rfl | exact congrArg (fun z => some (Value.int .i64 z)) (by omega) | (simp; done)) ?_)) (fun _ h => h)
        dsimp only
        rw [e, cond_true, topG_snoc hgd hhd, ← hb]
      · have e := hnx false (by simp [hasB, *])
        refine back (j + 1, b, h) ⟨by dsimp only; omega, ?_⟩ (by dsimp only; omega) (by repeat (first | exact SubEnv.nil | refine SubEnv.cons (by first | rfl | exact congrArg (fun z => some (Value.int .i64 z)) (by omega) | (simp; done)) ?_)) (fun _ h => h)
        dsimp only
        rw [e, cond_false, List.append_nil, ← hb]
      · have e := hnx false (by simp [hasB, *])
        refine back (j + 1, b, h) ⟨by dsimp only; omega, ?_⟩ (by dsimp only; omega) (by repeat (first | exact SubEnv.nil | refine SubEnv.cons (by first | rfl | exact congrArg (fun z => some (Value.int .i64 z)) (by omega) | (simp; done)) ?_)) (fun _ h => h)
        dsimp only
        rw [e, cond_false, List.append_nil, ← hb]
    · have : j = gs.length := by omega
      subst this
      rw [List.take_length] at hb
      refine J.seq ?_
      refine J.seq ?_
      refine J.region ?_
      refine JL.pure rfl rfl (OpP.move rfl) ?_
      refine JL.pure rfl rfl (OpP.move rfl) ?_
      refine JL.pure rfl rfl (OpP.len rfl rfl) ?_
      refine JL.decF rfl rfl (OpP.lss rfl rfl) (by omega) ?_
      refine JL.nil ?_
      refine J.condF rfl ?_
      refine J.exit rfl ?_
      refine J.seq ?_
      refine J.region ?_
      refine JL.pure rfl rfl (OpP.move rfl) ?_
      refine JL.pure rfl rfl (OpP.move rfl) ?_
      refine JL.pure rfl rfl (OpP.assign rfl) ?_
      refine JL.pure rfl rfl (OpP.assign rfl) ?_
      refine JL.nil ?_
      refine J.ret2 rfl rfl rfl ?_
      rw [← hb]
      exact ⟨rfl, rfl⟩
end Go.Proofs.C

-- seat c
namespace Go.Proofs.C
open Go Go.Gp Go.RowKit

/-- A call, as the reference says it. -/
structure Oc where
  k : Int
  now : Int
  a : Str
  b : Str
  n : Int
  til : Int
abbrev ocl (o : Oc) : List Value := [.int .u8 o.k, .int .i64 o.now, .string o.a, .string o.b, .int .i64 o.n, .int .i64 o.til]
def revAt (gs : List Gr) (n : Int) : Bool := match gs[(n - 1).toNat]? with | some g => g.rev | none => true
def setRev (gs : List Gr) (n : Int) : List Gr := match gs[(n - 1).toNat]? with | some g => gs.set (n - 1).toNat { g with rev := true } | none => gs
def revF (gs : List Gr) (now n : Int) (who : Str) : Int :=
  if ¬ (timeP now ∧ nameP who) then 1 else if ¬ (1 ≤ n ∧ n ≤ gs.length) then 8 else if revAt gs n = true then 8 else if ¬ mayP gs n who then 15 else 0
theorem Revoke_ok' {w0 : World} {F : List HProp} {x c : Nat} {a : Option Addr} {gs : List Gr} {now n : Int} {who : Str} (wf : Wf gs) (h1 : who.size ≤ 1000) :
    FnO Try.prog w0 34 [.pointer (some ⟨x, 0, none⟩), .int .i64 now, .string who, .int .i64 n] (ledL x a c gs F)
      (fun r l' => r = .int .i64 (revF gs now n who) ∧ l' = ledL x a c (if revF gs now n who = 0 then setRev gs n else gs) F) :=
  (Revoke_ok wf h1).mono fun r l' h => by
    rcases h with ⟨h1, rfl, rfl⟩ | ⟨h1, ⟨h2, rfl, rfl⟩ | ⟨g, h2, hg, ⟨h3, rfl, rfl⟩ | ⟨h3, h4, rfl, rfl⟩ | ⟨h3, h4, rfl, rfl⟩⟩⟩
    · rw [show revF gs now n who = 1 by rw [revF, if_pos h1]]; exact ⟨rfl, rfl⟩
    · rw [show revF gs now n who = 8 by rw [revF, if_neg (fun q => q h1), if_pos h2]]; exact ⟨rfl, rfl⟩
    · rw [show revF gs now n who = 8 by rw [revF, if_neg (fun q => q h1), if_neg (fun q => q h2), if_pos (by rw [revAt, hg]; exact h3)]]; exact ⟨rfl, rfl⟩
    · rw [show revF gs now n who = 15 by rw [revF, if_neg (fun q => q h1), if_neg (fun q => q h2), if_neg (by rw [revAt, hg]; simp [h3]), if_pos h4]]; exact ⟨rfl, rfl⟩
    · rw [show revF gs now n who = 0 by rw [revF, if_neg (fun q => q h1), if_neg (fun q => q h2), if_neg (by rw [revAt, hg]; simp [h3]), if_neg (fun q => q h4)], if_pos rfl, setRev, hg]; exact ⟨rfl, rfl⟩
theorem mayP_step {gs : List Gr} (wf : Wf gs) {n : Int} {g : Gr} {who : Str} (h : 1 ≤ n) (hg : gs[(n - 1).toNat]? = some g) : mayP gs n who ↔ g.fr = who ∨ mayP gs g.par who := by
  unfold mayP
  rw [upL_in wf h hg, List.any_cons, Bool.or_eq_true, decide_eq_true_eq]
  constructor
  · rintro (h | h | h)
    · exact .inr (.inl h)
    · exact .inl h
    · exact .inr (.inr h)
  · rintro (h | h | h)
    · exact .inr (.inl h)
    · exact .inl h
    · exact .inr (.inr h)
theorem refRevoke_ok {w0 : World} {F : List HProp} {c : Nat} {a : Option Addr} {gs : List Gr} {o : Oc} (hr : RdO w0 F (.slice a gs.length c) gs.length (gs.flatMap gcl)) (wf : Wf gs) (h1 : o.a.size ≤ 1000) :
    FnO Try.prog w0 48 [.slice a gs.length c, .agg (ocl o).toArray] F (fun r l' => r = .int .i64 (revF gs o.now o.n o.a) ∧ l' = F) := by
  have wf1 := wf.1
  have hlen : ∀ g ∈ gs, (gcl g).length = 7 := fun _ _ => rfl
  refine FnO.rd hr fun hr1 => ?_
  refine FnO.weak ?_
  refine FnO.intro (n := 57) Try.func48 rfl rfl rfl ?_
  by_cases hin : 1 ≤ o.n ∧ o.n ≤ gs.length
  · obtain ⟨g, hg⟩ : ∃ g, gs[(o.n - 1).toNat]? = some g := ⟨_, List.getElem?_eq_getElem (by omega)⟩
    obtain ⟨ga, pa, qa, ea, ka, hcs⟩ := hr1.pos (by omega)
    cases ea
    refine J.seq ?_
    refine J.region ?_
    refine JL.mem rfl rfl (OpM.box rfl rfl) ?_; rintro _ _ ⟨b3, rfl, rfl⟩
    refine JL.pure rfl rfl (OpP.assign rfl) ?_
    refine JL.nil ?_
    refine J.seq ?_
    refine J.seq ?_
    refine J.region ?_
    refine JL.pure rfl rfl (OpP.fieldAddr rfl) ?_
    refine JL.read rfl rfl (OpR.load1 rfl (Cell.row .head rfl)) ?_
    refine JL.step rfl rfl (OpW.call (first := []) (captured := []) inferInstance rfl rfl Time_ok) ?_; rintro r8 _ ⟨rfl, rfl⟩
    refine JL.pure rfl rfl (OpP.notB rfl) ?_
    refine JL.pure rfl rfl (OpP.move rfl) ?_
    refine JL.splitAt 10 rfl (fun h10 => ?_) (fun h10 => ?_)
    focus
      refine JL.skip rfl rfl ?_
      refine JL.skip rfl rfl ?_
      refine JL.skip rfl rfl ?_
      refine JL.skip rfl rfl ?_
      refine JL.pure rfl rfl (OpP.pickT rfl rfl) ?_
      refine JL.nil ?_
      refine J.condT rfl ?_
      refine J.seq ?_
      refine J.region ?_
      refine JL.pure rfl rfl (OpP.assign rfl) ?_
      refine JL.nil ?_
      refine J.ret1 rfl rfl ?_
    rotate_left 1
    focus
      refine JL.pure rfl rfl (OpP.fieldAddr rfl) ?_
      refine JL.read rfl rfl (OpR.load1 rfl (Cell.row .head rfl)) ?_
      refine JL.step rfl rfl (OpW.call (first := []) (captured := []) inferInstance rfl rfl (Name_ok (by first | assumption | omega | rfl | exact Nat.le_of_ble_eq_true rfl | (simp; omega)))) ?_; rintro r13 _ ⟨rfl, rfl⟩
      refine JL.pure rfl rfl (OpP.notB rfl) ?_
      refine JL.pure rfl rfl (OpP.pickF rfl rfl) ?_
      refine JL.nil ?_
      refine J.splitAt 15 rfl (fun h15 => ?_) (fun h15 => ?_)
      focus
        refine J.condT rfl ?_
        refine J.seq ?_
        refine J.region ?_
        refine JL.pure rfl rfl (OpP.assign rfl) ?_
        refine JL.nil ?_
        refine J.ret1 rfl rfl ?_
      rotate_left 1
      focus
        refine J.condF rfl ?_
        refine J.skip ?_
        refine J.seq ?_
        refine J.seq ?_
        refine J.region ?_
        refine JL.pure rfl rfl (OpP.fieldAddr rfl) ?_
        refine JL.read rfl rfl (OpR.load1 rfl (Cell.row .head rfl)) ?_
        refine JL.decF rfl rfl (OpP.lss rfl rfl) (by omega) ?_
        refine JL.pure rfl rfl (OpP.move rfl) ?_
        refine JL.pure rfl rfl (OpP.fieldAddr rfl) ?_
        refine JL.read rfl rfl (OpR.load1 rfl (Cell.row .head rfl)) ?_
        refine JL.pure rfl rfl (OpP.move rfl) ?_
        refine JL.pure rfl rfl (OpP.len rfl rfl) ?_
        refine JL.decF rfl rfl (OpP.gtr rfl rfl) (by omega) ?_
        refine JL.pure rfl rfl (OpP.pickF rfl rfl) ?_
        refine JL.pure rfl rfl (OpP.move rfl) ?_
        refine JL.pure rfl rfl (OpP.move rfl) ?_
        refine JL.pure rfl rfl (OpP.fieldAddr rfl) ?_
        refine JL.read rfl rfl (OpR.load1 rfl (Cell.row .head rfl)) ?_
        refine JL.pure rfl rfl (OpP.subI rfl rfl (by omega) (by omega)) ?_
        refine JL.pure rfl rfl (OpP.indexAddr rfl rfl (by omega) (by omega)) ?_
        refine JL.pure rfl rfl (OpP.fieldAddr rfl) ?_
        refine JL.read rfl rfl (OpR.load1 rfl (by apply Cells.cellChunk (j := 6) hcs (fun _ h => Own.pick (pre := [_]) [] rfl h); (case' h => assumption); (case' hi => assumption); (case' hv => rfl); (case' ho => omega); done)) ?_
        refine JL.pure rfl rfl (OpP.pickF rfl rfl) ?_
        refine JL.nil ?_
        refine J.splitAt 34 rfl (fun h34 => ?_) (fun h34 => ?_)
        focus
          refine J.condT rfl ?_
          refine J.seq ?_
          refine J.region ?_
          refine JL.pure rfl rfl (OpP.assign rfl) ?_
          refine JL.nil ?_
          refine J.ret1 rfl rfl ?_
        rotate_left 1
        focus
          refine J.condF rfl ?_
          refine J.skip ?_
          refine J.seq ?_
        rotate_left 1
      rotate_left 2
    rotate_left 3
    · exact ⟨_, ⟨congrArg (Value.int .i64) (by rw [revF, if_pos (fun q => by have q1 := q.1; have q2 := q.2; unfold timeP at q1; unfold nameP at q2; simp_all <;> omega)]), rfl⟩, fun _ h => h.tail⟩
    · exact ⟨_, ⟨congrArg (Value.int .i64) (by rw [revF, if_pos (fun q => by have q1 := q.1; have q2 := q.2; unfold timeP at q1; unfold nameP at q2; simp_all <;> omega)]), rfl⟩, fun _ h => h.tail⟩
    · have htn : timeP o.now ∧ nameP o.a := ⟨by simp [timeP] at *; omega, by simp [nameP] at *; omega⟩
      exact ⟨_, ⟨congrArg (Value.int .i64) (by rw [revF, if_neg (fun q => q htn), if_neg (fun q => q hin), if_pos (by rw [revAt, hg]; assumption)]), rfl⟩, fun _ h => h.tail⟩
    have htn : timeP o.now ∧ nameP o.a := ⟨by simp [timeP] at *; omega, by simp [nameP] at *; omega⟩
    have e : revF gs o.now o.n o.a = if ¬ mayP gs o.n o.a then 15 else 0 := by
      rw [revF, if_neg (fun q => q htn), if_neg (fun q => q hin), if_neg (by rw [revAt, hg]; simp [*])]
    rw [e]
    refine J.seq ?_
    refine J.region ?_
    refine JL.pure rfl rfl (OpP.fieldAddr rfl) ?_
    refine JL.read rfl rfl (OpR.load1 rfl (Cell.row .head rfl)) ?_
    refine JL.pure rfl rfl (OpP.assign rfl) ?_
    refine JL.nil ?_
    refine J.block ?_
    refine J.loopI (fun n : Int => n.toNat) (fun n => n ≤ gs.length ∧ (mayP gs n o.a ↔ mayP gs o.n o.a)) (fun n => [(5, .int .i64 n), (0, .slice (some ⟨ga, pa, none⟩) gs.length c), (3, .pointer (some ⟨b3, 0, none⟩))]) (fun _ => row b3 57 (ocl o) :: F) o.n ⟨hin.2, Iff.rfl⟩ (by repeat (first | exact SubEnv.nil | refine SubEnv.cons (by first | rfl | exact congrArg (fun z => some (Value.int .i64 z)) (by omega) | (simp; done)) ?_)) (fun _ h => h) (fun n hi back => ?_)
    obtain ⟨hn, hmay⟩ := hi
    by_cases hp : 0 < n
    · obtain ⟨h, hh⟩ : ∃ g, gs[(n - 1).toNat]? = some g := ⟨_, List.getElem?_eq_getElem (by omega)⟩
      obtain ⟨w1, w2, w3⟩ := wf.2 _ _ hh
      have hs := mayP_step (who := o.a) wf (by omega) hh
      refine J.seq ?_
      refine J.seq ?_
      refine J.region ?_
      refine JL.pure rfl rfl (OpP.move rfl) ?_
      refine JL.decT rfl rfl (OpP.gtr rfl rfl) (by omega) ?_
      refine JL.nil ?_
      refine J.condT rfl ?_
      refine J.skip ?_
      refine J.seq ?_
      refine J.block ?_
      refine J.seq ?_
      refine J.regionD [5, 7] (by kernel_rfl) ?_
      refine DL.pure (i := 0) (by kernel_rfl) (by kernel_rfl) rfl rfl rfl (OpP.move rfl) ?_
      refine DL.pure (i := 1) (by kernel_rfl) (by kernel_rfl) rfl rfl rfl (OpP.move rfl) ?_
      refine DL.pure (i := 2) (by kernel_rfl) (by kernel_rfl) rfl rfl rfl (OpP.subI rfl rfl (by omega) (by omega)) ?_
      refine DL.pure (i := 3) (by kernel_rfl) (by kernel_rfl) rfl rfl rfl (OpP.indexAddr rfl rfl (by omega) (by omega)) ?_
      refine DL.pure (i := 4) (by kernel_rfl) (by kernel_rfl) rfl rfl rfl (OpP.fieldAddr rfl) ?_
      refine DL.read (i := 5) (by kernel_rfl) (by kernel_rfl) rfl rfl rfl (fun _ h => h) (OpR.load1 rfl (by apply Cells.cellChunk (j := 1) hcs (fun _ h => Own.pick (pre := [_]) [] rfl h); (case' h => assumption); (case' hi => assumption); (case' hv => rfl); (case' ho => omega); done)) ?_
      refine DL.pure (i := 6) (by kernel_rfl) (by kernel_rfl) rfl rfl rfl (OpP.fieldAddr rfl) ?_
      refine DL.read (i := 7) (by kernel_rfl) (by kernel_rfl) rfl rfl rfl (fun _ h => h) (OpR.load1 rfl (Cell.row .head rfl)) ?_
      refine DL.dec (i := 8) (by kernel_rfl) (by kernel_rfl) rfl rfl rfl (OpP.eqStr rfl rfl) (fun h53 => ?_) (fun h53 => ?_)
      focus
        refine DL.done (by kernel_rfl) ?_
        refine J.condT rfl ?_
        refine J.seq ?_
        refine J.region ?_
        refine JL.pure rfl rfl (OpP.assign rfl) ?_
        refine JL.nil ?_
        refine J.ret1 rfl rfl ?_
      rotate_left 1
      focus
        refine DL.done (by kernel_rfl) ?_
        refine J.condF rfl ?_
        refine J.skip ?_
        refine J.inBlock ?_
        refine J.region ?_
        refine JL.pure rfl rfl (OpP.move rfl) ?_
        refine JL.pure rfl rfl (OpP.move rfl) ?_
        refine JL.pure rfl rfl (OpP.subI rfl rfl (by omega) (by omega)) ?_
        refine JL.pure rfl rfl (OpP.indexAddr rfl rfl (by omega) (by omega)) ?_
        refine JL.pure rfl rfl (OpP.fieldAddr rfl) ?_
        refine JL.read rfl rfl (OpR.load1 rfl (by apply Cells.cellChunk (j := 5) hcs (fun _ h => Own.pick (pre := [_]) [] rfl h); (case' h => assumption); (case' hi => assumption); (case' hv => rfl); (case' ho => omega); done)) ?_
        refine JL.pure rfl rfl (OpP.assign rfl) ?_
        refine JL.nil ?_
      rotate_left 1
      · have : mayP gs o.n o.a := hmay.1 (hs.2 (.inl (by assumption)))
        exact ⟨_, ⟨by rw [if_neg (fun q => q this)], rfl⟩, fun _ h => h.tail⟩
      · have hne : ¬ h.fr = o.a := by assumption
        exact back h.par ⟨by omega, by rw [← hmay, hs]; simp [hne]⟩ (by omega) (by repeat (first | exact SubEnv.nil | refine SubEnv.cons (by first | rfl | exact congrArg (fun z => some (Value.int .i64 z)) (by omega) | (simp; done)) ?_)) (fun _ h => h)
    · have e2 : mayP gs n o.a ↔ o.a = rootS := by rw [mayP, upL_out (by omega)]; simp
      rw [e2] at hmay
      refine J.seq ?_
      refine J.seq ?_
      refine J.region ?_
      refine JL.pure rfl rfl (OpP.move rfl) ?_
      refine JL.decF rfl rfl (OpP.gtr rfl rfl) (by omega) ?_
      refine JL.nil ?_
      refine J.condF rfl ?_
      refine J.exit rfl ?_
      refine J.seq ?_
      refine J.seq ?_
      refine J.region ?_
      refine JL.pure rfl rfl (OpP.fieldAddr rfl) ?_
      refine JL.read rfl rfl (OpR.load1 rfl (Cell.row .head rfl)) ?_
      refine JL.dec rfl rfl (OpP.eqStr rfl rfl) (fun h56 => ?_) (fun h56 => ?_)
      focus
        refine JL.nil ?_
        refine J.condT rfl ?_
        refine J.seq ?_
        refine J.region ?_
        refine JL.pure rfl rfl (OpP.assign rfl) ?_
        refine JL.nil ?_
        refine J.ret1 rfl rfl ?_
      rotate_left 1
      focus
        refine JL.nil ?_
        refine J.condF rfl ?_
        refine J.skip ?_
        refine J.seq ?_
        refine J.region ?_
        refine JL.pure rfl rfl (OpP.assign rfl) ?_
        refine JL.nil ?_
        refine J.ret1 rfl rfl ?_
      rotate_left 1
      · exact ⟨_, ⟨by rw [if_neg (fun q => q (hmay.1 (by assumption)))], rfl⟩, fun _ h => h.tail⟩
      · exact ⟨_, ⟨by rw [if_pos (fun q => absurd (hmay.2 q) (by assumption))], rfl⟩, fun _ h => h.tail⟩
  · refine J.seq ?_
    refine J.region ?_
    refine JL.mem rfl rfl (OpM.box rfl rfl) ?_; rintro _ _ ⟨b3, rfl, rfl⟩
    refine JL.pure rfl rfl (OpP.assign rfl) ?_
    refine JL.nil ?_
    refine J.seq ?_
    refine J.seq ?_
    refine J.region ?_
    refine JL.pure rfl rfl (OpP.fieldAddr rfl) ?_
    refine JL.read rfl rfl (OpR.load1 rfl (Cell.row .head rfl)) ?_
    refine JL.step rfl rfl (OpW.call (first := []) (captured := []) inferInstance rfl rfl Time_ok) ?_; rintro r8 _ ⟨rfl, rfl⟩
    refine JL.pure rfl rfl (OpP.notB rfl) ?_
    refine JL.pure rfl rfl (OpP.move rfl) ?_
    refine JL.splitAt 10 rfl (fun h10 => ?_) (fun h10 => ?_)
    focus
      refine JL.skip rfl rfl ?_
      refine JL.skip rfl rfl ?_
      refine JL.skip rfl rfl ?_
      refine JL.skip rfl rfl ?_
      refine JL.pure rfl rfl (OpP.pickT rfl rfl) ?_
      refine JL.nil ?_
      refine J.condT rfl ?_
      refine J.seq ?_
      refine J.region ?_
      refine JL.pure rfl rfl (OpP.assign rfl) ?_
      refine JL.nil ?_
      refine J.ret1 rfl rfl ?_
    rotate_left 1
    focus
      refine JL.pure rfl rfl (OpP.fieldAddr rfl) ?_
      refine JL.read rfl rfl (OpR.load1 rfl (Cell.row .head rfl)) ?_
      refine JL.step rfl rfl (OpW.call (first := []) (captured := []) inferInstance rfl rfl (Name_ok (by first | assumption | omega | rfl | exact Nat.le_of_ble_eq_true rfl | (simp; omega)))) ?_; rintro r13 _ ⟨rfl, rfl⟩
      refine JL.pure rfl rfl (OpP.notB rfl) ?_
      refine JL.pure rfl rfl (OpP.pickF rfl rfl) ?_
      refine JL.nil ?_
      refine J.splitAt 15 rfl (fun h15 => ?_) (fun h15 => ?_)
      focus
        refine J.condT rfl ?_
        refine J.seq ?_
        refine J.region ?_
        refine JL.pure rfl rfl (OpP.assign rfl) ?_
        refine JL.nil ?_
        refine J.ret1 rfl rfl ?_
      rotate_left 1
      focus
        refine J.condF rfl ?_
        refine J.skip ?_
        refine J.seq ?_
        refine J.seq ?_
        refine J.region ?_
        refine JL.pure rfl rfl (OpP.fieldAddr rfl) ?_
        refine JL.read rfl rfl (OpR.load1 rfl (Cell.row .head rfl)) ?_
        refine JL.dec rfl rfl (OpP.lss rfl rfl) (fun h18 => ?_) (fun h18 => ?_)
        focus
          refine JL.pure rfl rfl (OpP.move rfl) ?_
          refine JL.skip rfl rfl ?_
          refine JL.skip rfl rfl ?_
          refine JL.skip rfl rfl ?_
          refine JL.skip rfl rfl ?_
          refine JL.skip rfl rfl ?_
          refine JL.pure rfl rfl (OpP.pickT rfl rfl) ?_
          refine JL.pure rfl rfl (OpP.move rfl) ?_
          refine JL.skip rfl rfl ?_
          refine JL.skip rfl rfl ?_
          refine JL.skip rfl rfl ?_
          refine JL.skip rfl rfl ?_
          refine JL.skip rfl rfl ?_
          refine JL.skip rfl rfl ?_
          refine JL.skip rfl rfl ?_
          refine JL.pure rfl rfl (OpP.pickT rfl rfl) ?_
          refine JL.nil ?_
          refine J.condT rfl ?_
          refine J.seq ?_
          refine J.region ?_
          refine JL.pure rfl rfl (OpP.assign rfl) ?_
          refine JL.nil ?_
          refine J.ret1 rfl rfl ?_
        rotate_left 1
        focus
          refine JL.pure rfl rfl (OpP.move rfl) ?_
          refine JL.pure rfl rfl (OpP.fieldAddr rfl) ?_
          refine JL.read rfl rfl (OpR.load1 rfl (Cell.row .head rfl)) ?_
          refine JL.pure rfl rfl (OpP.move rfl) ?_
          refine JL.pure rfl rfl (OpP.len rfl rfl) ?_
          refine JL.decT rfl rfl (OpP.gtr rfl rfl) (by omega) ?_
          refine JL.pure rfl rfl (OpP.pickF rfl rfl) ?_
          refine JL.pure rfl rfl (OpP.move rfl) ?_
          refine JL.skip rfl rfl ?_
          refine JL.skip rfl rfl ?_
          refine JL.skip rfl rfl ?_
          refine JL.skip rfl rfl ?_
          refine JL.skip rfl rfl ?_
          refine JL.skip rfl rfl ?_
          refine JL.skip rfl rfl ?_
          refine JL.pure rfl rfl (OpP.pickT rfl rfl) ?_
          refine JL.nil ?_
          refine J.condT rfl ?_
          refine J.seq ?_
          refine J.region ?_
          refine JL.pure rfl rfl (OpP.assign rfl) ?_
          refine JL.nil ?_
          refine J.ret1 rfl rfl ?_
        rotate_left 1
      rotate_left 2
    rotate_left 3
    · exact ⟨_, ⟨congrArg (Value.int .i64) (by rw [revF, if_pos (fun q => by have q1 := q.1; have q2 := q.2; unfold timeP at q1; unfold nameP at q2; simp_all <;> omega)]), rfl⟩, fun _ h => h.tail⟩
    · exact ⟨_, ⟨congrArg (Value.int .i64) (by rw [revF, if_pos (fun q => by have q1 := q.1; have q2 := q.2; unfold timeP at q1; unfold nameP at q2; simp_all <;> omega)]), rfl⟩, fun _ h => h.tail⟩
    · have htn : timeP o.now ∧ nameP o.a := ⟨by simp [timeP] at *; omega, by simp [nameP] at *; omega⟩
      exact ⟨_, ⟨congrArg (Value.int .i64) (by rw [revF, if_neg (fun q => q htn), if_pos hin]), rfl⟩, fun _ h => h.tail⟩
    · have htn : timeP o.now ∧ nameP o.a := ⟨by simp [timeP] at *; omega, by simp [nameP] at *; omega⟩
      exact ⟨_, ⟨congrArg (Value.int .i64) (by rw [revF, if_neg (fun q => q htn), if_pos hin]), rfl⟩, fun _ h => h.tail⟩
end Go.Proofs.C

-- seat c
namespace Go.Proofs.C
open Go Go.Gp Go.RowKit

abbrev askG (gs : List Gr) (o : Oc) : Gr := ⟨(gs.length : Int) + 1, o.a, o.b, o.n, o.til, 0, false⟩
abbrev giveG (gs : List Gr) (o : Oc) : Gr := ⟨(gs.length : Int) + 1, o.a, o.b, o.n, o.til, parF gs o.now o.a o.n, false⟩
def doF (gs : List Gr) (o : Oc) : List Gr × Int × Int :=
  if o.k % 2 = 1 then (if revF gs o.now o.n o.a = 0 then (setRev gs o.n, 0, 0) else (gs, 0, revF gs o.now o.n o.a))
  else if wrongF gs o.now (askG gs o) = 0 then (gs ++ [giveG gs o], (gs.length : Int) + 1, 0) else (gs, 0, wrongF gs o.now (askG gs o))
structure Oc.Ok (o : Oc) : Prop where
  k : 0 ≤ o.k ∧ o.k ≤ 255
  a : o.a.size ≤ 1000
  b : o.b.size ≤ 1000
theorem Do_ok {w0 : World} {F : List HProp} {x c : Nat} {a : Option Addr} {gs : List Gr} {o : Oc} (wf : Wf gs) (hd : ∀ g ∈ gs, DepOk g) (ho : o.Ok) :
    FnO Try.prog w0 30 [.pointer (some ⟨x, 0, none⟩), .agg (ocl o).toArray] (ledL x a c gs F) (fun r l' => r = .tuple #[.int .i64 (doF gs o).2.1, .int .i64 (doF gs o).2.2] ∧ ∃ a c, l' = ledL x a c (doF gs o).1 F) := by
  obtain ⟨⟨hk1, hk2⟩, ha, hb⟩ := ho
  refine FnO.weak ?_
  refine FnO.intro (n := 32) Try.func30 rfl rfl rfl ?_
  have hR := fun (G : List HProp) => Revoke_ok' (w0 := w0) (F := G) (x := x) (a := a) (c := c) (now := o.now) (n := o.n) wf ha
  have hG := fun (G : List HProp) => Give_ok (w0 := w0) (F := G) (x := x) (a := a) (c := c) (now := o.now) (d := o.n) (til := o.til) wf hd ha hb
  unfold ledL at *
  by_cases hk : o.k % 2 = 1
  · rw [doF, if_pos hk]
    refine J.seq ?_
    refine J.region ?_
    refine JL.mem rfl rfl (OpM.box rfl rfl) ?_; rintro _ _ ⟨b3, rfl, rfl⟩
    refine JL.pure rfl rfl (OpP.assign rfl) ?_
    refine JL.pure rfl rfl (OpP.assign rfl) ?_
    refine JL.nil ?_
    refine J.seq ?_
    refine J.seq ?_
    refine J.region ?_
    refine JL.pure rfl rfl (OpP.fieldAddr rfl) ?_
    refine JL.read rfl rfl (OpR.load1 rfl (Cell.row .head rfl)) ?_
    refine JL.pure rfl rfl (OpP.remI rfl rfl (by first | omega | exact Int.natCast_nonneg _) (by omega)) ?_
    refine JL.decT rfl rfl (OpP.eql rfl rfl) (by omega) ?_
    refine JL.nil ?_
    refine J.condT rfl ?_
    refine J.seq ?_
    refine J.region ?_
    refine JL.pure rfl rfl (OpP.move rfl) ?_
    refine JL.pure rfl rfl (OpP.fieldAddr rfl) ?_
    refine JL.read rfl rfl (OpR.load1 rfl (Cell.row .head rfl)) ?_
    refine JL.pure rfl rfl (OpP.fieldAddr rfl) ?_
    refine JL.read rfl rfl (OpR.load1 rfl (Cell.row .head rfl)) ?_
    refine JL.pure rfl rfl (OpP.fieldAddr rfl) ?_
    refine JL.read rfl rfl (OpR.load1 rfl (Cell.row .head rfl)) ?_
    refine JL.f2 ?_; refine JL.f2 ?_; refine JL.step rfl rfl (OpW.call (first := []) (captured := []) inferInstance rfl rfl (hR _)) ?_; rintro r17 _ ⟨rfl, rfl⟩
    refine JL.pure rfl rfl (OpP.assign rfl) ?_
    refine JL.pure rfl rfl (OpP.assign rfl) ?_
    refine JL.nil ?_
    refine J.ret2 rfl rfl rfl ?_
    have e1 : (if revF gs o.now o.n o.a = 0 then (setRev gs o.n, (0 : Int), (0 : Int)) else (gs, 0, revF gs o.now o.n o.a)).1 = if revF gs o.now o.n o.a = 0 then setRev gs o.n else gs := by split <;> rfl
    have e2 : (if revF gs o.now o.n o.a = 0 then (setRev gs o.n, (0 : Int), (0 : Int)) else (gs, 0, revF gs o.now o.n o.a)).2 = (0, revF gs o.now o.n o.a) := by
      split
      · rw [show revF gs o.now o.n o.a = 0 by assumption]
      · rfl
    rw [e1, e2]
    exact ⟨_, ⟨rfl, a, c, rfl⟩, fun _ h => Own.pick (pre := [_, _, _]) [0, 1] rfl h⟩
  · rw [doF, if_neg hk]
    refine J.seq ?_
    refine J.region ?_
    refine JL.mem rfl rfl (OpM.box rfl rfl) ?_; rintro _ _ ⟨b3, rfl, rfl⟩
    refine JL.pure rfl rfl (OpP.assign rfl) ?_
    refine JL.pure rfl rfl (OpP.assign rfl) ?_
    refine JL.nil ?_
    refine J.seq ?_
    refine J.seq ?_
    refine J.region ?_
    refine JL.pure rfl rfl (OpP.fieldAddr rfl) ?_
    refine JL.read rfl rfl (OpR.load1 rfl (Cell.row .head rfl)) ?_
    refine JL.pure rfl rfl (OpP.remI rfl rfl (by first | omega | exact Int.natCast_nonneg _) (by omega)) ?_
    refine JL.decF rfl rfl (OpP.eql rfl rfl) (by omega) ?_
    refine JL.nil ?_
    refine J.condF rfl ?_
    refine J.skip ?_
    refine J.seq ?_
    refine J.region ?_
    refine JL.pure rfl rfl (OpP.move rfl) ?_
    refine JL.pure rfl rfl (OpP.fieldAddr rfl) ?_
    refine JL.read rfl rfl (OpR.load1 rfl (Cell.row .head rfl)) ?_
    refine JL.pure rfl rfl (OpP.fieldAddr rfl) ?_
    refine JL.read rfl rfl (OpR.load1 rfl (Cell.row .head rfl)) ?_
    refine JL.pure rfl rfl (OpP.fieldAddr rfl) ?_
    refine JL.read rfl rfl (OpR.load1 rfl (Cell.row .head rfl)) ?_
    refine JL.pure rfl rfl (OpP.fieldAddr rfl) ?_
    refine JL.read rfl rfl (OpR.load1 rfl (Cell.row .head rfl)) ?_
    refine JL.pure rfl rfl (OpP.fieldAddr rfl) ?_
    refine JL.read rfl rfl (OpR.load1 rfl (Cell.row .head rfl)) ?_
    refine JL.f2 ?_; refine JL.f2 ?_; refine JL.step rfl rfl (OpW.call (first := []) (captured := []) inferInstance rfl rfl (hG _)) ?_; rintro r29 _ (⟨h29, ⟨rfl, rfl⟩⟩ | ⟨h291, ⟨rfl, ⟨a1, ⟨c1, rfl⟩⟩⟩⟩)
    focus
      refine JL.pure rfl rfl (OpP.extract rfl rfl) ?_
      refine JL.pure rfl rfl (OpP.extract rfl rfl) ?_
      refine JL.pure rfl rfl (OpP.assign rfl) ?_
      refine JL.pure rfl rfl (OpP.assign rfl) ?_
      refine JL.nil ?_
      refine J.ret2 rfl rfl rfl ?_
    rotate_left 1
    focus
      refine JL.pure rfl rfl (OpP.extract rfl rfl) ?_
      refine JL.pure rfl rfl (OpP.extract rfl rfl) ?_
      refine JL.pure rfl rfl (OpP.assign rfl) ?_
      refine JL.pure rfl rfl (OpP.assign rfl) ?_
      refine JL.nil ?_
      refine J.ret2 rfl rfl rfl ?_
    rotate_left 1
    · rw [if_neg (by assumption)]
      exact ⟨_, ⟨rfl, a, c, rfl⟩, fun _ h => Own.pick (pre := [_, _, _]) [0, 1] rfl h⟩
    · rw [if_pos (by assumption)]
      exact ⟨_, ⟨rfl, a1, c1, rfl⟩, fun _ h => Own.pick (pre := [_, _, _]) [0, 1] rfl h⟩
end Go.Proofs.C
