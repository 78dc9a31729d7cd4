/- A text of the proof of a statement about the given program: its part CComb2. No person has read it. -/
import Derived.Test.YtaodplndajeckaaCComb
import Derived.Test.YtaodplndajeckaaJ19
-- seat c
namespace Go.Proofs.C
open Go Go.Gp Go.RowKit

theorem nz_length (xs : List Int) : (nz xs).length ≤ xs.length := List.length_filter_le _ _
theorem said_ok {w0 : World} {F : List HProp} {v : Value} {xs : List Int} (hr : RdO w0 F v xs.length (icells xs)) (hl : xs.length ≤ 1000000) :
    FnO Try.prog w0 39 [v] F (fun u l' => l' = own 3 1 u (nz xs).length (icells (nz xs)) :: F) := by
  refine FnO.rd hr fun hr' => ?_
  obtain ⟨a, c, rfl⟩ := hr'.lit
  refine FnO.intro (n := 6) Try.func39 rfl rfl rfl ?_
  refine J.seq ?_
  refine J.region ?_
  refine JL.pure rfl rfl (OpP.assign rfl) ?_
  refine JL.nil ?_
  refine J.seq ?_
  refine J.region ?_
  refine JL.pure rfl rfl (OpP.move rfl) ?_
  refine JL.step rfl rfl (OpW.call (first := []) (captured := []) inferInstance rfl rfl (CloneI_ok hr hl)) ?_; rintro r4 _ rfl
  refine JL.lit .head fun ar4 cr4 er4 => ?_; subst er4
  refine JL.step rfl rfl (OpW.call (first := []) (captured := []) inferInstance rfl rfl (DeleteI_ok hl)) ?_; rintro r5 _ rfl
  refine JL.lit .head fun ar5 cr5 er5 => ?_; subst er5
  refine JL.pure rfl rfl (OpP.assign rfl) ?_
  refine JL.nil ?_
  refine J.ret1 rfl rfl ?_
  rfl
def onlyI (l : List Int) : Int := match nz l with
  | [] => 0
  | [x] => x
  | _ => 5
def firstI (l : List Int) : Int := (nz l).headD 0
theorem only_ok {w0 : World} {F : List HProp} {v : Value} {xs : List Int} (hr : RdO w0 F v xs.length (icells xs)) (hl : xs.length ≤ 1000000) :
    FnO Try.prog w0 40 [v] F (fun u l' => u = .int .i64 (onlyI xs) ∧ l' = F) := by
  refine FnO.rd hr fun hr' => ?_
  obtain ⟨a, c, rfl⟩ := hr'.lit
  refine FnO.weak ?_
  refine FnO.intro (n := 14) Try.func40 rfl rfl rfl ?_
  have hs := said_ok hr hl
  rcases hz : nz xs with _ | ⟨x, _ | ⟨y, l⟩⟩
  all_goals rw [hz] at hs
  · have hs : FnO Try.prog w0 39 [.slice a xs.length c] F (fun u l' => l' = own 3 1 u 0 [] :: F) := hs
    refine J.seq ?_
    refine J.region ?_
    refine JL.pure rfl rfl (OpP.assign rfl) ?_
    refine JL.nil ?_
    refine J.seq ?_
    refine J.seq ?_
    refine J.region ?_
    refine JL.pure rfl rfl (OpP.move rfl) ?_
    refine JL.step rfl rfl (OpW.call (first := []) (captured := []) inferInstance rfl rfl hs) ?_; rintro r4 _ rfl
    refine JL.lit .head fun ar4 cr4 er4 => ?_; subst er4
    refine JL.pure rfl rfl (OpP.assign rfl) ?_
    refine JL.nil ?_
    refine J.seq ?_
    refine J.region ?_
    refine JL.pure rfl rfl (OpP.move rfl) ?_
    refine JL.pure rfl rfl (OpP.len rfl rfl) ?_
    refine JL.nil ?_
    refine J.block ?_
    refine J.seq ?_
    refine J.region ?_
    refine JL.decT rfl rfl (OpP.eql rfl rfl) (by omega) ?_
    refine JL.pure rfl rfl (OpP.assign rfl) ?_
    refine JL.nil ?_
    refine J.condT rfl ?_
    refine J.seq ?_
    refine J.region ?_
    refine JL.pure rfl rfl (OpP.assign rfl) ?_
    refine JL.nil ?_
    refine J.ret1 rfl rfl ?_
    exact ⟨_, ⟨by simp [onlyI, hz], rfl⟩, fun _ h => h.tail⟩
  · have hs : FnO Try.prog w0 39 [.slice a xs.length c] F (fun u l' => l' = own 3 1 u 1 [.int .i64 x] :: F) := hs
    have hx : [Value.int .i64 x][0]? = some (.int .i64 x) := rfl
    refine J.seq ?_
    refine J.region ?_
    refine JL.pure rfl rfl (OpP.assign rfl) ?_
    refine JL.nil ?_
    refine J.seq ?_
    refine J.seq ?_
    refine J.region ?_
    refine JL.pure rfl rfl (OpP.move rfl) ?_
    refine JL.step rfl rfl (OpW.call (first := []) (captured := []) inferInstance rfl rfl hs) ?_; rintro r4 _ rfl
    refine JL.lit .head fun ar4 cr4 er4 => ?_; subst er4
    refine JL.pure rfl rfl (OpP.assign rfl) ?_
    refine JL.nil ?_
    refine J.seq ?_
    refine J.region ?_
    refine JL.pure rfl rfl (OpP.move rfl) ?_
    refine JL.pure rfl rfl (OpP.len rfl rfl) ?_
    refine JL.nil ?_
    refine J.block ?_
    refine J.seq ?_
    refine J.region ?_
    refine JL.decF rfl rfl (OpP.eql rfl rfl) (by omega) ?_
    refine JL.pure rfl rfl (OpP.assign rfl) ?_
    refine JL.nil ?_
    refine J.condF rfl ?_
    refine J.seq ?_
    refine J.region ?_
    refine JL.decT rfl rfl (OpP.eql rfl rfl) (by omega) ?_
    refine JL.pure rfl rfl (OpP.assign rfl) ?_
    refine JL.nil ?_
    refine J.condT rfl ?_
    refine J.seq ?_
    refine J.region ?_
    refine JL.pure rfl rfl (OpP.move rfl) ?_
    refine JL.ownSome .head (by omega) fun gar4 par4 ear4 kar4 => ?_; subst ear4
    refine JL.pure rfl rfl (OpP.indexAddr rfl rfl (by omega) (by omega)) ?_
    refine JL.read rfl rfl (OpR.load1 rfl (by apply Cells.cell (hv := hx) (Cells.own .head) (fun _ h => h); omega)) ?_
    refine JL.pure rfl rfl (OpP.assign rfl) ?_
    refine JL.nil ?_
    refine J.ret1 rfl rfl ?_
    exact ⟨_, ⟨by simp [onlyI, hz], rfl⟩, fun _ h => h.tail⟩
  · have hs : FnO Try.prog w0 39 [.slice a xs.length c] F (fun u l' => l' = own 3 1 u (l.length + 2) (icells (x :: y :: l)) :: F) := hs
    refine J.seq ?_
    refine J.region ?_
    refine JL.pure rfl rfl (OpP.assign rfl) ?_
    refine JL.nil ?_
    refine J.seq ?_
    refine J.seq ?_
    refine J.region ?_
    refine JL.pure rfl rfl (OpP.move rfl) ?_
    refine JL.step rfl rfl (OpW.call (first := []) (captured := []) inferInstance rfl rfl hs) ?_; rintro r4 _ rfl
    refine JL.lit .head fun ar4 cr4 er4 => ?_; subst er4
    refine JL.pure rfl rfl (OpP.assign rfl) ?_
    refine JL.nil ?_
    refine J.seq ?_
    refine J.region ?_
    refine JL.pure rfl rfl (OpP.move rfl) ?_
    refine JL.pure rfl rfl (OpP.len rfl rfl) ?_
    refine JL.nil ?_
    refine J.block ?_
    refine J.seq ?_
    refine J.region ?_
    refine JL.decF rfl rfl (OpP.eql rfl rfl) (by omega) ?_
    refine JL.pure rfl rfl (OpP.assign rfl) ?_
    refine JL.nil ?_
    refine J.condF rfl ?_
    refine J.seq ?_
    refine J.region ?_
    refine JL.decF rfl rfl (OpP.eql rfl rfl) (by omega) ?_
    refine JL.pure rfl rfl (OpP.assign rfl) ?_
    refine JL.nil ?_
    refine J.condF rfl ?_
    refine J.skip ?_
    refine J.inBlock ?_
    refine J.seq ?_
    refine J.region ?_
    refine JL.pure rfl rfl (OpP.assign rfl) ?_
    refine JL.nil ?_
    refine J.ret1 rfl rfl ?_
    exact ⟨_, ⟨by simp [onlyI, hz], rfl⟩, fun _ h => h.tail⟩

def seenL (l : List Int) : Sn := ⟨decide (0 ∈ l), decide (1 ∈ l), decide (2 ∈ l), decide (3 ∈ l), decide (4 ∈ l), decide (5 ∈ l)⟩
theorem seen_set {l : List Int} {a : Int} (h0 : 0 ≤ a) (h5 : a ≤ 5) : (scl (seenL l)).set (0 + a.toNat * 1) (.bool true) = scl (seenL (l ++ [a])) := by
  have : a = 0 ∨ a = 1 ∨ a = 2 ∨ a = 3 ∨ a = 4 ∨ a = 5 := by omega
  rcases this with rfl | rfl | rfl | rfl | rfl | rfl <;> simp [scl, seenL]
theorem seen_out {l : List Int} {a : Int} (h : a < 0 ∨ 5 < a) : seenL (l ++ [a]) = seenL l := by
  have h0 : ¬ 0 = a := by omega
  have h1 : ¬ 1 = a := by omega
  have h2 : ¬ 2 = a := by omega
  have h3 : ¬ 3 = a := by omega
  have h4 : ¬ 4 = a := by omega
  have h5 : ¬ 5 = a := by omega
  simp [seenL, h0, h1, h2, h3, h4, h5]
def wrongB (l : List Int) : Bool := l.any fun a => decide (a < 0) || decide (5 < a)
def uDO : ByteArray := ⟨#[100, 101, 110, 121, 95, 111, 118, 101, 114, 114, 105, 100, 101, 115]⟩
def uPO : ByteArray := ⟨#[112, 101, 114, 109, 105, 116, 95, 111, 118, 101, 114, 114, 105, 100, 101, 115]⟩
def uFI : ByteArray := ⟨#[102, 105, 114, 115, 116]⟩
def uOO : ByteArray := ⟨#[111, 110, 108, 121, 95, 111, 110, 101]⟩
def uDP : ByteArray := ⟨#[100, 101, 110, 121, 95, 117, 110, 108, 101, 115, 115, 95, 112, 101, 114, 109, 105, 116]⟩
def uPD : ByteArray := ⟨#[112, 101, 114, 109, 105, 116, 95, 117, 110, 108, 101, 115, 115, 95, 100, 101, 110, 121]⟩
def outI (u : ByteArray) (l : List Int) : Option Int :=
  if u = uDO then some (denies (seenL l)) else if u = uPO then some (turnI (denies (turnS (seenL l)))) else if u = uFI then some (firstI l) else if u = uOO then some (onlyI l)
  else if u = uDP then some (if decide (1 ∈ l) then 1 else 2) else if u = uPD then some (if decide (2 ∈ l) then 2 else 1) else none
def combI (u : ByteArray) (l : List Int) : Int × Int := match outI u l with
  | none => (0, 8)
  | some a => if wrongB l then (0, 1) else (a, 0)

theorem o1 {u : ByteArray} {l : List Int} (h : u = uDO) : outI u l = some (denies (seenL l)) := by subst h; exact if_pos rfl
theorem o2 {u : ByteArray} {l : List Int} (h : u = uPO) : outI u l = some (turnI (denies (turnS (seenL l)))) := by subst h; rw [outI, if_neg (by decide), if_pos rfl]
theorem o3 {u : ByteArray} {l : List Int} (h : u = uFI) : outI u l = some (firstI l) := by subst h; rw [outI, if_neg (by decide), if_neg (by decide), if_pos rfl]
theorem o4 {u : ByteArray} {l : List Int} (h : u = uOO) : outI u l = some (onlyI l) := by subst h; rw [outI, if_neg (by decide), if_neg (by decide), if_neg (by decide), if_pos rfl]
theorem o5 {u : ByteArray} {l : List Int} (h : u = uDP) : outI u l = some (if decide (1 ∈ l) then 1 else 2) := by subst h; rw [outI, if_neg (by decide), if_neg (by decide), if_neg (by decide), if_neg (by decide), if_pos rfl]
theorem o6 {u : ByteArray} {l : List Int} (h : u = uPD) : outI u l = some (if decide (2 ∈ l) then 2 else 1) := by subst h; rw [outI, if_neg (by decide), if_neg (by decide), if_neg (by decide), if_neg (by decide), if_neg (by decide), if_pos rfl]
theorem o0 {u : ByteArray} {l : List Int} (h1 : ¬ u = uDO) (h2 : ¬ u = uPO) (h3 : ¬ u = uFI) (h4 : ¬ u = uOO) (h5 : ¬ u = uDP) (h6 : ¬ u = uPD) : outI u l = none := by rw [outI, if_neg h1, if_neg h2, if_neg h3, if_neg h4, if_neg h5, if_neg h6]
theorem cT {u : ByteArray} {l : List Int} {a : Int} (h : outI u l = some a) (hw : wrongB l = true) : combI u l = (0, 1) := by rw [combI, h]; exact if_pos hw
theorem cF {u : ByteArray} {l : List Int} {a : Int} (h : outI u l = some a) (hw : wrongB l = false) : combI u l = (a, 0) := by rw [combI, h]; exact if_neg (by rw [hw]; decide)
theorem c0 {u : ByteArray} {l : List Int} (h : outI u l = none) : combI u l = (0, 8) := by rw [combI, h]

theorem Combine_ok {w0 : World} {F : List HProp} {u : ByteArray} {v : Value} {xs : List Int} (hr : RdO w0 F v xs.length (icells xs)) (hl : xs.length ≤ 1000) :
    FnO Try.prog w0 16 [.string u, v] F (fun r l' => r = .tuple #[.int .i64 (combI u xs).1, .int .i64 (combI u xs).2] ∧ l' = F) := by
  refine FnO.rd hr fun hr' => ?_
  obtain ⟨a, c, rfl⟩ := hr'.lit
  refine FnO.weak ?_
  refine FnO.intro (n := 59) Try.func16 rfl rfl rfl ?_
  refine J.seq ?_
  refine J.region ?_
  refine JL.pure rfl rfl (OpP.assign rfl) ?_
  refine JL.pure rfl rfl (OpP.assign rfl) ?_
  refine JL.nil ?_
  refine J.seq ?_
  refine J.region ?_
  refine JL.mem rfl rfl OpM.alloc ?_; rintro _ _ ⟨b6, rfl, rfl⟩
  refine JL.nil ?_
  refine J.seq ?_
  refine J.region ?_
  refine JL.pure rfl rfl (OpP.assign rfl) ?_
  refine JL.nil ?_
  refine J.seq ?_
  refine J.seq ?_
  refine J.region ?_
  refine JL.pure rfl rfl (OpP.move rfl) ?_
  refine JL.pure rfl rfl (OpP.len rfl rfl) ?_
  refine JL.pure rfl rfl (OpP.move rfl) ?_
  refine JL.nil ?_
  refine J.block ?_
  refine J.loopI (fun i : Nat => xs.length - i) (fun i => i ≤ xs.length) (fun i => [(13, .int .i64 (i : Nat)), (12, .int .i64 xs.length), (11, .slice a xs.length c), (7, .bool (wrongB (xs.take i))), (6, .pointer (some ⟨b6, 0, none⟩)), (0, .string u), (1, .slice a xs.length c)])
    (fun i => row b6 71 (scl (seenL (xs.take i))) :: F) 0 (Nat.zero_le _) (by repeat (first | exact SubEnv.nil | refine SubEnv.cons (by first | rfl | exact congrArg (fun z => some (Value.int .i64 z)) (by omega) | (simp; done)) ?_)) (fun _ h => h) (fun i hi back => ?_)
  by_cases hlt : i < xs.length
  · obtain ⟨x, hx⟩ : ∃ x, xs[i]? = some x := ⟨_, List.getElem?_eq_getElem hlt⟩
    have hx' := icells_get hx
    have hsl : (scl (seenL (xs.take i))).length = 6 := rfl
    have ht : xs.take (i + 1) = xs.take i ++ [x] := by rw [List.take_add_one, hx]; rfl
    have hw : wrongB (xs.take (i + 1)) = (wrongB (xs.take i) || (decide (x < 0) || decide (5 < x))) := by rw [ht]; simp [wrongB]
    refine J.seq ?_
    refine J.region ?_
    refine JL.decT rfl rfl (OpP.lss rfl rfl) (by omega) ?_
    refine JL.nil ?_
    refine J.seq ?_
    refine J.condT rfl ?_
    refine J.skip ?_
    refine J.seq ?_
    refine J.block ?_
    refine J.seq ?_
    refine J.region ?_
    obtain ⟨ga, pa, qa, ea, ka, ca⟩ := hr'.pos (by omega); cases ea
    refine JL.pure rfl rfl (OpP.indexAddr rfl rfl (by omega) (by omega)) ?_
    refine JL.read rfl rfl (OpR.load1 rfl (by apply Cells.cell ca (fun _ h => Own.pick (pre := [_]) [] rfl h); (case' hv => assumption); (case' ho => omega); done)) ?_
    refine JL.pure rfl rfl (OpP.assign rfl) ?_
    refine JL.nil ?_
    refine J.seq ?_
    refine J.seq ?_
    refine J.region ?_
    refine JL.pure rfl rfl (OpP.move rfl) ?_
    refine JL.dec rfl rfl (OpP.lss rfl rfl) (fun h18 => ?_) (fun h18 => ?_)
    focus
      refine JL.pure rfl rfl (OpP.move rfl) ?_
      refine JL.skip rfl rfl ?_
      refine JL.skip rfl rfl ?_
      refine JL.pure rfl rfl (OpP.pickT rfl rfl) ?_
      refine JL.nil ?_
      refine J.condT rfl ?_
      refine J.seq ?_
      refine J.region ?_
      refine JL.pure rfl rfl (OpP.assign rfl) ?_
      refine JL.nil ?_
      refine J.exit rfl ?_
      refine J.region ?_
      refine JL.pure rfl rfl (OpP.addI rfl rfl (by omega) (by omega)) ?_
      refine JL.pure rfl rfl (OpP.move rfl) ?_
      refine JL.nil ?_
    rotate_left 1
    focus
      refine JL.pure rfl rfl (OpP.move rfl) ?_
      refine JL.pure rfl rfl (OpP.move rfl) ?_
      refine JL.dec rfl rfl (OpP.gtr rfl rfl) (fun h21 => ?_) (fun h21 => ?_)
      focus
        refine JL.pure rfl rfl (OpP.pickF rfl rfl) ?_
        refine JL.nil ?_
        refine J.condT rfl ?_
        refine J.seq ?_
        refine J.region ?_
        refine JL.pure rfl rfl (OpP.assign rfl) ?_
        refine JL.nil ?_
        refine J.exit rfl ?_
        refine J.region ?_
        refine JL.pure rfl rfl (OpP.addI rfl rfl (by omega) (by omega)) ?_
        refine JL.pure rfl rfl (OpP.move rfl) ?_
        refine JL.nil ?_
      rotate_left 1
      focus
        refine JL.pure rfl rfl (OpP.pickF rfl rfl) ?_
        refine JL.nil ?_
        refine J.condF rfl ?_
        refine J.skip ?_
        refine J.region ?_
        refine JL.pure rfl rfl (OpP.move rfl) ?_
        refine JL.pure rfl rfl (OpP.indexAddrA rfl rfl (by omega) (by omega)) ?_
        refine JL.mem0 rfl (by apply OpM.store1 rfl rfl rfl; (case' hu => exact .head); (case' hs => exact spl_at rfl (by first | assumption | omega)); done) ?_; rintro _ _ ⟨rfl, rfl⟩
        refine JL.nil ?_
        refine J.inBlock ?_
        refine J.region ?_
        refine JL.pure rfl rfl (OpP.addI rfl rfl (by omega) (by omega)) ?_
        refine JL.pure rfl rfl (OpP.move rfl) ?_
        refine JL.nil ?_
      rotate_left 1
    rotate_left 2
    · have e1 : wrongB (xs.take (i + 1)) = true := by rw [hw]; simp [h18]
      refine back (i + 1) (by omega) (by omega) (by rw [e1]; exact (by repeat (first | exact SubEnv.nil | refine SubEnv.cons (by first | rfl | exact congrArg (fun z => some (Value.int .i64 z)) (by omega) | (simp; done)) ?_))) (fun w h => by dsimp only; rw [ht, seen_out (.inl h18)]; exact h)
    · have e1 : wrongB (xs.take (i + 1)) = true := by rw [hw]; simp [h21]
      refine back (i + 1) (by omega) (by omega) (by rw [e1]; exact (by repeat (first | exact SubEnv.nil | refine SubEnv.cons (by first | rfl | exact congrArg (fun z => some (Value.int .i64 z)) (by omega) | (simp; done)) ?_))) (fun w h => by dsimp only; rw [ht, seen_out (.inr h21)]; exact h)
    · have e1 : wrongB (xs.take (i + 1)) = wrongB (xs.take i) := by rw [hw]; simp [h18, h21]
      refine back (i + 1) (by omega) (by omega) (by rw [e1]; exact (by repeat (first | exact SubEnv.nil | refine SubEnv.cons (by first | rfl | exact congrArg (fun z => some (Value.int .i64 z)) (by omega) | (simp; done)) ?_))) (fun w h => by dsimp only; rw [ht, ← seen_set (by omega) (by omega)]; exact h)
  · have hil : i = xs.length := by omega
    subst hil
    rw [List.take_length]
    have hc1 : (scl (seenL xs))[(1 : Int).toNat]? = some (.bool (decide (1 ∈ xs))) := rfl
    have hc2 : (scl (seenL xs))[(2 : Int).toNat]? = some (.bool (decide (2 ∈ xs))) := rfl
    have hrr : RdO w0 (row b6 71 (scl (seenL xs)) :: F) (.slice a xs.length c) xs.length (icells xs) := hr.sub
    have hnz := nz_length xs
    have hx0 : (icells (nz xs) ++ [Value.int .i64 0])[0]? = some (.int .i64 (firstI xs)) := by
      cases h : nz xs <;> simp [firstI, h, icells]
    refine J.seq ?_
    refine J.region ?_
    refine JL.decF rfl rfl (OpP.lss rfl rfl) (by omega) ?_
    refine JL.nil ?_
    refine J.seq ?_
    refine J.condF rfl ?_
    refine J.exit rfl ?_
    refine J.seq ?_
    refine J.region ?_
    refine JL.pure rfl rfl (OpP.assign rfl) ?_
    refine JL.nil ?_
    refine J.seq ?_
    refine J.seq ?_
    refine J.region ?_
    refine JL.pure rfl rfl (OpP.move rfl) ?_
    refine JL.nil ?_
    refine J.block ?_
    refine J.seq ?_
    refine J.region ?_
    refine JL.dec rfl rfl (OpP.eqStr rfl rfl) (fun h28 => ?_) (fun h28 => ?_)
    focus
      refine JL.pure rfl rfl (OpP.assign rfl) ?_
      refine JL.nil ?_
      refine J.condT rfl ?_
      refine J.region ?_
      refine JL.read rfl rfl (OpR.loadN rfl (Cells.full .head) rfl) ?_
      refine JL.step rfl rfl (OpW.call (first := []) (captured := []) inferInstance rfl rfl (denies_ok (s := seenL xs))) ?_; rintro r30 _ ⟨rfl, rfl⟩
      refine JL.pure rfl rfl (OpP.assign rfl) ?_
      refine JL.nil ?_
      refine J.inBlock ?_
      refine J.seq ?_
      refine J.seq ?_
      refine J.region ?_
      refine JL.pure rfl rfl (OpP.move rfl) ?_
      refine JL.nil ?_
      refine J.splitAt 57 rfl (fun h57 => ?_) (fun h57 => ?_)
      focus
        refine J.condT rfl ?_
        refine J.seq ?_
        refine J.region ?_
        refine JL.pure rfl rfl (OpP.assign rfl) ?_
        refine JL.pure rfl rfl (OpP.assign rfl) ?_
        refine JL.nil ?_
        refine J.ret2 rfl rfl rfl ?_
      rotate_left 1
      focus
        refine J.condF rfl ?_
        refine J.skip ?_
        refine J.seq ?_
        refine J.region ?_
        refine JL.pure rfl rfl (OpP.move rfl) ?_
        refine JL.pure rfl rfl (OpP.assign rfl) ?_
        refine JL.pure rfl rfl (OpP.assign rfl) ?_
        refine JL.nil ?_
        refine J.ret2 rfl rfl rfl ?_
      rotate_left 1
    rotate_left 2
    focus
      refine JL.pure rfl rfl (OpP.assign rfl) ?_
      refine JL.nil ?_
      refine J.condF rfl ?_
      refine J.seq ?_
      refine J.region ?_
      refine JL.dec rfl rfl (OpP.eqStr rfl rfl) (fun h32 => ?_) (fun h32 => ?_)
      focus
        refine JL.pure rfl rfl (OpP.assign rfl) ?_
        refine JL.nil ?_
        refine J.condT rfl ?_
        refine J.region ?_
        refine JL.read rfl rfl (OpR.loadN rfl (Cells.full .head) rfl) ?_
        refine JL.step rfl rfl (OpW.call (first := []) (captured := []) inferInstance rfl rfl (turnS_ok (s := seenL xs))) ?_; rintro r34 _ ⟨rfl, rfl⟩
        refine JL.step rfl rfl (OpW.call (first := []) (captured := []) inferInstance rfl rfl (denies_ok (s := turnS (seenL xs)))) ?_; rintro r35 _ ⟨rfl, rfl⟩
        refine JL.step rfl rfl (OpW.call (first := []) (captured := []) inferInstance rfl rfl Turned_ok) ?_; rintro r36 _ ⟨rfl, rfl⟩
        refine JL.pure rfl rfl (OpP.assign rfl) ?_
        refine JL.nil ?_
        refine J.inBlock ?_
        refine J.seq ?_
        refine J.seq ?_
        refine J.region ?_
        refine JL.pure rfl rfl (OpP.move rfl) ?_
        refine JL.nil ?_
        refine J.splitAt 57 rfl (fun h57 => ?_) (fun h57 => ?_)
        focus
          refine J.condT rfl ?_
          refine J.seq ?_
          refine J.region ?_
          refine JL.pure rfl rfl (OpP.assign rfl) ?_
          refine JL.pure rfl rfl (OpP.assign rfl) ?_
          refine JL.nil ?_
          refine J.ret2 rfl rfl rfl ?_
        rotate_left 1
        focus
          refine J.condF rfl ?_
          refine J.skip ?_
          refine J.seq ?_
          refine J.region ?_
          refine JL.pure rfl rfl (OpP.move rfl) ?_
          refine JL.pure rfl rfl (OpP.assign rfl) ?_
          refine JL.pure rfl rfl (OpP.assign rfl) ?_
          refine JL.nil ?_
          refine J.ret2 rfl rfl rfl ?_
        rotate_left 1
      rotate_left 2
      focus
        refine JL.pure rfl rfl (OpP.assign rfl) ?_
        refine JL.nil ?_
        refine J.condF rfl ?_
        refine J.seq ?_
        refine J.region ?_
        refine JL.dec rfl rfl (OpP.eqStr rfl rfl) (fun h38 => ?_) (fun h38 => ?_)
        focus
          refine JL.pure rfl rfl (OpP.assign rfl) ?_
          refine JL.nil ?_
          refine J.condT rfl ?_
          refine J.region ?_
          refine JL.pure rfl rfl (OpP.move rfl) ?_
          refine JL.step rfl rfl (OpW.call (first := []) (captured := []) inferInstance rfl rfl (said_ok hrr (by omega))) ?_; rintro r40 _ rfl
          refine JL.lit .head fun ar40 cr40 er40 => ?_; subst er40
          refine JL.mem rfl rfl (by apply OpM.buildSlice (by rfl) rfl (by rfl); (repeat (first | exact Fills.nil | (apply Fills.cons rfl rfl rfl; (case' hs => ((repeat (first | exact Spl.nil | apply Spl.here | apply Spl.there)); done)))))) ?_; rintro _ _ ⟨b41, rfl, rfl⟩
          refine JL.f1 ?_; refine JL.mem rfl rfl (OpM.appendH rfl (.inl ⟨_, Sl.und inferInstance⟩) (by rfl) rfl rfl (RdO.src (RdO.ofRow (.tail .head) (by first | decide | omega)) (by first | (simp; done) | (simp; omega))) (one1 rfl) (by simp only [maxLen]; omega) (by omega)) ?_; rintro _ _ ⟨⟨a42, c42, rfl⟩, rfl⟩
          refine JL.ownSome .head (by omega) fun ga42 pa42 ea42 ka42 => ?_; subst ea42
          refine JL.pure rfl rfl (OpP.indexAddr rfl rfl (by omega) (by omega)) ?_
          refine JL.read rfl rfl (OpR.load1 rfl (by apply Cells.cell (hv := hx0) (Cells.own .head) (fun _ h => h); omega)) ?_
          refine JL.pure rfl rfl (OpP.assign rfl) ?_
          refine JL.nil ?_
          refine J.inBlock ?_
          refine J.seq ?_
          refine J.seq ?_
          refine J.region ?_
          refine JL.pure rfl rfl (OpP.move rfl) ?_
          refine JL.nil ?_
          refine J.splitAt 57 rfl (fun h57 => ?_) (fun h57 => ?_)
          focus
            refine J.condT rfl ?_
            refine J.seq ?_
            refine J.region ?_
            refine JL.pure rfl rfl (OpP.assign rfl) ?_
            refine JL.pure rfl rfl (OpP.assign rfl) ?_
            refine JL.nil ?_
            refine J.ret2 rfl rfl rfl ?_
          rotate_left 1
          focus
            refine J.condF rfl ?_
            refine J.skip ?_
            refine J.seq ?_
            refine J.region ?_
            refine JL.pure rfl rfl (OpP.move rfl) ?_
            refine JL.pure rfl rfl (OpP.assign rfl) ?_
            refine JL.pure rfl rfl (OpP.assign rfl) ?_
            refine JL.nil ?_
            refine J.ret2 rfl rfl rfl ?_
          rotate_left 1
        rotate_left 2
        focus
          refine JL.pure rfl rfl (OpP.assign rfl) ?_
          refine JL.nil ?_
          refine J.condF rfl ?_
          refine J.seq ?_
          refine J.region ?_
          refine JL.dec rfl rfl (OpP.eqStr rfl rfl) (fun h46 => ?_) (fun h46 => ?_)
          focus
            refine JL.pure rfl rfl (OpP.assign rfl) ?_
            refine JL.nil ?_
            refine J.condT rfl ?_
            refine J.region ?_
            refine JL.pure rfl rfl (OpP.move rfl) ?_
            refine JL.step rfl rfl (OpW.call (first := []) (captured := []) inferInstance rfl rfl (only_ok hrr (by omega))) ?_; rintro r48 _ ⟨rfl, rfl⟩
            refine JL.pure rfl rfl (OpP.assign rfl) ?_
            refine JL.nil ?_
            refine J.inBlock ?_
            refine J.seq ?_
            refine J.seq ?_
            refine J.region ?_
            refine JL.pure rfl rfl (OpP.move rfl) ?_
            refine JL.nil ?_
            refine J.splitAt 57 rfl (fun h57 => ?_) (fun h57 => ?_)
            focus
              refine J.condT rfl ?_
              refine J.seq ?_
              refine J.region ?_
              refine JL.pure rfl rfl (OpP.assign rfl) ?_
              refine JL.pure rfl rfl (OpP.assign rfl) ?_
              refine JL.nil ?_
              refine J.ret2 rfl rfl rfl ?_
            rotate_left 1
            focus
              refine J.condF rfl ?_
              refine J.skip ?_
              refine J.seq ?_
              refine J.region ?_
              refine JL.pure rfl rfl (OpP.move rfl) ?_
              refine JL.pure rfl rfl (OpP.assign rfl) ?_
              refine JL.pure rfl rfl (OpP.assign rfl) ?_
              refine JL.nil ?_
              refine J.ret2 rfl rfl rfl ?_
            rotate_left 1
          rotate_left 2
          focus
            refine JL.pure rfl rfl (OpP.assign rfl) ?_
            refine JL.nil ?_
            refine J.condF rfl ?_
            refine J.seq ?_
            refine J.region ?_
            refine JL.dec rfl rfl (OpP.eqStr rfl rfl) (fun h50 => ?_) (fun h50 => ?_)
            focus
              refine JL.pure rfl rfl (OpP.assign rfl) ?_
              refine JL.nil ?_
              refine J.condT rfl ?_
              refine J.region ?_
              refine JL.read rfl rfl (OpR.loadN rfl (Cells.full .head) rfl) ?_
              refine JL.step rfl rfl (OpW.call (first := []) (captured := []) inferInstance rfl rfl (unless_ok (a := 1) (by decide) (by decide) hc1)) ?_; rintro r52 _ ⟨rfl, rfl⟩
              refine JL.pure rfl rfl (OpP.assign rfl) ?_
              refine JL.nil ?_
              refine J.inBlock ?_
              refine J.seq ?_
              refine J.seq ?_
              refine J.region ?_
              refine JL.pure rfl rfl (OpP.move rfl) ?_
              refine JL.nil ?_
              refine J.splitAt 57 rfl (fun h57 => ?_) (fun h57 => ?_)
              focus
                refine J.condT rfl ?_
                refine J.seq ?_
                refine J.region ?_
                refine JL.pure rfl rfl (OpP.assign rfl) ?_
                refine JL.pure rfl rfl (OpP.assign rfl) ?_
                refine JL.nil ?_
                refine J.ret2 rfl rfl rfl ?_
              rotate_left 1
              focus
                refine J.condF rfl ?_
                refine J.skip ?_
                refine J.seq ?_
                refine J.region ?_
                refine JL.pure rfl rfl (OpP.move rfl) ?_
                refine JL.pure rfl rfl (OpP.assign rfl) ?_
                refine JL.pure rfl rfl (OpP.assign rfl) ?_
                refine JL.nil ?_
                refine J.ret2 rfl rfl rfl ?_
              rotate_left 1
            rotate_left 2
            focus
              refine JL.pure rfl rfl (OpP.assign rfl) ?_
              refine JL.nil ?_
              refine J.condF rfl ?_
              refine J.seq ?_
              refine J.region ?_
              refine JL.dec rfl rfl (OpP.eqStr rfl rfl) (fun h54 => ?_) (fun h54 => ?_)
              focus
                refine JL.pure rfl rfl (OpP.assign rfl) ?_
                refine JL.nil ?_
                refine J.condT rfl ?_
                refine J.region ?_
                refine JL.read rfl rfl (OpR.loadN rfl (Cells.full .head) rfl) ?_
                refine JL.step rfl rfl (OpW.call (first := []) (captured := []) inferInstance rfl rfl (unless_ok (a := 2) (by decide) (by decide) hc2)) ?_; rintro r56 _ ⟨rfl, rfl⟩
                refine JL.pure rfl rfl (OpP.assign rfl) ?_
                refine JL.nil ?_
                refine J.inBlock ?_
                refine J.seq ?_
                refine J.seq ?_
                refine J.region ?_
                refine JL.pure rfl rfl (OpP.move rfl) ?_
                refine JL.nil ?_
                refine J.splitAt 57 rfl (fun h57 => ?_) (fun h57 => ?_)
                focus
                  refine J.condT rfl ?_
                  refine J.seq ?_
                  refine J.region ?_
                  refine JL.pure rfl rfl (OpP.assign rfl) ?_
                  refine JL.pure rfl rfl (OpP.assign rfl) ?_
                  refine JL.nil ?_
                  refine J.ret2 rfl rfl rfl ?_
                rotate_left 1
                focus
                  refine J.condF rfl ?_
                  refine J.skip ?_
                  refine J.seq ?_
                  refine J.region ?_
                  refine JL.pure rfl rfl (OpP.move rfl) ?_
                  refine JL.pure rfl rfl (OpP.assign rfl) ?_
                  refine JL.pure rfl rfl (OpP.assign rfl) ?_
                  refine JL.nil ?_
                  refine J.ret2 rfl rfl rfl ?_
                rotate_left 1
              rotate_left 2
              focus
                refine JL.pure rfl rfl (OpP.assign rfl) ?_
                refine JL.nil ?_
                refine J.condF rfl ?_
                refine J.seq ?_
                refine J.region ?_
                refine JL.pure rfl rfl (OpP.assign rfl) ?_
                refine JL.pure rfl rfl (OpP.assign rfl) ?_
                refine JL.nil ?_
                refine J.ret2 rfl rfl rfl ?_
              rotate_left 1
            rotate_left 3
          rotate_left 5
        rotate_left 7
      rotate_left 9
    rotate_left 11
    all_goals refine ⟨_, ⟨?_, rfl⟩, fun _ h => by first | exact h.tail | exact h.tail.tail.tail⟩
    all_goals first
      | rw [cT (o1 (by assumption)) (by assumption)]
      | rw [cT (o2 (by assumption)) (by assumption)]
      | rw [cT (o3 (by assumption)) (by assumption)]
      | rw [cT (o4 (by assumption)) (by assumption)]
      | rw [cT (o5 (by assumption)) (by assumption)]
      | rw [cT (o6 (by assumption)) (by assumption)]
      | rw [cF (o1 (by assumption)) (by assumption)]
      | rw [cF (o2 (by assumption)) (by assumption)]
      | rw [cF (o3 (by assumption)) (by assumption)]
      | rw [cF (o4 (by assumption)) (by assumption)]
      | rw [cF (o5 (by assumption)) (by assumption)]
      | rw [cF (o6 (by assumption)) (by assumption)]
      | rw [c0 (o0 (by assumption) (by assumption) (by assumption) (by assumption) (by assumption) (by assumption))]
end Go.Proofs.C
