/- A text of the proof of a statement about the given program: its part ACache7. No person has read it. -/
import Derived.Test.YtmfdjjbmckdmfaaACache6
import Derived.Test.YtmfdjjbmckdmfaaJ17
-- seat a
namespace Go.Proofs.A
open Go Go.Gp Go.RowKit

def sSub : Str := ⟨#[115, 117, 98, 106, 101, 99, 116]⟩
def sRes : Str := ⟨#[114, 101, 115, 111, 117, 114, 99, 101]⟩
def tp (who name : Str) (e : Ent) : Bool := decide (who = sSub) && decide (e.sub = name) || decide (who = sRes) && decide (e.res = name)

theorem touch1_ok {w0 : World} {k1 k2 : Nat} {who name : Str} : Asks w0 55 [.pointer (some ⟨k1, 0, none⟩), .pointer (some ⟨k2, 0, none⟩)] [row k1 9 [.string who], row k2 9 [.string name]] (tp who name) := by
  intro e l hk
  have hc : Cell w0 l ⟨k1, 0, none⟩ (.string who) := fun w ho => Cell.row (w0 := w0) (l := [row k1 9 [.string who], row k2 9 [.string name]]) .head rfl w (hk w ho)
  have hd : Cell w0 l ⟨k2, 0, none⟩ (.string name) := fun w ho => Cell.row (w0 := w0) (l := [row k1 9 [.string who], row k2 9 [.string name]]) (.tail .head) rfl w (hk w ho)
  refine FnO.weak ?_
  refine FnO.intro (n := 23) Try.func55 rfl rfl rfl ?_
  refine J.seq ?_
  refine J.region ?_
  refine JL.mem rfl rfl (OpM.box rfl rfl) ?_; rintro _ _ ⟨b3, rfl, rfl⟩
  refine JL.pure rfl rfl (OpP.assign rfl) ?_
  refine JL.nil ?_
  refine J.seq ?_
  refine J.region ?_
  refine JL.read rfl rfl (OpR.load1 rfl (hc.conv (fun _ h => Own.pick (pre := [_]) [] rfl h))) ?_
  refine JL.dec rfl rfl (OpP.eqStr rfl rfl) (fun h6 => ?_) (fun h6 => ?_)
  focus
    refine JL.pure rfl rfl (OpP.move rfl) ?_
    refine JL.pure rfl rfl (OpP.fieldAddr rfl) ?_
    refine JL.read rfl rfl (OpR.load1 rfl (Cell.row .head rfl)) ?_
    refine JL.read rfl rfl (OpR.load1 rfl (hd.conv (fun _ h => Own.pick (pre := [_]) [] rfl h))) ?_
    refine JL.dec rfl rfl (OpP.eqStr rfl rfl) (fun h11 => ?_) (fun h11 => ?_)
    focus
      refine JL.pure rfl rfl (OpP.pickT rfl rfl) ?_
      refine JL.pure rfl rfl (OpP.move rfl) ?_
      refine JL.skip rfl rfl ?_
      refine JL.skip rfl rfl ?_
      refine JL.skip rfl rfl ?_
      refine JL.skip rfl rfl ?_
      refine JL.skip rfl rfl ?_
      refine JL.skip rfl rfl ?_
      refine JL.skip rfl rfl ?_
      refine JL.skip rfl rfl ?_
      refine JL.pure rfl rfl (OpP.pickT rfl rfl) ?_
      refine JL.pure rfl rfl (OpP.assign rfl) ?_
      refine JL.nil ?_
      refine J.ret1 rfl rfl ?_
    rotate_left 1
    focus
      refine JL.pure rfl rfl (OpP.pickT rfl rfl) ?_
      refine JL.pure rfl rfl (OpP.move rfl) ?_
      refine JL.read rfl rfl (OpR.load1 rfl (hc.conv (fun _ h => Own.pick (pre := [_]) [] rfl h))) ?_
      refine JL.dec rfl rfl (OpP.eqStr rfl rfl) (fun h15 => ?_) (fun h15 => ?_)
      focus
        refine JL.pure rfl rfl (OpP.move rfl) ?_
        refine JL.pure rfl rfl (OpP.fieldAddr rfl) ?_
        refine JL.read rfl rfl (OpR.load1 rfl (Cell.row .head rfl)) ?_
        refine JL.read rfl rfl (OpR.load1 rfl (hd.conv (fun _ h => Own.pick (pre := [_]) [] rfl h))) ?_
        refine JL.dec rfl rfl (OpP.eqStr rfl rfl) (fun h20 => ?_) (fun h20 => ?_)
        focus
          refine JL.pure rfl rfl (OpP.pickT rfl rfl) ?_
          refine JL.pure rfl rfl (OpP.pickF rfl rfl) ?_
          refine JL.pure rfl rfl (OpP.assign rfl) ?_
          refine JL.nil ?_
          refine J.ret1 rfl rfl ?_
        rotate_left 1
        focus
          refine JL.pure rfl rfl (OpP.pickT rfl rfl) ?_
          refine JL.pure rfl rfl (OpP.pickF rfl rfl) ?_
          refine JL.pure rfl rfl (OpP.assign rfl) ?_
          refine JL.nil ?_
          refine J.ret1 rfl rfl ?_
        rotate_left 1
      rotate_left 2
      focus
        refine JL.pure rfl rfl (OpP.move rfl) ?_
        refine JL.skip rfl rfl ?_
        refine JL.skip rfl rfl ?_
        refine JL.skip rfl rfl ?_
        refine JL.skip rfl rfl ?_
        refine JL.pure rfl rfl (OpP.pickF rfl rfl) ?_
        refine JL.pure rfl rfl (OpP.pickF rfl rfl) ?_
        refine JL.pure rfl rfl (OpP.assign rfl) ?_
        refine JL.nil ?_
        refine J.ret1 rfl rfl ?_
      rotate_left 1
    rotate_left 3
  rotate_left 4
  focus
    refine JL.pure rfl rfl (OpP.move rfl) ?_
    refine JL.skip rfl rfl ?_
    refine JL.skip rfl rfl ?_
    refine JL.skip rfl rfl ?_
    refine JL.skip rfl rfl ?_
    refine JL.pure rfl rfl (OpP.pickF rfl rfl) ?_
    refine JL.pure rfl rfl (OpP.move rfl) ?_
    refine JL.read rfl rfl (OpR.load1 rfl (hc.conv (fun _ h => Own.pick (pre := [_]) [] rfl h))) ?_
    refine JL.dec rfl rfl (OpP.eqStr rfl rfl) (fun h15 => ?_) (fun h15 => ?_)
    focus
      refine JL.pure rfl rfl (OpP.move rfl) ?_
      refine JL.pure rfl rfl (OpP.fieldAddr rfl) ?_
      refine JL.read rfl rfl (OpR.load1 rfl (Cell.row .head rfl)) ?_
      refine JL.read rfl rfl (OpR.load1 rfl (hd.conv (fun _ h => Own.pick (pre := [_]) [] rfl h))) ?_
      refine JL.dec rfl rfl (OpP.eqStr rfl rfl) (fun h20 => ?_) (fun h20 => ?_)
      focus
        refine JL.pure rfl rfl (OpP.pickT rfl rfl) ?_
        refine JL.pure rfl rfl (OpP.pickF rfl rfl) ?_
        refine JL.pure rfl rfl (OpP.assign rfl) ?_
        refine JL.nil ?_
        refine J.ret1 rfl rfl ?_
      rotate_left 1
      focus
        refine JL.pure rfl rfl (OpP.pickT rfl rfl) ?_
        refine JL.pure rfl rfl (OpP.pickF rfl rfl) ?_
        refine JL.pure rfl rfl (OpP.assign rfl) ?_
        refine JL.nil ?_
        refine J.ret1 rfl rfl ?_
      rotate_left 1
    rotate_left 2
    focus
      refine JL.pure rfl rfl (OpP.move rfl) ?_
      refine JL.skip rfl rfl ?_
      refine JL.skip rfl rfl ?_
      refine JL.skip rfl rfl ?_
      refine JL.skip rfl rfl ?_
      refine JL.pure rfl rfl (OpP.pickF rfl rfl) ?_
      refine JL.pure rfl rfl (OpP.pickF rfl rfl) ?_
      refine JL.pure rfl rfl (OpP.assign rfl) ?_
      refine JL.nil ?_
      refine J.ret1 rfl rfl ?_
    rotate_left 1
  rotate_left 3
  all_goals exact ⟨l, ⟨by simp_all [tp, sSub, sRes], rfl⟩, fun _ h => h.tail⟩

theorem Clear_ok {w0 : World} {g cap : Nat} {es : List Ent} {F : List HProp} :
    FnO Try.prog w0 48 [.pointer (some ⟨g, 0, none⟩)] (cacheR g ⟨cap, es⟩ :: F) (fun v l' => v = .tuple #[] ∧ l' = cacheR g ⟨cap, []⟩ :: F) := by
  refine FnO.weak ?_
  refine FnO.intro (n := 5) Try.func48 rfl rfl rfl ?_
  refine J.cacheO fun wa wc hok hcap hlen => ?_
  refine J.region ?_
  refine JL.pure rfl rfl (OpP.move rfl) ?_
  refine JL.pure rfl rfl (OpP.nilCheck rfl) ?_
  refine JL.pure rfl rfl (OpP.fieldAddr rfl) ?_
  refine JL.mem0 rfl (by apply OpM.store1 rfl rfl rfl; (case' hu => exact .head); (case' hs => exact (.there (.here .nil))); done) ?_; rintro _ _ ⟨rfl, rfl⟩
  refine JL.nil ?_
  refine J.fin0 rfl ?_
  refine ⟨_, ⟨rfl, rfl⟩, fun w h => cache_in (v := .slice none 0 0) ⟨hcap, Nat.zero_le _, by simp, by simp⟩ ?_⟩
  have h := texts_sub (List.nil_sublist es) (Own.pick (pre := [_, _, _]) [2, 0] rfl h)
  exact Own.pick (pre := [_, _, _]) [2, 0, 1] rfl (Own.own_nil (e := 98) (sz := 6) h)

theorem Len_ok {w0 : World} {g cap : Nat} {es : List Ent} {F : List HProp} :
    FnO Try.prog w0 35 [.pointer (some ⟨g, 0, none⟩)] (cacheR g ⟨cap, es⟩ :: F) (fun v l' => v = .int .i64 es.length ∧ l' = cacheR g ⟨cap, es⟩ :: F) := by
  refine FnO.weak ?_
  refine FnO.intro (n := 8) Try.func35 rfl rfl rfl ?_
  refine J.cacheO fun wa wc hok hcap hlen => ?_
  refine J.seq ?_
  refine J.region ?_
  refine JL.pure rfl rfl (OpP.assign rfl) ?_
  refine JL.nil ?_
  refine J.seq ?_
  refine J.region ?_
  refine JL.pure rfl rfl (OpP.move rfl) ?_
  refine JL.pure rfl rfl (OpP.nilCheck rfl) ?_
  refine JL.pure rfl rfl (OpP.fieldAddr rfl) ?_
  refine JL.read rfl rfl (OpR.load1 rfl (Cell.row .head rfl)) ?_
  refine JL.pure rfl rfl (OpP.len rfl rfl) ?_
  refine JL.pure rfl rfl (OpP.assign rfl) ?_
  refine JL.nil ?_
  refine J.ret1 rfl rfl ?_
  exact ⟨_, ⟨rfl, rfl⟩, fun _ h => cache_in hok h⟩

theorem Touch_ok {w0 : World} {g cap : Nat} {who name : Str} {es : List Ent} {F : List HProp} :
    FnO Try.prog w0 47 [.pointer (some ⟨g, 0, none⟩), .string who, .string name] (cacheR g ⟨cap, es⟩ :: F) (fun v l' => v = .int .i64 (es.length - (es.filter fun e => !tp who name e).length : Nat) ∧ l' = cacheR g ⟨cap, es.filter fun e => !tp who name e⟩ :: F) := by
  refine FnO.weak ?_
  refine FnO.intro (n := 29) Try.func47 rfl rfl rfl ?_
  refine J.cacheO fun wa wc hok hcap hlen => ?_
  have hf : (es.filter fun e => !tp who name e).length ≤ es.length := List.length_filter_le _ _
  have hsl := hok.sl
  refine J.seq ?_
  refine J.region ?_
  refine JL.mem rfl rfl (OpM.box rfl rfl) ?_; rintro _ _ ⟨b4, rfl, rfl⟩
  refine JL.mem rfl rfl (OpM.box rfl rfl) ?_; rintro _ _ ⟨b5, rfl, rfl⟩
  refine JL.pure rfl rfl (OpP.assign rfl) ?_
  refine JL.nil ?_
  refine J.seq ?_
  refine J.region ?_
  refine JL.pure rfl rfl (OpP.move rfl) ?_
  refine JL.pure rfl rfl (OpP.nilCheck rfl) ?_
  refine JL.pure rfl rfl (OpP.fieldAddr rfl) ?_
  refine JL.read rfl rfl (OpR.load1 rfl (Cell.row (.tail (.tail .head)) rfl)) ?_
  refine JL.pure rfl rfl (OpP.len rfl rfl) ?_
  refine JL.pure rfl rfl (OpP.assign rfl) ?_
  refine JL.nil ?_
  refine J.seq ?_
  refine J.region ?_
  refine JL.pure rfl rfl (OpP.move rfl) ?_
  refine JL.pure rfl rfl (OpP.move rfl) ?_
  refine JL.pure rfl rfl (OpP.nilCheck rfl) ?_
  refine JL.pure rfl rfl (OpP.fieldAddr rfl) ?_
  refine JL.read rfl rfl (OpR.load1 rfl (Cell.row (.tail (.tail .head)) rfl)) ?_
  refine JL.pure rfl rfl (OpP.makeFunc rfl rfl) ?_
  refine JL.f3 ?_; refine JL.step rfl rfl (OpW.call (first := []) (captured := []) inferInstance rfl rfl (DeleteFunc_ok (kl := [row b4 9 [.string who], row b5 9 [.string name]]) (caps := [_, _]) (fn := 55) (p := tp who name) touch1_ok (fun _ h => Own.left (ks := [_, _]) (Own.pick (pre := [_, _, _, _]) [1, 0] rfl h)) (by first | assumption | omega | rfl) (by first | assumption | omega | rfl))) ?_; rintro r19 _ rfl
  refine JL.lit .head fun ar19 cr19 er19 => ?_; subst er19
  refine JL.pure rfl rfl (OpP.nilCheck rfl) ?_
  refine JL.pure rfl rfl (OpP.fieldAddr rfl) ?_
  refine JL.mem0 rfl (by apply OpM.store1 rfl rfl rfl; (case' hu => exact (.tail (.tail (.tail .head)))); (case' hs => exact (.there (.here .nil))); done) ?_; rintro _ _ ⟨rfl, rfl⟩
  refine JL.nil ?_
  refine J.seq ?_
  refine J.region ?_
  refine JL.pure rfl rfl (OpP.move rfl) ?_
  refine JL.pure rfl rfl (OpP.move rfl) ?_
  refine JL.pure rfl rfl (OpP.nilCheck rfl) ?_
  refine JL.pure rfl rfl (OpP.fieldAddr rfl) ?_
  refine JL.read rfl rfl (OpR.load1 rfl (Cell.row (.tail (.tail (.tail .head))) rfl)) ?_
  refine JL.pure rfl rfl (OpP.len rfl rfl) ?_
  refine JL.pure rfl rfl (OpP.subI rfl rfl (by omega) (by omega)) ?_
  refine JL.pure rfl rfl (OpP.assign rfl) ?_
  refine JL.nil ?_
  refine J.ret1 rfl rfl ?_
  refine ⟨_, ⟨?_, rfl⟩, fun w h => ?_⟩
  · exact congrArg (Value.int .i64) (by omega)
  have h := texts_sub (List.filter_sublist (p := fun e => !tp who name e) (l := es)) (Own.pick (pre := [_, _, _, _, _]) [4, 3, 0] rfl h)
  exact cache_in ⟨hcap, by show (es.filter _).length ≤ cap; omega, fun e he => hsl e (List.mem_filter.1 he).1, fun e he => hok.dn e (List.mem_filter.1 he).1⟩ (Own.pick (pre := [_, _, _]) [1, 2, 0] rfl h)

theorem keys_one (l : List Ent) : ∀ u ∈ scells (l.map Ent.key), u.oneCell' = true := scells_one _
theorem scells_append (a b : List Str) : scells (a ++ b) = scells a ++ scells b := by simp [scells]
theorem Keys_ok {w0 : World} {g cap : Nat} {es : List Ent} {F : List HProp} :
    FnO Try.prog w0 37 [.pointer (some ⟨g, 0, none⟩)] (cacheR g ⟨cap, es⟩ :: F) (fun v l' => l' = cacheR g ⟨cap, es⟩ :: own 9 1 v es.length (scells (es.map Ent.key)) :: F) := by
  refine FnO.weak ?_
  refine FnO.intro (n := 22) Try.func37 rfl rfl rfl ?_
  refine J.cacheO fun wa wc hok hcap hlen => ?_
  refine J.seq ?_
  refine J.region ?_
  refine JL.pure rfl rfl (OpP.assign rfl) ?_
  refine JL.nil ?_
  refine J.seq ?_
  refine J.region ?_
  refine JL.pure rfl rfl (OpP.assign rfl) ?_
  refine JL.nil ?_
  refine J.seq ?_
  refine J.seq ?_
  refine J.region ?_
  refine JL.pure rfl rfl (OpP.move rfl) ?_
  refine JL.pure rfl rfl (OpP.nilCheck rfl) ?_
  refine JL.pure rfl rfl (OpP.fieldAddr rfl) ?_
  refine JL.read rfl rfl (OpR.load1 rfl (Cell.row .head rfl)) ?_
  refine JL.pure rfl rfl (OpP.len rfl rfl) ?_
  refine JL.pure rfl rfl (OpP.move rfl) ?_
  refine JL.nil ?_
  refine J.block ?_
  refine J.loopI (fun x : Nat × Value => es.length - x.1) (fun x => x.1 ≤ es.length) (fun x => [(11, .int .i64 (x.1 : Nat)), (10, .int .i64 es.length), (9, .slice wa es.length wc), (3, x.2)])
    (fun x => own 9 1 x.2 x.1 (scells ((es.take x.1).map Ent.key)) :: row g 94 [.int .i64 cap, .slice wa es.length wc] :: own 98 6 (.slice wa es.length wc) es.length (es.flatMap ecell) :: texts es :: F) (0, .slice none 0 0) (Nat.zero_le _) (by repeat (first | exact SubEnv.nil | refine SubEnv.cons (by first | rfl | exact congrArg (fun z => some (Value.int .i64 z)) (by omega) | (simp; done)) ?_)) (fun _ h => Own.own_nil h) (fun ⟨i, kv⟩ hi back => ?_)
  dsimp only at hi back ⊢
  by_cases hlt : i < es.length
  · obtain ⟨e, he⟩ : ∃ e, es[i]? = some e := ⟨_, List.getElem?_eq_getElem hlt⟩
    refine J.f2 ?_
    refine J.ownOpen (n := es.length) (by omega) fun b pre post wcap hx q1 q2 q3 q4 => ?_
    cases hx
    have hl6 : (ecell e).length = 6 := rfl
    have hlen6 := ecell_len es
    have hone := ecell_one (hok.sl e (List.mem_of_getElem? he))
    refine J.lit (.tail .head) fun akv ckv ekv => ?_; subst ekv
    refine J.seq ?_
    refine J.region ?_
    refine JL.decT rfl rfl (OpP.lss rfl rfl) (by omega) ?_
    refine JL.nil ?_
    refine J.seq ?_
    refine J.condT rfl ?_
    refine J.skip ?_
    refine J.seq ?_
    refine J.block ?_
    refine J.seq ?_
    refine J.region ?_
    refine JL.pure rfl rfl (OpP.indexAddr rfl rfl (by omega) (by omega)) ?_
    refine JL.read rfl rfl (OpR.loadN rfl (Cells.midChunk .head (by assumption) (by assumption)) (by first | rfl | assumption)) ?_
    refine JL.mem rfl rfl OpM.alloc ?_; rintro _ _ ⟨b5, rfl, rfl⟩
    refine JL.mem0 rfl (by apply OpM.storeN rfl rfl (by first | rfl | assumption) (by assumption); (case' hu => exact .head); (case' hs => exact (.here (.here (.here (.here (.here (.here .nil))))))); done) ?_; rintro _ _ ⟨rfl, rfl⟩
    refine JL.nil ?_
    refine J.region ?_
    refine JL.pure rfl rfl (OpP.move rfl) ?_
    refine JL.pure rfl rfl (OpP.fieldAddr rfl) ?_
    refine JL.read rfl rfl (OpR.load1 rfl (Cell.row .head rfl)) ?_
    refine JL.mem rfl rfl (by apply OpM.buildSlice (by rfl) rfl (by rfl); (repeat (first | exact Fills.nil | (apply Fills.cons rfl rfl rfl; (case' hs => ((repeat (first | exact Spl.nil | apply Spl.here | apply Spl.there)); done)))))) ?_; rintro _ _ ⟨b18, rfl, rfl⟩
    refine JL.f3 ?_; refine JL.mem rfl rfl (OpM.appendH rfl (.inl ⟨_, Sl.und inferInstance⟩) (by rfl) rfl rfl (RdO.src (RdO.ofRow (.tail .head) (by first | decide | omega)) (by simp)) (one1 rfl) (by simp only [maxLen]; omega) (by omega)) ?_; rintro _ _ ⟨⟨a19, c19, rfl⟩, rfl⟩
    refine JL.pure rfl rfl (OpP.assign rfl) ?_
    refine JL.nil ?_
    refine J.inBlock ?_
    refine J.region ?_
    refine JL.pure rfl rfl (OpP.addI rfl rfl (by omega) (by omega)) ?_
    refine JL.pure rfl rfl (OpP.move rfl) ?_
    refine JL.nil ?_
    have hk : scells ((es.take (i + 1)).map Ent.key) = scells ((es.take i).map Ent.key) ++ [.string e.key] := by
      rw [List.take_add_one, he, List.map_append, scells_append]; rfl
    refine back (i + 1, _) (by dsimp only; omega) (by dsimp only; omega) (by repeat (first | exact SubEnv.nil | refine SubEnv.cons (by first | rfl | exact congrArg (fun z => some (Value.int .i64 z)) (by omega) | (simp; done)) ?_)) (fun w h => ?_)
    have h := Own.pick (pre := [_, _, _, _, _, _]) [3, 0, 4, 5] rfl h
    have h := Own.pick (pre := [_, _, _, _]) [1, 2, 0, 3] rfl (Own.own_in q1 q2 q3 q4 h)
    dsimp only
    rw [hk]
    exact h
  · refine J.lit .head fun akv ckv ekv => ?_; subst ekv
    refine J.seq ?_
    refine J.region ?_
    refine JL.decF rfl rfl (OpP.lss rfl rfl) (by omega) ?_
    refine JL.nil ?_
    refine J.seq ?_
    refine J.condF rfl ?_
    refine J.exit rfl ?_
    refine J.seq ?_
    refine J.region ?_
    refine JL.pure rfl rfl (OpP.move rfl) ?_
    refine JL.pure rfl rfl (OpP.assign rfl) ?_
    refine JL.nil ?_
    refine J.ret1 rfl rfl ?_
    have hi' : i = es.length := by omega
    subst hi'
    rw [List.take_length]
    exact ⟨_, rfl, fun _ h => cache_in hok (Own.pick (pre := [_, _, _, _]) [1, 2, 3, 0] rfl h)⟩
end Go.Proofs.A
