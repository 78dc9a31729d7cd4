/- A text of the proof of a statement about the given program: its part BSha5. No person has read it. -/
import Derived.Test.YtecnolmpdgfnfaaDoorBSha4
import Derived.Test.YtecnolmpdgfnfaaDoorJ24
-- seat b
namespace Go.Proofs.B
open Go Go.Gp Go.RowKit

theorem BeginZ_ok {w0 : World} {F : List HProp} {g t : Nat} {post : List Value} :
    FnO Tryd.prog w0 37 [.pointer (some ⟨g, 0, none⟩)] (row g t (List.replicate 8 (.int .u32 0) ++ post) :: F) (fun _ l' => l' = row g t (fc 8 (fun j => w32 (begins j)) ++ post) :: F) := by
  have h := Begin_ok (w0 := w0) (F := F) (g := g) (t := t) (V := fun _ => 0) (post := post)
  rwa [← fc_rep (f := fun _ => w32 0) (v := .int .u32 0) (fun _ _ => rfl)] at h
theorem New_ok {w0 : World} {F : List HProp} :
    FnO Tryd.prog w0 18 [] F (fun v l' => ∃ g, v = .pointer (some ⟨g, 0, none⟩) ∧ l' = row g 48 (fc 8 (fun j => w32 (begins j)) ++ [.slice none 0 0, .int .u64 0]) :: F) := by
  refine FnO.intro (n := 9) Tryd.func18 rfl rfl rfl ?_
  refine J.seq ?_
  refine J.region ?_
  refine JL.pure rfl rfl (OpP.assign rfl) ?_
  refine JL.nil ?_
  refine J.seq ?_
  refine J.region ?_
  refine JL.pure rfl rfl (OpP.build rfl (by (repeat (first | exact Fills.nil | (apply Fills.cons rfl rfl rfl; (case' hs => ((repeat (first | exact Spl.nil | apply Spl.here | apply Spl.there)); done))))))) ?_
  refine JL.mem rfl rfl (OpM.box rfl rfl) ?_; rintro _ _ ⟨b3, rfl, rfl⟩
  refine JL.pure rfl rfl (OpP.assign rfl) ?_
  refine JL.nil ?_
  refine J.seq ?_
  refine J.region ?_
  refine JL.pure rfl rfl (OpP.move rfl) ?_
  refine JL.pure rfl rfl (OpP.nilCheck rfl) ?_
  refine JL.pure rfl rfl (OpP.fieldAddr rfl) ?_
  refine JL.step rfl rfl (OpW.call (first := []) (captured := []) inferInstance rfl rfl BeginZ_ok) ?_; rintro r7 _ rfl
  refine JL.nil ?_
  refine J.seq ?_
  refine J.region ?_
  refine JL.pure rfl rfl (OpP.move rfl) ?_
  refine JL.pure rfl rfl (OpP.assign rfl) ?_
  refine JL.nil ?_
  refine J.ret1 rfl rfl ?_
  exact ⟨_, rfl, rfl⟩
/-- A stream behind some bytes. -/
def stC (K : Ws) (all : List UInt8) (s : Value) : List Value := fc 8 (fun j => w32 (stV K all j)) ++ [s, .int .u64 (all.length : Nat)]
theorem Take_ok {w0 : World} {F : List HProp} {g : Nat} {K : Ws} {all b : List UInt8} {s v : Value} (hK : Tab w0 0 64 fun j => w32 (K j)) (hn : all.length + b.length ≤ 1000000) (hr : RdO w0 F v b.length (bcells b)) :
    FnO Tryd.prog w0 38 [.pointer (some ⟨g, 0, none⟩), v] (row g 48 (stC K all s) :: own 5 1 s (stL all).length (bcells (stL all)) :: F)
      (fun _ l' => ∃ s', l' = row g 48 (stC K (all ++ b) s') :: own 5 1 s' (stL (all ++ b)).length (bcells (stL (all ++ b))) :: F) := by
  have h1 := stL_length all
  have h2 := stL_length (all ++ b)
  refine (Take0_ok (V := stV K all) (left := stL all) hK hn (by omega) hr).mono ?_
  rintro u l' ⟨s', rfl⟩
  refine ⟨s', ?_⟩
  have e : (stL all ++ b).length % 64 = (stL (all ++ b)).length := by
    rw [h2, List.length_append, List.length_append, h1]; omega
  have e2 : (all ++ b).length = all.length + b.length := List.length_append
  rw [stL_app, e, stC, e2]
  rw [show (fun j => w32 (eatV K (stV K all) (stL all ++ b) ((stL all ++ b).length / 64) j)) = fun j => w32 (stV K (all ++ b) j) by rw [stV_app]]
end Go.Proofs.B
