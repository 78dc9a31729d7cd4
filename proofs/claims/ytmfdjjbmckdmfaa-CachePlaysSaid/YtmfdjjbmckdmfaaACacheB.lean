/- A text of the proof of a statement about the given program: its part ACacheB. No person has read it. -/
import Derived.Test.YtmfdjjbmckdmfaaACache4
import Derived.Test.YtmfdjjbmckdmfaaJ17
-- seat a
namespace Go.Proofs.A
open Go Go.Gp Go.RowKit
/-- Where a decision's texts may be read. -/
structure Dec.RdO (w0 : World) (l : List HProp) (d : Dec) : Prop where
  dv : Gp.RdO w0 l d.dv d.dl.length (scells d.dl)
  av : Gp.RdO w0 l d.av d.al.length (scells d.al)
  dn : d.dl.length ≤ 1000
  an : d.al.length ≤ 1000
theorem Dec.RdO.conv {w0 : World} {l l' : List HProp} {d : Dec} (hl : ∀ w, Own w0 w l' → Own w0 w l) (h : d.RdO w0 l) : d.RdO w0 l' := ⟨h.dv.conv hl, h.av.conv hl, h.dn, h.an⟩
theorem CloneO_ok {w0 : World} {l : List HProp} {v : Value} {xs : List Str} (hr : RdO w0 l v xs.length (scells xs)) (hl : xs.length ≤ 1000000) :
    FnO Try.prog w0 53 [v] l (fun u l' => l' = own 9 1 u xs.length (scells xs) :: l) := hr |> fun hr => FnO.rd hr fun hr => CloneS_ok hr hl
theorem own2_ok {w0 : World} {l : List HProp} {d : Dec} (hd : d.RdO w0 l) :
    FnO Try.prog w0 46 [.agg (dcell d).toArray] l (fun v l' => ∃ u1 u2, v = .agg (dcell { d with dv := u1, av := u2 }).toArray ∧ l' = own 9 1 u2 d.al.length (scells d.al) :: own 9 1 u1 d.dl.length (scells d.dl) :: l) := by
  refine FnO.rd hd.dv fun h1 => FnO.rd hd.av fun h2 => ?_
  exact own_ok ⟨h1, h2, hd.dn, hd.an⟩
theorem J.cacheO {C : Cx} {k : List Item} {env : Env} {g cap : Nat} {es : List Ent} {F : List HProp} (h : ∀ wa wc, Ca.Ok ⟨cap, es⟩ → cap ≤ 16 → es.length ≤ cap → J C k env (
    row g 94 [.int .i64 cap, .slice wa es.length wc] :: own 98 6 (.slice wa es.length wc) es.length (es.flatMap ecell) :: texts es :: F)) : J C k env (cacheR g ⟨cap, es⟩ :: F) :=
  J.cache fun wa wc hok => h wa wc hok hok.cap hok.len
end Go.Proofs.A
