/-
  No cell of these rows narrows 'for every input' (looked for: loops, veiled, ifaces, maps, wideKeys, modest, calm, conditions, laid).
  DERIVED. THE GIVEN ROWS OF THIS SEAT. 9 by the template 'for every input the law returns true; each argument reads behind the call as it read before'; 0 by the template 'total and deterministic' (their statements: YtmfdjjbmckdmfaaTotals.lean).
  GIVEN WITH THE SEED: the statements are not yours to turn. If you find one false, say at which input.
  Laid BY PROGRAM, IN A SANDBOX (cutbox-rows.mjs): the forced cells as the released guide's own fill.sh prints them over the translation 0e1db4bd63b0db26… (all of the seat's roots in one cut). By AI agents, Wed Nov 11 2026. No macro, syntax, notation, axiom, sorry.
-/
import Derived.Test.YtmfdjjbmckdmfaaChecked
import GoSem.Claim
import GoSem.ClaimJoined
import GoSem.ClaimMapViews
import Derived.JoinedTies
import Derived.KernelRfl
namespace Go.Proofs.Ytmfdjjbmckdmfaa
/- THE CELL 'sum', in the pinned program and in every row, IS THE sha256 OF THE DUMP (.gsa) THAT YtmfdjjbmckdmfaaProg.lean LOADS. Nothing in Lean hashes anything: it is a label: what it is worth is what the hold of that sum in a sandbox is worth. -/
noncomputable def Try.pinned : Pinned := { name := "ytmfdjjbmckdmfaa", sum := "0e1db4bd63b0db26de3082c87237967999fbe709f5e8bc0d0aef01766d9d63a5", checked := Try.checked }
namespace Rows
def none {H : Type} : Left H := { results := [], args := [] }

/-- 'gatepostlaw04.DiskOwn': WHATEVER THE INPUT: true; the input reads as it did. -/
def diskOwnSpec : ChangeSpec := { name := "diskOwn", fn := fun _ => fun
  | [d] => { results := [.lit (.bool true)], args := [d] }
  | _ => none }
def diskOwnRow : OpenClaim := { program := "ytmfdjjbmckdmfaa", sum := "0e1db4bd63b0db26de3082c87237967999fbe709f5e8bc0d0aef01766d9d63a5", func := "gatepost/gatepostlaw04.DiskOwn", spec := "diskOwn", apart := false }
def DiskOwnSaid : Prop := diskOwnRow.holds Try.pinned (OpenSpec.ofChange diskOwnSpec)

/-- ITS FALSE NEIGHBOUR: 'it returns false'. Refute it at one input. -/
def diskOwnWrong : ChangeSpec := { name := "diskOwn", fn := fun _ => fun
  | [d] => { results := [.lit (.bool false)], args := [d] }
  | _ => none }
def DiskOwnWrongFalsely : Prop := diskOwnRow.holds Try.pinned (OpenSpec.ofChange diskOwnWrong)

/-- 'gatepostlaw04.DiskAll': WHATEVER THE INPUT: true; the input reads as it did. -/
def diskAllSpec : ChangeSpec := { name := "diskAll", fn := fun _ => fun
  | [d1, d2] => { results := [.lit (.bool true)], args := [d1, d2] }
  | _ => none }
def diskAllRow : OpenClaim := { program := "ytmfdjjbmckdmfaa", sum := "0e1db4bd63b0db26de3082c87237967999fbe709f5e8bc0d0aef01766d9d63a5", func := "gatepost/gatepostlaw04.DiskAll", spec := "diskAll", apart := false }
def DiskAllSaid : Prop := diskAllRow.holds Try.pinned (OpenSpec.ofChange diskAllSpec)

/-- ITS FALSE NEIGHBOUR: 'it returns false'. Refute it at one input. -/
def diskAllWrong : ChangeSpec := { name := "diskAll", fn := fun _ => fun
  | [d1, d2] => { results := [.lit (.bool false)], args := [d1, d2] }
  | _ => none }
def DiskAllWrongFalsely : Prop := diskAllRow.holds Try.pinned (OpenSpec.ofChange diskAllWrong)

/-- 'gatepostlaw20.CacheOwn': WHATEVER THE INPUT: true; the input reads as it did. -/
def cacheOwnSpec : ChangeSpec := { name := "cacheOwn", fn := fun _ => fun
  | [d1, d2] => { results := [.lit (.bool true)], args := [d1, d2] }
  | _ => none }
def cacheOwnRow : OpenClaim := { program := "ytmfdjjbmckdmfaa", sum := "0e1db4bd63b0db26de3082c87237967999fbe709f5e8bc0d0aef01766d9d63a5", func := "gatepost/gatepostlaw20.CacheOwn", spec := "cacheOwn", unfollowed := true, recurses := true, apart := false }
def CacheOwnSaid : Prop := cacheOwnRow.holds Try.pinned (OpenSpec.ofChange cacheOwnSpec)

/-- ITS FALSE NEIGHBOUR: 'it returns false'. Refute it at one input. -/
def cacheOwnWrong : ChangeSpec := { name := "cacheOwn", fn := fun _ => fun
  | [d1, d2] => { results := [.lit (.bool false)], args := [d1, d2] }
  | _ => none }
def CacheOwnWrongFalsely : Prop := cacheOwnRow.holds Try.pinned (OpenSpec.ofChange cacheOwnWrong)

/-- 'gatepostlaw04.DiskKeeps': WHATEVER THE INPUT: true; the input reads as it did. -/
def diskKeepsSpec : ChangeSpec := { name := "diskKeeps", fn := fun _ => fun
  | [d1, d2, d3] => { results := [.lit (.bool true)], args := [d1, d2, d3] }
  | _ => none }
def diskKeepsRow : OpenClaim := { program := "ytmfdjjbmckdmfaa", sum := "0e1db4bd63b0db26de3082c87237967999fbe709f5e8bc0d0aef01766d9d63a5", func := "gatepost/gatepostlaw04.DiskKeeps", spec := "diskKeeps", apart := false }
def DiskKeepsSaid : Prop := diskKeepsRow.holds Try.pinned (OpenSpec.ofChange diskKeepsSpec)

/-- ITS FALSE NEIGHBOUR: 'it returns false'. Refute it at one input. -/
def diskKeepsWrong : ChangeSpec := { name := "diskKeeps", fn := fun _ => fun
  | [d1, d2, d3] => { results := [.lit (.bool false)], args := [d1, d2, d3] }
  | _ => none }
def DiskKeepsWrongFalsely : Prop := diskKeepsRow.holds Try.pinned (OpenSpec.ofChange diskKeepsWrong)

/-- 'gatepostlaw04.DiskPlays': WHATEVER THE INPUT: true; the input reads as it did. -/
def diskPlaysSpec : ChangeSpec := { name := "diskPlays", fn := fun _ => fun
  | [d1, d2] => { results := [.lit (.bool true)], args := [d1, d2] }
  | _ => none }
def diskPlaysRow : OpenClaim := { program := "ytmfdjjbmckdmfaa", sum := "0e1db4bd63b0db26de3082c87237967999fbe709f5e8bc0d0aef01766d9d63a5", func := "gatepost/gatepostlaw04.DiskPlays", spec := "diskPlays", apart := false }
def DiskPlaysSaid : Prop := diskPlaysRow.holds Try.pinned (OpenSpec.ofChange diskPlaysSpec)

/-- ITS FALSE NEIGHBOUR: 'it returns false'. Refute it at one input. -/
def diskPlaysWrong : ChangeSpec := { name := "diskPlays", fn := fun _ => fun
  | [d1, d2] => { results := [.lit (.bool false)], args := [d1, d2] }
  | _ => none }
def DiskPlaysWrongFalsely : Prop := diskPlaysRow.holds Try.pinned (OpenSpec.ofChange diskPlaysWrong)

/-- 'gatepostlaw04.DiskFuses': WHATEVER THE INPUT: true; the input reads as it did. -/
def diskFusesSpec : ChangeSpec := { name := "diskFuses", fn := fun _ => fun
  | [d1, d2] => { results := [.lit (.bool true)], args := [d1, d2] }
  | _ => none }
def diskFusesRow : OpenClaim := { program := "ytmfdjjbmckdmfaa", sum := "0e1db4bd63b0db26de3082c87237967999fbe709f5e8bc0d0aef01766d9d63a5", func := "gatepost/gatepostlaw04.DiskFuses", spec := "diskFuses", apart := false }
def DiskFusesSaid : Prop := diskFusesRow.holds Try.pinned (OpenSpec.ofChange diskFusesSpec)

/-- ITS FALSE NEIGHBOUR: 'it returns false'. Refute it at one input. -/
def diskFusesWrong : ChangeSpec := { name := "diskFuses", fn := fun _ => fun
  | [d1, d2] => { results := [.lit (.bool false)], args := [d1, d2] }
  | _ => none }
def DiskFusesWrongFalsely : Prop := diskFusesRow.holds Try.pinned (OpenSpec.ofChange diskFusesWrong)

/-- 'gatepostlaw20.CacheLast': WHATEVER THE INPUT: true; the input reads as it did. -/
def cacheLastSpec : ChangeSpec := { name := "cacheLast", fn := fun _ => fun
  | [d1, d2, d3] => { results := [.lit (.bool true)], args := [d1, d2, d3] }
  | _ => none }
def cacheLastRow : OpenClaim := { program := "ytmfdjjbmckdmfaa", sum := "0e1db4bd63b0db26de3082c87237967999fbe709f5e8bc0d0aef01766d9d63a5", func := "gatepost/gatepostlaw20.CacheLast", spec := "cacheLast", unfollowed := true, recurses := true, apart := false }
def CacheLastSaid : Prop := cacheLastRow.holds Try.pinned (OpenSpec.ofChange cacheLastSpec)

/-- ITS FALSE NEIGHBOUR: 'it returns false'. Refute it at one input. -/
def cacheLastWrong : ChangeSpec := { name := "cacheLast", fn := fun _ => fun
  | [d1, d2, d3] => { results := [.lit (.bool false)], args := [d1, d2, d3] }
  | _ => none }
def CacheLastWrongFalsely : Prop := cacheLastRow.holds Try.pinned (OpenSpec.ofChange cacheLastWrong)

/-- 'gatepostlaw20.CacheFull': WHATEVER THE INPUT: true; the input reads as it did. -/
def cacheFullSpec : ChangeSpec := { name := "cacheFull", fn := fun _ => fun
  | [d1, d2] => { results := [.lit (.bool true)], args := [d1, d2] }
  | _ => none }
def cacheFullRow : OpenClaim := { program := "ytmfdjjbmckdmfaa", sum := "0e1db4bd63b0db26de3082c87237967999fbe709f5e8bc0d0aef01766d9d63a5", func := "gatepost/gatepostlaw20.CacheFull", spec := "cacheFull", unfollowed := true, recurses := true, apart := false }
def CacheFullSaid : Prop := cacheFullRow.holds Try.pinned (OpenSpec.ofChange cacheFullSpec)

/-- ITS FALSE NEIGHBOUR: 'it returns false'. Refute it at one input. -/
def cacheFullWrong : ChangeSpec := { name := "cacheFull", fn := fun _ => fun
  | [d1, d2] => { results := [.lit (.bool false)], args := [d1, d2] }
  | _ => none }
def CacheFullWrongFalsely : Prop := cacheFullRow.holds Try.pinned (OpenSpec.ofChange cacheFullWrong)

/-- 'gatepostlaw20.CachePlays': WHATEVER THE INPUT: true; the input reads as it did. -/
def cachePlaysSpec : ChangeSpec := { name := "cachePlays", fn := fun _ => fun
  | [d1, d2] => { results := [.lit (.bool true)], args := [d1, d2] }
  | _ => none }
def cachePlaysRow : OpenClaim := { program := "ytmfdjjbmckdmfaa", sum := "0e1db4bd63b0db26de3082c87237967999fbe709f5e8bc0d0aef01766d9d63a5", func := "gatepost/gatepostlaw20.CachePlays", spec := "cachePlays", unfollowed := true, recurses := true, apart := false }
def CachePlaysSaid : Prop := cachePlaysRow.holds Try.pinned (OpenSpec.ofChange cachePlaysSpec)

/-- ITS FALSE NEIGHBOUR: 'it returns false'. Refute it at one input. -/
def cachePlaysWrong : ChangeSpec := { name := "cachePlays", fn := fun _ => fun
  | [d1, d2] => { results := [.lit (.bool false)], args := [d1, d2] }
  | _ => none }
def CachePlaysWrongFalsely : Prop := cachePlaysRow.holds Try.pinned (OpenSpec.ofChange cachePlaysWrong)

/- THE SECOND FORM. 'bulk': how many values and letters a reading holds, each counted each time it is reached (what is shared counts as often as it is met; a slice's spare places count too). A statement '..UptoSaid' is the law's where the arguments, and the package variables that the reading takes, are together of bulk at most 1048576: NARROWER than '..Said'. Prove '..Said' where nothing that the law and all that it calls make is longer than what came in: it says more and counts as full. Else prove '..UptoSaid'. A law counts once. -/
mutual
def uptoBulk {H : Type} : DataW H → Nat
  | .lit (.string bytes) => bytes.length + 1
  | .lit _ => 1
  | .nil => 1
  | .ptr d => uptoBulk d + 1
  | .slice elems spare => uptoBulkAll elems + uptoBulkAll spare + 1
  | .agg parts => uptoBulkAll parts + 1
  | .iface _ d => uptoBulk d + 1
  | .map entries => uptoBulkEntries entries + 1
  | .held _ => 1
def uptoBulkAll {H : Type} : List (DataW H) → Nat
  | [] => 0
  | d :: r => uptoBulk d + uptoBulkAll r
def uptoBulkEntries {H : Type} : List (Lit × DataW H) → Nat
  | [] => 0
  | x :: r => uptoBulkEntry x + uptoBulkEntries r
def uptoBulkEntry {H : Type} : Lit × DataW H → Nat
  | (.string bytes, d) => bytes.length + uptoBulk d + 1
  | (_, d) => uptoBulk d + 1
 end
def uptoSmall : (H : Type) → List (DataW H) → Bool := fun _ ds => decide (uptoBulkAll ds ≤ 1048576)
def OpenSpec.upto (s : _root_.Go.ChangeSpec) : _root_.Go.OpenSpec := { _root_.Go.OpenSpec.ofChange s with cond := some uptoSmall }

/-- 'gatepostlaw04.DiskOwn', WHERE WHAT IT READS IS OF BULK AT MOST 1048576: true; the input reads as it did. -/
def diskOwnUptoRow : OpenClaim := { program := "ytmfdjjbmckdmfaa", sum := "0e1db4bd63b0db26de3082c87237967999fbe709f5e8bc0d0aef01766d9d63a5", func := "gatepost/gatepostlaw04.DiskOwn", spec := "diskOwn", apart := false, narrowed := true }
def DiskOwnUptoSaid : Prop := diskOwnUptoRow.holds Try.pinned (OpenSpec.upto diskOwnSpec)

/-- 'gatepostlaw04.DiskAll', WHERE WHAT IT READS IS OF BULK AT MOST 1048576: true; the input reads as it did. -/
def diskAllUptoRow : OpenClaim := { program := "ytmfdjjbmckdmfaa", sum := "0e1db4bd63b0db26de3082c87237967999fbe709f5e8bc0d0aef01766d9d63a5", func := "gatepost/gatepostlaw04.DiskAll", spec := "diskAll", apart := false, narrowed := true }
def DiskAllUptoSaid : Prop := diskAllUptoRow.holds Try.pinned (OpenSpec.upto diskAllSpec)

/-- 'gatepostlaw20.CacheOwn', WHERE WHAT IT READS IS OF BULK AT MOST 1048576: true; the input reads as it did. -/
def cacheOwnUptoRow : OpenClaim := { program := "ytmfdjjbmckdmfaa", sum := "0e1db4bd63b0db26de3082c87237967999fbe709f5e8bc0d0aef01766d9d63a5", func := "gatepost/gatepostlaw20.CacheOwn", spec := "cacheOwn", unfollowed := true, recurses := true, apart := false, narrowed := true }
def CacheOwnUptoSaid : Prop := cacheOwnUptoRow.holds Try.pinned (OpenSpec.upto cacheOwnSpec)

/-- 'gatepostlaw04.DiskKeeps', WHERE WHAT IT READS IS OF BULK AT MOST 1048576: true; the input reads as it did. -/
def diskKeepsUptoRow : OpenClaim := { program := "ytmfdjjbmckdmfaa", sum := "0e1db4bd63b0db26de3082c87237967999fbe709f5e8bc0d0aef01766d9d63a5", func := "gatepost/gatepostlaw04.DiskKeeps", spec := "diskKeeps", apart := false, narrowed := true }
def DiskKeepsUptoSaid : Prop := diskKeepsUptoRow.holds Try.pinned (OpenSpec.upto diskKeepsSpec)

/-- 'gatepostlaw04.DiskPlays', WHERE WHAT IT READS IS OF BULK AT MOST 1048576: true; the input reads as it did. -/
def diskPlaysUptoRow : OpenClaim := { program := "ytmfdjjbmckdmfaa", sum := "0e1db4bd63b0db26de3082c87237967999fbe709f5e8bc0d0aef01766d9d63a5", func := "gatepost/gatepostlaw04.DiskPlays", spec := "diskPlays", apart := false, narrowed := true }
def DiskPlaysUptoSaid : Prop := diskPlaysUptoRow.holds Try.pinned (OpenSpec.upto diskPlaysSpec)

/-- 'gatepostlaw04.DiskFuses', WHERE WHAT IT READS IS OF BULK AT MOST 1048576: true; the input reads as it did. -/
def diskFusesUptoRow : OpenClaim := { program := "ytmfdjjbmckdmfaa", sum := "0e1db4bd63b0db26de3082c87237967999fbe709f5e8bc0d0aef01766d9d63a5", func := "gatepost/gatepostlaw04.DiskFuses", spec := "diskFuses", apart := false, narrowed := true }
def DiskFusesUptoSaid : Prop := diskFusesUptoRow.holds Try.pinned (OpenSpec.upto diskFusesSpec)

/-- 'gatepostlaw20.CacheLast', WHERE WHAT IT READS IS OF BULK AT MOST 1048576: true; the input reads as it did. -/
def cacheLastUptoRow : OpenClaim := { program := "ytmfdjjbmckdmfaa", sum := "0e1db4bd63b0db26de3082c87237967999fbe709f5e8bc0d0aef01766d9d63a5", func := "gatepost/gatepostlaw20.CacheLast", spec := "cacheLast", unfollowed := true, recurses := true, apart := false, narrowed := true }
def CacheLastUptoSaid : Prop := cacheLastUptoRow.holds Try.pinned (OpenSpec.upto cacheLastSpec)

/-- 'gatepostlaw20.CacheFull', WHERE WHAT IT READS IS OF BULK AT MOST 1048576: true; the input reads as it did. -/
def cacheFullUptoRow : OpenClaim := { program := "ytmfdjjbmckdmfaa", sum := "0e1db4bd63b0db26de3082c87237967999fbe709f5e8bc0d0aef01766d9d63a5", func := "gatepost/gatepostlaw20.CacheFull", spec := "cacheFull", unfollowed := true, recurses := true, apart := false, narrowed := true }
def CacheFullUptoSaid : Prop := cacheFullUptoRow.holds Try.pinned (OpenSpec.upto cacheFullSpec)

/-- 'gatepostlaw20.CachePlays', WHERE WHAT IT READS IS OF BULK AT MOST 1048576: true; the input reads as it did. -/
def cachePlaysUptoRow : OpenClaim := { program := "ytmfdjjbmckdmfaa", sum := "0e1db4bd63b0db26de3082c87237967999fbe709f5e8bc0d0aef01766d9d63a5", func := "gatepost/gatepostlaw20.CachePlays", spec := "cachePlays", unfollowed := true, recurses := true, apart := false, narrowed := true }
def CachePlaysUptoSaid : Prop := cachePlaysUptoRow.holds Try.pinned (OpenSpec.upto cachePlaysSpec)

end Rows
end Go.Proofs.Ytmfdjjbmckdmfaa
