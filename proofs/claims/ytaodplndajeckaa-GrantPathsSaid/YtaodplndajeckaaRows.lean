/-
  No cell of these rows narrows 'for every input' (looked for: loops, veiled, ifaces, maps, wideKeys, modest, calm, conditions, laid).
  DERIVED. THE GIVEN ROWS OF THIS SEAT. 11 by the template 'for every input the law returns true; each argument reads behind the call as it read before'; 0 by the template 'total and deterministic' (their statements: YtaodplndajeckaaTotals.lean).
  GIVEN WITH THE SEED: the statements are not yours to turn. If you find one false, say at which input.
  Laid BY PROGRAM, IN A SANDBOX (cutbox-rows.mjs): the forced cells as the released guide's own fill.sh prints them over the translation 6f2cdc5b98370d22… (all of the seat's roots in one cut). By AI agents, Wed Nov 11 2026. No macro, syntax, notation, axiom, sorry.
-/
import Derived.Test.YtaodplndajeckaaChecked
import GoSem.Claim
import GoSem.ClaimJoined
import GoSem.ClaimMapViews
import Derived.JoinedTies
import Derived.KernelRfl
namespace Go.Proofs.Ytaodplndajeckaa
/- THE CELL 'sum', in the pinned program and in every row, IS THE sha256 OF THE DUMP (.gsa) THAT YtaodplndajeckaaProg.lean LOADS. Nothing in Lean hashes anything: it is a label: what it is worth is what the hold of that sum in a sandbox is worth. -/
noncomputable def Try.pinned : Pinned := { name := "ytaodplndajeckaa", sum := "6f2cdc5b98370d22c269cf702314e46443309ce5f0862ff00776a4b85fcee715", checked := Try.checked }
namespace Rows
def none {H : Type} : Left H := { results := [], args := [] }

/-- 'gatepostlaw18.CombineTells': WHATEVER THE INPUT: true; the input reads as it did. -/
def combineTellsSpec : ChangeSpec := { name := "combineTells", fn := fun _ => fun
  | [d1, d2, d3] => { results := [.lit (.bool true)], args := [d1, d2, d3] }
  | _ => none }
def combineTellsRow : OpenClaim := { program := "ytaodplndajeckaa", sum := "6f2cdc5b98370d22c269cf702314e46443309ce5f0862ff00776a4b85fcee715", func := "gatepost/gatepostlaw18.CombineTells", spec := "combineTells", unfollowed := true, recurses := true, apart := false }
def CombineTellsSaid : Prop := combineTellsRow.holds Try.pinned (OpenSpec.ofChange combineTellsSpec)

/-- ITS FALSE NEIGHBOUR: 'it returns false'. Refute it at one input. -/
def combineTellsWrong : ChangeSpec := { name := "combineTells", fn := fun _ => fun
  | [d1, d2, d3] => { results := [.lit (.bool false)], args := [d1, d2, d3] }
  | _ => none }
def CombineTellsWrongFalsely : Prop := combineTellsRow.holds Try.pinned (OpenSpec.ofChange combineTellsWrong)

/-- 'gatepostlaw18.CombineTurns': WHATEVER THE INPUT: true; the input reads as it did. -/
def combineTurnsSpec : ChangeSpec := { name := "combineTurns", fn := fun _ => fun
  | [d1, d2] => { results := [.lit (.bool true)], args := [d1, d2] }
  | _ => none }
def combineTurnsRow : OpenClaim := { program := "ytaodplndajeckaa", sum := "6f2cdc5b98370d22c269cf702314e46443309ce5f0862ff00776a4b85fcee715", func := "gatepost/gatepostlaw18.CombineTurns", spec := "combineTurns", unfollowed := true, recurses := true, apart := false }
def CombineTurnsSaid : Prop := combineTurnsRow.holds Try.pinned (OpenSpec.ofChange combineTurnsSpec)

/-- ITS FALSE NEIGHBOUR: 'it returns false'. Refute it at one input. -/
def combineTurnsWrong : ChangeSpec := { name := "combineTurns", fn := fun _ => fun
  | [d1, d2] => { results := [.lit (.bool false)], args := [d1, d2] }
  | _ => none }
def CombineTurnsWrongFalsely : Prop := combineTurnsRow.holds Try.pinned (OpenSpec.ofChange combineTurnsWrong)

/-- 'gatepostlaw18.CombineOrder': WHATEVER THE INPUT: true; the input reads as it did. -/
def combineOrderSpec : ChangeSpec := { name := "combineOrder", fn := fun _ => fun
  | [d1, d2, d3] => { results := [.lit (.bool true)], args := [d1, d2, d3] }
  | _ => none }
def combineOrderRow : OpenClaim := { program := "ytaodplndajeckaa", sum := "6f2cdc5b98370d22c269cf702314e46443309ce5f0862ff00776a4b85fcee715", func := "gatepost/gatepostlaw18.CombineOrder", spec := "combineOrder", unfollowed := true, recurses := true, apart := false }
def CombineOrderSaid : Prop := combineOrderRow.holds Try.pinned (OpenSpec.ofChange combineOrderSpec)

/-- ITS FALSE NEIGHBOUR: 'it returns false'. Refute it at one input. -/
def combineOrderWrong : ChangeSpec := { name := "combineOrder", fn := fun _ => fun
  | [d1, d2, d3] => { results := [.lit (.bool false)], args := [d1, d2, d3] }
  | _ => none }
def CombineOrderWrongFalsely : Prop := combineOrderRow.holds Try.pinned (OpenSpec.ofChange combineOrderWrong)

/-- 'gatepostlaw18.CombineNone': WHATEVER THE INPUT: true; the input reads as it did. -/
def combineNoneSpec : ChangeSpec := { name := "combineNone", fn := fun _ => fun
  | [d1, d2, d3] => { results := [.lit (.bool true)], args := [d1, d2, d3] }
  | _ => none }
def combineNoneRow : OpenClaim := { program := "ytaodplndajeckaa", sum := "6f2cdc5b98370d22c269cf702314e46443309ce5f0862ff00776a4b85fcee715", func := "gatepost/gatepostlaw18.CombineNone", spec := "combineNone", unfollowed := true, recurses := true, apart := false }
def CombineNoneSaid : Prop := combineNoneRow.holds Try.pinned (OpenSpec.ofChange combineNoneSpec)

/-- ITS FALSE NEIGHBOUR: 'it returns false'. Refute it at one input. -/
def combineNoneWrong : ChangeSpec := { name := "combineNone", fn := fun _ => fun
  | [d1, d2, d3] => { results := [.lit (.bool false)], args := [d1, d2, d3] }
  | _ => none }
def CombineNoneWrongFalsely : Prop := combineNoneRow.holds Try.pinned (OpenSpec.ofChange combineNoneWrong)

/-- 'gatepostlaw18.CombineParts': WHATEVER THE INPUT: true; the input reads as it did. -/
def combinePartsSpec : ChangeSpec := { name := "combineParts", fn := fun _ => fun
  | [d1, d2, d3] => { results := [.lit (.bool true)], args := [d1, d2, d3] }
  | _ => none }
def combinePartsRow : OpenClaim := { program := "ytaodplndajeckaa", sum := "6f2cdc5b98370d22c269cf702314e46443309ce5f0862ff00776a4b85fcee715", func := "gatepost/gatepostlaw18.CombineParts", spec := "combineParts", unfollowed := true, recurses := true, apart := false }
def CombinePartsSaid : Prop := combinePartsRow.holds Try.pinned (OpenSpec.ofChange combinePartsSpec)

/-- ITS FALSE NEIGHBOUR: 'it returns false'. Refute it at one input. -/
def combinePartsWrong : ChangeSpec := { name := "combineParts", fn := fun _ => fun
  | [d1, d2, d3] => { results := [.lit (.bool false)], args := [d1, d2, d3] }
  | _ => none }
def CombinePartsWrongFalsely : Prop := combinePartsRow.holds Try.pinned (OpenSpec.ofChange combinePartsWrong)

/-- 'gatepostlaw18.CombineOf': WHATEVER THE INPUT: true; the input reads as it did. -/
def combineOfSpec : ChangeSpec := { name := "combineOf", fn := fun _ => fun
  | [d1, d2, d3] => { results := [.lit (.bool true)], args := [d1, d2, d3] }
  | _ => none }
def combineOfRow : OpenClaim := { program := "ytaodplndajeckaa", sum := "6f2cdc5b98370d22c269cf702314e46443309ce5f0862ff00776a4b85fcee715", func := "gatepost/gatepostlaw18.CombineOf", spec := "combineOf", unfollowed := true, recurses := true, apart := false }
def CombineOfSaid : Prop := combineOfRow.holds Try.pinned (OpenSpec.ofChange combineOfSpec)

/-- ITS FALSE NEIGHBOUR: 'it returns false'. Refute it at one input. -/
def combineOfWrong : ChangeSpec := { name := "combineOf", fn := fun _ => fun
  | [d1, d2, d3] => { results := [.lit (.bool false)], args := [d1, d2, d3] }
  | _ => none }
def CombineOfWrongFalsely : Prop := combineOfRow.holds Try.pinned (OpenSpec.ofChange combineOfWrong)

/-- 'gatepostlaw13.GrantTells': WHATEVER THE INPUT: true; the input reads as it did. -/
def grantTellsSpec : ChangeSpec := { name := "grantTells", fn := fun _ => fun
  | [d1, d2] => { results := [.lit (.bool true)], args := [d1, d2] }
  | _ => none }
def grantTellsRow : OpenClaim := { program := "ytaodplndajeckaa", sum := "6f2cdc5b98370d22c269cf702314e46443309ce5f0862ff00776a4b85fcee715", func := "gatepost/gatepostlaw13.GrantTells", spec := "grantTells", unfollowed := true, recurses := true, apart := false }
def GrantTellsSaid : Prop := grantTellsRow.holds Try.pinned (OpenSpec.ofChange grantTellsSpec)

/-- ITS FALSE NEIGHBOUR: 'it returns false'. Refute it at one input. -/
def grantTellsWrong : ChangeSpec := { name := "grantTells", fn := fun _ => fun
  | [d1, d2] => { results := [.lit (.bool false)], args := [d1, d2] }
  | _ => none }
def GrantTellsWrongFalsely : Prop := grantTellsRow.holds Try.pinned (OpenSpec.ofChange grantTellsWrong)

/-- 'gatepostlaw13.GrantLater': WHATEVER THE INPUT: true; the input reads as it did. -/
def grantLaterSpec : ChangeSpec := { name := "grantLater", fn := fun _ => fun
  | [d1, d2] => { results := [.lit (.bool true)], args := [d1, d2] }
  | _ => none }
def grantLaterRow : OpenClaim := { program := "ytaodplndajeckaa", sum := "6f2cdc5b98370d22c269cf702314e46443309ce5f0862ff00776a4b85fcee715", func := "gatepost/gatepostlaw13.GrantLater", spec := "grantLater", unfollowed := true, recurses := true, apart := false }
def GrantLaterSaid : Prop := grantLaterRow.holds Try.pinned (OpenSpec.ofChange grantLaterSpec)

/-- ITS FALSE NEIGHBOUR: 'it returns false'. Refute it at one input. -/
def grantLaterWrong : ChangeSpec := { name := "grantLater", fn := fun _ => fun
  | [d1, d2] => { results := [.lit (.bool false)], args := [d1, d2] }
  | _ => none }
def GrantLaterWrongFalsely : Prop := grantLaterRow.holds Try.pinned (OpenSpec.ofChange grantLaterWrong)

/-- 'gatepostlaw13.GrantPlays': WHATEVER THE INPUT: true; the input reads as it did. -/
def grantPlaysSpec : ChangeSpec := { name := "grantPlays", fn := fun _ => fun
  | [d] => { results := [.lit (.bool true)], args := [d] }
  | _ => none }
def grantPlaysRow : OpenClaim := { program := "ytaodplndajeckaa", sum := "6f2cdc5b98370d22c269cf702314e46443309ce5f0862ff00776a4b85fcee715", func := "gatepost/gatepostlaw13.GrantPlays", spec := "grantPlays", unfollowed := true, recurses := true, apart := false }
def GrantPlaysSaid : Prop := grantPlaysRow.holds Try.pinned (OpenSpec.ofChange grantPlaysSpec)

/-- ITS FALSE NEIGHBOUR: 'it returns false'. Refute it at one input. -/
def grantPlaysWrong : ChangeSpec := { name := "grantPlays", fn := fun _ => fun
  | [d] => { results := [.lit (.bool false)], args := [d] }
  | _ => none }
def GrantPlaysWrongFalsely : Prop := grantPlaysRow.holds Try.pinned (OpenSpec.ofChange grantPlaysWrong)

/-- 'gatepostlaw13.GrantFalls': WHATEVER THE INPUT: true; the input reads as it did. -/
def grantFallsSpec : ChangeSpec := { name := "grantFalls", fn := fun _ => fun
  | [d1, d2, d3] => { results := [.lit (.bool true)], args := [d1, d2, d3] }
  | _ => none }
def grantFallsRow : OpenClaim := { program := "ytaodplndajeckaa", sum := "6f2cdc5b98370d22c269cf702314e46443309ce5f0862ff00776a4b85fcee715", func := "gatepost/gatepostlaw13.GrantFalls", spec := "grantFalls", unfollowed := true, recurses := true, apart := false }
def GrantFallsSaid : Prop := grantFallsRow.holds Try.pinned (OpenSpec.ofChange grantFallsSpec)

/-- ITS FALSE NEIGHBOUR: 'it returns false'. Refute it at one input. -/
def grantFallsWrong : ChangeSpec := { name := "grantFalls", fn := fun _ => fun
  | [d1, d2, d3] => { results := [.lit (.bool false)], args := [d1, d2, d3] }
  | _ => none }
def GrantFallsWrongFalsely : Prop := grantFallsRow.holds Try.pinned (OpenSpec.ofChange grantFallsWrong)

/-- 'gatepostlaw13.GrantPaths': WHATEVER THE INPUT: true; the input reads as it did. -/
def grantPathsSpec : ChangeSpec := { name := "grantPaths", fn := fun _ => fun
  | [d1, d2, d3] => { results := [.lit (.bool true)], args := [d1, d2, d3] }
  | _ => none }
def grantPathsRow : OpenClaim := { program := "ytaodplndajeckaa", sum := "6f2cdc5b98370d22c269cf702314e46443309ce5f0862ff00776a4b85fcee715", func := "gatepost/gatepostlaw13.GrantPaths", spec := "grantPaths", unfollowed := true, recurses := true, apart := false }
def GrantPathsSaid : Prop := grantPathsRow.holds Try.pinned (OpenSpec.ofChange grantPathsSpec)

/-- ITS FALSE NEIGHBOUR: 'it returns false'. Refute it at one input. -/
def grantPathsWrong : ChangeSpec := { name := "grantPaths", fn := fun _ => fun
  | [d1, d2, d3] => { results := [.lit (.bool false)], args := [d1, d2, d3] }
  | _ => none }
def GrantPathsWrongFalsely : Prop := grantPathsRow.holds Try.pinned (OpenSpec.ofChange grantPathsWrong)

/- THE SECOND FORM. 'bulk': how many values and letters a reading holds, each counted each time it is reached (what is shared counts as often as it is met; a slice's spare places count too). A statement '..UptoSaid' is the law's where the arguments, and the package variables that the reading takes, are together of bulk at most 1048576: NARROWER than '..Said'. Prove '..Said' where nothing that the law and all that it calls make is longer than what came in: it says more and counts as full. Else prove '..UptoSaid'. A law counts once. -/
mutual
def uptoBulk {H : Type} : DataW H → Nat
  | .lit (.string bytes) => bytes.length + 1
  | .lit _ => 1
  | .nil => 1
  | .ptr d => uptoBulk d + 1
  | .slice elems spare => uptoBulkAll elems + uptoBulkAll spare + 1
  | .agg parts => uptoBulkAll parts + 1
  | .iface _ d => uptoBulk d + 1
  | .map entries => uptoBulkEntries entries + 1
  | .held _ => 1
def uptoBulkAll {H : Type} : List (DataW H) → Nat
  | [] => 0
  | d :: r => uptoBulk d + uptoBulkAll r
def uptoBulkEntries {H : Type} : List (Lit × DataW H) → Nat
  | [] => 0
  | x :: r => uptoBulkEntry x + uptoBulkEntries r
def uptoBulkEntry {H : Type} : Lit × DataW H → Nat
  | (.string bytes, d) => bytes.length + uptoBulk d + 1
  | (_, d) => uptoBulk d + 1
 end
def uptoSmall : (H : Type) → List (DataW H) → Bool := fun _ ds => decide (uptoBulkAll ds ≤ 1048576)
def OpenSpec.upto (s : _root_.Go.ChangeSpec) : _root_.Go.OpenSpec := { _root_.Go.OpenSpec.ofChange s with cond := some uptoSmall }

/-- 'gatepostlaw18.CombineTells', WHERE WHAT IT READS IS OF BULK AT MOST 1048576: true; the input reads as it did. -/
def combineTellsUptoRow : OpenClaim := { program := "ytaodplndajeckaa", sum := "6f2cdc5b98370d22c269cf702314e46443309ce5f0862ff00776a4b85fcee715", func := "gatepost/gatepostlaw18.CombineTells", spec := "combineTells", unfollowed := true, recurses := true, apart := false, narrowed := true }
def CombineTellsUptoSaid : Prop := combineTellsUptoRow.holds Try.pinned (OpenSpec.upto combineTellsSpec)

/-- 'gatepostlaw18.CombineTurns', WHERE WHAT IT READS IS OF BULK AT MOST 1048576: true; the input reads as it did. -/
def combineTurnsUptoRow : OpenClaim := { program := "ytaodplndajeckaa", sum := "6f2cdc5b98370d22c269cf702314e46443309ce5f0862ff00776a4b85fcee715", func := "gatepost/gatepostlaw18.CombineTurns", spec := "combineTurns", unfollowed := true, recurses := true, apart := false, narrowed := true }
def CombineTurnsUptoSaid : Prop := combineTurnsUptoRow.holds Try.pinned (OpenSpec.upto combineTurnsSpec)

/-- 'gatepostlaw18.CombineOrder', WHERE WHAT IT READS IS OF BULK AT MOST 1048576: true; the input reads as it did. -/
def combineOrderUptoRow : OpenClaim := { program := "ytaodplndajeckaa", sum := "6f2cdc5b98370d22c269cf702314e46443309ce5f0862ff00776a4b85fcee715", func := "gatepost/gatepostlaw18.CombineOrder", spec := "combineOrder", unfollowed := true, recurses := true, apart := false, narrowed := true }
def CombineOrderUptoSaid : Prop := combineOrderUptoRow.holds Try.pinned (OpenSpec.upto combineOrderSpec)

/-- 'gatepostlaw18.CombineNone', WHERE WHAT IT READS IS OF BULK AT MOST 1048576: true; the input reads as it did. -/
def combineNoneUptoRow : OpenClaim := { program := "ytaodplndajeckaa", sum := "6f2cdc5b98370d22c269cf702314e46443309ce5f0862ff00776a4b85fcee715", func := "gatepost/gatepostlaw18.CombineNone", spec := "combineNone", unfollowed := true, recurses := true, apart := false, narrowed := true }
def CombineNoneUptoSaid : Prop := combineNoneUptoRow.holds Try.pinned (OpenSpec.upto combineNoneSpec)

/-- 'gatepostlaw18.CombineParts', WHERE WHAT IT READS IS OF BULK AT MOST 1048576: true; the input reads as it did. -/
def combinePartsUptoRow : OpenClaim := { program := "ytaodplndajeckaa", sum := "6f2cdc5b98370d22c269cf702314e46443309ce5f0862ff00776a4b85fcee715", func := "gatepost/gatepostlaw18.CombineParts", spec := "combineParts", unfollowed := true, recurses := true, apart := false, narrowed := true }
def CombinePartsUptoSaid : Prop := combinePartsUptoRow.holds Try.pinned (OpenSpec.upto combinePartsSpec)

/-- 'gatepostlaw18.CombineOf', WHERE WHAT IT READS IS OF BULK AT MOST 1048576: true; the input reads as it did. -/
def combineOfUptoRow : OpenClaim := { program := "ytaodplndajeckaa", sum := "6f2cdc5b98370d22c269cf702314e46443309ce5f0862ff00776a4b85fcee715", func := "gatepost/gatepostlaw18.CombineOf", spec := "combineOf", unfollowed := true, recurses := true, apart := false, narrowed := true }
def CombineOfUptoSaid : Prop := combineOfUptoRow.holds Try.pinned (OpenSpec.upto combineOfSpec)

/-- 'gatepostlaw13.GrantTells', WHERE WHAT IT READS IS OF BULK AT MOST 1048576: true; the input reads as it did. -/
def grantTellsUptoRow : OpenClaim := { program := "ytaodplndajeckaa", sum := "6f2cdc5b98370d22c269cf702314e46443309ce5f0862ff00776a4b85fcee715", func := "gatepost/gatepostlaw13.GrantTells", spec := "grantTells", unfollowed := true, recurses := true, apart := false, narrowed := true }
def GrantTellsUptoSaid : Prop := grantTellsUptoRow.holds Try.pinned (OpenSpec.upto grantTellsSpec)

/-- 'gatepostlaw13.GrantLater', WHERE WHAT IT READS IS OF BULK AT MOST 1048576: true; the input reads as it did. -/
def grantLaterUptoRow : OpenClaim := { program := "ytaodplndajeckaa", sum := "6f2cdc5b98370d22c269cf702314e46443309ce5f0862ff00776a4b85fcee715", func := "gatepost/gatepostlaw13.GrantLater", spec := "grantLater", unfollowed := true, recurses := true, apart := false, narrowed := true }
def GrantLaterUptoSaid : Prop := grantLaterUptoRow.holds Try.pinned (OpenSpec.upto grantLaterSpec)

/-- 'gatepostlaw13.GrantPlays', WHERE WHAT IT READS IS OF BULK AT MOST 1048576: true; the input reads as it did. -/
def grantPlaysUptoRow : OpenClaim := { program := "ytaodplndajeckaa", sum := "6f2cdc5b98370d22c269cf702314e46443309ce5f0862ff00776a4b85fcee715", func := "gatepost/gatepostlaw13.GrantPlays", spec := "grantPlays", unfollowed := true, recurses := true, apart := false, narrowed := true }
def GrantPlaysUptoSaid : Prop := grantPlaysUptoRow.holds Try.pinned (OpenSpec.upto grantPlaysSpec)

/-- 'gatepostlaw13.GrantFalls', WHERE WHAT IT READS IS OF BULK AT MOST 1048576: true; the input reads as it did. -/
def grantFallsUptoRow : OpenClaim := { program := "ytaodplndajeckaa", sum := "6f2cdc5b98370d22c269cf702314e46443309ce5f0862ff00776a4b85fcee715", func := "gatepost/gatepostlaw13.GrantFalls", spec := "grantFalls", unfollowed := true, recurses := true, apart := false, narrowed := true }
def GrantFallsUptoSaid : Prop := grantFallsUptoRow.holds Try.pinned (OpenSpec.upto grantFallsSpec)

/-- 'gatepostlaw13.GrantPaths', WHERE WHAT IT READS IS OF BULK AT MOST 1048576: true; the input reads as it did. -/
def grantPathsUptoRow : OpenClaim := { program := "ytaodplndajeckaa", sum := "6f2cdc5b98370d22c269cf702314e46443309ce5f0862ff00776a4b85fcee715", func := "gatepost/gatepostlaw13.GrantPaths", spec := "grantPaths", unfollowed := true, recurses := true, apart := false, narrowed := true }
def GrantPathsUptoSaid : Prop := grantPathsUptoRow.holds Try.pinned (OpenSpec.upto grantPathsSpec)

end Rows
end Go.Proofs.Ytaodplndajeckaa
