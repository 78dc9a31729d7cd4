/-
  NARROWER THAN 'FOR EVERY INPUT', by the rows' own cells (each row's printed sentence says how): NetworkSides: loops · NetworkCompiles: loops · NetworkShares: loops · NetworkHolds: loops.
  DERIVED. THE GIVEN ROWS OF THIS SEAT. 4 by the template 'for every input the law returns true; each argument reads behind the call as it read before'; 0 by the template 'total and deterministic' (their statements: YtgaemhkglmeooaaTotals.lean).
  GIVEN WITH THE SEED: the statements are not yours to turn. If you find one false, say at which input.
  Laid BY PROGRAM, IN A SANDBOX (cutbox-rows.mjs): the forced cells as the released guide's own fill.sh prints them over the translation 2f60a757dfc1ebc2… (all of the seat's roots in one cut). By AI agents, Wed Nov 11 2026. No macro, syntax, notation, axiom, sorry.
-/
import Derived.Test.YtgaemhkglmeooaaChecked
import GoSem.Claim
import GoSem.ClaimJoined
import GoSem.ClaimMapViews
import Derived.JoinedTies
import Derived.KernelRfl
namespace Go.Proofs.Ytgaemhkglmeooaa
/- THE CELL 'sum', in the pinned program and in every row, IS THE sha256 OF THE DUMP (.gsa) THAT YtgaemhkglmeooaaProg.lean LOADS. Nothing in Lean hashes anything: it is a label: what it is worth is what the hold of that sum in a sandbox is worth. -/
noncomputable def Try.pinned : Pinned := { name := "ytgaemhkglmeooaa", sum := "2f60a757dfc1ebc2ef0b01a79cc43c5e6b242308aef665b850c315fab680b015", checked := Try.checked }
namespace Rows
def none {H : Type} : Left H := { results := [], args := [] }

/-- 'gatepostlaw15.NetworkSides': WHATEVER THE INPUT: true; the input reads as it did. -/
def networkSidesSpec : ChangeSpec := { name := "networkSides", fn := fun _ => fun
  | [d] => { results := [.lit (.bool true)], args := [d] }
  | _ => none }
def networkSidesRow : OpenClaim := { program := "ytgaemhkglmeooaa", sum := "2f60a757dfc1ebc2ef0b01a79cc43c5e6b242308aef665b850c315fab680b015", func := "gatepost/gatepostlaw15.NetworkSides", spec := "networkSides", inPlace := ["internal/bytealg.abigen_runtime_cmpstring"], unfollowed := true, recurses := true, loops := true, apart := false }
def NetworkSidesSaid : Prop := networkSidesRow.holds Try.pinned (OpenSpec.ofChange networkSidesSpec)

/-- ITS FALSE NEIGHBOUR: 'it returns false'. Refute it at one input. -/
def networkSidesWrong : ChangeSpec := { name := "networkSides", fn := fun _ => fun
  | [d] => { results := [.lit (.bool false)], args := [d] }
  | _ => none }
def NetworkSidesWrongFalsely : Prop := networkSidesRow.holds Try.pinned (OpenSpec.ofChange networkSidesWrong)

/-- 'gatepostlaw15.NetworkCompiles': WHATEVER THE INPUT: true; the input reads as it did. -/
def networkCompilesSpec : ChangeSpec := { name := "networkCompiles", fn := fun _ => fun
  | [d] => { results := [.lit (.bool true)], args := [d] }
  | _ => none }
def networkCompilesRow : OpenClaim := { program := "ytgaemhkglmeooaa", sum := "2f60a757dfc1ebc2ef0b01a79cc43c5e6b242308aef665b850c315fab680b015", func := "gatepost/gatepostlaw15.NetworkCompiles", spec := "networkCompiles", inPlace := ["internal/bytealg.abigen_runtime_cmpstring"], unfollowed := true, recurses := true, loops := true, apart := false }
def NetworkCompilesSaid : Prop := networkCompilesRow.holds Try.pinned (OpenSpec.ofChange networkCompilesSpec)

/-- ITS FALSE NEIGHBOUR: 'it returns false'. Refute it at one input. -/
def networkCompilesWrong : ChangeSpec := { name := "networkCompiles", fn := fun _ => fun
  | [d] => { results := [.lit (.bool false)], args := [d] }
  | _ => none }
def NetworkCompilesWrongFalsely : Prop := networkCompilesRow.holds Try.pinned (OpenSpec.ofChange networkCompilesWrong)

/-- 'gatepostlaw15.NetworkShares': WHATEVER THE INPUT: true; the input reads as it did. -/
def networkSharesSpec : ChangeSpec := { name := "networkShares", fn := fun _ => fun
  | [d] => { results := [.lit (.bool true)], args := [d] }
  | _ => none }
def networkSharesRow : OpenClaim := { program := "ytgaemhkglmeooaa", sum := "2f60a757dfc1ebc2ef0b01a79cc43c5e6b242308aef665b850c315fab680b015", func := "gatepost/gatepostlaw15.NetworkShares", spec := "networkShares", inPlace := ["internal/bytealg.abigen_runtime_cmpstring"], unfollowed := true, recurses := true, loops := true, apart := false }
def NetworkSharesSaid : Prop := networkSharesRow.holds Try.pinned (OpenSpec.ofChange networkSharesSpec)

/-- ITS FALSE NEIGHBOUR: 'it returns false'. Refute it at one input. -/
def networkSharesWrong : ChangeSpec := { name := "networkShares", fn := fun _ => fun
  | [d] => { results := [.lit (.bool false)], args := [d] }
  | _ => none }
def NetworkSharesWrongFalsely : Prop := networkSharesRow.holds Try.pinned (OpenSpec.ofChange networkSharesWrong)

/-- 'gatepostlaw15.NetworkHolds': WHATEVER THE INPUT: true; the input reads as it did. -/
def networkHoldsSpec : ChangeSpec := { name := "networkHolds", fn := fun _ => fun
  | [d1, d2] => { results := [.lit (.bool true)], args := [d1, d2] }
  | _ => none }
def networkHoldsRow : OpenClaim := { program := "ytgaemhkglmeooaa", sum := "2f60a757dfc1ebc2ef0b01a79cc43c5e6b242308aef665b850c315fab680b015", func := "gatepost/gatepostlaw15.NetworkHolds", spec := "networkHolds", inPlace := ["internal/bytealg.abigen_runtime_cmpstring"], unfollowed := true, recurses := true, loops := true, apart := false }
def NetworkHoldsSaid : Prop := networkHoldsRow.holds Try.pinned (OpenSpec.ofChange networkHoldsSpec)

/-- ITS FALSE NEIGHBOUR: 'it returns false'. Refute it at one input. -/
def networkHoldsWrong : ChangeSpec := { name := "networkHolds", fn := fun _ => fun
  | [d1, d2] => { results := [.lit (.bool false)], args := [d1, d2] }
  | _ => none }
def NetworkHoldsWrongFalsely : Prop := networkHoldsRow.holds Try.pinned (OpenSpec.ofChange networkHoldsWrong)

/- THE SECOND FORM. 'bulk': how many values and letters a reading holds, each counted each time it is reached (what is shared counts as often as it is met; a slice's spare places count too). A statement '..UptoSaid' is the law's where the arguments, and the package variables that the reading takes, are together of bulk at most 1048576: NARROWER than '..Said'. Prove '..Said' where nothing that the law and all that it calls make is longer than what came in: it says more and counts as full. Else prove '..UptoSaid'. A law counts once. -/
mutual
def uptoBulk {H : Type} : DataW H → Nat
  | .lit (.string bytes) => bytes.length + 1
  | .lit _ => 1
  | .nil => 1
  | .ptr d => uptoBulk d + 1
  | .slice elems spare => uptoBulkAll elems + uptoBulkAll spare + 1
  | .agg parts => uptoBulkAll parts + 1
  | .iface _ d => uptoBulk d + 1
  | .map entries => uptoBulkEntries entries + 1
  | .held _ => 1
def uptoBulkAll {H : Type} : List (DataW H) → Nat
  | [] => 0
  | d :: r => uptoBulk d + uptoBulkAll r
def uptoBulkEntries {H : Type} : List (Lit × DataW H) → Nat
  | [] => 0
  | x :: r => uptoBulkEntry x + uptoBulkEntries r
def uptoBulkEntry {H : Type} : Lit × DataW H → Nat
  | (.string bytes, d) => bytes.length + uptoBulk d + 1
  | (_, d) => uptoBulk d + 1
 end
def uptoSmall : (H : Type) → List (DataW H) → Bool := fun _ ds => decide (uptoBulkAll ds ≤ 1048576)
def OpenSpec.upto (s : _root_.Go.ChangeSpec) : _root_.Go.OpenSpec := { _root_.Go.OpenSpec.ofChange s with cond := some uptoSmall }

/-- 'gatepostlaw15.NetworkSides', WHERE WHAT IT READS IS OF BULK AT MOST 1048576: true; the input reads as it did. -/
def networkSidesUptoRow : OpenClaim := { program := "ytgaemhkglmeooaa", sum := "2f60a757dfc1ebc2ef0b01a79cc43c5e6b242308aef665b850c315fab680b015", func := "gatepost/gatepostlaw15.NetworkSides", spec := "networkSides", inPlace := ["internal/bytealg.abigen_runtime_cmpstring"], unfollowed := true, recurses := true, loops := true, apart := false, narrowed := true }
def NetworkSidesUptoSaid : Prop := networkSidesUptoRow.holds Try.pinned (OpenSpec.upto networkSidesSpec)

/-- 'gatepostlaw15.NetworkCompiles', WHERE WHAT IT READS IS OF BULK AT MOST 1048576: true; the input reads as it did. -/
def networkCompilesUptoRow : OpenClaim := { program := "ytgaemhkglmeooaa", sum := "2f60a757dfc1ebc2ef0b01a79cc43c5e6b242308aef665b850c315fab680b015", func := "gatepost/gatepostlaw15.NetworkCompiles", spec := "networkCompiles", inPlace := ["internal/bytealg.abigen_runtime_cmpstring"], unfollowed := true, recurses := true, loops := true, apart := false, narrowed := true }
def NetworkCompilesUptoSaid : Prop := networkCompilesUptoRow.holds Try.pinned (OpenSpec.upto networkCompilesSpec)

/-- 'gatepostlaw15.NetworkShares', WHERE WHAT IT READS IS OF BULK AT MOST 1048576: true; the input reads as it did. -/
def networkSharesUptoRow : OpenClaim := { program := "ytgaemhkglmeooaa", sum := "2f60a757dfc1ebc2ef0b01a79cc43c5e6b242308aef665b850c315fab680b015", func := "gatepost/gatepostlaw15.NetworkShares", spec := "networkShares", inPlace := ["internal/bytealg.abigen_runtime_cmpstring"], unfollowed := true, recurses := true, loops := true, apart := false, narrowed := true }
def NetworkSharesUptoSaid : Prop := networkSharesUptoRow.holds Try.pinned (OpenSpec.upto networkSharesSpec)

/-- 'gatepostlaw15.NetworkHolds', WHERE WHAT IT READS IS OF BULK AT MOST 1048576: true; the input reads as it did. -/
def networkHoldsUptoRow : OpenClaim := { program := "ytgaemhkglmeooaa", sum := "2f60a757dfc1ebc2ef0b01a79cc43c5e6b242308aef665b850c315fab680b015", func := "gatepost/gatepostlaw15.NetworkHolds", spec := "networkHolds", inPlace := ["internal/bytealg.abigen_runtime_cmpstring"], unfollowed := true, recurses := true, loops := true, apart := false, narrowed := true }
def NetworkHoldsUptoSaid : Prop := networkHoldsUptoRow.holds Try.pinned (OpenSpec.upto networkHoldsSpec)

end Rows
end Go.Proofs.Ytgaemhkglmeooaa
