/-
  NARROWER THAN 'FOR EVERY INPUT', by the rows' own cells (each row's printed sentence says how): ShaOf: laid · ShaCuts: laid · ShaOwn: laid · ShaStreams: laid · ShaLinks: laid · ChainHeads: laid · ChainChecks: laid · ChainTells: laid · ChainProves: laid · ChainClashes: laid.
  DERIVED. THE GIVEN ROWS OF THIS SEAT. 10 by the template 'for every input the law returns true; each argument reads behind the call as it read before'; 0 by the template 'total and deterministic' (their statements: YtecnolmpdgfnfaaDoorTotals.lean).
  GIVEN WITH THE SEED: the statements are not yours to turn. If you find one false, say at which input.
  Laid BY PROGRAM, IN A SANDBOX (cutbox-rows.mjs): the forced cells as the released guide's own fill.sh prints them over the translation 9975ad9341c5b880… (all of the seat's roots in one cut). By AI agents, Wed Nov 11 2026. No macro, syntax, notation, axiom, sorry.
-/
import Derived.Test.YtecnolmpdgfnfaaDoorChecked
import GoSem.Claim
import GoSem.ClaimJoined
import GoSem.ClaimMapViews
import Derived.JoinedTies
import Derived.KernelRfl
namespace Go.Proofs.YtecnolmpdgfnfaaDoor
/- THE CELL 'sum', in the pinned program and in every row, IS THE sha256 OF THE DUMP (.gsa) THAT YtecnolmpdgfnfaaDoorProg.lean LOADS. Nothing in Lean hashes anything: it is a label: what it is worth is what the hold of that sum in a sandbox is worth. -/
noncomputable def Tryd.pinned : Pinned := { name := "ytecnolmpdgfnfaadoor", sum := "9975ad9341c5b880bf533477fc01063a59ba5beef9e21cc160f087825433528e", checked := Tryd.checked }
namespace Rows
def none {H : Type} : Left H := { results := [], args := [] }

/- WHAT THE LISTED PACKAGE-LEVEL VARIABLES READ AS WHEN THE CALL BEGINS. Each datum BY PROGRAM (the guide's laid-datum.mjs) off the statement by which the dump's own 'gosem.cut.vars' lays the variable. In a bare row this is a premise. The card (YtecnolmpdgfnfaaDoorCards.lean) ties it to the program's text. -/
def laid_gatepost_sha_rounds {H : Type} : DataW H := .agg [.lit (.int .u32 1116352408), .lit (.int .u32 1899447441), .lit (.int .u32 3049323471), .lit (.int .u32 3921009573), .lit (.int .u32 961987163), .lit (.int .u32 1508970993), .lit (.int .u32 2453635748), .lit (.int .u32 2870763221), .lit (.int .u32 3624381080), .lit (.int .u32 310598401), .lit (.int .u32 607225278), .lit (.int .u32 1426881987), .lit (.int .u32 1925078388), .lit (.int .u32 2162078206), .lit (.int .u32 2614888103), .lit (.int .u32 3248222580), .lit (.int .u32 3835390401), .lit (.int .u32 4022224774), .lit (.int .u32 264347078), .lit (.int .u32 604807628), .lit (.int .u32 770255983), .lit (.int .u32 1249150122), .lit (.int .u32 1555081692), .lit (.int .u32 1996064986), .lit (.int .u32 2554220882), .lit (.int .u32 2821834349), .lit (.int .u32 2952996808), .lit (.int .u32 3210313671), .lit (.int .u32 3336571891), .lit (.int .u32 3584528711), .lit (.int .u32 113926993), .lit (.int .u32 338241895), .lit (.int .u32 666307205), .lit (.int .u32 773529912), .lit (.int .u32 1294757372), .lit (.int .u32 1396182291), .lit (.int .u32 1695183700), .lit (.int .u32 1986661051), .lit (.int .u32 2177026350), .lit (.int .u32 2456956037), .lit (.int .u32 2730485921), .lit (.int .u32 2820302411), .lit (.int .u32 3259730800), .lit (.int .u32 3345764771), .lit (.int .u32 3516065817), .lit (.int .u32 3600352804), .lit (.int .u32 4094571909), .lit (.int .u32 275423344), .lit (.int .u32 430227734), .lit (.int .u32 506948616), .lit (.int .u32 659060556), .lit (.int .u32 883997877), .lit (.int .u32 958139571), .lit (.int .u32 1322822218), .lit (.int .u32 1537002063), .lit (.int .u32 1747873779), .lit (.int .u32 1955562222), .lit (.int .u32 2024104815), .lit (.int .u32 2227730452), .lit (.int .u32 2361852424), .lit (.int .u32 2428436474), .lit (.int .u32 2756734187), .lit (.int .u32 3204031479), .lit (.int .u32 3329325298)]

/-- 'gatepostlaw01.ShaOf': WHATEVER THE INPUT: true; the input reads as it did. -/
def shaOfSpec : ChangeSpec := { name := "shaOf", fn := fun _ => fun
  | [d] => { results := [.lit (.bool true)], args := [d] }
  | _ => none }
def shaOfRow : OpenClaim := { program := "ytecnolmpdgfnfaadoor", sum := "9975ad9341c5b880bf533477fc01063a59ba5beef9e21cc160f087825433528e", func := "gatepost/gatepostlaw01.ShaOf", spec := "shaOf", named := ["gatepost/sha.rounds"], apart := false, laid := [("gatepost/sha.rounds", laid_gatepost_sha_rounds)] }
def ShaOfSaid : Prop := shaOfRow.holds Tryd.pinned (OpenSpec.ofChange shaOfSpec)

/-- ITS FALSE NEIGHBOUR: 'it returns false'. Refute it at one input. -/
def shaOfWrong : ChangeSpec := { name := "shaOf", fn := fun _ => fun
  | [d] => { results := [.lit (.bool false)], args := [d] }
  | _ => none }
def ShaOfWrongFalsely : Prop := shaOfRow.holds Tryd.pinned (OpenSpec.ofChange shaOfWrong)

/-- 'gatepostlaw01.ShaCuts': WHATEVER THE INPUT: true; the input reads as it did. -/
def shaCutsSpec : ChangeSpec := { name := "shaCuts", fn := fun _ => fun
  | [d1, d2] => { results := [.lit (.bool true)], args := [d1, d2] }
  | _ => none }
def shaCutsRow : OpenClaim := { program := "ytecnolmpdgfnfaadoor", sum := "9975ad9341c5b880bf533477fc01063a59ba5beef9e21cc160f087825433528e", func := "gatepost/gatepostlaw01.ShaCuts", spec := "shaCuts", named := ["gatepost/sha.rounds"], apart := false, laid := [("gatepost/sha.rounds", laid_gatepost_sha_rounds)] }
def ShaCutsSaid : Prop := shaCutsRow.holds Tryd.pinned (OpenSpec.ofChange shaCutsSpec)

/-- ITS FALSE NEIGHBOUR: 'it returns false'. Refute it at one input. -/
def shaCutsWrong : ChangeSpec := { name := "shaCuts", fn := fun _ => fun
  | [d1, d2] => { results := [.lit (.bool false)], args := [d1, d2] }
  | _ => none }
def ShaCutsWrongFalsely : Prop := shaCutsRow.holds Tryd.pinned (OpenSpec.ofChange shaCutsWrong)

/-- 'gatepostlaw01.ShaOwn': WHATEVER THE INPUT: true; the input reads as it did. -/
def shaOwnSpec : ChangeSpec := { name := "shaOwn", fn := fun _ => fun
  | [d] => { results := [.lit (.bool true)], args := [d] }
  | _ => none }
def shaOwnRow : OpenClaim := { program := "ytecnolmpdgfnfaadoor", sum := "9975ad9341c5b880bf533477fc01063a59ba5beef9e21cc160f087825433528e", func := "gatepost/gatepostlaw01.ShaOwn", spec := "shaOwn", named := ["gatepost/sha.rounds"], apart := false, laid := [("gatepost/sha.rounds", laid_gatepost_sha_rounds)] }
def ShaOwnSaid : Prop := shaOwnRow.holds Tryd.pinned (OpenSpec.ofChange shaOwnSpec)

/-- ITS FALSE NEIGHBOUR: 'it returns false'. Refute it at one input. -/
def shaOwnWrong : ChangeSpec := { name := "shaOwn", fn := fun _ => fun
  | [d] => { results := [.lit (.bool false)], args := [d] }
  | _ => none }
def ShaOwnWrongFalsely : Prop := shaOwnRow.holds Tryd.pinned (OpenSpec.ofChange shaOwnWrong)

/-- 'gatepostlaw01.ShaStreams': WHATEVER THE INPUT: true; the input reads as it did. -/
def shaStreamsSpec : ChangeSpec := { name := "shaStreams", fn := fun _ => fun
  | [d1, d2] => { results := [.lit (.bool true)], args := [d1, d2] }
  | _ => none }
def shaStreamsRow : OpenClaim := { program := "ytecnolmpdgfnfaadoor", sum := "9975ad9341c5b880bf533477fc01063a59ba5beef9e21cc160f087825433528e", func := "gatepost/gatepostlaw01.ShaStreams", spec := "shaStreams", named := ["gatepost/sha.rounds"], apart := false, laid := [("gatepost/sha.rounds", laid_gatepost_sha_rounds)] }
def ShaStreamsSaid : Prop := shaStreamsRow.holds Tryd.pinned (OpenSpec.ofChange shaStreamsSpec)

/-- ITS FALSE NEIGHBOUR: 'it returns false'. Refute it at one input. -/
def shaStreamsWrong : ChangeSpec := { name := "shaStreams", fn := fun _ => fun
  | [d1, d2] => { results := [.lit (.bool false)], args := [d1, d2] }
  | _ => none }
def ShaStreamsWrongFalsely : Prop := shaStreamsRow.holds Tryd.pinned (OpenSpec.ofChange shaStreamsWrong)

/-- 'gatepostlaw01.ShaLinks': WHATEVER THE INPUT: true; the input reads as it did. -/
def shaLinksSpec : ChangeSpec := { name := "shaLinks", fn := fun _ => fun
  | [d1, d2] => { results := [.lit (.bool true)], args := [d1, d2] }
  | _ => none }
def shaLinksRow : OpenClaim := { program := "ytecnolmpdgfnfaadoor", sum := "9975ad9341c5b880bf533477fc01063a59ba5beef9e21cc160f087825433528e", func := "gatepost/gatepostlaw01.ShaLinks", spec := "shaLinks", named := ["gatepost/sha.rounds"], apart := false, laid := [("gatepost/sha.rounds", laid_gatepost_sha_rounds)] }
def ShaLinksSaid : Prop := shaLinksRow.holds Tryd.pinned (OpenSpec.ofChange shaLinksSpec)

/-- ITS FALSE NEIGHBOUR: 'it returns false'. Refute it at one input. -/
def shaLinksWrong : ChangeSpec := { name := "shaLinks", fn := fun _ => fun
  | [d1, d2] => { results := [.lit (.bool false)], args := [d1, d2] }
  | _ => none }
def ShaLinksWrongFalsely : Prop := shaLinksRow.holds Tryd.pinned (OpenSpec.ofChange shaLinksWrong)

/-- 'gatepostlaw05.ChainHeads': WHATEVER THE INPUT: true; the input reads as it did. -/
def chainHeadsSpec : ChangeSpec := { name := "chainHeads", fn := fun _ => fun
  | [d] => { results := [.lit (.bool true)], args := [d] }
  | _ => none }
def chainHeadsRow : OpenClaim := { program := "ytecnolmpdgfnfaadoor", sum := "9975ad9341c5b880bf533477fc01063a59ba5beef9e21cc160f087825433528e", func := "gatepost/gatepostlaw05.ChainHeads", spec := "chainHeads", named := ["gatepost/sha.rounds"], apart := false, laid := [("gatepost/sha.rounds", laid_gatepost_sha_rounds)] }
def ChainHeadsSaid : Prop := chainHeadsRow.holds Tryd.pinned (OpenSpec.ofChange chainHeadsSpec)

/-- ITS FALSE NEIGHBOUR: 'it returns false'. Refute it at one input. -/
def chainHeadsWrong : ChangeSpec := { name := "chainHeads", fn := fun _ => fun
  | [d] => { results := [.lit (.bool false)], args := [d] }
  | _ => none }
def ChainHeadsWrongFalsely : Prop := chainHeadsRow.holds Tryd.pinned (OpenSpec.ofChange chainHeadsWrong)

/-- 'gatepostlaw05.ChainChecks': WHATEVER THE INPUT: true; the input reads as it did. -/
def chainChecksSpec : ChangeSpec := { name := "chainChecks", fn := fun _ => fun
  | [d1, d2, d3] => { results := [.lit (.bool true)], args := [d1, d2, d3] }
  | _ => none }
def chainChecksRow : OpenClaim := { program := "ytecnolmpdgfnfaadoor", sum := "9975ad9341c5b880bf533477fc01063a59ba5beef9e21cc160f087825433528e", func := "gatepost/gatepostlaw05.ChainChecks", spec := "chainChecks", named := ["gatepost/sha.rounds"], apart := false, laid := [("gatepost/sha.rounds", laid_gatepost_sha_rounds)] }
def ChainChecksSaid : Prop := chainChecksRow.holds Tryd.pinned (OpenSpec.ofChange chainChecksSpec)

/-- ITS FALSE NEIGHBOUR: 'it returns false'. Refute it at one input. -/
def chainChecksWrong : ChangeSpec := { name := "chainChecks", fn := fun _ => fun
  | [d1, d2, d3] => { results := [.lit (.bool false)], args := [d1, d2, d3] }
  | _ => none }
def ChainChecksWrongFalsely : Prop := chainChecksRow.holds Tryd.pinned (OpenSpec.ofChange chainChecksWrong)

/-- 'gatepostlaw05.ChainTells': WHATEVER THE INPUT: true; the input reads as it did. -/
def chainTellsSpec : ChangeSpec := { name := "chainTells", fn := fun _ => fun
  | [d1, d2, d3] => { results := [.lit (.bool true)], args := [d1, d2, d3] }
  | _ => none }
def chainTellsRow : OpenClaim := { program := "ytecnolmpdgfnfaadoor", sum := "9975ad9341c5b880bf533477fc01063a59ba5beef9e21cc160f087825433528e", func := "gatepost/gatepostlaw05.ChainTells", spec := "chainTells", named := ["gatepost/sha.rounds"], apart := false, laid := [("gatepost/sha.rounds", laid_gatepost_sha_rounds)] }
def ChainTellsSaid : Prop := chainTellsRow.holds Tryd.pinned (OpenSpec.ofChange chainTellsSpec)

/-- ITS FALSE NEIGHBOUR: 'it returns false'. Refute it at one input. -/
def chainTellsWrong : ChangeSpec := { name := "chainTells", fn := fun _ => fun
  | [d1, d2, d3] => { results := [.lit (.bool false)], args := [d1, d2, d3] }
  | _ => none }
def ChainTellsWrongFalsely : Prop := chainTellsRow.holds Tryd.pinned (OpenSpec.ofChange chainTellsWrong)

/-- 'gatepostlaw05.ChainProves': WHATEVER THE INPUT: true; the input reads as it did. -/
def chainProvesSpec : ChangeSpec := { name := "chainProves", fn := fun _ => fun
  | [d1, d2] => { results := [.lit (.bool true)], args := [d1, d2] }
  | _ => none }
def chainProvesRow : OpenClaim := { program := "ytecnolmpdgfnfaadoor", sum := "9975ad9341c5b880bf533477fc01063a59ba5beef9e21cc160f087825433528e", func := "gatepost/gatepostlaw05.ChainProves", spec := "chainProves", named := ["gatepost/sha.rounds"], apart := false, laid := [("gatepost/sha.rounds", laid_gatepost_sha_rounds)] }
def ChainProvesSaid : Prop := chainProvesRow.holds Tryd.pinned (OpenSpec.ofChange chainProvesSpec)

/-- ITS FALSE NEIGHBOUR: 'it returns false'. Refute it at one input. -/
def chainProvesWrong : ChangeSpec := { name := "chainProves", fn := fun _ => fun
  | [d1, d2] => { results := [.lit (.bool false)], args := [d1, d2] }
  | _ => none }
def ChainProvesWrongFalsely : Prop := chainProvesRow.holds Tryd.pinned (OpenSpec.ofChange chainProvesWrong)

/-- 'gatepostlaw05.ChainClashes': WHATEVER THE INPUT: true; the input reads as it did. -/
def chainClashesSpec : ChangeSpec := { name := "chainClashes", fn := fun _ => fun
  | [d1, d2] => { results := [.lit (.bool true)], args := [d1, d2] }
  | _ => none }
def chainClashesRow : OpenClaim := { program := "ytecnolmpdgfnfaadoor", sum := "9975ad9341c5b880bf533477fc01063a59ba5beef9e21cc160f087825433528e", func := "gatepost/gatepostlaw05.ChainClashes", spec := "chainClashes", inPlace := ["internal/bytealg.MakeNoZero"], named := ["gatepost/sha.rounds"], apart := false, laid := [("gatepost/sha.rounds", laid_gatepost_sha_rounds)] }
def ChainClashesSaid : Prop := chainClashesRow.holds Tryd.pinned (OpenSpec.ofChange chainClashesSpec)

/-- ITS FALSE NEIGHBOUR: 'it returns false'. Refute it at one input. -/
def chainClashesWrong : ChangeSpec := { name := "chainClashes", fn := fun _ => fun
  | [d1, d2] => { results := [.lit (.bool false)], args := [d1, d2] }
  | _ => none }
def ChainClashesWrongFalsely : Prop := chainClashesRow.holds Tryd.pinned (OpenSpec.ofChange chainClashesWrong)

/- THE SECOND FORM. 'bulk': how many values and letters a reading holds, each counted each time it is reached (what is shared counts as often as it is met; a slice's spare places count too). A statement '..UptoSaid' is the law's where the arguments, and the package variables that the reading takes, are together of bulk at most 1048576: NARROWER than '..Said'. Prove '..Said' where nothing that the law and all that it calls make is longer than what came in: it says more and counts as full. Else prove '..UptoSaid'. A law counts once. -/
mutual
def uptoBulk {H : Type} : DataW H → Nat
  | .lit (.string bytes) => bytes.length + 1
  | .lit _ => 1
  | .nil => 1
  | .ptr d => uptoBulk d + 1
  | .slice elems spare => uptoBulkAll elems + uptoBulkAll spare + 1
  | .agg parts => uptoBulkAll parts + 1
  | .iface _ d => uptoBulk d + 1
  | .map entries => uptoBulkEntries entries + 1
  | .held _ => 1
def uptoBulkAll {H : Type} : List (DataW H) → Nat
  | [] => 0
  | d :: r => uptoBulk d + uptoBulkAll r
def uptoBulkEntries {H : Type} : List (Lit × DataW H) → Nat
  | [] => 0
  | x :: r => uptoBulkEntry x + uptoBulkEntries r
def uptoBulkEntry {H : Type} : Lit × DataW H → Nat
  | (.string bytes, d) => bytes.length + uptoBulk d + 1
  | (_, d) => uptoBulk d + 1
 end
def uptoSmall : (H : Type) → List (DataW H) → Bool := fun _ ds => decide (uptoBulkAll ds ≤ 1048576)
def OpenSpec.upto (s : _root_.Go.ChangeSpec) : _root_.Go.OpenSpec := { _root_.Go.OpenSpec.ofChange s with cond := some uptoSmall }

/-- 'gatepostlaw01.ShaOf', WHERE WHAT IT READS IS OF BULK AT MOST 1048576: true; the input reads as it did. -/
def shaOfUptoRow : OpenClaim := { program := "ytecnolmpdgfnfaadoor", sum := "9975ad9341c5b880bf533477fc01063a59ba5beef9e21cc160f087825433528e", func := "gatepost/gatepostlaw01.ShaOf", spec := "shaOf", named := ["gatepost/sha.rounds"], apart := false, laid := [("gatepost/sha.rounds", laid_gatepost_sha_rounds)], narrowed := true }
def ShaOfUptoSaid : Prop := shaOfUptoRow.holds Tryd.pinned (OpenSpec.upto shaOfSpec)

/-- 'gatepostlaw01.ShaCuts', WHERE WHAT IT READS IS OF BULK AT MOST 1048576: true; the input reads as it did. -/
def shaCutsUptoRow : OpenClaim := { program := "ytecnolmpdgfnfaadoor", sum := "9975ad9341c5b880bf533477fc01063a59ba5beef9e21cc160f087825433528e", func := "gatepost/gatepostlaw01.ShaCuts", spec := "shaCuts", named := ["gatepost/sha.rounds"], apart := false, laid := [("gatepost/sha.rounds", laid_gatepost_sha_rounds)], narrowed := true }
def ShaCutsUptoSaid : Prop := shaCutsUptoRow.holds Tryd.pinned (OpenSpec.upto shaCutsSpec)

/-- 'gatepostlaw01.ShaOwn', WHERE WHAT IT READS IS OF BULK AT MOST 1048576: true; the input reads as it did. -/
def shaOwnUptoRow : OpenClaim := { program := "ytecnolmpdgfnfaadoor", sum := "9975ad9341c5b880bf533477fc01063a59ba5beef9e21cc160f087825433528e", func := "gatepost/gatepostlaw01.ShaOwn", spec := "shaOwn", named := ["gatepost/sha.rounds"], apart := false, laid := [("gatepost/sha.rounds", laid_gatepost_sha_rounds)], narrowed := true }
def ShaOwnUptoSaid : Prop := shaOwnUptoRow.holds Tryd.pinned (OpenSpec.upto shaOwnSpec)

/-- 'gatepostlaw01.ShaStreams', WHERE WHAT IT READS IS OF BULK AT MOST 1048576: true; the input reads as it did. -/
def shaStreamsUptoRow : OpenClaim := { program := "ytecnolmpdgfnfaadoor", sum := "9975ad9341c5b880bf533477fc01063a59ba5beef9e21cc160f087825433528e", func := "gatepost/gatepostlaw01.ShaStreams", spec := "shaStreams", named := ["gatepost/sha.rounds"], apart := false, laid := [("gatepost/sha.rounds", laid_gatepost_sha_rounds)], narrowed := true }
def ShaStreamsUptoSaid : Prop := shaStreamsUptoRow.holds Tryd.pinned (OpenSpec.upto shaStreamsSpec)

/-- 'gatepostlaw01.ShaLinks', WHERE WHAT IT READS IS OF BULK AT MOST 1048576: true; the input reads as it did. -/
def shaLinksUptoRow : OpenClaim := { program := "ytecnolmpdgfnfaadoor", sum := "9975ad9341c5b880bf533477fc01063a59ba5beef9e21cc160f087825433528e", func := "gatepost/gatepostlaw01.ShaLinks", spec := "shaLinks", named := ["gatepost/sha.rounds"], apart := false, laid := [("gatepost/sha.rounds", laid_gatepost_sha_rounds)], narrowed := true }
def ShaLinksUptoSaid : Prop := shaLinksUptoRow.holds Tryd.pinned (OpenSpec.upto shaLinksSpec)

/-- 'gatepostlaw05.ChainHeads', WHERE WHAT IT READS IS OF BULK AT MOST 1048576: true; the input reads as it did. -/
def chainHeadsUptoRow : OpenClaim := { program := "ytecnolmpdgfnfaadoor", sum := "9975ad9341c5b880bf533477fc01063a59ba5beef9e21cc160f087825433528e", func := "gatepost/gatepostlaw05.ChainHeads", spec := "chainHeads", named := ["gatepost/sha.rounds"], apart := false, laid := [("gatepost/sha.rounds", laid_gatepost_sha_rounds)], narrowed := true }
def ChainHeadsUptoSaid : Prop := chainHeadsUptoRow.holds Tryd.pinned (OpenSpec.upto chainHeadsSpec)

/-- 'gatepostlaw05.ChainChecks', WHERE WHAT IT READS IS OF BULK AT MOST 1048576: true; the input reads as it did. -/
def chainChecksUptoRow : OpenClaim := { program := "ytecnolmpdgfnfaadoor", sum := "9975ad9341c5b880bf533477fc01063a59ba5beef9e21cc160f087825433528e", func := "gatepost/gatepostlaw05.ChainChecks", spec := "chainChecks", named := ["gatepost/sha.rounds"], apart := false, laid := [("gatepost/sha.rounds", laid_gatepost_sha_rounds)], narrowed := true }
def ChainChecksUptoSaid : Prop := chainChecksUptoRow.holds Tryd.pinned (OpenSpec.upto chainChecksSpec)

/-- 'gatepostlaw05.ChainTells', WHERE WHAT IT READS IS OF BULK AT MOST 1048576: true; the input reads as it did. -/
def chainTellsUptoRow : OpenClaim := { program := "ytecnolmpdgfnfaadoor", sum := "9975ad9341c5b880bf533477fc01063a59ba5beef9e21cc160f087825433528e", func := "gatepost/gatepostlaw05.ChainTells", spec := "chainTells", named := ["gatepost/sha.rounds"], apart := false, laid := [("gatepost/sha.rounds", laid_gatepost_sha_rounds)], narrowed := true }
def ChainTellsUptoSaid : Prop := chainTellsUptoRow.holds Tryd.pinned (OpenSpec.upto chainTellsSpec)

/-- 'gatepostlaw05.ChainProves', WHERE WHAT IT READS IS OF BULK AT MOST 1048576: true; the input reads as it did. -/
def chainProvesUptoRow : OpenClaim := { program := "ytecnolmpdgfnfaadoor", sum := "9975ad9341c5b880bf533477fc01063a59ba5beef9e21cc160f087825433528e", func := "gatepost/gatepostlaw05.ChainProves", spec := "chainProves", named := ["gatepost/sha.rounds"], apart := false, laid := [("gatepost/sha.rounds", laid_gatepost_sha_rounds)], narrowed := true }
def ChainProvesUptoSaid : Prop := chainProvesUptoRow.holds Tryd.pinned (OpenSpec.upto chainProvesSpec)

/-- 'gatepostlaw05.ChainClashes', WHERE WHAT IT READS IS OF BULK AT MOST 1048576: true; the input reads as it did. -/
def chainClashesUptoRow : OpenClaim := { program := "ytecnolmpdgfnfaadoor", sum := "9975ad9341c5b880bf533477fc01063a59ba5beef9e21cc160f087825433528e", func := "gatepost/gatepostlaw05.ChainClashes", spec := "chainClashes", inPlace := ["internal/bytealg.MakeNoZero"], named := ["gatepost/sha.rounds"], apart := false, laid := [("gatepost/sha.rounds", laid_gatepost_sha_rounds)], narrowed := true }
def ChainClashesUptoSaid : Prop := chainClashesUptoRow.holds Tryd.pinned (OpenSpec.upto chainClashesSpec)

end Rows
end Go.Proofs.YtecnolmpdgfnfaaDoor
