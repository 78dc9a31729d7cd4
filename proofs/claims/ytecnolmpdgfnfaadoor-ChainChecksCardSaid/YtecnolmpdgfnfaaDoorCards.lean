/-
  DERIVED. GIVEN WITH THE SEED: THE CARDS: each row of YtecnolmpdgfnfaaDoorRows.lean that lists a variable, with what it lists TIED to the program's text (the seventh form; the later family's looks); each row that meets fmt, with fmt's text TOLD by the authors' own Lean function (tested against real Go, not proved from fmt's source: count such statements apart). THE CARD IS WHAT COUNTS. Prove the row's statement (the work); the ties are given (YtecnolmpdgfnfaaDoorTie.lean); close each card by the builder's one call (the guide's Derived/Test/ToyasCard.lean, 'card_holds'). Laid BY PROGRAM, IN A SANDBOX (cutbox-door.mjs). By AI agents, Wed Nov 11 2026. No macro, syntax, notation, axiom, sorry.
-/
import Derived.Test.YtecnolmpdgfnfaaDoorRows
import GoSem.ClaimSeven
namespace Go.Proofs.YtecnolmpdgfnfaaDoor
namespace Rows

/-- THE TIED CARD OF 'gatepostlaw01.ShaOf'. -/
def shaOfCard : Claim7 := { stood := { row := shaOfRow, standIns := [], harness := (true, "de38142130d44a5ad792aca1aeb4b43498d88e92f03c0bcb5458800fe619e2f1"), looks := false }, kinds := [], alts := [], laidByText := true, laidKinds := [.data], laidTests := true, laidLooks := .later }
def ShaOfCardSaid : Prop := Claim7.holds Tryd.pinned (.plain (OpenSpec.ofChange shaOfSpec)) shaOfCard

/-- THE TIED CARD OF 'gatepostlaw01.ShaCuts'. -/
def shaCutsCard : Claim7 := { stood := { row := shaCutsRow, standIns := [], harness := (true, "de38142130d44a5ad792aca1aeb4b43498d88e92f03c0bcb5458800fe619e2f1"), looks := false }, kinds := [], alts := [], laidByText := true, laidKinds := [.data], laidTests := true, laidLooks := .later }
def ShaCutsCardSaid : Prop := Claim7.holds Tryd.pinned (.plain (OpenSpec.ofChange shaCutsSpec)) shaCutsCard

/-- THE TIED CARD OF 'gatepostlaw01.ShaOwn'. -/
def shaOwnCard : Claim7 := { stood := { row := shaOwnRow, standIns := [], harness := (true, "de38142130d44a5ad792aca1aeb4b43498d88e92f03c0bcb5458800fe619e2f1"), looks := false }, kinds := [], alts := [], laidByText := true, laidKinds := [.data], laidTests := true, laidLooks := .later }
def ShaOwnCardSaid : Prop := Claim7.holds Tryd.pinned (.plain (OpenSpec.ofChange shaOwnSpec)) shaOwnCard

/-- THE TIED CARD OF 'gatepostlaw01.ShaStreams'. -/
def shaStreamsCard : Claim7 := { stood := { row := shaStreamsRow, standIns := [], harness := (true, "de38142130d44a5ad792aca1aeb4b43498d88e92f03c0bcb5458800fe619e2f1"), looks := false }, kinds := [], alts := [], laidByText := true, laidKinds := [.data], laidTests := true, laidLooks := .later }
def ShaStreamsCardSaid : Prop := Claim7.holds Tryd.pinned (.plain (OpenSpec.ofChange shaStreamsSpec)) shaStreamsCard

/-- THE TIED CARD OF 'gatepostlaw01.ShaLinks'. -/
def shaLinksCard : Claim7 := { stood := { row := shaLinksRow, standIns := [], harness := (true, "de38142130d44a5ad792aca1aeb4b43498d88e92f03c0bcb5458800fe619e2f1"), looks := false }, kinds := [], alts := [], laidByText := true, laidKinds := [.data], laidTests := true, laidLooks := .later }
def ShaLinksCardSaid : Prop := Claim7.holds Tryd.pinned (.plain (OpenSpec.ofChange shaLinksSpec)) shaLinksCard

/-- THE TIED CARD OF 'gatepostlaw05.ChainHeads'. -/
def chainHeadsCard : Claim7 := { stood := { row := chainHeadsRow, standIns := [], harness := (true, "de38142130d44a5ad792aca1aeb4b43498d88e92f03c0bcb5458800fe619e2f1"), looks := false }, kinds := [], alts := [], laidByText := true, laidKinds := [.data], laidTests := true, laidLooks := .later }
def ChainHeadsCardSaid : Prop := Claim7.holds Tryd.pinned (.plain (OpenSpec.ofChange chainHeadsSpec)) chainHeadsCard

/-- THE TIED CARD OF 'gatepostlaw05.ChainChecks'. -/
def chainChecksCard : Claim7 := { stood := { row := chainChecksRow, standIns := [], harness := (true, "de38142130d44a5ad792aca1aeb4b43498d88e92f03c0bcb5458800fe619e2f1"), looks := false }, kinds := [], alts := [], laidByText := true, laidKinds := [.data], laidTests := true, laidLooks := .later }
def ChainChecksCardSaid : Prop := Claim7.holds Tryd.pinned (.plain (OpenSpec.ofChange chainChecksSpec)) chainChecksCard

/-- THE TIED CARD OF 'gatepostlaw05.ChainTells'. -/
def chainTellsCard : Claim7 := { stood := { row := chainTellsRow, standIns := [], harness := (true, "de38142130d44a5ad792aca1aeb4b43498d88e92f03c0bcb5458800fe619e2f1"), looks := false }, kinds := [], alts := [], laidByText := true, laidKinds := [.data], laidTests := true, laidLooks := .later }
def ChainTellsCardSaid : Prop := Claim7.holds Tryd.pinned (.plain (OpenSpec.ofChange chainTellsSpec)) chainTellsCard

/-- THE TIED CARD OF 'gatepostlaw05.ChainProves'. -/
def chainProvesCard : Claim7 := { stood := { row := chainProvesRow, standIns := [], harness := (true, "de38142130d44a5ad792aca1aeb4b43498d88e92f03c0bcb5458800fe619e2f1"), looks := false }, kinds := [], alts := [], laidByText := true, laidKinds := [.data], laidTests := true, laidLooks := .later }
def ChainProvesCardSaid : Prop := Claim7.holds Tryd.pinned (.plain (OpenSpec.ofChange chainProvesSpec)) chainProvesCard

/-- THE TIED CARD OF 'gatepostlaw05.ChainClashes'. -/
def chainClashesCard : Claim7 := { stood := { row := chainClashesRow, standIns := [], harness := (true, "de38142130d44a5ad792aca1aeb4b43498d88e92f03c0bcb5458800fe619e2f1"), looks := false }, kinds := [], alts := [], laidByText := true, laidKinds := [.data], laidTests := true, laidLooks := .later }
def ChainClashesCardSaid : Prop := Claim7.holds Tryd.pinned (.plain (OpenSpec.ofChange chainClashesSpec)) chainClashesCard

/-- THE SECOND FORM's CARD OF 'gatepostlaw01.ShaOf'. -/
def shaOfUptoCard : Claim7 := { stood := { row := shaOfUptoRow, standIns := [], harness := (true, "de38142130d44a5ad792aca1aeb4b43498d88e92f03c0bcb5458800fe619e2f1"), looks := false }, kinds := [], alts := [], laidByText := true, laidKinds := [.data], laidTests := true, laidLooks := .later }
def ShaOfUptoCardSaid : Prop := Claim7.holds Tryd.pinned (.plain (OpenSpec.upto shaOfSpec)) shaOfUptoCard

/-- THE SECOND FORM's CARD OF 'gatepostlaw01.ShaCuts'. -/
def shaCutsUptoCard : Claim7 := { stood := { row := shaCutsUptoRow, standIns := [], harness := (true, "de38142130d44a5ad792aca1aeb4b43498d88e92f03c0bcb5458800fe619e2f1"), looks := false }, kinds := [], alts := [], laidByText := true, laidKinds := [.data], laidTests := true, laidLooks := .later }
def ShaCutsUptoCardSaid : Prop := Claim7.holds Tryd.pinned (.plain (OpenSpec.upto shaCutsSpec)) shaCutsUptoCard

/-- THE SECOND FORM's CARD OF 'gatepostlaw01.ShaOwn'. -/
def shaOwnUptoCard : Claim7 := { stood := { row := shaOwnUptoRow, standIns := [], harness := (true, "de38142130d44a5ad792aca1aeb4b43498d88e92f03c0bcb5458800fe619e2f1"), looks := false }, kinds := [], alts := [], laidByText := true, laidKinds := [.data], laidTests := true, laidLooks := .later }
def ShaOwnUptoCardSaid : Prop := Claim7.holds Tryd.pinned (.plain (OpenSpec.upto shaOwnSpec)) shaOwnUptoCard

/-- THE SECOND FORM's CARD OF 'gatepostlaw01.ShaStreams'. -/
def shaStreamsUptoCard : Claim7 := { stood := { row := shaStreamsUptoRow, standIns := [], harness := (true, "de38142130d44a5ad792aca1aeb4b43498d88e92f03c0bcb5458800fe619e2f1"), looks := false }, kinds := [], alts := [], laidByText := true, laidKinds := [.data], laidTests := true, laidLooks := .later }
def ShaStreamsUptoCardSaid : Prop := Claim7.holds Tryd.pinned (.plain (OpenSpec.upto shaStreamsSpec)) shaStreamsUptoCard

/-- THE SECOND FORM's CARD OF 'gatepostlaw01.ShaLinks'. -/
def shaLinksUptoCard : Claim7 := { stood := { row := shaLinksUptoRow, standIns := [], harness := (true, "de38142130d44a5ad792aca1aeb4b43498d88e92f03c0bcb5458800fe619e2f1"), looks := false }, kinds := [], alts := [], laidByText := true, laidKinds := [.data], laidTests := true, laidLooks := .later }
def ShaLinksUptoCardSaid : Prop := Claim7.holds Tryd.pinned (.plain (OpenSpec.upto shaLinksSpec)) shaLinksUptoCard

/-- THE SECOND FORM's CARD OF 'gatepostlaw05.ChainHeads'. -/
def chainHeadsUptoCard : Claim7 := { stood := { row := chainHeadsUptoRow, standIns := [], harness := (true, "de38142130d44a5ad792aca1aeb4b43498d88e92f03c0bcb5458800fe619e2f1"), looks := false }, kinds := [], alts := [], laidByText := true, laidKinds := [.data], laidTests := true, laidLooks := .later }
def ChainHeadsUptoCardSaid : Prop := Claim7.holds Tryd.pinned (.plain (OpenSpec.upto chainHeadsSpec)) chainHeadsUptoCard

/-- THE SECOND FORM's CARD OF 'gatepostlaw05.ChainChecks'. -/
def chainChecksUptoCard : Claim7 := { stood := { row := chainChecksUptoRow, standIns := [], harness := (true, "de38142130d44a5ad792aca1aeb4b43498d88e92f03c0bcb5458800fe619e2f1"), looks := false }, kinds := [], alts := [], laidByText := true, laidKinds := [.data], laidTests := true, laidLooks := .later }
def ChainChecksUptoCardSaid : Prop := Claim7.holds Tryd.pinned (.plain (OpenSpec.upto chainChecksSpec)) chainChecksUptoCard

/-- THE SECOND FORM's CARD OF 'gatepostlaw05.ChainTells'. -/
def chainTellsUptoCard : Claim7 := { stood := { row := chainTellsUptoRow, standIns := [], harness := (true, "de38142130d44a5ad792aca1aeb4b43498d88e92f03c0bcb5458800fe619e2f1"), looks := false }, kinds := [], alts := [], laidByText := true, laidKinds := [.data], laidTests := true, laidLooks := .later }
def ChainTellsUptoCardSaid : Prop := Claim7.holds Tryd.pinned (.plain (OpenSpec.upto chainTellsSpec)) chainTellsUptoCard

/-- THE SECOND FORM's CARD OF 'gatepostlaw05.ChainProves'. -/
def chainProvesUptoCard : Claim7 := { stood := { row := chainProvesUptoRow, standIns := [], harness := (true, "de38142130d44a5ad792aca1aeb4b43498d88e92f03c0bcb5458800fe619e2f1"), looks := false }, kinds := [], alts := [], laidByText := true, laidKinds := [.data], laidTests := true, laidLooks := .later }
def ChainProvesUptoCardSaid : Prop := Claim7.holds Tryd.pinned (.plain (OpenSpec.upto chainProvesSpec)) chainProvesUptoCard

/-- THE SECOND FORM's CARD OF 'gatepostlaw05.ChainClashes'. -/
def chainClashesUptoCard : Claim7 := { stood := { row := chainClashesUptoRow, standIns := [], harness := (true, "de38142130d44a5ad792aca1aeb4b43498d88e92f03c0bcb5458800fe619e2f1"), looks := false }, kinds := [], alts := [], laidByText := true, laidKinds := [.data], laidTests := true, laidLooks := .later }
def ChainClashesUptoCardSaid : Prop := Claim7.holds Tryd.pinned (.plain (OpenSpec.upto chainClashesSpec)) chainClashesUptoCard
end Rows
end Go.Proofs.YtecnolmpdgfnfaaDoor
