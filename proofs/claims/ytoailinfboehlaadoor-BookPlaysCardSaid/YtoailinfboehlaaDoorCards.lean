/-
  DERIVED. GIVEN WITH THE SEED: THE CARDS: each row of YtoailinfboehlaaDoorRows.lean that lists a variable, with what it lists TIED to the program's text (the seventh form; the later family's looks); each row that meets fmt, with fmt's text TOLD by the authors' own Lean function (tested against real Go, not proved from fmt's source: count such statements apart). THE CARD IS WHAT COUNTS. Prove the row's statement (the work); the ties are given (YtoailinfboehlaaDoorTie.lean); close each card by the builder's one call (the guide's Derived/Test/ToyasCard.lean, 'card_holds'). Laid BY PROGRAM, IN A SANDBOX (cutbox-door.mjs). By AI agents, Wed Nov 11 2026. No macro, syntax, notation, axiom, sorry.
-/
import Derived.Test.YtoailinfboehlaaDoorRows
import GoSem.ClaimSeven
namespace Go.Proofs.YtoailinfboehlaaDoor
namespace Rows

/-- THE TIED CARD OF 'gatepostlaw06.BookParts'. -/
def bookPartsCard : Claim7 := { stood := { row := bookPartsRow, standIns := [], harness := (true, "615eedc273a3f20682c909e2df3791763bc9830d4990a2cc0cb94e00cf83784b"), looks := false }, kinds := [], alts := [], laidByText := true, laidKinds := [.data], laidTests := true, laidLooks := .later }
def BookPartsCardSaid : Prop := Claim7.holds Tryd.pinned (.plain (OpenSpec.ofChange bookPartsSpec)) bookPartsCard

/-- THE TIED CARD OF 'gatepostlaw06.BookOwn'. -/
def bookOwnCard : Claim7 := { stood := { row := bookOwnRow, standIns := [], harness := (true, "615eedc273a3f20682c909e2df3791763bc9830d4990a2cc0cb94e00cf83784b"), looks := false }, kinds := [], alts := [], laidByText := true, laidKinds := [.data], laidTests := true, laidLooks := .later }
def BookOwnCardSaid : Prop := Claim7.holds Tryd.pinned (.plain (OpenSpec.ofChange bookOwnSpec)) bookOwnCard

/-- THE TIED CARD OF 'gatepostlaw06.BookPlays'. -/
def bookPlaysCard : Claim7 := { stood := { row := bookPlaysRow, standIns := [], harness := (true, "615eedc273a3f20682c909e2df3791763bc9830d4990a2cc0cb94e00cf83784b"), looks := false }, kinds := [], alts := [], laidByText := true, laidKinds := [.data], laidTests := true, laidLooks := .later }
def BookPlaysCardSaid : Prop := Claim7.holds Tryd.pinned (.plain (OpenSpec.ofChange bookPlaysSpec)) bookPlaysCard

/-- THE TIED CARD OF 'gatepostlaw06.BookCrashes'. -/
def bookCrashesCard : Claim7 := { stood := { row := bookCrashesRow, standIns := [], harness := (true, "615eedc273a3f20682c909e2df3791763bc9830d4990a2cc0cb94e00cf83784b"), looks := false }, kinds := [], alts := [], laidByText := true, laidKinds := [.data], laidTests := true, laidLooks := .later }
def BookCrashesCardSaid : Prop := Claim7.holds Tryd.pinned (.plain (OpenSpec.ofChange bookCrashesSpec)) bookCrashesCard

/-- THE SECOND FORM's CARD OF 'gatepostlaw06.BookParts'. -/
def bookPartsUptoCard : Claim7 := { stood := { row := bookPartsUptoRow, standIns := [], harness := (true, "615eedc273a3f20682c909e2df3791763bc9830d4990a2cc0cb94e00cf83784b"), looks := false }, kinds := [], alts := [], laidByText := true, laidKinds := [.data], laidTests := true, laidLooks := .later }
def BookPartsUptoCardSaid : Prop := Claim7.holds Tryd.pinned (.plain (OpenSpec.upto bookPartsSpec)) bookPartsUptoCard

/-- THE SECOND FORM's CARD OF 'gatepostlaw06.BookOwn'. -/
def bookOwnUptoCard : Claim7 := { stood := { row := bookOwnUptoRow, standIns := [], harness := (true, "615eedc273a3f20682c909e2df3791763bc9830d4990a2cc0cb94e00cf83784b"), looks := false }, kinds := [], alts := [], laidByText := true, laidKinds := [.data], laidTests := true, laidLooks := .later }
def BookOwnUptoCardSaid : Prop := Claim7.holds Tryd.pinned (.plain (OpenSpec.upto bookOwnSpec)) bookOwnUptoCard

/-- THE SECOND FORM's CARD OF 'gatepostlaw06.BookPlays'. -/
def bookPlaysUptoCard : Claim7 := { stood := { row := bookPlaysUptoRow, standIns := [], harness := (true, "615eedc273a3f20682c909e2df3791763bc9830d4990a2cc0cb94e00cf83784b"), looks := false }, kinds := [], alts := [], laidByText := true, laidKinds := [.data], laidTests := true, laidLooks := .later }
def BookPlaysUptoCardSaid : Prop := Claim7.holds Tryd.pinned (.plain (OpenSpec.upto bookPlaysSpec)) bookPlaysUptoCard

/-- THE SECOND FORM's CARD OF 'gatepostlaw06.BookCrashes'. -/
def bookCrashesUptoCard : Claim7 := { stood := { row := bookCrashesUptoRow, standIns := [], harness := (true, "615eedc273a3f20682c909e2df3791763bc9830d4990a2cc0cb94e00cf83784b"), looks := false }, kinds := [], alts := [], laidByText := true, laidKinds := [.data], laidTests := true, laidLooks := .later }
def BookCrashesUptoCardSaid : Prop := Claim7.holds Tryd.pinned (.plain (OpenSpec.upto bookCrashesSpec)) bookCrashesUptoCard
end Rows
end Go.Proofs.YtoailinfboehlaaDoor
