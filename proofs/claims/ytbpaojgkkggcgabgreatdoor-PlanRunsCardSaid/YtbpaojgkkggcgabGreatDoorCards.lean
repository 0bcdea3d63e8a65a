/-
  DERIVED. GIVEN WITH THE SEED: THE CARDS: each row of YtbpaojgkkggcgabGreatDoorRows.lean that lists a variable, with what it lists TIED to the program's text (the seventh form; the later family's looks); each row that meets fmt, with fmt's text TOLD by the authors' own Lean function (tested against real Go, not proved from fmt's source: count such statements apart). THE CARD IS WHAT COUNTS. Prove the row's statement (the work); the ties are given (YtbpaojgkkggcgabGreatDoorTie.lean); close each card by the builder's one call (the guide's Derived/Test/ToyasCard.lean, 'card_holds'). Laid BY PROGRAM, IN A SANDBOX (cutbox-door.mjs). By AI agents, Wed Nov 11 2026. No macro, syntax, notation, axiom, sorry.
-/
import Derived.Test.YtbpaojgkkggcgabGreatDoorRows
import GoSem.ClaimSeven
namespace Go.Proofs.YtbpaojgkkggcgabGreatDoor
namespace Rows

/-- THE TIED CARD OF 'linguisttop.TopEvents'. -/
def topEventsCard : Claim7 := { stood := { row := topEventsRow, standIns := [], harness := (true, "b5d122c0be59a6e69070acb898b8c833688b3a2f13cb899c5c4aa72ff40f82e7"), looks := false }, kinds := [], alts := [], laidByText := true, laidKinds := [.data, .data, .data], laidTests := true, laidLooks := .later }
def TopEventsCardSaid : Prop := Claim7.holds Tryz.pinned (.plain (OpenSpec.ofChange topEventsSpec)) topEventsCard

/-- THE TIED CARD OF 'linguistlaw22.WordsRuns'. -/
def wordsRunsCard : Claim7 := { stood := { row := wordsRunsRow, standIns := [], harness := (true, "b5d122c0be59a6e69070acb898b8c833688b3a2f13cb899c5c4aa72ff40f82e7"), looks := false }, kinds := [], alts := [], laidByText := true, laidKinds := [.data, .data, .data], laidTests := true, laidLooks := .later }
def WordsRunsCardSaid : Prop := Claim7.holds Tryz.pinned (.plain (OpenSpec.ofChange wordsRunsSpec)) wordsRunsCard

/-- THE TIED CARD OF 'linguistlaw22.WordsTells'. -/
def wordsTellsCard : Claim7 := { stood := { row := wordsTellsRow, standIns := [], harness := (true, "b5d122c0be59a6e69070acb898b8c833688b3a2f13cb899c5c4aa72ff40f82e7"), looks := false }, kinds := [], alts := [], laidByText := true, laidKinds := [.data, .data, .data], laidTests := true, laidLooks := .later }
def WordsTellsCardSaid : Prop := Claim7.holds Tryz.pinned (.plain (OpenSpec.ofChange wordsTellsSpec)) wordsTellsCard

/-- THE TIED CARD OF 'linguistlaw20.PlanRuns'. -/
def planRunsCard : Claim7 := { stood := { row := planRunsRow, standIns := [], harness := (true, "b5d122c0be59a6e69070acb898b8c833688b3a2f13cb899c5c4aa72ff40f82e7"), looks := false }, kinds := [], alts := [], laidByText := true, laidKinds := [.data, .data, .data], laidTests := true, laidLooks := .later }
def PlanRunsCardSaid : Prop := Claim7.holds Tryz.pinned (.plain (OpenSpec.ofChange planRunsSpec)) planRunsCard

/-- THE TIED CARD OF 'linguistlaw20.PlanFew'. -/
def planFewCard : Claim7 := { stood := { row := planFewRow, standIns := [], harness := (true, "b5d122c0be59a6e69070acb898b8c833688b3a2f13cb899c5c4aa72ff40f82e7"), looks := false }, kinds := [], alts := [], laidByText := true, laidKinds := [.data, .data, .data], laidTests := true, laidLooks := .later }
def PlanFewCardSaid : Prop := Claim7.holds Tryz.pinned (.plain (OpenSpec.ofChange planFewSpec)) planFewCard

/-- THE SECOND FORM's CARD OF 'linguisttop.TopEvents'. -/
def topEventsUptoCard : Claim7 := { stood := { row := topEventsUptoRow, standIns := [], harness := (true, "b5d122c0be59a6e69070acb898b8c833688b3a2f13cb899c5c4aa72ff40f82e7"), looks := false }, kinds := [], alts := [], laidByText := true, laidKinds := [.data, .data, .data], laidTests := true, laidLooks := .later }
def TopEventsUptoCardSaid : Prop := Claim7.holds Tryz.pinned (.plain (OpenSpec.upto topEventsSpec)) topEventsUptoCard

/-- THE SECOND FORM's CARD OF 'linguistlaw22.WordsRuns'. -/
def wordsRunsUptoCard : Claim7 := { stood := { row := wordsRunsUptoRow, standIns := [], harness := (true, "b5d122c0be59a6e69070acb898b8c833688b3a2f13cb899c5c4aa72ff40f82e7"), looks := false }, kinds := [], alts := [], laidByText := true, laidKinds := [.data, .data, .data], laidTests := true, laidLooks := .later }
def WordsRunsUptoCardSaid : Prop := Claim7.holds Tryz.pinned (.plain (OpenSpec.upto wordsRunsSpec)) wordsRunsUptoCard

/-- THE SECOND FORM's CARD OF 'linguistlaw22.WordsTells'. -/
def wordsTellsUptoCard : Claim7 := { stood := { row := wordsTellsUptoRow, standIns := [], harness := (true, "b5d122c0be59a6e69070acb898b8c833688b3a2f13cb899c5c4aa72ff40f82e7"), looks := false }, kinds := [], alts := [], laidByText := true, laidKinds := [.data, .data, .data], laidTests := true, laidLooks := .later }
def WordsTellsUptoCardSaid : Prop := Claim7.holds Tryz.pinned (.plain (OpenSpec.upto wordsTellsSpec)) wordsTellsUptoCard

/-- THE SECOND FORM's CARD OF 'linguistlaw20.PlanRuns'. -/
def planRunsUptoCard : Claim7 := { stood := { row := planRunsUptoRow, standIns := [], harness := (true, "b5d122c0be59a6e69070acb898b8c833688b3a2f13cb899c5c4aa72ff40f82e7"), looks := false }, kinds := [], alts := [], laidByText := true, laidKinds := [.data, .data, .data], laidTests := true, laidLooks := .later }
def PlanRunsUptoCardSaid : Prop := Claim7.holds Tryz.pinned (.plain (OpenSpec.upto planRunsSpec)) planRunsUptoCard

/-- THE SECOND FORM's CARD OF 'linguistlaw20.PlanFew'. -/
def planFewUptoCard : Claim7 := { stood := { row := planFewUptoRow, standIns := [], harness := (true, "b5d122c0be59a6e69070acb898b8c833688b3a2f13cb899c5c4aa72ff40f82e7"), looks := false }, kinds := [], alts := [], laidByText := true, laidKinds := [.data, .data, .data], laidTests := true, laidLooks := .later }
def PlanFewUptoCardSaid : Prop := Claim7.holds Tryz.pinned (.plain (OpenSpec.upto planFewSpec)) planFewUptoCard
end Rows
end Go.Proofs.YtbpaojgkkggcgabGreatDoor
