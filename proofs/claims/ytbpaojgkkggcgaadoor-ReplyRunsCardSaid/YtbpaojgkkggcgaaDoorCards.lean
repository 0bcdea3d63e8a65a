/-
  DERIVED. GIVEN WITH THE SEED: THE CARDS: each row of YtbpaojgkkggcgaaDoorRows.lean that lists a variable, with what it lists TIED to the program's text (the seventh form; the later family's looks); each row that meets fmt, with fmt's text TOLD by the authors' own Lean function (tested against real Go, not proved from fmt's source: count such statements apart). THE CARD IS WHAT COUNTS. Prove the row's statement (the work); the ties are given (YtbpaojgkkggcgaaDoorTie.lean); close each card by the builder's one call (the guide's Derived/Test/ToyasCard.lean, 'card_holds'). Laid BY PROGRAM, IN A SANDBOX (cutbox-door.mjs). By AI agents, Wed Nov 11 2026. No macro, syntax, notation, axiom, sorry.
-/
import Derived.Test.YtbpaojgkkggcgaaDoorRows
import GoSem.ClaimSeven
namespace Go.Proofs.YtbpaojgkkggcgaaDoor
namespace Rows

/-- THE TIED CARD OF 'linguistlaw19.SayRuns'. -/
def sayRunsCard : Claim7 := { stood := { row := sayRunsRow, standIns := [], harness := (true, "fbd56c9f6172f170b49ca1222d4f4175e0c5bf143d3976d10ce958f3f3d34e74"), looks := false }, kinds := [], alts := [], laidByText := true, laidKinds := [.data, .data, .data], laidTests := true, laidLooks := .later }
def SayRunsCardSaid : Prop := Claim7.holds Tryd.pinned (.plain (OpenSpec.ofChange sayRunsSpec)) sayRunsCard

/-- THE TIED CARD OF 'linguistlaw15.ReplyRuns'. -/
def replyRunsCard : Claim7 := { stood := { row := replyRunsRow, standIns := [], harness := (true, "fbd56c9f6172f170b49ca1222d4f4175e0c5bf143d3976d10ce958f3f3d34e74"), looks := false }, kinds := [], alts := [], laidByText := true, laidKinds := [.data, .data, .data], laidTests := true, laidLooks := .later }
def ReplyRunsCardSaid : Prop := Claim7.holds Tryd.pinned (.plain (OpenSpec.ofChange replyRunsSpec)) replyRunsCard

/-- THE TIED CARD OF 'linguistlaw15.ReplyTells'. -/
def replyTellsCard : Claim7 := { stood := { row := replyTellsRow, standIns := [], harness := (true, "fbd56c9f6172f170b49ca1222d4f4175e0c5bf143d3976d10ce958f3f3d34e74"), looks := false }, kinds := [], alts := [], laidByText := true, laidKinds := [.data, .data, .data], laidTests := true, laidLooks := .later }
def ReplyTellsCardSaid : Prop := Claim7.holds Tryd.pinned (.plain (OpenSpec.ofChange replyTellsSpec)) replyTellsCard

/-- THE SECOND FORM's CARD OF 'linguistlaw19.SayRuns'. -/
def sayRunsUptoCard : Claim7 := { stood := { row := sayRunsUptoRow, standIns := [], harness := (true, "fbd56c9f6172f170b49ca1222d4f4175e0c5bf143d3976d10ce958f3f3d34e74"), looks := false }, kinds := [], alts := [], laidByText := true, laidKinds := [.data, .data, .data], laidTests := true, laidLooks := .later }
def SayRunsUptoCardSaid : Prop := Claim7.holds Tryd.pinned (.plain (OpenSpec.upto sayRunsSpec)) sayRunsUptoCard

/-- THE SECOND FORM's CARD OF 'linguistlaw15.ReplyRuns'. -/
def replyRunsUptoCard : Claim7 := { stood := { row := replyRunsUptoRow, standIns := [], harness := (true, "fbd56c9f6172f170b49ca1222d4f4175e0c5bf143d3976d10ce958f3f3d34e74"), looks := false }, kinds := [], alts := [], laidByText := true, laidKinds := [.data, .data, .data], laidTests := true, laidLooks := .later }
def ReplyRunsUptoCardSaid : Prop := Claim7.holds Tryd.pinned (.plain (OpenSpec.upto replyRunsSpec)) replyRunsUptoCard

/-- THE SECOND FORM's CARD OF 'linguistlaw15.ReplyTells'. -/
def replyTellsUptoCard : Claim7 := { stood := { row := replyTellsUptoRow, standIns := [], harness := (true, "fbd56c9f6172f170b49ca1222d4f4175e0c5bf143d3976d10ce958f3f3d34e74"), looks := false }, kinds := [], alts := [], laidByText := true, laidKinds := [.data, .data, .data], laidTests := true, laidLooks := .later }
def ReplyTellsUptoCardSaid : Prop := Claim7.holds Tryd.pinned (.plain (OpenSpec.upto replyTellsSpec)) replyTellsUptoCard
end Rows
end Go.Proofs.YtbpaojgkkggcgaaDoor
