/-
  DERIVED. GIVEN WITH THE SEED: THE CARDS: each row of YtbnpiancagebbaaGreatDoorRows.lean that lists a variable, with what it lists TIED to the program's text (the seventh form; the later family's looks); each row that meets fmt, with fmt's text TOLD by the authors' own Lean function (tested against real Go, not proved from fmt's source: count such statements apart). THE CARD IS WHAT COUNTS. Prove the row's statement (the work); the ties are given (YtbnpiancagebbaaGreatDoorTie.lean); close each card by the builder's one call (the guide's Derived/Test/ToyasCard.lean, 'card_holds'). Laid BY PROGRAM, IN A SANDBOX (cutbox-door.mjs). By AI agents, Wed Nov 11 2026. No macro, syntax, notation, axiom, sorry.
-/
import Derived.Test.YtbnpiancagebbaaGreatDoorRows
import GoSem.ClaimSeven
namespace Go.Proofs.YtbnpiancagebbaaGreatDoor
namespace Rows

/-- THE TIED CARD OF 'linguistlaw15.ReplyPlaces'. -/
def replyPlacesCard : Claim7 := { stood := { row := replyPlacesRow, standIns := [], harness := (true, "d921b38dd2566d1a20c8dd551a4774e216826b51b54df285a1ea07a5943a81a8"), looks := false }, kinds := [], alts := [], laidByText := true, laidKinds := [.data, .data, .data], laidTests := true, laidLooks := .later }
def ReplyPlacesCardSaid : Prop := Claim7.holds Tryz.pinned (.plain (OpenSpec.ofChange replyPlacesSpec)) replyPlacesCard

/-- THE SECOND FORM's CARD OF 'linguistlaw15.ReplyPlaces'. -/
def replyPlacesUptoCard : Claim7 := { stood := { row := replyPlacesUptoRow, standIns := [], harness := (true, "d921b38dd2566d1a20c8dd551a4774e216826b51b54df285a1ea07a5943a81a8"), looks := false }, kinds := [], alts := [], laidByText := true, laidKinds := [.data, .data, .data], laidTests := true, laidLooks := .later }
def ReplyPlacesUptoCardSaid : Prop := Claim7.holds Tryz.pinned (.plain (OpenSpec.upto replyPlacesSpec)) replyPlacesUptoCard
end Rows
end Go.Proofs.YtbnpiancagebbaaGreatDoor
