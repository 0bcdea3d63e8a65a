/-
  DERIVED. GIVEN WITH THE SEED: THE CARDS: each row of YtadipapkdjcnbaaGreatDoorRows.lean that lists a variable, with what it lists TIED to the program's text (the seventh form; the later family's looks); each row that meets fmt, with fmt's text TOLD by the authors' own Lean function (tested against real Go, not proved from fmt's source: count such statements apart). THE CARD IS WHAT COUNTS. Prove the row's statement (the work); the ties are given (YtadipapkdjcnbaaGreatDoorTie.lean); close each card by the builder's one call (the guide's Derived/Test/ToyasCard.lean, 'card_holds'). Laid BY PROGRAM, IN A SANDBOX (cutbox-door.mjs). By AI agents, Wed Nov 11 2026. No macro, syntax, notation, axiom, sorry.
-/
import Derived.Test.YtadipapkdjcnbaaGreatDoorRows
import GoSem.ClaimSeven
namespace Go.Proofs.YtadipapkdjcnbaaGreatDoor
namespace Rows

/-- THE TIED CARD OF 'linguistlaw15.ReplyAll'. -/
def replyAllCard : Claim7 := { stood := { row := replyAllRow, standIns := [], harness := (true, "cb3f957ee3298cd70d81f325e41d16f9fe6fcc6f70e8187b95a597f1e16c8145"), looks := false }, kinds := [], alts := [], laidByText := true, laidKinds := [.data, .data, .data], laidTests := true, laidLooks := .later }
def ReplyAllCardSaid : Prop := Claim7.holds Tryz.pinned (.plain (OpenSpec.ofChange replyAllSpec)) replyAllCard

/-- THE SECOND FORM's CARD OF 'linguistlaw15.ReplyAll'. -/
def replyAllUptoCard : Claim7 := { stood := { row := replyAllUptoRow, standIns := [], harness := (true, "cb3f957ee3298cd70d81f325e41d16f9fe6fcc6f70e8187b95a597f1e16c8145"), looks := false }, kinds := [], alts := [], laidByText := true, laidKinds := [.data, .data, .data], laidTests := true, laidLooks := .later }
def ReplyAllUptoCardSaid : Prop := Claim7.holds Tryz.pinned (.plain (OpenSpec.upto replyAllSpec)) replyAllUptoCard
end Rows
end Go.Proofs.YtadipapkdjcnbaaGreatDoor
