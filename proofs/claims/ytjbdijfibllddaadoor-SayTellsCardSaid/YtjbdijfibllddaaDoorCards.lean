/-
  DERIVED. GIVEN WITH THE SEED: THE CARDS: each row of YtjbdijfibllddaaDoorRows.lean that lists a variable, with what it lists TIED to the program's text (the seventh form; the later family's looks); each row that meets fmt, with fmt's text TOLD by the authors' own Lean function (tested against real Go, not proved from fmt's source: count such statements apart). THE CARD IS WHAT COUNTS. Prove the row's statement (the work); the ties are given (YtjbdijfibllddaaDoorTie.lean); close each card by the builder's one call (the guide's Derived/Test/ToyasCard.lean, 'card_holds'). Laid BY PROGRAM, IN A SANDBOX (cutbox-door.mjs). By AI agents, Wed Nov 11 2026. No macro, syntax, notation, axiom, sorry.
-/
import Derived.Test.YtjbdijfibllddaaDoorRows
import GoSem.ClaimSeven
namespace Go.Proofs.YtjbdijfibllddaaDoor
namespace Rows

/-- THE TIED CARD OF 'linguistlaw15.ReplyTells'. -/
def replyTellsCard : Claim7 := { stood := { row := replyTellsRow, standIns := [], harness := (true, "1f3e8dfc5bf17a726abee5ac3471606a6aa96368054d6a41c4bce8de254a1168"), looks := false }, kinds := [], alts := [], laidByText := true, laidKinds := [.data, .data, .data], laidTests := true, laidLooks := .later }
def ReplyTellsCardSaid : Prop := Claim7.holds Tryd.pinned (.plain (OpenSpec.ofChange replyTellsSpec)) replyTellsCard

/-- THE TIED CARD OF 'linguistlaw6.SeqArgs'. -/
def seqArgsCard : Claim7 := { stood := { row := seqArgsRow, standIns := [], harness := (true, "1f3e8dfc5bf17a726abee5ac3471606a6aa96368054d6a41c4bce8de254a1168"), looks := false }, kinds := [], alts := [], laidByText := true, laidKinds := [.data, .data, .data], laidTests := true, laidLooks := .later }
def SeqArgsCardSaid : Prop := Claim7.holds Tryd.pinned (.plain (OpenSpec.ofChange seqArgsSpec)) seqArgsCard

/-- THE TIED CARD OF 'linguistlaw19.SayTells'. -/
def sayTellsCard : Claim7 := { stood := { row := sayTellsRow, standIns := [], harness := (true, "1f3e8dfc5bf17a726abee5ac3471606a6aa96368054d6a41c4bce8de254a1168"), looks := false }, kinds := [], alts := [], laidByText := true, laidKinds := [.data, .data, .data], laidTests := true, laidLooks := .later }
def SayTellsCardSaid : Prop := Claim7.holds Tryd.pinned (.plain (OpenSpec.ofChange sayTellsSpec)) sayTellsCard

/-- THE SECOND FORM's CARD OF 'linguistlaw15.ReplyTells'. -/
def replyTellsUptoCard : Claim7 := { stood := { row := replyTellsUptoRow, standIns := [], harness := (true, "1f3e8dfc5bf17a726abee5ac3471606a6aa96368054d6a41c4bce8de254a1168"), looks := false }, kinds := [], alts := [], laidByText := true, laidKinds := [.data, .data, .data], laidTests := true, laidLooks := .later }
def ReplyTellsUptoCardSaid : Prop := Claim7.holds Tryd.pinned (.plain (OpenSpec.upto replyTellsSpec)) replyTellsUptoCard

/-- THE SECOND FORM's CARD OF 'linguistlaw6.SeqArgs'. -/
def seqArgsUptoCard : Claim7 := { stood := { row := seqArgsUptoRow, standIns := [], harness := (true, "1f3e8dfc5bf17a726abee5ac3471606a6aa96368054d6a41c4bce8de254a1168"), looks := false }, kinds := [], alts := [], laidByText := true, laidKinds := [.data, .data, .data], laidTests := true, laidLooks := .later }
def SeqArgsUptoCardSaid : Prop := Claim7.holds Tryd.pinned (.plain (OpenSpec.upto seqArgsSpec)) seqArgsUptoCard

/-- THE SECOND FORM's CARD OF 'linguistlaw19.SayTells'. -/
def sayTellsUptoCard : Claim7 := { stood := { row := sayTellsUptoRow, standIns := [], harness := (true, "1f3e8dfc5bf17a726abee5ac3471606a6aa96368054d6a41c4bce8de254a1168"), looks := false }, kinds := [], alts := [], laidByText := true, laidKinds := [.data, .data, .data], laidTests := true, laidLooks := .later }
def SayTellsUptoCardSaid : Prop := Claim7.holds Tryd.pinned (.plain (OpenSpec.upto sayTellsSpec)) sayTellsUptoCard
end Rows
end Go.Proofs.YtjbdijfibllddaaDoor
