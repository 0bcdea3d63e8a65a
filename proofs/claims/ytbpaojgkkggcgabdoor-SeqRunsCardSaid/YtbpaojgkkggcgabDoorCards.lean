/-
  DERIVED. GIVEN WITH THE SEED: THE CARDS: each row of YtbpaojgkkggcgabDoorRows.lean that lists a variable, with what it lists TIED to the program's text (the seventh form; the later family's looks); each row that meets fmt, with fmt's text TOLD by the authors' own Lean function (tested against real Go, not proved from fmt's source: count such statements apart). THE CARD IS WHAT COUNTS. Prove the row's statement (the work); the ties are given (YtbpaojgkkggcgabDoorTie.lean); close each card by the builder's one call (the guide's Derived/Test/ToyasCard.lean, 'card_holds'). Laid BY PROGRAM, IN A SANDBOX (cutbox-door.mjs). By AI agents, Wed Nov 11 2026. No macro, syntax, notation, axiom, sorry.
-/
import Derived.Test.YtbpaojgkkggcgabDoorRows
import GoSem.ClaimSeven
namespace Go.Proofs.YtbpaojgkkggcgabDoor
namespace Rows

/-- THE TIED CARD OF 'linguistlaw6.SeqRuns'. -/
def seqRunsCard : Claim7 := { stood := { row := seqRunsRow, standIns := [], harness := (true, "9f15e23c2b8cfaa78030d73a486a7fba6dbdd027fa26a507f7832e97c4484a7f"), looks := false }, kinds := [], alts := [], laidByText := true, laidKinds := [.data, .data, .data], laidTests := true, laidLooks := .later }
def SeqRunsCardSaid : Prop := Claim7.holds Tryd.pinned (.plain (OpenSpec.ofChange seqRunsSpec)) seqRunsCard

/-- THE TIED CARD OF 'linguistlaw6.SeqTells'. -/
def seqTellsCard : Claim7 := { stood := { row := seqTellsRow, standIns := [], harness := (true, "9f15e23c2b8cfaa78030d73a486a7fba6dbdd027fa26a507f7832e97c4484a7f"), looks := false }, kinds := [], alts := [], laidByText := true, laidKinds := [.data, .data, .data], laidTests := true, laidLooks := .later }
def SeqTellsCardSaid : Prop := Claim7.holds Tryd.pinned (.plain (OpenSpec.ofChange seqTellsSpec)) seqTellsCard

/-- THE TIED CARD OF 'linguistlaw6.SeqArgs'. -/
def seqArgsCard : Claim7 := { stood := { row := seqArgsRow, standIns := [], harness := (true, "9f15e23c2b8cfaa78030d73a486a7fba6dbdd027fa26a507f7832e97c4484a7f"), looks := false }, kinds := [], alts := [], laidByText := true, laidKinds := [.data, .data, .data], laidTests := true, laidLooks := .later }
def SeqArgsCardSaid : Prop := Claim7.holds Tryd.pinned (.plain (OpenSpec.ofChange seqArgsSpec)) seqArgsCard

/-- THE TIED CARD OF 'linguistlaw6.SeqMany'. -/
def seqManyCard : Claim7 := { stood := { row := seqManyRow, standIns := [], harness := (true, "9f15e23c2b8cfaa78030d73a486a7fba6dbdd027fa26a507f7832e97c4484a7f"), looks := false }, kinds := [], alts := [], laidByText := true, laidKinds := [.data, .data, .data], laidTests := true, laidLooks := .later }
def SeqManyCardSaid : Prop := Claim7.holds Tryd.pinned (.plain (OpenSpec.ofChange seqManySpec)) seqManyCard

/-- THE TIED CARD OF 'linguistlaw19.SayTells'. -/
def sayTellsCard : Claim7 := { stood := { row := sayTellsRow, standIns := [], harness := (true, "9f15e23c2b8cfaa78030d73a486a7fba6dbdd027fa26a507f7832e97c4484a7f"), looks := false }, kinds := [], alts := [], laidByText := true, laidKinds := [.data, .data, .data], laidTests := true, laidLooks := .later }
def SayTellsCardSaid : Prop := Claim7.holds Tryd.pinned (.plain (OpenSpec.ofChange sayTellsSpec)) sayTellsCard

/-- THE TIED CARD OF 'linguistlaw6.SeqText'. -/
def seqTextCard : Claim7 := { stood := { row := seqTextRow, standIns := [], harness := (true, "9f15e23c2b8cfaa78030d73a486a7fba6dbdd027fa26a507f7832e97c4484a7f"), looks := false }, kinds := [], alts := [], laidByText := true, laidKinds := [.data, .data, .data], laidTests := true, laidLooks := .later }
def SeqTextCardSaid : Prop := Claim7.holds Tryd.pinned (.plain (OpenSpec.ofChange seqTextSpec)) seqTextCard

/-- THE TIED CARD OF 'linguistlaw6.SeqBack'. -/
def seqBackCard : Claim7 := { stood := { row := seqBackRow, standIns := [], harness := (true, "9f15e23c2b8cfaa78030d73a486a7fba6dbdd027fa26a507f7832e97c4484a7f"), looks := false }, kinds := [], alts := [], laidByText := true, laidKinds := [.data, .data, .data], laidTests := true, laidLooks := .later }
def SeqBackCardSaid : Prop := Claim7.holds Tryd.pinned (.plain (OpenSpec.ofChange seqBackSpec)) seqBackCard

/-- THE SECOND FORM's CARD OF 'linguistlaw6.SeqRuns'. -/
def seqRunsUptoCard : Claim7 := { stood := { row := seqRunsUptoRow, standIns := [], harness := (true, "9f15e23c2b8cfaa78030d73a486a7fba6dbdd027fa26a507f7832e97c4484a7f"), looks := false }, kinds := [], alts := [], laidByText := true, laidKinds := [.data, .data, .data], laidTests := true, laidLooks := .later }
def SeqRunsUptoCardSaid : Prop := Claim7.holds Tryd.pinned (.plain (OpenSpec.upto seqRunsSpec)) seqRunsUptoCard

/-- THE SECOND FORM's CARD OF 'linguistlaw6.SeqTells'. -/
def seqTellsUptoCard : Claim7 := { stood := { row := seqTellsUptoRow, standIns := [], harness := (true, "9f15e23c2b8cfaa78030d73a486a7fba6dbdd027fa26a507f7832e97c4484a7f"), looks := false }, kinds := [], alts := [], laidByText := true, laidKinds := [.data, .data, .data], laidTests := true, laidLooks := .later }
def SeqTellsUptoCardSaid : Prop := Claim7.holds Tryd.pinned (.plain (OpenSpec.upto seqTellsSpec)) seqTellsUptoCard

/-- THE SECOND FORM's CARD OF 'linguistlaw6.SeqArgs'. -/
def seqArgsUptoCard : Claim7 := { stood := { row := seqArgsUptoRow, standIns := [], harness := (true, "9f15e23c2b8cfaa78030d73a486a7fba6dbdd027fa26a507f7832e97c4484a7f"), looks := false }, kinds := [], alts := [], laidByText := true, laidKinds := [.data, .data, .data], laidTests := true, laidLooks := .later }
def SeqArgsUptoCardSaid : Prop := Claim7.holds Tryd.pinned (.plain (OpenSpec.upto seqArgsSpec)) seqArgsUptoCard

/-- THE SECOND FORM's CARD OF 'linguistlaw6.SeqMany'. -/
def seqManyUptoCard : Claim7 := { stood := { row := seqManyUptoRow, standIns := [], harness := (true, "9f15e23c2b8cfaa78030d73a486a7fba6dbdd027fa26a507f7832e97c4484a7f"), looks := false }, kinds := [], alts := [], laidByText := true, laidKinds := [.data, .data, .data], laidTests := true, laidLooks := .later }
def SeqManyUptoCardSaid : Prop := Claim7.holds Tryd.pinned (.plain (OpenSpec.upto seqManySpec)) seqManyUptoCard

/-- THE SECOND FORM's CARD OF 'linguistlaw19.SayTells'. -/
def sayTellsUptoCard : Claim7 := { stood := { row := sayTellsUptoRow, standIns := [], harness := (true, "9f15e23c2b8cfaa78030d73a486a7fba6dbdd027fa26a507f7832e97c4484a7f"), looks := false }, kinds := [], alts := [], laidByText := true, laidKinds := [.data, .data, .data], laidTests := true, laidLooks := .later }
def SayTellsUptoCardSaid : Prop := Claim7.holds Tryd.pinned (.plain (OpenSpec.upto sayTellsSpec)) sayTellsUptoCard

/-- THE SECOND FORM's CARD OF 'linguistlaw6.SeqText'. -/
def seqTextUptoCard : Claim7 := { stood := { row := seqTextUptoRow, standIns := [], harness := (true, "9f15e23c2b8cfaa78030d73a486a7fba6dbdd027fa26a507f7832e97c4484a7f"), looks := false }, kinds := [], alts := [], laidByText := true, laidKinds := [.data, .data, .data], laidTests := true, laidLooks := .later }
def SeqTextUptoCardSaid : Prop := Claim7.holds Tryd.pinned (.plain (OpenSpec.upto seqTextSpec)) seqTextUptoCard

/-- THE SECOND FORM's CARD OF 'linguistlaw6.SeqBack'. -/
def seqBackUptoCard : Claim7 := { stood := { row := seqBackUptoRow, standIns := [], harness := (true, "9f15e23c2b8cfaa78030d73a486a7fba6dbdd027fa26a507f7832e97c4484a7f"), looks := false }, kinds := [], alts := [], laidByText := true, laidKinds := [.data, .data, .data], laidTests := true, laidLooks := .later }
def SeqBackUptoCardSaid : Prop := Claim7.holds Tryd.pinned (.plain (OpenSpec.upto seqBackSpec)) seqBackUptoCard
end Rows
end Go.Proofs.YtbpaojgkkggcgabDoor
