/-
  No cell of these rows narrows 'for every input' (looked for: loops, veiled, ifaces, maps, wideKeys, modest, calm, conditions, laid).
  DERIVED. THE GIVEN ROWS OF THIS SEAT. 6 by the template 'for every input the law returns true; each argument reads behind the call as it read before'; 0 by the template 'total and deterministic' (their statements: YtmmbkjigflhmjaaGreatTotals.lean).
  GIVEN WITH THE SEED: the statements are not yours to turn. If you find one false, say at which input.
  Laid BY PROGRAM, IN A SANDBOX (cutbox-rows.mjs): the forced cells as the released guide's own fill.sh prints them over the translation 4c4d1ba0828aeec6… (all of the seat's roots in one cut). By AI agents, Wed Nov 11 2026. No macro, syntax, notation, axiom, sorry.
-/
import Derived.Test.YtmmbkjigflhmjaaGreatChecked
import GoSem.Claim
import GoSem.ClaimJoined
import GoSem.ClaimMapViews
import Derived.JoinedTies
import Derived.KernelRfl
namespace Go.Proofs.YtmmbkjigflhmjaaGreat
/- THE CELL 'sum', in the pinned program and in every row, IS THE sha256 OF THE DUMP (.gsa) THAT YtmmbkjigflhmjaaGreatProg.lean LOADS. Nothing in Lean hashes anything: it is a label: what it is worth is what the hold of that sum in a sandbox is worth. -/
noncomputable def Tryz.pinned : Pinned := { name := "ytmmbkjigflhmjaagreat", sum := "4c4d1ba0828aeec6fce08241a8af08860a5ba7fd282595630905f6b963515582", checked := Tryz.checked }
namespace Rows
def none {H : Type} : Left H := { results := [], args := [] }

/-- 'linguistlaw14.SourceText': WHATEVER THE INPUT: true; the input reads as it did. -/
def sourceTextSpec : ChangeSpec := { name := "sourceText", fn := fun _ => fun
  | [d1, d2, d3, d4] => { results := [.lit (.bool true)], args := [d1, d2, d3, d4] }
  | _ => none }
def sourceTextRow : OpenClaim := { program := "ytmmbkjigflhmjaagreat", sum := "4c4d1ba0828aeec6fce08241a8af08860a5ba7fd282595630905f6b963515582", func := "linguist/linguistlaw14.SourceText", spec := "sourceText", inPlace := ["internal/abi.NoEscape"], apart := false }
def SourceTextSaid : Prop := sourceTextRow.holds Tryz.pinned (OpenSpec.ofChange sourceTextSpec)

/-- ITS FALSE NEIGHBOUR: 'it returns false'. Refute it at one input. -/
def sourceTextWrong : ChangeSpec := { name := "sourceText", fn := fun _ => fun
  | [d1, d2, d3, d4] => { results := [.lit (.bool false)], args := [d1, d2, d3, d4] }
  | _ => none }
def SourceTextWrongFalsely : Prop := sourceTextRow.holds Tryz.pinned (OpenSpec.ofChange sourceTextWrong)

/-- 'linguistlaw14.SourceErases': WHATEVER THE INPUT: true; the input reads as it did. -/
def sourceErasesSpec : ChangeSpec := { name := "sourceErases", fn := fun _ => fun
  | [d1, d2, d3] => { results := [.lit (.bool true)], args := [d1, d2, d3] }
  | _ => none }
def sourceErasesRow : OpenClaim := { program := "ytmmbkjigflhmjaagreat", sum := "4c4d1ba0828aeec6fce08241a8af08860a5ba7fd282595630905f6b963515582", func := "linguist/linguistlaw14.SourceErases", spec := "sourceErases", inPlace := ["internal/abi.NoEscape"], apart := false }
def SourceErasesSaid : Prop := sourceErasesRow.holds Tryz.pinned (OpenSpec.ofChange sourceErasesSpec)

/-- ITS FALSE NEIGHBOUR: 'it returns false'. Refute it at one input. -/
def sourceErasesWrong : ChangeSpec := { name := "sourceErases", fn := fun _ => fun
  | [d1, d2, d3] => { results := [.lit (.bool false)], args := [d1, d2, d3] }
  | _ => none }
def SourceErasesWrongFalsely : Prop := sourceErasesRow.holds Tryz.pinned (OpenSpec.ofChange sourceErasesWrong)

/-- 'linguistlaw14.SourceTabs': WHATEVER THE INPUT: true; the input reads as it did. -/
def sourceTabsSpec : ChangeSpec := { name := "sourceTabs", fn := fun _ => fun
  | [d1, d2, d3] => { results := [.lit (.bool true)], args := [d1, d2, d3] }
  | _ => none }
def sourceTabsRow : OpenClaim := { program := "ytmmbkjigflhmjaagreat", sum := "4c4d1ba0828aeec6fce08241a8af08860a5ba7fd282595630905f6b963515582", func := "linguist/linguistlaw14.SourceTabs", spec := "sourceTabs", inPlace := ["internal/abi.NoEscape"], apart := false }
def SourceTabsSaid : Prop := sourceTabsRow.holds Tryz.pinned (OpenSpec.ofChange sourceTabsSpec)

/-- ITS FALSE NEIGHBOUR: 'it returns false'. Refute it at one input. -/
def sourceTabsWrong : ChangeSpec := { name := "sourceTabs", fn := fun _ => fun
  | [d1, d2, d3] => { results := [.lit (.bool false)], args := [d1, d2, d3] }
  | _ => none }
def SourceTabsWrongFalsely : Prop := sourceTabsRow.holds Tryz.pinned (OpenSpec.ofChange sourceTabsWrong)

/-- 'linguistlaw14.SourceReset': WHATEVER THE INPUT: true; the input reads as it did. -/
def sourceResetSpec : ChangeSpec := { name := "sourceReset", fn := fun _ => fun
  | [d1, d2] => { results := [.lit (.bool true)], args := [d1, d2] }
  | _ => none }
def sourceResetRow : OpenClaim := { program := "ytmmbkjigflhmjaagreat", sum := "4c4d1ba0828aeec6fce08241a8af08860a5ba7fd282595630905f6b963515582", func := "linguist/linguistlaw14.SourceReset", spec := "sourceReset", inPlace := ["internal/abi.NoEscape"], apart := false }
def SourceResetSaid : Prop := sourceResetRow.holds Tryz.pinned (OpenSpec.ofChange sourceResetSpec)

/-- ITS FALSE NEIGHBOUR: 'it returns false'. Refute it at one input. -/
def sourceResetWrong : ChangeSpec := { name := "sourceReset", fn := fun _ => fun
  | [d1, d2] => { results := [.lit (.bool false)], args := [d1, d2] }
  | _ => none }
def SourceResetWrongFalsely : Prop := sourceResetRow.holds Tryz.pinned (OpenSpec.ofChange sourceResetWrong)

/-- 'linguistlaw14.SourceMoves': WHATEVER THE INPUT: true; the input reads as it did. -/
def sourceMovesSpec : ChangeSpec := { name := "sourceMoves", fn := fun _ => fun
  | [d1, d2, d3, d4] => { results := [.lit (.bool true)], args := [d1, d2, d3, d4] }
  | _ => none }
def sourceMovesRow : OpenClaim := { program := "ytmmbkjigflhmjaagreat", sum := "4c4d1ba0828aeec6fce08241a8af08860a5ba7fd282595630905f6b963515582", func := "linguist/linguistlaw14.SourceMoves", spec := "sourceMoves", inPlace := ["internal/abi.NoEscape"], unfollowed := true, recurses := true, apart := false }
def SourceMovesSaid : Prop := sourceMovesRow.holds Tryz.pinned (OpenSpec.ofChange sourceMovesSpec)

/-- ITS FALSE NEIGHBOUR: 'it returns false'. Refute it at one input. -/
def sourceMovesWrong : ChangeSpec := { name := "sourceMoves", fn := fun _ => fun
  | [d1, d2, d3, d4] => { results := [.lit (.bool false)], args := [d1, d2, d3, d4] }
  | _ => none }
def SourceMovesWrongFalsely : Prop := sourceMovesRow.holds Tryz.pinned (OpenSpec.ofChange sourceMovesWrong)

/-- 'linguistlaw14.SourceMargins': WHATEVER THE INPUT: true; the input reads as it did. -/
def sourceMarginsSpec : ChangeSpec := { name := "sourceMargins", fn := fun _ => fun
  | [d1, d2, d3, d4] => { results := [.lit (.bool true)], args := [d1, d2, d3, d4] }
  | _ => none }
def sourceMarginsRow : OpenClaim := { program := "ytmmbkjigflhmjaagreat", sum := "4c4d1ba0828aeec6fce08241a8af08860a5ba7fd282595630905f6b963515582", func := "linguist/linguistlaw14.SourceMargins", spec := "sourceMargins", inPlace := ["internal/abi.NoEscape"], unfollowed := true, recurses := true, apart := false }
def SourceMarginsSaid : Prop := sourceMarginsRow.holds Tryz.pinned (OpenSpec.ofChange sourceMarginsSpec)

/-- ITS FALSE NEIGHBOUR: 'it returns false'. Refute it at one input. -/
def sourceMarginsWrong : ChangeSpec := { name := "sourceMargins", fn := fun _ => fun
  | [d1, d2, d3, d4] => { results := [.lit (.bool false)], args := [d1, d2, d3, d4] }
  | _ => none }
def SourceMarginsWrongFalsely : Prop := sourceMarginsRow.holds Tryz.pinned (OpenSpec.ofChange sourceMarginsWrong)

/- THE SECOND FORM. 'bulk': how many values and letters a reading holds, each counted each time it is reached (what is shared counts as often as it is met; a slice's spare places count too). A statement '..UptoSaid' is the law's where the arguments, and the package variables that the reading takes, are together of bulk at most 1048576: NARROWER than '..Said'. Prove '..Said' where nothing that the law and all that it calls make is longer than what came in: it says more and counts as full. Else prove '..UptoSaid'. A law counts once. -/
mutual
def uptoBulk {H : Type} : DataW H → Nat
  | .lit (.string bytes) => bytes.length + 1
  | .lit _ => 1
  | .nil => 1
  | .ptr d => uptoBulk d + 1
  | .slice elems spare => uptoBulkAll elems + uptoBulkAll spare + 1
  | .agg parts => uptoBulkAll parts + 1
  | .iface _ d => uptoBulk d + 1
  | .map entries => uptoBulkEntries entries + 1
  | .held _ => 1
def uptoBulkAll {H : Type} : List (DataW H) → Nat
  | [] => 0
  | d :: r => uptoBulk d + uptoBulkAll r
def uptoBulkEntries {H : Type} : List (Lit × DataW H) → Nat
  | [] => 0
  | x :: r => uptoBulkEntry x + uptoBulkEntries r
def uptoBulkEntry {H : Type} : Lit × DataW H → Nat
  | (.string bytes, d) => bytes.length + uptoBulk d + 1
  | (_, d) => uptoBulk d + 1
 end
def uptoSmall : (H : Type) → List (DataW H) → Bool := fun _ ds => decide (uptoBulkAll ds ≤ 1048576)
def OpenSpec.upto (s : _root_.Go.ChangeSpec) : _root_.Go.OpenSpec := { _root_.Go.OpenSpec.ofChange s with cond := some uptoSmall }

/-- 'linguistlaw14.SourceText', WHERE WHAT IT READS IS OF BULK AT MOST 1048576: true; the input reads as it did. -/
def sourceTextUptoRow : OpenClaim := { program := "ytmmbkjigflhmjaagreat", sum := "4c4d1ba0828aeec6fce08241a8af08860a5ba7fd282595630905f6b963515582", func := "linguist/linguistlaw14.SourceText", spec := "sourceText", inPlace := ["internal/abi.NoEscape"], apart := false, narrowed := true }
def SourceTextUptoSaid : Prop := sourceTextUptoRow.holds Tryz.pinned (OpenSpec.upto sourceTextSpec)

/-- 'linguistlaw14.SourceErases', WHERE WHAT IT READS IS OF BULK AT MOST 1048576: true; the input reads as it did. -/
def sourceErasesUptoRow : OpenClaim := { program := "ytmmbkjigflhmjaagreat", sum := "4c4d1ba0828aeec6fce08241a8af08860a5ba7fd282595630905f6b963515582", func := "linguist/linguistlaw14.SourceErases", spec := "sourceErases", inPlace := ["internal/abi.NoEscape"], apart := false, narrowed := true }
def SourceErasesUptoSaid : Prop := sourceErasesUptoRow.holds Tryz.pinned (OpenSpec.upto sourceErasesSpec)

/-- 'linguistlaw14.SourceTabs', WHERE WHAT IT READS IS OF BULK AT MOST 1048576: true; the input reads as it did. -/
def sourceTabsUptoRow : OpenClaim := { program := "ytmmbkjigflhmjaagreat", sum := "4c4d1ba0828aeec6fce08241a8af08860a5ba7fd282595630905f6b963515582", func := "linguist/linguistlaw14.SourceTabs", spec := "sourceTabs", inPlace := ["internal/abi.NoEscape"], apart := false, narrowed := true }
def SourceTabsUptoSaid : Prop := sourceTabsUptoRow.holds Tryz.pinned (OpenSpec.upto sourceTabsSpec)

/-- 'linguistlaw14.SourceReset', WHERE WHAT IT READS IS OF BULK AT MOST 1048576: true; the input reads as it did. -/
def sourceResetUptoRow : OpenClaim := { program := "ytmmbkjigflhmjaagreat", sum := "4c4d1ba0828aeec6fce08241a8af08860a5ba7fd282595630905f6b963515582", func := "linguist/linguistlaw14.SourceReset", spec := "sourceReset", inPlace := ["internal/abi.NoEscape"], apart := false, narrowed := true }
def SourceResetUptoSaid : Prop := sourceResetUptoRow.holds Tryz.pinned (OpenSpec.upto sourceResetSpec)

/-- 'linguistlaw14.SourceMoves', WHERE WHAT IT READS IS OF BULK AT MOST 1048576: true; the input reads as it did. -/
def sourceMovesUptoRow : OpenClaim := { program := "ytmmbkjigflhmjaagreat", sum := "4c4d1ba0828aeec6fce08241a8af08860a5ba7fd282595630905f6b963515582", func := "linguist/linguistlaw14.SourceMoves", spec := "sourceMoves", inPlace := ["internal/abi.NoEscape"], unfollowed := true, recurses := true, apart := false, narrowed := true }
def SourceMovesUptoSaid : Prop := sourceMovesUptoRow.holds Tryz.pinned (OpenSpec.upto sourceMovesSpec)

/-- 'linguistlaw14.SourceMargins', WHERE WHAT IT READS IS OF BULK AT MOST 1048576: true; the input reads as it did. -/
def sourceMarginsUptoRow : OpenClaim := { program := "ytmmbkjigflhmjaagreat", sum := "4c4d1ba0828aeec6fce08241a8af08860a5ba7fd282595630905f6b963515582", func := "linguist/linguistlaw14.SourceMargins", spec := "sourceMargins", inPlace := ["internal/abi.NoEscape"], unfollowed := true, recurses := true, apart := false, narrowed := true }
def SourceMarginsUptoSaid : Prop := sourceMarginsUptoRow.holds Tryz.pinned (OpenSpec.upto sourceMarginsSpec)

end Rows
end Go.Proofs.YtmmbkjigflhmjaaGreat
