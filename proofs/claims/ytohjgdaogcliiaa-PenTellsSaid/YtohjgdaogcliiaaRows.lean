/-
  No cell of these rows narrows 'for every input' (looked for: loops, veiled, ifaces, maps, wideKeys, modest, calm, conditions, laid).
  DERIVED. THE GIVEN ROWS OF THIS SEAT. 4 by the template 'for every input the law returns true; each argument reads behind the call as it read before'; 0 by the template 'total and deterministic' (their statements: YtohjgdaogcliiaaTotals.lean).
  GIVEN WITH THE SEED: the statements are not yours to turn. If you find one false, say at which input.
  Laid BY PROGRAM, IN A SANDBOX (cutbox-rows.mjs): the forced cells as the released guide's own fill.sh prints them over the translation 9782d5ea41a719cb… (all of the seat's roots in one cut). By AI agents, Wed Nov 11 2026. No macro, syntax, notation, axiom, sorry.
-/
import Derived.Test.YtohjgdaogcliiaaChecked
import GoSem.Claim
import GoSem.ClaimJoined
import GoSem.ClaimMapViews
import Derived.JoinedTies
import Derived.KernelRfl
namespace Go.Proofs.Ytohjgdaogcliiaa
/- THE CELL 'sum', in the pinned program and in every row, IS THE sha256 OF THE DUMP (.gsa) THAT YtohjgdaogcliiaaProg.lean LOADS. Nothing in Lean hashes anything: it is a label: what it is worth is what the hold of that sum in a sandbox is worth. -/
noncomputable def Try.pinned : Pinned := { name := "ytohjgdaogcliiaa", sum := "9782d5ea41a719cb353df011a5486654f00dff917464d33908b83ca3021a4a1d", checked := Try.checked }
namespace Rows
def none {H : Type} : Left H := { results := [], args := [] }

/-- 'linguistlaw16.DialectTables': WHATEVER THE INPUT: true; the input reads as it did. -/
def dialectTablesSpec : ChangeSpec := { name := "dialectTables", fn := fun _ => fun
  | [d1, d2] => { results := [.lit (.bool true)], args := [d1, d2] }
  | _ => none }
def dialectTablesRow : OpenClaim := { program := "ytohjgdaogcliiaa", sum := "9782d5ea41a719cb353df011a5486654f00dff917464d33908b83ca3021a4a1d", func := "linguist/linguistlaw16.DialectTables", spec := "dialectTables", plainKeys := false, apart := false }
def DialectTablesSaid : Prop := dialectTablesRow.holds Try.pinned (OpenSpec.ofChange dialectTablesSpec)

/-- ITS FALSE NEIGHBOUR: 'it returns false'. Refute it at one input. -/
def dialectTablesWrong : ChangeSpec := { name := "dialectTables", fn := fun _ => fun
  | [d1, d2] => { results := [.lit (.bool false)], args := [d1, d2] }
  | _ => none }
def DialectTablesWrongFalsely : Prop := dialectTablesRow.holds Try.pinned (OpenSpec.ofChange dialectTablesWrong)

/-- 'linguistlaw10.PenTells': WHATEVER THE INPUT: true; the input reads as it did. -/
def penTellsSpec : ChangeSpec := { name := "penTells", fn := fun _ => fun
  | [d1, d2, d3, d4] => { results := [.lit (.bool true)], args := [d1, d2, d3, d4] }
  | _ => none }
def penTellsRow : OpenClaim := { program := "ytohjgdaogcliiaa", sum := "9782d5ea41a719cb353df011a5486654f00dff917464d33908b83ca3021a4a1d", func := "linguist/linguistlaw10.PenTells", spec := "penTells", plainKeys := false, apart := false }
def PenTellsSaid : Prop := penTellsRow.holds Try.pinned (OpenSpec.ofChange penTellsSpec)

/-- ITS FALSE NEIGHBOUR: 'it returns false'. Refute it at one input. -/
def penTellsWrong : ChangeSpec := { name := "penTells", fn := fun _ => fun
  | [d1, d2, d3, d4] => { results := [.lit (.bool false)], args := [d1, d2, d3, d4] }
  | _ => none }
def PenTellsWrongFalsely : Prop := penTellsRow.holds Try.pinned (OpenSpec.ofChange penTellsWrong)

/-- 'linguistlaw10.PenSaid': WHATEVER THE INPUT: true; the input reads as it did. -/
def penSaidSpec : ChangeSpec := { name := "penSaid", fn := fun _ => fun
  | [d1, d2] => { results := [.lit (.bool true)], args := [d1, d2] }
  | _ => none }
def penSaidRow : OpenClaim := { program := "ytohjgdaogcliiaa", sum := "9782d5ea41a719cb353df011a5486654f00dff917464d33908b83ca3021a4a1d", func := "linguist/linguistlaw10.PenSaid", spec := "penSaid", plainKeys := false, apart := false }
def PenSaidSaid : Prop := penSaidRow.holds Try.pinned (OpenSpec.ofChange penSaidSpec)

/-- ITS FALSE NEIGHBOUR: 'it returns false'. Refute it at one input. -/
def penSaidWrong : ChangeSpec := { name := "penSaid", fn := fun _ => fun
  | [d1, d2] => { results := [.lit (.bool false)], args := [d1, d2] }
  | _ => none }
def PenSaidWrongFalsely : Prop := penSaidRow.holds Try.pinned (OpenSpec.ofChange penSaidWrong)

/-- 'linguistlaw10.PenParts': WHATEVER THE INPUT: true; the input reads as it did. -/
def penPartsSpec : ChangeSpec := { name := "penParts", fn := fun _ => fun
  | [d1, d2, d3, d4] => { results := [.lit (.bool true)], args := [d1, d2, d3, d4] }
  | _ => none }
def penPartsRow : OpenClaim := { program := "ytohjgdaogcliiaa", sum := "9782d5ea41a719cb353df011a5486654f00dff917464d33908b83ca3021a4a1d", func := "linguist/linguistlaw10.PenParts", spec := "penParts", plainKeys := false, apart := false }
def PenPartsSaid : Prop := penPartsRow.holds Try.pinned (OpenSpec.ofChange penPartsSpec)

/-- ITS FALSE NEIGHBOUR: 'it returns false'. Refute it at one input. -/
def penPartsWrong : ChangeSpec := { name := "penParts", fn := fun _ => fun
  | [d1, d2, d3, d4] => { results := [.lit (.bool false)], args := [d1, d2, d3, d4] }
  | _ => none }
def PenPartsWrongFalsely : Prop := penPartsRow.holds Try.pinned (OpenSpec.ofChange penPartsWrong)

/- THE SECOND FORM. 'bulk': how many values and letters a reading holds, each counted each time it is reached (what is shared counts as often as it is met; a slice's spare places count too). A statement '..UptoSaid' is the law's where the arguments, and the package variables that the reading takes, are together of bulk at most 1048576: NARROWER than '..Said'. Prove '..Said' where nothing that the law and all that it calls make is longer than what came in: it says more and counts as full. Else prove '..UptoSaid'. A law counts once. -/
mutual
def uptoBulk {H : Type} : DataW H → Nat
  | .lit (.string bytes) => bytes.length + 1
  | .lit _ => 1
  | .nil => 1
  | .ptr d => uptoBulk d + 1
  | .slice elems spare => uptoBulkAll elems + uptoBulkAll spare + 1
  | .agg parts => uptoBulkAll parts + 1
  | .iface _ d => uptoBulk d + 1
  | .map entries => uptoBulkEntries entries + 1
  | .held _ => 1
def uptoBulkAll {H : Type} : List (DataW H) → Nat
  | [] => 0
  | d :: r => uptoBulk d + uptoBulkAll r
def uptoBulkEntries {H : Type} : List (Lit × DataW H) → Nat
  | [] => 0
  | x :: r => uptoBulkEntry x + uptoBulkEntries r
def uptoBulkEntry {H : Type} : Lit × DataW H → Nat
  | (.string bytes, d) => bytes.length + uptoBulk d + 1
  | (_, d) => uptoBulk d + 1
 end
def uptoSmall : (H : Type) → List (DataW H) → Bool := fun _ ds => decide (uptoBulkAll ds ≤ 1048576)
def OpenSpec.upto (s : _root_.Go.ChangeSpec) : _root_.Go.OpenSpec := { _root_.Go.OpenSpec.ofChange s with cond := some uptoSmall }

/-- 'linguistlaw16.DialectTables', WHERE WHAT IT READS IS OF BULK AT MOST 1048576: true; the input reads as it did. -/
def dialectTablesUptoRow : OpenClaim := { program := "ytohjgdaogcliiaa", sum := "9782d5ea41a719cb353df011a5486654f00dff917464d33908b83ca3021a4a1d", func := "linguist/linguistlaw16.DialectTables", spec := "dialectTables", plainKeys := false, apart := false, narrowed := true }
def DialectTablesUptoSaid : Prop := dialectTablesUptoRow.holds Try.pinned (OpenSpec.upto dialectTablesSpec)

/-- 'linguistlaw10.PenTells', WHERE WHAT IT READS IS OF BULK AT MOST 1048576: true; the input reads as it did. -/
def penTellsUptoRow : OpenClaim := { program := "ytohjgdaogcliiaa", sum := "9782d5ea41a719cb353df011a5486654f00dff917464d33908b83ca3021a4a1d", func := "linguist/linguistlaw10.PenTells", spec := "penTells", plainKeys := false, apart := false, narrowed := true }
def PenTellsUptoSaid : Prop := penTellsUptoRow.holds Try.pinned (OpenSpec.upto penTellsSpec)

/-- 'linguistlaw10.PenSaid', WHERE WHAT IT READS IS OF BULK AT MOST 1048576: true; the input reads as it did. -/
def penSaidUptoRow : OpenClaim := { program := "ytohjgdaogcliiaa", sum := "9782d5ea41a719cb353df011a5486654f00dff917464d33908b83ca3021a4a1d", func := "linguist/linguistlaw10.PenSaid", spec := "penSaid", plainKeys := false, apart := false, narrowed := true }
def PenSaidUptoSaid : Prop := penSaidUptoRow.holds Try.pinned (OpenSpec.upto penSaidSpec)

/-- 'linguistlaw10.PenParts', WHERE WHAT IT READS IS OF BULK AT MOST 1048576: true; the input reads as it did. -/
def penPartsUptoRow : OpenClaim := { program := "ytohjgdaogcliiaa", sum := "9782d5ea41a719cb353df011a5486654f00dff917464d33908b83ca3021a4a1d", func := "linguist/linguistlaw10.PenParts", spec := "penParts", plainKeys := false, apart := false, narrowed := true }
def PenPartsUptoSaid : Prop := penPartsUptoRow.holds Try.pinned (OpenSpec.upto penPartsSpec)

end Rows
end Go.Proofs.Ytohjgdaogcliiaa
