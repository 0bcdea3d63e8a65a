/-
  No cell of these rows narrows 'for every input' (looked for: loops, veiled, ifaces, maps, wideKeys, modest, calm, conditions, laid).
  DERIVED. THE GIVEN ROWS OF THIS SEAT. 6 by the template 'for every input the law returns true; each argument reads behind the call as it read before'; 0 by the template 'total and deterministic' (their statements: YtlpchliomdomdaaGreatTotals.lean).
  GIVEN WITH THE SEED: the statements are not yours to turn. If you find one false, say at which input.
  Laid BY PROGRAM, IN A SANDBOX (cutbox-rows.mjs): the forced cells as the released guide's own fill.sh prints them over the translation 82316b760c479a9f… (all of the seat's roots in one cut). By AI agents, Wed Nov 11 2026. No macro, syntax, notation, axiom, sorry.
-/
import Derived.Test.YtlpchliomdomdaaGreatChecked
import GoSem.Claim
import GoSem.ClaimJoined
import GoSem.ClaimMapViews
import Derived.JoinedTies
import Derived.KernelRfl
namespace Go.Proofs.YtlpchliomdomdaaGreat
/- THE CELL 'sum', in the pinned program and in every row, IS THE sha256 OF THE DUMP (.gsa) THAT YtlpchliomdomdaaGreatProg.lean LOADS. Nothing in Lean hashes anything: it is a label: what it is worth is what the hold of that sum in a sandbox is worth. -/
noncomputable def Tryz.pinned : Pinned := { name := "ytlpchliomdomdaagreat", sum := "82316b760c479a9f50e4d2a0d6871379c8b110e4a0d55c46dd5e2bc649c13505", checked := Tryz.checked }
namespace Rows
def none {H : Type} : Left H := { results := [], args := [] }

/-- 'linguistlaw14.SourceTells': WHATEVER THE INPUT: true; the input reads as it did. -/
def sourceTellsSpec : ChangeSpec := { name := "sourceTells", fn := fun _ => fun
  | [d1, d2, d3, d4] => { results := [.lit (.bool true)], args := [d1, d2, d3, d4] }
  | _ => none }
def sourceTellsRow : OpenClaim := { program := "ytlpchliomdomdaagreat", sum := "82316b760c479a9f50e4d2a0d6871379c8b110e4a0d55c46dd5e2bc649c13505", func := "linguist/linguistlaw14.SourceTells", spec := "sourceTells", inPlace := ["internal/abi.NoEscape"], unfollowed := true, recurses := true, plainKeys := false, apart := false }
def SourceTellsSaid : Prop := sourceTellsRow.holds Tryz.pinned (OpenSpec.ofChange sourceTellsSpec)

/-- ITS FALSE NEIGHBOUR: 'it returns false'. Refute it at one input. -/
def sourceTellsWrong : ChangeSpec := { name := "sourceTells", fn := fun _ => fun
  | [d1, d2, d3, d4] => { results := [.lit (.bool false)], args := [d1, d2, d3, d4] }
  | _ => none }
def SourceTellsWrongFalsely : Prop := sourceTellsRow.holds Tryz.pinned (OpenSpec.ofChange sourceTellsWrong)

/-- 'linguistlaw14.SourcePlays': WHATEVER THE INPUT: true; the input reads as it did. -/
def sourcePlaysSpec : ChangeSpec := { name := "sourcePlays", fn := fun _ => fun
  | [d1, d2, d3] => { results := [.lit (.bool true)], args := [d1, d2, d3] }
  | _ => none }
def sourcePlaysRow : OpenClaim := { program := "ytlpchliomdomdaagreat", sum := "82316b760c479a9f50e4d2a0d6871379c8b110e4a0d55c46dd5e2bc649c13505", func := "linguist/linguistlaw14.SourcePlays", spec := "sourcePlays", inPlace := ["internal/abi.NoEscape"], unfollowed := true, recurses := true, plainKeys := false, apart := false }
def SourcePlaysSaid : Prop := sourcePlaysRow.holds Tryz.pinned (OpenSpec.ofChange sourcePlaysSpec)

/-- ITS FALSE NEIGHBOUR: 'it returns false'. Refute it at one input. -/
def sourcePlaysWrong : ChangeSpec := { name := "sourcePlays", fn := fun _ => fun
  | [d1, d2, d3] => { results := [.lit (.bool false)], args := [d1, d2, d3] }
  | _ => none }
def SourcePlaysWrongFalsely : Prop := sourcePlaysRow.holds Tryz.pinned (OpenSpec.ofChange sourcePlaysWrong)

/-- 'linguistlaw14.SourceBytes': WHATEVER THE INPUT: true; the input reads as it did. -/
def sourceBytesSpec : ChangeSpec := { name := "sourceBytes", fn := fun _ => fun
  | [d1, d2, d3, d4] => { results := [.lit (.bool true)], args := [d1, d2, d3, d4] }
  | _ => none }
def sourceBytesRow : OpenClaim := { program := "ytlpchliomdomdaagreat", sum := "82316b760c479a9f50e4d2a0d6871379c8b110e4a0d55c46dd5e2bc649c13505", func := "linguist/linguistlaw14.SourceBytes", spec := "sourceBytes", inPlace := ["internal/abi.NoEscape"], unfollowed := true, recurses := true, plainKeys := false, apart := false }
def SourceBytesSaid : Prop := sourceBytesRow.holds Tryz.pinned (OpenSpec.ofChange sourceBytesSpec)

/-- ITS FALSE NEIGHBOUR: 'it returns false'. Refute it at one input. -/
def sourceBytesWrong : ChangeSpec := { name := "sourceBytes", fn := fun _ => fun
  | [d1, d2, d3, d4] => { results := [.lit (.bool false)], args := [d1, d2, d3, d4] }
  | _ => none }
def SourceBytesWrongFalsely : Prop := sourceBytesRow.holds Tryz.pinned (OpenSpec.ofChange sourceBytesWrong)

/-- 'linguistlaw17.TargetDoes': WHATEVER THE INPUT: true; the input reads as it did. -/
def targetDoesSpec : ChangeSpec := { name := "targetDoes", fn := fun _ => fun
  | [d1, d2, d3] => { results := [.lit (.bool true)], args := [d1, d2, d3] }
  | _ => none }
def targetDoesRow : OpenClaim := { program := "ytlpchliomdomdaagreat", sum := "82316b760c479a9f50e4d2a0d6871379c8b110e4a0d55c46dd5e2bc649c13505", func := "linguist/linguistlaw17.TargetDoes", spec := "targetDoes", unfollowed := true, recurses := true, plainKeys := false, apart := false }
def TargetDoesSaid : Prop := targetDoesRow.holds Tryz.pinned (OpenSpec.ofChange targetDoesSpec)

/-- ITS FALSE NEIGHBOUR: 'it returns false'. Refute it at one input. -/
def targetDoesWrong : ChangeSpec := { name := "targetDoes", fn := fun _ => fun
  | [d1, d2, d3] => { results := [.lit (.bool false)], args := [d1, d2, d3] }
  | _ => none }
def TargetDoesWrongFalsely : Prop := targetDoesRow.holds Tryz.pinned (OpenSpec.ofChange targetDoesWrong)

/-- 'linguistlaw17.TargetFeeds': WHATEVER THE INPUT: true; the input reads as it did. -/
def targetFeedsSpec : ChangeSpec := { name := "targetFeeds", fn := fun _ => fun
  | [d1, d2, d3, d4, d5, d6] => { results := [.lit (.bool true)], args := [d1, d2, d3, d4, d5, d6] }
  | _ => none }
def targetFeedsRow : OpenClaim := { program := "ytlpchliomdomdaagreat", sum := "82316b760c479a9f50e4d2a0d6871379c8b110e4a0d55c46dd5e2bc649c13505", func := "linguist/linguistlaw17.TargetFeeds", spec := "targetFeeds", plainKeys := false, apart := false }
def TargetFeedsSaid : Prop := targetFeedsRow.holds Tryz.pinned (OpenSpec.ofChange targetFeedsSpec)

/-- ITS FALSE NEIGHBOUR: 'it returns false'. Refute it at one input. -/
def targetFeedsWrong : ChangeSpec := { name := "targetFeeds", fn := fun _ => fun
  | [d1, d2, d3, d4, d5, d6] => { results := [.lit (.bool false)], args := [d1, d2, d3, d4, d5, d6] }
  | _ => none }
def TargetFeedsWrongFalsely : Prop := targetFeedsRow.holds Tryz.pinned (OpenSpec.ofChange targetFeedsWrong)

/-- 'linguistlaw17.TargetPlain': WHATEVER THE INPUT: true; the input reads as it did. -/
def targetPlainSpec : ChangeSpec := { name := "targetPlain", fn := fun _ => fun
  | [d1, d2, d3] => { results := [.lit (.bool true)], args := [d1, d2, d3] }
  | _ => none }
def targetPlainRow : OpenClaim := { program := "ytlpchliomdomdaagreat", sum := "82316b760c479a9f50e4d2a0d6871379c8b110e4a0d55c46dd5e2bc649c13505", func := "linguist/linguistlaw17.TargetPlain", spec := "targetPlain", plainKeys := false, apart := false }
def TargetPlainSaid : Prop := targetPlainRow.holds Tryz.pinned (OpenSpec.ofChange targetPlainSpec)

/-- ITS FALSE NEIGHBOUR: 'it returns false'. Refute it at one input. -/
def targetPlainWrong : ChangeSpec := { name := "targetPlain", fn := fun _ => fun
  | [d1, d2, d3] => { results := [.lit (.bool false)], args := [d1, d2, d3] }
  | _ => none }
def TargetPlainWrongFalsely : Prop := targetPlainRow.holds Tryz.pinned (OpenSpec.ofChange targetPlainWrong)

/- THE SECOND FORM. 'bulk': how many values and letters a reading holds, each counted each time it is reached (what is shared counts as often as it is met; a slice's spare places count too). A statement '..UptoSaid' is the law's where the arguments, and the package variables that the reading takes, are together of bulk at most 1048576: NARROWER than '..Said'. Prove '..Said' where nothing that the law and all that it calls make is longer than what came in: it says more and counts as full. Else prove '..UptoSaid'. A law counts once. -/
mutual
def uptoBulk {H : Type} : DataW H → Nat
  | .lit (.string bytes) => bytes.length + 1
  | .lit _ => 1
  | .nil => 1
  | .ptr d => uptoBulk d + 1
  | .slice elems spare => uptoBulkAll elems + uptoBulkAll spare + 1
  | .agg parts => uptoBulkAll parts + 1
  | .iface _ d => uptoBulk d + 1
  | .map entries => uptoBulkEntries entries + 1
  | .held _ => 1
def uptoBulkAll {H : Type} : List (DataW H) → Nat
  | [] => 0
  | d :: r => uptoBulk d + uptoBulkAll r
def uptoBulkEntries {H : Type} : List (Lit × DataW H) → Nat
  | [] => 0
  | x :: r => uptoBulkEntry x + uptoBulkEntries r
def uptoBulkEntry {H : Type} : Lit × DataW H → Nat
  | (.string bytes, d) => bytes.length + uptoBulk d + 1
  | (_, d) => uptoBulk d + 1
 end
def uptoSmall : (H : Type) → List (DataW H) → Bool := fun _ ds => decide (uptoBulkAll ds ≤ 1048576)
def OpenSpec.upto (s : _root_.Go.ChangeSpec) : _root_.Go.OpenSpec := { _root_.Go.OpenSpec.ofChange s with cond := some uptoSmall }

/-- 'linguistlaw14.SourceTells', WHERE WHAT IT READS IS OF BULK AT MOST 1048576: true; the input reads as it did. -/
def sourceTellsUptoRow : OpenClaim := { program := "ytlpchliomdomdaagreat", sum := "82316b760c479a9f50e4d2a0d6871379c8b110e4a0d55c46dd5e2bc649c13505", func := "linguist/linguistlaw14.SourceTells", spec := "sourceTells", inPlace := ["internal/abi.NoEscape"], unfollowed := true, recurses := true, plainKeys := false, apart := false, narrowed := true }
def SourceTellsUptoSaid : Prop := sourceTellsUptoRow.holds Tryz.pinned (OpenSpec.upto sourceTellsSpec)

/-- 'linguistlaw14.SourcePlays', WHERE WHAT IT READS IS OF BULK AT MOST 1048576: true; the input reads as it did. -/
def sourcePlaysUptoRow : OpenClaim := { program := "ytlpchliomdomdaagreat", sum := "82316b760c479a9f50e4d2a0d6871379c8b110e4a0d55c46dd5e2bc649c13505", func := "linguist/linguistlaw14.SourcePlays", spec := "sourcePlays", inPlace := ["internal/abi.NoEscape"], unfollowed := true, recurses := true, plainKeys := false, apart := false, narrowed := true }
def SourcePlaysUptoSaid : Prop := sourcePlaysUptoRow.holds Tryz.pinned (OpenSpec.upto sourcePlaysSpec)

/-- 'linguistlaw14.SourceBytes', WHERE WHAT IT READS IS OF BULK AT MOST 1048576: true; the input reads as it did. -/
def sourceBytesUptoRow : OpenClaim := { program := "ytlpchliomdomdaagreat", sum := "82316b760c479a9f50e4d2a0d6871379c8b110e4a0d55c46dd5e2bc649c13505", func := "linguist/linguistlaw14.SourceBytes", spec := "sourceBytes", inPlace := ["internal/abi.NoEscape"], unfollowed := true, recurses := true, plainKeys := false, apart := false, narrowed := true }
def SourceBytesUptoSaid : Prop := sourceBytesUptoRow.holds Tryz.pinned (OpenSpec.upto sourceBytesSpec)

/-- 'linguistlaw17.TargetDoes', WHERE WHAT IT READS IS OF BULK AT MOST 1048576: true; the input reads as it did. -/
def targetDoesUptoRow : OpenClaim := { program := "ytlpchliomdomdaagreat", sum := "82316b760c479a9f50e4d2a0d6871379c8b110e4a0d55c46dd5e2bc649c13505", func := "linguist/linguistlaw17.TargetDoes", spec := "targetDoes", unfollowed := true, recurses := true, plainKeys := false, apart := false, narrowed := true }
def TargetDoesUptoSaid : Prop := targetDoesUptoRow.holds Tryz.pinned (OpenSpec.upto targetDoesSpec)

/-- 'linguistlaw17.TargetFeeds', WHERE WHAT IT READS IS OF BULK AT MOST 1048576: true; the input reads as it did. -/
def targetFeedsUptoRow : OpenClaim := { program := "ytlpchliomdomdaagreat", sum := "82316b760c479a9f50e4d2a0d6871379c8b110e4a0d55c46dd5e2bc649c13505", func := "linguist/linguistlaw17.TargetFeeds", spec := "targetFeeds", plainKeys := false, apart := false, narrowed := true }
def TargetFeedsUptoSaid : Prop := targetFeedsUptoRow.holds Tryz.pinned (OpenSpec.upto targetFeedsSpec)

/-- 'linguistlaw17.TargetPlain', WHERE WHAT IT READS IS OF BULK AT MOST 1048576: true; the input reads as it did. -/
def targetPlainUptoRow : OpenClaim := { program := "ytlpchliomdomdaagreat", sum := "82316b760c479a9f50e4d2a0d6871379c8b110e4a0d55c46dd5e2bc649c13505", func := "linguist/linguistlaw17.TargetPlain", spec := "targetPlain", plainKeys := false, apart := false, narrowed := true }
def TargetPlainUptoSaid : Prop := targetPlainUptoRow.holds Tryz.pinned (OpenSpec.upto targetPlainSpec)

end Rows
end Go.Proofs.YtlpchliomdomdaaGreat
