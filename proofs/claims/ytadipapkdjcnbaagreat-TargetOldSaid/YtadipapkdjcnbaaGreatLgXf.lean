import Derived.Test.YtadipapkdjcnbaaGreatLgXe
/-
  TargetOld: its law.
-/
namespace Go.Proofs.YtadipapkdjcnbaaGreat.LgTab
open Go Lg
set_option linter.unusedVariables false
set_option linter.unusedSimpArgs false
set_option maxRecDepth 8000
theorem last_row : lastS.row = 0 := by kernel_rfl
theorem last_col : lastS.col = 8 := by kernel_rfl
theorem last_text : textM [gdD lastS.g, I 0] = some (S [49, 50, 51, 52, 53, 54, 55, 56, 122], []) := by kernel_rfl
end Go.Proofs.YtadipapkdjcnbaaGreat.LgTab
