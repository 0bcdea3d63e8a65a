import Derived.Test.YtadipapkdjcnbaaGreatLgQt
/-
  What is made of numbers: any screen, right.
-/
namespace Go.Proofs.YtadipapkdjcnbaaGreat.LgTab
open Go Lg
set_option linter.unusedVariables false
set_option linter.unusedSimpArgs false
set_option maxRecDepth 8000
theorem within_b (n lo hi : Int) (h : lo ≤ hi) : lo ≤ lo + n % (hi - lo + 1) ∧ lo + n % (hi - lo + 1) ≤ hi := by
  have := Int.emod_nonneg n (b := hi - lo + 1) (by omega)
  have := Int.emod_lt_of_pos n (b := hi - lo + 1) (by omega)
  omega
end Go.Proofs.YtadipapkdjcnbaaGreat.LgTab
