import Derived.Test.YtadipapkdjcnbaaGreatLgTab
import Derived.Test.YtadipapkdjcnbaaGreatLgT0
/-
  The run that the targets' laws end in.
-/
namespace Go.Proofs.YtadipapkdjcnbaaGreat.LgTab
open Go Lg
set_option maxRecDepth 100000 in
theorem sp209_15 : evFun (clOf (modsR tab 15) 3) s209 [] = some (B true, []) := by kernel_rfl
end Go.Proofs.YtadipapkdjcnbaaGreat.LgTab
