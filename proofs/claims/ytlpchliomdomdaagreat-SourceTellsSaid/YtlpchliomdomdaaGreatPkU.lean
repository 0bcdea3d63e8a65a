import Derived.Test.YtlpchliomdomdaaGreatPkO
import Derived.Test.YtlpchliomdomdaaGreatPk20
namespace Go.Proofs.YtlpchliomdomdaaGreat.LgTab
open Go Lg
set_option linter.unusedVariables false
set_option linter.unusedSimpArgs false
theorem u64_nat {n:Int} (h:(Lit.int .u64 n).wf=true):∃ T:Nat,n=T∧T<2 ^ 64:=by
 have e:(Lit.int .u64 n).wf=(decide (0≤n) && decide (n≤18446744073709551615)):=rfl
 rw [e] at h
 simp at h
 exact ⟨n.toNat,by omega,by omega⟩
end Go.Proofs.YtlpchliomdomdaaGreat.LgTab
