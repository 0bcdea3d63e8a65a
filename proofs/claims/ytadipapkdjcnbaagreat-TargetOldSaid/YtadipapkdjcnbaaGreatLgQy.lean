import Derived.Test.YtadipapkdjcnbaaGreatLgQw
/-
  Right screens are seen to be right.
-/
namespace Go.Proofs.YtadipapkdjcnbaaGreat.LgTab
open Go Lg
set_option linter.unusedVariables false
set_option linter.unusedSimpArgs false
set_option maxRecDepth 8000
abbrev svD (v : Sv) : D := .agg [I v.r, I v.c, I v.p.f, I v.p.b, I v.p.g, U v.u0, U v.u1, I v.sh, B v.o]
end Go.Proofs.YtadipapkdjcnbaaGreat.LgTab
