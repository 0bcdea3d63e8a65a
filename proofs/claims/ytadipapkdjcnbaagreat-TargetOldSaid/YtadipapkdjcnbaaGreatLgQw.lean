import Derived.Test.YtadipapkdjcnbaaGreatLgQv
import Derived.Test.YtadipapkdjcnbaaGreatLgQu
/-
  Screens are seen to be the same, to be right.
-/
namespace Go.Proofs.YtadipapkdjcnbaaGreat.LgTab
open Go Lg
set_option linter.unusedVariables false
set_option linter.unusedSimpArgs false
set_option maxRecDepth 8000
abbrev butD (s : Sc) : D := .agg [I s.row, I s.col, I s.top, I s.bot, I s.sh, B s.pend, B s.wrap, B s.orig, B s.shown, B s.keys, B s.pad, I s.p.f, I s.p.b, I s.p.g, T64 s.tabs, U s.s0, U s.s1, I s.sv.r, I s.sv.c, I s.sv.p.f, I s.sv.p.b, I s.sv.p.g, U s.sv.u0, U s.sv.u1, I s.sv.sh, B s.sv.o]
end Go.Proofs.YtadipapkdjcnbaaGreat.LgTab
