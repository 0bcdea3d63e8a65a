import Derived.Test.YtbnpiancagebbaaGreatDoorLgY1
/-
  A screen that is made of numbers.
-/
namespace Go.Proofs.YtbnpiancagebbaaGreatDoor.LgTab
open Go Lg
set_option linter.unusedVariables false
set_option linter.unusedSimpArgs false
set_option maxRecDepth 8000
structure Sc where
  h : Int
  w : Int
  cells : List D
  row : Int
  col : Int
  pend : Bool
  top : Int
  bot : Int
  pf : Int
  pb : Int
  pg : Int
  tabs : Int
  s0 : Int
  s1 : Int
  shift : Int
  wrap : Bool
  origin : Bool
  shown : Bool
  keys : Bool
  pad : Bool
  r2 : Int
  c2 : Int
  f2 : Int
  b2 : Int
  g2 : Int
  u1 : Int
  u2 : Int
  sh2 : Int
  o2 : Bool
abbrev T64 (n : Int) : D := .sc (.int .u64 n)
abbrev encS (s : Sc) : D := .agg [I s.h, I s.w, .sl 5 s.cells, I s.row, I s.col, B s.pend, I s.top, I s.bot, I s.pf, I s.pb, I s.pg, T64 s.tabs, U s.s0, U s.s1, I s.shift, B s.wrap, B s.origin, B s.shown, B s.keys, B s.pad, I s.r2, I s.c2, I s.f2, I s.b2, I s.g2, U s.u1, U s.u2, I s.sh2, B s.o2]
def GoodS (o : Option (D × List D)) : Prop := ∃ s : Sc, o = some (encS s, []) ∧ (0 ≤ s.row ∧ s.row ≤ 4) ∧ (0 ≤ s.col ∧ s.col ≤ 8) ∧ (0 ≤ s.top ∧ s.top ≤ 3) ∧ (1 ≤ s.h ∧ s.h ≤ 5) ∧ (1 ≤ s.w ∧ s.w ≤ 9) ∧ (s.cells ≠ [] ∧ s.cells.length ≤ 47 ∧ ∀ d, d ∈ s.cells → isCell5 d)
theorem good_s (h w : Int) (cells : List D) (row col : Int) (pend : Bool) (top bot pf pb pg tabs s0 s1 shift : Int) (wrap origin shown keys pad : Bool) (r2 c2 f2 b2 g2 u1 u2 sh2 : Int) (o2 : Bool) (h1 : 0 ≤ row ∧ row ≤ 4) (h2 : 0 ≤ col ∧ col ≤ 8) (h3 : 0 ≤ top ∧ top ≤ 3) (h4 : 1 ≤ h ∧ h ≤ 5) (h5 : 1 ≤ w ∧ w ≤ 9) (h6 : cells ≠ [] ∧ cells.length ≤ 47 ∧ ∀ d, d ∈ cells → isCell5 d) :
    GoodS (some (.agg [I h, I w, .sl 5 cells, I row, I col, B pend, I top, I bot, I pf, I pb, I pg, T64 tabs, U s0, U s1, I shift, B wrap, B origin, B shown, B keys, B pad, I r2, I c2, I f2, I b2, I g2, U u1, U u2, I sh2, B o2], [])) :=
  ⟨⟨h, w, cells, row, col, pend, top, bot, pf, pb, pg, tabs, s0, s1, shift, wrap, origin, shown, keys, pad, r2, c2, f2, b2, g2, u1, u2, sh2, o2⟩, rfl, h1, h2, h3, h4, h5, h6⟩
end Go.Proofs.YtbnpiancagebbaaGreatDoor.LgTab
