import Derived.Test.YtadipapkdjcnbaaGreatLgQs
/-
  What is made of numbers: screens.
-/
namespace Go.Proofs.YtadipapkdjcnbaaGreat.LgTab
open Go Lg
set_option linter.unusedVariables false
set_option linter.unusedSimpArgs false
set_option maxRecDepth 8000
def setOk (c : Int) : Prop := c = 66 ∨ c = 48
/-- A screen that is right. -/
structure RightS (s : Sc) : Prop where
  g : RightG s.g
  p : PR s.p
  sp : PR s.sv.p
  s0 : setOk s.s0
  s1 : setOk s.s1
  u0 : setOk s.sv.u0
  u1 : setOk s.sv.u1
  mar : s.top < s.bot ∨ (s.g.h = 1 ∧ s.top = 0 ∧ s.bot = 0)
  pend : s.pend = true → s.wrap = true ∧ s.col = (s.g.w : Int) - 1
noncomputable def keepS (g : Gd) (row col top bot r2 c2 kf p1 p2 p3 : Int) (tabs : Nat) : Sc :=
  { g := g, row := row, col := col, pend := decide (andI kf 1 = 0) && decide (col = (g.w : Int) - 1) && decide (andI kf 32 = 32), top := top, bot := bot, p := penM p1 p2 p3, tabs := tabs, s0 := if andI kf 64 = 64 then 48 else 66, s1 := 66, sh := if andI kf 128 = 128 then 1 else 0, wrap := decide (andI kf 1 = 0), orig := decide (andI kf 2 = 2), shown := decide (andI kf 4 = 0), keys := decide (andI kf 8 = 8), pad := decide (andI kf 16 = 16), sv := ⟨r2, c2, penM kf 0 0, 66, 48, 0, decide (andI kf 256 = 256)⟩ }
theorem keepS_ok {g : Gd} (hg : RightG g) (h5 : g.h ≤ 5) (w9 : g.w ≤ 9) {row col top bot r2 c2 : Int} (kf p1 p2 p3 : Int) {tabs : Nat} (ht : tabs < 2 ^ 64) (br : 0 ≤ row ∧ row < g.h) (bc : 0 ≤ col ∧ col < g.w) (bt : 0 ≤ top ∧ top ≤ bot) (bb : bot < g.h) (b2 : 0 ≤ r2 ∧ r2 < g.h) (d2 : 0 ≤ c2 ∧ c2 < g.w) (hm : top < bot ∨ (g.h = 1 ∧ top = 0 ∧ bot = 0)) :
    OkS (keepS g row col top bot r2 c2 kf p1 p2 p3 tabs) ∧ RightS (keepS g row col top bot r2 c2 kf p1 p2 p3 tabs) := by
  refine ⟨⟨hg.1, by show g.h ≤ 40; omega, by show g.w ≤ 60; omega, br, bc, bt, bb, ht, ?_, .inl rfl, b2, d2⟩, ⟨hg, penM_ok _ _ _, penM_ok _ _ _, ?_, .inl rfl, .inl rfl, .inr rfl, hm, ?_⟩⟩
  · show (if andI kf 128 = 128 then (1 : Int) else 0) = 0 ∨ _
    split
    · right; rename_i h; simp [keepS, h]
    · left; rfl
  · show (if andI kf 64 = 64 then (48 : Int) else 66) = 66 ∨ (if andI kf 64 = 64 then (48 : Int) else 66) = 48
    split
    · right; rfl
    · left; rfl
  · intro h
    simp only [keepS, Bool.and_eq_true, decide_eq_true_eq] at h
    exact ⟨by simp [keepS, h.1.1], h.1.2⟩
end Go.Proofs.YtadipapkdjcnbaaGreat.LgTab
