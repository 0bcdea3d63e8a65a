import Derived.Test.YtmmbkjigflhmjaaGreatLgQw
/-
  Right screens are seen to be right.
-/
namespace Go.Proofs.YtmmbkjigflhmjaaGreat.LgTab
open Go Lg
set_option linter.unusedVariables false
set_option linter.unusedSimpArgs false
set_option maxRecDepth 8000
theorem sp378 (k : Nat) (c : Int) (h : setOk c) : evFun (clOf (modsR tab k) 3) s378 [U c] = some (B true, []) := by
  rw [evFun_evB rfl]
  unfold s378
  rcases h with rfl | rfl
  · simp -implicitDefEqProofs []
  · simp -implicitDefEqProofs []
abbrev svD (v : Sv) : D := .agg [I v.r, I v.c, I v.p.f, I v.p.b, I v.p.g, U v.u0, U v.u1, I v.sh, B v.o]
set_option maxHeartbeats 4000000 in
theorem sp377 (k : Nat) (g : Gd) (v : Sv) (h1 : 0 ≤ v.r ∧ v.r < g.h) (h2 : 0 ≤ v.c ∧ v.c < g.w) (h3 : PR v.p) (h4 : setOk v.u0) (h5 : setOk v.u1) (h6 : v.sh = 0 ∨ v.sh = 1) : evFun (clOf (modsR tab (k + 2)) 3) s377 [gdD g, svD v] = some (B true, []) := by
  have w1 := fun q => sp108 q v.p h3
  have w2 := fun q => sp378 q v.u0 h4
  have w3 := fun q => sp378 q v.u1 h5
  rw [evFun_evB rfl]
  unfold s377
  rcases h6 with h | h
  · simp -implicitDefEqProofs [h1.1, h1.2, h2.1, h2.2, cw108, w1, cw378, w2, w3, eq_true h]
  · have h0 : ¬ v.sh = 0 := by omega
    simp -implicitDefEqProofs [h1.1, h1.2, h2.1, h2.2, cw108, w1, cw378, w2, w3, eq_true h, h0]
set_option maxHeartbeats 4000000 in
theorem sp373 (k : Nat) (s : Sc) (o : OkS s) (r : RightS s) : evFun (clOf (modsR tab (k + 5)) 3) s373 [scD s] = some (B true, []) := by
  have w1 := fun q => sp154 q s.g o.g r.g.2 o.h o.w
  have w2 := fun q => sp377 q s.g s.sv o.srow o.scol r.sp r.u0 r.u1 o.ssh
  have w3 := fun q => sp377 q s.g ⟨s.row, s.col, s.p, s.s0, s.s1, s.sh, false⟩ o.row o.col r.p r.s0 r.s1 o.sh
  have ht := o.top
  have hb := o.bot
  have hh := o.h
  have hw := o.w
  have hg := o.g.1
  have hg2 := o.g.2.2.1
  have hm := r.mar
  have hp := r.pend
  rw [evFun_evB rfl]
  unfold s373
  by_cases c1 : s.top < s.bot
  · cases c2 : s.pend with
    | false =>
      simp only [scD, scL, c2]
      simp -implicitDefEqProofs [cw154, w1, cw377, w2, w3, ht.1, hb, c1]
    | true =>
      obtain ⟨p1, p2⟩ := hp c2
      simp only [scD, scL, c2, p1]
      simp -implicitDefEqProofs [cw154, w1, cw377, w2, w3, ht.1, hb, c1, wr_id ((s.g.w : Int) - 1) (by omega) (by omega), eq_true p2]
  · obtain ⟨m1, m2, m3⟩ : s.g.h = 1 ∧ s.top = 0 ∧ s.bot = 0 := by
      rcases hm with h | h
      · exact absurd h c1
      · exact h
    have m1' : (s.g.h : Int) = 1 := by omega
    cases c2 : s.pend with
    | false =>
      simp only [scD, scL, c2]
      simp -implicitDefEqProofs [cw154, w1, cw377, w2, w3, ht.1, hb, eq_false c1, eq_true m1', eq_true m2, eq_true m3]
    | true =>
      obtain ⟨p1, p2⟩ := hp c2
      simp only [scD, scL, c2, p1]
      simp -implicitDefEqProofs [cw154, w1, cw377, w2, w3, ht.1, hb, eq_false c1, wr_id ((s.g.w : Int) - 1) (by omega) (by omega), eq_true p2, eq_true m1', eq_true m2, eq_true m3]
end Go.Proofs.YtmmbkjigflhmjaaGreat.LgTab
