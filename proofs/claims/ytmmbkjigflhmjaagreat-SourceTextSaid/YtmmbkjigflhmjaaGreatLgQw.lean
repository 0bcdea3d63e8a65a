import Derived.Test.YtmmbkjigflhmjaaGreatLgQv
import Derived.Test.YtmmbkjigflhmjaaGreatLgQu
/-
  Screens are seen to be the same, to be right.
-/
namespace Go.Proofs.YtmmbkjigflhmjaaGreat.LgTab
open Go Lg
set_option linter.unusedVariables false
set_option linter.unusedSimpArgs false
set_option maxRecDepth 8000
set_option maxHeartbeats 2000000 in
theorem sp173 (k : Nat) (l : List Cel) (hl : l.length ≤ 100000) : evFun (clOf (modsR tab k) 3) s173 [.sl 5 (celsD l), .sl 5 (celsD l)] = some (B true, []) := by
  rw [evFun_evB rfl]
  unfold s173
  simp -implicitDefEqProofs []
  refine evB_for (fun i => [.sl 5 (celsD l), .sl 5 (celsD l), B false, I i]) l.length (.exit 0) [.sl 5 (celsD l), .sl 5 (celsD l), B false, I l.length] ?_ (fun i hi => ?_) ?_ (by simp) (by simp [rounds]; omega) ?_
  · simp -implicitDefEqProofs []
  · obtain ⟨x, hx⟩ := get_ex hi
    have g := celsD_getD hx
    have g' := celsD_at hx
    have hlt : (i : Int) < l.length := by omega
    simp -implicitDefEqProofs [hlt, hi, g, g', wr_id ((i : Int) + 1) (by omega) (by omega)]
  · simp -implicitDefEqProofs []
  · simp -implicitDefEqProofs []
set_option maxHeartbeats 2000000 in
theorem sp458 (k : Nat) (l : List Cel) (hl : l.length ≤ 100000) : evFun (clOf (modsR tab k) 3) s458 [.sl 5 (celsD l), .sl 5 (celsD l)] = some (B true, []) := by
  rw [evFun_evB rfl]
  unfold s458
  simp -implicitDefEqProofs []
  refine evB_for (fun i => [.sl 5 (celsD l), .sl 5 (celsD l), B false, I l.length, I i]) l.length (.exit 0) [.sl 5 (celsD l), .sl 5 (celsD l), B false, I l.length, I l.length] ?_ (fun i hi => ?_) ?_ (by simp) (by simp [rounds]; omega) ?_
  · simp -implicitDefEqProofs []
  · obtain ⟨x, hx⟩ := get_ex hi
    have g := celsD_getD hx
    have g' := celsD_at hx
    have hlt : (i : Int) < l.length := by omega
    simp -implicitDefEqProofs [hlt, hi, g, g', wr_id ((i : Int) + 1) (by omega) (by omega)]
  · simp -implicitDefEqProofs []
  · simp -implicitDefEqProofs []
theorem sp155 (k : Nat) (g : Gd) (hl : g.cells.length ≤ 100000) : evFun (clOf (modsR tab (k + 1)) 3) s155 [gdD g, gdD g] = some (B true, []) := by
  have w := fun q => sp458 q g.cells hl
  rw [evFun_evB rfl]
  unfold s155
  simp -implicitDefEqProofs [cw458, w]
theorem sp177 (k : Nat) (s : Sc) (hl : s.g.cells.length ≤ 100000) : evFun (clOf (modsR tab (k + 1)) 3) s177 [scD s, scD s] = some (B true, []) := by
  have w := fun q => sp173 q s.g.cells hl
  rw [evFun_evB rfl]
  unfold s177
  simp -implicitDefEqProofs [cw173, w]
abbrev butD (s : Sc) : D := .agg [I s.row, I s.col, I s.top, I s.bot, I s.sh, B s.pend, B s.wrap, B s.orig, B s.shown, B s.keys, B s.pad, I s.p.f, I s.p.b, I s.p.g, T64 s.tabs, U s.s0, U s.s1, I s.sv.r, I s.sv.c, I s.sv.p.f, I s.sv.p.b, I s.sv.p.g, U s.sv.u0, U s.sv.u1, I s.sv.sh, B s.sv.o]
theorem sp376 (k : Nat) (s : Sc) : evFun (clOf (modsR tab k) 3) s376 [scD s] = some (butD s, []) := by
  rw [evFun_evB rfl]
  unfold s376
  simp -implicitDefEqProofs []
theorem sp374 (k : Nat) (s : Sc) (hl : s.g.cells.length ≤ 100000) : evFun (clOf (modsR tab (k + 2)) 3) s374 [scD s, scD s] = some (B true, []) := by
  have w := fun q => sp155 q s.g hl
  have w2 := fun q => sp376 q s
  rw [evFun_evB rfl]
  unfold s374
  simp -implicitDefEqProofs [cw155, cr155, w, cw376, cr376, w2]
end Go.Proofs.YtmmbkjigflhmjaaGreat.LgTab
