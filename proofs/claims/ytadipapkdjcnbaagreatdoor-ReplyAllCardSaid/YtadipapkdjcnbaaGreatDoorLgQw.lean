import Derived.Test.YtadipapkdjcnbaaGreatDoorLgQv
import Derived.Test.YtadipapkdjcnbaaGreatDoorLgQu
/-
  Screens are seen to be the same, to be right.
-/
namespace Go.Proofs.YtadipapkdjcnbaaGreatDoor.LgTab
open Go Lg
set_option linter.unusedVariables false
set_option linter.unusedSimpArgs false
set_option maxRecDepth 8000
set_option maxHeartbeats 2000000 in
theorem sp173 (k : Nat) (l : List Cel) (hl : l.length ≤ 100000) : evFun (clOf (modsR tab k) 3) s173 [.sl 5 (celsD l), .sl 5 (celsD l)] = some (B true, []) := by
  rw [evFun_evB rfl]
  unfold s173
  simp -implicitDefEqProofs []
  refine evB_for (fun i => [.sl 5 (celsD l), .sl 5 (celsD l), B false, I i]) l.length (.exit 0) [.sl 5 (celsD l), .sl 5 (celsD l), B false, I l.length] ?_ (fun i hi => ?_) ?_ (by simp) (by simp [rounds]; omega) ?_
  · simp -implicitDefEqProofs []
  · obtain ⟨x, hx⟩ := get_ex hi
    have g := celsD_getD hx
    have g' := celsD_at hx
    have hlt : (i : Int) < l.length := by omega
    simp -implicitDefEqProofs [hlt, hi, g, g', wr_id ((i : Int) + 1) (by omega) (by omega)]
  · simp -implicitDefEqProofs []
  · simp -implicitDefEqProofs []
theorem sp177 (k : Nat) (s : Sc) (hl : s.g.cells.length ≤ 100000) : evFun (clOf (modsR tab (k + 1)) 3) s177 [scD s, scD s] = some (B true, []) := by
  have w := fun q => sp173 q s.g.cells hl
  rw [evFun_evB rfl]
  unfold s177
  simp -implicitDefEqProofs [cw173, w]
abbrev butD (s : Sc) : D := .agg [I s.row, I s.col, I s.top, I s.bot, I s.sh, B s.pend, B s.wrap, B s.orig, B s.shown, B s.keys, B s.pad, I s.p.f, I s.p.b, I s.p.g, T64 s.tabs, U s.s0, U s.s1, I s.sv.r, I s.sv.c, I s.sv.p.f, I s.sv.p.b, I s.sv.p.g, U s.sv.u0, U s.sv.u1, I s.sv.sh, B s.sv.o]
end Go.Proofs.YtadipapkdjcnbaaGreatDoor.LgTab
