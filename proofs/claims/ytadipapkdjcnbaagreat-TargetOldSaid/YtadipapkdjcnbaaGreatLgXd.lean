import Derived.Test.YtadipapkdjcnbaaGreatLgXb
/-
  TargetOld: its law.
-/
namespace Go.Proofs.YtadipapkdjcnbaaGreat.LgTab
open Go Lg
set_option linter.unusedVariables false
set_option linter.unusedSimpArgs false
set_option maxRecDepth 8000
theorem feed_place (k : Nat) (y x : Int) (hy : 0 ≤ y ∧ y ≤ 90) (hx : 0 ≤ x ∧ x ≤ 90) : evFun (clOf (modsR tab (k + 13)) 3) s30 [tmD (oldS 0 0) 0 0 0, .sl 1 [U 27, U 89, U (32 + y), U (32 + x)]] = some (.tup [], [tmD (oldS (mnI y 4) (mnI x 8)) 0 y 0]) := by
  have e : atS (oldS 0 0) y x = oldS (mnI y 4) (mnI x 8) := by rw [old_at, near5m hy.1, near9m hx.1]
  rw [← e]
  have e1 : 32 + y - 32 = y := by omega
  have e2 : 32 + x - 32 = x := by omega
  refine feed k 4 (by omega) [U 27, U 89, U (32 + y), U (32 + x)] rfl (fun i => if i = 4 then atS (oldS 0 0) y x else oldS 0 0) (fun i => if i = 1 then 1 else if i = 2 then 2 else if i = 3 then 3 else 0) (fun i => if 3 ≤ i then y else 0) 0 ?_
  intro i hi
  have hc : i = 0 ∨ i = 1 ∨ i = 2 ∨ i = 3 := by omega
  rcases hc with rfl | rfl | rfl | rfl
  · exact ⟨27, rfl, fun q => push_a q _ _ _⟩
  · exact ⟨89, rfl, fun q => push_b q _ _ _⟩
  · refine ⟨32 + y, rfl, fun q => ?_⟩
    have h := push_c q (oldS 0 0) 0 0 (32 + y) (by omega)
    rw [e1] at h
    exact h
  · refine ⟨32 + x, rfl, fun q => ?_⟩
    have h := push_d q (oldS 0 0) (oldS_ok (by omega) (by omega)) y 0 (32 + x) (by omega)
    rw [e2] at h
    exact h
theorem feed_move (k : Nat) (r c y b : Int) (S' : Sc) (hr : 0 ≤ r ∧ r ≤ 4) (hc : 0 ≤ c ∧ c ≤ 8) (h1 : b ≠ 73) (h2 : b ≠ 89) (hk : knownE (escE b)) (h : doS (oldS r c) (csiN b) = S') : evFun (clOf (modsR tab (k + 13)) 3) s30 [tmD (oldS r c) 0 y 0, .sl 1 [U 27, U b]] = some (.tup [], [tmD S' 0 y 0]) := by
  rw [← h]
  refine feed k 2 (by omega) [U 27, U b] rfl (fun i => if i = 2 then doS (oldS r c) (csiN b) else oldS r c) (fun i => if i = 1 then 1 else 0) (fun _ => y) 0 ?_
  intro i hi
  have hc' : i = 0 ∨ i = 1 := by omega
  rcases hc' with rfl | rfl
  · exact ⟨27, rfl, fun q => push_a q _ _ _⟩
  · exact ⟨b, rfl, fun q => push_e q _ (oldS_ok hr hc) _ _ b h1 h2 hk⟩
end Go.Proofs.YtadipapkdjcnbaaGreat.LgTab
