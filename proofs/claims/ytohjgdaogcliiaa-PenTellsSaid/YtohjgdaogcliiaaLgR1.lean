import Derived.Test.YtohjgdaogcliiaaLgP9
import Derived.Test.YtohjgdaogcliiaaLgP8
/-
  PenColours: its law.
-/
namespace Go.Proofs.Ytohjgdaogcliiaa.LgTab
open Go Lg
set_option linter.unusedVariables false
set_option linter.unusedSimpArgs false
set_option maxRecDepth 8000
theorem sp340_l (k : Nat) (f b g : Int) (l : List Int) (P : Pen) (hl : l.length * 8 ≤ 140737488355328) (h0 : l ≠ []) (hP : applyL (l.map normI) ⟨f, b, g⟩ = P) : evFun (clOf (modsR tab (k + 3)) 3) s340 [.agg [I f, I b, I g], .sl 1 (l.map I)] = some (.agg [I P.fore, I P.back, I P.flags], []) := by
  rw [← hP]
  exact sp340_1 k ⟨f, b, g⟩ l hl h0
theorem andnI_0 {a : Int} (ha : 0 ≤ a ∧ a ≤ 255) : andnI a 0 = a := by
  rw [andnI_def]
  have e1 : (a % 18446744073709551616).toNat = a.toNat := by omega
  have e2 : a.toNat &&& 18446744073709551615 = a.toNat := by
    have : (18446744073709551615 : Nat) = 2 ^ 64 - 1 := by decide
    rw [this, Nat.and_two_pow_sub_one_eq_mod]
    omega
  have e3 : (18446744073709551615 - ((0 : Int) % 18446744073709551616).toNat) = 18446744073709551615 := by decide
  rw [e1, e3, e2, wrap_id _ (by omega) (by omega)]
  omega
theorem applyL_nil (p : Pen) : applyL [] p = p := by unfold applyL; rfl
theorem applyL_cons (n : Int) (t : List Int) (p : Pen) : applyL (n :: t) p = applyL (t.drop (stepL n t p).2) (stepL n t p).1 := by rw [applyL]
theorem within_T {n lo hi : Int} (h : lo ≤ n ∧ n ≤ hi) : within n lo hi = true := by unfold within; simp [h]
theorem normI_pos {n : Int} (h : 0 ≤ n) : normI n = n := by unfold normI; rw [if_neg (by omega)]
theorem ap_two (f b g c x y z : Int) (hc : 0 ≤ c ∧ c ≤ 255) (hx : 0 ≤ x ∧ x ≤ 255) (hy : 0 ≤ y ∧ y ≤ 255) (hz : 0 ≤ z ∧ z ≤ 255) :
    applyL ([38, 5, c, 48, 2, x, y, z].map normI) ⟨f, b, g⟩ = ⟨c, 16777216 + x * 65536 + y * 256 + z, g⟩ := by
  have r := rgb_eq (within_T hx) (within_T hy) (within_T hz)
  simp [normI_pos, hc.1, hx.1, hy.1, hz.1, show normI 38 = 38 from rfl, show normI 5 = 5 from rfl, show normI 48 = 48 from rfl, show normI 2 = 2 from rfl, applyL_cons, applyL_nil, stepL, extM, within_T hc, within_T hx, within_T hy, within_T hz, r]
theorem ap_fore (f b g n : Int) (h : (30 ≤ n ∧ n ≤ 37) ∨ (90 ≤ n ∧ n ≤ 97)) : applyL ([n].map normI) ⟨f, b, g⟩ = ⟨if n < 90 then n - 30 else n - 82, b, g⟩ := by
  have e := normI_pos (n := n) (by omega)
  have h38 : n ≠ 38 := by omega
  have h48 : n ≠ 48 := by omega
  simp [e, applyL_cons, applyL_nil, stepL, h38, h48]
  rcases h with h | h
  · have f1 : n < 90 := by omega
    have f2 : n ≠ 0 := by omega
    have f3 : n ≠ 22 := by omega
    have f4 : ¬ n ≤ 29 := by omega
    simp [oneM, within, f1, f2, f3, f4, h]
  · have f1 : ¬ n < 90 := by omega
    have f2 : n ≠ 0 := by omega
    have f3 : n ≠ 22 := by omega
    have f4 : ¬ n ≤ 29 := by omega
    have f5 : ¬ n ≤ 37 := by omega
    have f6 : ¬ n ≤ 47 := by omega
    simp [oneM, within, f1, f2, f3, f4, f5, f6, h]
theorem ap_back (f b g n : Int) (h : (40 ≤ n ∧ n ≤ 47) ∨ (100 ≤ n ∧ n ≤ 107)) : applyL ([n].map normI) ⟨f, b, g⟩ = ⟨f, if n < 90 then n - 40 else n - 92, g⟩ := by
  have e := normI_pos (n := n) (by omega)
  have h38 : n ≠ 38 := by omega
  have h48 : n ≠ 48 := by omega
  simp [e, applyL_cons, applyL_nil, stepL, h38, h48]
  rcases h with h | h
  · have f1 : n < 90 := by omega
    have f2 : n ≠ 0 := by omega
    have f3 : n ≠ 22 := by omega
    have f4 : ¬ n ≤ 29 := by omega
    have f5 : ¬ n ≤ 37 := by omega
    simp [oneM, within, f1, f2, f3, f4, f5, h]
  · have f1 : ¬ n < 90 := by omega
    have f2 : n ≠ 0 := by omega
    have f3 : n ≠ 22 := by omega
    have f4 : ¬ n ≤ 29 := by omega
    have f5 : ¬ n ≤ 37 := by omega
    have f6 : ¬ n ≤ 47 := by omega
    have f7 : ¬ n ≤ 97 := by omega
    simp [oneM, within, f1, f2, f3, f4, f5, f6, f7, h]
theorem ap_none (f b g : Int) (hg : 0 ≤ g ∧ g ≤ 255) : applyL ([6, 21, 26, 50, 108, 300].map normI) ⟨f, b, g⟩ = ⟨f, b, g⟩ := by
  simp [normI, applyL_cons, applyL_nil, stepL, oneM, within, flagM, orI_0 hg, andnI_0 hg]
theorem ap_385 (f b g : Int) : applyL ([38, 5].map normI) ⟨f, b, g⟩ = ⟨f, b, g⟩ := by
  simp [normI, applyL_cons, applyL_nil, stepL, extM]
theorem ap_38212 (f b g : Int) : applyL ([38, 2, 1, 2].map normI) ⟨f, b, g⟩ = ⟨f, b, g⟩ := by
  simp [normI, applyL_cons, applyL_nil, stepL, extM]
theorem ap_389 (f b g : Int) : applyL ([38, 9, 1, 31].map normI) ⟨f, b, g⟩ = ⟨f, b, g⟩ := by
  simp [normI, applyL_cons, applyL_nil, stepL, extM]
theorem ap_256 (f b g : Int) : applyL ([38, 5, 256, 4].map normI) ⟨f, b, g⟩ = ⟨f, b, orI g 8⟩ := by
  simp [normI, applyL_cons, applyL_nil, stepL, extM, within, oneM, flagM]
theorem ap_2256 (f b g : Int) : applyL ([38, 2, 1, 2, 256, 4].map normI) ⟨f, b, g⟩ = ⟨f, b, orI g 8⟩ := by
  simp [normI, applyL_cons, applyL_nil, stepL, extM, within, oneM, flagM]
theorem ap_plain (f b g : Int) : applyL ([-1].map normI) ⟨f, b, g⟩ = ⟨-1, -1, 0⟩ := by
  simp [normI, applyL_cons, applyL_nil, stepL, oneM, plainP]
theorem sp184 (k : Nat) : evFun (clOf (modsR tab (k + 5)) 3) s184 [] = some (B true, []) := by kernel_rfl
end Go.Proofs.Ytohjgdaogcliiaa.LgTab
