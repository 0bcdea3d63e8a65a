import Derived.Test.YtohjgdaogcliiaaLgR1
/-
  PenParts: its law.
-/
namespace Go.Proofs.Ytohjgdaogcliiaa.LgTab
open Go Lg
set_option linter.unusedVariables false
set_option linter.unusedSimpArgs false
set_option maxRecDepth 8000
theorem applyL_append : ∀ (a b : List Int) (p : Pen), (∀ n, n ∈ a → n ≠ 38 ∧ n ≠ 48) → applyL (a ++ b) p = applyL b (applyL a p)
  | [], b, p, h => by rw [List.nil_append, applyL_nil]
  | n :: a, b, p, h => by
    obtain ⟨h1, h2⟩ := h n (by simp)
    have e : ∀ t, stepL n t p = (oneM p n, 0) := fun t => by simp [stepL, h1, h2]
    rw [List.cons_append, applyL_cons, applyL_cons, e, e]
    simp only [List.drop_zero]
    exact applyL_append a b _ (fun x hx => h x (by simp [hx]))
theorem nat_flag : ∀ g : Fin 256, ∀ m : Fin 256, ((g.val ||| m.val) &&& (18446744073709551615 - m.val)) = (g.val &&& (18446744073709551615 - m.val)) := by decide +kernel
theorem andnI_or {g m : Int} (hg : 0 ≤ g ∧ g ≤ 255) (hm : 0 ≤ m ∧ m ≤ 255) : andnI (orI g m) m = andnI g m := by
  have h := orI_nat g.toNat m.toNat (by omega) (by omega)
  rw [Int.toNat_of_nonneg hg.1, Int.toNat_of_nonneg hm.1] at h
  have l : g.toNat ||| m.toNat < 2 ^ 8 := Nat.or_lt_two_pow (by omega) (by omega)
  rw [h, andnI_def, andnI_def]
  have e1 : ((↑(g.toNat ||| m.toNat) : Int) % 18446744073709551616).toNat = g.toNat ||| m.toNat := by omega
  have e2 : (g % 18446744073709551616).toNat = g.toNat := by omega
  have e3 : (m % 18446744073709551616).toNat = m.toNat := by omega
  rw [e1, e2, e3, nat_flag ⟨g.toNat, by omega⟩ ⟨m.toNat, by omega⟩]
theorem orI_12 {g : Int} (hg : 0 ≤ g ∧ g ≤ 255) : orI (orI g 1) 2 = orI g 3 := by
  have h1 := orI_nat g.toNat 1 (by omega) (by omega)
  have h3 := orI_nat g.toNat 3 (by omega) (by omega)
  rw [Int.toNat_of_nonneg hg.1] at h1 h3
  have l : g.toNat ||| 1 < 2 ^ 8 := Nat.or_lt_two_pow (by omega) (by omega)
  have h2 := orI_nat (g.toNat ||| 1) 2 (by omega) (by omega)
  have c1 : ((1 : Nat) : Int) = 1 := rfl
  have c2 : ((2 : Nat) : Int) = 2 := rfl
  have c3 : ((3 : Nat) : Int) = 3 := rfl
  rw [c1] at h1
  rw [c2] at h2
  rw [c3] at h3
  rw [h1, h2, h3, Nat.or_assoc]
  rfl
theorem ap_flags (f b g w : Int) (hg : 0 ≤ g ∧ g ≤ 255) (hw : 0 ≤ w ∧ w ≤ 5) : ∃ on off fl : Int, ([I 3, I 4, I 5, I 7, I 8, I 9] : List D)[w.toNat]? = some (I on) ∧ ([I 23, I 24, I 25, I 27, I 28, I 29] : List D)[w.toNat]? = some (I off) ∧ ([I 4, I 8, I 16, I 32, I 64, I 128] : List D)[w.toNat]? = some (I fl) ∧
    applyL ([on].map normI) ⟨f, b, g⟩ = ⟨f, b, orI g fl⟩ ∧ applyL ([on, off].map normI) ⟨f, b, g⟩ = ⟨f, b, andnI g fl⟩ := by
  have hc : w = 0 ∨ w = 1 ∨ w = 2 ∨ w = 3 ∨ w = 4 ∨ w = 5 := by omega
  rcases hc with rfl | rfl | rfl | rfl | rfl | rfl
  · exact ⟨3, 23, 4, rfl, rfl, rfl, by simp [normI, applyL_cons, applyL_nil, stepL, oneM, within, flagM], by simp [normI, applyL_cons, applyL_nil, stepL, oneM, within, flagM, andnI_or hg]⟩
  · exact ⟨4, 24, 8, rfl, rfl, rfl, by simp [normI, applyL_cons, applyL_nil, stepL, oneM, within, flagM], by simp [normI, applyL_cons, applyL_nil, stepL, oneM, within, flagM, andnI_or hg]⟩
  · exact ⟨5, 25, 16, rfl, rfl, rfl, by simp [normI, applyL_cons, applyL_nil, stepL, oneM, within, flagM], by simp [normI, applyL_cons, applyL_nil, stepL, oneM, within, flagM, andnI_or hg]⟩
  · exact ⟨7, 27, 32, rfl, rfl, rfl, by simp [normI, applyL_cons, applyL_nil, stepL, oneM, within, flagM], by simp [normI, applyL_cons, applyL_nil, stepL, oneM, within, flagM, andnI_or hg]⟩
  · exact ⟨8, 28, 64, rfl, rfl, rfl, by simp [normI, applyL_cons, applyL_nil, stepL, oneM, within, flagM], by simp [normI, applyL_cons, applyL_nil, stepL, oneM, within, flagM, andnI_or hg]⟩
  · exact ⟨9, 29, 128, rfl, rfl, rfl, by simp [normI, applyL_cons, applyL_nil, stepL, oneM, within, flagM], by simp [normI, applyL_cons, applyL_nil, stepL, oneM, within, flagM, andnI_or hg]⟩
theorem ap_3139 (f b g : Int) : applyL ([31, 39].map normI) ⟨f, b, g⟩ = ⟨-1, b, g⟩ := by
  simp [normI, applyL_cons, applyL_nil, stepL, oneM, within]
theorem ap_3194 (f b g : Int) : applyL ([31, 94].map normI) ⟨f, b, g⟩ = ⟨12, b, g⟩ := by
  simp [normI, applyL_cons, applyL_nil, stepL, oneM, within]
theorem ap_1222 (f b g : Int) (hg : 0 ≤ g ∧ g ≤ 255) : applyL ([1, 2, 22].map normI) ⟨f, b, g⟩ = ⟨f, b, andnI g 3⟩ := by
  simp [normI, applyL_cons, applyL_nil, stepL, oneM, within, flagM, orI_12 hg, andnI_or hg]
theorem map_normI {l : List Int} (h : ∀ n, n ∈ l → 0 ≤ n) : l.map normI = l := by
  induction l with
  | nil => rfl
  | cons a l ih => rw [List.map_cons, normI_pos (h a (by simp)), ih (fun n hn => h n (by simp [hn]))]
end Go.Proofs.Ytohjgdaogcliiaa.LgTab
