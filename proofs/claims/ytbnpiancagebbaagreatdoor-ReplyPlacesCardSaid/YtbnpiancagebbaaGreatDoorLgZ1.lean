import Derived.Test.YtbnpiancagebbaaGreatDoorLgY1
/-
  Lists of cells.
-/
namespace Go.Proofs.YtbnpiancagebbaaGreatDoor.LgTab
open Go Lg
set_option linter.unusedVariables false
set_option linter.unusedSimpArgs false
set_option maxRecDepth 8000
theorem eqDs_cells : ∀ l : List D, (∀ d, d ∈ l → isCell5 d) → eqDs l l = true
  | [], _ => rfl
  | d :: l, h => by
    obtain ⟨r, k, f, b, g, rfl⟩ := h d (by simp)
    simp [eqDs, eqD, eqSc, eqDs_cells l (fun x hx => h x (by simp [hx]))]
theorem isROs_cells : ∀ l : List D, (∀ d, d ∈ l → isCell5 d) → isROs l = true
  | [], _ => rfl
  | d :: l, h => by
    obtain ⟨r, k, f, b, g, rfl⟩ := h d (by simp)
    simp [isROs, isRO, isROs_cells l (fun x hx => h x (by simp [hx]))]
theorem plains_cells : ∀ l : List D, (∀ d, d ∈ l → isCell5 d) → plains l = true
  | [], _ => rfl
  | d :: l, h => by
    obtain ⟨r, k, f, b, g, rfl⟩ := h d (by simp)
    simp [plains, plain, plains_cells l (fun x hx => h x (by simp [hx]))]
end Go.Proofs.YtbnpiancagebbaaGreatDoor.LgTab
