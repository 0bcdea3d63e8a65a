import Derived.Test.YtadipapkdjcnbaaGreatLgQe
/-
  A grid of another size.
-/
namespace Go.Proofs.YtadipapkdjcnbaaGreat.LgTab
open Go Lg
set_option linter.unusedVariables false
set_option linter.unusedSimpArgs false
set_option maxRecDepth 8000
/-- A row over which another one is copied. -/
def cpRow (a b : List Cel) : List Cel := b.take a.length ++ a.drop b.length
theorem cpRow_len (a b : List Cel) : (cpRow a b).length = a.length := by simp [cpRow]; omega
def resTo (g : Gd) (h w : Nat) : Nat → Gd
  | 0 => newG h w plainP
  | i + 1 => setRow (resTo g h w i) i (mendL (cpRow (rowL (resTo g h w i) i) (rowL g i)))
def resG (g : Gd) (h w : Nat) : Gd := resTo g h w (min g.h h)
theorem newG_ok (h w : Nat) (h0 : 1 ≤ h ∧ h ≤ 40) (h1 : 1 ≤ w ∧ w ≤ 60) (p : Pn) : OkG (newG h w p) := ⟨h0.1, by have := h0.2; show h ≤ 1000; omega, h1.1, by have := h1.2; show w ≤ 1000; omega, by simp [newG]⟩
theorem resTo_ok (g : Gd) (h w : Nat) (h0 : 1 ≤ h ∧ h ≤ 40) (h1 : 1 ≤ w ∧ w ≤ 60) : ∀ i, i ≤ h → OkG (resTo g h w i) ∧ (resTo g h w i).h = h ∧ (resTo g h w i).w = w ∧ (resTo g h w i).cells.length = h * w
  | 0, _ => ⟨newG_ok h w h0 h1 _, rfl, rfl, by simp [resTo, newG]⟩
  | i + 1, hi => by
    obtain ⟨o, e1, e2, e3⟩ := resTo_ok g h w h0 h1 i (by omega)
    have hr : i < (resTo g h w i).h := by rw [e1]; omega
    have o' := o.setRow hr (mendL (cpRow (rowL (resTo g h w i) i) (rowL g i))) (by rw [mendL_len, cpRow_len, rowL_len o hr])
    refine ⟨o', e1, e2, ?_⟩
    have := o'.2.2.2.2
    show (setRow _ _ _).cells.length = _
    rw [this]
    show (resTo g h w i).h * (resTo g h w i).w = _
    rw [e1, e2]
theorem setRow_copy {g : Gd} (o : OkG g) {r : Nat} (hr : r < g.h) (b : List Cel) (hb : b.length ≤ 100000) : List.take (rowOff g r) g.cells ++ (List.take (min b.length g.w) b ++ List.drop (rowOff g r + min b.length g.w) g.cells) = (setRow g r (cpRow (rowL g r) b)).cells := by
  have h := row_in o hr
  have hl := rowL_len o hr
  have e : List.drop b.length (rowL g r) ++ List.drop (rowOff g r + g.w) g.cells = List.drop (rowOff g r + min b.length g.w) g.cells := by
    unfold rowL
    by_cases hc : b.length ≤ g.w
    · rw [Nat.min_eq_left hc]
      apply List.ext_getElem?
      intro i
      rw [List.getElem?_append]
      simp only [List.length_drop, List.length_take, List.getElem?_drop, List.getElem?_take]
      split
      · rw [if_pos (by omega)]
        congr 1
        omega
      · congr 1
        omega
    · rw [Nat.min_eq_right (by omega), List.drop_of_length_le (by simp; omega), List.nil_append]
  unfold setRow cpRow
  simp only
  rw [List.append_assoc, List.append_assoc, e, hl]
  congr 2
  by_cases hc : b.length ≤ g.w
  · rw [Nat.min_eq_left hc, List.take_of_length_le (Nat.le_refl _), List.take_of_length_le hc]
  · rw [Nat.min_eq_right (by omega)]
end Go.Proofs.YtadipapkdjcnbaaGreat.LgTab
