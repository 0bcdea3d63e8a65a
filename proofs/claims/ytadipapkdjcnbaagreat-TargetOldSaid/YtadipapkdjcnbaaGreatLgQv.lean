import Derived.Test.YtadipapkdjcnbaaGreatLgQs
/-
  Right grids are seen to be right; what is the same is seen to be the same.
-/
namespace Go.Proofs.YtadipapkdjcnbaaGreat.LgTab
open Go Lg
set_option linter.unusedVariables false
set_option linter.unusedSimpArgs false
set_option maxRecDepth 8000
/-- What a cell keeps to in its row. -/
def RowFit (l : List Cel) (i : Nat) (x : Cel) : Prop :=
  PR x.p ∧ ((x.k = 0 ∧ widthR x.r = 1) ∨ (x.k = 1 ∧ widthR x.r = 2 ∧ ∃ d, l[i + 1]? = some d ∧ d.k = 2 ∧ d.p = x.p) ∨ (x.k = 2 ∧ x.r = 0 ∧ ∃ j d, i = j + 1 ∧ l[j]? = some d ∧ d.k = 1 ∧ d.p = x.p))
theorem RightL.row {g : Gd} (o : OkG g) (h : RightL g.cells g.w) {r i : Nat} (hr : r < g.h) {x : Cel} (hx : (rowL g r)[i]? = some x) : RowFit (rowL g r) i x := by
  have hl := rowL_len o hr
  have hi : i < g.w := by rw [← hl]; exact (List.getElem?_eq_some_iff.1 hx).1
  have at' : ∀ j, j < g.w → (rowL g r)[j]? = g.cells[rowOff g r + j]? := fun j hj => by
    show ((g.cells.drop (rowOff g r)).take g.w)[j]? = _
    rw [List.getElem?_take_of_lt hj, List.getElem?_drop]
  rw [at' i hi] at hx
  have md : ∀ j, (rowOff g r + j) % g.w = j % g.w := fun j => by rw [rowOff_def, Nat.mul_comm, Nat.mul_add_mod]
  obtain ⟨hp, h1 | ⟨h1, h2, h3, d, h4, h5⟩ | ⟨h1, h2, h3, j, d, h4, h5, h6⟩⟩ := h _ x hx
  · exact ⟨hp, .inl h1⟩
  · refine ⟨hp, .inr (.inl ⟨h1, h2, d, ?_, h5⟩)⟩
    have hlt : i + 1 < g.w := by
      rcases Nat.lt_or_ge (i + 1) g.w with hh | hh
      · exact hh
      · exfalso
        apply h3
        have : i + 1 = g.w := by omega
        rw [Nat.add_assoc, md, this, Nat.mod_self]
    rw [at' _ hlt, ← Nat.add_assoc]
    exact h4
  · refine ⟨hp, .inr (.inr ⟨h1, h2, i - 1, d, ?_, ?_, h6⟩)⟩
    · rcases Nat.eq_zero_or_pos i with hh | hh
      · exfalso
        apply h3
        rw [md, hh, Nat.zero_mod]
      · omega
    · have hi0 : 0 < i := by
        rcases Nat.eq_zero_or_pos i with hh | hh
        · exfalso
          apply h3
          rw [md, hh, Nat.zero_mod]
        · exact hh
      rw [at' _ (by omega)]
      have : rowOff g r + (i - 1) = j := by omega
      rw [this]
      exact h5
theorem fit_half {l : List Cel} {i : Nat} {x : Cel} (hx : l[i]? = some x) (h : RowFit l i x) : halfB l i = false := by
  have k0 := kAt_some hx
  unfold halfB
  rw [k0]
  obtain ⟨hp, ⟨h1, h2⟩ | ⟨h1, h2, d, h3, h4, h5⟩ | ⟨h1, h2, j, d, h3, h4, h5, h6⟩⟩ := h
  · simp [h1]
  · simp [h1, kAt_some h3, h4]
  · subst h3
    simp [h1, kAt_some h4, h5]
theorem ir163s (k n : Nat) (H : List Ob) (g : Gd) (o : OkG g) (r : Nat) (hr : r < g.h) : (clOf (modsR tab (k + 1)) (n + 1)).r 163 [gdD g, I r] H = some (.sl 5 (celsD (rowL g r))) := by
  have w := iw163s k n (deads (bound [])) g o r hr
  rw [cw163] at w
  rw [cr163]
  unfold evInlQ
  simp -implicitDefEqProofs [w]
end Go.Proofs.YtadipapkdjcnbaaGreat.LgTab
