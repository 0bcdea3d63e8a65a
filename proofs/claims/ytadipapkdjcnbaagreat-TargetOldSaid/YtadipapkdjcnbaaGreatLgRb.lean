import Derived.Test.YtadipapkdjcnbaaGreatLgRa
/-
  Rows that move stay within their margins.
-/
namespace Go.Proofs.YtadipapkdjcnbaaGreat.LgTab
open Go Lg
set_option linter.unusedVariables false
set_option linter.unusedSimpArgs false
set_option maxRecDepth 8000
theorem rowL_setRow_ne {g : Gd} (o : OkG g) {r y : Nat} (hr : r < g.h) (hy : y < g.h) (hne : y ≠ r) (l : List Cel) (hl : l.length = g.w) : rowL (setRow g r l) y = rowL g y := by
  obtain ⟨_, _, _, a5, a6⟩ := row_nums o hr
  obtain ⟨_, _, _, b5, b6⟩ := row_nums o hy
  have hlen := o.2.2.2.2
  apply List.ext_getElem?
  intro i
  have at' : ∀ G : Gd, (rowL G y)[i]? = if i < G.w then G.cells[rowOff G y + i]? else none := fun G => by
    show ((G.cells.drop (rowOff G y)).take G.w)[i]? = _
    rw [List.getElem?_take]
    split
    · rw [List.getElem?_drop]
    · rfl
  rw [at', at']
  have hw : (setRow g r l).w = g.w := rfl
  rw [hw, rowOff_w hw]
  split
  · rename_i hi
    show (g.cells.take (rowOff g r) ++ l ++ g.cells.drop (rowOff g r + g.w))[rowOff g y + i]? = _
    have ha : rowOff g r + g.w ≤ g.cells.length := by
      rw [rowOff_def, hlen]
      have := Nat.mul_le_mul_right g.w (show r + 1 ≤ g.h by omega)
      rw [Nat.add_mul, Nat.one_mul] at this
      exact this
    rcases Nat.lt_or_ge y r with hlt | hge
    · have h1 : rowOff g y + g.w ≤ rowOff g r := by
        rw [rowOff_def, rowOff_def]
        have := Nat.mul_le_mul_right g.w (show y + 1 ≤ r by omega)
        rw [Nat.add_mul, Nat.one_mul] at this
        exact this
      generalize rowOff g r = A at *
      generalize rowOff g y = B at *
      rw [List.append_assoc, List.getElem?_append_left (by simp; omega), List.getElem?_take_of_lt (by omega)]
    · have h1 : rowOff g r + g.w ≤ rowOff g y := by
        rw [rowOff_def, rowOff_def]
        have := Nat.mul_le_mul_right g.w (show r + 1 ≤ y by omega)
        rw [Nat.add_mul, Nat.one_mul] at this
        exact this
      generalize rowOff g r = A at *
      generalize rowOff g y = B at *
      rw [List.getElem?_append_right (by simp; omega), List.getElem?_drop]
      congr 1
      simp
      omega
  · rfl
theorem rowL_shTo {g : Gd} (o : OkG g) {top bot : Nat} (hb : bot < g.h) (n : Int) (p : Pn) {y : Nat} (hy : y < g.h) : ∀ i, top + i ≤ bot + 1 → (y < top ∨ top + i ≤ y) → rowL (shTo g top bot n p i) y = rowL g y
  | 0, _, _ => rfl
  | i + 1, hi, h => by
    obtain ⟨o1, e1, e2, e3⟩ := shTo_ok (top := top) o hb n p i (by omega)
    have ih := rowL_shTo (top := top) o hb n p hy i (by omega) (by omega)
    show rowL (setRow (shTo g top bot n p i) (top + i) (shRow g top bot n p (top + i))) y = _
    have hr : top + i < (shTo g top bot n p i).h := by rw [e1]; omega
    rw [rowL_setRow_ne o1 hr (by omega) (by omega) _ (by rw [shRow_len (top := top) o hb, e2]), ih]
/-- What lies outside of the margins stays. -/
theorem rowL_shG {g : Gd} (o : OkG g) {top bot : Nat} (ht : top ≤ bot) (hb : bot < g.h) (n : Int) (p : Pn) {y : Nat} (hy : y < g.h) (h : y < top ∨ bot < y) : rowL (shG g top bot n p) y = rowL g y :=
  rowL_shTo o hb n p hy _ (by omega) (by omega)
end Go.Proofs.YtadipapkdjcnbaaGreat.LgTab
