import Derived.Test.YtmmbkjigflhmjaaGreatLgRh
/-
  The text of a row.
-/
namespace Go.Proofs.YtmmbkjigflhmjaaGreat.LgTab
open Go Lg
set_option linter.unusedVariables false
set_option linter.unusedSimpArgs false
set_option maxRecDepth 8000
def okCells (g : Gd) : Prop := ∀ c, c ∈ g.cells → okRune c
theorem width_rune {r : Int} (h : widthR r ≠ 0) : -2147483648 ≤ r ∧ r ≤ 2147483647 := by
  have hn : narrowR r = false := by
    cases hn : narrowR r with
    | false => rfl
    | true => exact absurd (by unfold widthR; rw [hn]; rfl) h
  unfold narrowR at hn
  simp at hn
  omega
theorem right_cells {g : Gd} (h : RightG g) : okCells g := by
  intro c hc
  obtain ⟨j, hj⟩ := List.getElem?_of_mem hc
  obtain ⟨_, ⟨_, h1⟩ | ⟨_, h1, _⟩ | ⟨_, h1, _⟩⟩ := h.2 j c hj
  · exact width_rune (by omega)
  · exact width_rune (by omega)
  · unfold okRune
    omega
theorem mem_rowL {g : Gd} {r : Nat} {c : Cel} (h : c ∈ rowL g r) : c ∈ g.cells := List.mem_of_mem_drop (List.mem_of_mem_take h)
theorem mem_setRow {g : Gd} {r : Nat} {l : List Cel} {c : Cel} (h : c ∈ (setRow g r l).cells) : c ∈ g.cells ∨ c ∈ l := by
  have h' : c ∈ g.cells.take (rowOff g r) ++ l ++ g.cells.drop (rowOff g r + g.w) := h
  simp only [List.mem_append] at h'
  rcases h' with (h' | h') | h'
  · exact .inl (List.mem_of_mem_take h')
  · exact .inr h'
  · exact .inl (List.mem_of_mem_drop h')
theorem mem_shTo (g : Gd) (top bot : Nat) (n : Int) (p : Pn) {c : Cel} : ∀ i, c ∈ (shTo g top bot n p i).cells → c ∈ g.cells ∨ c = blankC p
  | 0, h => .inl h
  | i + 1, h => by
    rcases mem_setRow h with h | h
    · exact mem_shTo g top bot n p i h
    · unfold shRow at h
      split at h
      · exact .inl (mem_rowL h)
      · exact .inr (List.eq_of_mem_replicate h)
theorem shG_cells {g : Gd} (h : okCells g) (top bot : Nat) (n : Int) (p : Pn) : okCells (shG g top bot n p) := by
  intro c hc
  rcases mem_shTo g top bot n p _ hc with h1 | h1
  · exact h c h1
  · subst h1
    show (-2147483648 : Int) ≤ 32 ∧ (32 : Int) ≤ 2147483647
    omega
theorem rowsS_cells {s : Sc} (h : okCells s.g) (e : Ev) : okCells (rowsS s e).g := by
  unfold rowsS
  simp only
  repeat' split
  · exact shG_cells h _ _ _ _
  · exact shG_cells h _ _ _ _
  · exact h
  · exact shG_cells h _ _ _ _
  · exact shG_cells h _ _ _ _
/-- grid.Text: the row's text. -/
theorem text_is {g : Gd} (o : OkG g) (hc : okCells g) (hl : g.cells.length ≤ 100000) {y : Nat} (hy : y < g.h) : textM [gdD g, I y] = some (S (textL (rowL g y)), []) := by
  have e1 := celsOf_celsD hc
  have h1 := o.1
  have h2 := o.2.1
  have h3 := o.2.2.1
  have h4 := o.2.2.2.1
  have h5 := row_in o hy
  rw [rowOff_def] at h5
  have h6 : (y + 1) * g.w ≤ g.cells.length := by rw [Nat.add_mul]; omega
  have e2 : ((y : Int)).toNat = y := by omega
  have e3 : ((g.w : Int)).toNat = g.w := by omega
  unfold textM gdD
  simp only [e1, Option.bind_some, e2, e3]
  rw [if_pos ⟨by simp, by omega, by omega, by omega, h6, hl, by omega, by omega⟩]
  unfold rowL
  rw [rowOff_def]
theorem shown_ok {g : Gd} {n : Nat} (h : okCells g) : okCells g := h
end Go.Proofs.YtmmbkjigflhmjaaGreat.LgTab
