import Derived.Test.YtadipapkdjcnbaaGreatLgRd
/-
  What rows moved keep.
-/
namespace Go.Proofs.YtadipapkdjcnbaaGreat.LgTab
open Go Lg
set_option linter.unusedVariables false
set_option linter.unusedSimpArgs false
set_option maxRecDepth 8000
/-- Rows outside of the margins stay; so do the margins and the cursor's row. -/
theorem rowsS_keeps {s : Sc} (o : OkS s) (e : Ev) (hf : e.fi = 76 ∨ e.fi = 77 ∨ e.fi = 83 ∨ e.fi = 84) :
    (rowsS s e).top = s.top ∧ (rowsS s e).bot = s.bot ∧ (rowsS s e).row = s.row ∧ (rowsS s e).g.h = s.g.h ∧ (rowsS s e).g.w = s.g.w ∧ ∀ y : Nat, y < s.g.h → (y : Int) < s.top ∨ s.bot < y → rowL (rowsS s e).g y = rowL s.g y := by
  have ht := o.top
  have hb := o.bot
  have hr := o.row
  have go : ∀ (t b n : Int), 0 ≤ t → t ≤ b → b < s.g.h → s.top ≤ t → b ≤ s.bot →
      (moveG s t b n).g.h = s.g.h ∧ (moveG s t b n).g.w = s.g.w ∧ ∀ y : Nat, y < s.g.h → (y : Int) < s.top ∨ s.bot < y → rowL (moveG s t b n).g y = rowL s.g y := by
    intro t b n h1 h2 h3 h4 h5
    obtain ⟨_, e1, e2⟩ := moveG_dim o h1 h2 h3 n (fillP s)
    exact ⟨e1, e2, fun y hy h => rowL_shG o.g (by omega) (by omega) n _ hy (by omega)⟩
  unfold rowsS
  simp only
  split
  · obtain ⟨a, b, c⟩ := go s.top s.bot (farI (from1I e.par 0)) ht.1 ht.2 hb (by omega) (by omega)
    exact ⟨rfl, rfl, rfl, a, b, c⟩
  split
  · obtain ⟨a, b, c⟩ := go s.top s.bot (-farI (from1I e.par 0)) ht.1 ht.2 hb (by omega) (by omega)
    exact ⟨rfl, rfl, rfl, a, b, c⟩
  split
  · exact ⟨rfl, rfl, rfl, rfl, rfl, fun _ _ _ => rfl⟩
  rename_i hin
  split
  · obtain ⟨a, b, c⟩ := go s.row s.bot (-farI (from1I e.par 0)) hr.1 (by omega) hb (by omega) (by omega)
    refine ⟨rfl, rfl, ?_, a, b, c⟩
    show nearI s.row (moveG s s.row s.bot (-farI (from1I e.par 0))).g.h = s.row
    rw [a]
    exact nearI_id hr.1 hr.2
  · obtain ⟨a, b, c⟩ := go s.row s.bot (farI (from1I e.par 0)) hr.1 (by omega) hb (by omega) (by omega)
    refine ⟨rfl, rfl, ?_, a, b, c⟩
    show nearI s.row (moveG s s.row s.bot (farI (from1I e.par 0))).g.h = s.row
    rw [a]
    exact nearI_id hr.1 hr.2
theorem margS_right {s : Sc} (o : OkS s) (r : RightS s) (e : Ev) : RightS (margS s e) := by
  unfold margS
  simp only
  split
  · exact r
  · rename_i h
    have r2 : RightS { s with top := from1I e.par 0 - 1, bot := argI e.par 1 s.g.h 1 s.g.h - 1 } := ⟨r.g, r.p, r.sp, r.s0, r.s1, r.u0, r.u1, .inl (by show from1I e.par 0 - 1 < argI e.par 1 s.g.h 1 s.g.h - 1; omega), r.pend⟩
    exact atS_right r2 _ _
end Go.Proofs.YtadipapkdjcnbaaGreat.LgTab
