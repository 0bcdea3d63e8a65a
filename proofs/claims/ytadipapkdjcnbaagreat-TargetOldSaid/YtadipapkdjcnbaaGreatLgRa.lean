import Derived.Test.YtadipapkdjcnbaaGreatLgQx
import Derived.Test.YtadipapkdjcnbaaGreatLgQy
/-
  Moves change the cursor alone; a screen that is right stays so.
-/
namespace Go.Proofs.YtadipapkdjcnbaaGreat.LgTab
open Go Lg
set_option linter.unusedVariables false
set_option linter.unusedSimpArgs false
set_option maxRecDepth 8000
theorem atS_right {s : Sc} (r : RightS s) (a b : Int) : RightS (atS s a b) := ⟨r.g, r.p, r.sp, r.s0, r.s1, r.u0, r.u1, r.mar, fun h => by cases h⟩
/-- The same but for the cursor. -/
def SameBut (s t : Sc) : Prop := t = { s with row := t.row, col := t.col, pend := t.pend }
theorem SameBut.back {s t : Sc} (h : SameBut s t) : { t with row := s.row, col := s.col, pend := s.pend } = s := by
  rw [h]
theorem atS_but (s : Sc) (a b : Int) : SameBut s (atS s a b) := rfl
theorem SameBut.trans {s t u : Sc} (h : SameBut s t) (k : SameBut t u) : SameBut s u := by
  unfold SameBut at *
  rw [k, h]
theorem moveS_is {s : Sc} (e : Ev) : (∃ a b, moveS s e = atS s a b) ∨ (∃ a b c d, moveS s e = atS (atS s a b) c d) := by
  unfold moveS
  simp only
  repeat' split
  all_goals first | exact .inl ⟨_, _, rfl⟩ | exact .inr ⟨_, _, _, _, rfl⟩
theorem moveS_right {s : Sc} (r : RightS s) (e : Ev) : RightS (moveS s e) := by
  rcases moveS_is (s := s) e with ⟨a, b, h⟩ | ⟨a, b, c, d, h⟩ <;> rw [h]
  · exact atS_right r _ _
  · exact atS_right (atS_right r _ _) _ _
theorem moveS_but (s : Sc) (e : Ev) : SameBut s (moveS s e) ∧ (moveS s e).pend = false := by
  rcases moveS_is (s := s) e with ⟨a, b, h⟩ | ⟨a, b, c, d, h⟩ <;> rw [h]
  · exact ⟨atS_but _ _ _, rfl⟩
  · exact ⟨(atS_but _ _ _).trans (atS_but _ _ _), rfl⟩
/-- There and back. -/
theorem there_back {s : Sc} (o : OkS s) {c : Int} (h0 : 0 ≤ c) (h : s.col + c ≤ (s.g.w : Int) - 1) : (atS (atS s s.row (s.col + c)) s.row ((atS s s.row (s.col + c)).col - c)).col = s.col := by
  have hc := o.col
  show nearI (nearI (s.col + c) s.g.w - c) s.g.w = s.col
  rw [nearI_id (n := s.col + c) (by omega) (by omega), nearI_id (by omega) (by omega)]
  omega
/-- What is saved comes again. -/
theorem save_rest {s : Sc} (o : OkS s) (e : Ev) : (restS (moveS (saveS s) e)).row = s.row ∧ (restS (moveS (saveS s) e)).col = s.col := by
  have hb := (moveS_but (saveS s) e).1
  have h1 : (moveS (saveS s) e).sv = (saveS s).sv := by rw [hb]
  have h2 : (moveS (saveS s) e).g = s.g := by rw [hb]; rfl
  have hr := o.row
  have hc := o.col
  constructor
  · show nearI (moveS (saveS s) e).sv.r (moveS (saveS s) e).g.h = s.row
    rw [h1, h2]
    exact nearI_id hr.1 hr.2
  · show nearI (moveS (saveS s) e).sv.c (moveS (saveS s) e).g.w = s.col
    rw [h1, h2]
    exact nearI_id hc.1 hc.2
end Go.Proofs.YtadipapkdjcnbaaGreat.LgTab
