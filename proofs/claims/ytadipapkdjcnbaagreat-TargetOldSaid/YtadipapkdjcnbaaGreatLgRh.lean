import Derived.Test.YtadipapkdjcnbaaGreatLgAl
import Derived.Test.YtadipapkdjcnbaaGreatLgRg
import Derived.Test.YtadipapkdjcnbaaGreatLgRf
/-
  What events of one kind do.
-/
namespace Go.Proofs.YtadipapkdjcnbaaGreat.LgTab
open Go Lg
set_option linter.unusedVariables false
set_option linter.unusedSimpArgs false
set_option maxRecDepth 8000
/-- An event of numbers; an escape; a control. -/
abbrev csiE (f : Int) (l : List Int) : Ev := ⟨4, 0, 0, 0, f, some l, []⟩
abbrev csiN (f : Int) : Ev := ⟨4, 0, 0, 0, f, none, []⟩
abbrev escE (f : Int) : Ev := ⟨3, 0, 0, 0, f, none, []⟩
abbrev execE (f : Int) : Ev := ⟨2, 0, 0, 0, f, none, []⟩
theorem do_csi (s : Sc) (f : Int) (o : Option (List Int)) : doS s ⟨4, 0, 0, 0, f, o, []⟩ = csiS s ⟨4, 0, 0, 0, f, o, []⟩ := by simp [doS]
theorem do_esc (s : Sc) (f : Int) : doS s (escE f) = escS s (escE f) := by simp [doS]
theorem do_exec (s : Sc) (f : Int) : doS s (execE f) = execS s f := by simp [doS]
theorem do_move (s : Sc) (f : Int) (o : Option (List Int)) (h : isMove f = true) : doS s ⟨4, 0, 0, 0, f, o, []⟩ = moveS s ⟨4, 0, 0, 0, f, o, []⟩ := by
  rw [do_csi]
  simp [csiS, h]
theorem do_chg (s : Sc) (f : Int) (o : Option (List Int)) (h : f = 74 ∨ f = 75) : doS s ⟨4, 0, 0, 0, f, o, []⟩ = chgS s ⟨4, 0, 0, 0, f, o, []⟩ := by
  rw [do_csi]
  rcases h with rfl | rfl <;> simp [csiS, isMove, isChg]
theorem do_rows (s : Sc) (f : Int) (o : Option (List Int)) (h : f = 76 ∨ f = 77 ∨ f = 83 ∨ f = 84) : doS s ⟨4, 0, 0, 0, f, o, []⟩ = rowsS s ⟨4, 0, 0, 0, f, o, []⟩ := by
  rw [do_csi]
  rcases h with rfl | rfl | rfl | rfl <;> simp [csiS, isMove, isChg, isRows]
theorem do_marg (s : Sc) (o : Option (List Int)) : doS s ⟨4, 0, 0, 0, 114, o, []⟩ = margS s ⟨4, 0, 0, 0, 114, o, []⟩ := by
  rw [do_csi]
  simp [csiS, isMove, isChg, isRows]
theorem do_drop (s : Sc) (o : Option (List Int)) : doS s ⟨4, 0, 0, 0, 103, o, []⟩ = dropS s (argI (o.getD []) 0 0 0 65535) := by
  rw [do_csi]
  simp [csiS, isMove, isChg, isRows, Ev.par]
theorem do_reset (s : Sc) : doS s (escE 99) = newS s.g.h s.g.w := by
  rw [do_esc]
  simp [escS]
theorem do_save (s : Sc) : doS s (escE 55) = saveS s := by
  rw [do_esc]
  simp [escS]
theorem do_rest (s : Sc) : doS s (escE 56) = restS s := by
  rw [do_esc]
  simp [escS]
theorem do_stop (s : Sc) : doS s (escE 72) = { s with tabs := s.tabs ||| bitN s.col } := by
  rw [do_esc]
  simp [escS]
theorem do_home (s : Sc) : doS s (execE 13) = atS s s.row 0 := by
  rw [do_exec]
  simp [execS]
theorem do_tab (s : Sc) : doS s (execE 9) = atS s s.row (nextT s.tabs s.col s.g.w) := by
  rw [do_exec]
  simp [execS]
theorem from1_one (n : Int) (h : 1 ≤ n ∧ n ≤ 65535) : from1I [n] 0 = n := by
  unfold from1I
  rw [argI]
  simp only [List.getElem?_cons_zero]
  rw [if_pos ⟨by omega, by omega⟩]
  unfold mxI mnI
  repeat' split
  all_goals omega
theorem do_col (s : Sc) (c : Int) (h : 0 ≤ c ∧ c ≤ 1000) : doS s (csiE 71 [c + 1]) = atS s s.row c := by
  rw [do_move s 71 _ rfl]
  have e : from1I [c + 1] 0 = c + 1 := from1_one _ (by omega)
  simp [moveS, Ev.par, e]
theorem do_right (s : Sc) (c : Int) (h : 1 ≤ c ∧ c ≤ 1000) : doS s (csiE 67 [c]) = atS s s.row (s.col + c) := by
  rw [do_move s 67 _ rfl]
  have e : from1I [c] 0 = c := from1_one _ (by omega)
  simp [moveS, Ev.par, e]
theorem do_left (s : Sc) (c : Int) (h : 1 ≤ c ∧ c ≤ 1000) : doS s (csiE 68 [c]) = atS s s.row (s.col - c) := by
  rw [do_move s 68 _ rfl]
  have e : from1I [c] 0 = c := from1_one _ (by omega)
  simp [moveS, Ev.par, e]
theorem newS_right (h w : Nat) (h0 : 1 ≤ h ∧ h ≤ 40) (h1 : 1 ≤ w ∧ w ≤ 60) : RightS (newS h w) := by
  have o := newS_ok h w h0 h1
  have pp : PR plainP := ⟨.inl rfl, .inl rfl, by decide, by decide⟩
  refine ⟨⟨o.g, ?_⟩, pp, pp, .inl rfl, .inl rfl, .inl rfl, .inl rfl, ?_, fun h => by cases h⟩
  · intro j c hj
    have e : c = blankC plainP := by
      have : c ∈ List.replicate (h * w) (blankC plainP) := List.mem_of_getElem? hj
      exact List.eq_of_mem_replicate this
    subst e
    exact ⟨pp, .inl ⟨rfl, by decide⟩⟩
  · show (0 : Int) < (h : Int) - 1 ∨ (h = 1 ∧ (0 : Int) = 0 ∧ (h : Int) - 1 = 0)
    omega
end Go.Proofs.YtadipapkdjcnbaaGreat.LgTab
