import Derived.Test.YtadipapkdjcnbaaGreatLgQm
/-
  The source's escape sequences, moves, rows, margins.
-/
namespace Go.Proofs.YtadipapkdjcnbaaGreat.LgTab
open Go Lg
set_option linter.unusedVariables false
set_option linter.unusedSimpArgs false
set_option maxRecDepth 8000
def escS (s : Sc) (e : Ev) : Sc :=
  if e.it ≠ 0 then desigS s e.it e.fi
  else if e.fi = 55 then saveS s
  else if e.fi = 56 then restS s
  else if e.fi = 68 then feedS s
  else if e.fi = 69 then feedS (atS s s.row 0)
  else if e.fi = 77 then backS s
  else if e.fi = 72 then { s with tabs := s.tabs ||| bitN s.col }
  else if e.fi = 99 then newS s.g.h s.g.w
  else if e.fi = 61 then { s with pad := true }
  else if e.fi = 62 then { s with pad := false } else s
set_option maxHeartbeats 4000000 in
theorem sp409 (k : Nat) (s : Sc) (o : OkS s) (e : Ev) : evFun (clOf (modsR tab (k + 7)) 3) s409 [scD s, evD e] = some (scD (escS s e), []) := by
  have hh := o.h
  have hw := o.w
  have hg := o.g
  obtain ⟨ek, er, ep, ei, ef, ps, et⟩ := e
  by_cases c0 : ei = 0
  case neg =>
    have ee : escS s ⟨ek, er, ep, ei, ef, ps, et⟩ = desigS s ei ef := by unfold escS; rw [if_pos c0]
    have w := fun q => sp406 q s ei ef
    rw [ee]
    generalize desigS s ei ef = S' at *
    rw [evFun_evB rfl]
    unfold s409
    simp -implicitDefEqProofs [c0, cw406, w]
  subst c0
  by_cases c1 : ef = 55
  · have ee : escS s ⟨ek, er, ep, 0, ef, ps, et⟩ = saveS s := by simp [escS, c1]
    have w := fun q => sp129 q s o
    rw [ee]
    generalize saveS s = S' at *
    rw [evFun_evB rfl]
    unfold s409
    simp -implicitDefEqProofs [c1, cw129, w]
  by_cases c2 : ef = 56
  · have ee : escS s ⟨ek, er, ep, 0, ef, ps, et⟩ = restS s := by simp [escS, c2]
    have w := fun q => sp128 q s o
    rw [ee]
    generalize restS s = S' at *
    rw [evFun_evB rfl]
    unfold s409
    simp -implicitDefEqProofs [c2, cw128, w]
  by_cases c3 : ef = 68
  · have ee : escS s ⟨ek, er, ep, 0, ef, ps, et⟩ = feedS s := by simp [escS, c3]
    have w := fun q => sp125 q s o
    rw [ee]
    generalize feedS s = S' at *
    rw [evFun_evB rfl]
    unfold s409
    simp -implicitDefEqProofs [c3, cw125, w]
  by_cases c4 : ef = 69
  · have ee : escS s ⟨ek, er, ep, 0, ef, ps, et⟩ = feedS (atS s s.row 0) := by simp [escS, c4]
    have w := fun q => sp404 q s o 0
    have w2 := fun q => sp125 q _ (atS_ok o s.row 0)
    rw [ee]
    generalize feedS (atS s s.row 0) = S' at *
    generalize atS s s.row 0 = S2 at *
    rw [evFun_evB rfl]
    unfold s409
    simp -implicitDefEqProofs [c4, cw125, w, cw404, w2]
  by_cases c5 : ef = 77
  · have ee : escS s ⟨ek, er, ep, 0, ef, ps, et⟩ = backS s := by simp [escS, c5]
    have w := fun q => sp123 q s o
    rw [ee]
    generalize backS s = S' at *
    rw [evFun_evB rfl]
    unfold s409
    simp -implicitDefEqProofs [c5, cw123, w]
  by_cases c6 : ef = 72
  · have ee : escS s ⟨ek, er, ep, 0, ef, ps, et⟩ = { s with tabs := s.tabs ||| bitN s.col } := by simp [escS, c6]
    have w := fun q => sp421 q s.tabs o.tabs s.col
    rw [ee]
    generalize s.tabs ||| bitN s.col = t at *
    rw [evFun_evB rfl]
    unfold s409
    simp -implicitDefEqProofs [c6, cw421, w]
  by_cases c7 : ef = 99
  · have ee : escS s ⟨ek, er, ep, 0, ef, ps, et⟩ = newS s.g.h s.g.w := by simp [escS, c7]
    have w := fun q => sp372 q s.g.h s.g.w ⟨hg.1, hh⟩ ⟨hg.2.2.1, hw⟩
    rw [ee]
    generalize newS s.g.h s.g.w = S' at *
    rw [evFun_evB rfl]
    unfold s409
    simp -implicitDefEqProofs [c7, cw372, w]
  by_cases c8 : ef = 61
  · have ee : escS s ⟨ek, er, ep, 0, ef, ps, et⟩ = { s with pad := true } := by simp [escS, c8]
    rw [ee, evFun_evB rfl]
    unfold s409
    simp -implicitDefEqProofs [c8]
  by_cases c9 : ef = 62
  · have ee : escS s ⟨ek, er, ep, 0, ef, ps, et⟩ = { s with pad := false } := by simp [escS, c9]
    rw [ee, evFun_evB rfl]
    unfold s409
    simp -implicitDefEqProofs [c9]
  have ee : escS s ⟨ek, er, ep, 0, ef, ps, et⟩ = s := by simp [escS, c1, c2, c3, c4, c5, c6, c7, c8, c9]
  rw [ee, evFun_evB rfl]
  unfold s409
  simp -implicitDefEqProofs [c1, c2, c3, c4, c5, c6, c7, c8, c9]
def moveS (s : Sc) (e : Ev) : Sc :=
  let n := from1I e.par 0
  if e.fi = 65 then upS s n
  else if e.fi = 66 then downS s n
  else if e.fi = 67 then atS s s.row (s.col + n)
  else if e.fi = 68 then atS s s.row (s.col - n)
  else if e.fi = 69 then atS (downS s n) (downS s n).row 0
  else if e.fi = 70 then atS (upS s n) (upS s n).row 0
  else if e.fi = 71 ∨ e.fi = 96 then atS s s.row (n - 1)
  else if e.fi = 100 then goS s (n - 1) s.col
  else goS s (n - 1) (from1I e.par 1 - 1)
set_option maxHeartbeats 4000000 in
theorem sp413 (k : Nat) (s : Sc) (o : OkS s) (e : Ev) : evFun (clOf (modsR tab (k + 4)) 3) s413 [scD s, evD e] = some (scD (moveS s e), []) := by
  have hh := o.h
  have hw := o.w
  have hc := o.col
  have w0 := fun q => sp411_0 q e
  have hn := from1I_b e.par 0
  obtain ⟨n, en⟩ : ∃ n, n = from1I e.par 0 := ⟨_, rfl⟩
  rw [← en] at w0 hn
  by_cases c1 : e.fi = 65
  · have ee : moveS s e = upS s n := by unfold moveS; rw [← en]; simp [c1]
    have w := fun q => sp130 q s o n (by omega)
    rw [ee]
    generalize upS s n = S' at *
    rw [evFun_evB rfl]
    unfold s413
    simp -implicitDefEqProofs [eq_true c1, cw411, w0, cw130, w]
  by_cases c2 : e.fi = 66
  · have ee : moveS s e = downS s n := by unfold moveS; rw [← en]; simp [c2]
    have w := fun q => sp124 q s o n (by omega)
    rw [ee]
    generalize downS s n = S' at *
    rw [evFun_evB rfl]
    unfold s413
    simp -implicitDefEqProofs [c1, eq_true c2, cw411, w0, cw124, w]
  by_cases c3 : e.fi = 67
  · have ee : moveS s e = atS s s.row (s.col + n) := by unfold moveS; rw [← en]; simp [c3]
    have w := fun q => sp404 q s o (s.col + n)
    rw [ee]
    generalize atS s s.row (s.col + n) = S' at *
    rw [evFun_evB rfl]
    unfold s413
    simp -implicitDefEqProofs [c1, c2, eq_true c3, cw411, w0, cw404, w, wr_id (s.col + n) (by omega) (by omega)]
  by_cases c4 : e.fi = 68
  · have ee : moveS s e = atS s s.row (s.col - n) := by unfold moveS; rw [← en]; simp [c4]
    have w := fun q => sp404 q s o (s.col - n)
    rw [ee]
    generalize atS s s.row (s.col - n) = S' at *
    rw [evFun_evB rfl]
    unfold s413
    simp -implicitDefEqProofs [c1, c2, c3, eq_true c4, cw411, w0, cw404, w, wr_id (s.col - n) (by omega) (by omega)]
  by_cases c5 : e.fi = 69
  · have ee : moveS s e = atS (downS s n) (downS s n).row 0 := by unfold moveS; rw [← en]; simp [c5]
    have w := fun q => sp124 q s o n (by omega)
    have w2 := fun q => sp404 q (downS s n) (atS_ok o _ _) 0
    rw [ee]
    generalize atS (downS s n) (downS s n).row 0 = S' at *
    generalize downS s n = S2 at *
    rw [evFun_evB rfl]
    unfold s413
    simp -implicitDefEqProofs [c1, c2, c3, c4, eq_true c5, cw411, w0, cw124, w, cw404, w2]
  by_cases c6 : e.fi = 70
  · have ee : moveS s e = atS (upS s n) (upS s n).row 0 := by unfold moveS; rw [← en]; simp [c6]
    have w := fun q => sp130 q s o n (by omega)
    have w2 := fun q => sp404 q (upS s n) (atS_ok o _ _) 0
    rw [ee]
    generalize atS (upS s n) (upS s n).row 0 = S' at *
    generalize upS s n = S2 at *
    rw [evFun_evB rfl]
    unfold s413
    simp -implicitDefEqProofs [c1, c2, c3, c4, c5, eq_true c6, cw411, w0, cw130, w, cw404, w2]
  by_cases c7 : e.fi = 71
  · have ee : moveS s e = atS s s.row (n - 1) := by unfold moveS; rw [← en]; simp [c7]
    have w := fun q => sp404 q s o (n - 1)
    rw [ee]
    generalize atS s s.row (n - 1) = S' at *
    rw [evFun_evB rfl]
    unfold s413
    simp -implicitDefEqProofs [c1, c2, c3, c4, c5, c6, eq_true c7, cw411, w0, cw404, w, wr_id (n - 1) (by omega) (by omega)]
  by_cases c8 : e.fi = 96
  · have ee : moveS s e = atS s s.row (n - 1) := by unfold moveS; rw [← en]; simp [c8]
    have w := fun q => sp404 q s o (n - 1)
    rw [ee]
    generalize atS s s.row (n - 1) = S' at *
    rw [evFun_evB rfl]
    unfold s413
    simp -implicitDefEqProofs [c1, c2, c3, c4, c5, c6, c7, eq_true c8, cw411, w0, cw404, w, wr_id (n - 1) (by omega) (by omega)]
  by_cases c9 : e.fi = 100
  · have ee : moveS s e = goS s (n - 1) s.col := by unfold moveS; rw [← en]; simp [c9]
    have w := fun q => sp126 q s o (n - 1) s.col (by omega)
    rw [ee]
    generalize goS s (n - 1) s.col = S' at *
    rw [evFun_evB rfl]
    unfold s413
    simp -implicitDefEqProofs [c1, c2, c3, c4, c5, c6, c7, c8, eq_true c9, cw411, w0, cw126, w, wr_id (n - 1) (by omega) (by omega)]
  have ee : moveS s e = goS s (n - 1) (from1I e.par 1 - 1) := by unfold moveS; rw [← en]; simp [c1, c2, c3, c4, c5, c6, c7, c8, c9]
  have w1 := fun q => sp411_1 q e
  have hn1 := from1I_b e.par 1
  have w := fun q => sp126 q s o (n - 1) (from1I e.par 1 - 1) (by omega)
  rw [ee]
  generalize goS s (n - 1) (from1I e.par 1 - 1) = S' at *
  generalize from1I e.par 1 = m at *
  rw [evFun_evB rfl]
  unfold s413
  simp -implicitDefEqProofs [c1, c2, c3, c4, c5, c6, c7, c8, c9, cw411, w0, cw126, w, wr_id (n - 1) (by omega) (by omega), wr_id (m - 1) (by omega) (by omega), w1, cr411]
end Go.Proofs.YtadipapkdjcnbaaGreat.LgTab
