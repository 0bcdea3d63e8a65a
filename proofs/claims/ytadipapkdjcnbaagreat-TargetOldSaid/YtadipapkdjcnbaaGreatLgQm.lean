import Derived.Test.YtadipapkdjcnbaaGreatLgQl
/-
  The source's controls and escape sequences.
-/
namespace Go.Proofs.YtadipapkdjcnbaaGreat.LgTab
open Go Lg
set_option linter.unusedVariables false
set_option linter.unusedSimpArgs false
set_option maxRecDepth 8000
def drawL : List Int := [9670, 9618, 9225, 9228, 9229, 9226, 176, 177, 9252, 9227, 9496, 9488, 9484, 9492, 9532, 9146, 9147, 9472, 9148, 9149, 9500, 9508, 9524, 9516, 9474, 8804, 8805, 960, 8800, 163, 183]
def drawD : List D := drawL.map fun n => R n
theorem sp115 (k : Nat) : evFun (clOf (modsR tab k) 3) s115 [] = some (.osl true 1 drawD, []) := by
  rw [evFun_evB rfl]
  unfold s115
  simp -implicitDefEqProofs [drawD, drawL]
def drawI (b : Int) : Int := if b = 95 then 32 else if 96 ≤ b ∧ b < 127 then drawL.getD (b - 96).toNat 0 else b
theorem drawL_get (i : Nat) (h : i < 31) : ∃ a, drawL[i]? = some a := ⟨_, List.getElem?_eq_getElem (by simpa [drawL] using h)⟩
theorem sp114 (k : Nat) (b : Int) (hb : 0 ≤ b ∧ b ≤ 255) : evFun (clOf (modsR tab (k + 1)) 3) s114 [U b] = some (R (drawI b), []) := by
  have w := fun q => sp115 q
  have hl : drawD.length = 31 := rfl
  have hpl : plains drawD = true := rfl
  have hro : isROs drawD = true := rfl
  have e64 : IntKind.i64.wrap b = b := wrap_id _ (by omega) (by omega)
  have e32 : IntKind.i32.wrap b = b := wrap_i32 _ (by omega) (by omega)
  rw [evFun_evB rfl]
  unfold s114 drawI
  by_cases h1 : b = 95
  · generalize drawD = L at *
    simp -implicitDefEqProofs [cw115, w, hpl, hro, h1]
  by_cases h2 : 96 ≤ b
  · by_cases h3 : b < 127
    · obtain ⟨i, hi⟩ : ∃ i : Nat, b = 96 + (i : Int) := ⟨(b - 96).toNat, by omega⟩
      obtain ⟨a, ha⟩ := drawL_get i (by omega)
      have hd : drawD[i]? = some (R a) := by simp [drawD, ha]
      have hd2 := get_of hd
      have h5 : IntKind.u8.wrap (b - 96) = (i : Int) := by rw [wrap_u8 _ (by omega) (by omega)]; omega
      have h6 : binD .sub (U b) (U 96) = some (U i) := by simp [binD, binI, h5]
      have h7 : (b - 96).toNat = i := by omega
      have h8 : i < 31 := by omega
      generalize drawD = L at *
      clear hi
      simp -implicitDefEqProofs [cw115, w, hpl, hro, h1, h2, h3, hl, e64, wr_id ((96 : Int) + 31) (by omega) (by omega), wr_id ((127 : Int)) (by omega) (by omega), h6, hd, hd2, h7, h8, ha]
    · generalize drawD = L at *
      simp -implicitDefEqProofs [cw115, w, hpl, hro, h1, h2, h3, hl, e64, e32, wr_id ((96 : Int) + 31) (by omega) (by omega), wr_id ((127 : Int)) (by omega) (by omega)]
  · generalize drawD = L at *
    simp -implicitDefEqProofs [cw115, w, hpl, hro, h1, h2, hl, e64, e32, wr_id ((96 : Int) + 31) (by omega) (by omega), wr_id ((127 : Int)) (by omega) (by omega)]
def setOf (s : Sc) : Int := if s.sh = 0 then s.s0 else s.s1
def drawnI (s : Sc) (x : Int) : Int := if setOf s = 48 ∧ 95 ≤ x ∧ x ≤ 126 then drawI x else x
theorem sp407 (k : Nat) (s : Sc) (o : OkS s) (x : Int) : evFun (clOf (modsR tab (k + 2)) 3) s407 [scD s, R x] = some (R (drawnI s x), []) := by
  rw [evFun_evB rfl]
  unfold s407 drawnI setOf
  obtain ⟨g, row, col, pend, top, bot, p, tabs, s0, s1, sh, wrap, orig, shown, keys, pad, sv⟩ := s
  have hs : sh = 0 ∨ sh = 1 := o.sh
  by_cases h2 : 95 ≤ x
  · by_cases h3 : x ≤ 126
    · have w := fun q => sp114 q x (by omega)
      have e8 : IntKind.u8.wrap x = x := wrap_u8 _ (by omega) (by omega)
      generalize drawI x = y at *
      rcases hs with h | h
      · subst h
        by_cases h1 : s0 = 48
        · simp -implicitDefEqProofs [h1, h2, h3, cw114, w, e8]
        · simp -implicitDefEqProofs [h1, h2, h3]
      · subst h
        by_cases h1 : s1 = 48
        · simp -implicitDefEqProofs [h1, h2, h3, cw114, w, e8]
        · simp -implicitDefEqProofs [h1, h2, h3]
    · rcases hs with h | h
      · subst h
        by_cases h1 : s0 = 48
        · simp -implicitDefEqProofs [h1, h2, h3]
        · simp -implicitDefEqProofs [h1, h2, h3]
      · subst h
        by_cases h1 : s1 = 48
        · simp -implicitDefEqProofs [h1, h2, h3]
        · simp -implicitDefEqProofs [h1, h2, h3]
  · rcases hs with h | h
    · subst h
      by_cases h1 : s0 = 48
      · simp -implicitDefEqProofs [h1, h2]
      · simp -implicitDefEqProofs [h1, h2]
    · subst h
      by_cases h1 : s1 = 48
      · simp -implicitDefEqProofs [h1, h2]
      · simp -implicitDefEqProofs [h1, h2]
def execS (s : Sc) (b : Int) : Sc :=
  if b = 8 then atS s s.row (s.col - 1)
  else if b = 9 then atS s s.row (nextT s.tabs s.col s.g.w)
  else if 10 ≤ b ∧ b ≤ 12 then feedS s
  else if b = 13 then atS s s.row 0
  else if b = 14 then { s with sh := 1 }
  else if b = 15 then { s with sh := 0 } else s
set_option maxHeartbeats 2000000 in
theorem sp410 (k : Nat) (s : Sc) (o : OkS s) (b : Int) : evFun (clOf (modsR tab (k + 7)) 3) s410 [scD s, U b] = some (scD (execS s b), []) := by
  have h1 := o.h
  have h2 := o.w
  have h3 := o.col
  have h4 := o.g
  by_cases c1 : b = 8
  · have e : execS s b = atS s s.row (s.col - 1) := by unfold execS; rw [if_pos c1]
    have w := fun q => sp404 q s o (s.col - 1)
    rw [e]
    generalize atS s s.row (s.col - 1) = S' at *
    rw [evFun_evB rfl]
    unfold s410
    simp -implicitDefEqProofs [c1, cw404, w, wr_id (s.col - 1) (by omega) (by omega)]
  by_cases c2 : b = 9
  · have e : execS s b = atS s s.row (nextT s.tabs s.col s.g.w) := by unfold execS; rw [if_neg c1, if_pos c2]
    have w := fun q n => sp404 q s o n
    have w2 := fun q => sp420 q s.tabs o.tabs s.col s.g.w (by omega)
    rw [e]
    generalize nextT s.tabs s.col s.g.w = n at *
    have w3 := fun q => w q n
    clear w
    generalize atS s s.row n = S' at *
    rw [evFun_evB rfl]
    unfold s410
    simp -implicitDefEqProofs [c2, cw404, w3, cr420, w2]
  by_cases c3 : 10 ≤ b ∧ b ≤ 12
  · have e : execS s b = feedS s := by unfold execS; rw [if_neg c1, if_neg c2, if_pos c3]
    have w := fun q => sp125 q s o
    rw [e]
    generalize feedS s = S' at *
    rw [evFun_evB rfl]
    unfold s410
    simp -implicitDefEqProofs [c1, c2, c3.1, c3.2, cw125, w]
  by_cases c4 : b = 13
  · have e : execS s b = atS s s.row 0 := by unfold execS; rw [if_neg c1, if_neg c2, if_neg c3, if_pos c4]
    have w := fun q => sp404 q s o 0
    rw [e]
    generalize atS s s.row 0 = S' at *
    rw [evFun_evB rfl]
    unfold s410
    simp -implicitDefEqProofs [c4, cw404, w]
  by_cases c5 : b = 14
  · have e : execS s b = { s with sh := 1 } := by unfold execS; rw [if_neg c1, if_neg c2, if_neg c3, if_neg c4, if_pos c5]
    rw [e, evFun_evB rfl]
    unfold s410
    simp -implicitDefEqProofs [c5]
  by_cases c6 : b = 15
  · have e : execS s b = { s with sh := 0 } := by unfold execS; rw [if_neg c1, if_neg c2, if_neg c3, if_neg c4, if_neg c5, if_pos c6]
    rw [e, evFun_evB rfl]
    unfold s410
    simp -implicitDefEqProofs [c6]
  have e : execS s b = s := by unfold execS; rw [if_neg c1, if_neg c2, if_neg c3, if_neg c4, if_neg c5, if_neg c6]
  rw [e, evFun_evB rfl]
  unfold s410
  by_cases c7 : 10 ≤ b
  · have c8 : ¬ b ≤ 12 := fun h => c3 ⟨c7, h⟩
    simp -implicitDefEqProofs [c1, c2, c4, c5, c6, c7, c8]
  · simp -implicitDefEqProofs [c1, c2, c4, c5, c6, c7]
end Go.Proofs.YtadipapkdjcnbaaGreat.LgTab
