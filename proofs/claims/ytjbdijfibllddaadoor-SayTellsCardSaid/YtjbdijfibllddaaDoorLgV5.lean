import Derived.Test.YtjbdijfibllddaaDoorLgV4
/-
  What is said: modes, erasing, lines.
-/
namespace Go.Proofs.YtjbdijfibllddaaDoor.LgTab
open Go Lg
set_option linter.unusedVariables false
set_option linter.unusedSimpArgs false
set_option maxRecDepth 8000
def modeM (d m : Int) (on : Bool) : List UInt8 := if (d = 1 ∨ d = 2) ∧ (m = 7 ∨ (m = 25 ∧ d = 2)) then 27 :: 91 :: 63 :: (numU m.toNat ++ [if on then 104 else 108]) else []
def eraseM (d w : Int) (on : Bool) : List UInt8 := if (d = 1 ∨ d = 2) ∧ 0 ≤ w ∧ w ≤ 2 then 27 :: 91 :: (numU w.toNat ++ [if on then 75 else 74]) else if d = 3 ∧ w = 0 then [27, if on then 75 else 74] else []
def backM (d : Int) : List UInt8 := if d = 3 then [27, 73] else if d = 1 ∨ d = 2 then [27, 77] else []
def feedM (d : Int) : List UInt8 := if 1 ≤ d ∧ d ≤ 3 then [10] else []
theorem of_five {d : Int} (h : 0 ≤ d ∧ d ≤ 4) : d = 0 ∨ d = 1 ∨ d = 2 ∨ d = 3 ∨ d = 4 := by omega
theorem sp359 (k : Nat) (d : Int) (h : 0 ≤ d ∧ d ≤ 4) : evFun (clOf (modsR tab (k + 9)) 3) s359 [I d] = some (.osl true 1 (bytesD (backM d)), []) := by
  rcases of_five h with rfl | rfl | rfl | rfl | rfl <;> kernel_rfl
theorem sp361 (k : Nat) (d : Int) (h : 0 ≤ d ∧ d ≤ 4) : evFun (clOf (modsR tab (k + 9)) 3) s361 [I d] = some (.osl true 1 (bytesD (feedM d)), []) := by
  rcases of_five h with rfl | rfl | rfl | rfl | rfl <;> kernel_rfl
theorem mo0_7_t (k : Nat) : evFun (clOf (modsR tab (k + 9)) 3) s363 [I 0, I 7, B true] = some (.osl true 1 (bytesD (modeM 0 7 true)), []) := by kernel_rfl
theorem mo0_7_f (k : Nat) : evFun (clOf (modsR tab (k + 9)) 3) s363 [I 0, I 7, B false] = some (.osl true 1 (bytesD (modeM 0 7 false)), []) := by kernel_rfl
theorem mo0_25_t (k : Nat) : evFun (clOf (modsR tab (k + 9)) 3) s363 [I 0, I 25, B true] = some (.osl true 1 (bytesD (modeM 0 25 true)), []) := by kernel_rfl
theorem mo0_25_f (k : Nat) : evFun (clOf (modsR tab (k + 9)) 3) s363 [I 0, I 25, B false] = some (.osl true 1 (bytesD (modeM 0 25 false)), []) := by kernel_rfl
theorem mo0_6_t (k : Nat) : evFun (clOf (modsR tab (k + 9)) 3) s363 [I 0, I 6, B true] = some (.osl true 1 (bytesD (modeM 0 6 true)), []) := by kernel_rfl
theorem mo0_6_f (k : Nat) : evFun (clOf (modsR tab (k + 9)) 3) s363 [I 0, I 6, B false] = some (.osl true 1 (bytesD (modeM 0 6 false)), []) := by kernel_rfl
theorem mo0_1_t (k : Nat) : evFun (clOf (modsR tab (k + 9)) 3) s363 [I 0, I 1, B true] = some (.osl true 1 (bytesD (modeM 0 1 true)), []) := by kernel_rfl
theorem mo0_1_f (k : Nat) : evFun (clOf (modsR tab (k + 9)) 3) s363 [I 0, I 1, B false] = some (.osl true 1 (bytesD (modeM 0 1 false)), []) := by kernel_rfl
theorem er0_m1_t (k : Nat) : evFun (clOf (modsR tab (k + 9)) 3) s360 [I 0, I (-1), B true] = some (.osl true 1 (bytesD (eraseM 0 (-1) true)), []) := by kernel_rfl
theorem er0_m1_f (k : Nat) : evFun (clOf (modsR tab (k + 9)) 3) s360 [I 0, I (-1), B false] = some (.osl true 1 (bytesD (eraseM 0 (-1) false)), []) := by kernel_rfl
theorem er0_0_t (k : Nat) : evFun (clOf (modsR tab (k + 9)) 3) s360 [I 0, I 0, B true] = some (.osl true 1 (bytesD (eraseM 0 0 true)), []) := by kernel_rfl
theorem er0_0_f (k : Nat) : evFun (clOf (modsR tab (k + 9)) 3) s360 [I 0, I 0, B false] = some (.osl true 1 (bytesD (eraseM 0 0 false)), []) := by kernel_rfl
theorem er0_1_t (k : Nat) : evFun (clOf (modsR tab (k + 9)) 3) s360 [I 0, I 1, B true] = some (.osl true 1 (bytesD (eraseM 0 1 true)), []) := by kernel_rfl
theorem er0_1_f (k : Nat) : evFun (clOf (modsR tab (k + 9)) 3) s360 [I 0, I 1, B false] = some (.osl true 1 (bytesD (eraseM 0 1 false)), []) := by kernel_rfl
theorem er0_2_t (k : Nat) : evFun (clOf (modsR tab (k + 9)) 3) s360 [I 0, I 2, B true] = some (.osl true 1 (bytesD (eraseM 0 2 true)), []) := by kernel_rfl
theorem er0_2_f (k : Nat) : evFun (clOf (modsR tab (k + 9)) 3) s360 [I 0, I 2, B false] = some (.osl true 1 (bytesD (eraseM 0 2 false)), []) := by kernel_rfl
theorem er0_3_t (k : Nat) : evFun (clOf (modsR tab (k + 9)) 3) s360 [I 0, I 3, B true] = some (.osl true 1 (bytesD (eraseM 0 3 true)), []) := by kernel_rfl
theorem er0_3_f (k : Nat) : evFun (clOf (modsR tab (k + 9)) 3) s360 [I 0, I 3, B false] = some (.osl true 1 (bytesD (eraseM 0 3 false)), []) := by kernel_rfl
theorem mo1_7_t (k : Nat) : evFun (clOf (modsR tab (k + 9)) 3) s363 [I 1, I 7, B true] = some (.osl true 1 (bytesD (modeM 1 7 true)), []) := by kernel_rfl
theorem mo1_7_f (k : Nat) : evFun (clOf (modsR tab (k + 9)) 3) s363 [I 1, I 7, B false] = some (.osl true 1 (bytesD (modeM 1 7 false)), []) := by kernel_rfl
theorem mo1_25_t (k : Nat) : evFun (clOf (modsR tab (k + 9)) 3) s363 [I 1, I 25, B true] = some (.osl true 1 (bytesD (modeM 1 25 true)), []) := by kernel_rfl
theorem mo1_25_f (k : Nat) : evFun (clOf (modsR tab (k + 9)) 3) s363 [I 1, I 25, B false] = some (.osl true 1 (bytesD (modeM 1 25 false)), []) := by kernel_rfl
theorem mo1_6_t (k : Nat) : evFun (clOf (modsR tab (k + 9)) 3) s363 [I 1, I 6, B true] = some (.osl true 1 (bytesD (modeM 1 6 true)), []) := by kernel_rfl
theorem mo1_6_f (k : Nat) : evFun (clOf (modsR tab (k + 9)) 3) s363 [I 1, I 6, B false] = some (.osl true 1 (bytesD (modeM 1 6 false)), []) := by kernel_rfl
theorem mo1_1_t (k : Nat) : evFun (clOf (modsR tab (k + 9)) 3) s363 [I 1, I 1, B true] = some (.osl true 1 (bytesD (modeM 1 1 true)), []) := by kernel_rfl
theorem mo1_1_f (k : Nat) : evFun (clOf (modsR tab (k + 9)) 3) s363 [I 1, I 1, B false] = some (.osl true 1 (bytesD (modeM 1 1 false)), []) := by kernel_rfl
theorem er1_m1_t (k : Nat) : evFun (clOf (modsR tab (k + 9)) 3) s360 [I 1, I (-1), B true] = some (.osl true 1 (bytesD (eraseM 1 (-1) true)), []) := by kernel_rfl
theorem er1_m1_f (k : Nat) : evFun (clOf (modsR tab (k + 9)) 3) s360 [I 1, I (-1), B false] = some (.osl true 1 (bytesD (eraseM 1 (-1) false)), []) := by kernel_rfl
theorem er1_0_t (k : Nat) : evFun (clOf (modsR tab (k + 9)) 3) s360 [I 1, I 0, B true] = some (.osl true 1 (bytesD (eraseM 1 0 true)), []) := by kernel_rfl
theorem er1_0_f (k : Nat) : evFun (clOf (modsR tab (k + 9)) 3) s360 [I 1, I 0, B false] = some (.osl true 1 (bytesD (eraseM 1 0 false)), []) := by kernel_rfl
theorem er1_1_t (k : Nat) : evFun (clOf (modsR tab (k + 9)) 3) s360 [I 1, I 1, B true] = some (.osl true 1 (bytesD (eraseM 1 1 true)), []) := by kernel_rfl
theorem er1_1_f (k : Nat) : evFun (clOf (modsR tab (k + 9)) 3) s360 [I 1, I 1, B false] = some (.osl true 1 (bytesD (eraseM 1 1 false)), []) := by kernel_rfl
theorem er1_2_t (k : Nat) : evFun (clOf (modsR tab (k + 9)) 3) s360 [I 1, I 2, B true] = some (.osl true 1 (bytesD (eraseM 1 2 true)), []) := by kernel_rfl
theorem er1_2_f (k : Nat) : evFun (clOf (modsR tab (k + 9)) 3) s360 [I 1, I 2, B false] = some (.osl true 1 (bytesD (eraseM 1 2 false)), []) := by kernel_rfl
theorem er1_3_t (k : Nat) : evFun (clOf (modsR tab (k + 9)) 3) s360 [I 1, I 3, B true] = some (.osl true 1 (bytesD (eraseM 1 3 true)), []) := by kernel_rfl
theorem er1_3_f (k : Nat) : evFun (clOf (modsR tab (k + 9)) 3) s360 [I 1, I 3, B false] = some (.osl true 1 (bytesD (eraseM 1 3 false)), []) := by kernel_rfl
theorem mo2_7_t (k : Nat) : evFun (clOf (modsR tab (k + 9)) 3) s363 [I 2, I 7, B true] = some (.osl true 1 (bytesD (modeM 2 7 true)), []) := by kernel_rfl
theorem mo2_7_f (k : Nat) : evFun (clOf (modsR tab (k + 9)) 3) s363 [I 2, I 7, B false] = some (.osl true 1 (bytesD (modeM 2 7 false)), []) := by kernel_rfl
theorem mo2_25_t (k : Nat) : evFun (clOf (modsR tab (k + 9)) 3) s363 [I 2, I 25, B true] = some (.osl true 1 (bytesD (modeM 2 25 true)), []) := by kernel_rfl
theorem mo2_25_f (k : Nat) : evFun (clOf (modsR tab (k + 9)) 3) s363 [I 2, I 25, B false] = some (.osl true 1 (bytesD (modeM 2 25 false)), []) := by kernel_rfl
theorem mo2_6_t (k : Nat) : evFun (clOf (modsR tab (k + 9)) 3) s363 [I 2, I 6, B true] = some (.osl true 1 (bytesD (modeM 2 6 true)), []) := by kernel_rfl
theorem mo2_6_f (k : Nat) : evFun (clOf (modsR tab (k + 9)) 3) s363 [I 2, I 6, B false] = some (.osl true 1 (bytesD (modeM 2 6 false)), []) := by kernel_rfl
theorem mo2_1_t (k : Nat) : evFun (clOf (modsR tab (k + 9)) 3) s363 [I 2, I 1, B true] = some (.osl true 1 (bytesD (modeM 2 1 true)), []) := by kernel_rfl
theorem mo2_1_f (k : Nat) : evFun (clOf (modsR tab (k + 9)) 3) s363 [I 2, I 1, B false] = some (.osl true 1 (bytesD (modeM 2 1 false)), []) := by kernel_rfl
theorem er2_m1_t (k : Nat) : evFun (clOf (modsR tab (k + 9)) 3) s360 [I 2, I (-1), B true] = some (.osl true 1 (bytesD (eraseM 2 (-1) true)), []) := by kernel_rfl
theorem er2_m1_f (k : Nat) : evFun (clOf (modsR tab (k + 9)) 3) s360 [I 2, I (-1), B false] = some (.osl true 1 (bytesD (eraseM 2 (-1) false)), []) := by kernel_rfl
theorem er2_0_t (k : Nat) : evFun (clOf (modsR tab (k + 9)) 3) s360 [I 2, I 0, B true] = some (.osl true 1 (bytesD (eraseM 2 0 true)), []) := by kernel_rfl
theorem er2_0_f (k : Nat) : evFun (clOf (modsR tab (k + 9)) 3) s360 [I 2, I 0, B false] = some (.osl true 1 (bytesD (eraseM 2 0 false)), []) := by kernel_rfl
theorem er2_1_t (k : Nat) : evFun (clOf (modsR tab (k + 9)) 3) s360 [I 2, I 1, B true] = some (.osl true 1 (bytesD (eraseM 2 1 true)), []) := by kernel_rfl
theorem er2_1_f (k : Nat) : evFun (clOf (modsR tab (k + 9)) 3) s360 [I 2, I 1, B false] = some (.osl true 1 (bytesD (eraseM 2 1 false)), []) := by kernel_rfl
theorem er2_2_t (k : Nat) : evFun (clOf (modsR tab (k + 9)) 3) s360 [I 2, I 2, B true] = some (.osl true 1 (bytesD (eraseM 2 2 true)), []) := by kernel_rfl
theorem er2_2_f (k : Nat) : evFun (clOf (modsR tab (k + 9)) 3) s360 [I 2, I 2, B false] = some (.osl true 1 (bytesD (eraseM 2 2 false)), []) := by kernel_rfl
theorem er2_3_t (k : Nat) : evFun (clOf (modsR tab (k + 9)) 3) s360 [I 2, I 3, B true] = some (.osl true 1 (bytesD (eraseM 2 3 true)), []) := by kernel_rfl
theorem er2_3_f (k : Nat) : evFun (clOf (modsR tab (k + 9)) 3) s360 [I 2, I 3, B false] = some (.osl true 1 (bytesD (eraseM 2 3 false)), []) := by kernel_rfl
theorem mo3_7_t (k : Nat) : evFun (clOf (modsR tab (k + 9)) 3) s363 [I 3, I 7, B true] = some (.osl true 1 (bytesD (modeM 3 7 true)), []) := by kernel_rfl
theorem mo3_7_f (k : Nat) : evFun (clOf (modsR tab (k + 9)) 3) s363 [I 3, I 7, B false] = some (.osl true 1 (bytesD (modeM 3 7 false)), []) := by kernel_rfl
theorem mo3_25_t (k : Nat) : evFun (clOf (modsR tab (k + 9)) 3) s363 [I 3, I 25, B true] = some (.osl true 1 (bytesD (modeM 3 25 true)), []) := by kernel_rfl
theorem mo3_25_f (k : Nat) : evFun (clOf (modsR tab (k + 9)) 3) s363 [I 3, I 25, B false] = some (.osl true 1 (bytesD (modeM 3 25 false)), []) := by kernel_rfl
theorem mo3_6_t (k : Nat) : evFun (clOf (modsR tab (k + 9)) 3) s363 [I 3, I 6, B true] = some (.osl true 1 (bytesD (modeM 3 6 true)), []) := by kernel_rfl
theorem mo3_6_f (k : Nat) : evFun (clOf (modsR tab (k + 9)) 3) s363 [I 3, I 6, B false] = some (.osl true 1 (bytesD (modeM 3 6 false)), []) := by kernel_rfl
theorem mo3_1_t (k : Nat) : evFun (clOf (modsR tab (k + 9)) 3) s363 [I 3, I 1, B true] = some (.osl true 1 (bytesD (modeM 3 1 true)), []) := by kernel_rfl
theorem mo3_1_f (k : Nat) : evFun (clOf (modsR tab (k + 9)) 3) s363 [I 3, I 1, B false] = some (.osl true 1 (bytesD (modeM 3 1 false)), []) := by kernel_rfl
theorem er3_m1_t (k : Nat) : evFun (clOf (modsR tab (k + 9)) 3) s360 [I 3, I (-1), B true] = some (.osl true 1 (bytesD (eraseM 3 (-1) true)), []) := by kernel_rfl
theorem er3_m1_f (k : Nat) : evFun (clOf (modsR tab (k + 9)) 3) s360 [I 3, I (-1), B false] = some (.osl true 1 (bytesD (eraseM 3 (-1) false)), []) := by kernel_rfl
theorem er3_0_t (k : Nat) : evFun (clOf (modsR tab (k + 9)) 3) s360 [I 3, I 0, B true] = some (.osl true 1 (bytesD (eraseM 3 0 true)), []) := by kernel_rfl
theorem er3_0_f (k : Nat) : evFun (clOf (modsR tab (k + 9)) 3) s360 [I 3, I 0, B false] = some (.osl true 1 (bytesD (eraseM 3 0 false)), []) := by kernel_rfl
theorem er3_1_t (k : Nat) : evFun (clOf (modsR tab (k + 9)) 3) s360 [I 3, I 1, B true] = some (.osl true 1 (bytesD (eraseM 3 1 true)), []) := by kernel_rfl
theorem er3_1_f (k : Nat) : evFun (clOf (modsR tab (k + 9)) 3) s360 [I 3, I 1, B false] = some (.osl true 1 (bytesD (eraseM 3 1 false)), []) := by kernel_rfl
theorem er3_2_t (k : Nat) : evFun (clOf (modsR tab (k + 9)) 3) s360 [I 3, I 2, B true] = some (.osl true 1 (bytesD (eraseM 3 2 true)), []) := by kernel_rfl
theorem er3_2_f (k : Nat) : evFun (clOf (modsR tab (k + 9)) 3) s360 [I 3, I 2, B false] = some (.osl true 1 (bytesD (eraseM 3 2 false)), []) := by kernel_rfl
theorem er3_3_t (k : Nat) : evFun (clOf (modsR tab (k + 9)) 3) s360 [I 3, I 3, B true] = some (.osl true 1 (bytesD (eraseM 3 3 true)), []) := by kernel_rfl
theorem er3_3_f (k : Nat) : evFun (clOf (modsR tab (k + 9)) 3) s360 [I 3, I 3, B false] = some (.osl true 1 (bytesD (eraseM 3 3 false)), []) := by kernel_rfl
theorem mo4_7_t (k : Nat) : evFun (clOf (modsR tab (k + 9)) 3) s363 [I 4, I 7, B true] = some (.osl true 1 (bytesD (modeM 4 7 true)), []) := by kernel_rfl
theorem mo4_7_f (k : Nat) : evFun (clOf (modsR tab (k + 9)) 3) s363 [I 4, I 7, B false] = some (.osl true 1 (bytesD (modeM 4 7 false)), []) := by kernel_rfl
theorem mo4_25_t (k : Nat) : evFun (clOf (modsR tab (k + 9)) 3) s363 [I 4, I 25, B true] = some (.osl true 1 (bytesD (modeM 4 25 true)), []) := by kernel_rfl
theorem mo4_25_f (k : Nat) : evFun (clOf (modsR tab (k + 9)) 3) s363 [I 4, I 25, B false] = some (.osl true 1 (bytesD (modeM 4 25 false)), []) := by kernel_rfl
theorem mo4_6_t (k : Nat) : evFun (clOf (modsR tab (k + 9)) 3) s363 [I 4, I 6, B true] = some (.osl true 1 (bytesD (modeM 4 6 true)), []) := by kernel_rfl
theorem mo4_6_f (k : Nat) : evFun (clOf (modsR tab (k + 9)) 3) s363 [I 4, I 6, B false] = some (.osl true 1 (bytesD (modeM 4 6 false)), []) := by kernel_rfl
theorem mo4_1_t (k : Nat) : evFun (clOf (modsR tab (k + 9)) 3) s363 [I 4, I 1, B true] = some (.osl true 1 (bytesD (modeM 4 1 true)), []) := by kernel_rfl
theorem mo4_1_f (k : Nat) : evFun (clOf (modsR tab (k + 9)) 3) s363 [I 4, I 1, B false] = some (.osl true 1 (bytesD (modeM 4 1 false)), []) := by kernel_rfl
theorem er4_m1_t (k : Nat) : evFun (clOf (modsR tab (k + 9)) 3) s360 [I 4, I (-1), B true] = some (.osl true 1 (bytesD (eraseM 4 (-1) true)), []) := by kernel_rfl
theorem er4_m1_f (k : Nat) : evFun (clOf (modsR tab (k + 9)) 3) s360 [I 4, I (-1), B false] = some (.osl true 1 (bytesD (eraseM 4 (-1) false)), []) := by kernel_rfl
theorem er4_0_t (k : Nat) : evFun (clOf (modsR tab (k + 9)) 3) s360 [I 4, I 0, B true] = some (.osl true 1 (bytesD (eraseM 4 0 true)), []) := by kernel_rfl
theorem er4_0_f (k : Nat) : evFun (clOf (modsR tab (k + 9)) 3) s360 [I 4, I 0, B false] = some (.osl true 1 (bytesD (eraseM 4 0 false)), []) := by kernel_rfl
theorem er4_1_t (k : Nat) : evFun (clOf (modsR tab (k + 9)) 3) s360 [I 4, I 1, B true] = some (.osl true 1 (bytesD (eraseM 4 1 true)), []) := by kernel_rfl
theorem er4_1_f (k : Nat) : evFun (clOf (modsR tab (k + 9)) 3) s360 [I 4, I 1, B false] = some (.osl true 1 (bytesD (eraseM 4 1 false)), []) := by kernel_rfl
theorem er4_2_t (k : Nat) : evFun (clOf (modsR tab (k + 9)) 3) s360 [I 4, I 2, B true] = some (.osl true 1 (bytesD (eraseM 4 2 true)), []) := by kernel_rfl
theorem er4_2_f (k : Nat) : evFun (clOf (modsR tab (k + 9)) 3) s360 [I 4, I 2, B false] = some (.osl true 1 (bytesD (eraseM 4 2 false)), []) := by kernel_rfl
theorem er4_3_t (k : Nat) : evFun (clOf (modsR tab (k + 9)) 3) s360 [I 4, I 3, B true] = some (.osl true 1 (bytesD (eraseM 4 3 true)), []) := by kernel_rfl
theorem er4_3_f (k : Nat) : evFun (clOf (modsR tab (k + 9)) 3) s360 [I 4, I 3, B false] = some (.osl true 1 (bytesD (eraseM 4 3 false)), []) := by kernel_rfl
theorem sp363 (k : Nat) (d m : Int) (on : Bool) (h : 0 ≤ d ∧ d ≤ 4) (hm : m = 7 ∨ m = 25 ∨ m = 6 ∨ m = 1) : evFun (clOf (modsR tab (k + 9)) 3) s363 [I d, I m, B on] = some (.osl true 1 (bytesD (modeM d m on)), []) := by
  rcases of_five h with rfl | rfl | rfl | rfl | rfl
  · rcases hm with rfl | rfl | rfl | rfl
    · cases on with
      | true => exact mo0_7_t k
      | false => exact mo0_7_f k
    · cases on with
      | true => exact mo0_25_t k
      | false => exact mo0_25_f k
    · cases on with
      | true => exact mo0_6_t k
      | false => exact mo0_6_f k
    · cases on with
      | true => exact mo0_1_t k
      | false => exact mo0_1_f k
  · rcases hm with rfl | rfl | rfl | rfl
    · cases on with
      | true => exact mo1_7_t k
      | false => exact mo1_7_f k
    · cases on with
      | true => exact mo1_25_t k
      | false => exact mo1_25_f k
    · cases on with
      | true => exact mo1_6_t k
      | false => exact mo1_6_f k
    · cases on with
      | true => exact mo1_1_t k
      | false => exact mo1_1_f k
  · rcases hm with rfl | rfl | rfl | rfl
    · cases on with
      | true => exact mo2_7_t k
      | false => exact mo2_7_f k
    · cases on with
      | true => exact mo2_25_t k
      | false => exact mo2_25_f k
    · cases on with
      | true => exact mo2_6_t k
      | false => exact mo2_6_f k
    · cases on with
      | true => exact mo2_1_t k
      | false => exact mo2_1_f k
  · rcases hm with rfl | rfl | rfl | rfl
    · cases on with
      | true => exact mo3_7_t k
      | false => exact mo3_7_f k
    · cases on with
      | true => exact mo3_25_t k
      | false => exact mo3_25_f k
    · cases on with
      | true => exact mo3_6_t k
      | false => exact mo3_6_f k
    · cases on with
      | true => exact mo3_1_t k
      | false => exact mo3_1_f k
  · rcases hm with rfl | rfl | rfl | rfl
    · cases on with
      | true => exact mo4_7_t k
      | false => exact mo4_7_f k
    · cases on with
      | true => exact mo4_25_t k
      | false => exact mo4_25_f k
    · cases on with
      | true => exact mo4_6_t k
      | false => exact mo4_6_f k
    · cases on with
      | true => exact mo4_1_t k
      | false => exact mo4_1_f k
theorem sp360 (k : Nat) (d w : Int) (on : Bool) (h : 0 ≤ d ∧ d ≤ 4) (hw : -1 ≤ w ∧ w ≤ 3) : evFun (clOf (modsR tab (k + 9)) 3) s360 [I d, I w, B on] = some (.osl true 1 (bytesD (eraseM d w on)), []) := by
  have hc : w = -1 ∨ w = 0 ∨ w = 1 ∨ w = 2 ∨ w = 3 := by omega
  rcases of_five h with rfl | rfl | rfl | rfl | rfl
  · rcases hc with rfl | rfl | rfl | rfl | rfl
    · cases on with
      | true => exact er0_m1_t k
      | false => exact er0_m1_f k
    · cases on with
      | true => exact er0_0_t k
      | false => exact er0_0_f k
    · cases on with
      | true => exact er0_1_t k
      | false => exact er0_1_f k
    · cases on with
      | true => exact er0_2_t k
      | false => exact er0_2_f k
    · cases on with
      | true => exact er0_3_t k
      | false => exact er0_3_f k
  · rcases hc with rfl | rfl | rfl | rfl | rfl
    · cases on with
      | true => exact er1_m1_t k
      | false => exact er1_m1_f k
    · cases on with
      | true => exact er1_0_t k
      | false => exact er1_0_f k
    · cases on with
      | true => exact er1_1_t k
      | false => exact er1_1_f k
    · cases on with
      | true => exact er1_2_t k
      | false => exact er1_2_f k
    · cases on with
      | true => exact er1_3_t k
      | false => exact er1_3_f k
  · rcases hc with rfl | rfl | rfl | rfl | rfl
    · cases on with
      | true => exact er2_m1_t k
      | false => exact er2_m1_f k
    · cases on with
      | true => exact er2_0_t k
      | false => exact er2_0_f k
    · cases on with
      | true => exact er2_1_t k
      | false => exact er2_1_f k
    · cases on with
      | true => exact er2_2_t k
      | false => exact er2_2_f k
    · cases on with
      | true => exact er2_3_t k
      | false => exact er2_3_f k
  · rcases hc with rfl | rfl | rfl | rfl | rfl
    · cases on with
      | true => exact er3_m1_t k
      | false => exact er3_m1_f k
    · cases on with
      | true => exact er3_0_t k
      | false => exact er3_0_f k
    · cases on with
      | true => exact er3_1_t k
      | false => exact er3_1_f k
    · cases on with
      | true => exact er3_2_t k
      | false => exact er3_2_f k
    · cases on with
      | true => exact er3_3_t k
      | false => exact er3_3_f k
  · rcases hc with rfl | rfl | rfl | rfl | rfl
    · cases on with
      | true => exact er4_m1_t k
      | false => exact er4_m1_f k
    · cases on with
      | true => exact er4_0_t k
      | false => exact er4_0_f k
    · cases on with
      | true => exact er4_1_t k
      | false => exact er4_1_f k
    · cases on with
      | true => exact er4_2_t k
      | false => exact er4_2_f k
    · cases on with
      | true => exact er4_3_t k
      | false => exact er4_3_f k
theorem sp213 (k : Nat) : evFun (clOf (modsR tab (k + 10)) 3) s213 [] = some (B true, []) := by kernel_rfl
end Go.Proofs.YtjbdijfibllddaaDoor.LgTab
