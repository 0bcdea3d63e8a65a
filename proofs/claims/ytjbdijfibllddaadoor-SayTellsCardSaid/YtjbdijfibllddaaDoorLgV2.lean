import Derived.Test.YtjbdijfibllddaaDoorLgV1
/-
  Drawn runes: what is computed.
-/
namespace Go.Proofs.YtjbdijfibllddaaDoor.LgTab
open Go Lg
set_option linter.unusedVariables false
set_option linter.unusedSimpArgs false
set_option maxRecDepth 8000
theorem dr0a (k : Nat) : evFun (clOf (modsR tab (k + 5)) 3) s117 [R 9670] = some (.tup [U 96, B true], []) := by kernel_rfl
theorem dr0b1 (k : Nat) : evFun (clOf (modsR tab (k + 5)) 3) s266 [I 1, R 9670] = some (R 9670, []) := by kernel_rfl
theorem dr0c1 (k : Nat) : evFun (clOf (modsR tab (k + 5)) 3) s367 [I 1, R 9670] = some (.osl true 1 [U 27, U 40, U 48, U 96, U 27, U 40, U 66], []) := by kernel_rfl
theorem dr0b2 (k : Nat) : evFun (clOf (modsR tab (k + 5)) 3) s266 [I 2, R 9670] = some (R 9670, []) := by kernel_rfl
theorem dr0c2 (k : Nat) : evFun (clOf (modsR tab (k + 5)) 3) s367 [I 2, R 9670] = some (.osl true 1 [U 27, U 40, U 48, U 96, U 27, U 40, U 66], []) := by kernel_rfl
theorem dr0b3 (k : Nat) : evFun (clOf (modsR tab (k + 5)) 3) s266 [I 3, R 9670] = some (R 42, []) := by kernel_rfl
theorem dr0c3 (k : Nat) : evFun (clOf (modsR tab (k + 5)) 3) s367 [I 3, R 9670] = some (.osl true 1 [], []) := by kernel_rfl
theorem dr1a (k : Nat) : evFun (clOf (modsR tab (k + 5)) 3) s117 [R 9618] = some (.tup [U 97, B true], []) := by kernel_rfl
theorem dr1b1 (k : Nat) : evFun (clOf (modsR tab (k + 5)) 3) s266 [I 1, R 9618] = some (R 9618, []) := by kernel_rfl
theorem dr1c1 (k : Nat) : evFun (clOf (modsR tab (k + 5)) 3) s367 [I 1, R 9618] = some (.osl true 1 [U 27, U 40, U 48, U 97, U 27, U 40, U 66], []) := by kernel_rfl
theorem dr1b2 (k : Nat) : evFun (clOf (modsR tab (k + 5)) 3) s266 [I 2, R 9618] = some (R 9618, []) := by kernel_rfl
theorem dr1c2 (k : Nat) : evFun (clOf (modsR tab (k + 5)) 3) s367 [I 2, R 9618] = some (.osl true 1 [U 27, U 40, U 48, U 97, U 27, U 40, U 66], []) := by kernel_rfl
theorem dr1b3 (k : Nat) : evFun (clOf (modsR tab (k + 5)) 3) s266 [I 3, R 9618] = some (R 35, []) := by kernel_rfl
theorem dr1c3 (k : Nat) : evFun (clOf (modsR tab (k + 5)) 3) s367 [I 3, R 9618] = some (.osl true 1 [], []) := by kernel_rfl
theorem dr2a (k : Nat) : evFun (clOf (modsR tab (k + 5)) 3) s117 [R 9225] = some (.tup [U 98, B true], []) := by kernel_rfl
theorem dr2b1 (k : Nat) : evFun (clOf (modsR tab (k + 5)) 3) s266 [I 1, R 9225] = some (R 9225, []) := by kernel_rfl
theorem dr2c1 (k : Nat) : evFun (clOf (modsR tab (k + 5)) 3) s367 [I 1, R 9225] = some (.osl true 1 [U 27, U 40, U 48, U 98, U 27, U 40, U 66], []) := by kernel_rfl
theorem dr2b2 (k : Nat) : evFun (clOf (modsR tab (k + 5)) 3) s266 [I 2, R 9225] = some (R 9225, []) := by kernel_rfl
theorem dr2c2 (k : Nat) : evFun (clOf (modsR tab (k + 5)) 3) s367 [I 2, R 9225] = some (.osl true 1 [U 27, U 40, U 48, U 98, U 27, U 40, U 66], []) := by kernel_rfl
theorem dr2b3 (k : Nat) : evFun (clOf (modsR tab (k + 5)) 3) s266 [I 3, R 9225] = some (R 72, []) := by kernel_rfl
theorem dr2c3 (k : Nat) : evFun (clOf (modsR tab (k + 5)) 3) s367 [I 3, R 9225] = some (.osl true 1 [], []) := by kernel_rfl
theorem dr3a (k : Nat) : evFun (clOf (modsR tab (k + 5)) 3) s117 [R 9228] = some (.tup [U 99, B true], []) := by kernel_rfl
theorem dr3b1 (k : Nat) : evFun (clOf (modsR tab (k + 5)) 3) s266 [I 1, R 9228] = some (R 9228, []) := by kernel_rfl
theorem dr3c1 (k : Nat) : evFun (clOf (modsR tab (k + 5)) 3) s367 [I 1, R 9228] = some (.osl true 1 [U 27, U 40, U 48, U 99, U 27, U 40, U 66], []) := by kernel_rfl
theorem dr3b2 (k : Nat) : evFun (clOf (modsR tab (k + 5)) 3) s266 [I 2, R 9228] = some (R 9228, []) := by kernel_rfl
theorem dr3c2 (k : Nat) : evFun (clOf (modsR tab (k + 5)) 3) s367 [I 2, R 9228] = some (.osl true 1 [U 27, U 40, U 48, U 99, U 27, U 40, U 66], []) := by kernel_rfl
theorem dr3b3 (k : Nat) : evFun (clOf (modsR tab (k + 5)) 3) s266 [I 3, R 9228] = some (R 70, []) := by kernel_rfl
theorem dr3c3 (k : Nat) : evFun (clOf (modsR tab (k + 5)) 3) s367 [I 3, R 9228] = some (.osl true 1 [], []) := by kernel_rfl
theorem dr4a (k : Nat) : evFun (clOf (modsR tab (k + 5)) 3) s117 [R 9229] = some (.tup [U 100, B true], []) := by kernel_rfl
theorem dr4b1 (k : Nat) : evFun (clOf (modsR tab (k + 5)) 3) s266 [I 1, R 9229] = some (R 9229, []) := by kernel_rfl
theorem dr4c1 (k : Nat) : evFun (clOf (modsR tab (k + 5)) 3) s367 [I 1, R 9229] = some (.osl true 1 [U 27, U 40, U 48, U 100, U 27, U 40, U 66], []) := by kernel_rfl
theorem dr4b2 (k : Nat) : evFun (clOf (modsR tab (k + 5)) 3) s266 [I 2, R 9229] = some (R 9229, []) := by kernel_rfl
theorem dr4c2 (k : Nat) : evFun (clOf (modsR tab (k + 5)) 3) s367 [I 2, R 9229] = some (.osl true 1 [U 27, U 40, U 48, U 100, U 27, U 40, U 66], []) := by kernel_rfl
theorem dr4b3 (k : Nat) : evFun (clOf (modsR tab (k + 5)) 3) s266 [I 3, R 9229] = some (R 67, []) := by kernel_rfl
theorem dr4c3 (k : Nat) : evFun (clOf (modsR tab (k + 5)) 3) s367 [I 3, R 9229] = some (.osl true 1 [], []) := by kernel_rfl
theorem dr5a (k : Nat) : evFun (clOf (modsR tab (k + 5)) 3) s117 [R 9226] = some (.tup [U 101, B true], []) := by kernel_rfl
theorem dr5b1 (k : Nat) : evFun (clOf (modsR tab (k + 5)) 3) s266 [I 1, R 9226] = some (R 9226, []) := by kernel_rfl
theorem dr5c1 (k : Nat) : evFun (clOf (modsR tab (k + 5)) 3) s367 [I 1, R 9226] = some (.osl true 1 [U 27, U 40, U 48, U 101, U 27, U 40, U 66], []) := by kernel_rfl
theorem dr5b2 (k : Nat) : evFun (clOf (modsR tab (k + 5)) 3) s266 [I 2, R 9226] = some (R 9226, []) := by kernel_rfl
theorem dr5c2 (k : Nat) : evFun (clOf (modsR tab (k + 5)) 3) s367 [I 2, R 9226] = some (.osl true 1 [U 27, U 40, U 48, U 101, U 27, U 40, U 66], []) := by kernel_rfl
theorem dr5b3 (k : Nat) : evFun (clOf (modsR tab (k + 5)) 3) s266 [I 3, R 9226] = some (R 76, []) := by kernel_rfl
theorem dr5c3 (k : Nat) : evFun (clOf (modsR tab (k + 5)) 3) s367 [I 3, R 9226] = some (.osl true 1 [], []) := by kernel_rfl
theorem dr6a (k : Nat) : evFun (clOf (modsR tab (k + 5)) 3) s117 [R 176] = some (.tup [U 102, B true], []) := by kernel_rfl
theorem dr6b1 (k : Nat) : evFun (clOf (modsR tab (k + 5)) 3) s266 [I 1, R 176] = some (R 176, []) := by kernel_rfl
theorem dr6c1 (k : Nat) : evFun (clOf (modsR tab (k + 5)) 3) s367 [I 1, R 176] = some (.osl true 1 [U 27, U 40, U 48, U 102, U 27, U 40, U 66], []) := by kernel_rfl
theorem dr6b2 (k : Nat) : evFun (clOf (modsR tab (k + 5)) 3) s266 [I 2, R 176] = some (R 176, []) := by kernel_rfl
theorem dr6c2 (k : Nat) : evFun (clOf (modsR tab (k + 5)) 3) s367 [I 2, R 176] = some (.osl true 1 [U 27, U 40, U 48, U 102, U 27, U 40, U 66], []) := by kernel_rfl
theorem dr6b3 (k : Nat) : evFun (clOf (modsR tab (k + 5)) 3) s266 [I 3, R 176] = some (R 111, []) := by kernel_rfl
theorem dr6c3 (k : Nat) : evFun (clOf (modsR tab (k + 5)) 3) s367 [I 3, R 176] = some (.osl true 1 [], []) := by kernel_rfl
theorem dr7a (k : Nat) : evFun (clOf (modsR tab (k + 5)) 3) s117 [R 177] = some (.tup [U 103, B true], []) := by kernel_rfl
theorem dr7b1 (k : Nat) : evFun (clOf (modsR tab (k + 5)) 3) s266 [I 1, R 177] = some (R 177, []) := by kernel_rfl
theorem dr7c1 (k : Nat) : evFun (clOf (modsR tab (k + 5)) 3) s367 [I 1, R 177] = some (.osl true 1 [U 27, U 40, U 48, U 103, U 27, U 40, U 66], []) := by kernel_rfl
theorem dr7b2 (k : Nat) : evFun (clOf (modsR tab (k + 5)) 3) s266 [I 2, R 177] = some (R 177, []) := by kernel_rfl
theorem dr7c2 (k : Nat) : evFun (clOf (modsR tab (k + 5)) 3) s367 [I 2, R 177] = some (.osl true 1 [U 27, U 40, U 48, U 103, U 27, U 40, U 66], []) := by kernel_rfl
theorem dr7b3 (k : Nat) : evFun (clOf (modsR tab (k + 5)) 3) s266 [I 3, R 177] = some (R 43, []) := by kernel_rfl
theorem dr7c3 (k : Nat) : evFun (clOf (modsR tab (k + 5)) 3) s367 [I 3, R 177] = some (.osl true 1 [], []) := by kernel_rfl
theorem dr8a (k : Nat) : evFun (clOf (modsR tab (k + 5)) 3) s117 [R 9252] = some (.tup [U 104, B true], []) := by kernel_rfl
theorem dr8b1 (k : Nat) : evFun (clOf (modsR tab (k + 5)) 3) s266 [I 1, R 9252] = some (R 9252, []) := by kernel_rfl
theorem dr8c1 (k : Nat) : evFun (clOf (modsR tab (k + 5)) 3) s367 [I 1, R 9252] = some (.osl true 1 [U 27, U 40, U 48, U 104, U 27, U 40, U 66], []) := by kernel_rfl
theorem dr8b2 (k : Nat) : evFun (clOf (modsR tab (k + 5)) 3) s266 [I 2, R 9252] = some (R 9252, []) := by kernel_rfl
theorem dr8c2 (k : Nat) : evFun (clOf (modsR tab (k + 5)) 3) s367 [I 2, R 9252] = some (.osl true 1 [U 27, U 40, U 48, U 104, U 27, U 40, U 66], []) := by kernel_rfl
theorem dr8b3 (k : Nat) : evFun (clOf (modsR tab (k + 5)) 3) s266 [I 3, R 9252] = some (R 78, []) := by kernel_rfl
theorem dr8c3 (k : Nat) : evFun (clOf (modsR tab (k + 5)) 3) s367 [I 3, R 9252] = some (.osl true 1 [], []) := by kernel_rfl
theorem dr9a (k : Nat) : evFun (clOf (modsR tab (k + 5)) 3) s117 [R 9227] = some (.tup [U 105, B true], []) := by kernel_rfl
theorem dr9b1 (k : Nat) : evFun (clOf (modsR tab (k + 5)) 3) s266 [I 1, R 9227] = some (R 9227, []) := by kernel_rfl
theorem dr9c1 (k : Nat) : evFun (clOf (modsR tab (k + 5)) 3) s367 [I 1, R 9227] = some (.osl true 1 [U 27, U 40, U 48, U 105, U 27, U 40, U 66], []) := by kernel_rfl
theorem dr9b2 (k : Nat) : evFun (clOf (modsR tab (k + 5)) 3) s266 [I 2, R 9227] = some (R 9227, []) := by kernel_rfl
theorem dr9c2 (k : Nat) : evFun (clOf (modsR tab (k + 5)) 3) s367 [I 2, R 9227] = some (.osl true 1 [U 27, U 40, U 48, U 105, U 27, U 40, U 66], []) := by kernel_rfl
theorem dr9b3 (k : Nat) : evFun (clOf (modsR tab (k + 5)) 3) s266 [I 3, R 9227] = some (R 86, []) := by kernel_rfl
theorem dr9c3 (k : Nat) : evFun (clOf (modsR tab (k + 5)) 3) s367 [I 3, R 9227] = some (.osl true 1 [], []) := by kernel_rfl
theorem dr10a (k : Nat) : evFun (clOf (modsR tab (k + 5)) 3) s117 [R 9496] = some (.tup [U 106, B true], []) := by kernel_rfl
theorem dr10b1 (k : Nat) : evFun (clOf (modsR tab (k + 5)) 3) s266 [I 1, R 9496] = some (R 9496, []) := by kernel_rfl
theorem dr10c1 (k : Nat) : evFun (clOf (modsR tab (k + 5)) 3) s367 [I 1, R 9496] = some (.osl true 1 [U 27, U 40, U 48, U 106, U 27, U 40, U 66], []) := by kernel_rfl
theorem dr10b2 (k : Nat) : evFun (clOf (modsR tab (k + 5)) 3) s266 [I 2, R 9496] = some (R 9496, []) := by kernel_rfl
theorem dr10c2 (k : Nat) : evFun (clOf (modsR tab (k + 5)) 3) s367 [I 2, R 9496] = some (.osl true 1 [U 27, U 40, U 48, U 106, U 27, U 40, U 66], []) := by kernel_rfl
theorem dr10b3 (k : Nat) : evFun (clOf (modsR tab (k + 5)) 3) s266 [I 3, R 9496] = some (R 43, []) := by kernel_rfl
theorem dr10c3 (k : Nat) : evFun (clOf (modsR tab (k + 5)) 3) s367 [I 3, R 9496] = some (.osl true 1 [], []) := by kernel_rfl
theorem dr11a (k : Nat) : evFun (clOf (modsR tab (k + 5)) 3) s117 [R 9488] = some (.tup [U 107, B true], []) := by kernel_rfl
theorem dr11b1 (k : Nat) : evFun (clOf (modsR tab (k + 5)) 3) s266 [I 1, R 9488] = some (R 9488, []) := by kernel_rfl
theorem dr11c1 (k : Nat) : evFun (clOf (modsR tab (k + 5)) 3) s367 [I 1, R 9488] = some (.osl true 1 [U 27, U 40, U 48, U 107, U 27, U 40, U 66], []) := by kernel_rfl
theorem dr11b2 (k : Nat) : evFun (clOf (modsR tab (k + 5)) 3) s266 [I 2, R 9488] = some (R 9488, []) := by kernel_rfl
theorem dr11c2 (k : Nat) : evFun (clOf (modsR tab (k + 5)) 3) s367 [I 2, R 9488] = some (.osl true 1 [U 27, U 40, U 48, U 107, U 27, U 40, U 66], []) := by kernel_rfl
theorem dr11b3 (k : Nat) : evFun (clOf (modsR tab (k + 5)) 3) s266 [I 3, R 9488] = some (R 43, []) := by kernel_rfl
theorem dr11c3 (k : Nat) : evFun (clOf (modsR tab (k + 5)) 3) s367 [I 3, R 9488] = some (.osl true 1 [], []) := by kernel_rfl
theorem dr12a (k : Nat) : evFun (clOf (modsR tab (k + 5)) 3) s117 [R 9484] = some (.tup [U 108, B true], []) := by kernel_rfl
theorem dr12b1 (k : Nat) : evFun (clOf (modsR tab (k + 5)) 3) s266 [I 1, R 9484] = some (R 9484, []) := by kernel_rfl
theorem dr12c1 (k : Nat) : evFun (clOf (modsR tab (k + 5)) 3) s367 [I 1, R 9484] = some (.osl true 1 [U 27, U 40, U 48, U 108, U 27, U 40, U 66], []) := by kernel_rfl
theorem dr12b2 (k : Nat) : evFun (clOf (modsR tab (k + 5)) 3) s266 [I 2, R 9484] = some (R 9484, []) := by kernel_rfl
theorem dr12c2 (k : Nat) : evFun (clOf (modsR tab (k + 5)) 3) s367 [I 2, R 9484] = some (.osl true 1 [U 27, U 40, U 48, U 108, U 27, U 40, U 66], []) := by kernel_rfl
theorem dr12b3 (k : Nat) : evFun (clOf (modsR tab (k + 5)) 3) s266 [I 3, R 9484] = some (R 43, []) := by kernel_rfl
theorem dr12c3 (k : Nat) : evFun (clOf (modsR tab (k + 5)) 3) s367 [I 3, R 9484] = some (.osl true 1 [], []) := by kernel_rfl
theorem dr13a (k : Nat) : evFun (clOf (modsR tab (k + 5)) 3) s117 [R 9492] = some (.tup [U 109, B true], []) := by kernel_rfl
theorem dr13b1 (k : Nat) : evFun (clOf (modsR tab (k + 5)) 3) s266 [I 1, R 9492] = some (R 9492, []) := by kernel_rfl
theorem dr13c1 (k : Nat) : evFun (clOf (modsR tab (k + 5)) 3) s367 [I 1, R 9492] = some (.osl true 1 [U 27, U 40, U 48, U 109, U 27, U 40, U 66], []) := by kernel_rfl
theorem dr13b2 (k : Nat) : evFun (clOf (modsR tab (k + 5)) 3) s266 [I 2, R 9492] = some (R 9492, []) := by kernel_rfl
theorem dr13c2 (k : Nat) : evFun (clOf (modsR tab (k + 5)) 3) s367 [I 2, R 9492] = some (.osl true 1 [U 27, U 40, U 48, U 109, U 27, U 40, U 66], []) := by kernel_rfl
theorem dr13b3 (k : Nat) : evFun (clOf (modsR tab (k + 5)) 3) s266 [I 3, R 9492] = some (R 43, []) := by kernel_rfl
theorem dr13c3 (k : Nat) : evFun (clOf (modsR tab (k + 5)) 3) s367 [I 3, R 9492] = some (.osl true 1 [], []) := by kernel_rfl
theorem dr14a (k : Nat) : evFun (clOf (modsR tab (k + 5)) 3) s117 [R 9532] = some (.tup [U 110, B true], []) := by kernel_rfl
theorem dr14b1 (k : Nat) : evFun (clOf (modsR tab (k + 5)) 3) s266 [I 1, R 9532] = some (R 9532, []) := by kernel_rfl
theorem dr14c1 (k : Nat) : evFun (clOf (modsR tab (k + 5)) 3) s367 [I 1, R 9532] = some (.osl true 1 [U 27, U 40, U 48, U 110, U 27, U 40, U 66], []) := by kernel_rfl
theorem dr14b2 (k : Nat) : evFun (clOf (modsR tab (k + 5)) 3) s266 [I 2, R 9532] = some (R 9532, []) := by kernel_rfl
theorem dr14c2 (k : Nat) : evFun (clOf (modsR tab (k + 5)) 3) s367 [I 2, R 9532] = some (.osl true 1 [U 27, U 40, U 48, U 110, U 27, U 40, U 66], []) := by kernel_rfl
theorem dr14b3 (k : Nat) : evFun (clOf (modsR tab (k + 5)) 3) s266 [I 3, R 9532] = some (R 43, []) := by kernel_rfl
theorem dr14c3 (k : Nat) : evFun (clOf (modsR tab (k + 5)) 3) s367 [I 3, R 9532] = some (.osl true 1 [], []) := by kernel_rfl
theorem dr15a (k : Nat) : evFun (clOf (modsR tab (k + 5)) 3) s117 [R 9146] = some (.tup [U 111, B true], []) := by kernel_rfl
theorem dr15b1 (k : Nat) : evFun (clOf (modsR tab (k + 5)) 3) s266 [I 1, R 9146] = some (R 9146, []) := by kernel_rfl
theorem dr15c1 (k : Nat) : evFun (clOf (modsR tab (k + 5)) 3) s367 [I 1, R 9146] = some (.osl true 1 [U 27, U 40, U 48, U 111, U 27, U 40, U 66], []) := by kernel_rfl
theorem dr15b2 (k : Nat) : evFun (clOf (modsR tab (k + 5)) 3) s266 [I 2, R 9146] = some (R 9146, []) := by kernel_rfl
theorem dr15c2 (k : Nat) : evFun (clOf (modsR tab (k + 5)) 3) s367 [I 2, R 9146] = some (.osl true 1 [U 27, U 40, U 48, U 111, U 27, U 40, U 66], []) := by kernel_rfl
theorem dr15b3 (k : Nat) : evFun (clOf (modsR tab (k + 5)) 3) s266 [I 3, R 9146] = some (R 45, []) := by kernel_rfl
theorem dr15c3 (k : Nat) : evFun (clOf (modsR tab (k + 5)) 3) s367 [I 3, R 9146] = some (.osl true 1 [], []) := by kernel_rfl
theorem dr16a (k : Nat) : evFun (clOf (modsR tab (k + 5)) 3) s117 [R 9147] = some (.tup [U 112, B true], []) := by kernel_rfl
theorem dr16b1 (k : Nat) : evFun (clOf (modsR tab (k + 5)) 3) s266 [I 1, R 9147] = some (R 9147, []) := by kernel_rfl
theorem dr16c1 (k : Nat) : evFun (clOf (modsR tab (k + 5)) 3) s367 [I 1, R 9147] = some (.osl true 1 [U 27, U 40, U 48, U 112, U 27, U 40, U 66], []) := by kernel_rfl
theorem dr16b2 (k : Nat) : evFun (clOf (modsR tab (k + 5)) 3) s266 [I 2, R 9147] = some (R 9147, []) := by kernel_rfl
theorem dr16c2 (k : Nat) : evFun (clOf (modsR tab (k + 5)) 3) s367 [I 2, R 9147] = some (.osl true 1 [U 27, U 40, U 48, U 112, U 27, U 40, U 66], []) := by kernel_rfl
theorem dr16b3 (k : Nat) : evFun (clOf (modsR tab (k + 5)) 3) s266 [I 3, R 9147] = some (R 45, []) := by kernel_rfl
theorem dr16c3 (k : Nat) : evFun (clOf (modsR tab (k + 5)) 3) s367 [I 3, R 9147] = some (.osl true 1 [], []) := by kernel_rfl
theorem dr17a (k : Nat) : evFun (clOf (modsR tab (k + 5)) 3) s117 [R 9472] = some (.tup [U 113, B true], []) := by kernel_rfl
theorem dr17b1 (k : Nat) : evFun (clOf (modsR tab (k + 5)) 3) s266 [I 1, R 9472] = some (R 9472, []) := by kernel_rfl
theorem dr17c1 (k : Nat) : evFun (clOf (modsR tab (k + 5)) 3) s367 [I 1, R 9472] = some (.osl true 1 [U 27, U 40, U 48, U 113, U 27, U 40, U 66], []) := by kernel_rfl
theorem dr17b2 (k : Nat) : evFun (clOf (modsR tab (k + 5)) 3) s266 [I 2, R 9472] = some (R 9472, []) := by kernel_rfl
theorem dr17c2 (k : Nat) : evFun (clOf (modsR tab (k + 5)) 3) s367 [I 2, R 9472] = some (.osl true 1 [U 27, U 40, U 48, U 113, U 27, U 40, U 66], []) := by kernel_rfl
theorem dr17b3 (k : Nat) : evFun (clOf (modsR tab (k + 5)) 3) s266 [I 3, R 9472] = some (R 45, []) := by kernel_rfl
theorem dr17c3 (k : Nat) : evFun (clOf (modsR tab (k + 5)) 3) s367 [I 3, R 9472] = some (.osl true 1 [], []) := by kernel_rfl
theorem dr18a (k : Nat) : evFun (clOf (modsR tab (k + 5)) 3) s117 [R 9148] = some (.tup [U 114, B true], []) := by kernel_rfl
theorem dr18b1 (k : Nat) : evFun (clOf (modsR tab (k + 5)) 3) s266 [I 1, R 9148] = some (R 9148, []) := by kernel_rfl
theorem dr18c1 (k : Nat) : evFun (clOf (modsR tab (k + 5)) 3) s367 [I 1, R 9148] = some (.osl true 1 [U 27, U 40, U 48, U 114, U 27, U 40, U 66], []) := by kernel_rfl
theorem dr18b2 (k : Nat) : evFun (clOf (modsR tab (k + 5)) 3) s266 [I 2, R 9148] = some (R 9148, []) := by kernel_rfl
theorem dr18c2 (k : Nat) : evFun (clOf (modsR tab (k + 5)) 3) s367 [I 2, R 9148] = some (.osl true 1 [U 27, U 40, U 48, U 114, U 27, U 40, U 66], []) := by kernel_rfl
theorem dr18b3 (k : Nat) : evFun (clOf (modsR tab (k + 5)) 3) s266 [I 3, R 9148] = some (R 45, []) := by kernel_rfl
theorem dr18c3 (k : Nat) : evFun (clOf (modsR tab (k + 5)) 3) s367 [I 3, R 9148] = some (.osl true 1 [], []) := by kernel_rfl
theorem dr19a (k : Nat) : evFun (clOf (modsR tab (k + 5)) 3) s117 [R 9149] = some (.tup [U 115, B true], []) := by kernel_rfl
theorem dr19b1 (k : Nat) : evFun (clOf (modsR tab (k + 5)) 3) s266 [I 1, R 9149] = some (R 9149, []) := by kernel_rfl
theorem dr19c1 (k : Nat) : evFun (clOf (modsR tab (k + 5)) 3) s367 [I 1, R 9149] = some (.osl true 1 [U 27, U 40, U 48, U 115, U 27, U 40, U 66], []) := by kernel_rfl
theorem dr19b2 (k : Nat) : evFun (clOf (modsR tab (k + 5)) 3) s266 [I 2, R 9149] = some (R 9149, []) := by kernel_rfl
theorem dr19c2 (k : Nat) : evFun (clOf (modsR tab (k + 5)) 3) s367 [I 2, R 9149] = some (.osl true 1 [U 27, U 40, U 48, U 115, U 27, U 40, U 66], []) := by kernel_rfl
theorem dr19b3 (k : Nat) : evFun (clOf (modsR tab (k + 5)) 3) s266 [I 3, R 9149] = some (R 95, []) := by kernel_rfl
theorem dr19c3 (k : Nat) : evFun (clOf (modsR tab (k + 5)) 3) s367 [I 3, R 9149] = some (.osl true 1 [], []) := by kernel_rfl
theorem dr20a (k : Nat) : evFun (clOf (modsR tab (k + 5)) 3) s117 [R 9500] = some (.tup [U 116, B true], []) := by kernel_rfl
theorem dr20b1 (k : Nat) : evFun (clOf (modsR tab (k + 5)) 3) s266 [I 1, R 9500] = some (R 9500, []) := by kernel_rfl
theorem dr20c1 (k : Nat) : evFun (clOf (modsR tab (k + 5)) 3) s367 [I 1, R 9500] = some (.osl true 1 [U 27, U 40, U 48, U 116, U 27, U 40, U 66], []) := by kernel_rfl
theorem dr20b2 (k : Nat) : evFun (clOf (modsR tab (k + 5)) 3) s266 [I 2, R 9500] = some (R 9500, []) := by kernel_rfl
theorem dr20c2 (k : Nat) : evFun (clOf (modsR tab (k + 5)) 3) s367 [I 2, R 9500] = some (.osl true 1 [U 27, U 40, U 48, U 116, U 27, U 40, U 66], []) := by kernel_rfl
theorem dr20b3 (k : Nat) : evFun (clOf (modsR tab (k + 5)) 3) s266 [I 3, R 9500] = some (R 43, []) := by kernel_rfl
theorem dr20c3 (k : Nat) : evFun (clOf (modsR tab (k + 5)) 3) s367 [I 3, R 9500] = some (.osl true 1 [], []) := by kernel_rfl
theorem dr21a (k : Nat) : evFun (clOf (modsR tab (k + 5)) 3) s117 [R 9508] = some (.tup [U 117, B true], []) := by kernel_rfl
theorem dr21b1 (k : Nat) : evFun (clOf (modsR tab (k + 5)) 3) s266 [I 1, R 9508] = some (R 9508, []) := by kernel_rfl
theorem dr21c1 (k : Nat) : evFun (clOf (modsR tab (k + 5)) 3) s367 [I 1, R 9508] = some (.osl true 1 [U 27, U 40, U 48, U 117, U 27, U 40, U 66], []) := by kernel_rfl
theorem dr21b2 (k : Nat) : evFun (clOf (modsR tab (k + 5)) 3) s266 [I 2, R 9508] = some (R 9508, []) := by kernel_rfl
theorem dr21c2 (k : Nat) : evFun (clOf (modsR tab (k + 5)) 3) s367 [I 2, R 9508] = some (.osl true 1 [U 27, U 40, U 48, U 117, U 27, U 40, U 66], []) := by kernel_rfl
theorem dr21b3 (k : Nat) : evFun (clOf (modsR tab (k + 5)) 3) s266 [I 3, R 9508] = some (R 43, []) := by kernel_rfl
theorem dr21c3 (k : Nat) : evFun (clOf (modsR tab (k + 5)) 3) s367 [I 3, R 9508] = some (.osl true 1 [], []) := by kernel_rfl
theorem dr22a (k : Nat) : evFun (clOf (modsR tab (k + 5)) 3) s117 [R 9524] = some (.tup [U 118, B true], []) := by kernel_rfl
theorem dr22b1 (k : Nat) : evFun (clOf (modsR tab (k + 5)) 3) s266 [I 1, R 9524] = some (R 9524, []) := by kernel_rfl
theorem dr22c1 (k : Nat) : evFun (clOf (modsR tab (k + 5)) 3) s367 [I 1, R 9524] = some (.osl true 1 [U 27, U 40, U 48, U 118, U 27, U 40, U 66], []) := by kernel_rfl
theorem dr22b2 (k : Nat) : evFun (clOf (modsR tab (k + 5)) 3) s266 [I 2, R 9524] = some (R 9524, []) := by kernel_rfl
theorem dr22c2 (k : Nat) : evFun (clOf (modsR tab (k + 5)) 3) s367 [I 2, R 9524] = some (.osl true 1 [U 27, U 40, U 48, U 118, U 27, U 40, U 66], []) := by kernel_rfl
theorem dr22b3 (k : Nat) : evFun (clOf (modsR tab (k + 5)) 3) s266 [I 3, R 9524] = some (R 43, []) := by kernel_rfl
theorem dr22c3 (k : Nat) : evFun (clOf (modsR tab (k + 5)) 3) s367 [I 3, R 9524] = some (.osl true 1 [], []) := by kernel_rfl
theorem dr23a (k : Nat) : evFun (clOf (modsR tab (k + 5)) 3) s117 [R 9516] = some (.tup [U 119, B true], []) := by kernel_rfl
theorem dr23b1 (k : Nat) : evFun (clOf (modsR tab (k + 5)) 3) s266 [I 1, R 9516] = some (R 9516, []) := by kernel_rfl
theorem dr23c1 (k : Nat) : evFun (clOf (modsR tab (k + 5)) 3) s367 [I 1, R 9516] = some (.osl true 1 [U 27, U 40, U 48, U 119, U 27, U 40, U 66], []) := by kernel_rfl
theorem dr23b2 (k : Nat) : evFun (clOf (modsR tab (k + 5)) 3) s266 [I 2, R 9516] = some (R 9516, []) := by kernel_rfl
theorem dr23c2 (k : Nat) : evFun (clOf (modsR tab (k + 5)) 3) s367 [I 2, R 9516] = some (.osl true 1 [U 27, U 40, U 48, U 119, U 27, U 40, U 66], []) := by kernel_rfl
theorem dr23b3 (k : Nat) : evFun (clOf (modsR tab (k + 5)) 3) s266 [I 3, R 9516] = some (R 43, []) := by kernel_rfl
theorem dr23c3 (k : Nat) : evFun (clOf (modsR tab (k + 5)) 3) s367 [I 3, R 9516] = some (.osl true 1 [], []) := by kernel_rfl
theorem dr24a (k : Nat) : evFun (clOf (modsR tab (k + 5)) 3) s117 [R 9474] = some (.tup [U 120, B true], []) := by kernel_rfl
theorem dr24b1 (k : Nat) : evFun (clOf (modsR tab (k + 5)) 3) s266 [I 1, R 9474] = some (R 9474, []) := by kernel_rfl
theorem dr24c1 (k : Nat) : evFun (clOf (modsR tab (k + 5)) 3) s367 [I 1, R 9474] = some (.osl true 1 [U 27, U 40, U 48, U 120, U 27, U 40, U 66], []) := by kernel_rfl
theorem dr24b2 (k : Nat) : evFun (clOf (modsR tab (k + 5)) 3) s266 [I 2, R 9474] = some (R 9474, []) := by kernel_rfl
theorem dr24c2 (k : Nat) : evFun (clOf (modsR tab (k + 5)) 3) s367 [I 2, R 9474] = some (.osl true 1 [U 27, U 40, U 48, U 120, U 27, U 40, U 66], []) := by kernel_rfl
theorem dr24b3 (k : Nat) : evFun (clOf (modsR tab (k + 5)) 3) s266 [I 3, R 9474] = some (R 124, []) := by kernel_rfl
theorem dr24c3 (k : Nat) : evFun (clOf (modsR tab (k + 5)) 3) s367 [I 3, R 9474] = some (.osl true 1 [], []) := by kernel_rfl
theorem dr25a (k : Nat) : evFun (clOf (modsR tab (k + 5)) 3) s117 [R 8804] = some (.tup [U 121, B true], []) := by kernel_rfl
theorem dr25b1 (k : Nat) : evFun (clOf (modsR tab (k + 5)) 3) s266 [I 1, R 8804] = some (R 8804, []) := by kernel_rfl
theorem dr25c1 (k : Nat) : evFun (clOf (modsR tab (k + 5)) 3) s367 [I 1, R 8804] = some (.osl true 1 [U 27, U 40, U 48, U 121, U 27, U 40, U 66], []) := by kernel_rfl
theorem dr25b2 (k : Nat) : evFun (clOf (modsR tab (k + 5)) 3) s266 [I 2, R 8804] = some (R 8804, []) := by kernel_rfl
theorem dr25c2 (k : Nat) : evFun (clOf (modsR tab (k + 5)) 3) s367 [I 2, R 8804] = some (.osl true 1 [U 27, U 40, U 48, U 121, U 27, U 40, U 66], []) := by kernel_rfl
theorem dr25b3 (k : Nat) : evFun (clOf (modsR tab (k + 5)) 3) s266 [I 3, R 8804] = some (R 60, []) := by kernel_rfl
theorem dr25c3 (k : Nat) : evFun (clOf (modsR tab (k + 5)) 3) s367 [I 3, R 8804] = some (.osl true 1 [], []) := by kernel_rfl
theorem dr26a (k : Nat) : evFun (clOf (modsR tab (k + 5)) 3) s117 [R 8805] = some (.tup [U 122, B true], []) := by kernel_rfl
theorem dr26b1 (k : Nat) : evFun (clOf (modsR tab (k + 5)) 3) s266 [I 1, R 8805] = some (R 8805, []) := by kernel_rfl
theorem dr26c1 (k : Nat) : evFun (clOf (modsR tab (k + 5)) 3) s367 [I 1, R 8805] = some (.osl true 1 [U 27, U 40, U 48, U 122, U 27, U 40, U 66], []) := by kernel_rfl
theorem dr26b2 (k : Nat) : evFun (clOf (modsR tab (k + 5)) 3) s266 [I 2, R 8805] = some (R 8805, []) := by kernel_rfl
theorem dr26c2 (k : Nat) : evFun (clOf (modsR tab (k + 5)) 3) s367 [I 2, R 8805] = some (.osl true 1 [U 27, U 40, U 48, U 122, U 27, U 40, U 66], []) := by kernel_rfl
theorem dr26b3 (k : Nat) : evFun (clOf (modsR tab (k + 5)) 3) s266 [I 3, R 8805] = some (R 62, []) := by kernel_rfl
theorem dr26c3 (k : Nat) : evFun (clOf (modsR tab (k + 5)) 3) s367 [I 3, R 8805] = some (.osl true 1 [], []) := by kernel_rfl
theorem dr27a (k : Nat) : evFun (clOf (modsR tab (k + 5)) 3) s117 [R 960] = some (.tup [U 123, B true], []) := by kernel_rfl
theorem dr27b1 (k : Nat) : evFun (clOf (modsR tab (k + 5)) 3) s266 [I 1, R 960] = some (R 960, []) := by kernel_rfl
theorem dr27c1 (k : Nat) : evFun (clOf (modsR tab (k + 5)) 3) s367 [I 1, R 960] = some (.osl true 1 [U 27, U 40, U 48, U 123, U 27, U 40, U 66], []) := by kernel_rfl
theorem dr27b2 (k : Nat) : evFun (clOf (modsR tab (k + 5)) 3) s266 [I 2, R 960] = some (R 960, []) := by kernel_rfl
theorem dr27c2 (k : Nat) : evFun (clOf (modsR tab (k + 5)) 3) s367 [I 2, R 960] = some (.osl true 1 [U 27, U 40, U 48, U 123, U 27, U 40, U 66], []) := by kernel_rfl
theorem dr27b3 (k : Nat) : evFun (clOf (modsR tab (k + 5)) 3) s266 [I 3, R 960] = some (R 112, []) := by kernel_rfl
theorem dr27c3 (k : Nat) : evFun (clOf (modsR tab (k + 5)) 3) s367 [I 3, R 960] = some (.osl true 1 [], []) := by kernel_rfl
theorem dr28a (k : Nat) : evFun (clOf (modsR tab (k + 5)) 3) s117 [R 8800] = some (.tup [U 124, B true], []) := by kernel_rfl
theorem dr28b1 (k : Nat) : evFun (clOf (modsR tab (k + 5)) 3) s266 [I 1, R 8800] = some (R 8800, []) := by kernel_rfl
theorem dr28c1 (k : Nat) : evFun (clOf (modsR tab (k + 5)) 3) s367 [I 1, R 8800] = some (.osl true 1 [U 27, U 40, U 48, U 124, U 27, U 40, U 66], []) := by kernel_rfl
theorem dr28b2 (k : Nat) : evFun (clOf (modsR tab (k + 5)) 3) s266 [I 2, R 8800] = some (R 8800, []) := by kernel_rfl
theorem dr28c2 (k : Nat) : evFun (clOf (modsR tab (k + 5)) 3) s367 [I 2, R 8800] = some (.osl true 1 [U 27, U 40, U 48, U 124, U 27, U 40, U 66], []) := by kernel_rfl
theorem dr28b3 (k : Nat) : evFun (clOf (modsR tab (k + 5)) 3) s266 [I 3, R 8800] = some (R 33, []) := by kernel_rfl
theorem dr28c3 (k : Nat) : evFun (clOf (modsR tab (k + 5)) 3) s367 [I 3, R 8800] = some (.osl true 1 [], []) := by kernel_rfl
theorem dr29a (k : Nat) : evFun (clOf (modsR tab (k + 5)) 3) s117 [R 163] = some (.tup [U 125, B true], []) := by kernel_rfl
theorem dr29b1 (k : Nat) : evFun (clOf (modsR tab (k + 5)) 3) s266 [I 1, R 163] = some (R 163, []) := by kernel_rfl
theorem dr29c1 (k : Nat) : evFun (clOf (modsR tab (k + 5)) 3) s367 [I 1, R 163] = some (.osl true 1 [U 27, U 40, U 48, U 125, U 27, U 40, U 66], []) := by kernel_rfl
theorem dr29b2 (k : Nat) : evFun (clOf (modsR tab (k + 5)) 3) s266 [I 2, R 163] = some (R 163, []) := by kernel_rfl
theorem dr29c2 (k : Nat) : evFun (clOf (modsR tab (k + 5)) 3) s367 [I 2, R 163] = some (.osl true 1 [U 27, U 40, U 48, U 125, U 27, U 40, U 66], []) := by kernel_rfl
theorem dr29b3 (k : Nat) : evFun (clOf (modsR tab (k + 5)) 3) s266 [I 3, R 163] = some (R 76, []) := by kernel_rfl
theorem dr29c3 (k : Nat) : evFun (clOf (modsR tab (k + 5)) 3) s367 [I 3, R 163] = some (.osl true 1 [], []) := by kernel_rfl
theorem dr30a (k : Nat) : evFun (clOf (modsR tab (k + 5)) 3) s117 [R 183] = some (.tup [U 126, B true], []) := by kernel_rfl
theorem dr30b1 (k : Nat) : evFun (clOf (modsR tab (k + 5)) 3) s266 [I 1, R 183] = some (R 183, []) := by kernel_rfl
theorem dr30c1 (k : Nat) : evFun (clOf (modsR tab (k + 5)) 3) s367 [I 1, R 183] = some (.osl true 1 [U 27, U 40, U 48, U 126, U 27, U 40, U 66], []) := by kernel_rfl
theorem dr30b2 (k : Nat) : evFun (clOf (modsR tab (k + 5)) 3) s266 [I 2, R 183] = some (R 183, []) := by kernel_rfl
theorem dr30c2 (k : Nat) : evFun (clOf (modsR tab (k + 5)) 3) s367 [I 2, R 183] = some (.osl true 1 [U 27, U 40, U 48, U 126, U 27, U 40, U 66], []) := by kernel_rfl
theorem dr30b3 (k : Nat) : evFun (clOf (modsR tab (k + 5)) 3) s266 [I 3, R 183] = some (R 46, []) := by kernel_rfl
theorem dr30c3 (k : Nat) : evFun (clOf (modsR tab (k + 5)) 3) s367 [I 3, R 183] = some (.osl true 1 [], []) := by kernel_rfl
/-- What is told of a drawn rune. -/
def DrawnAt (k : Nat) (x : Int) : Prop := ∃ b c : Int, c ≠ x ∧ (0 ≤ b ∧ b ≤ 255) ∧ evFun (clOf (modsR tab (k + 5)) 3) s117 [R x] = some (.tup [U b, B true], []) ∧
    (evFun (clOf (modsR tab (k + 5)) 3) s266 [I 1, R x] = some (R x, []) ∧ evFun (clOf (modsR tab (k + 5)) 3) s367 [I 1, R x] = some (.osl true 1 [U 27, U 40, U 48, U b, U 27, U 40, U 66], [])) ∧
    (evFun (clOf (modsR tab (k + 5)) 3) s266 [I 2, R x] = some (R x, []) ∧ evFun (clOf (modsR tab (k + 5)) 3) s367 [I 2, R x] = some (.osl true 1 [U 27, U 40, U 48, U b, U 27, U 40, U 66], [])) ∧
    (evFun (clOf (modsR tab (k + 5)) 3) s266 [I 3, R x] = some (R c, []) ∧ evFun (clOf (modsR tab (k + 5)) 3) s367 [I 3, R x] = some (.osl true 1 [], []))
theorem dr0 (k : Nat) : DrawnAt k 9670 := ⟨96, 42, by decide, by decide, dr0a k, ⟨dr0b1 k, dr0c1 k⟩, ⟨dr0b2 k, dr0c2 k⟩, ⟨dr0b3 k, dr0c3 k⟩⟩
theorem dr1 (k : Nat) : DrawnAt k 9618 := ⟨97, 35, by decide, by decide, dr1a k, ⟨dr1b1 k, dr1c1 k⟩, ⟨dr1b2 k, dr1c2 k⟩, ⟨dr1b3 k, dr1c3 k⟩⟩
theorem dr2 (k : Nat) : DrawnAt k 9225 := ⟨98, 72, by decide, by decide, dr2a k, ⟨dr2b1 k, dr2c1 k⟩, ⟨dr2b2 k, dr2c2 k⟩, ⟨dr2b3 k, dr2c3 k⟩⟩
theorem dr3 (k : Nat) : DrawnAt k 9228 := ⟨99, 70, by decide, by decide, dr3a k, ⟨dr3b1 k, dr3c1 k⟩, ⟨dr3b2 k, dr3c2 k⟩, ⟨dr3b3 k, dr3c3 k⟩⟩
theorem dr4 (k : Nat) : DrawnAt k 9229 := ⟨100, 67, by decide, by decide, dr4a k, ⟨dr4b1 k, dr4c1 k⟩, ⟨dr4b2 k, dr4c2 k⟩, ⟨dr4b3 k, dr4c3 k⟩⟩
theorem dr5 (k : Nat) : DrawnAt k 9226 := ⟨101, 76, by decide, by decide, dr5a k, ⟨dr5b1 k, dr5c1 k⟩, ⟨dr5b2 k, dr5c2 k⟩, ⟨dr5b3 k, dr5c3 k⟩⟩
theorem dr6 (k : Nat) : DrawnAt k 176 := ⟨102, 111, by decide, by decide, dr6a k, ⟨dr6b1 k, dr6c1 k⟩, ⟨dr6b2 k, dr6c2 k⟩, ⟨dr6b3 k, dr6c3 k⟩⟩
theorem dr7 (k : Nat) : DrawnAt k 177 := ⟨103, 43, by decide, by decide, dr7a k, ⟨dr7b1 k, dr7c1 k⟩, ⟨dr7b2 k, dr7c2 k⟩, ⟨dr7b3 k, dr7c3 k⟩⟩
theorem dr8 (k : Nat) : DrawnAt k 9252 := ⟨104, 78, by decide, by decide, dr8a k, ⟨dr8b1 k, dr8c1 k⟩, ⟨dr8b2 k, dr8c2 k⟩, ⟨dr8b3 k, dr8c3 k⟩⟩
theorem dr9 (k : Nat) : DrawnAt k 9227 := ⟨105, 86, by decide, by decide, dr9a k, ⟨dr9b1 k, dr9c1 k⟩, ⟨dr9b2 k, dr9c2 k⟩, ⟨dr9b3 k, dr9c3 k⟩⟩
theorem dr10 (k : Nat) : DrawnAt k 9496 := ⟨106, 43, by decide, by decide, dr10a k, ⟨dr10b1 k, dr10c1 k⟩, ⟨dr10b2 k, dr10c2 k⟩, ⟨dr10b3 k, dr10c3 k⟩⟩
theorem dr11 (k : Nat) : DrawnAt k 9488 := ⟨107, 43, by decide, by decide, dr11a k, ⟨dr11b1 k, dr11c1 k⟩, ⟨dr11b2 k, dr11c2 k⟩, ⟨dr11b3 k, dr11c3 k⟩⟩
theorem dr12 (k : Nat) : DrawnAt k 9484 := ⟨108, 43, by decide, by decide, dr12a k, ⟨dr12b1 k, dr12c1 k⟩, ⟨dr12b2 k, dr12c2 k⟩, ⟨dr12b3 k, dr12c3 k⟩⟩
theorem dr13 (k : Nat) : DrawnAt k 9492 := ⟨109, 43, by decide, by decide, dr13a k, ⟨dr13b1 k, dr13c1 k⟩, ⟨dr13b2 k, dr13c2 k⟩, ⟨dr13b3 k, dr13c3 k⟩⟩
theorem dr14 (k : Nat) : DrawnAt k 9532 := ⟨110, 43, by decide, by decide, dr14a k, ⟨dr14b1 k, dr14c1 k⟩, ⟨dr14b2 k, dr14c2 k⟩, ⟨dr14b3 k, dr14c3 k⟩⟩
theorem dr15 (k : Nat) : DrawnAt k 9146 := ⟨111, 45, by decide, by decide, dr15a k, ⟨dr15b1 k, dr15c1 k⟩, ⟨dr15b2 k, dr15c2 k⟩, ⟨dr15b3 k, dr15c3 k⟩⟩
theorem dr16 (k : Nat) : DrawnAt k 9147 := ⟨112, 45, by decide, by decide, dr16a k, ⟨dr16b1 k, dr16c1 k⟩, ⟨dr16b2 k, dr16c2 k⟩, ⟨dr16b3 k, dr16c3 k⟩⟩
theorem dr17 (k : Nat) : DrawnAt k 9472 := ⟨113, 45, by decide, by decide, dr17a k, ⟨dr17b1 k, dr17c1 k⟩, ⟨dr17b2 k, dr17c2 k⟩, ⟨dr17b3 k, dr17c3 k⟩⟩
theorem dr18 (k : Nat) : DrawnAt k 9148 := ⟨114, 45, by decide, by decide, dr18a k, ⟨dr18b1 k, dr18c1 k⟩, ⟨dr18b2 k, dr18c2 k⟩, ⟨dr18b3 k, dr18c3 k⟩⟩
theorem dr19 (k : Nat) : DrawnAt k 9149 := ⟨115, 95, by decide, by decide, dr19a k, ⟨dr19b1 k, dr19c1 k⟩, ⟨dr19b2 k, dr19c2 k⟩, ⟨dr19b3 k, dr19c3 k⟩⟩
theorem dr20 (k : Nat) : DrawnAt k 9500 := ⟨116, 43, by decide, by decide, dr20a k, ⟨dr20b1 k, dr20c1 k⟩, ⟨dr20b2 k, dr20c2 k⟩, ⟨dr20b3 k, dr20c3 k⟩⟩
theorem dr21 (k : Nat) : DrawnAt k 9508 := ⟨117, 43, by decide, by decide, dr21a k, ⟨dr21b1 k, dr21c1 k⟩, ⟨dr21b2 k, dr21c2 k⟩, ⟨dr21b3 k, dr21c3 k⟩⟩
theorem dr22 (k : Nat) : DrawnAt k 9524 := ⟨118, 43, by decide, by decide, dr22a k, ⟨dr22b1 k, dr22c1 k⟩, ⟨dr22b2 k, dr22c2 k⟩, ⟨dr22b3 k, dr22c3 k⟩⟩
theorem dr23 (k : Nat) : DrawnAt k 9516 := ⟨119, 43, by decide, by decide, dr23a k, ⟨dr23b1 k, dr23c1 k⟩, ⟨dr23b2 k, dr23c2 k⟩, ⟨dr23b3 k, dr23c3 k⟩⟩
theorem dr24 (k : Nat) : DrawnAt k 9474 := ⟨120, 124, by decide, by decide, dr24a k, ⟨dr24b1 k, dr24c1 k⟩, ⟨dr24b2 k, dr24c2 k⟩, ⟨dr24b3 k, dr24c3 k⟩⟩
theorem dr25 (k : Nat) : DrawnAt k 8804 := ⟨121, 60, by decide, by decide, dr25a k, ⟨dr25b1 k, dr25c1 k⟩, ⟨dr25b2 k, dr25c2 k⟩, ⟨dr25b3 k, dr25c3 k⟩⟩
theorem dr26 (k : Nat) : DrawnAt k 8805 := ⟨122, 62, by decide, by decide, dr26a k, ⟨dr26b1 k, dr26c1 k⟩, ⟨dr26b2 k, dr26c2 k⟩, ⟨dr26b3 k, dr26c3 k⟩⟩
theorem dr27 (k : Nat) : DrawnAt k 960 := ⟨123, 112, by decide, by decide, dr27a k, ⟨dr27b1 k, dr27c1 k⟩, ⟨dr27b2 k, dr27c2 k⟩, ⟨dr27b3 k, dr27c3 k⟩⟩
theorem dr28 (k : Nat) : DrawnAt k 8800 := ⟨124, 33, by decide, by decide, dr28a k, ⟨dr28b1 k, dr28c1 k⟩, ⟨dr28b2 k, dr28c2 k⟩, ⟨dr28b3 k, dr28c3 k⟩⟩
theorem dr29 (k : Nat) : DrawnAt k 163 := ⟨125, 76, by decide, by decide, dr29a k, ⟨dr29b1 k, dr29c1 k⟩, ⟨dr29b2 k, dr29c2 k⟩, ⟨dr29b3 k, dr29c3 k⟩⟩
theorem dr30 (k : Nat) : DrawnAt k 183 := ⟨126, 46, by decide, by decide, dr30a k, ⟨dr30b1 k, dr30c1 k⟩, ⟨dr30b2 k, dr30c2 k⟩, ⟨dr30b3 k, dr30c3 k⟩⟩
theorem drawn_facts (k : Nat) (x : Int) (hx : x ∈ drawnL) : DrawnAt k x := by
  simp only [drawnL, List.mem_cons, List.not_mem_nil, or_false] at hx
  rcases hx with rfl | rfl | rfl | rfl | rfl | rfl | rfl | rfl | rfl | rfl | rfl | rfl | rfl | rfl | rfl | rfl | rfl | rfl | rfl | rfl | rfl | rfl | rfl | rfl | rfl | rfl | rfl | rfl | rfl | rfl | rfl
  · exact dr0 k
  · exact dr1 k
  · exact dr2 k
  · exact dr3 k
  · exact dr4 k
  · exact dr5 k
  · exact dr6 k
  · exact dr7 k
  · exact dr8 k
  · exact dr9 k
  · exact dr10 k
  · exact dr11 k
  · exact dr12 k
  · exact dr13 k
  · exact dr14 k
  · exact dr15 k
  · exact dr16 k
  · exact dr17 k
  · exact dr18 k
  · exact dr19 k
  · exact dr20 k
  · exact dr21 k
  · exact dr22 k
  · exact dr23 k
  · exact dr24 k
  · exact dr25 k
  · exact dr26 k
  · exact dr27 k
  · exact dr28 k
  · exact dr29 k
  · exact dr30 k
end Go.Proofs.YtjbdijfibllddaaDoor.LgTab
