import Derived.Test.YtadipapkdjcnbaaGreatLgXa
/-
  TargetOld: its law.
-/
namespace Go.Proofs.YtadipapkdjcnbaaGreat.LgTab
open Go Lg
set_option linter.unusedVariables false
set_option linter.unusedSimpArgs false
set_option maxRecDepth 8000
theorem old_at {r c : Int} (y x : Int) : atS (oldS r c) y x = oldS (nearI y 5) (nearI x 9) := rfl
theorem near5 {y : Int} (h : 0 ≤ y ∧ y ≤ 4) : nearI y 5 = y := nearI_id (by omega) (by omega)
theorem near9 {y : Int} (h : 0 ≤ y ∧ y ≤ 8) : nearI y 9 = y := nearI_id (by omega) (by omega)
theorem near5m {y : Int} (h : 0 ≤ y) : nearI y 5 = mnI y 4 := by
  unfold nearI mxI mnI
  repeat' split
  all_goals omega
theorem near9m {y : Int} (h : 0 ≤ y) : nearI y 9 = mnI y 8 := by
  unfold nearI mxI mnI
  repeat' split
  all_goals omega
theorem from_none (i : Nat) : from1I [] i = 1 := by
  unfold from1I argI
  simp
  rfl
theorem old_A {r c : Int} (hr : 0 ≤ r ∧ r ≤ 4) (hc : 0 ≤ c ∧ c ≤ 8) : doS (oldS r c) (csiN 65) = oldS (mxI (r - 1) 0) c := by
  rw [do_move _ 65 _ rfl]
  have e : moveS (oldS r c) ⟨4, 0, 0, 0, 65, none, []⟩ = upS (oldS r c) (from1I [] 0) := rfl
  rw [e, from_none]
  have e2 : upS (oldS r c) 1 = atS (oldS r c) (if (0 : Int) ≤ r then mxI (r - 1) 0 else r - 1) c := rfl
  rw [e2, if_pos hr.1, old_at, near9 hc, near5]
  unfold mxI
  split <;> omega
theorem old_B {r c : Int} (hr : 0 ≤ r ∧ r ≤ 4) (hc : 0 ≤ c ∧ c ≤ 8) : doS (oldS r c) (csiN 66) = oldS (mnI (r + 1) 4) c := by
  rw [do_move _ 66 _ rfl]
  have e : moveS (oldS r c) ⟨4, 0, 0, 0, 66, none, []⟩ = downS (oldS r c) (from1I [] 0) := rfl
  rw [e, from_none]
  have e2 : downS (oldS r c) 1 = atS (oldS r c) (if r ≤ (5 : Int) - 1 then mnI (r + 1) ((5 : Int) - 1) else r + 1) c := rfl
  rw [e2, if_pos (by omega), old_at, near9 hc]
  have e3 : (5 : Int) - 1 = 4 := rfl
  rw [e3, near5]
  unfold mnI
  split <;> omega
theorem old_C {r c : Int} (hr : 0 ≤ r ∧ r ≤ 4) (hc : 0 ≤ c ∧ c ≤ 8) : doS (oldS r c) (csiN 67) = oldS r (mnI (c + 1) 8) := by
  rw [do_move _ 67 _ rfl]
  have e : moveS (oldS r c) ⟨4, 0, 0, 0, 67, none, []⟩ = atS (oldS r c) r (c + from1I [] 0) := rfl
  rw [e, from_none, old_at, near5 hr, near9m (by omega)]
theorem old_D {r c : Int} (hr : 0 ≤ r ∧ r ≤ 4) (hc : 0 ≤ c ∧ c ≤ 8) : doS (oldS r c) (csiN 68) = oldS r (mxI (c - 1) 0) := by
  rw [do_move _ 68 _ rfl]
  have e : moveS (oldS r c) ⟨4, 0, 0, 0, 68, none, []⟩ = atS (oldS r c) r (c - from1I [] 0) := rfl
  rw [e, from_none, old_at, near5 hr]
  have e2 : nearI (c - 1) 9 = mxI (c - 1) 0 := by
    unfold nearI mxI mnI
    repeat' split
    all_goals omega
  rw [e2]
theorem old_H (r c : Int) : doS (oldS r c) (csiN 72) = oldS 0 0 := by
  rw [do_move _ 72 _ rfl]
  have e : moveS (oldS r c) ⟨4, 0, 0, 0, 72, none, []⟩ = atS (oldS r c) (from1I [] 0 - 1) (from1I [] 1 - 1) := rfl
  rw [e, from_none, from_none]
  rfl
def tbl3 : List D := [.agg [I 3, I 1, U 0, U 0, U 32], .agg [I 3, I 2, U 0, U 0, U 7], .agg [I 3, I 2, U 0, U 0, U 8], .agg [I 3, I 2, U 0, U 0, U 9], .agg [I 3, I 2, U 0, U 0, U 10], .agg [I 3, I 2, U 0, U 0, U 13], .agg [I 3, I 3, U 0, U 0, U 65], .agg [I 3, I 3, U 0, U 0, U 66], .agg [I 3, I 3, U 0, U 0, U 67], .agg [I 3, I 3, U 0, U 0, U 68], .agg [I 3, I 3, U 0, U 0, U 72], .agg [I 3, I 3, U 0, U 0, U 73], .agg [I 3, I 3, U 0, U 0, U 74], .agg [I 3, I 3, U 0, U 0, U 75], .agg [I 3, I 3, U 0, U 0, U 89]]
def tbl3v : List D := [B true, B true, B true, B true, B true, B true, B true, B true, B true, B true, B true, B true, B true, B true, B true]
theorem sp135_3 (k : Nat) : evFun (clOf (modsR tab (k + 1)) 3) s135 [I 3] = some (.omp tbl3 tbl3v, []) := by kernel_rfl
theorem sp133e (k : Nat) (b : Int) : evFun (clOf (modsR tab k) 3) s133 [I 3, evD (escE b)] = some (.agg [I 3, I 3, U 0, U 0, U b], []) := by
  simp only [evD, evL, parD]
  rw [evFun_evB rfl]
  unfold s133
  simp -implicitDefEqProofs []
theorem sp133r (k : Nat) (x : Int) (h : 32 ≤ x ∧ x ≤ 126) : evFun (clOf (modsR tab k) 3) s133 [I 3, evD (runeE x)] = some (.agg [I 3, I 1, U 0, U 0, U 32], []) := by
  simp only [evD, evL, parD]
  rw [evFun_evB rfl]
  unfold s133
  simp -implicitDefEqProofs [h.1, h.2]
theorem known_r (x : Int) (h : 32 ≤ x ∧ x ≤ 126) : knownE (runeE x) := by
  intro k
  have w1 := fun q => sp135_3 q
  have w2 := fun q => sp133r q x h
  simp only [evD, evL, parD] at w2 ⊢
  rw [evFun_evB rfl]
  unfold s132
  simp -implicitDefEqProofs [cw135, cr135, w1, cw133, cr133, w2, tbl3, tbl3v]
theorem known_e (b : Int) (h : b = 65 ∨ b = 66 ∨ b = 67 ∨ b = 68 ∨ b = 72) : knownE (escE b) := by
  intro k
  have w1 := fun q => sp135_3 q
  have w2 := fun q => sp133e q b
  simp only [evD, evL, parD] at w2 ⊢
  rw [evFun_evB rfl]
  unfold s132
  rcases h with rfl | rfl | rfl | rfl | rfl <;> simp -implicitDefEqProofs [cw135, cr135, w1, cw133, cr133, w2, tbl3, tbl3v]
theorem known_A : knownE (escE 65) := known_e _ (by simp)
theorem known_B : knownE (escE 66) := known_e _ (by simp)
theorem known_C : knownE (escE 67) := known_e _ (by simp)
theorem known_D : knownE (escE 68) := known_e _ (by simp)
theorem known_H : knownE (escE 72) := known_e _ (by simp)
theorem known_1 : knownE (runeE 49) := known_r _ (by omega)
theorem known_2 : knownE (runeE 50) := known_r _ (by omega)
theorem known_3 : knownE (runeE 51) := known_r _ (by omega)
theorem known_4 : knownE (runeE 52) := known_r _ (by omega)
theorem known_5 : knownE (runeE 53) := known_r _ (by omega)
theorem known_6 : knownE (runeE 54) := known_r _ (by omega)
theorem known_7 : knownE (runeE 55) := known_r _ (by omega)
theorem known_8 : knownE (runeE 56) := known_r _ (by omega)
theorem known_9 : knownE (runeE 57) := known_r _ (by omega)
theorem known_x : knownE (runeE 120) := known_r _ (by omega)
theorem known_y : knownE (runeE 121) := known_r _ (by omega)
theorem known_z : knownE (runeE 122) := known_r _ (by omega)
end Go.Proofs.YtadipapkdjcnbaaGreat.LgTab
