import Derived.Test.YtadipapkdjcnbaaGreatLgQj
/-
  Pens: parameters done.
-/
namespace Go.Proofs.YtadipapkdjcnbaaGreat.LgTab
open Go Lg
set_option linter.unusedVariables false
set_option linter.unusedSimpArgs false
set_option maxRecDepth 8000
def within (n lo hi : Int) : Bool := decide (lo ≤ n) && decide (n ≤ hi)
theorem sp348 (k : Nat) (n lo hi : Int) : evFun (clOf (modsR tab k) 3) s348 [I n, I lo, I hi] = some (B (within n lo hi), []) := by
  rw [evFun_evB rfl]
  unfold s348 within
  by_cases h : lo ≤ n <;>
  simp -implicitDefEqProofs [h]
theorem sp345 (k : Nat) : evFun (clOf (modsR tab k) 3) s345 [] = some (.osl true 1 [I 1, I 2, I 3, I 4, I 5, I 7, I 8, I 9], []) := by
  rw [evFun_evB rfl]
  unfold s345
  simp -implicitDefEqProofs []

def flagM (n : Int) : Int := if n = 1 then 1 else if n = 2 then 2 else if n = 3 then 4 else if n = 4 then 8 else if n = 5 then 16 else if n = 7 then 32 else if n = 8 then 64 else if n = 9 then 128 else 0
theorem sp344_no (k : Nat) (n : Int) (h1 : n ≠ 1) (h2 : n ≠ 2) (h3 : n ≠ 3) (h4 : n ≠ 4) (h5 : n ≠ 5) (h7 : n ≠ 7) (h8 : n ≠ 8) (h9 : n ≠ 9) : evFun (clOf (modsR tab (k + 1)) 3) s344 [I n] = some (I 0, []) := by
  rw [evFun_evB rfl]
  unfold s344
  simp -implicitDefEqProofs [cw345, sp345]
  refine evB_for (fun i => [I n, I 0, .sl 1 [I 1, I 2, I 3, I 4, I 5, I 7, I 8, I 9], I 8, I i]) 8 (.exit 0) [I n, I 0, .sl 1 [I 1, I 2, I 3, I 4, I 5, I 7, I 8, I 9], I 8, I 8] (by simp -implicitDefEqProofs []) (fun i hi => ?_) ?_ (by simp) (by decide) ?_
  · have hc : i = 0 ∨ i = 1 ∨ i = 2 ∨ i = 3 ∨ i = 4 ∨ i = 5 ∨ i = 6 ∨ i = 7 := by omega
    rcases hc with rfl | rfl | rfl | rfl | rfl | rfl | rfl | rfl <;> simp -implicitDefEqProofs [wr_id, h1.symm, h2.symm, h3.symm, h4.symm, h5.symm, h7.symm, h8.symm, h9.symm]
  · simp -implicitDefEqProofs []
  · simp -implicitDefEqProofs []
theorem sp344 (k : Nat) (n : Int) : evFun (clOf (modsR tab (k + 1)) 3) s344 [I n] = some (I (flagM n), []) := by
  by_cases h1 : n = 1
  · subst h1; kernel_rfl
  by_cases h2 : n = 2
  · subst h2; kernel_rfl
  by_cases h3 : n = 3
  · subst h3; kernel_rfl
  by_cases h4 : n = 4
  · subst h4; kernel_rfl
  by_cases h5 : n = 5
  · subst h5; kernel_rfl
  by_cases h7 : n = 7
  · subst h7; kernel_rfl
  by_cases h8 : n = 8
  · subst h8; kernel_rfl
  by_cases h9 : n = 9
  · subst h9; kernel_rfl
  rw [sp344_no k n h1 h2 h3 h4 h5 h7 h8 h9]
  simp [flagM, h1, h2, h3, h4, h5, h7, h8, h9]

noncomputable def rgb (x y z : Int) : Int := orI (orI (orI 16777216 (shlI x 16)) (shlI y 8)) z
noncomputable def extM (l : List Int) (old : Int) : Int × Int := match l with
  | a :: b :: t => if a = 5 then (if within b 0 255 then b else old, 2) else match t with
    | c :: d :: _ => if a = 2 then (if within b 0 255 && within c 0 255 && within d 0 255 then rgb b c d else old, 4) else (old, l.length)
    | _ => (old, l.length)
  | _ => (old, l.length)
theorem sp343_1 (k : Nat) (b old : Int) (t : List Int) : evFun (clOf (modsR tab (k + 1)) 3) s343 [.sl 1 (I 5 :: I b :: t.map I), I old] = some (.tup [I (if within b 0 255 then b else old), I 2], []) := by
  rw [evFun_evB rfl]
  unfold s343
  have e : (2 : Int) ≤ (t.length : Int) + 1 + 1 := by omega
  cases hb : within b 0 255 <;>
  simp -implicitDefEqProofs [cw348, sp348, e, hb]
theorem sp343_2 (k : Nat) (b c d old : Int) (t : List Int) : evFun (clOf (modsR tab (k + 1)) 3) s343 [.sl 1 (I 2 :: I b :: I c :: I d :: t.map I), I old] = some (.tup [I (if within b 0 255 && within c 0 255 && within d 0 255 then rgb b c d else old), I 4], []) := by
  rw [evFun_evB rfl]
  unfold s343 rgb
  have e : (2 : Int) ≤ (t.length : Int) + 1 + 1 + 1 + 1 := by omega
  have e4 : (4 : Int) ≤ (t.length : Int) + 1 + 1 + 1 + 1 := by omega
  cases hb : within b 0 255 <;> cases hc : within c 0 255 <;> cases hd : within d 0 255 <;>
  simp -implicitDefEqProofs [cw348, sp348, e, e4, hb, hc, hd]
theorem sp343_n (k : Nat) (a b c d old : Int) (t : List Int) (h5 : a ≠ 5) (h2 : a ≠ 2) : evFun (clOf (modsR tab (k + 1)) 3) s343 [.sl 1 (I a :: I b :: I c :: I d :: t.map I), I old] = some (.tup [I old, I ((t.length : Int) + 1 + 1 + 1 + 1)], []) := by
  rw [evFun_evB rfl]
  unfold s343
  have e : (2 : Int) ≤ (t.length : Int) + 1 + 1 + 1 + 1 := by omega
  have e4 : (4 : Int) ≤ (t.length : Int) + 1 + 1 + 1 + 1 := by omega
  simp -implicitDefEqProofs [cw348, sp348, e, e4, h5, h2]
theorem sp343 (k : Nat) (l : List Int) (old : Int) : evFun (clOf (modsR tab (k + 1)) 3) s343 [.sl 1 (l.map I), I old] = some (.tup [I (extM l old).1, I (extM l old).2], []) := by
  match l with
  | [] =>
    rw [evFun_evB rfl]
    unfold s343
    simp -implicitDefEqProofs [extM]
  | [a] =>
    rw [evFun_evB rfl]
    unfold s343
    simp -implicitDefEqProofs [extM]
  | a :: b :: t =>
    by_cases h5 : a = 5
    · subst h5
      simp only [List.map_cons, sp343_1, extM, if_true]
    match t with
    | [] =>
      rw [evFun_evB rfl]
      unfold s343
      simp -implicitDefEqProofs [cw348, sp348, h5, extM]
    | [c] =>
      rw [evFun_evB rfl]
      unfold s343
      simp -implicitDefEqProofs [cw348, sp348, h5, extM]
    | c :: d :: t =>
      by_cases h2 : a = 2
      · subst h2
        simp only [List.map_cons, sp343_2, extM, if_true, if_neg h5]
      · simp only [List.map_cons, sp343_n k a b c d old t h5 h2, extM, if_neg h5, if_neg h2, List.length_cons]
        rfl

noncomputable def oneM (p : Pn) (n : Int) : Pn :=
  if n = 0 then plainP
  else if n = 22 then { p with g := andnI p.g 3 }
  else if within n 23 29 then { p with g := andnI p.g (flagM (n - 20)) }
  else if within n 30 37 then { p with f := n - 30 }
  else if within n 40 47 then { p with b := n - 40 }
  else if within n 90 97 then { p with f := n - 82 }
  else if within n 100 107 then { p with b := n - 92 }
  else if n = 39 then { p with f := -1 }
  else if n = 49 then { p with b := -1 }
  else { p with g := orI p.g (flagM n) }
theorem of_within {n lo hi : Int} (h : within n lo hi = true) : lo ≤ n ∧ n ≤ hi := by
  unfold within at h
  simpa using h
theorem sp346 (k : Nat) (p : Pn) (n : Int) : evFun (clOf (modsR tab (k + 2)) 3) s346 [pnD p, I n] = some (pnD (oneM p n), []) := by
  obtain ⟨f, b, g⟩ := p
  rw [evFun_evB rfl]
  unfold s346 oneM
  by_cases h0 : n = 0
  · simp -implicitDefEqProofs [cw107, sp107, h0, plainP]
  by_cases h22 : n = 22
  · simp -implicitDefEqProofs [h22]
  cases h1 : within n 23 29 with
  | true =>
    obtain ⟨b0, b1⟩ := of_within h1
    have e : wr (n - 20) = n - 20 := wr_id _ (by omega) (by omega)
    simp -implicitDefEqProofs [cw348, sp348, cr344, sp344, h0, h22, h1, e]
  | false =>
  cases h2 : within n 30 37 with
  | true =>
    obtain ⟨b0, b1⟩ := of_within h2
    have e : wr (n - 30) = n - 30 := wr_id _ (by omega) (by omega)
    simp -implicitDefEqProofs [cw348, sp348, h0, h22, h1, h2, e]
  | false =>
  cases h3 : within n 40 47 with
  | true =>
    obtain ⟨b0, b1⟩ := of_within h3
    have e : wr (n - 40) = n - 40 := wr_id _ (by omega) (by omega)
    simp -implicitDefEqProofs [cw348, sp348, h0, h22, h1, h2, h3, e]
  | false =>
  cases h4 : within n 90 97 with
  | true =>
    obtain ⟨b0, b1⟩ := of_within h4
    have e : wr (n - 90) = n - 90 := wr_id _ (by omega) (by omega)
    have e2 : wr (n - 90 + 8) = n - 82 := by rw [wr_id _ (by omega) (by omega)]; omega
    simp -implicitDefEqProofs [cw348, sp348, h0, h22, h1, h2, h3, h4, e, e2]
  | false =>
  cases h5 : within n 100 107 with
  | true =>
    obtain ⟨b0, b1⟩ := of_within h5
    have e : wr (n - 100) = n - 100 := wr_id _ (by omega) (by omega)
    have e2 : wr (n - 100 + 8) = n - 92 := by rw [wr_id _ (by omega) (by omega)]; omega
    simp -implicitDefEqProofs [cw348, sp348, h0, h22, h1, h2, h3, h4, h5, e, e2]
  | false =>
  by_cases h6 : n = 39
  · simp -implicitDefEqProofs [cw348, sp348, h6, within]
  by_cases h7 : n = 49
  · simp -implicitDefEqProofs [cw348, sp348, h7, within]
  simp -implicitDefEqProofs [cw348, sp348, cr344, sp344, h0, h22, h1, h2, h3, h4, h5, h6, h7]

def normI (n : Int) : Int := if n = -1 then 0 else n
theorem extM_le (l : List Int) (old : Int) : 0 ≤ (extM l old).2 ∧ (extM l old).2 ≤ l.length := by
  match l with
  | [] => simp [extM]
  | [a] => simp [extM]
  | a :: b :: t =>
    by_cases h5 : a = 5
    · simp [extM, h5]; omega
    match t with
    | [] => simp [extM, h5]
    | [c] => simp [extM, h5]
    | c :: d :: t =>
      by_cases h2 : a = 2 <;> simp [extM, h5, h2] <;> omega
noncomputable def stepL (n : Int) (t : List Int) (p : Pn) : Pn × Nat :=
  if n = 38 then ({ p with f := (extM t p.f).1 }, (extM t p.f).2.toNat)
  else if n = 48 then ({ p with b := (extM t p.b).1 }, (extM t p.b).2.toNat)
  else (oneM p n, 0)
noncomputable def applyL : List Int → Pn → Pn
  | [], p => p
  | n :: t, p => applyL (t.drop (stepL n t p).2) (stepL n t p).1
termination_by l => l.length
decreasing_by simp; omega
noncomputable def applyM (p : Pn) (l : List Int) : Pn := if l = [] then plainP else applyL (l.map normI) p
theorem sp340_0 (k : Nat) (p : Pn) : evFun (clOf (modsR tab (k + 3)) 3) s340 [pnD p, .sl 1 []] = some (pnD plainP, []) := by
  rw [evFun_evB rfl]
  unfold s340
  simp -implicitDefEqProofs [cw107, sp107, plainP]
def normA (l : List Int) (i : Nat) : List D := (l.take i).map (fun n => I (normI n)) ++ List.replicate (l.length - i) (I 0)
theorem normA_len {l : List Int} {i : Nat} (h : i ≤ l.length) : (normA l i).length = l.length := by
  simp [normA]; omega
theorem normA_get {l : List Int} {i : Nat} (h : i < l.length) : (normA l i)[i]? = some (I 0) := by
  unfold normA
  rw [List.getElem?_append_right (by simp; omega)]
  simp [List.getElem?_replicate]
  omega
theorem normA_set {l : List Int} {i : Nat} {x : Int} (hx : l[i]? = some x) : (normA l i).set i (I (normI x)) = normA l (i + 1) := by
  have h : i < l.length := by
    rcases Nat.lt_or_ge i l.length with h | h
    · exact h
    · rw [List.getElem?_eq_none h] at hx; cases hx
  have e : l.length - i = (l.length - (i + 1)) + 1 := by omega
  unfold normA
  rw [List.set_append_right (h := by simp; omega), e, List.replicate_succ, List.take_add_one, hx]
  simp [Nat.min_eq_left (Nat.le_of_lt h)]
theorem sp340_1 (k : Nat) (p : Pn) (l : List Int) (hl : l.length * 8 ≤ 140737488355328) (h0 : l ≠ []) : evFun (clOf (modsR tab (k + 3)) 3) s340 [pnD p, .sl 1 (l.map I)] = some (pnD (applyL (l.map normI) p), []) := by
  obtain ⟨f, b, g⟩ := p
  rw [evFun_evB rfl]
  unfold s340
  have e0 : ¬ ((l.length : Int) = 0) := by
    cases l with
    | nil => exact absurd rfl h0
    | cons a t => simp; omega
  simp -implicitDefEqProofs [e0, h0, hl]
  refine evB_for (fun i => [.sl 1 (l.map I), I l.length, I i, .obx [I f, I b, I g], .obx [I 0, I 0, I 0], .osl true 1 (normA l i)]) l.length (.exit 0) [.sl 1 (l.map I), I l.length, I l.length, .obx [I f, I b, I g], .obx [I 0, I 0, I 0], .osl true 1 (normA l l.length)] ?_ (fun i hi => ?_) ?_ (by simp) (by unfold rounds; omega) ?_
  · simp -implicitDefEqProofs [normA]
  · have hx : l[i]? = some l[i] := List.getElem?_eq_getElem hi
    have e1 := normA_len (Nat.le_of_lt hi)
    have e2 := normA_get hi
    have e3 : wr ((i : Int) + 1) = (i : Int) + 1 := wr_id _ (by omega) (by omega)
    rw [← normA_set hx]
    by_cases hm : l[i] = -1
    · simp -implicitDefEqProofs [hi, hx, e1, e2, e3, hm, normI]
    · simp -implicitDefEqProofs [hi, hx, e1, e2, e3, hm, normI]
  · have e1 := normA_len (Nat.le_refl l.length)
    simp -implicitDefEqProofs [e1]
  simp -implicitDefEqProofs []
  refine evB_run (σ := List Int × Pn) (fun s => [.sl 1 (s.1.map I), .obx [I s.2.f, I s.2.b, I s.2.g], .obx [I 0, I 0, I 0]]) (fun s => s.1.length)
    (fun s => (.exit 2, [.sl 1 [], .obx [I (applyL s.1 s.2).f, I (applyL s.1 s.2).b, I (applyL s.1 s.2).g], .obx [I 0, I 0, I 0]])) (fun s => s.1.length ≤ l.length) (l.map normI, ⟨f, b, g⟩) ?_ (by simp) (by simp [rounds]; omega) ?_ ?_
  · simp -implicitDefEqProofs [normA, Function.comp_def, List.take_of_length_le]
  · rintro ⟨t, p⟩ ht
    cases t with
    | nil => right; simp -implicitDefEqProofs [applyL]
    | cons n t =>
      left
      obtain ⟨f, b, g⟩ := p
      have ht' : t.length < l.length := by simp at ht; omega
      have e5 : List.take t.length (List.map I t) = List.map I t := List.take_of_length_le (by simp)
      have e6 : ∀ d, List.take (t.length - d) (List.drop d (List.map I t)) = List.drop d (List.map I t) := fun d => List.take_of_length_le (by simp)
      have c0 : (0 : Int) < (t.length : Int) + 1 := by omega
      refine ⟨(t.drop (stepL n t ⟨f, b, g⟩).2, (stepL n t ⟨f, b, g⟩).1), ?_, by simp; omega, by simp [applyL], by simp; omega⟩
      by_cases h38 : n = 38
      · obtain ⟨a1, a2⟩ := extM_le t f
        have a3 : (extM t f).2.toNat ≤ t.length := by omega
        simp -implicitDefEqProofs [stepL, cw343, sp343, h38, c0, a1, a3, e5, e6]
      by_cases h48 : n = 48
      · obtain ⟨a1, a2⟩ := extM_le t b
        have a3 : (extM t b).2.toNat ≤ t.length := by omega
        simp -implicitDefEqProofs [stepL, cw343, sp343, h48, c0, a1, a3, e5, e6]
      have e := sp346 k ⟨f, b, g⟩ n
      simp only [pnD] at e
      simp -implicitDefEqProofs [stepL, cw346, e, h38, h48, c0, e5, e6]
  · simp -implicitDefEqProofs []

theorem sp340 (k : Nat) (p : Pn) (l : List Int) (hl : l.length ≤ 100000) : evFun (clOf (modsR tab (k + 3)) 3) s340 [pnD p, .sl 1 (intsD l)] = some (pnD (applyM p l), []) := by
  unfold applyM
  split
  · rename_i h
    subst h
    exact sp340_0 k p
  · rename_i h
    exact sp340_1 k p l (by omega) h
end Go.Proofs.YtadipapkdjcnbaaGreat.LgTab
