import Derived.Test.YtadipapkdjcnbaaGreatLgTab
import Derived.Test.YtadipapkdjcnbaaGreatLgT0
/-
  Cells: widths, colours, pens, blanks.
-/
namespace Go.Proofs.YtadipapkdjcnbaaGreat.LgTab
open Go Lg
set_option linter.unusedVariables false
set_option linter.unusedSimpArgs false
set_option maxRecDepth 8000
theorem sp110 (k : Nat) (r a b : Int) : evFun (clOf (modsR tab k) 3) s110 [R r, R a, R b] = some (B (decide (a ≤ r) && decide (r ≤ b)), []) := by
  rw [evFun_evB rfl]
  unfold s110
  by_cases h : a ≤ r <;> simp -implicitDefEqProofs [h]
def narrowR (r : Int) : Bool := decide (r < 32) || (decide (127 ≤ r) && decide (r ≤ 159)) || (decide (768 ≤ r) && decide (r ≤ 879)) || (decide (55296 ≤ r) && decide (r ≤ 57343)) || decide (1114111 < r)
theorem sp112 (k : Nat) (r : Int) : evFun (clOf (modsR tab (k + 1)) 3) s112 [R r] = some (B (narrowR r), []) := by
  have w := fun a b => sp110 k r a b
  have e : narrowR r = (decide (r < 32) || (decide (127 ≤ r) && decide (r ≤ 159)) || (decide (768 ≤ r) && decide (r ≤ 879)) || (decide (55296 ≤ r) && decide (r ≤ 57343)) || decide (1114111 < r)) := rfl
  rw [e]
  rw [evFun_evB rfl]
  unfold s112
  by_cases h1 : r < 32
  · simp -implicitDefEqProofs [h1]
  cases h2 : (decide (127 ≤ r) && decide (r ≤ 159))
  · cases h3 : (decide (768 ≤ r) && decide (r ≤ 879))
    · cases h4 : (decide (55296 ≤ r) && decide (r ≤ 57343))
      · simp -implicitDefEqProofs [h1, cr110, cw110, w, h2, h3, h4]
      · simp -implicitDefEqProofs [h1, cr110, cw110, w, h2, h3, h4]
    · simp -implicitDefEqProofs [h1, cr110, cw110, w, h2, h3]
  · simp -implicitDefEqProofs [h1, cr110, cw110, w, h2]
def wideL : List (Int × Int) := [(4352, 4447), (11904, 42191), (44032, 55203), (63744, 64255), (65072, 65135), (65280, 65376), (65504, 65510), (127744, 129791), (131072, 262141)]
def wideR (r : Int) : Bool := wideL.any fun x => decide (x.1 ≤ r) && decide (r ≤ x.2)
def widthR (r : Int) : Int := if narrowR r then 0 else if wideR r then 2 else 1
theorem wideL_get (i : Nat) (h : i < 9) : ∃ a b, wideL[i]? = some (a, b) := ⟨_, _, List.getElem?_eq_getElem (by simpa [wideL] using h)⟩
def wideD : List D := wideL.map fun x => .agg [R x.1, R x.2]
theorem wideR_iff (r : Int) : wideR r = true ↔ ∃ (i : Nat) (a b : Int), wideL[i]? = some (a, b) ∧ a ≤ r ∧ r ≤ b := by
  unfold wideR
  rw [List.any_eq_true]
  constructor
  · rintro ⟨⟨a, b⟩, hx, h⟩
    simp only [Bool.and_eq_true, decide_eq_true_eq] at h
    obtain ⟨i, hi⟩ := List.getElem?_of_mem hx
    exact ⟨i, a, b, hi, h⟩
  · rintro ⟨i, a, b, hi, h⟩
    exact ⟨(a, b), List.mem_of_getElem? hi, by simpa using h⟩
set_option maxHeartbeats 2000000 in
theorem sp113 (k : Nat) (r : Int) : evFun (clOf (modsR tab (k + 1)) 3) s113 [R r] = some (B (wideR r), []) := by
  have w := fun a b => sp110 k r a b
  rw [evFun_evB rfl]
  unfold s113
  simp -implicitDefEqProofs []
  refine evB_inv (P := fun o => o = some (B (wideR r), [])) (σ := Nat) (fun i => [R r, B false, .sl 2 wideD, I 9, I i]) (fun i => 9 - i) (fun i => i ≤ 9 ∧ ∀ j, j < i → ∀ a b, wideL[j]? = some (a, b) → ¬ (a ≤ r ∧ r ≤ b))
    (fun ex t => (ex = .exit 0 ∧ wideR r = false ∧ t = [R r, B false, .sl 2 wideD, I 9, I 9]) ∨ (ex = .ret ∧ wideR r = true ∧ ∃ i : Int, t = [R r, B true, .sl 2 wideD, I 9, I i])) 0 ?_ ⟨by omega, by omega⟩ (by simp [rounds]) ?_ ?_
  · simp -implicitDefEqProofs [wideD, wideL]
  · rintro i ⟨hi, hj⟩
    by_cases h9 : i = 9
    · right
      subst h9
      refine ⟨_, _, ?_, by simp, .inl ⟨rfl, ?_, rfl⟩⟩
      · simp -implicitDefEqProofs [wideD, wideL]
      · rw [Bool.eq_false_iff]
        intro h
        obtain ⟨j, a, b, h1, h2⟩ := (wideR_iff r).1 h
        exact hj j (by have := (List.getElem?_eq_some_iff.1 h1).1; simpa [wideL] using this) a b h1 h2
    · obtain ⟨a, b, hab⟩ := wideL_get i (by omega)
      have hg : wideD[i]? = some (.agg [R a, R b]) := by simp [wideD, hab]
      have hg' := get_of hg
      have e1 : wr ((i : Int) + 1) = ((i + 1 : Nat) : Int) := by rw [wr_id _ (by omega) (by omega)]; omega
      have hlt : (i : Int) < 9 := by omega
      have hlen : wideD.length = 9 := rfl
      have hlt' : i < 9 := by omega
      have w' := w a b
      by_cases h : a ≤ r ∧ r ≤ b
      · right
        refine ⟨.ret, [R r, B true, .sl 2 wideD, I 9, I i], ?_, by simp, .inr ⟨rfl, (wideR_iff r).2 ⟨i, a, b, hab, h⟩, _, rfl⟩⟩
        have : (decide (a ≤ r) && decide (r ≤ b)) = true := by simpa using h
        rw [this] at w'
        generalize wideD = W at *
        simp -implicitDefEqProofs [hlt, hg, hg', hlen, hlt', cw110, w']
      · left
        refine ⟨i + 1, ?_, by omega, by omega, fun j hj' c d hcd => ?_⟩
        · have : (decide (a ≤ r) && decide (r ≤ b)) = false := by simpa using h
          rw [this] at w'
          generalize wideD = W at *
          simp -implicitDefEqProofs [hlt, hg, hg', hlen, hlt', cw110, w', e1]
        · by_cases hj2 : j = i
          · subst hj2
            rw [hab] at hcd
            simp only [Option.some.injEq, Prod.mk.injEq] at hcd
            obtain ⟨rfl, rfl⟩ := hcd
            exact h
          · exact hj j (by omega) c d hcd
  · rintro ex t (⟨rfl, h, rfl⟩ | ⟨rfl, h, i, rfl⟩)
    · rw [h]
      generalize wideD = W
      simp -implicitDefEqProofs []
    · rw [h]
      generalize wideD = W
      simp -implicitDefEqProofs []
theorem sp109 (k : Nat) (r : Int) : evFun (clOf (modsR tab (k + 2)) 3) s109 [R r] = some (I (widthR r), []) := by
  have w1 := sp112 k r
  have w2 := sp113 k r
  have e : widthR r = if narrowR r then 0 else if wideR r then 2 else 1 := rfl
  rw [e]
  generalize narrowR r = n at *
  generalize wideR r = v at *
  rw [evFun_evB rfl]
  unfold s109
  cases n <;> cases v <;> simp -implicitDefEqProofs [cw112, cw113, w1, w2]
def blankC (p : Pn) : Cel := ⟨32, 0, p⟩
theorem sp106 (k : Nat) (p : Pn) : evFun (clOf (modsR tab k) 3) s106 [pnD p] = some (celD (blankC p), []) := by
  rw [evFun_evB rfl]
  unfold s106
  simp -implicitDefEqProofs [blankC]
def plainP : Pn := ⟨-1, -1, 0⟩
theorem sp107 (k : Nat) : evFun (clOf (modsR tab k) 3) s107 [] = some (pnD plainP, []) := by
  rw [evFun_evB rfl]
  unfold s107
  simp -implicitDefEqProofs [plainP]
end Go.Proofs.YtadipapkdjcnbaaGreat.LgTab
