import Derived.Test.YtmmbkjigflhmjaaGreatLgSa
/-
  SourceText: its law.
-/
namespace Go.Proofs.YtmmbkjigflhmjaaGreat.LgTab
open Go Lg
set_option linter.unusedVariables false
set_option linter.unusedSimpArgs false
set_option maxRecDepth 8000
theorem letX_of (i : Nat) (h : i ≤ 100000) : ∃ M : Int, (i : Int).tmod 26 = M ∧ wr (97 + M) = letX i ∧ IntKind.i32.wrap (letX i) = letX i := by
  have e : (i : Int).tmod 26 = (i : Int) % 26 := by rw [Int.tmod_eq_emod]; simp
  have hb := letX_b i
  refine ⟨(i : Int) % 26, e, ?_, wrap_i32 _ (by omega) (by omega)⟩
  rw [wr_id _ (by omega) (by omega)]
  unfold letX
  omega
set_option maxHeartbeats 8000000 in
theorem sp196f (k : Nat) (r0 c0 m0 : Int) : evFun (clOf (modsR tab (k + 12)) 3) s196 [I r0, I c0, I m0, B false] = some (B true, []) := by
  obtain ⟨q0, hq⟩ : ∃ q, q = 1 + r0 % (4 - 1 + 1) := ⟨_, rfl⟩
  have wr0 := fun q => sp174c q r0 1 4 (by omega) (by omega) (by omega) q0 hq
  obtain ⟨h, hh⟩ : ∃ h : Nat, q0 = (h : Int) := ⟨q0.toNat, by omega⟩
  have bh : 1 ≤ h ∧ h ≤ 4 := by omega
  rw [hh] at wr0
  clear hq hh
  obtain ⟨q1, hq⟩ : ∃ q, q = 1 + c0 % (8 - 1 + 1) := ⟨_, rfl⟩
  have wc0 := fun q => sp174c q c0 1 8 (by omega) (by omega) (by omega) q1 hq
  obtain ⟨w, hw⟩ : ∃ w : Nat, q1 = (w : Int) := ⟨q1.toNat, by omega⟩
  have bw : 1 ≤ w ∧ w ≤ 8 := by omega
  rw [hw] at wc0
  clear hq hw
  obtain ⟨q2, hq⟩ : ∃ q, q = 0 + m0 % (60 - 0 + 1) := ⟨_, rfl⟩
  have wn0 := fun q => sp174c q m0 0 60 (by omega) (by omega) (by omega) q2 hq
  obtain ⟨n, hn⟩ : ∃ n : Nat, q2 = (n : Int) := ⟨q2.toNat, by omega⟩
  have bn : n ≤ 60 := by omega
  rw [hn] at wn0
  clear hq hn
  have w372 := fun q => sp372 q h w (by omega) (by omega)
  have tA := flat_all (h := h) (w := w) (by omega) (by omega)
  have a0 : textN { newS h w with wrap := false } 0 = { newS h w with wrap := false } := rfl
  have a1 : ∀ i, textN { newS h w with wrap := false } (i + 1) = printS (textN { newS h w with wrap := false } i) (letX i) := fun i => rfl
  generalize hS : newS h w = S00 at *
  generalize textN { S00 with wrap := false } = A at *
  have w193 := fun q => sp193 q
  have tN := tA n
  rw [evFun_evB rfl]
  unfold s196
  simp -implicitDefEqProofs [cw174, cr174, wr0, wc0, wn0, cw372, w372]
  refine evB_for (fun i => [B false, I h, I w, I n, I n, I i, .obx (scL (A i))]) n (.exit 0) [B false, I h, I w, I n, I n, I n, .obx (scL (A n))] ?_ (fun i hi => ?_) ?_ (by simp) (by simp [rounds]; omega) ?_
  · simp -implicitDefEqProofs [a0]
  · have i1 : (i : Int) < n := by omega
    obtain ⟨M, m1, m2, m3⟩ := letX_of i (by omega)
    have v := fun q => sp402 q (A i) (tA i).ok (letX i)
    rw [← a1] at v
    generalize A (i + 1) = S' at *
    generalize A i = S2 at *
    generalize letX i = X at *
    simp -implicitDefEqProofs [i1, hi, binD_rem, m1, m2, m3, cw402, cr402, v, wr_id ((i : Int) + 1) (by omega) (by omega)]
  · simp -implicitDefEqProofs []
  · generalize A n = s at *
    have gh := tN.gh
    have gw := tN.gw
    have hrow := tN.row
    have hcol : s.col = mnI (n : Int) ((w : Int) - 1) := by
      rw [tN.col]
      unfold mnI
      split <;> omega
    have e1 : wr ((w : Int) - 1) = (w : Int) - 1 := wr_id _ (by omega) (by omega)
    by_cases hn0 : n = 0
    · have e2 : wr (mnI (n : Int) (w : Int) - 1) = -1 := by
        rw [wr_id _ (by unfold mnI; split <;> omega) (by unfold mnI; split <;> omega)]
        unfold mnI
        split <;> omega
      have w149 := fun q => sp149n q s.g 0 (-1) (by simp)
      have hn0' : (n : Int) = 0 := by omega
      simp -implicitDefEqProofs [e1, e2, cw149, cr149, w149, eq_true hn0, eq_true hn0', eq_true hrow, eq_true hcol, cw193, cr193, w193]
    · have e2 : wr (mnI (n : Int) (w : Int) - 1) = ((min n w - 1 : Nat) : Int) := by
        rw [wr_id _ (by unfold mnI; split <;> omega) (by unfold mnI; split <;> omega)]
        unfold mnI
        split <;> omega
      obtain ⟨x, hx, hxr⟩ := tN.cell (by omega)
      have w149 : ∀ q, evFun (clOf (modsR tab (q + 1)) 3) s149 [gdD s.g, I 0, I ((min n w - 1 : Nat) : Int)] = some (.tup [celD x, B true], []) := fun q => sp149 q s.g tN.ok.g 0 (min n w - 1) (by omega) (by omega) x hx
      have hn0' : ¬ (n : Int) = 0 := by omega
      obtain ⟨j, hj⟩ : ∃ j, n = j + 1 := ⟨n - 1, by omega⟩
      have ej : wr ((n : Int) - 1) = (j : Int) := by rw [wr_id _ (by omega) (by omega)]; omega
      have ej2 : n - 1 = j := by omega
      rw [ej2] at hxr
      obtain ⟨M, m1, m2, m3⟩ := letX_of j (by omega)
      generalize letX j = X at *
      obtain ⟨c, hc⟩ : ∃ c : Int, c = ((min n w - 1 : Nat) : Int) := ⟨_, rfl⟩
      rw [← hc] at w149 e2
      clear hx tA hj
      simp -implicitDefEqProofs [e1, e2, cw149, cr149, w149, hn0, hn0', binD_rem, ej, m1, m2, m3, eq_true hxr, eq_true hrow, eq_true hcol, cw193, cr193, w193]
set_option maxHeartbeats 8000000 in
theorem sp196t (k : Nat) (r0 c0 m0 : Int) : evFun (clOf (modsR tab (k + 12)) 3) s196 [I r0, I c0, I m0, B true] = some (B true, []) := by
  obtain ⟨q0, hq⟩ : ∃ q, q = 1 + r0 % (4 - 1 + 1) := ⟨_, rfl⟩
  have wr0 := fun q => sp174c q r0 1 4 (by omega) (by omega) (by omega) q0 hq
  obtain ⟨h, hh⟩ : ∃ h : Nat, q0 = (h : Int) := ⟨q0.toNat, by omega⟩
  have bh : 1 ≤ h ∧ h ≤ 4 := by omega
  rw [hh] at wr0
  clear hq hh
  obtain ⟨q1, hq⟩ : ∃ q, q = 1 + c0 % (8 - 1 + 1) := ⟨_, rfl⟩
  have wc0 := fun q => sp174c q c0 1 8 (by omega) (by omega) (by omega) q1 hq
  obtain ⟨w, hw⟩ : ∃ w : Nat, q1 = (w : Int) := ⟨q1.toNat, by omega⟩
  have bw : 1 ≤ w ∧ w ≤ 8 := by omega
  rw [hw] at wc0
  clear hq hw
  obtain ⟨q2, hq⟩ : ∃ q, q = 0 + m0 % (60 - 0 + 1) := ⟨_, rfl⟩
  have wn0 := fun q => sp174c q m0 0 60 (by omega) (by omega) (by omega) q2 hq
  obtain ⟨n, hn⟩ : ∃ n : Nat, q2 = (n : Int) := ⟨q2.toNat, by omega⟩
  have bn : n ≤ 60 := by omega
  rw [hn] at wn0
  clear hq hn
  have w372 := fun q => sp372 q h w (by omega) (by omega)
  have tA := text_all (h := h) (w := w) (by omega) (by omega)
  have a0 : textN (newS h w) 0 = { newS h w with wrap := true } := rfl
  have a1 : ∀ i, textN (newS h w) (i + 1) = printS (textN (newS h w) i) (letX i) := fun i => rfl
  generalize hA : textN (newS h w) = A at *
  generalize hS : newS h w = S00 at *
  have w193 := fun q => sp193 q
  have tN := tA n
  obtain ⟨F, hF⟩ : ∃ F, F = fullN w n := ⟨_, rfl⟩
  obtain ⟨G, hG⟩ : ∃ G, G = firstN h w n := ⟨_, rfl⟩
  have bF : F ≤ n := by
    rw [hF]
    unfold fullN
    exact Nat.le_trans (Nat.div_le_self _ _) (Nat.sub_le _ _)
  have hGF : G = F + 1 - h := by rw [hG, hF]; rfl
  have hcells := tN.cells
  have hrow := tN.row
  rw [← hG] at hcells
  rw [← hF, ← hG] at hrow
  have eF0 : n = 0 → F = 0 := by
    intro h0
    omega
  have eF : (((n : Int) - 1).tdiv (w : Int)) = F ∨ n = 0 := by
    by_cases h0 : n = 0
    · exact .inr h0
    · left
      obtain ⟨j, rfl⟩ : ∃ j, n = j + 1 := ⟨n - 1, by omega⟩
      have e1 : (((j + 1 : Nat) : Int) - 1) = (j : Int) := by omega
      rw [e1, hF]
      rfl
  clear hF hG
  have hw0 : ¬ (w : Int) = 0 := by omega
  have hw0n : ¬ w = 0 := by omega
  rw [evFun_evB rfl]
  unfold s196
  simp -implicitDefEqProofs [cw174, cr174, wr0, wc0, wn0, cw372, w372]
  refine evB_for (fun i => [B true, I h, I w, I n, I n, I i, .obx (scL (A i))]) n (.exit 0) [B true, I h, I w, I n, I n, I n, .obx (scL (A n))] ?_ (fun i hi => ?_) ?_ (by simp) (by simp [rounds]; omega) ?_
  · simp -implicitDefEqProofs [a0]
  · have i1 : (i : Int) < n := by omega
    obtain ⟨M, m1, m2, m3⟩ := letX_of i (by omega)
    have v := fun q => sp402 q (A i) (tA i).ok (letX i)
    rw [← a1] at v
    generalize A (i + 1) = S' at *
    generalize A i = S2 at *
    generalize letX i = X at *
    simp -implicitDefEqProofs [i1, hi, binD_rem, m1, m2, m3, cw402, cr402, v, wr_id ((i : Int) + 1) (by omega) (by omega)]
  · simp -implicitDefEqProofs []
  · generalize A n = s at *
    have gh := tN.gh
    have gw := tN.gw
    have e3 : wr ((F : Int) - h) = (F : Int) - h := wr_id _ (by omega) (by omega)
    have e4 : wr ((F : Int) - h + 1) = (F : Int) - h + 1 := wr_id _ (by omega) (by omega)
    have e5 : mxI ((F : Int) - h + 1) 0 = (G : Int) := by unfold mxI; split <;> omega
    have ef : wr (F : Int) = F := wr_id _ (by omega) (by omega)
    have hpend := tN.pend
    have e6 : wr ((F : Int) - G) = (F : Int) - G := wr_id _ (by omega) (by omega)
    have hrow' : s.row = (F : Int) - G := by rw [hrow]; omega
    have fin : ∀ b : Bool, s.pend = b → b = decide (0 < n ∧ n % w = 0) := fun b hb => by rw [← hb, hpend]
    have hmod : ((n : Int).tmod (w : Int) = 0) = (n % w = 0) := by
      apply propext
      have e : (n : Int).tmod (w : Int) = ((n % w : Nat) : Int) := rfl
      rw [e]
      omega
    have stepR : ∀ (r : Nat), r < h → ∀ (c : Nat), c < w → ∃ Q : Nat, Q ≤ 100000 ∧ wr ((G : Int) + r) = (G : Int) + r ∧ (∃ P : Int, wr (((G : Int) + r) * w) = P ∧ wr (P + c) = Q) ∧ ∀ q, evFun (clOf (modsR tab (q + 1)) 3) s149 [gdD s.g, I r, I c] = some (.tup [celD (letC n Q), B true], []) := by
      intro r hr c hc
      have hp : (G + r) * w ≤ 100 * 8 := Nat.mul_le_mul (by omega) bw.2
      obtain ⟨P, hP⟩ : ∃ P, P = (G + r) * w := ⟨_, rfl⟩
      refine ⟨P + c, by omega, wr_id _ (by omega) (by omega), ⟨(P : Int), ?_, ?_⟩, fun q => ?_⟩
      · have e : ((G : Int) + r) * w = (P : Int) := by rw [hP]; simp
        rw [e]
        exact wr_id _ (by omega) (by omega)
      · rw [wr_id _ (by omega) (by omega)]
        simp
      · refine sp149 q s.g tN.ok.g r c (by omega) (by omega) _ ?_
        rw [hcells r hr, hP]
        simp [hc]
    clear tA a0 a1 hcells
    rcases Nat.eq_zero_or_pos n with hz | hz
    · have n0' : ¬ 0 < (n : Int) := by omega
      have n0 : ¬ 0 < n := by omega
      have hF0 := eF0 hz
      have hG0 : G = 0 := by omega
      simp -implicitDefEqProofs [n0, n0']
      have e3' : wr (0 - (h : Int)) = 0 - (h : Int) := wr_id _ (by omega) (by omega)
      have e3'' : wr (-(h : Int)) = -(h : Int) := wr_id _ (by omega) (by omega)
      have e4' : wr (0 - (h : Int) + 1) = 0 - (h : Int) + 1 := wr_id _ (by omega) (by omega)
      have e4'' : wr (-(h : Int) + 1) = -(h : Int) + 1 := wr_id _ (by omega) (by omega)
      have e5' : mxI (0 - (h : Int) + 1) 0 = 0 := by unfold mxI; split <;> omega
      have e5'' : mxI (-(h : Int) + 1) 0 = 0 := by unfold mxI; split <;> omega
      subst hF0
      subst hG0
      refine evB_for (fun r => [.un, I w, I n, I 0, I 0, I h, I r, .obx (scL s)]) h (.exit 2) [.un, I w, I n, I 0, I 0, I h, I h, .obx (scL s)] ?_ (fun r hr => ?_) ?_ (by simp) (by simp [rounds]; omega) ?_
      · simp -implicitDefEqProofs [e3', e3'', e4', e4'', e5', e5'']
      · have r1 : (r : Int) < h := by omega
        simp -implicitDefEqProofs [r1, hr]
        refine evB_for (fun c => [.un, I w, I n, I 0, I 0, I r, I h, I r, I w, I c, .obx (scL s)]) w (.exit 4) [.un, I w, I n, I 0, I 0, I r, I h, I r, I w, I w, .obx (scL s)] ?_ (fun c hc => ?_) ?_ (by simp) (by simp [rounds]; omega) ?_
        · simp -implicitDefEqProofs []
        · obtain ⟨Q, bQ, q1, ⟨P, q2, q3⟩, q4⟩ := stepR r hr c hc
          have c1 : (c : Int) < w := by omega
          have h7 : ¬ (Q : Int) < n := by omega
          have h7n : ¬ Q < n := by omega
          have hX := letC_blank (k := n) (i := Q) (by omega)
          rw [hX] at q4
          simp only [Int.natCast_zero, Int.zero_add, Int.cast_ofNat_Int] at q1 q2
          simp -implicitDefEqProofs [c1, hc, q1, q2, q3, h7, h7n, cw149, cr149, q4, blankC, plainP, wr_id ((c : Int) + 1) (by omega) (by omega)]
        · simp -implicitDefEqProofs []
        · simp -implicitDefEqProofs [wr_id ((r : Int) + 1) (by omega) (by omega)]
      · simp -implicitDefEqProofs []
      · have hp0 : s.pend = false := by rw [hpend]; exact decide_eq_false (by omega)
        have hr0 : s.row = 0 := by rw [hrow']; omega
        simp -implicitDefEqProofs [eq_true hr0, hp0, n0, n0', cw193, cr193, w193, wr_id ((0 : Int)) (by omega) (by omega)]
    · have n0' : 0 < (n : Int) := by omega
      have n0 : 0 < n := by omega
      have eF1 : (((n : Int) - 1).tdiv (w : Int)) = F := eF.resolve_right (by omega)
      simp -implicitDefEqProofs [n0, n0', binD_quo, hw0, hw0n, wr_id ((n : Int) - 1) (by omega) (by omega), eF1, ef, e3, e4, e5]
      refine evB_for (fun r => [.un, I w, I n, I F, I G, I h, I r, .obx (scL s)]) h (.exit 2) [.un, I w, I n, I F, I G, I h, I h, .obx (scL s)] ?_ (fun r hr => ?_) ?_ (by simp) (by simp [rounds]; omega) ?_
      · simp -implicitDefEqProofs []
      · have r1 : (r : Int) < h := by omega
        simp -implicitDefEqProofs [r1, hr]
        refine evB_for (fun c => [.un, I w, I n, I F, I G, I r, I h, I r, I w, I c, .obx (scL s)]) w (.exit 4) [.un, I w, I n, I F, I G, I r, I h, I r, I w, I w, .obx (scL s)] ?_ (fun c hc => ?_) ?_ (by simp) (by simp [rounds]; omega) ?_
        · simp -implicitDefEqProofs []
        · obtain ⟨Q, bQ, q1, ⟨P, q2, q3⟩, q4⟩ := stepR r hr c hc
          have c1 : (c : Int) < w := by omega
          obtain ⟨M, m1, m2, m3⟩ := letX_of Q bQ
          by_cases h7 : Q < n
          · have h7' : (Q : Int) < n := by omega
            have hX : letC n Q = ⟨letX Q, 0, plainP⟩ := by unfold letC letX; rw [if_pos h7]
            rw [hX] at q4
            generalize letX Q = X at *
            simp -implicitDefEqProofs [c1, hc, q1, q2, q3, h7, h7', binD_rem, m1, m2, m3, cw149, cr149, q4, plainP, wr_id ((c : Int) + 1) (by omega) (by omega)]
          · have h7' : ¬ (Q : Int) < n := by omega
            have hX := letC_blank (k := n) (i := Q) (by omega)
            rw [hX] at q4
            simp -implicitDefEqProofs [c1, hc, q1, q2, q3, h7, h7', cw149, cr149, q4, blankC, plainP, wr_id ((c : Int) + 1) (by omega) (by omega)]
        · simp -implicitDefEqProofs []
        · simp -implicitDefEqProofs [wr_id ((r : Int) + 1) (by omega) (by omega)]
      · simp -implicitDefEqProofs []
      · by_cases h8 : n % w = 0
        · have hp0 : s.pend = true := by rw [hpend]; exact decide_eq_true ⟨by omega, h8⟩
          have h9 : (n : Int).tmod (w : Int) = 0 := by rw [hmod]; exact h8
          simp -implicitDefEqProofs [e6, eq_true hrow', hp0, n0, n0', binD_rem, hw0, hw0n, eq_true h9, cw193, cr193, w193]
        · have hp0 : s.pend = false := by rw [hpend]; exact decide_eq_false (fun h => h8 h.2)
          have h9 : ¬ (n : Int).tmod (w : Int) = 0 := by rw [hmod]; exact h8
          simp -implicitDefEqProofs [e6, eq_true hrow', hp0, n0, n0', binD_rem, hw0, hw0n, h9, cw193, cr193, w193]
theorem sp196 (k : Nat) (r0 c0 n0 : Int) (wrap : Bool) : evFun (clOf (modsR tab (k + 12)) 3) s196 [I r0, I c0, I n0, B wrap] = some (B true, []) := by
  cases wrap with
  | false => exact sp196f k r0 c0 n0
  | true => exact sp196t k r0 c0 n0
end Go.Proofs.YtmmbkjigflhmjaaGreat.LgTab
