import Derived.Test.YtadipapkdjcnbaaGreatLgQd
/-
  Blanks, new grids.
-/
namespace Go.Proofs.YtadipapkdjcnbaaGreat.LgTab
open Go Lg
set_option linter.unusedVariables false
set_option linter.unusedSimpArgs false
set_option maxRecDepth 8000
theorem wrap_u64 (n : Int) (h0 : 0 ≤ n) (h1 : n < 18446744073709551616) : IntKind.u64.wrap n = n := by
  have e1 : IntKind.u64.wrap n = n % 18446744073709551616 := rfl
  rw [e1]
  omega
theorem q_add (a b : Int) (h0 : 0 ≤ a + b) (h1 : a + b < 18446744073709551616) : binD .add (T64 a) (T64 b) = some (T64 (a + b)) := by simp [binD, binI, wrap_u64 _ h0 h1]
theorem q_mul (a b : Int) (h0 : 0 ≤ a * b) (h1 : a * b < 18446744073709551616) : binD .mul (T64 a) (T64 b) = some (T64 (a * b)) := by simp [binD, binI, wrap_u64 _ h0 h1]
theorem q_and (a : Int) (h0 : 0 ≤ a) (h1 : a < 4294967296) : binD .and (T64 a) (T64 4294967295) = some (T64 a) := by
  show some (T64 (IntKind.u64.wrap ((BitVec.ofInt 64 a &&& BitVec.ofInt 64 4294967295).toNat : Int))) = _
  obtain ⟨n, rfl⟩ := Int.eq_ofNat_of_zero_le h0
  have e : (BitVec.ofInt 64 (n : Int) &&& BitVec.ofInt 64 4294967295).toNat = n := by
    rw [BitVec.toNat_and, BitVec.toNat_ofInt, BitVec.toNat_ofInt]
    have e1 : ((n : Int) % ((2 ^ 64 : Nat) : Int)).toNat = n := by omega
    have e2 : ((4294967295 : Int) % ((2 ^ 64 : Nat) : Int)).toNat = 2 ^ 32 - 1 := by decide
    rw [e1, e2, Nat.and_two_pow_sub_one_eq_mod]
    omega
  rw [e, wrap_u64 _ (by omega) (by omega)]
theorem q_shr (a : Int) (h0 : 0 ≤ a) (h1 : a < 4294967296) : binD .shr (T64 a) (T64 32) = some (T64 0) := by
  have e : a.fdiv (2 ^ (min (32 : Int).toNat 64)) = 0 := by
    have : (2 : Int) ^ (min (32 : Int).toNat 64) = 4294967296 := by decide
    rw [this, Int.fdiv_eq_ediv_of_nonneg _ (by omega)]
    omega
  have e2 : shI .shr .u64 a 32 = some (.int .u64 0) := by
    unfold shI
    simp only
    rw [if_neg (by omega)]
    show some (Value.int .u64 (a.fdiv (2 ^ (min (32 : Int).toNat 64)))) = _
    rw [e]
  simp [binD, e2]
theorem sp445 (k : Nat) (n : Int) (h0 : 0 ≤ n) (h1 : n < 4294967296) : evFun (clOf (modsR tab k) 3) s445 [T64 1, T64 n] = some (.tup [T64 0, T64 n], []) := by
  rw [evFun_evB rfl]
  unfold s445
  simp -implicitDefEqProofs [q_and 1 (by omega) (by omega), q_shr 1 (by omega) (by omega), q_and n h0 h1, q_shr n h0 h1, q_mul 1 n (by omega) (by omega), q_mul 0 n (by omega) (by omega), q_add 0 0 (by omega) (by omega), q_and 0 (by omega) (by omega), q_shr 0 (by omega) (by omega), q_mul 1 0 (by omega) (by omega), q_mul 0 0 (by omega) (by omega)]
theorem sp443 (k : Nat) (n : Int) (h0 : 0 ≤ n) (h1 : n < 4294967296) : evFun (clOf (modsR tab (k + 1)) 3) s443 [T64 1, T64 n] = some (.tup [T64 0, T64 n], []) := by
  rw [evFun_evB rfl]
  unfold s443
  simp -implicitDefEqProofs [cw445, sp445 _ n h0 h1]
/-- So many filled. -/
def filL (x : Cel) (N n : Nat) : List Cel := List.replicate n x ++ List.replicate (N - n) ⟨0, 0, ⟨0, 0, 0⟩⟩
theorem filL_len (x : Cel) {N n : Nat} (h : n ≤ N) : (filL x N n).length = N := by simp [filL]; omega
theorem filL_take (x : Cel) {N n : Nat} : (filL x N n).take n = List.replicate n x := by unfold filL; rw [List.take_append_of_le_length (by simp), List.take_of_length_le (by simp)]
theorem filL_next (x : Cel) {N n : Nat} (h : n ≤ N) : List.replicate n x ++ (List.replicate (min n (N - n)) x ++ (filL x N n).drop (n + min n (N - n))) = filL x N (n + min n (N - n)) := by
  unfold filL
  rw [List.drop_append, List.length_replicate, List.drop_of_length_le (by simp), List.nil_append, List.drop_replicate, ← List.append_assoc, List.replicate_append_replicate]
  rw [show n + min n (N - n) - n = min n (N - n) by omega, show N - n - min n (N - n) = N - (n + min n (N - n)) by omega]
set_option maxHeartbeats 1000000 in
theorem sp465 (k : Nat) (x : Cel) (N : Nat) (h0 : 1 ≤ N) (h1 : N ≤ 1000000) : evFun (clOf (modsR tab (k + 2)) 3) s465 [.sl 5 (celsD [x]), I N] = some (.osl true 5 (celsD (List.replicate N x)), []) := by
  have w := sp443 k N (by omega) (by omega)
  have e0 : IntKind.u64.wrap 1 = 1 := rfl
  have e1 : IntKind.u64.wrap (N : Int) = N := wrap_u64 _ (by omega) (by omega)
  have e2 : IntKind.i64.wrap (N : Int) = N := wrap_id _ (by omega) (by omega)
  have e3 : (N : Int) * 40 ≤ 140737488355328 := by omega
  have e3' : N * 40 ≤ 140737488355328 := by omega
  have hm : min 1 N = 1 := by omega
  have hn0 : ¬ (N : Int) < 0 := by omega
  have hn1 : ¬ (9223372036854775807 : Int) < N := by omega
  have h0' : N ≠ 0 := by omega
  rw [evFun_evB rfl]
  unfold s465
  simp -implicitDefEqProofs [cw443, w, e0, e1, e2, e3, e3', hn0, hn1, hm, h0']
  refine evB_run (fun n : Nat => [I n, .osl true 5 (celsD (filL x N n))]) (fun n => N - n) (fun _ => (.exit 0, [I N, .osl true 5 (celsD (List.replicate N x))])) (fun n => 1 ≤ n ∧ n ≤ N) 1 ?_ ⟨by omega, h0⟩ (by simp [rounds]; omega) ?_ ?_
  · simp -implicitDefEqProofs [filL, h0, hm]
  · rintro n ⟨hn, hN⟩
    have hl := filL_len x hN
    have hl2 := filL_len x (N := N) (n := n + min n (N - n)) (by omega)
    by_cases hlt : n < N
    · left
      refine ⟨n + min n (N - n), ?_, by omega, rfl, by omega, by omega⟩
      have hlt' : (n : Int) < N := by omega
      have hle : n ≤ N := hN
      have ht := filL_take x (N := N) (n := n)
      have hx := filL_next x hN
      have ea : wr ((n : Int) + ((min n (N - n) : Nat) : Int)) = ((n + min n (N - n) : Nat) : Int) := by rw [wr_id _ (by omega) (by omega)]; omega
      generalize filL x N (n + min n (N - n)) = F' at *
      generalize filL x N n = F at *
      simp -implicitDefEqProofs [hl, hl2, hlt', hle, ht, ea, hx]
    · right
      have : n = N := by omega
      subst this
      refine ⟨?_, by simp⟩
      have hf : filL x n n = List.replicate n x := by simp [filL]
      simp -implicitDefEqProofs [hf]
  · simp -implicitDefEqProofs []
theorem sp143 (k : Nat) (N : Nat) (h0 : 1 ≤ N) (h1 : N ≤ 1000000) (p : Pn) : evFun (clOf (modsR tab (k + 3)) 3) s143 [I N, pnD p] = some (.osl true 5 (celsD (List.replicate N (blankC p))), []) := by
  have w := sp465 k (blankC p) N h0 h1
  have w2 := sp106 (k + 2) p
  have e : celsD [blankC p] = [celD (blankC p)] := rfl
  rw [e] at w
  simp only [blankC] at w w2 ⊢
  rw [evFun_evB rfl]
  unfold s143
  simp -implicitDefEqProofs [cw106, w2, cw465, w]
def newG (h w : Nat) (p : Pn) : Gd := ⟨h, w, List.replicate (h * w) (blankC p)⟩
theorem sp151 (k : Nat) (h w : Nat) (h0 : 1 ≤ h ∧ h ≤ 40) (h1 : 1 ≤ w ∧ w ≤ 60) (p : Pn) : evFun (clOf (modsR tab (k + 3)) 3) s151 [I h, I w, pnD p] = some (gdO (newG h w p), []) := by
  have hp : 1 ≤ h * w := Nat.mul_pos h0.1 h1.1
  have hq : h * w ≤ 2400 := Nat.mul_le_mul h0.2 h1.2
  have w1 := sp465 k (blankC p) (h * w) hp (by omega)
  have w2 := sp106 (k + 2) p
  have e : celsD [blankC p] = [celD (blankC p)] := rfl
  rw [e] at w1
  have em : wr ((h : Int) * (w : Int)) = ((h * w : Nat) : Int) := by rw [← Int.natCast_mul]; exact wr_id _ (by omega) (by omega)
  have m1 : mxI 1 (mnI h 40) = h := by unfold mxI mnI; repeat' split
                                       all_goals omega
  have m2 : mxI 1 (mnI w 60) = w := by unfold mxI mnI; repeat' split
                                       all_goals omega
  have hne : h * w ≠ 0 := by omega
  unfold newG
  generalize h * w = N at *
  simp only [blankC] at w1 w2 ⊢
  rw [evFun_evB rfl]
  unfold s151
  simp -implicitDefEqProofs [m1, m2, em, cw106, w2, cw465, w1, hne]
end Go.Proofs.YtadipapkdjcnbaaGreat.LgTab
