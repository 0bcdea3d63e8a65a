import Derived.Test.YtadipapkdjcnbaaGreatLgQh
/-
  Tab stops.
-/
namespace Go.Proofs.YtadipapkdjcnbaaGreat.LgTab
open Go Lg
set_option linter.unusedVariables false
set_option linter.unusedSimpArgs false
set_option maxRecDepth 8000
theorem u64_of (n : Nat) : ((n : Int) % ((2 ^ 64 : Nat) : Int)).toNat = n % 2 ^ 64 := by omega
theorem t_or (a b : Nat) (ha : a < 2 ^ 64) (hb : b < 2 ^ 64) : binD .or (T64 a) (T64 b) = some (T64 ((a ||| b : Nat) : Int)) := by
  show some (T64 (IntKind.u64.wrap ((BitVec.ofInt 64 a ||| BitVec.ofInt 64 b).toNat : Int))) = _
  rw [BitVec.toNat_or, BitVec.toNat_ofInt, BitVec.toNat_ofInt, u64_of, u64_of, Nat.mod_eq_of_lt ha, Nat.mod_eq_of_lt hb, wrap_u64 _ (by omega) (by have := Nat.or_lt_two_pow ha hb; omega)]
theorem t_and (a b : Nat) (ha : a < 2 ^ 64) (hb : b < 2 ^ 64) : binD .and (T64 a) (T64 b) = some (T64 ((a &&& b : Nat) : Int)) := by
  show some (T64 (IntKind.u64.wrap ((BitVec.ofInt 64 a &&& BitVec.ofInt 64 b).toNat : Int))) = _
  rw [BitVec.toNat_and, BitVec.toNat_ofInt, BitVec.toNat_ofInt, u64_of, u64_of, Nat.mod_eq_of_lt ha, Nat.mod_eq_of_lt hb, wrap_u64 _ (by omega) (by have := Nat.and_lt_two_pow a hb; omega)]
def dropN (a b : Nat) : Nat := a &&& (2 ^ 64 - 1 - b)
theorem dropN_lt {a b : Nat} (ha : a < 2 ^ 64) : dropN a b < 2 ^ 64 := Nat.and_lt_two_pow a (by omega)
theorem t_andn (a b : Nat) (ha : a < 2 ^ 64) (hb : b < 2 ^ 64) : binD .andNot (T64 a) (T64 b) = some (T64 ((dropN a b : Nat) : Int)) := by
  show some (T64 (IntKind.u64.wrap ((BitVec.ofInt 64 a &&& ~~~ BitVec.ofInt 64 b).toNat : Int))) = _
  rw [BitVec.toNat_and, BitVec.toNat_not, BitVec.toNat_ofInt, BitVec.toNat_ofInt, u64_of, u64_of, Nat.mod_eq_of_lt ha, Nat.mod_eq_of_lt hb, wrap_u64 _ (by omega) (by have := dropN_lt (b := b) ha; unfold dropN at this; omega)]
  rfl
def bitN (c : Int) : Nat := if 0 ≤ c ∧ c < 64 then 2 ^ c.toNat else 0
theorem bitN_lt (c : Int) : bitN c < 2 ^ 64 := by
  unfold bitN
  split
  · exact Nat.pow_lt_pow_right (by omega) (by omega)
  · omega
theorem t_shl (c : Int) (h0 : 0 ≤ c) (h1 : c < 64) : binD .shl (T64 1) (I c) = some (T64 (bitN c)) := by
  have e : shI .shl .u64 1 c = some (.int .u64 (bitN c)) := by
    unfold shI
    simp only
    rw [if_neg (by omega)]
    show some (Value.int .u64 (IntKind.u64.wrap (1 * 2 ^ (min c.toNat 64)))) = _
    have : (1 : Int) * 2 ^ (min c.toNat 64) = (bitN c : Nat) := by
      rw [show min c.toNat 64 = c.toNat by omega]
      unfold bitN
      rw [if_pos ⟨h0, h1⟩]
      simp
    rw [this, wrap_u64 _ (by omega) (by have := bitN_lt c; omega)]
  simp [binD, e]
theorem sp422 (k : Nat) (c : Int) : evFun (clOf (modsR tab k) 3) s422 [I c] = some (T64 (bitN c), []) := by
  rw [evFun_evB rfl]
  unfold s422
  by_cases h0 : c < 0
  · have e : bitN c = 0 := by unfold bitN; rw [if_neg (by omega)]
    rw [e]
    simp -implicitDefEqProofs [h0]
  by_cases h1 : (64 : Int) ≤ c
  · have e : bitN c = 0 := by unfold bitN; rw [if_neg (by omega)]
    rw [e]
    simp -implicitDefEqProofs [h0, h1]
  have w := t_shl c (by omega) (by omega)
  generalize bitN c = b at *
  simp -implicitDefEqProofs [h0, h1, w]
def hasT (t : Nat) (c : Int) : Bool := decide (t &&& bitN c ≠ 0)
theorem sp417 (k : Nat) (t : Nat) (ht : t < 2 ^ 64) (c : Int) : evFun (clOf (modsR tab (k + 1)) 3) s417 [T64 t, I c] = some (B (hasT t c), []) := by
  have w := fun q => sp422 q c
  have w2 := t_and t (bitN c) ht (bitN_lt c)
  have e : hasT t c = decide (t &&& bitN c ≠ 0) := rfl
  rw [e]
  generalize bitN c = b at *
  rw [evFun_evB rfl]
  unfold s417
  generalize t &&& b = x at *
  simp -implicitDefEqProofs [cw422, w, w2]
def tabTo (t : Nat) (n : Nat) : List Int := ((List.range n).filter fun i : Nat => hasT t (i : Int)).map fun i : Nat => (i : Int)
theorem tabTo_succ (t n : Nat) : tabTo t (n + 1) = if hasT t n then tabTo t n ++ [(n : Int)] else tabTo t n := by
  unfold tabTo
  rw [List.range_succ, List.filter_append, List.map_append]
  by_cases h : hasT t n = true <;> simp [h, List.filter]
theorem tabTo_len (t : Nat) : ∀ n, (tabTo t n).length ≤ n
  | 0 => by simp [tabTo]
  | n + 1 => by
    have := tabTo_len t n
    rw [tabTo_succ]
    split
    · simp; omega
    · omega
def tabL (t : Nat) : List Int := tabTo t 64
set_option maxHeartbeats 1000000 in
theorem sp418 (k : Nat) (t : Nat) (ht : t < 2 ^ 64) : evFun (clOf (modsR tab (k + 2)) 3) s418 [T64 t] = some (D.osl true 1 (intsD (tabL t)), []) := by
  rw [evFun_evB rfl]
  unfold s418
  simp -implicitDefEqProofs []
  refine evB_for (fun i => [T64 t, I i, .osl true 1 (intsD (tabTo t i))]) 64 (.exit 0) [T64 t, I 64, .osl true 1 (intsD (tabTo t 64))] ?_ (fun i hi => ?_) ?_ (by simp) (by simp [rounds]) ?_
  · simp -implicitDefEqProofs [tabTo]
  · have w := fun q => sp417 q t ht i
    have hlt : (i : Int) < 64 := by omega
    have hl := tabTo_len t i
    have hl2 : ((tabTo t i).length + 1) * 8 ≤ 140737488355328 := by omega
    have hs := tabTo_succ t i
    generalize tabTo t (i + 1) = L' at *
    generalize tabTo t i = L at *
    generalize hasT t i = b at *
    cases b
    · simp only [Bool.false_eq_true, if_false] at hs
      subst hs
      simp -implicitDefEqProofs [hlt, cw417, w, wr_id ((i : Int) + 1) (by omega) (by omega)]
    · simp only [if_true] at hs
      subst hs
      simp -implicitDefEqProofs [hlt, cw417, w, wr_id ((i : Int) + 1) (by omega) (by omega), hl2]
  · generalize tabTo t 64 = L
    simp -implicitDefEqProofs []
  · show _ = some (D.osl true 1 (intsD (tabTo t 64)), [])
    have hl := tabTo_len t 64
    generalize tabTo t 64 = L at *
    simp -implicitDefEqProofs []
def nextT (t : Nat) (col cols : Int) : Int := ((tabL t).find? fun c => decide (col < c) && decide (c < cols)).getD (cols - 1)
theorem sp420 (k : Nat) (t : Nat) (ht : t < 2 ^ 64) (col cols : Int) (hc : 0 ≤ cols ∧ cols ≤ 1000) : evFun (clOf (modsR tab (k + 3)) 3) s420 [T64 t, I col, I cols] = some (I (nextT t col cols), []) := by
  have w := fun q => sp418 q t ht
  have e : nextT t col cols = ((tabL t).find? fun c => decide (col < c) && decide (c < cols)).getD (cols - 1) := rfl
  have hl : (tabL t).length ≤ 64 := tabTo_len t 64
  rw [e]
  clear e
  generalize tabL t = L at *
  rw [evFun_evB rfl]
  unfold s420
  simp -implicitDefEqProofs [cw418, w]
  refine evB_inv (P := fun o => o = some (I ((L.find? fun c => decide (col < c) && decide (c < cols)).getD (cols - 1)), [])) (σ := Nat) (fun i => [I col, I cols, I 0, .sl 1 (intsD L), I L.length, I i]) (fun i => L.length - i) (fun i => i ≤ L.length ∧ (L.take i).find? (fun c => decide (col < c) && decide (c < cols)) = none)
    (fun ex t => (ex = .exit 0 ∧ L.find? (fun c => decide (col < c) && decide (c < cols)) = none ∧ ∃ i : Int, t = [I col, I cols, I 0, .sl 1 (intsD L), I L.length, I i]) ∨ (ex = .ret ∧ ∃ i c : Int, L.find? (fun c => decide (col < c) && decide (c < cols)) = some c ∧ t = [I col, I cols, I c, .sl 1 (intsD L), I L.length, I i])) 0 ?_ ⟨by omega, by simp⟩ (by simp [rounds]; omega) ?_ ?_
  · simp -implicitDefEqProofs []
  · rintro i ⟨hi, hj⟩
    by_cases h9 : i = L.length
    · right
      subst h9
      rw [List.take_length] at hj
      refine ⟨_, _, ?_, by simp, .inl ⟨rfl, hj, (L.length : Int), rfl⟩⟩
      simp -implicitDefEqProofs []
    · obtain ⟨c, hg⟩ := get_ex (l := L) (i := i) (by omega)
      have hlt : (i : Int) < L.length := by omega
      have hlt' : i < L.length := by omega
      have hg1 := intsD_at hg
      have hg2 := get_of hg
      have hsn := take_snoc hg
      have hsp : L = L.take i ++ c :: L.drop (i + 1) := by rw [← hg2 hlt']; simp
      by_cases h : col < c
      · by_cases h2 : c < cols
        · right
          refine ⟨.ret, [I col, I cols, I c, .sl 1 (intsD L), I L.length, I i], ?_, by simp, .inr ⟨rfl, _, _, ?_, rfl⟩⟩
          · clear hsp
            simp -implicitDefEqProofs [hlt, hlt', hg1, h, h2]
          · rw [hsp, List.find?_append, hj]
            simp [h, h2]
        · left
          refine ⟨i + 1, ?_, by omega, by omega, ?_⟩
          · clear hsp
            simp -implicitDefEqProofs [hlt, hlt', hg1, h, h2, wr_id ((i : Int) + 1) (by omega) (by omega)]
          · rw [hsn, List.find?_append, hj]
            simp [h, h2]
      · left
        refine ⟨i + 1, ?_, by omega, by omega, ?_⟩
        · clear hsp
          simp -implicitDefEqProofs [hlt, hlt', hg1, h, wr_id ((i : Int) + 1) (by omega) (by omega)]
        · rw [hsn, List.find?_append, hj]
          simp [h]
  · rintro ex t (⟨rfl, h, i, rfl⟩ | ⟨rfl, i, c, h, rfl⟩)
    · rw [h]
      simp -implicitDefEqProofs [wr_id (cols - 1) (by omega) (by omega)]
    · rw [h]
      simp -implicitDefEqProofs []
theorem sp421 (k : Nat) (t : Nat) (ht : t < 2 ^ 64) (c : Int) : evFun (clOf (modsR tab (k + 1)) 3) s421 [T64 t, .sl 1 [I c]] = some (T64 ((t ||| bitN c : Nat) : Int), []) := by
  have w := fun q => sp422 q c
  have w2 := t_or t (bitN c) ht (bitN_lt c)
  generalize bitN c = b at *
  generalize t ||| b = x at *
  rw [evFun_evB rfl]
  unfold s421
  simp -implicitDefEqProofs []
  refine evB_for (fun i => [T64 ((if i = 0 then t else x : Nat) : Int), .sl 1 [I c], I 1, I i]) 1 (.exit 0) [T64 x, .sl 1 [I c], I 1, I 1] ?_ (fun i hi => ?_) ?_ (by simp) (by simp [rounds]) ?_
  · simp -implicitDefEqProofs []
  · obtain rfl : i = 0 := by omega
    simp -implicitDefEqProofs [cw422, w, w2, wr_id (1) (by omega) (by omega)]
  · simp -implicitDefEqProofs []
  · simp -implicitDefEqProofs []
theorem sp416 (k : Nat) (t : Nat) (ht : t < 2 ^ 64) (c : Int) : evFun (clOf (modsR tab (k + 1)) 3) s416 [T64 t, .sl 1 [I c]] = some (T64 ((dropN t (bitN c) : Nat) : Int), []) := by
  have w := fun q => sp422 q c
  have w2 := t_andn t (bitN c) ht (bitN_lt c)
  generalize bitN c = b at *
  generalize dropN t b = x at *
  rw [evFun_evB rfl]
  unfold s416
  simp -implicitDefEqProofs []
  refine evB_for (fun i => [T64 ((if i = 0 then t else x : Nat) : Int), .sl 1 [I c], I 1, I i]) 1 (.exit 0) [T64 x, .sl 1 [I c], I 1, I 1] ?_ (fun i hi => ?_) ?_ (by simp) (by simp [rounds]) ?_
  · simp -implicitDefEqProofs []
  · obtain rfl : i = 0 := by omega
    simp -implicitDefEqProofs [cw422, w, w2, wr_id (1) (by omega) (by omega)]
  · simp -implicitDefEqProofs []
  · simp -implicitDefEqProofs []
def newTo : Nat → Nat
  | 0 => 0
  | n + 1 => newTo n ||| bitN (8 + 8 * (n : Int))
theorem newTo_lt : ∀ n, newTo n < 2 ^ 64
  | 0 => by simp [newTo]
  | n + 1 => Nat.or_lt_two_pow (newTo_lt n) (bitN_lt _)
def newT (cols : Nat) : Nat := newTo ((min cols 64 - 1) / 8)
theorem sp419 (k : Nat) (cols : Nat) (hc : 1 ≤ cols ∧ cols ≤ 1000) : evFun (clOf (modsR tab (k + 1)) 3) s419 [I cols] = some (T64 (newT cols), []) := by
  obtain ⟨N, hN⟩ : ∃ N, N = (min cols 64 - 1) / 8 := ⟨_, rfl⟩
  have e : newT cols = newTo N := by rw [hN]; rfl
  rw [e, evFun_evB rfl]
  unfold s419
  simp -implicitDefEqProofs []
  have hm : mnI (cols : Int) 64 = ((min cols 64 : Nat) : Int) := by unfold mnI; split <;> omega
  refine evB_for (fun i => [I cols, T64 (newTo i), I (8 + 8 * (i : Int))]) N (.exit 0) [I cols, T64 (newTo N), I (8 + 8 * (N : Int))] ?_ (fun i hi => ?_) ?_ (by simp) (by simp [rounds]; omega) ?_
  · simp -implicitDefEqProofs [newTo]
  · have w := fun q => sp422 q (8 + 8 * (i : Int))
    have w2 := t_or (newTo i) (bitN (8 + 8 * (i : Int))) (newTo_lt i) (bitN_lt _)
    have w3 : newTo (i + 1) = newTo i ||| bitN (8 + 8 * (i : Int)) := rfl
    rw [← w3] at w2
    have hlt : 8 + 8 * (i : Int) < min cols 64 := by omega
    have hlt2 : 8 + 8 * (i : Int) < mnI (cols : Int) 64 := by omega
    have e1 : wr (8 + 8 * (i : Int) + 8) = 8 + 8 * ((i : Int) + 1) := by rw [wr_id _ (by omega) (by omega)]; omega
    generalize newTo (i + 1) = x at *
    simp -implicitDefEqProofs [hlt2, cw422, w, w2, e1]
  · have hlt2 : ¬ 8 + 8 * (N : Int) < mnI (cols : Int) 64 := by omega
    generalize newTo N = x at *
    simp -implicitDefEqProofs [hlt2]
  · generalize newTo N = x at *
    simp -implicitDefEqProofs []
end Go.Proofs.YtadipapkdjcnbaaGreat.LgTab
