import Derived.Test.YtadipapkdjcnbaaGreatLgRe
/-
  Tab stops met.
-/
namespace Go.Proofs.YtadipapkdjcnbaaGreat.LgTab
open Go Lg
set_option linter.unusedVariables false
set_option linter.unusedSimpArgs false
set_option maxRecDepth 8000
theorem tabTo_find (t : Nat) (col cols : Int) : ∀ n, (tabTo t n).find? (fun c => decide (col < c) && decide (c < cols)) = none ↔ ∀ c : Nat, c < n → hasT t c = true → ¬ (col < (c : Int) ∧ (c : Int) < cols) := by
  intro n
  unfold tabTo
  rw [List.find?_eq_none]
  constructor
  · intro h c hc ht hh
    have := h (c : Int) (by simp only [List.mem_map, List.mem_filter, List.mem_range]; exact ⟨c, ⟨hc, ht⟩, rfl⟩)
    simp [hh.1, hh.2] at this
  · intro h x hx
    simp only [List.mem_map, List.mem_filter, List.mem_range] at hx
    obtain ⟨c, ⟨hc, ht⟩, rfl⟩ := hx
    have := h c hc ht
    simpa using this
/-- No stop beyond: the last column. -/
theorem nextT_none {t : Nat} {col cols : Int} (h : ∀ c : Nat, c < 64 → hasT t c = true → ¬ (col < (c : Int) ∧ (c : Int) < cols)) : nextT t col cols = cols - 1 := by
  unfold nextT tabL
  rw [(tabTo_find t col cols 64).2 h]
  rfl
/-- The next stop. -/
theorem nextT_some {t : Nat} {col cols : Int} {c : Nat} (hc : c < 64) (ht : hasT t c = true) (h0 : col < (c : Int)) (h1 : (c : Int) < cols) (h : ∀ d : Nat, d < c → hasT t d = true → ¬ (col < (d : Int))) : nextT t col cols = c := by
  have key : ∀ n, c < n → (tabTo t n).find? (fun c => decide (col < c) && decide (c < cols)) = some (c : Int) := by
    intro n hn
    induction n with
    | zero => omega
    | succ n ih =>
      rw [tabTo_succ]
      by_cases hcn : c = n
      · subst hcn
        rw [if_pos ht, List.find?_append, (tabTo_find t col cols c).2 (fun d hd hdt hh => h d hd hdt hh.1)]
        simp [h0, h1]
      · have := ih (by omega)
        split
        · rw [List.find?_append, this]
          rfl
        · exact this
  unfold nextT tabL
  rw [key 64 hc]
  rfl
theorem hasT_bit (t c : Nat) (hc : c < 64) : hasT t c = t.testBit c := by
  have hb : bitN (c : Int) = 2 ^ c := by unfold bitN; rw [if_pos (by omega)]; simp
  unfold hasT
  rw [hb]
  cases h : t.testBit c
  · rw [decide_eq_false]
    intro hh
    apply hh
    apply Nat.eq_of_testBit_eq
    intro i
    rw [Nat.testBit_and, Nat.testBit_two_pow, Nat.zero_testBit]
    by_cases e : c = i
    · subst e; simp [h]
    · simp [e]
  · rw [decide_eq_true]
    intro hh
    have := congrArg (fun n => n.testBit c) hh
    simp [Nat.testBit_and, Nat.testBit_two_pow, h] at this
theorem hasT_put (t a c : Nat) (ha : a < 64) (hc : c < 64) : hasT (t ||| bitN a) c = (hasT t c || decide (a = c)) := by
  have hb : bitN (a : Int) = 2 ^ a := by unfold bitN; rw [if_pos (by omega)]; simp
  rw [hasT_bit _ _ hc, hasT_bit _ _ hc, hb, Nat.testBit_or, Nat.testBit_two_pow]
theorem hasT_0 (c : Nat) (hc : c < 64) : hasT 0 c = false := by rw [hasT_bit _ _ hc, Nat.zero_testBit]
theorem hasT_drop (t a c : Nat) (ht : t < 2 ^ 64) (ha : a < 64) (hc : c < 64) : hasT (dropN t (bitN a)) c = (hasT t c && !decide (a = c)) := by
  have hb : bitN (a : Int) = 2 ^ a := by unfold bitN; rw [if_pos (by omega)]; simp
  rw [hasT_bit _ _ hc, hasT_bit _ _ hc, hb]
  unfold dropN
  rw [Nat.testBit_and]
  congr 1
  have h2 : 2 ^ a < 2 ^ 64 := Nat.pow_lt_pow_right (by omega) ha
  have := Nat.testBit_two_pow_sub_succ h2 c
  rw [show 2 ^ 64 - 1 - 2 ^ a = 2 ^ 64 - (2 ^ a + 1) by omega, this, Nat.testBit_two_pow]
  simp [hc]
end Go.Proofs.YtadipapkdjcnbaaGreat.LgTab
