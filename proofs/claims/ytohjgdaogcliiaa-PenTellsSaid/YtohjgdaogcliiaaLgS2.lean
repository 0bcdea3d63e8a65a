import Derived.Test.YtohjgdaogcliiaaLgS1
/-
  What is said of a pen makes it.
-/
namespace Go.Proofs.Ytohjgdaogcliiaa.LgTab
open Go Lg
set_option linter.unusedVariables false
set_option linter.unusedSimpArgs false
set_option maxRecDepth 8000
theorem bit_dec : ∀ g : Fin 256, ∀ i : Fin 8, IntKind.i64.wrap (((((g.val : Int).fdiv (2 ^ (min ((i.val : Int)).toNat 64))) % 18446744073709551616).toNat &&& ((1 : Int) % 18446744073709551616).toNat : Nat) : Int) = ((g.val / 2 ^ i.val % 2 : Nat) : Int) := by decide +kernel
theorem bit_nat (g i : Nat) (hg : g < 256) (hi : i < 8) : andI (shrI (g : Int) (i : Int)) 1 = ((g / 2 ^ i % 2 : Nat) : Int) := by
  rw [andI_def, shrI_def]
  exact bit_dec ⟨g, hg⟩ ⟨i, hi⟩
def flN (i : Nat) : Nat := if i < 5 then i + 1 else i + 2
def stN (g : Nat) : Nat → List Nat
  | 0 => [0]
  | i + 1 => stN g i ++ if g / 2 ^ i % 2 = 1 then [flN i] else []
theorem flI_nat (i : Nat) : flI i = (flN i : Int) := by
  unfold flI flN
  split <;> omega
theorem stM_nat (g : Nat) (hg : g < 256) : ∀ i, i ≤ 8 → stM (g : Int) i = (stN g i).map (fun n : Nat => (n : Int))
  | 0, _ => rfl
  | i + 1, h => by
    have e := bit_nat g i hg (by omega)
    simp only [stM, stN, stM_nat g hg i (by omega), List.map_append, e]
    congr 1
    by_cases hb : g / 2 ^ i % 2 = 1
    · rw [hb]; simp [flI_nat]
    · have : ¬ (((g / 2 ^ i % 2 : Nat) : Int) = 1) := by omega
      rw [if_neg this, if_neg hb]
      rfl
def flagN (n : Nat) : Nat := if n = 1 then 1 else if n = 2 then 2 else if n = 3 then 4 else if n = 4 then 8 else if n = 5 then 16 else if n = 7 then 32 else if n = 8 then 64 else if n = 9 then 128 else 0
theorem stN_dec : ∀ g : Fin 256, stN g.val 8 = 0 :: (stN g.val 8).tail ∧ (∀ n, n ∈ (stN g.val 8).tail → n ∈ [1, 2, 3, 4, 5, 7, 8, 9]) ∧ (stN g.val 8).tail.foldl (fun a n => a ||| flagN n) 0 = g.val ∧ (stN g.val 8).length ≤ 9 := by decide +kernel
theorem one_flag (f b : Int) (acc n : Nat) (ha : acc < 256) (hn : n ∈ [1, 2, 3, 4, 5, 7, 8, 9]) (t : List Int) : stepL (n : Int) t ⟨f, b, (acc : Int)⟩ = (⟨f, b, ((acc ||| flagN n : Nat) : Int)⟩, 0) := by
  have ho : ∀ m : Nat, m < 256 → orI (acc : Int) (m : Int) = ((acc ||| m : Nat) : Int) := fun m hm => orI_nat acc m (by omega) (by omega)
  simp only [List.mem_cons, List.not_mem_nil, or_false] at hn
  have h1 : orI (acc : Int) 1 = ((acc ||| 1 : Nat) : Int) := ho 1 (by omega)
  have h2 : orI (acc : Int) 2 = ((acc ||| 2 : Nat) : Int) := ho 2 (by omega)
  have h4 : orI (acc : Int) 4 = ((acc ||| 4 : Nat) : Int) := ho 4 (by omega)
  have h8 : orI (acc : Int) 8 = ((acc ||| 8 : Nat) : Int) := ho 8 (by omega)
  have h16 : orI (acc : Int) 16 = ((acc ||| 16 : Nat) : Int) := ho 16 (by omega)
  have h32 : orI (acc : Int) 32 = ((acc ||| 32 : Nat) : Int) := ho 32 (by omega)
  have h64 : orI (acc : Int) 64 = ((acc ||| 64 : Nat) : Int) := ho 64 (by omega)
  have h128 : orI (acc : Int) 128 = ((acc ||| 128 : Nat) : Int) := ho 128 (by omega)
  rcases hn with rfl | rfl | rfl | rfl | rfl | rfl | rfl | rfl <;> simp [stepL, oneM, within, flagM, flagN, h1, h2, h4, h8, h16, h32, h64, h128]
theorem ap_flagL (r : List Int) (f b : Int) : ∀ (tl : List Nat) (acc : Nat), acc < 256 → (∀ n, n ∈ tl → n ∈ [1, 2, 3, 4, 5, 7, 8, 9]) → applyL (tl.map (fun n : Nat => (n : Int)) ++ r) ⟨f, b, (acc : Int)⟩ = applyL r ⟨f, b, ((tl.foldl (fun a n => a ||| flagN n) acc : Nat) : Int)⟩
  | [], acc, _, _ => rfl
  | n :: tl, acc, ha, h => by
    have hn := h n (by simp)
    have hb : flagN n < 256 := by unfold flagN; repeat' split
                                  all_goals omega
    rw [List.map_cons, List.cons_append, applyL_cons, one_flag f b acc n ha hn]
    simp only [List.drop_zero, List.foldl_cons]
    exact ap_flagL r f b tl (acc ||| flagN n) (Nat.or_lt_two_pow (n := 8) (by omega) (by omega)) (fun x hx => h x (by simp [hx]))
def okC (f : Int) : Prop := f = -1 ∨ (0 ≤ f ∧ f ≤ 255) ∨ (16777216 ≤ f ∧ f ≤ 33554431)
theorem and255 (a : Nat) (ha : a < 4611686018427387904) : andI (a : Int) 255 = ((a % 256 : Nat) : Int) := by
  rw [andI_def]
  have e1 : ((a : Int) % 18446744073709551616).toNat = a := by omega
  have e2 : ((255 : Int) % 18446744073709551616).toNat = 255 := by decide
  have e3 : a &&& 255 = a % 256 := by
    have : (255 : Nat) = 2 ^ 8 - 1 := by decide
    rw [this, Nat.and_two_pow_sub_one_eq_mod]
  rw [e1, e2, e3, wrap_id _ (by omega) (by omega)]
theorem shr16 (a : Nat) : shrI (a : Int) 16 = ((a / 65536 : Nat) : Int) := by
  rw [shrI_def]
  show (a : Int).fdiv 65536 = _
  rw [Int.fdiv_eq_ediv_of_nonneg _ (by omega)]
  omega
theorem shr8 (a : Nat) : shrI (a : Int) 8 = ((a / 256 : Nat) : Int) := by
  rw [shrI_def]
  show (a : Int).fdiv 256 = _
  rw [Int.fdiv_eq_ediv_of_nonneg _ (by omega)]
  omega
/-- The three parts of a colour. -/
theorem parts (f : Int) (h : 16777216 ≤ f ∧ f ≤ 33554431) : ∃ x y z : Int, andI (shrI f 16) 255 = x ∧ andI (shrI f 8) 255 = y ∧ andI f 255 = z ∧ (0 ≤ x ∧ x ≤ 255) ∧ (0 ≤ y ∧ y ≤ 255) ∧ (0 ≤ z ∧ z ≤ 255) ∧ rgb x y z = f := by
  obtain ⟨a, rfl⟩ : ∃ a : Nat, f = (a : Int) := ⟨f.toNat, by omega⟩
  refine ⟨_, _, _, by rw [shr16, and255 _ (by omega)], by rw [shr8, and255 _ (by omega)], by rw [and255 _ (by omega)], by omega, by omega, by omega, ?_⟩
  rw [rgb_nat _ _ _ (by omega) (by omega) (by omega)]
  omega
theorem ap_col30 (f b g : Int) (r : List Int) (h : okC f) : applyL (sayColM f 30 ++ r) ⟨-1, b, g⟩ = applyL r ⟨f, b, g⟩ := by
  unfold sayColM
  by_cases h1 : f = -1
  · simp [h1]
  by_cases h2 : f < 8
  · have c : 0 ≤ f := by unfold okC at h; omega
    have f1 : 30 + f ≠ 38 := by omega
    have f2 : 30 + f ≠ 48 := by omega
    have f3 : 30 + f ≠ 0 := by omega
    have f4 : 30 + f ≠ 22 := by omega
    have f5 : ¬ 30 + f ≤ 29 := by omega
    have f6 : 30 ≤ 30 + f := by omega
    have f7 : 30 + f ≤ 37 := by omega
    have f8 : 30 + f - 30 = f := by omega
    simp [h1, h2, applyL_cons, stepL, oneM, within, f1, f2, f3, f4, f5, f6, f7, f8]
  by_cases h3 : f < 16
  · have c : 8 ≤ f := by omega
    obtain ⟨n, hn⟩ : ∃ n, n = 30 + 60 + f - 8 := ⟨_, rfl⟩
    have f1 : n ≠ 38 := by omega
    have f2 : n ≠ 48 := by omega
    have f3 : n ≠ 0 := by omega
    have f4 : n ≠ 22 := by omega
    have f5 : ¬ n ≤ 29 := by omega
    have f6 : ¬ n ≤ 37 := by omega
    have f7 : ¬ n ≤ 47 := by omega
    have f8 : 90 ≤ n := by omega
    have f9 : n ≤ 97 := by omega
    have f10 : n - 82 = f := by omega
    rw [if_neg h1, if_neg h2, if_pos h3, ← hn]
    simp [applyL_cons, stepL, oneM, within, f1, f2, f3, f4, f5, f6, f7, f8, f9, f10]
  by_cases h4 : f ≤ 255
  · simp [h1, h2, h3, h4, applyL_cons, stepL, extM, within_T (show 0 ≤ f ∧ f ≤ 255 by omega)]
  · obtain ⟨x, y, z, e1, e2, e3, b1, b2, b3, e4⟩ := parts f (by unfold okC at h; omega)
    simp [h1, h2, h3, h4, applyL_cons, stepL, extM, e1, e2, e3, within_T b1, within_T b2, within_T b3, e4]
theorem ap_col40 (f b g : Int) (r : List Int) (h : okC b) : applyL (sayColM b 40 ++ r) ⟨f, -1, g⟩ = applyL r ⟨f, b, g⟩ := by
  unfold sayColM
  by_cases h1 : b = -1
  · simp [h1]
  by_cases h2 : b < 8
  · have c : 0 ≤ b := by unfold okC at h; omega
    have f1 : 40 + b ≠ 38 := by omega
    have f2 : 40 + b ≠ 48 := by omega
    have f3 : 40 + b ≠ 0 := by omega
    have f4 : 40 + b ≠ 22 := by omega
    have f5 : ¬ 40 + b ≤ 29 := by omega
    have f6 : ¬ 40 + b ≤ 37 := by omega
    have f7 : 40 ≤ 40 + b := by omega
    have f8 : 40 + b ≤ 47 := by omega
    have f9 : 40 + b - 40 = b := by omega
    simp [h1, h2, applyL_cons, stepL, oneM, within, f1, f2, f3, f4, f5, f6, f7, f8, f9]
  by_cases h3 : b < 16
  · have c : 8 ≤ b := by omega
    obtain ⟨n, hn⟩ : ∃ n, n = 40 + 60 + b - 8 := ⟨_, rfl⟩
    have f1 : n ≠ 38 := by omega
    have f2 : n ≠ 48 := by omega
    have f3 : n ≠ 0 := by omega
    have f4 : n ≠ 22 := by omega
    have f5 : ¬ n ≤ 29 := by omega
    have f6 : ¬ n ≤ 37 := by omega
    have f7 : ¬ n ≤ 47 := by omega
    have f8 : ¬ n ≤ 97 := by omega
    have f9 : 100 ≤ n := by omega
    have f10 : n ≤ 107 := by omega
    have f11 : n - 92 = b := by omega
    rw [if_neg h1, if_neg h2, if_pos h3, ← hn]
    simp [applyL_cons, stepL, oneM, within, f1, f2, f3, f4, f5, f6, f7, f8, f9, f10, f11]
  by_cases h4 : b ≤ 255
  · simp [h1, h2, h3, h4, applyL_cons, stepL, extM, within_T (show 0 ≤ b ∧ b ≤ 255 by omega)]
  · obtain ⟨x, y, z, e1, e2, e3, b1, b2, b3, e4⟩ := parts b (by unfold okC at h; omega)
    simp [h1, h2, h3, h4, applyL_cons, stepL, extM, e1, e2, e3, within_T b1, within_T b2, within_T b3, e4]
theorem col_bounds (f base : Int) (h : okC f) (hb : base = 30 ∨ base = 40) : ∀ n, n ∈ sayColM f base → 0 ≤ n ∧ n ≤ 255 := by
  intro n hn
  unfold sayColM at hn
  unfold okC at h
  by_cases h1 : f = -1
  · simp [h1] at hn
  by_cases h2 : f < 8
  · simp [h1, h2] at hn; omega
  by_cases h3 : f < 16
  · simp [h1, h2, h3] at hn; omega
  by_cases h4 : f ≤ 255
  · simp [h1, h2, h3, h4] at hn; omega
  · obtain ⟨x, y, z, e1, e2, e3, b1, b2, b3, e4⟩ := parts f (by omega)
    simp [h1, h2, h3, h4, e1, e2, e3] at hn
    omega
theorem say_ok (p q : Pen) (hf : okC q.fore) (hb : okC q.back) (hg : 0 ≤ q.flags ∧ q.flags ≤ 255) :
    applyL (sayM q) p = q ∧ (∀ n, n ∈ sayM q → 0 ≤ n ∧ n ≤ 255) ∧ (∃ t, sayM q = 0 :: t) ∧ (sayM q).length ≤ 19 := by
  obtain ⟨f, b, g⟩ := q
  simp only at hf hb hg
  obtain ⟨a, rfl⟩ : ∃ a : Nat, g = (a : Int) := ⟨g.toNat, by omega⟩
  obtain ⟨d1, d2, d3, d4⟩ := stN_dec ⟨a, by omega⟩
  simp only at d1 d2 d3 d4
  have es := stM_nat a (by omega) 8 (by omega)
  have l1 := sayColM_len f 30
  have l2 := sayColM_len b 40
  unfold sayM
  simp only
  rw [es]
  rw [d1] at d4 ⊢
  generalize (stN a 8).tail = tl at *
  refine ⟨?_, ?_, ⟨tl.map (fun n : Nat => (n : Int)) ++ sayColM f 30 ++ sayColM b 40, by simp⟩, ?_⟩
  · rw [List.map_cons, List.cons_append, List.cons_append, applyL_cons]
    have e0 : ∀ t, stepL ((0 : Nat) : Int) t p = (⟨-1, -1, ((0 : Nat) : Int)⟩, 0) := fun t => by simp [stepL, oneM, plainP]
    rw [e0]
    simp only [List.drop_zero]
    rw [List.append_assoc, ap_flagL _ _ _ tl 0 (by omega) d2, d3, ap_col30 _ _ _ _ hf]
    have := ap_col40 f b (a : Int) [] hb
    rw [List.append_nil] at this
    rw [this, applyL_nil]
  · intro n hn
    rw [List.mem_append, List.mem_append] at hn
    rcases hn with (hn | hn) | hn
    · rw [List.mem_map] at hn
      obtain ⟨m, hm, rfl⟩ := hn
      rcases List.mem_cons.1 hm with rfl | hm
      · omega
      · have := d2 m hm
        simp at this
        omega
    · exact col_bounds f 30 hf (.inl rfl) n hn
    · exact col_bounds b 40 hb (.inr rfl) n hn
  · rw [List.length_append, List.length_append, List.length_map]
    omega
end Go.Proofs.Ytohjgdaogcliiaa.LgTab
