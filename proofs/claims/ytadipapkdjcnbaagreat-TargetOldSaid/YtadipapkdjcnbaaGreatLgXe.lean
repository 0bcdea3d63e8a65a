import Derived.Test.YtadipapkdjcnbaaGreatLgXd
/-
  TargetOld: its law.
-/
namespace Go.Proofs.YtadipapkdjcnbaaGreat.LgTab
open Go Lg
set_option linter.unusedVariables false
set_option linter.unusedSimpArgs false
set_option maxRecDepth 8000
def lastB : List Int := [49, 50, 51, 52, 53, 54, 55, 56, 57, 120, 121, 122]
def lastE : List Ev := lastB.map runeE
/-- The screen behind the last text. -/
noncomputable def lastS : Sc := allN (oldS 0 0) lastE 12
theorem last_known (i : Nat) (h : i < 12) : ∃ b, lastB[i]? = some b ∧ lastE[i]? = some (runeE b) ∧ (32 ≤ b ∧ b ≤ 126) ∧ knownE (runeE b) := by
  have hc : i = 0 ∨ i = 1 ∨ i = 2 ∨ i = 3 ∨ i = 4 ∨ i = 5 ∨ i = 6 ∨ i = 7 ∨ i = 8 ∨ i = 9 ∨ i = 10 ∨ i = 11 := by omega
  rcases hc with rfl | rfl | rfl | rfl | rfl | rfl | rfl | rfl | rfl | rfl | rfl | rfl
  · exact ⟨49, rfl, rfl, by omega, known_1⟩
  · exact ⟨50, rfl, rfl, by omega, known_2⟩
  · exact ⟨51, rfl, rfl, by omega, known_3⟩
  · exact ⟨52, rfl, rfl, by omega, known_4⟩
  · exact ⟨53, rfl, rfl, by omega, known_5⟩
  · exact ⟨54, rfl, rfl, by omega, known_6⟩
  · exact ⟨55, rfl, rfl, by omega, known_7⟩
  · exact ⟨56, rfl, rfl, by omega, known_8⟩
  · exact ⟨57, rfl, rfl, by omega, known_9⟩
  · exact ⟨120, rfl, rfl, by omega, known_x⟩
  · exact ⟨121, rfl, rfl, by omega, known_y⟩
  · exact ⟨122, rfl, rfl, by omega, known_z⟩
theorem feed_last (k : Nat) (r c y : Int) (hr : 0 ≤ r ∧ r ≤ 4) (hc : 0 ≤ c ∧ c ≤ 8) : evFun (clOf (modsR tab (k + 13)) 3) s30 [tmD (oldS r c) 0 y 0, .sl 1 [U 27, U 72, U 49, U 50, U 51, U 52, U 53, U 54, U 55, U 56, U 57, U 120, U 121, U 122]] = some (.tup [], [tmD lastS 0 y 0]) := by
  have o0 := oldS_ok (r := 0) (c := 0) (by omega) (by omega)
  refine feed k 14 (by omega) [U 27, U 72, U 49, U 50, U 51, U 52, U 53, U 54, U 55, U 56, U 57, U 120, U 121, U 122] rfl (fun i => if i < 2 then oldS r c else allN (oldS 0 0) lastE (i - 2)) (fun i => if i = 1 then 1 else 0) (fun _ => y) 0 ?_
  intro i hi
  by_cases h0 : i = 0
  · subst h0
    exact ⟨27, rfl, fun q => push_a q _ _ _⟩
  by_cases h1 : i = 1
  · subst h1
    refine ⟨72, rfl, fun q => ?_⟩
    have h := push_e q _ (oldS_ok hr hc) y 0 72 (by omega) (by omega) known_H
    rw [old_H] at h
    exact h
  obtain ⟨j, rfl⟩ : ∃ j, i = j + 2 := ⟨i - 2, by omega⟩
  obtain ⟨b, hb, he, hb2, hk⟩ := last_known j (by omega)
  have hbs : ([U 27, U 72, U 49, U 50, U 51, U 52, U 53, U 54, U 55, U 56, U 57, U 120, U 121, U 122] : List D)[j + 2]? = some (U b) := by
    have e : ([U 27, U 72, U 49, U 50, U 51, U 52, U 53, U 54, U 55, U 56, U 57, U 120, U 121, U 122] : List D) = U 27 :: U 72 :: lastB.map U := rfl
    rw [e, List.getElem?_cons_succ, List.getElem?_cons_succ, List.getElem?_map, hb]
    rfl
  refine ⟨b, hbs, fun q => ?_⟩
  have hs := allN_snoc (oldS 0 0) he
  have h := push_f q _ (allN_ok o0 lastE j) y 0 b hb2 hk
  rw [← hs] at h
  have a1 : ¬ j + 2 < 2 := by omega
  have a2 : ¬ j + 2 + 1 < 2 := by omega
  have a3 : ¬ j + 2 = 1 := by omega
  have a4 : ¬ j + 2 + 1 = 1 := by omega
  have a5 : j + 2 - 2 = j := by omega
  have a6 : j + 2 + 1 - 2 = j + 1 := by omega
  simp only [a1, a2, a3, a4, a5, a6, if_false]
  exact h
end Go.Proofs.YtadipapkdjcnbaaGreat.LgTab
