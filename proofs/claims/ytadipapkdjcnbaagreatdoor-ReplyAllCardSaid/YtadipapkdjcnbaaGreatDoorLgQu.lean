import Derived.Test.YtadipapkdjcnbaaGreatDoorLgQt
/-
  What is made of numbers: any screen, right.
-/
namespace Go.Proofs.YtadipapkdjcnbaaGreatDoor.LgTab
open Go Lg
set_option linter.unusedVariables false
set_option linter.unusedSimpArgs false
set_option maxRecDepth 8000
theorem within_b (n lo hi : Int) (h : lo ≤ hi) : lo ≤ lo + n % (hi - lo + 1) ∧ lo + n % (hi - lo + 1) ≤ hi := by
  have := Int.emod_nonneg n (b := hi - lo + 1) (by omega)
  have := Int.emod_lt_of_pos n (b := hi - lo + 1) (by omega)
  omega
theorem sp66 (k : Nat) (a b : Int) (rs ps : List Int) (hr : rs.length ≤ 9223372036854775807) (hp : ps.length ≤ 9223372036854775807) (kr kc kt kb kf p1 p2 p3 : Int) (tabs : Nat) (ht : tabs < 2 ^ 64) :
    ∃ s : Sc, evFun (clOf (modsR tab (k + 4)) 3) s66 [.agg [I a, I b, .sl 1 (intsD rs), .sl 1 (intsD ps), I kr, I kc, I kt, I kb, I kf, I p1, I p2, I p3, T64 tabs]] = some (scD s, []) ∧ OkS s ∧ RightS s ∧ s.g.h ≤ 5 ∧ s.g.w ≤ 9 := by
  obtain ⟨g, w64, hg, h5, w9⟩ := sp64 k a b rs ps hr hp
  have h0 := hg.1.1
  have w0 := hg.1.2.2.1
  have b1 := within_b kr 0 ((g.h : Int) - 1) (by omega)
  have b2 := within_b kc 0 ((g.w : Int) - 1) (by omega)
  have b3 := within_b kc 0 ((g.h : Int) - 1) (by omega)
  have b4 := within_b kr 0 ((g.w : Int) - 1) (by omega)
  by_cases h1 : (1 : Int) < g.h
  · have b5 := within_b kt 0 ((g.h : Int) - 2) (by omega)
    obtain ⟨top, et⟩ : ∃ t, t = 0 + kt % ((g.h : Int) - 2 - 0 + 1) := ⟨_, rfl⟩
    rw [← et] at b5
    have b6 := within_b kb (top + 1) ((g.h : Int) - 1) (by omega)
    obtain ⟨bot, eb⟩ : ∃ t, t = top + 1 + kb % ((g.h : Int) - 1 - (top + 1) + 1) := ⟨_, rfl⟩
    rw [← eb] at b6
    exact ⟨_, sp66w k a b rs ps kr kc kt kb kf p1 p2 p3 tabs g h5 w9 _ _ top bot _ _ w64 (fun q => sp174 q kr 0 _ (by omega) (by omega) (by omega)) (fun q => sp174 q kc 0 _ (by omega) (by omega) (by omega)) (fun q => sp174 q kc 0 _ (by omega) (by omega) (by omega)) (fun q => sp174 q kr 0 _ (by omega) (by omega) (by omega))
      (fun _ => ⟨by omega, by omega, fun q => sp174c q kt 0 _ (by omega) (by omega) (by omega) top et, fun q => sp174c q kb (top + 1) _ (by omega) (by omega) (by omega) bot eb⟩) (fun h => absurd h1 h),
      (keepS_ok hg h5 w9 kf p1 p2 p3 ht (by omega) (by omega) (by omega) (by omega) (by omega) (by omega) (by omega)).1, (keepS_ok hg h5 w9 kf p1 p2 p3 ht (by omega) (by omega) (by omega) (by omega) (by omega) (by omega) (by omega)).2, h5, w9⟩
  · exact ⟨_, sp66w k a b rs ps kr kc kt kb kf p1 p2 p3 tabs g h5 w9 _ _ 0 ((g.h : Int) - 1) _ _ w64 (fun q => sp174 q kr 0 _ (by omega) (by omega) (by omega)) (fun q => sp174 q kc 0 _ (by omega) (by omega) (by omega)) (fun q => sp174 q kc 0 _ (by omega) (by omega) (by omega)) (fun q => sp174 q kr 0 _ (by omega) (by omega) (by omega))
      (fun h => absurd h h1) (fun _ => ⟨rfl, rfl⟩),
      (keepS_ok hg h5 w9 kf p1 p2 p3 ht (by omega) (by omega) (by omega) (by omega) (by omega) (by omega) (by omega)).1, (keepS_ok hg h5 w9 kf p1 p2 p3 ht (by omega) (by omega) (by omega) (by omega) (by omega) (by omega) (by omega)).2, h5, w9⟩
end Go.Proofs.YtadipapkdjcnbaaGreatDoor.LgTab
