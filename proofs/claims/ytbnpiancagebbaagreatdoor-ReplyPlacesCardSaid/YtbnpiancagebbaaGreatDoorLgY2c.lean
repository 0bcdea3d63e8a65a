import Derived.Test.YtbnpiancagebbaaGreatDoorLgY2a
import Derived.Test.YtbnpiancagebbaaGreatDoorLgY2b
/-
  A screen that is made of numbers.
-/
namespace Go.Proofs.YtbnpiancagebbaaGreatDoor.LgTab
open Go Lg
set_option linter.unusedVariables false
set_option linter.unusedSimpArgs false
set_option maxRecDepth 8000
theorem sp66 (k : Nat) (a b : Int) (rs ps : List Int) (kr kc kt kb kf p1 p2 p3 tabs : Int) (hr : rs.length ≤ 9223372036854775807) (hp : ps.length ≤ 9223372036854775807) :
    GoodS (evFun (clOf (modsR tab (k + 4)) 3) s66 [.agg [I a, I b, .sl 1 (rs.map I), .sl 1 (ps.map I), I kr, I kc, I kt, I kb, I kf, I p1, I p2, I p3, T64 tabs]]) := by
  obtain ⟨h, w, cells, w64, bh, bw, hcl⟩ := sp64 k a b rs ps hr hp
  by_cases h1 : 1 < h
  · exact sp66a k a b rs ps kr kc kt kb kf p1 p2 p3 tabs h w cells w64 bh bw hcl h1 hr hp
  · exact sp66b k a b rs ps kr kc kt kb kf p1 p2 p3 tabs h w cells w64 bh bw hcl h1 hr hp
end Go.Proofs.YtbnpiancagebbaaGreatDoor.LgTab
