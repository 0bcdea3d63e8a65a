import Derived.Test.YtjbdijfibllddaaDoorLgW1t
import Derived.Test.YtjbdijfibllddaaDoorLgW1f
import Derived.Test.YtjbdijfibllddaaDoorLgW2t
import Derived.Test.YtjbdijfibllddaaDoorLgW2f
import Derived.Test.YtjbdijfibllddaaDoorLgW3
/-
  SayTells: its law.
-/
namespace Go.Proofs.YtjbdijfibllddaaDoor.LgTab
open Go Lg
theorem sp214 (k : Nat) (d0 r0 c0 n0 x : Int) (on : Bool) (hx : -2147483648 ≤ x ∧ x ≤ 2147483647) : evFun (clOf (modsR tab (k + 13)) 3) s214 [I d0, I r0, I c0, I n0, R x, B on] = some (B true, []) := by
  obtain ⟨d, hd⟩ : ∃ d, d = 0 + d0 % (4 - 0 + 1) := ⟨_, rfl⟩
  have wd := sp174c (k + 12) d0 0 4 (by omega) (by omega) (by omega) d hd
  have bd : 0 ≤ d ∧ d ≤ 4 := by omega
  clear hd
  rcases of_five bd with rfl | rfl | rfl | rfl | rfl
  · cases on with
    | true => exact sp214_0t k d0 r0 c0 n0 x hx wd
    | false => exact sp214_0f k d0 r0 c0 n0 x hx wd
  · cases on with
    | true => exact sp214_1t k d0 r0 c0 n0 x hx wd
    | false => exact sp214_1f k d0 r0 c0 n0 x hx wd
  · cases on with
    | true => exact sp214_2t k d0 r0 c0 n0 x hx wd
    | false => exact sp214_2f k d0 r0 c0 n0 x hx wd
  · cases on with
    | true => exact sp214_3t k d0 r0 c0 n0 x hx wd
    | false => exact sp214_3f k d0 r0 c0 n0 x hx wd
  · cases on with
    | true => exact sp214_4t k d0 r0 c0 n0 x hx wd
    | false => exact sp214_4f k d0 r0 c0 n0 x hx wd
end Go.Proofs.YtjbdijfibllddaaDoor.LgTab
