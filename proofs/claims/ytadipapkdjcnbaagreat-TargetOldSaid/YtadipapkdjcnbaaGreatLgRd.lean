import Derived.Test.YtadipapkdjcnbaaGreatLgRc
/-
  Margins set.
-/
namespace Go.Proofs.YtadipapkdjcnbaaGreat.LgTab
open Go Lg
set_option linter.unusedVariables false
set_option linter.unusedSimpArgs false
set_option maxRecDepth 8000
theorem arg_some {l : List Int} {i : Nat} {x : Int} (h : l[i]? = some x) (n lo hi : Int) : argI l i n lo hi = mxI lo (mnI (if x ≠ -1 ∧ (x ≠ 0 ∨ lo ≤ 0) then x else n) hi) := by
  unfold argI
  rw [h]
theorem marg_t (a b h : Int) (ha : 0 ≤ a ∧ a ≤ 9) : from1I [a, b] 0 = mxI a 1 := by
  unfold from1I
  rw [arg_some (x := a) rfl]
  unfold mxI mnI
  repeat' split
  all_goals omega
theorem marg_b (a b h : Int) (hb : 0 ≤ b ∧ b ≤ 9) (hh : 1 ≤ h) : argI [a, b] 1 h 1 h = if 0 < b then mnI b h else h := by
  rw [arg_some (x := b) rfl]
  unfold mxI mnI
  repeat' split
  all_goals omega
/-- What margins do. -/
theorem margS_is (s : Sc) (o : OkS s) (e : Ev) (a b : Int) (ep : e.par = [a, b]) (ha : 0 ≤ a ∧ a ≤ 9) (hb : 0 ≤ b ∧ b ≤ 9) :
    margS s e = if mxI a 1 - 1 < (if 0 < b then mnI b s.g.h else (s.g.h : Int)) - 1 then homeS { s with top := mxI a 1 - 1, bot := (if 0 < b then mnI b s.g.h else (s.g.h : Int)) - 1 } else s := by
  unfold margS
  have h1 := o.g.1
  rw [ep, marg_t a b s.g.h ha, marg_b a b s.g.h hb (by omega)]
  simp only
  generalize mxI a 1 - 1 = t
  generalize (if 0 < b then mnI b s.g.h else (s.g.h : Int)) - 1 = u
  by_cases h : u ≤ t
  · rw [if_pos h, if_neg (by omega)]
  · rw [if_neg h, if_pos (by omega)]
end Go.Proofs.YtadipapkdjcnbaaGreat.LgTab
