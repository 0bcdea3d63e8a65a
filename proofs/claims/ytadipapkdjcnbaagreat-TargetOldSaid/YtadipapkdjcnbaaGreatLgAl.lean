import Derived.Test.YtadipapkdjcnbaaGreatLgQx
import Derived.Test.YtadipapkdjcnbaaGreatLgQz
/-
  Events done one behind the other; what comes as events.
-/
namespace Go.Proofs.YtadipapkdjcnbaaGreat.LgTab
open Go Lg
set_option linter.unusedVariables false
set_option linter.unusedSimpArgs false
set_option maxRecDepth 8000
/-- Events, one behind the other. -/
noncomputable def allS (s : Sc) (l : List Ev) : Sc := l.foldl doS s
theorem allS_ok {s : Sc} (o : OkS s) (l : List Ev) : OkS (allS s l) := by
  induction l generalizing s with
  | nil => exact o
  | cons e l ih => exact ih (doS_ok o e)
def evsD (l : List Ev) : List D := l.map fun e => evD e
theorem evsD_len (l : List Ev) : (evsD l).length = l.length := by simp [evsD]
theorem evsD_getD {l : List Ev} {n : Nat} {e : Ev} (h : l[n]? = some e) : (evsD l)[n]? = some (evD e) := by unfold evsD; rw [List.getElem?_map, h]; rfl
theorem evsD_at {l : List Ev} {n : Nat} {e : Ev} (h : l[n]? = some e) : ∀ h' : n < (evsD l).length, (evsD l)[n]'h' = evD e := get_of (evsD_getD h)
/-- The first so many of them. -/
noncomputable def allN (s : Sc) (l : List Ev) (i : Nat) : Sc := allS s (l.take i)
theorem allN_0 (s : Sc) (l : List Ev) : allN s l 0 = s := rfl
theorem allN_all (s : Sc) (l : List Ev) : allN s l l.length = allS s l := by unfold allN; rw [List.take_of_length_le (Nat.le_refl _)]
theorem allN_ok {s : Sc} (o : OkS s) (l : List Ev) (i : Nat) : OkS (allN s l i) := allS_ok o _
theorem allN_snoc (s : Sc) {l : List Ev} {i : Nat} {e : Ev} (h : l[i]? = some e) : allN s l (i + 1) = doS (allN s l i) e := by
  unfold allN allS
  rw [take_snoc h, List.foldl_append]
  rfl
/-- What comes as an event of numbers. -/
structure Kev where
  kd : Int
  rn : Int
  fn : Int
  ps : List Int
  tx : List Int
abbrev kevD (e : Kev) : D := .agg [I e.kd, I e.rn, I e.fn, .sl 1 (e.ps.map I), .sl 1 (e.tx.map U)]
def kevsD (l : List Kev) : List D := l.map fun e => kevD e
theorem kevsD_len (l : List Kev) : (kevsD l).length = l.length := by simp [kevsD]
theorem kevsD_getD {l : List Kev} {n : Nat} {e : Kev} (h : l[n]? = some e) : (kevsD l)[n]? = some (kevD e) := by unfold kevsD; rw [List.getElem?_map, h]; rfl
theorem kevsD_at {l : List Kev} {n : Nat} {e : Kev} (h : l[n]? = some e) : ∀ h' : n < (kevsD l).length, (kevsD l)[n]'h' = kevD e := get_of (kevsD_getD h)
theorem isROs_U : ∀ l : List Int, isROs (l.map U) = true
  | [] => rfl
  | n :: l => by simp [isROs, isRO, isROs_U l]
end Go.Proofs.YtadipapkdjcnbaaGreat.LgTab
