import Derived.Test.YtflnllohghgpdaaLgQ4
/-
  DialectTells: its law.
-/
namespace Go.Proofs.Ytflnllohghgpdaa.LgTab
open Go Lg
set_option linter.unusedVariables false
set_option linter.unusedSimpArgs false
set_option maxRecDepth 8000
theorem inB_eq (l : List UInt8) (c : Int) : inB l c = l.any fun b => decide (c = (b.toNat : Int)) := by
  unfold inB
  congr 1
  funext b
  simp [eq_comm]
def gap (e : Ev) : Prop := (e.kind = 1 ∧ (e.priv ≠ 0 ∨ e.inter ≠ 0)) ∨ (e.kind = 2 ∧ (e.priv ≠ 0 ∨ e.inter ≠ 0)) ∨ (e.kind = 3 ∧ e.priv ≠ 0)
theorem knows_ref (k : Int) (e : Ev) (hk : 0 ≤ k ∧ k ≤ 4) (hg : ¬ gap e) : knowsM k e = refK k e := by
  obtain ⟨kind, rune, priv, inter, fin, par, text⟩ := e
  simp only [gap] at hg
  have h5 : k = 0 ∨ k = 4 ∨ k = 1 ∨ k = 2 ∨ k = 3 := by omega
  have hq : kind = 1 ∨ kind = 2 ∨ kind = 3 ∨ kind = 4 ∨ (kind ≠ 1 ∧ kind ≠ 2 ∧ kind ≠ 3 ∧ kind ≠ 4) := by omega
  rcases h5 with rfl | rfl | h5
  · simp [knowsM, refK, tblM]
  · simp [knowsM, refK, tblM]
  · rcases hq with rfl | rfl | rfl | rfl | ⟨n1, n2, n3, n4⟩
    · obtain ⟨hp, hi⟩ : priv = 0 ∧ inter = 0 := by omega
      subst hp hi
      rcases h5 with rfl | rfl | rfl <;> rw [Bool.eq_iff_iff] <;> simp [knowsM, refK, tblM, rowsM, keyM] <;> grind
    · obtain ⟨hp, hi⟩ : priv = 0 ∧ inter = 0 := by omega
      subst hp hi
      rcases h5 with rfl | rfl | rfl <;> rw [Bool.eq_iff_iff] <;> simp [knowsM, refK, tblM, rowsM, keyM] <;> grind
    · obtain rfl : priv = 0 := by omega
      rcases h5 with rfl | rfl | rfl <;> rw [Bool.eq_iff_iff] <;> simp [knowsM, refK, tblM, rowsM, keyM, inB_eq] <;> grind
    · by_cases hi : inter = 0
      · subst hi
        by_cases hp : priv = 63
        · subst hp
          rcases h5 with rfl | rfl | rfl <;> rw [Bool.eq_iff_iff] <;> simp [knowsM, refK, tblM, rowsM, keyM, inB_eq] <;> try omega
        by_cases hp0 : priv = 0
        · subst hp0
          rcases h5 with rfl | rfl | rfl <;> rw [Bool.eq_iff_iff] <;> simp [knowsM, refK, tblM, rowsM, keyM, inB_eq] <;> try omega
        rcases h5 with rfl | rfl | rfl <;> rw [Bool.eq_iff_iff] <;> simp [knowsM, refK, tblM, rowsM, keyM, inB_eq, hp, hp0]
      · rcases h5 with rfl | rfl | rfl <;> rw [Bool.eq_iff_iff] <;> simp [knowsM, refK, tblM, rowsM, keyM, inB_eq, hi]
    · rcases h5 with rfl | rfl | rfl <;> simp [knowsM, refK, tblM, rowsM, keyM, n1, n2, n3, n4]
end Go.Proofs.Ytflnllohghgpdaa.LgTab
