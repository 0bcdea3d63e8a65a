import Derived.Test.YtadipapkdjcnbaaGreatLgQr
/-
  What is made of numbers: pens, grids.
-/
namespace Go.Proofs.YtadipapkdjcnbaaGreat.LgTab
open Go Lg
set_option linter.unusedVariables false
set_option linter.unusedSimpArgs false
set_option maxRecDepth 8000
theorem sp174 (k : Nat) (n lo hi : Int) (h1 : -1099511627776 ≤ lo) (h2 : lo ≤ hi) (h3 : hi ≤ 1099511627776) : evFun (clOf (modsR tab k) 3) s174 [I n, I lo, I hi] = some (I (lo + n % (hi - lo + 1)), []) := by
  rw [evFun_evB rfl]
  unfold s174
  have e1 : wr (hi - lo) = hi - lo := wr_id _ (by omega) (by omega)
  have e2 : wr (hi - lo + 1) = hi - lo + 1 := wr_id _ (by omega) (by omega)
  have hd : 0 < hi - lo + 1 := by omega
  have hz : ¬ (hi - lo + 1 = 0) := by omega
  have b0 := Int.emod_nonneg n (b := hi - lo + 1) (by omega)
  have b1 := Int.emod_lt_of_pos n hd
  by_cases hn : n.tmod (hi - lo + 1) < 0
  · have t := tmod_neg hd hn
    have e3 : wr (n.tmod (hi - lo + 1) + hi) = n.tmod (hi - lo + 1) + hi := wr_id _ (by omega) (by omega)
    have e4 : wr (n.tmod (hi - lo + 1) + hi - lo) = n.tmod (hi - lo + 1) + hi - lo := wr_id _ (by omega) (by omega)
    have e5 : wr (n.tmod (hi - lo + 1) + hi - lo + 1) = n % (hi - lo + 1) := by rw [wr_id _ (by omega) (by omega)]; omega
    have e6 : wr (lo + n % (hi - lo + 1)) = lo + n % (hi - lo + 1) := wr_id _ (by omega) (by omega)
    simp -implicitDefEqProofs [binD_rem, e1, e2, e3, e4, e5, e6, hz, hn]
  · have t := tmod_pos hd hn
    rw [t] at hn
    have e6 : wr (lo + n % (hi - lo + 1)) = lo + n % (hi - lo + 1) := wr_id _ (by omega) (by omega)
    simp -implicitDefEqProofs [binD_rem, e1, e2, e6, hz, hn, t]
/-- Within, of bounds that are known. -/
theorem sp174c (k : Nat) (n lo hi : Int) (h1 : -1099511627776 ≤ lo) (h2 : lo ≤ hi) (h3 : hi ≤ 1099511627776) (w : Int) (hw : w = lo + n % (hi - lo + 1)) : evFun (clOf (modsR tab k) 3) s174 [I n, I lo, I hi] = some (I w, []) := by rw [hw]; exact sp174 k n lo hi h1 h2 h3
def colOk (c : Int) : Prop := c = -1 ∨ (0 ≤ c ∧ c ≤ 255) ∨ (16777216 ≤ c ∧ c < 33554432)
def PR (p : Pn) : Prop := colOk p.f ∧ colOk p.b ∧ 0 ≤ p.g ∧ p.g ≤ 255
noncomputable def colourM : Int → Int := hid fun n =>
  if n % 4 = 0 then -1 else if n % 4 = 1 then wr (n.tdiv 4) % 16 else if n % 4 = 2 then wr (n.tdiv 4) % 256 else 16777216 + wr (n.tdiv 4) % 16777216
theorem colourM_def (n : Int) : colourM n = if n % 4 = 0 then -1 else if n % 4 = 1 then wr (n.tdiv 4) % 16 else if n % 4 = 2 then wr (n.tdiv 4) % 256 else 16777216 + wr (n.tdiv 4) % 16777216 := by unfold colourM; rw [hid_eq]
theorem colourM_ok (n : Int) : colOk (colourM n) := by
  rw [colourM_def]
  unfold colOk
  repeat' split
  all_goals omega
noncomputable def penM (a b c : Int) : Pn := ⟨colourM a, colourM b, c % 256⟩
theorem penM_ok (a b c : Int) : PR (penM a b c) := ⟨colourM_ok a, colourM_ok b, by show 0 ≤ c % 256 ∧ c % 256 ≤ 255; omega⟩
/-- What a cell keeps to, in rows of so many. -/
def FitC (l : List Cel) (w j : Nat) (c : Cel) : Prop :=
  PR c.p ∧ ((c.k = 0 ∧ widthR c.r = 1) ∨ (c.k = 1 ∧ widthR c.r = 2 ∧ (j + 1) % w ≠ 0 ∧ ∃ d, l[j + 1]? = some d ∧ d.k = 2 ∧ d.p = c.p) ∨ (c.k = 2 ∧ c.r = 0 ∧ j % w ≠ 0 ∧ ∃ i d, j = i + 1 ∧ l[i]? = some d ∧ d.k = 1 ∧ d.p = c.p))
def RightL (l : List Cel) (w : Nat) : Prop := ∀ j c, l[j]? = some c → FitC l w j c
theorem FitC.app {l : List Cel} {w j : Nat} {c : Cel} (h : FitC l w j c) (t : List Cel) : FitC (l ++ t) w j c := by
  have up : ∀ {i : Nat} {d : Cel}, l[i]? = some d → (l ++ t)[i]? = some d := fun {i d} hd => by
    rw [List.getElem?_append_left (List.getElem?_eq_some_iff.1 hd).1]; exact hd
  obtain ⟨hp, h | ⟨h1, h2, h3, d, h4, h5⟩ | ⟨h1, h2, h3, i, d, h4, h5, h6⟩⟩ := h
  · exact ⟨hp, .inl h⟩
  · exact ⟨hp, .inr (.inl ⟨h1, h2, h3, d, up h4, h5⟩)⟩
  · exact ⟨hp, .inr (.inr ⟨h1, h2, h3, i, d, h4, up h5, h6⟩)⟩
theorem RightL.one {l : List Cel} {w : Nat} (h : RightL l w) (r : Int) (p : Pn) (hp : PR p) (hr : widthR r = 1) : RightL (l ++ [⟨r, 0, p⟩]) w := by
  intro j c hj
  rcases Nat.lt_or_ge j l.length with hlt | hge
  · rw [List.getElem?_append_left hlt] at hj
    exact (h j c hj).app _
  · rw [List.getElem?_append_right hge] at hj
    rcases hj0 : j - l.length with _ | n
    · rw [hj0] at hj
      simp only [List.getElem?_cons_zero, Option.some.injEq] at hj
      subst hj
      exact ⟨hp, .inl ⟨rfl, hr⟩⟩
    · rw [hj0] at hj
      simp at hj
theorem RightL.two {l : List Cel} {w : Nat} (h : RightL l w) (r : Int) (p : Pn) (hp : PR p) (hr : widthR r = 2) (hm : (l.length + 1) % w ≠ 0) : RightL (l ++ [⟨r, 1, p⟩, ⟨0, 2, p⟩]) w := by
  intro j c hj
  rcases Nat.lt_or_ge j l.length with hlt | hge
  · rw [List.getElem?_append_left hlt] at hj
    exact (h j c hj).app _
  · rw [List.getElem?_append_right hge] at hj
    rcases hj0 : j - l.length with _ | _ | n
    · rw [hj0] at hj
      simp only [List.getElem?_cons_zero, Option.some.injEq] at hj
      subst hj
      obtain rfl : j = l.length := by omega
      refine ⟨hp, .inr (.inl ⟨rfl, hr, hm, ⟨0, 2, p⟩, ?_, rfl, rfl⟩)⟩
      rw [List.getElem?_append_right (by omega)]
      simp
    · rw [hj0] at hj
      simp only [List.getElem?_cons_succ, List.getElem?_cons_zero, Option.some.injEq, Nat.zero_add] at hj
      subst hj
      obtain rfl : j = l.length + 1 := by omega
      refine ⟨hp, .inr (.inr ⟨rfl, rfl, hm, l.length, ⟨r, 1, p⟩, rfl, ?_, rfl, rfl⟩)⟩
      rw [List.getElem?_append_right (by omega)]
      simp
    · rw [hj0] at hj
      simp at hj
theorem width_a (u : Int) (h : 0 ≤ u ∧ u ≤ 9) : widthR (97 + u) = 1 := by
  have hc : u = 0 ∨ u = 1 ∨ u = 2 ∨ u = 3 ∨ u = 4 ∨ u = 5 ∨ u = 6 ∨ u = 7 ∨ u = 8 ∨ u = 9 := by omega
  rcases hc with rfl | rfl | rfl | rfl | rfl | rfl | rfl | rfl | rfl | rfl <;> rfl
theorem width_w (u : Int) (h : 0 ≤ u ∧ u ≤ 8) : widthR (19968 + u) = 2 := by
  have hc : u = 0 ∨ u = 1 ∨ u = 2 ∨ u = 3 ∨ u = 4 ∨ u = 5 ∨ u = 6 ∨ u = 7 ∨ u = 8 := by omega
  rcases hc with rfl | rfl | rfl | rfl | rfl | rfl | rfl | rfl | rfl <;> rfl
/-- A grid that is right, of no more than so many. -/
def RightG (g : Gd) : Prop := OkG g ∧ RightL g.cells g.w
end Go.Proofs.YtadipapkdjcnbaaGreat.LgTab
