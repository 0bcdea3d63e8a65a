import Derived.Test.YtmmbkjigflhmjaaGreatLgQs
/-
  Right grids are seen to be right; what is the same is seen to be the same.
-/
namespace Go.Proofs.YtmmbkjigflhmjaaGreat.LgTab
open Go Lg
set_option linter.unusedVariables false
set_option linter.unusedSimpArgs false
set_option maxRecDepth 8000
theorem sp111 (k : Nat) (c : Int) (h : colOk c) : evFun (clOf (modsR tab k) 3) s111 [I c] = some (B true, []) := by
  rw [evFun_evB rfl]
  unfold s111
  by_cases h1 : -1 ≤ c
  · by_cases h2 : c ≤ 255
    · simp -implicitDefEqProofs [h1, h2]
    · have h3 : 16777216 ≤ c ∧ c < 33554432 := by unfold colOk at h; omega
      simp -implicitDefEqProofs [h1, h2, h3.1, h3.2]
  · unfold colOk at h
    omega
theorem sp108 (k : Nat) (p : Pn) (h : PR p) : evFun (clOf (modsR tab (k + 1)) 3) s108 [pnD p] = some (B true, []) := by
  have w1 := fun q => sp111 q p.f h.1
  have w2 := fun q => sp111 q p.b h.2.1
  have h3 := h.2.2
  rw [evFun_evB rfl]
  unfold s108
  simp -implicitDefEqProofs [cw111, w1, w2, h3.1, h3.2]
/-- What a cell keeps to in its row. -/
def RowFit (l : List Cel) (i : Nat) (x : Cel) : Prop :=
  PR x.p ∧ ((x.k = 0 ∧ widthR x.r = 1) ∨ (x.k = 1 ∧ widthR x.r = 2 ∧ ∃ d, l[i + 1]? = some d ∧ d.k = 2 ∧ d.p = x.p) ∨ (x.k = 2 ∧ x.r = 0 ∧ ∃ j d, i = j + 1 ∧ l[j]? = some d ∧ d.k = 1 ∧ d.p = x.p))
theorem RightL.row {g : Gd} (o : OkG g) (h : RightL g.cells g.w) {r i : Nat} (hr : r < g.h) {x : Cel} (hx : (rowL g r)[i]? = some x) : RowFit (rowL g r) i x := by
  have hl := rowL_len o hr
  have hi : i < g.w := by rw [← hl]; exact (List.getElem?_eq_some_iff.1 hx).1
  have at' : ∀ j, j < g.w → (rowL g r)[j]? = g.cells[rowOff g r + j]? := fun j hj => by
    show ((g.cells.drop (rowOff g r)).take g.w)[j]? = _
    rw [List.getElem?_take_of_lt hj, List.getElem?_drop]
  rw [at' i hi] at hx
  have md : ∀ j, (rowOff g r + j) % g.w = j % g.w := fun j => by rw [rowOff_def, Nat.mul_comm, Nat.mul_add_mod]
  obtain ⟨hp, h1 | ⟨h1, h2, h3, d, h4, h5⟩ | ⟨h1, h2, h3, j, d, h4, h5, h6⟩⟩ := h _ x hx
  · exact ⟨hp, .inl h1⟩
  · refine ⟨hp, .inr (.inl ⟨h1, h2, d, ?_, h5⟩)⟩
    have hlt : i + 1 < g.w := by
      rcases Nat.lt_or_ge (i + 1) g.w with hh | hh
      · exact hh
      · exfalso
        apply h3
        have : i + 1 = g.w := by omega
        rw [Nat.add_assoc, md, this, Nat.mod_self]
    rw [at' _ hlt, ← Nat.add_assoc]
    exact h4
  · refine ⟨hp, .inr (.inr ⟨h1, h2, i - 1, d, ?_, ?_, h6⟩)⟩
    · rcases Nat.eq_zero_or_pos i with hh | hh
      · exfalso
        apply h3
        rw [md, hh, Nat.zero_mod]
      · omega
    · have hi0 : 0 < i := by
        rcases Nat.eq_zero_or_pos i with hh | hh
        · exfalso
          apply h3
          rw [md, hh, Nat.zero_mod]
        · exact hh
      rw [at' _ (by omega)]
      have : rowOff g r + (i - 1) = j := by omega
      rw [this]
      exact h5
theorem fit_half {l : List Cel} {i : Nat} {x : Cel} (hx : l[i]? = some x) (h : RowFit l i x) : halfB l i = false := by
  have k0 := kAt_some hx
  unfold halfB
  rw [k0]
  obtain ⟨hp, ⟨h1, h2⟩ | ⟨h1, h2, d, h3, h4, h5⟩ | ⟨h1, h2, j, d, h3, h4, h5, h6⟩⟩ := h
  · simp [h1]
  · simp [h1, kAt_some h3, h4]
  · subst h3
    simp [h1, kAt_some h4, h5]
set_option maxHeartbeats 4000000 in
theorem sp160 (k : Nat) (l : List Cel) (i : Nat) (x : Cel) (hx : l[i]? = some x) (h : RowFit l i x) (hl : l.length ≤ 100000) : evFun (clOf (modsR tab (k + 3)) 3) s160 [.sl 5 (celsD l), I i] = some (B true, []) := by
  have hi : i < l.length := (List.getElem?_eq_some_iff.1 hx).1
  have g := celsD_getD hx
  have g' := celsD_at hx
  have w1 := fun q => sp109 q x.r
  have w2 := fun q => sp108 q x.p h.1
  have w3 := fun q => sp159 q l i hi hl
  rw [fit_half hx h] at w3
  obtain ⟨r, kk, p⟩ := x
  obtain ⟨f, b, gg⟩ := p
  obtain ⟨hp, ⟨h1, h2⟩ | ⟨h1, h2, d, h3, h4, h5⟩ | ⟨h1, h2, j, d, h3, h4, h5, h6⟩⟩ := h
  · simp only at h1 h2 w1 w2
    rw [h2] at w1
    subst h1
    rw [evFun_evB rfl]
    unfold s160
    simp -implicitDefEqProofs [hi, g, g', cw109, w1, cw108, w2]
  · simp only at h1 h2 w1 w2 h5
    rw [h2] at w1
    subst h1
    have d1 := celsD_getD h3
    have d2 := celsD_at h3
    obtain ⟨r', k', p'⟩ := d
    simp only at h4 h5
    subst h4 h5
    have hi2 : i + 1 < l.length := (List.getElem?_eq_some_iff.1 h3).1
    have e1 : wr ((i : Int) + 1) = ((i + 1 : Nat) : Int) := by rw [wr_id _ (by omega) (by omega)]; omega
    have hn : (0 : Int) ≤ (i : Int) + 1 := by omega
    rw [evFun_evB rfl]
    unfold s160
    simp -implicitDefEqProofs [hi, g, g', cw109, cr109, w1, cw108, cr108, w2, cw159, cr159, w3, e1, d1, d2, hi2, hn]
  · simp only at h1 h2 w1 w2
    subst h1 h2
    rw [evFun_evB rfl]
    unfold s160
    simp -implicitDefEqProofs [hi, g, g', cw159, w3]
theorem ir163s (k n : Nat) (H : List Ob) (g : Gd) (o : OkG g) (r : Nat) (hr : r < g.h) : (clOf (modsR tab (k + 1)) (n + 1)).r 163 [gdD g, I r] H = some (.sl 5 (celsD (rowL g r))) := by
  have w := iw163s k n (deads (bound [])) g o r hr
  rw [cw163] at w
  rw [cr163]
  unfold evInlQ
  simp -implicitDefEqProofs [w]
set_option maxHeartbeats 4000000 in
theorem sp154 (k : Nat) (g : Gd) (o : OkG g) (h : RightL g.cells g.w) (h40 : g.h ≤ 40) (w60 : g.w ≤ 60) : evFun (clOf (modsR tab (k + 4)) 3) s154 [gdD g] = some (B true, []) := by
  have hl : g.cells.length ≤ 2400 := by rw [o.2.2.2.2]; exact Nat.mul_le_mul h40 w60
  have b0 := o.1
  have b1 := o.2.2.1
  have c1 : ¬ (g.h : Int) < 1 := by omega
  have c2 : ¬ (40 : Int) < g.h := by omega
  have c3 : ¬ (g.w : Int) < 1 := by omega
  have c4 : ¬ (60 : Int) < g.w := by omega
  have em : wr ((g.h : Int) * g.w) = g.cells.length := by rw [o.2.2.2.2, ← Int.natCast_mul]; exact wr_id _ (by have := o.2.2.2.2; omega) (by have := o.2.2.2.2; omega)
  rw [evFun_evB rfl]
  unfold s154
  simp -implicitDefEqProofs [c1, c2, c3, c4, em]
  refine evB_for (fun i => [B false, I g.cells.length, I i, .obx [I g.h, I g.w, .sl 5 (celsD g.cells)]]) g.cells.length (.exit 0) [B false, I g.cells.length, I g.cells.length, .obx [I g.h, I g.w, .sl 5 (celsD g.cells)]] ?_ (fun i hi => ?_) ?_ (by simp) (by simp [rounds]; omega) ?_
  · simp -implicitDefEqProofs []
  · have hr : i / g.w < g.h := by rw [Nat.div_lt_iff_lt_mul (by omega)]; rw [o.2.2.2.2] at hi; exact hi
    have hm : i % g.w < g.w := Nat.mod_lt _ (by omega)
    obtain ⟨x, hx⟩ := get_ex (l := rowL g (i / g.w)) (i := i % g.w) (by rw [rowL_len o hr]; exact hm)
    have w160 := fun q => sp160 q _ _ x hx (RightL.row o h hr hx) (by rw [rowL_len o hr]; omega)
    have wi := fun H n q => ir163s q n H g o (i / g.w) hr
    have hlt : (i : Int) < g.cells.length := by omega
    have hz : ¬ g.w = 0 := by omega
    have e1 : wr ((i : Int) / g.w) = ((i / g.w : Nat) : Int) := by
      rw [← Int.natCast_ediv]
      generalize i / g.w = r at hr
      exact wr_id _ (by omega) (by omega)
    have e2 : (i : Int) % g.w = ((i % g.w : Nat) : Int) := by simp
    have e3 : (i : Int).tmod g.w = ((i % g.w : Nat) : Int) := by
      rw [Int.tmod_eq_emod_of_nonneg (by omega)]
      simp
    generalize i / g.w = r at *
    generalize i % g.w = c at *
    simp -implicitDefEqProofs [hlt, hz, e1, e2, e3, wi, cw160, w160, wr_id ((i : Int) + 1) (by omega) (by omega)]
  · simp -implicitDefEqProofs []
  · simp -implicitDefEqProofs []
end Go.Proofs.YtmmbkjigflhmjaaGreat.LgTab
