import Derived.Test.YtadipapkdjcnbaaGreatLgRb
/-
  What is erased is blank, the rest stays.
-/
namespace Go.Proofs.YtadipapkdjcnbaaGreat.LgTab
open Go Lg
set_option linter.unusedVariables false
set_option linter.unusedSimpArgs false
set_option maxRecDepth 8000
def RightRow (l : List Cel) : Prop := ∀ i x, l[i]? = some x → RowFit l i x
theorem RightG.row {g : Gd} (h : RightG g) {r : Nat} (hr : r < g.h) : RightRow (rowL g r) := fun i x hx => RightL.row h.1 h.2 hr hx
theorem mendL_get {l : List Cel} {i : Nat} {x : Cel} (h : l[i]? = some x) : (mendL l)[i]? = some (if halfB l i then blankC x.p else x) := by
  unfold mendL
  rw [List.getElem?_mapIdx, h]
  rfl
theorem wipeRow_get {l : List Cel} {i : Nat} {x : Cel} (a b : Nat) (p : Pn) (h : l[i]? = some x) : (wipeRow l a b p)[i]? = some (if a ≤ i ∧ i < b then blankC p else x) := by
  unfold wipeRow
  rw [List.getElem?_mapIdx, h]
  rfl
/-- Erased: blank; not erased, not beside it: as it was. -/
theorem wiped_get {l : List Cel} (hl : RightRow l) (a b : Nat) (p : Pn) {i : Nat} {x : Cel} (hx : l[i]? = some x) (h : (a ≤ i ∧ i < b) ∨ (i + 1 < a ∨ b < i) ∨ b ≤ a) :
    (mendL (wipeRow l a b p))[i]? = some (if a ≤ i ∧ i < b then blankC p else x) := by
  have hw := wipeRow_get a b p hx
  rw [mendL_get hw]
  have hk : halfB (wipeRow l a b p) i = false := by
    by_cases hc : a ≤ i ∧ i < b
    · rw [if_pos hc] at hw
      have : kAt (wipeRow l a b p) i = 0 := by rw [kAt_some hw]; rfl
      simp [halfB, this]
    · rw [if_neg hc] at hw
      refine fit_half hw ?_
      obtain ⟨hp, h1 | ⟨h1, h2, d, h3, h4⟩ | ⟨h1, h2, j, d, h3, h4, h5⟩⟩ := hl i x hx
      · exact ⟨hp, .inl h1⟩
      · refine ⟨hp, .inr (.inl ⟨h1, h2, d, ?_, h4⟩)⟩
        rw [wipeRow_get a b p h3, if_neg (by omega)]
      · subst h3
        refine ⟨hp, .inr (.inr ⟨h1, h2, j, d, rfl, ?_, h5⟩)⟩
        rw [wipeRow_get a b p h4, if_neg (by omega)]
  rw [hk]
  rfl
theorem rowL_wipeG {g : Gd} (o : OkG g) {r : Nat} (hr : r < g.h) (a b : Int) (p : Pn) : rowL (wipeG g r a b p) r = mendL (wipeRow (rowL g r) (mxI a 0).toNat (max (mxI a 0) (mnI b g.w)).toNat p) := by
  unfold wipeG
  exact rowL_setRow o hr (by rw [mendL_len, wipeRow_len, rowL_len o hr])
theorem rowL_wipeG_ne {g : Gd} (o : OkG g) {r y : Nat} (hr : r < g.h) (hy : y < g.h) (h : y ≠ r) (a b : Int) (p : Pn) : rowL (wipeG g r a b p) y = rowL g y := by
  unfold wipeG
  exact rowL_setRow_ne o hr hy h _ (by rw [mendL_len, wipeRow_len, rowL_len o hr])
theorem rowL_lineG_ne {g : Gd} (o : OkG g) {r y : Nat} (hr : r < g.h) (hy : y < g.h) (h : y ≠ r) (c : Nat) (what : Int) (p : Pn) : rowL (lineG g r c what p) y = rowL g y := by
  unfold lineG
  repeat' split
  · exact rowL_wipeG_ne o hr hy h _ _ _
  · exact rowL_wipeG_ne o hr hy h _ _ _
  · exact rowL_wipeG_ne o hr hy h _ _ _
  · rfl
theorem rowL_erTo {g : Gd} (o : OkG g) {r : Nat} (hr : r < g.h) (c : Nat) (what : Int) (p : Pn) {y : Nat} (hy : y < g.h) (hne : y ≠ r) : ∀ i, i ≤ g.h →
    rowL (erTo g r c what p i) y = if y < i ∧ erIn what r y = true then mendL (wipeRow (rowL g y) 0 g.w p) else rowL g y
  | 0, _ => by
    rw [if_neg (by omega)]
    exact rowL_lineG_ne o hr hy hne c what p
  | i + 1, hi => by
    obtain ⟨o1, e1, e2, e3⟩ := erTo_ok o hr c what p i (by omega)
    have ih := rowL_erTo o hr c what p hy hne i (by omega)
    have hri : i < (erTo g r c what p i).h := by omega
    have hyi : y < (erTo g r c what p i).h := by omega
    unfold erTo
    by_cases he : erIn what r i = true
    · rw [if_pos he]
      by_cases hyy : y = i
      · subst hyy
        rw [rowL_wipeG o1 hri, ih, if_neg (by omega), if_pos ⟨by omega, he⟩]
        have b1 : (mxI 0 0).toNat = 0 := rfl
        have b2 : (max (mxI 0 0) (mnI (g.w : Int) ((erTo g r c what p y).w : Int))).toNat = g.w := by
          rw [e2]
          unfold mxI mnI
          simp
        rw [b1, b2]
      · rw [rowL_wipeG_ne o1 hri hyi hyy, ih]
        by_cases h2 : y < i ∧ erIn what r y = true
        · rw [if_pos h2, if_pos ⟨by omega, h2.2⟩]
        · rw [if_neg h2, if_neg (fun h => h2 ⟨by omega, h.2⟩)]
    · rw [if_neg he, ih]
      by_cases h2 : y < i ∧ erIn what r y = true
      · rw [if_pos h2, if_pos ⟨by omega, h2.2⟩]
      · rw [if_neg h2, if_neg]
        rintro ⟨h3, h4⟩
        have : y ≠ i := fun h => he (h ▸ h4)
        exact h2 ⟨by omega, h4⟩
theorem rowL_erTo_self {g : Gd} (o : OkG g) {r : Nat} (hr : r < g.h) (c : Nat) (what : Int) (p : Pn) : ∀ i, i ≤ g.h → rowL (erTo g r c what p i) r = rowL (lineG g r c what p) r
  | 0, _ => rfl
  | i + 1, hi => by
    obtain ⟨o1, e1, e2, e3⟩ := erTo_ok o hr c what p i (by omega)
    have ih := rowL_erTo_self o hr c what p i (by omega)
    unfold erTo
    by_cases he : erIn what r i = true
    · rw [if_pos he]
      have hne : r ≠ i := by
        rintro rfl
        simp [erIn] at he
      rw [rowL_wipeG_ne o1 (by omega) (by omega) hne, ih]
    · rw [if_neg he, ih]
/-- A cell of a line erased. -/
theorem line_get {g : Gd} (o : OkG g) (h : RightL g.cells g.w) {r : Nat} (hr : r < g.h) {c : Nat} (hc : c < g.w) (what : Int) (hw : what = 0 ∨ what = 1 ∨ what = 2) (p : Pn) {i : Nat} {x : Cel} (hx : (rowL g r)[i]? = some x) (hn : (what = 0 ∧ c ≤ i ∨ what = 1 ∧ i ≤ c ∨ what = 2) ∨ ¬ (i + 1 = c ∨ i = c + 1)) :
    (rowL (lineG g r c what p) r)[i]? = some (if what = 0 ∧ c ≤ i ∨ what = 1 ∧ i ≤ c ∨ what = 2 then blankC p else x) := by
  have hrow : RightRow (rowL g r) := fun j y hy => RightL.row o h hr hy
  have hl := rowL_len o hr
  have hi : i < g.w := by rw [← hl]; exact (List.getElem?_eq_some_iff.1 hx).1
  rcases hw with rfl | rfl | rfl
  · have e : lineG g r c 0 p = wipeG g r c g.w p := rfl
    have b1 : (mxI (c : Int) 0).toNat = c := by unfold mxI; split <;> omega
    have b2 : (max (mxI (c : Int) 0) (mnI (g.w : Int) (g.w : Int))).toNat = g.w := by
      unfold mxI mnI
      repeat' split
      all_goals omega
    rw [e, rowL_wipeG o hr, b1, b2, wiped_get hrow c g.w p hx (by omega)]
    by_cases hh : c ≤ i
    · rw [if_pos ⟨hh, hi⟩, if_pos (.inl ⟨rfl, hh⟩)]
    · rw [if_neg (fun h => hh h.1), if_neg (by omega)]
  · have e : lineG g r c 1 p = wipeG g r 0 ((c : Int) + 1) p := rfl
    have b1 : (mxI 0 0).toNat = 0 := rfl
    have b2 : (max (mxI 0 0) (mnI ((c : Int) + 1) (g.w : Int))).toNat = c + 1 := by
      unfold mxI mnI
      repeat' split
      all_goals omega
    rw [e, rowL_wipeG o hr, b1, b2, wiped_get hrow 0 (c + 1) p hx (by omega)]
    by_cases hh : i ≤ c
    · rw [if_pos ⟨by omega, by omega⟩, if_pos (.inr (.inl ⟨rfl, hh⟩))]
    · rw [if_neg (by omega), if_neg (by omega)]
  · have e : lineG g r c 2 p = wipeG g r 0 g.w p := rfl
    have b1 : (mxI 0 0).toNat = 0 := rfl
    have b2 : (max (mxI 0 0) (mnI (g.w : Int) (g.w : Int))).toNat = g.w := by
      unfold mxI mnI
      repeat' split
      all_goals omega
    rw [e, rowL_wipeG o hr, b1, b2, wiped_get hrow 0 g.w p hx (by omega), if_pos ⟨by omega, hi⟩, if_pos (.inr (.inr rfl))]
def goneJ (r c : Nat) (what : Int) (y i : Nat) : Prop := (what = 0 ∧ (r < y ∨ y = r ∧ c ≤ i)) ∨ (what = 1 ∧ (y < r ∨ y = r ∧ i ≤ c)) ∨ what = 2
instance (r c : Nat) (what : Int) (y i : Nat) : Decidable (goneJ r c what y i) := by unfold goneJ; infer_instance
/-- A cell of a screen erased. -/
theorem erase_get {g : Gd} (o : OkG g) (h : RightL g.cells g.w) {r : Nat} (hr : r < g.h) {c : Nat} (hc : c < g.w) (what : Int) (hw : what = 0 ∨ what = 1 ∨ what = 2) (p : Pn) {y i : Nat} (hy : y < g.h) {x : Cel} (hx : (rowL g y)[i]? = some x) (hn : goneJ r c what y i ∨ ¬ (y = r ∧ (i + 1 = c ∨ i = c + 1))) :
    (rowL (eraseG g r c what p) y)[i]? = some (if goneJ r c what y i then blankC p else x) := by
  unfold eraseG
  rw [if_neg (by omega)]
  have hl := rowL_len o hy
  have hi : i < g.w := by rw [← hl]; exact (List.getElem?_eq_some_iff.1 hx).1
  by_cases hyr : y = r
  · subst hyr
    rw [rowL_erTo_self o hr c what p g.h (Nat.le_refl _), line_get o h hr hc what hw p hx (by unfold goneJ at hn; omega)]
    congr 2
    unfold goneJ
    apply propext
    omega
  · rw [rowL_erTo o hr c what p hy hyr g.h (Nat.le_refl _)]
    have hrow : RightRow (rowL g y) := fun j z hz => RightL.row o h hy hz
    by_cases he : erIn what r y = true
    · rw [if_pos ⟨hy, he⟩, wiped_get hrow 0 g.w p hx (by omega), if_pos ⟨by omega, hi⟩, if_pos]
      unfold erIn at he
      unfold goneJ
      simp at he
      omega
    · rw [if_neg (fun hh => he hh.2), hx, if_neg]
      unfold erIn at he
      unfold goneJ
      simp at he
      omega
end Go.Proofs.YtadipapkdjcnbaaGreat.LgTab
