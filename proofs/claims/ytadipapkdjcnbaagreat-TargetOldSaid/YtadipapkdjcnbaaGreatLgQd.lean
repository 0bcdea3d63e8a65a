import Derived.Test.YtadipapkdjcnbaaGreatLgQc
/-
  Cells wiped.
-/
namespace Go.Proofs.YtadipapkdjcnbaaGreat.LgTab
open Go Lg
set_option linter.unusedVariables false
set_option linter.unusedSimpArgs false
set_option maxRecDepth 8000
theorem setRow_set2 {g : Gd} (o : OkG g) {r : Nat} (hr : r < g.h) {L : List Cel} (hL : L.length = g.w) {c : Nat} (hc : c < g.w) (y : Cel) : (setRow g r L).cells.set (rowOff g r + c) y = (setRow g r (L.set c y)).cells := by
  have h := row_in o hr
  unfold setRow
  simp only
  have e1 : (g.cells.take (rowOff g r)).length = rowOff g r := by simp; omega
  rw [List.append_assoc, List.append_assoc, List.set_append_right _ _ (by omega), e1, Nat.add_sub_cancel_left, List.set_append_left _ _ (by omega)]
theorem rowL_setRow {g : Gd} (o : OkG g) {r : Nat} (hr : r < g.h) {L : List Cel} (hL : L.length = g.w) : rowL (setRow g r L) r = L := by
  have h := row_in o hr
  have e1 : (g.cells.take (rowOff g r)).length = rowOff g r := by simp; omega
  have e2 : rowOff (setRow g r L) r = rowOff g r := by unfold setRow; rw [rowOff_cells]
  unfold rowL
  rw [e2]
  unfold setRow
  simp only
  rw [List.append_assoc, List.drop_append, e1, Nat.sub_self, List.drop_of_length_le (by omega)]
  simp [← hL]
theorem setRow_setRow {g : Gd} (o : OkG g) {r : Nat} (hr : r < g.h) {L : List Cel} (hL : L.length = g.w) (X : List Cel) : setRow (setRow g r L) r X = setRow g r X := by
  have h := row_in o hr
  have e1 : (g.cells.take (rowOff g r)).length = rowOff g r := by simp; omega
  unfold setRow
  simp only [rowOff_cells]
  congr 2
  · congr 1
    rw [List.append_assoc, List.take_append, e1, Nat.sub_self, List.take_zero, List.append_nil, List.take_of_length_le (by omega)]
  · rw [List.append_assoc, List.drop_append, List.drop_append, e1, List.drop_of_length_le (by simp; omega)]
    rw [List.drop_of_length_le (by omega)]
    simp
    congr 1
    omega
theorem setRow_self {g : Gd} (o : OkG g) {r : Nat} (hr : r < g.h) : setRow g r (rowL g r) = g := by
  unfold setRow rowL
  have e : List.take (rowOff g r) g.cells ++ List.take g.w (List.drop (rowOff g r) g.cells) ++ List.drop (rowOff g r + g.w) g.cells = g.cells := by
    rw [← List.drop_drop, List.append_assoc, List.take_append_drop, List.take_append_drop]
  rw [e]
def wipeRow (l : List Cel) (a b : Nat) (p : Pn) : List Cel := l.mapIdx fun j x => if a ≤ j ∧ j < b then blankC p else x
@[simp] theorem wipeRow_len (l : List Cel) (a b : Nat) (p : Pn) : (wipeRow l a b p).length = l.length := by simp [wipeRow]
theorem wipeRow_0 (l : List Cel) (a : Nat) (p : Pn) : wipeRow l a a p = l := by
  unfold wipeRow
  apply List.ext_getElem?
  intro i
  rw [List.getElem?_mapIdx]
  cases l[i]? with
  | none => rfl
  | some x => simp; omega
theorem wipeRow_succ (l : List Cel) (a b : Nat) (p : Pn) (hab : a ≤ b) (hb : b < l.length) : wipeRow l a (b + 1) p = (wipeRow l a b p).set b (blankC p) := by
  unfold wipeRow
  apply List.ext_getElem?
  intro i
  rw [List.getElem?_set, List.getElem?_mapIdx, List.getElem?_mapIdx]
  by_cases e : b = i
  · subst e
    simp [hb, hab, List.getElem?_eq_getElem hb]
  · rw [if_neg e]
    cases l[i]? with
    | none => rfl
    | some x =>
      have : (a ≤ i ∧ i < b + 1) = (a ≤ i ∧ i < b) := by apply propext; omega
      simp [this]
def wipeG (g : Gd) (r : Nat) (a b : Int) (p : Pn) : Gd := setRow g r (mendL (wipeRow (rowL g r) (mxI a 0).toNat (max (mxI a 0) (mnI b g.w)).toNat p))
set_option maxHeartbeats 1000000 in
theorem sp157 (k : Nat) (g : Gd) (o : OkG g) (hl : g.cells.length ≤ 100000) (r : Nat) (hr : r < g.h) (a b : Int) (p : Pn) (ha : -1000000 ≤ a ∧ a ≤ 1000000) (hb : -1000000 ≤ b ∧ b ≤ 1000000) : evFun (clOf (modsR tab (k + 2)) 3) s157 [gdD g, I r, I a, I b, pnD p] = some (gdD (wipeG g r a b p), []) := by
  have w1 := sp158 k g o hl
  have w3 := sp162 (k + 1) g r 0
  have hr' : (r : Int) < g.h := by omega
  have hw0 : (0 : Int) < g.w := by have := o.2.2.1; omega
  simp only [hr', hw0, Int.natCast_nonneg, decide_true, Bool.and_true, Int.le_refl] at w3
  have hw := o.2.2.2.1
  have wi := fun q H n => iw163r q n H g o 3 r hr
  have e4 := row_in o hr
  have hrl := rowL_len o hr
  obtain ⟨A, hA⟩ : ∃ A : Nat, mxI a 0 = A := ⟨(mxI a 0).toNat, by unfold mxI; split <;> omega⟩
  have hA' : (A : Int) ≤ 1000000 := by rw [← hA]; unfold mxI; split <;> omega
  obtain ⟨Z, hZ⟩ : ∃ Z, mnI b g.w = Z := ⟨_, rfl⟩
  have hZ1 : Z ≤ g.w := by rw [← hZ]; unfold mnI; split <;> omega
  obtain ⟨N, hN⟩ : ∃ N : Nat, N = (max (A : Int) Z).toNat - A := ⟨_, rfl⟩
  have hG : wipeG g r a b p = setRow g r (mendL (wipeRow (rowL g r) A (A + N) p)) := by
    unfold wipeG
    have e : (max (A : Int) Z).toNat = A + N := by omega
    rw [hA, hZ, e, Int.toNat_natCast]
  have hlen : ∀ L : List Cel, L.length = g.w → (setRow g r L).cells.length = g.cells.length := by
    intro L hL
    simp [setRow]
    omega
  have ho : ∀ L : List Cel, L.length = g.w → OkG (setRow g r L) := fun L hL => o.setRow hr L hL
  rw [hG]
  rw [evFun_evB rfl]
  unfold s157
  simp -implicitDefEqProofs [cw158, w1, cw162, w3, wi, hA, hZ]
  refine evB_forR (fun i => ([(1, I r), (3, I b), (12, I ((A + i : Nat) : Int)), (5, .pt 0 0 0 0), (9, .pt 1 0 0 0), (10, .pt 2 0 0 0), (11, .rf 3 5 (rowOff g r) g.w)],
    [.bx [I g.h, I g.w, .rf 3 5 0 g.cells.length], .bx [I p.f, I p.b, I p.g], .bx [I 0, I 0, .sn], .ow true 5 (celsD (setRow g r (wipeRow (rowL g r) A (A + i) p)).cells), .bx [I g.h, I g.w, .rf 3 5 0 g.cells.length]])) N (.exit 0)
    ([(1, I r), (3, I b), (12, I ((A + N : Nat) : Int)), (5, .pt 0 0 0 0), (9, .pt 1 0 0 0), (10, .pt 2 0 0 0), (11, .rf 3 5 (rowOff g r) g.w)],
    [.bx [I g.h, I g.w, .rf 3 5 0 g.cells.length], .bx [I p.f, I p.b, I p.g], .bx [I 0, I 0, .sn], .ow true 5 (celsD (setRow g r (wipeRow (rowL g r) A (A + N) p)).cells), .bx [I g.h, I g.w, .rf 3 5 0 g.cells.length]]) ?_ (fun i hi => ?_) ?_ (by simp) (by simp [rounds]; omega) ?_
  · simp -implicitDefEqProofs [wipeRow_0, setRow_self o hr]
  · have hc : A + i < g.w := by omega
    have es := setRow_set2 o hr (L := wipeRow (rowL g r) A (A + i) p) (by simpa using hrl) hc (blankC p)
    rw [← wipeRow_succ _ _ _ _ (by omega) (by omega)] at es
    have hl' := hlen (wipeRow (rowL g r) A (A + i) p) (by simpa using hrl)
    obtain ⟨y, hy⟩ := get_ex (l := (setRow g r (wipeRow (rowL g r) A (A + i) p)).cells) (i := rowOff g r + (A + i)) (by omega)
    have gy := celsD_getD hy
    have w106 := sp106 (k + 1) p
    have hlt : ((A + i : Nat) : Int) < Z := by omega
    have hi0 : (0 : Int) ≤ ((A + i : Nat) : Int) := by omega
    have e1 : wr (((A + i : Nat) : Int) + 1) = ((A + (i + 1) : Nat) : Int) := by rw [wr_id _ (by omega) (by omega)]; omega
    have et : A + (i + 1) = A + i + 1 := rfl
    rw [et] at e1 ⊢
    generalize setRow g r (wipeRow (rowL g r) A (A + i + 1) p) = G' at *
    generalize setRow g r (wipeRow (rowL g r) A (A + i) p) = G at *
    generalize A + i = c at *
    simp only [blankC] at es w106
    simp -implicitDefEqProofs [hZ, hlt, hc, cw106, w106, gy, es, e1, hi0]
  · have hge : ¬ ((A : Int) + (N : Int)) < Z := by omega
    simp -implicitDefEqProofs [hZ, hge]
  · have hL : (wipeRow (rowL g r) A (A + N) p).length = g.w := by simpa using hrl
    have wm := fun q n H x y => iw161 q n H (setRow g r (wipeRow (rowL g r) A (A + N) p)) (ho _ hL) (by rw [hlen _ hL]; exact hl) 3 x y r hr
    have hl1 := hlen _ hL
    have hl2 := hlen (mendL (wipeRow (rowL g r) A (A + N) p)) (by simpa using hrl)
    simp only [rowL_setRow o hr hL, setRow_setRow o hr hL, hl1] at wm
    generalize hM : setRow g r (mendL (wipeRow (rowL g r) A (A + N) p)) = M at *
    have m1 : M.h = g.h := by rw [← hM]; rfl
    have m2 : M.w = g.w := by rw [← hM]; rfl
    generalize hX : setRow g r (wipeRow (rowL g r) A (A + N) p) = X at *
    have x1 : X.h = g.h := by rw [← hX]; rfl
    have x2 : X.w = g.w := by rw [← hX]; rfl
    rw [x1, x2] at wm
    have tk : M.cells.take g.cells.length = M.cells := List.take_of_length_le (by omega)
    simp -implicitDefEqProofs [wm, m1, m2, hl2, tk]
/-- A row that isn't there. -/
theorem sp157n (k : Nat) (g : Gd) (o : OkG g) (hl : g.cells.length ≤ 100000) (r : Int) (hr : ¬ (0 ≤ r ∧ r < g.h)) (a b : Int) (p : Pn) : evFun (clOf (modsR tab (k + 2)) 3) s157 [gdD g, I r, I a, I b, pnD p] = some (gdD g, []) := by
  have w1 := sp158 k g o hl
  have w3 := sp162 (k + 1) g r 0
  have e : (decide (0 ≤ r) && decide (r < g.h) && decide ((0 : Int) ≤ 0) && decide ((0 : Int) < g.w)) = false := by
    rw [Bool.eq_false_iff]
    intro h
    simp only [Bool.and_eq_true, decide_eq_true_eq] at h
    exact hr ⟨h.1.1.1, h.1.1.2⟩
  rw [e] at w3
  have tk : g.cells.take g.cells.length = g.cells := List.take_of_length_le (by omega)
  rw [evFun_evB rfl]
  unfold s157
  simp -implicitDefEqProofs [cw158, w1, cw162, w3, tk]
end Go.Proofs.YtadipapkdjcnbaaGreat.LgTab
