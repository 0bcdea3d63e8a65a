import Derived.Test.YtadipapkdjcnbaaGreatLgQa
/-
  Rows of cells: halves, rows mended.
-/
namespace Go.Proofs.YtadipapkdjcnbaaGreat.LgTab
open Go Lg
set_option linter.unusedVariables false
set_option linter.unusedSimpArgs false
set_option maxRecDepth 8000
def kAt (l : List Cel) (i : Nat) : Int := match l[i]? with | some c => c.k | none => 0
theorem kAt_some {l : List Cel} {i : Nat} {c : Cel} (h : l[i]? = some c) : kAt l i = c.k := by simp [kAt, h]
theorem kAt_none {l : List Cel} {i : Nat} (h : l.length ≤ i) : kAt l i = 0 := by simp [kAt, List.getElem?_eq_none h]
def halfB (l : List Cel) (i : Nat) : Bool := (decide (kAt l i = 1) && !decide (kAt l (i + 1) = 2)) || (decide (kAt l i = 2) && (decide (i = 0) || !decide (kAt l (i - 1) = 1)))
theorem get_ex {α : Type} {l : List α} {i : Nat} (h : i < l.length) : ∃ x, l[i]? = some x := ⟨_, List.getElem?_eq_getElem h⟩
theorem sp159 (k : Nat) (l : List Cel) (i : Nat) (hi : i < l.length) (hl : l.length ≤ 100000) : evFun (clOf (modsR tab k) 3) s159 [.sl 5 (celsD l), I i] = some (B (halfB l i), []) := by
  obtain ⟨x, hx⟩ := get_ex hi
  have g := celsD_getD hx
  have g' := celsD_at hx
  have kx := kAt_some hx
  rw [evFun_evB rfl]
  unfold s159
  by_cases k1 : x.k = 1
  · by_cases hn : i + 1 = l.length
    · have hk := kAt_none (l := l) (i := i + 1) (by omega)
      have hn' : (i : Int) + 1 = l.length := by omega
      simp -implicitDefEqProofs [g, g', hi, k1, hn', wr_id ((l.length : Int)) (by omega) (by omega), halfB, kx, hk]
    · obtain ⟨y, hy⟩ := get_ex (l := l) (i := i + 1) (by omega)
      have f := celsD_getD hy
      have f' := celsD_at hy
      have ky := kAt_some hy
      have hn' : ¬ (i : Int) + 1 = l.length := by omega
      have ht : ((i : Int) + 1).toNat = i + 1 := by omega
      have h0 : (0 : Int) ≤ (i : Int) + 1 := by omega
      have hi1 : i + 1 < l.length := by omega
      simp -implicitDefEqProofs [g, g', hi, k1, wr_id ((i : Int) + 1) (by omega) (by omega), hn', f, f', ht, h0, hi1, halfB, kx, ky]
  · by_cases k2 : x.k = 2
    · by_cases h0 : i = 0
      · subst h0
        simp -implicitDefEqProofs [g, g', hi, k1, k2, halfB, kx]
      · obtain ⟨y, hy⟩ := get_ex (l := l) (i := i - 1) (by omega)
        have f := celsD_getD hy
        have f' := celsD_at hy
        have ky := kAt_some hy
        have hn' : ¬ (i : Int) = 0 := by omega
        have ht : ((i : Int) - 1).toNat = i - 1 := by omega
        have h1 : (1 : Int) ≤ (i : Int) := by omega
        have h1' : (0 : Int) ≤ (i : Int) - 1 := by omega
        have hi1 : i - 1 < l.length := by omega
        simp -implicitDefEqProofs [g, g', hi, k1, k2, wr_id ((i : Int) - 1) (by omega) (by omega), h0, hn', f, f', ht, h1, h1', hi1, halfB, kx, ky]
    · simp -implicitDefEqProofs [g, g', hi, k1, k2, halfB, kx]
theorem sp451 (k : Nat) (l : List Cel) (h0 : l ≠ []) (h1 : l.length ≤ 100000) : evNil (clOf (modsR tab k) 3) n451 [.sl 5 (celsD l)] = some (.osl true 5 (celsD l), []) := by
  have e : evFun (clOf (modsR tab k) 3) (n451.fn false) [.sl 5 (celsD l)] = some (.osl true 5 (celsD l), []) := by
    rw [evFun_evB rfl]
    unfold n451 NFun.fn NFun.body
    have b1 : l.length * 40 ≤ 140737488355328 := by omega
    simp -implicitDefEqProofs [b1, h0]
  unfold evNil
  rw [e]
  obtain ⟨c, t, rfl⟩ : ∃ c t, l = c :: t := by cases l with | nil => exact absurd rfl h0 | cons c t => exact ⟨c, t, rfl⟩
  simp -implicitDefEqProofs [n451, atN, isSlD, nnD, Lg.evC, Lg.stepsO, celsD]
def OkG (g : Gd) : Prop := 1 ≤ g.h ∧ g.h ≤ 1000 ∧ 1 ≤ g.w ∧ g.w ≤ 1000 ∧ g.cells.length = g.h * g.w
theorem OkG.pos {g : Gd} (o : OkG g) : 0 < g.cells.length := by rw [o.2.2.2.2]; exact Nat.mul_pos (by have := o.1; omega) (by have := o.2.2.1; omega)
theorem OkG.ne {g : Gd} (o : OkG g) : g.cells ≠ [] := by intro h; have := o.pos; rw [h] at this; simp at this
theorem OkG.le {g : Gd} (o : OkG g) : g.cells.length ≤ 1000000 := by
  rw [o.2.2.2.2]
  exact Nat.le_trans (Nat.mul_le_mul o.2.1 o.2.2.2.1) (by decide)
theorem sp158 (k : Nat) (g : Gd) (o : OkG g) (hl : g.cells.length ≤ 100000) : evFun (clOf (modsR tab (k + 1)) 3) s158 [gdD g] = some (gdO g, []) := by
  have w := sp451 k g.cells o.ne hl
  have h0 := o.ne
  rw [evFun_evB rfl]
  unfold s158
  simp -implicitDefEqProofs [cw451, w, h0]
theorem sp162 (k : Nat) (g : Gd) (r c : Int) : evFun (clOf (modsR tab k) 3) s162 [gdD g, I r, I c] = some (B (decide (0 ≤ r) && decide (r < g.h) && decide (0 ≤ c) && decide (c < g.w)), []) := by
  rw [evFun_evB rfl]
  unfold s162
  by_cases h1 : 0 ≤ r
  · by_cases h2 : r < g.h
    · by_cases h3 : 0 ≤ c <;> simp -implicitDefEqProofs [h1, h2, h3]
    · simp -implicitDefEqProofs [h1, h2]
  · simp -implicitDefEqProofs [h1]
def mendTo (l : List Cel) (n : Nat) : List Cel := l.mapIdx fun j x => if decide (j < n) && halfB l j then blankC x.p else x
def mendL (l : List Cel) : List Cel := l.mapIdx fun j x => if halfB l j then blankC x.p else x
@[simp] theorem mendTo_len (l : List Cel) (n : Nat) : (mendTo l n).length = l.length := by simp [mendTo]
@[simp] theorem mendL_len (l : List Cel) : (mendL l).length = l.length := by simp [mendL]
theorem mendTo_0 (l : List Cel) : mendTo l 0 = l := by
  unfold mendTo
  apply List.ext_getElem?
  intro i
  simp
theorem mendTo_all (l : List Cel) : mendTo l l.length = mendL l := by
  unfold mendTo mendL
  apply List.ext_getElem?
  intro i
  rw [List.getElem?_mapIdx, List.getElem?_mapIdx]
  cases h : l[i]? with
  | none => rfl
  | some x =>
    have : i < l.length := (List.getElem?_eq_some_iff.1 h).1
    simp [this]
theorem mendTo_get {l : List Cel} {i n : Nat} {x : Cel} (h : l[i]? = some x) (hn : n ≤ i) : (mendTo l n)[i]? = some x := by
  unfold mendTo
  rw [List.getElem?_mapIdx, h]
  simp
  omega
theorem mendTo_set {l : List Cel} {i : Nat} {x : Cel} (h : l[i]? = some x) (hb : halfB l i = true) : (mendTo l i).set i (blankC x.p) = mendTo l (i + 1) := by
  unfold mendTo
  apply List.ext_getElem?
  intro j
  rw [List.getElem?_set, List.getElem?_mapIdx, List.getElem?_mapIdx]
  have hi : i < l.length := (List.getElem?_eq_some_iff.1 h).1
  by_cases e : i = j
  · subst e
    simp [h, hb, hi, get_of h hi]
  · rw [if_neg e]
    cases l[j]? with
    | none => rfl
    | some y =>
      have : (j < i) = (j < i + 1) := by apply propext; omega
      simp [this]
theorem mendTo_skip {l : List Cel} {i : Nat} (hb : halfB l i = false) : mendTo l (i + 1) = mendTo l i := by
  unfold mendTo
  apply List.ext_getElem?
  intro j
  rw [List.getElem?_mapIdx, List.getElem?_mapIdx]
  cases l[j]? with
  | none => rfl
  | some y =>
    by_cases e : i = j
    · subst e; simp [hb]
    · have : (j < i) = (j < i + 1) := by apply propext; omega
      simp [this]
theorem sp150 (k : Nat) (l : List Cel) (h0 : l ≠ []) (hl : l.length ≤ 100000) : evFun (clOf (modsR tab (k + 1)) 3) s150 [.sl 5 (celsD l)] = some (.osl true 5 (celsD (mendL l)), []) := by
  rw [evFun_evB rfl]
  unfold s150
  simp -implicitDefEqProofs [cw451, sp451 k l h0 hl, h0]
  refine evB_for (fun i => [.sl 5 (celsD l), .sl 5 (celsD l), I l.length, I i, .osl true 5 (celsD (mendTo l i))]) l.length (.exit 0) [.sl 5 (celsD l), .sl 5 (celsD l), I l.length, I l.length, .osl true 5 (celsD (mendL l))] ?_ (fun i hi => ?_) ?_ (by simp) (by simp [rounds]; omega) ?_
  · simp -implicitDefEqProofs [mendTo_0]
  · obtain ⟨x, hx⟩ := get_ex hi
    have g := celsD_getD hx
    have g' := celsD_at hx
    have m := celsD_getD (mendTo_get hx (Nat.le_refl i))
    have m' := celsD_at (mendTo_get hx (Nat.le_refl i))
    have w := sp159 k l i hi hl
    have w2 := sp106 k x.p
    have hlt : (i : Int) < l.length := by omega
    cases hb : halfB l i
    · rw [hb] at w
      have e := mendTo_skip hb
      simp -implicitDefEqProofs [hlt, hi, g, g', m, m', cw159, w, wr_id ((i : Int) + 1) (by omega) (by omega), e]
    · rw [hb] at w
      have e := mendTo_set hx hb
      simp only [blankC] at e
      simp -implicitDefEqProofs [hlt, hi, g, g', m, m', cw159, w, cw106, w2, blankC, wr_id ((i : Int) + 1) (by omega) (by omega), e]
  · simp -implicitDefEqProofs [mendTo_all]
  · simp -implicitDefEqProofs []
/-- Where a row begins; a row of a grid. -/
@[irreducible] def rowOff (g : Gd) (r : Nat) : Nat := r * g.w
theorem rowOff_def (g : Gd) (r : Nat) : rowOff g r = r * g.w := by unfold rowOff; rfl
def rowL (g : Gd) (r : Nat) : List Cel := (g.cells.drop (rowOff g r)).take g.w
def setRow (g : Gd) (r : Nat) (l : List Cel) : Gd := { g with cells := g.cells.take (rowOff g r) ++ l ++ g.cells.drop (rowOff g r + g.w) }
theorem row_in {g : Gd} (o : OkG g) {r : Nat} (hr : r < g.h) : rowOff g r + g.w ≤ g.cells.length := by
  rw [o.2.2.2.2, rowOff_def]
  have : (r + 1) * g.w ≤ g.h * g.w := Nat.mul_le_mul_right _ hr
  rw [Nat.add_mul] at this
  omega
theorem rowL_len {g : Gd} (o : OkG g) {r : Nat} (hr : r < g.h) : (rowL g r).length = g.w := by
  have := row_in o hr
  simp [rowL]
  omega
/-- What the code reckons of a row. -/
theorem row_nums {g : Gd} (o : OkG g) {r : Nat} (hr : r < g.h) : wr ((r : Int) * (g.w : Int)) = (rowOff g r : Nat) ∧ wr ((r : Int) + 1) = (r : Int) + 1 ∧ wr (((r : Int) + 1) * (g.w : Int)) = (rowOff g r : Int) + (g.w : Int) ∧ ((rowOff g r : Int) + (g.w : Int)).toNat = rowOff g r + g.w ∧ (0 : Int) ≤ (rowOff g r : Int) + (g.w : Int) := by
  have h1 := row_in o hr
  have h2 := o.le
  have e1 : (r : Int) * (g.w : Int) = (rowOff g r : Nat) := by rw [rowOff_def]; simp
  have e2 : ((r : Int) + 1) * (g.w : Int) = (rowOff g r : Int) + (g.w : Int) := by rw [Int.add_mul, e1]; simp
  rw [e1, e2]
  have := o.2.1
  exact ⟨wr_id _ (by omega) (by omega), wr_id _ (by omega) (by omega), wr_id _ (by omega) (by omega), by omega, by omega⟩
theorem iw163s (k n : Nat) (H : List Ob) (g : Gd) (o : OkG g) (r : Nat) (hr : r < g.h) : (clOf (modsR tab (k + 1)) (n + 1)).w 163 [gdD g, I r] H = some (.sl 5 (celsD (rowL g r)), H ++ [.bx [I g.h, I g.w, .sl 5 (celsD g.cells)]]) := by
  obtain ⟨e1, e2, e3, e5, e6⟩ := row_nums o hr
  have e4 := row_in o hr
  rw [cw163, evInl_evB rfl rfl]
  unfold s163
  simp -implicitDefEqProofs [e1, e2, e3, e4, e5, e6, rowL]
theorem iw163r (k n : Nat) (H : List Ob) (g : Gd) (o : OkG g) (id : Nat) (r : Nat) (hr : r < g.h) : (clOf (modsR tab (k + 1)) (n + 1)).w 163 [.agg [I g.h, I g.w, .rf id 5 0 g.cells.length], I r] H = some (.rf id 5 (rowOff g r) g.w, H ++ [.bx [I g.h, I g.w, .rf id 5 0 g.cells.length]]) := by
  obtain ⟨e1, e2, e3, e5, e6⟩ := row_nums o hr
  have e4 := row_in o hr
  rw [cw163, evInl_evB rfl rfl]
  unfold s163
  simp -implicitDefEqProofs [e1, e2, e3, e4, e5, e6]
theorem ir163r (k n : Nat) (H : List Ob) (g : Gd) (o : OkG g) (id : Nat) (r : Nat) (hr : r < g.h) : (clOf (modsR tab (k + 1)) (n + 1)).r 163 [.agg [I g.h, I g.w, .rf id 5 0 g.cells.length], I r] H = some (.rf id 5 (rowOff g r) g.w) := by
  have w := iw163r k n (deads (bound [id])) g o id r hr
  rw [cw163] at w
  rw [cr163]
  unfold evInlQ
  simp -implicitDefEqProofs [w]
theorem sp149 (k : Nat) (g : Gd) (o : OkG g) (r c : Nat) (hr : r < g.h) (hc : c < g.w) (x : Cel) (hx : (rowL g r)[c]? = some x) : evFun (clOf (modsR tab (k + 1)) 3) s149 [gdD g, I r, I c] = some (.tup [celD x, B true], []) := by
  have w := sp162 k g r c
  have hr' : (r : Int) < g.h := by omega
  have hc' : (c : Int) < g.w := by omega
  have gx := celsD_getD hx
  have gx' := celsD_at hx
  simp only [hr', hc', Int.natCast_nonneg, decide_true, Bool.and_true] at w
  have wi := fun H n => iw163s k n H g o r hr
  rw [evFun_evB rfl]
  unfold s149
  simp -implicitDefEqProofs [cw162, w, wi, gx, gx', hc, rowL_len o hr]
theorem sp149n (k : Nat) (g : Gd) (r c : Int) (h : (decide (0 ≤ r) && decide (r < g.h) && decide (0 ≤ c) && decide (c < g.w)) = false) : evFun (clOf (modsR tab (k + 1)) 3) s149 [gdD g, I r, I c] = some (.tup [celD ⟨0, 0, ⟨0, 0, 0⟩⟩, B false], []) := by
  have w := sp162 k g r c
  rw [h] at w
  rw [evFun_evB rfl]
  unfold s149
  simp -implicitDefEqProofs [cw162, w]
end Go.Proofs.YtadipapkdjcnbaaGreat.LgTab
