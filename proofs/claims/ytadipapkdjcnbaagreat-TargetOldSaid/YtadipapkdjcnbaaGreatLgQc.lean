import Derived.Test.YtadipapkdjcnbaaGreatLgQb
/-
  A rune put into a grid; cells wiped.
-/
namespace Go.Proofs.YtadipapkdjcnbaaGreat.LgTab
open Go Lg
set_option linter.unusedVariables false
set_option linter.unusedSimpArgs false
set_option maxRecDepth 8000
theorem iw161 (k n : Nat) (H : List Ob) (g : Gd) (o : OkG g) (hl : g.cells.length ≤ 100000) (id : Nat) (hid : id < H.length) (hH : H[id]? = some (.ow true 5 (celsD g.cells))) (r : Nat) (hr : r < g.h) :
    (clOf (modsR tab (k + 2)) (n + 2)).w 161 [.agg [I g.h, I g.w, .rf id 5 0 g.cells.length], I r] H =
      some (.agg [I g.h, I g.w, .rf id 5 0 g.cells.length], H.set id (.ow true 5 (celsD (setRow g r (mendL (rowL g r))).cells)) ++ [.bx [I g.h, I g.w, .rf id 5 0 g.cells.length], .bx [I g.h, I g.w, .rf id 5 0 g.cells.length], .bx [I g.h, I g.w, .rf id 5 0 g.cells.length], .ow true 5 (celsD (mendL (rowL g r)))]) := by
  have e4 := row_in o hr
  have e5 := rowL_len o hr
  have wi := fun q H n => iw163r q n H g o id r hr
  have wq := fun q H n => ir163r q n H g o id r hr
  have hw : rowL g r ≠ [] := by intro h; rw [h] at e5; have := o.2.2.1; simp at e5; omega
  have wm := sp150 k (rowL g r) hw (by omega)
  have e6 : (g.cells.drop (rowOff g r)).take g.w = rowL g r := rfl
  have hg := get_of hH
  have e7 : (mendL (rowL g r)).take g.w = mendL (rowL g r) := List.take_of_length_le (by simp; omega)
  rw [cw161, evInl_evB rfl rfl]
  unfold s161
  simp -implicitDefEqProofs [wi, wq, cw150, wm, e4, e5, e6, e7, hH, hg, hid, List.getElem?_append_left, setRow]
theorem rowOff_cells (g : Gd) (l : List Cel) (r : Nat) : rowOff { g with cells := l } r = rowOff g r := by simp only [rowOff_def]
theorem rowL_set (g : Gd) (r c : Nat) (y : Cel) (hc : c < g.w) : rowL { g with cells := g.cells.set (rowOff g r + c) y } r = (rowL g r).set c y := by
  unfold rowL
  simp only [rowOff_cells]
  generalize rowOff g r = A
  apply List.ext_getElem?
  intro i
  simp only [List.getElem?_take, List.getElem?_drop, List.getElem?_set, List.length_take, List.length_drop]
  split
  · by_cases e : c = i
    · subst e
      simp only [if_true]
      by_cases h : A + c < g.cells.length
      · rw [if_pos h, if_pos (by omega)]
      · rw [if_neg h, if_neg (by omega)]
    · rw [if_neg (by omega), if_neg e]
  · split
    · split
      · omega
      · rfl
    · rfl
theorem setRow_set (g : Gd) (r c : Nat) (y : Cel) (hc : c < g.w) (X : List Cel) : setRow { g with cells := g.cells.set (rowOff g r + c) y } r X = setRow g r X := by
  unfold setRow
  simp only [rowOff_cells]
  congr 2
  · congr 1
    apply List.ext_getElem?
    intro i
    simp only [List.getElem?_take, List.getElem?_set]
    split
    · rw [if_neg (by omega)]
    · rfl
  · apply List.ext_getElem?
    intro i
    simp only [List.getElem?_drop, List.getElem?_set]
    rw [if_neg (by omega)]
theorem OkG.cells {g : Gd} (o : OkG g) (l : List Cel) (h : l.length = g.cells.length) : OkG { g with cells := l } := ⟨o.1, o.2.1, o.2.2.1, o.2.2.2.1, by rw [h]; exact o.2.2.2.2⟩
theorem OkG.setRow {g : Gd} (o : OkG g) {r : Nat} (hr : r < g.h) (l : List Cel) (hl : l.length = g.w) : OkG (setRow g r l) := by
  have := row_in o hr
  exact o.cells _ (by simp; omega)
/-- A row written over. -/
def putRow (l : List Cel) (c : Nat) (x : Int) (n : Int) (p : Pn) : List Cel := if n = 2 then (l.set c ⟨x, 1, p⟩).set (c + 1) ⟨0, 2, p⟩ else l.set c ⟨x, 0, p⟩
@[simp] theorem putRow_len (l : List Cel) (c : Nat) (x : Int) (n : Int) (p : Pn) : (putRow l c x n p).length = l.length := by unfold putRow; split <;> simp
def putG (g : Gd) (r c : Nat) (x : Int) (p : Pn) : Gd := setRow g r (mendL (putRow (rowL g r) c x (widthR x) p))
theorem sp152a (k : Nat) (g : Gd) (o : OkG g) (hl : g.cells.length ≤ 100000) (r c : Nat) (hr : r < g.h) (x : Int) (p : Pn) (hx : widthR x = 1) (hc : c + 1 ≤ g.w) : evFun (clOf (modsR tab (k + 3)) 3) s152 [gdD g, I r, I c, R x, pnD p] = some (gdD (putG g r c x p), []) := by
  have w1 := sp158 (k + 1) g o hl
  have w2 := sp109 k x
  rw [hx] at w2
  have w3 := sp162 (k + 2) g r c
  have hr' : (r : Int) < g.h := by omega
  have hc' : (c : Int) < g.w := by omega
  simp only [hr', hc', Int.natCast_nonneg, decide_true, Bool.and_true] at w3
  have hc2 : ¬ (g.w : Int) < (c : Int) + 1 := by omega
  have hw := o.2.2.2.1
  have wi := fun q H n => iw163r q n H g o 3 r hr
  have e4 := row_in o hr
  have hcw : c < g.w := by omega
  have hcl : rowOff g r + c < g.cells.length := by omega
  obtain ⟨y, hy⟩ := get_ex hcl
  have gy := celsD_getD hy
  have wm := fun q n H a b => iw161 q n H { g with cells := g.cells.set (rowOff g r + c) ⟨x, 0, p⟩ } (o.cells _ (by simp)) (by simpa using hl) 3 a b r hr
  simp only [rowL_set g r c _ hcw, setRow_set g r c _ hcw, List.length_set] at wm
  have hp : putG g r c x p = setRow g r (mendL ((rowL g r).set c ⟨x, 0, p⟩)) := by unfold putG putRow; rw [hx]; simp
  have hlen : (setRow g r (mendL ((rowL g r).set c ⟨x, 0, p⟩))).cells.length = g.cells.length := by
    have := rowL_len o hr
    simp [setRow]
    omega
  rw [hp]
  generalize hG : setRow g r (mendL ((rowL g r).set c ⟨x, 0, p⟩)) = G at *
  have h1 : G.h = g.h := by rw [← hG]; rfl
  have h2 : G.w = g.w := by rw [← hG]; rfl
  have tk : G.cells.take g.cells.length = G.cells := List.take_of_length_le (by omega)
  rw [evFun_evB rfl]
  unfold s152
  simp -implicitDefEqProofs [cw158, w1, cw109, w2, cw162, w3, hc2, wr_id ((c : Int) + 1) (by omega) (by omega), wi, hcw, gy, wm, hlen, h1, h2, tk]
theorem sp152b (k : Nat) (g : Gd) (o : OkG g) (hl : g.cells.length ≤ 100000) (r c : Nat) (hr : r < g.h) (x : Int) (p : Pn) (hx : widthR x = 2) (hc : c + 2 ≤ g.w) : evFun (clOf (modsR tab (k + 3)) 3) s152 [gdD g, I r, I c, R x, pnD p] = some (gdD (putG g r c x p), []) := by
  have w1 := sp158 (k + 1) g o hl
  have w2 := sp109 k x
  rw [hx] at w2
  have w3 := sp162 (k + 2) g r c
  have hr' : (r : Int) < g.h := by omega
  have hc' : (c : Int) < g.w := by omega
  simp only [hr', hc', Int.natCast_nonneg, decide_true, Bool.and_true] at w3
  have hc2 : ¬ (g.w : Int) < (c : Int) + 2 := by omega
  have hw := o.2.2.2.1
  have wi := fun q H n => iw163r q n H g o 3 r hr
  have e4 := row_in o hr
  have hcw : c < g.w := by omega
  have hcw1 : c + 1 < g.w := by omega
  have hcl : rowOff g r + c < g.cells.length := by omega
  have hcl1 : rowOff g r + (c + 1) < g.cells.length := by omega
  obtain ⟨y, hy⟩ := get_ex hcl
  have gy := celsD_getD hy
  have hy2 : (g.cells.set (rowOff g r + c) ⟨x, 0, p⟩)[rowOff g r + c]? = some ⟨x, 0, p⟩ := by rw [List.getElem?_set]; simp [hcl]
  have gy2 := celsD_getD hy2
  obtain ⟨z, hz⟩ := get_ex (l := g.cells.set (rowOff g r + c) ⟨x, 1, p⟩) (i := rowOff g r + (c + 1)) (by simpa using hcl1)
  have gy3 := celsD_getD hz
  have wm := fun q n H a b => iw161 q n H { g with cells := (g.cells.set (rowOff g r + c) ⟨x, 1, p⟩).set (rowOff g r + (c + 1)) ⟨0, 2, p⟩ } (o.cells _ (by simp)) (by simpa using hl) 3 a b r hr
  have v1 := rowL_set { g with cells := g.cells.set (rowOff g r + c) ⟨x, 1, p⟩ } r (c + 1) ⟨0, 2, p⟩ hcw1
  have v2 := setRow_set { g with cells := g.cells.set (rowOff g r + c) ⟨x, 1, p⟩ } r (c + 1) ⟨0, 2, p⟩ hcw1
  simp only [rowOff_cells] at v1 v2
  simp only [v1, v2, rowL_set g r c _ hcw, setRow_set g r c _ hcw, List.length_set] at wm
  have hp : putG g r c x p = setRow g r (mendL (((rowL g r).set c ⟨x, 1, p⟩).set (c + 1) ⟨0, 2, p⟩)) := by unfold putG putRow; rw [hx]; simp
  have hlen : (setRow g r (mendL (((rowL g r).set c ⟨x, 1, p⟩).set (c + 1) ⟨0, 2, p⟩))).cells.length = g.cells.length := by
    have := rowL_len o hr
    simp [setRow]
    omega
  rw [hp]
  generalize hG : setRow g r (mendL (((rowL g r).set c ⟨x, 1, p⟩).set (c + 1) ⟨0, 2, p⟩)) = G at *
  have h1 : G.h = g.h := by rw [← hG]; rfl
  have h2 : G.w = g.w := by rw [← hG]; rfl
  have tk : G.cells.take g.cells.length = G.cells := List.take_of_length_le (by omega)
  have q1 : ((c : Int) + 1).toNat = c + 1 := by omega
  have q2 : (0 : Int) ≤ (c : Int) + 1 := by omega
  rw [evFun_evB rfl]
  unfold s152
  simp -implicitDefEqProofs [cw158, w1, cw109, w2, cw162, w3, hc2, wr_id ((c : Int) + 2) (by omega) (by omega), wr_id ((c : Int) + 1) (by omega) (by omega), q1, q2, wi, hcw, hcw1, gy, gy2, gy3, wm, hlen, h1, h2, tk]
/-- What isn't put. -/
theorem sp152n (k : Nat) (g : Gd) (o : OkG g) (hl : g.cells.length ≤ 100000) (r c : Int) (x : Int) (p : Pn) (hcb : -10000 ≤ c ∧ c ≤ 10000) (h : widthR x = 0 ∨ ¬ (0 ≤ r ∧ r < g.h ∧ 0 ≤ c ∧ c < g.w) ∨ (g.w : Int) < c + widthR x) : evFun (clOf (modsR tab (k + 3)) 3) s152 [gdD g, I r, I c, R x, pnD p] = some (gdD g, []) := by
  have w1 := sp158 (k + 1) g o hl
  have w2 := sp109 k x
  have w3 := sp162 (k + 2) g r c
  have tk : g.cells.take g.cells.length = g.cells := List.take_of_length_le (by omega)
  have hb : 0 ≤ widthR x ∧ widthR x ≤ 2 := by unfold widthR; repeat' split
                                              all_goals omega
  rw [evFun_evB rfl]
  unfold s152
  by_cases h0 : widthR x = 0
  · rw [h0] at w2
    simp -implicitDefEqProofs [cw158, w1, cw109, w2, tk]
  · cases hp : (decide (0 ≤ r) && decide (r < g.h) && decide (0 ≤ c) && decide (c < g.w))
    · rw [hp] at w3
      generalize widthR x = v at *
      simp -implicitDefEqProofs [cw158, w1, cw109, w2, cw162, w3, h0, tk]
    · rw [hp] at w3
      have h2 : (g.w : Int) < c + widthR x := by
        simp only [Bool.and_eq_true, decide_eq_true_eq] at hp
        rcases h with h | h | h
        · exact absurd h h0
        · omega
        · exact h
      generalize widthR x = v at *
      simp -implicitDefEqProofs [cw158, w1, cw109, w2, cw162, w3, h0, tk, wr_id (c + v) (by omega) (by omega), h2]
end Go.Proofs.YtadipapkdjcnbaaGreat.LgTab
