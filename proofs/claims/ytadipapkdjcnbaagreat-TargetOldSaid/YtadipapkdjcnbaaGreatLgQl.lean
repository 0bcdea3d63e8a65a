import Derived.Test.YtadipapkdjcnbaaGreatLgQk
/-
  The source's smaller functions.
-/
namespace Go.Proofs.YtadipapkdjcnbaaGreat.LgTab
open Go Lg
set_option linter.unusedVariables false
set_option linter.unusedSimpArgs false
set_option maxRecDepth 8000
def argI (l : List Int) (i : Nat) (none lo hi : Int) : Int :=
  mxI lo (mnI (match l[i]? with | some x => if x ≠ -1 ∧ (x ≠ 0 ∨ lo ≤ 0) then x else none | .none => none) hi)
theorem argI_b (l : List Int) (i : Nat) (none lo hi : Int) (h : lo ≤ hi) : lo ≤ argI l i none lo hi ∧ argI l i none lo hi ≤ hi := by
  unfold argI
  generalize (match l[i]? with | some x => if x ≠ -1 ∧ (x ≠ 0 ∨ lo ≤ 0) then x else none | .none => none) = n
  unfold mxI mnI
  repeat' split
  all_goals omega
set_option maxHeartbeats 2000000 in
theorem sp381 (k : Nat) (e : Ev) (i : Nat) (none lo hi : Int) : evFun (clOf (modsR tab k) 3) s381 [evD e, I i, I none, I lo, I hi] = some (I (argI e.par i none lo hi), []) := by
  obtain ⟨ek, er, ep, ei, ef, ps, et⟩ := e
  rw [evFun_evB rfl]
  unfold s381 argI Ev.par
  cases ps with
  | none =>
    have h : ¬ (i : Int) < 0 := by omega
    simp -implicitDefEqProofs [parD, h]
  | some l =>
    by_cases hi : i < l.length
    · obtain ⟨x, hx⟩ := get_ex hi
      have hi' : (i : Int) < l.length := by omega
      have hg := intsD_at hx
      by_cases h1 : x = -1
      · simp -implicitDefEqProofs [parD, hi, hi', hg, hx, get_of hx, h1]
      · by_cases h2 : x = 0
        · by_cases h3 : lo ≤ 0
          · simp -implicitDefEqProofs [parD, hi, hi', hg, hx, get_of hx, h1, h2, h3]
          · simp -implicitDefEqProofs [parD, hi, hi', hg, hx, get_of hx, h1, h2, h3]
        · simp -implicitDefEqProofs [parD, hi, hi', hg, hx, get_of hx, h1, h2]
    · have hx : l[i]? = .none := List.getElem?_eq_none (by omega)
      have hi' : ¬ (i : Int) < l.length := by omega
      simp -implicitDefEqProofs [parD, hi, hi', hx]
section
variable (o : Option (List Int))
@[simp high] theorem par_unf (H : List Ob) : unf (parD o) H = (parD o, H) := by cases o <;> rfl
@[simp high] theorem par_tree : noTree (parD o) = true := by cases o <;> simp [parD, noTree]
@[simp high] theorem par_cell : isCellD (parD o) = true := by cases o <;> rfl
@[simp high] theorem par_ro : isRO (parD o) = true := by cases o <;> simp [parD]
@[simp high] theorem par_cells : (parD o).cells = [parD o] := by cases o <;> rfl
@[simp high] theorem par_roD : roD (parD o) = some (parD o) := by cases o <;> simp [parD]
@[simp high] theorem par_rof (b : Bool) (H : List Ob) : rof b (parD o) H = some (parD o, H) := by cases o <;> simp [parD]
@[simp high] theorem par_ids : idsD (parD o) = [] := by cases o <;> simp [parD]
@[simp high] theorem par_eq : eqD (parD o) (parD o) = true := by cases o <;> simp [parD]
end
def from1I (l : List Int) (i : Nat) : Int := argI l i 1 1 65535
theorem from1I_b (l : List Int) (i : Nat) : 1 ≤ from1I l i ∧ from1I l i ≤ 65535 := argI_b l i 1 1 65535 (by omega)
theorem sp411 (k : Nat) (e : Ev) (i : Nat) : evFun (clOf (modsR tab (k + 1)) 3) s411 [evD e, I i] = some (I (from1I e.par i), []) := by
  have w := fun q => sp381 q e i 1 1 65535
  have e1 : from1I e.par i = argI e.par i 1 1 65535 := rfl
  rw [e1]
  generalize argI e.par i 1 1 65535 = n at *
  rw [evFun_evB rfl]
  unfold s411
  simp -implicitDefEqProofs [cw381, w]
theorem sp411_0 (k : Nat) (e : Ev) : evFun (clOf (modsR tab (k + 1)) 3) s411 [evD e, I 0] = some (I (from1I e.par 0), []) := sp411 k e 0
theorem sp411_1 (k : Nat) (e : Ev) : evFun (clOf (modsR tab (k + 1)) 3) s411 [evD e, I 1] = some (I (from1I e.par 1), []) := sp411 k e 1
theorem sp381_0 (k : Nat) (e : Ev) (none lo hi : Int) : evFun (clOf (modsR tab k) 3) s381 [evD e, I 0, I none, I lo, I hi] = some (I (argI e.par 0 none lo hi), []) := sp381 k e 0 none lo hi
theorem sp381_1 (k : Nat) (e : Ev) (none lo hi : Int) : evFun (clOf (modsR tab k) 3) s381 [evD e, I 1, I none, I lo, I hi] = some (I (argI e.par 1 none lo hi), []) := sp381 k e 1 none lo hi
theorem sp404 (k : Nat) (s : Sc) (o : OkS s) (c : Int) : evFun (clOf (modsR tab (k + 3)) 3) s404 [scD s, I c] = some (scD (atS s s.row c), []) := by
  have w := fun q => sp122 q s o s.row c
  generalize atS s s.row c = S' at *
  rw [evFun_evB rfl]
  unfold s404
  simp -implicitDefEqProofs [cw122, w]
def setM (s : Sc) (n : Int) (on : Bool) : Sc :=
  if n = 1 then { s with keys := on } else if n = 6 then homeS { s with orig := on } else if n = 7 then { s with wrap := on, pend := s.pend && on } else if n = 25 then { s with shown := on } else s
theorem orig_ok {s : Sc} (o : OkS s) (b : Bool) : OkS { s with orig := b } := ⟨o.g, o.h, o.w, o.row, o.col, o.top, o.bot, o.tabs, o.sh, o.ssh, o.srow, o.scol⟩
theorem setM_ok {s : Sc} (o : OkS s) (n : Int) (on : Bool) : OkS (setM s n on) := by
  unfold setM
  repeat' split
  · exact ⟨o.g, o.h, o.w, o.row, o.col, o.top, o.bot, o.tabs, o.sh, o.ssh, o.srow, o.scol⟩
  · exact atS_ok (orig_ok o on) _ _
  · exact ⟨o.g, o.h, o.w, o.row, o.col, o.top, o.bot, o.tabs, o.sh, o.ssh, o.srow, o.scol⟩
  · exact ⟨o.g, o.h, o.w, o.row, o.col, o.top, o.bot, o.tabs, o.sh, o.ssh, o.srow, o.scol⟩
  · exact o
set_option maxHeartbeats 2000000 in
theorem sp337 (k : Nat) (s : Sc) (o : OkS s) (n : Int) (on : Bool) : evFun (clOf (modsR tab (k + 4)) 3) s337 [scD s, I n, B on] = some (scD (setM s n on), []) := by
  have w := fun q => sp370 q s o.g (by have := o.len; omega)
  have w2 := fun q => sp127 q _ (orig_ok o on)
  have e : setM s n on = if n = 1 then { s with keys := on } else if n = 6 then homeS { s with orig := on } else if n = 7 then { s with wrap := on, pend := s.pend && on } else if n = 25 then { s with shown := on } else s := rfl
  rw [e]
  clear e
  generalize homeS { s with orig := on } = S' at *
  rw [evFun_evB rfl]
  unfold s337
  by_cases h1 : n = 1
  · simp -implicitDefEqProofs [cw370, w, h1]
  by_cases h2 : n = 6
  · simp -implicitDefEqProofs [cw370, w, h2, cw127, w2]
  by_cases h3 : n = 7
  · cases hp : s.pend
    · simp only [scD, scL, hp] at w ⊢
      simp -implicitDefEqProofs [cw370, w, h3, hp]
    · simp only [scD, scL, hp] at w ⊢
      simp -implicitDefEqProofs [cw370, w, h3, hp]
  by_cases h4 : n = 25
  · simp -implicitDefEqProofs [cw370, w, h4]
  simp -implicitDefEqProofs [cw370, w, h1, h2, h3, h4]
def desigS (s : Sc) (inter final : Int) : Sc :=
  if final ≠ 48 ∧ final ≠ 66 then s else if inter = 40 then { s with s0 := final } else if inter = 41 then { s with s1 := final } else s
theorem sp406 (k : Nat) (s : Sc) (it fi : Int) : evFun (clOf (modsR tab k) 3) s406 [scD s, U it, U fi] = some (scD (desigS s it fi), []) := by
  rw [evFun_evB rfl]
  unfold s406 desigS
  by_cases h : fi ≠ 48 ∧ fi ≠ 66
  · simp -implicitDefEqProofs [h.1, h.2]
  by_cases h0 : fi = 48
  · by_cases h1 : it = 40
    · simp -implicitDefEqProofs [h0, h1]
    by_cases h2 : it = 41
    · simp -implicitDefEqProofs [h0, h1, h2]
    simp -implicitDefEqProofs [h0, h1, h2]
  have h3 : fi = 66 := by
    by_cases h3 : fi = 66
    · exact h3
    · exact absurd ⟨h0, h3⟩ h
  by_cases h1 : it = 40
  · simp -implicitDefEqProofs [h3, h1]
  by_cases h2 : it = 41
  · simp -implicitDefEqProofs [h3, h1, h2]
  simp -implicitDefEqProofs [h3, h1, h2]
def dropS (s : Sc) (what : Int) : Sc := if what = 0 then { s with tabs := dropN s.tabs (bitN s.col) } else if what = 3 then { s with tabs := 0 } else s
theorem sp408 (k : Nat) (s : Sc) (o : OkS s) (n : Int) : evFun (clOf (modsR tab (k + 2)) 3) s408 [scD s, I n] = some (scD (dropS s n), []) := by
  have w := fun q => sp416 q s.tabs o.tabs s.col
  have e : dropS s n = if n = 0 then { s with tabs := dropN s.tabs (bitN s.col) } else if n = 3 then { s with tabs := 0 } else s := rfl
  rw [e]
  generalize dropN s.tabs (bitN s.col) = t at *
  rw [evFun_evB rfl]
  unfold s408
  by_cases h0 : n = 0
  · simp -implicitDefEqProofs [h0, cw416, w]
  by_cases h3 : n = 3
  · simp -implicitDefEqProofs [h3]
  simp -implicitDefEqProofs [h0, h3]
end Go.Proofs.YtadipapkdjcnbaaGreat.LgTab
