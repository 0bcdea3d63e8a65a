import Derived.Test.YtioehjcdfhddcaaLgZ3
/-
  Operations in no order: they may change places.
-/
namespace Lg
open Go
set_option linter.unusedVariables false
set_option linter.unusedSimpArgs false
set_option linter.unusedSectionVars false

abbrev Lo := List Nat × List Nat
def Run (cl : Cl) : List SOper → List Lo → Env → List Ob → Env → List Ob → Prop
  | [], [], E, H, E', H' => (∀ t, lk E t = lk E' t) ∧ H = H'
  | s :: ss, l :: ls, E, H, E', H' => ∃ d e u, stepX cl s E H = some (d, e, u) ∧ l.1 = accS E s ∧ l.2 = idOf u ∧ Run cl ss ls (putE s.dst d (putE e .un E)) (putH u H) E' H'
  | _, _, _, _, _, _ => False
def nocl (x y : Lo) : Prop := apart x.2 y.1 = true ∧ apart y.2 x.1 = true
def apartS (x y : SOper) : Prop := (meets (wrS x) (rdS y ++ wrS y) || meets (wrS y) (rdS x)) = false
theorem apart_iff {xs ys : List Nat} : apart xs ys = true ↔ ∀ x, x ∈ xs → x ∉ ys := by
  simp [apart]
theorem meets_false {xs ys : List Nat} (h : meets xs ys = false) : ∀ x, x ∈ xs → x ∉ ys := by
  simpa [meets] using h
section
variable {cl : Cl} {E E' E1 : Env} {H H' : List Ob}
theorem EnvAt.of_eq (h : ∀ t, lk E t = lk E1 t) (I : List Nat) : EnvAt I E E1 := fun t _ => h t
theorem lk_put2 (s : SOper) (d : D) (e : Option Nat) (E : Env) (t : Nat) : lk (putE s.dst d (putE e .un E)) t = if s.dst = some t then d else if e = some t then .un else lk E t := by
  rw [lk_putE, lk_putE]
theorem Run.congr (hr : CongrR cl.r) : ∀ {ss : List SOper} {ls : List Lo} {E E1 : Env} {H : List Ob}, (∀ t, lk E t = lk E1 t) → Run cl ss ls E H E' H' → Run cl ss ls E1 H E' H'
  | [], [], E, E1, H, h, r => ⟨fun t => by rw [← h t]; exact r.1 t, r.2⟩
  | s :: ss, l :: ls, E, E1, H, h, r => by
    obtain ⟨d, e, u, h1, h2, h3, h4⟩ := r
    refine ⟨d, e, u, ?_, ?_, h3, Run.congr hr (fun t => by rw [lk_put2, lk_put2, h t]) h4⟩
    · rw [← h1]; exact (stepX_congr hr (EnvAt.of_eq h _) (fun i _ => rfl)).symm
    · rw [h2]; exact accS_congr (EnvAt.of_eq h _)
  | [], _ :: _, E, E1, H, h, r => r.elim
  | _ :: _, [], E, E1, H, h, r => r.elim
theorem putH_get {u : Option (Nat × Ob)} {H : List Ob} {i : Nat} (h : i ∉ idOf u) : (putH u H)[i]? = H[i]? := by
  cases u with
  | none => rfl
  | some p =>
    obtain ⟨j, o⟩ := p
    simp only [idOf, List.mem_singleton] at h
    simp only [putH, List.getElem?_set]
    rw [if_neg (fun e => h e.symm)]
theorem putH_comm {u v : Option (Nat × Ob)} {H : List Ob} (h : ∀ i, i ∈ idOf u → i ∉ idOf v) : putH u (putH v H) = putH v (putH u H) := by
  cases u with
  | none => rfl
  | some p =>
    cases v with
    | none => rfl
    | some q =>
      obtain ⟨i, o⟩ := p
      obtain ⟨j, o'⟩ := q
      have : i ≠ j := by have := h i (by simp [idOf]); simpa [idOf] using this
      simp only [putH]
      rw [List.set_comm _ _ this.symm]
theorem env_keep {s : SOper} {d : D} {e : Option Nat} (he : ∀ t, e = some t → t ∈ wrS s) {I : List Nat} (h : ∀ t, t ∈ wrS s → t ∉ I) : EnvAt I E (putE s.dst d (putE e .un E)) := by
  intro t ht
  rw [lk_put2]
  have h1 : s.dst ≠ some t := fun hd => h t (by simp [wrS, hd]) ht
  have h2 : e ≠ some t := fun hd => h t (he t hd) ht
  rw [if_neg h1, if_neg h2]
/-- Two change places. -/
theorem Run.swap (hr : CongrR cl.r) {x y : SOper} {lx ly : Lo} {ss : List SOper} {ls : List Lo} (ha : apartS x y) (hn : nocl lx ly) (r : Run cl (x :: y :: ss) (lx :: ly :: ls) E H E' H') : Run cl (y :: x :: ss) (ly :: lx :: ls) E H E' H' := by
  obtain ⟨dx, ex, ux, h1, h2, h3, dy, ey, uy, h4, h5, h6, h7⟩ := r
  simp only [apartS, Bool.or_eq_false_iff] at ha
  have a1 := meets_false ha.1
  have a2 := meets_false ha.2
  have ex' := stepX_eats h1
  have ey' := stepX_eats h4
  obtain ⟨n1, n2⟩ := hn
  rw [apart_iff] at n1 n2
  -- the second one, as it is ahead of the first one
  have kE : EnvAt (rdS y) E (putE x.dst dx (putE ex .un E)) := env_keep ex' (fun t ht => fun hh => a1 t ht (List.mem_append_left _ hh))
  have kacc : accS E y = accS (putE x.dst dx (putE ex .un E)) y := accS_congr kE
  have kH : SameAt (accS E y) H (putH ux H) := by
    intro i hi
    rw [putH_get]
    intro hh
    rw [← h3] at hh
    rw [kacc, ← h5] at hi
    exact n1 i hh hi
  have sy : stepX cl y E H = some (dy, ey, uy) := by rw [← h4]; exact stepX_congr hr kE kH
  -- the first one, behind the second one
  have kE2 : EnvAt (rdS x) E (putE y.dst dy (putE ey .un E)) := env_keep ey' a2
  have kacc2 : accS E x = accS (putE y.dst dy (putE ey .un E)) x := accS_congr kE2
  have kH2 : SameAt (accS E x) H (putH uy H) := by
    intro i hi
    rw [putH_get]
    intro hh
    rw [← h6] at hh
    rw [← h2] at hi
    exact n2 i hh hi
  have sx : stepX cl x (putE y.dst dy (putE ey .un E)) (putH uy H) = some (dx, ex, ux) := by rw [← h1]; exact (stepX_congr hr kE2 kH2).symm
  have hids : ∀ i, i ∈ idOf uy → i ∉ idOf ux := by
    intro i hi hx
    rw [← h3] at hx
    refine n1 i hx ?_
    rw [h5]
    cases uy with
    | none => simp [idOf] at hi
    | some p =>
      obtain ⟨j, o⟩ := p
      simp only [idOf, List.mem_singleton] at hi
      subst hi
      exact stepX_id h4
  refine ⟨dy, ey, uy, sy, by rw [h5, kacc], h6, dx, ex, ux, sx, by rw [h2, kacc2], h3, ?_⟩
  rw [putH_comm (fun i hi hx => hids i hx hi)]
  refine Run.congr hr (fun t => ?_) h7
  rw [lk_put2, lk_put2, lk_put2, lk_put2]
  have w1 : ∀ t, t ∈ wrS x → t ∉ wrS y := fun t ht hh => a1 t ht (List.mem_append_right _ hh)
  by_cases c1 : y.dst = some t
  · have c2 : x.dst ≠ some t := fun h => w1 t (by simp [wrS, h]) (by simp [wrS, c1])
    have c3 : ex ≠ some t := fun h => w1 t (ex' t h) (by simp [wrS, c1])
    rw [if_pos c1, if_neg c2, if_neg c3, if_pos c1]
  · rw [if_neg c1]
    by_cases c2 : ey = some t
    · have c3 : x.dst ≠ some t := fun h => w1 t (by simp [wrS, h]) (ey' t c2)
      have c4 : ex ≠ some t := fun h => w1 t (ex' t h) (ey' t c2)
      rw [if_pos c2, if_neg c3, if_neg c4, if_neg c1, if_pos c2]
    · rw [if_neg c2, if_neg c1, if_neg c2]
/-- One is drawn ahead of all. -/
theorem Run.bubble (hr : CongrR cl.r) {x : SOper} {lx : Lo} {post : List SOper} {lpost : List Lo} : ∀ (pre : List (SOper × Lo)) {E : Env} {H : List Ob}, (∀ p, p ∈ pre → apartS p.1 x ∧ nocl p.2 lx) →
    Run cl (pre.map (·.1) ++ x :: post) (pre.map (·.2) ++ lx :: lpost) E H E' H' → Run cl (x :: (pre.map (·.1) ++ post)) (lx :: (pre.map (·.2) ++ lpost)) E H E' H'
  | [], E, H, _, r => r
  | p :: pre, E, H, h, r => by
    simp only [List.map_cons, List.cons_append] at r ⊢
    obtain ⟨d, e, u, h1, h2, h3, h4⟩ := r
    have := Run.bubble hr pre (fun q hq => h q (by simp [hq])) h4
    obtain ⟨ha, hn⟩ := h p (by simp)
    exact Run.swap hr ha hn ⟨d, e, u, h1, h2, h3, this⟩
end
end Lg
