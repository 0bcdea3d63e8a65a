import Derived.Test.YtflnllohghgpdaaLgZ3
/-
  Operations in no order: they may change places.
-/
namespace Lg
open Go
set_option linter.unusedVariables false
set_option linter.unusedSimpArgs false
set_option linter.unusedSectionVars false

/-- Operations, one behind the other; calls of the greater kind among them. -/
def Run (cl : Cl) : List SOper → List Lo → Env → List Ob → Env → List Ob → Prop
  | [], [], E, H, E', H' => (∀ t, lk E t = lk E' t) ∧ H = H'
  | s :: ss, l :: ls, E, H, E', H' =>
      (isCall s.op = false ∧ ∃ r, stepX cl s E H = some r ∧ l = loX E s r ∧ Run cl ss ls (putE s.dst r.1 (putE r.2.1 .un E)) (putH r.2.2 H) E' H') ∨
      (isCall s.op = true ∧ ∃ d H1, (∀ t, t ∈ rdS s → noTree (lk E t) = true) ∧ stepO cl s E H = some (putE s.dst d E, H1) ∧ l = ([], kept H H1, 2) ∧ Run cl ss ls (putE s.dst d E) H1 E' H')
  | _, _, _, _, _, _ => False
def nocl (x y : Lo) : Prop := noclB x y = true
def apartS (x y : SOper) : Prop := (meets (wrS x) (rdS y ++ wrS y) || meets (wrS y) (rdS x)) = false
theorem apart_iff {xs ys : List Nat} : apart xs ys = true ↔ ∀ x, x ∈ xs → x ∉ ys := by
  simp [apart]
theorem meets_false {xs ys : List Nat} (h : meets xs ys = false) : ∀ x, x ∈ xs → x ∉ ys := by
  simpa [meets] using h
section
variable {cl : Cl} {E E' E1 : Env} {H H' : List Ob}
theorem EnvAt.of_eq (h : ∀ t, lk E t = lk E1 t) (I : List Nat) : EnvAt I E E1 := fun t _ => h t
theorem lk_put2 (s : SOper) (d : D) (e : Option Nat) (E : Env) (t : Nat) : lk (putE s.dst d (putE e .un E)) t = if s.dst = some t then d else if e = some t then .un else lk E t := by
  rw [lk_putE, lk_putE]
theorem loX_congr {s : SOper} {r : D × Option Nat × Option (Nat × Ob)} (h : EnvAt (rdS s) E E1) : loX E s r = loX E1 s r := by
  unfold loX; rw [accS_congr h]
theorem Run.congr (hr : CongrR cl.r) : ∀ {ss : List SOper} {ls : List Lo} {E E1 : Env} {H : List Ob}, (∀ t, lk E t = lk E1 t) → Run cl ss ls E H E' H' → Run cl ss ls E1 H E' H'
  | [], [], E, E1, H, h, r => ⟨fun t => by rw [← h t]; exact r.1 t, r.2⟩
  | s :: ss, l :: ls, E, E1, H, h, r => by
    rcases r with ⟨hc, ⟨d, e, u⟩, h1, h2, h4⟩ | ⟨hc, d, H1, h0, h1, h2, h4⟩
    · refine .inl ⟨hc, (d, e, u), ?_, ?_, Run.congr hr (fun t => by rw [lk_put2, lk_put2, h t]) h4⟩
      · rw [← h1]; exact (stepX_congr hr (EnvAt.of_eq h _) (fun i _ => rfl)).symm
      · rw [h2]; exact loX_congr (EnvAt.of_eq h _)
    · refine .inr ⟨hc, d, H1, fun t ht => by rw [← h t]; exact h0 t ht, ?_, h2, Run.congr hr (fun t => by rw [lk_putE, lk_putE, h t]) h4⟩
      rcases stepO_call_congr (cl := cl) (H := H) hc (EnvAt.of_eq h (rdS s)) with ⟨a, b⟩ | ⟨d', H2, a, b⟩
      · rw [a] at h1; cases h1
      · rw [a] at h1
        injection h1 with h1
        simp only [Prod.mk.injEq] at h1
        obtain ⟨g1, rfl⟩ := h1
        rw [b]
        have : putE s.dst d' E1 = putE s.dst d E1 := by
          cases hd : s.dst with
          | none => rfl
          | some t =>
            rw [hd] at g1
            simp only [putE, List.cons.injEq, Prod.mk.injEq, true_and, and_true] at g1
            simp [putE, g1]
        rw [this]
  | [], _ :: _, E, E1, H, h, r => r.elim
  | _ :: _, [], E, E1, H, h, r => r.elim
theorem putH_get {u : Option (Nat × Ob)} {H : List Ob} {i : Nat} (h : i ∉ idOf u) : (putH u H)[i]? = H[i]? := by
  cases u with
  | none => rfl
  | some p =>
    obtain ⟨j, o⟩ := p
    simp only [idOf, List.mem_singleton] at h
    simp only [putH, List.getElem?_set]
    rw [if_neg (fun e => h e.symm)]
theorem putH_comm {u v : Option (Nat × Ob)} {H : List Ob} (h : ∀ i, i ∈ idOf u → i ∉ idOf v) : putH u (putH v H) = putH v (putH u H) := by
  cases u with
  | none => rfl
  | some p =>
    cases v with
    | none => rfl
    | some q =>
      obtain ⟨i, o⟩ := p
      obtain ⟨j, o'⟩ := q
      have : i ≠ j := by have := h i (by simp [idOf]); simpa [idOf] using this
      simp only [putH]
      rw [List.set_comm _ _ this.symm]
theorem env_keep {s : SOper} {d : D} {e : Option Nat} (he : ∀ t, e = some t → t ∈ wrS s) {I : List Nat} (h : ∀ t, t ∈ wrS s → t ∉ I) : EnvAt I E (putE s.dst d (putE e .un E)) := by
  intro t ht
  rw [lk_put2]
  have h1 : s.dst ≠ some t := fun hd => h t (by simp [wrS, hd]) ht
  have h2 : e ≠ some t := fun hd => h t (he t hd) ht
  rw [if_neg h1, if_neg h2]
theorem lk_swap {x y : SOper} {dx dy : D} {ex ey : Option Nat} (w1 : ∀ t, t ∈ wrS x → t ∉ wrS y) (ex' : ∀ t, ex = some t → t ∈ wrS x) (ey' : ∀ t, ey = some t → t ∈ wrS y) (t : Nat) :
    lk (putE y.dst dy (putE ey .un (putE x.dst dx (putE ex .un E)))) t = lk (putE x.dst dx (putE ex .un (putE y.dst dy (putE ey .un E)))) t := by
  rw [lk_put2, lk_put2, lk_put2, lk_put2]
  by_cases c1 : y.dst = some t
  · have c2 : x.dst ≠ some t := fun h => w1 t (by simp [wrS, h]) (by simp [wrS, c1])
    have c3 : ex ≠ some t := fun h => w1 t (ex' t h) (by simp [wrS, c1])
    rw [if_pos c1, if_neg c2, if_neg c3, if_pos c1]
  · rw [if_neg c1]
    by_cases c2 : ey = some t
    · have c3 : x.dst ≠ some t := fun h => w1 t (by simp [wrS, h]) (ey' t c2)
      have c4 : ex ≠ some t := fun h => w1 t (ex' t h) (ey' t c2)
      rw [if_pos c2, if_neg c3, if_neg c4, if_neg c1, if_pos c2]
    · rw [if_neg c2, if_neg c1, if_neg c2]
theorem inert_of {s : SOper} {r : D × Option Nat × Option (Nat × Ob)} (h : (loX E s r).2.2 = 1) : noTree r.1 = true ∧ r.2.1 = none ∧ r.2.2 = none := by
  unfold loX inertX at h
  simp only at h
  split at h
  · rename_i hh
    simp only [Bool.and_eq_true, Option.isNone_iff_eq_none] at hh
    exact ⟨hh.1.1, hh.1.2, hh.2⟩
  · cases h
theorem loX_ne {s : SOper} {r : D × Option Nat × Option (Nat × Ob)} : (loX E s r).2.2 ≠ 2 := by
  unfold loX; simp only; split <;> decide
/-- Two change places. -/
theorem Run.swap (hr : CongrR cl.r) {x y : SOper} {lx ly : Lo} {ss : List SOper} {ls : List Lo} (ha : apartS x y) (hn : nocl lx ly) (r : Run cl (x :: y :: ss) (lx :: ly :: ls) E H E' H') : Run cl (y :: x :: ss) (ly :: lx :: ls) E H E' H' := by
  simp only [apartS, Bool.or_eq_false_iff] at ha
  have a1 := meets_false ha.1
  have a2 := meets_false ha.2
  have w1 : ∀ t, t ∈ wrS x → t ∉ wrS y := fun t ht hh => a1 t ht (List.mem_append_right _ hh)
  have wd : ∀ {s : SOper} {t : Nat}, s.dst = some t → t ∈ wrS s := fun h => by simp [wrS, h]
  unfold nocl noclB at hn
  rcases r with ⟨hcx, ⟨dx, ex, ux⟩, h1, h2, r⟩ | ⟨hcx, dx, Hx, h0, h1, h2, r⟩
  · have ex' := stepX_eats h1
    rcases r with ⟨hcy, ⟨dy, ey, uy⟩, h4, h5, h7⟩ | ⟨hcy, dy, Hy, g0, h4, h5, h7⟩
    · -- both of the lesser kind
      have ey' := stepX_eats h4
      rw [if_neg (by rw [h2]; exact loX_ne), if_neg (by rw [h5]; exact loX_ne)] at hn
      simp only [Bool.and_eq_true, apart_iff] at hn
      obtain ⟨n1, n2⟩ := hn
      have h3 : lx.2.1 = idOf ux := by rw [h2]; rfl
      have h6 : ly.2.1 = idOf uy := by rw [h5]; rfl
      have h2' : lx.1 = accS E x := by rw [h2]; rfl
      have h5' : ly.1 = accS (putE x.dst dx (putE ex .un E)) y := by rw [h5]; rfl
      have kE : EnvAt (rdS y) E (putE x.dst dx (putE ex .un E)) := env_keep ex' (fun t ht => fun hh => a1 t ht (List.mem_append_left _ hh))
      have kacc : accS E y = accS (putE x.dst dx (putE ex .un E)) y := accS_congr kE
      have kH : SameAt (accS E y) H (putH ux H) := by
        intro i hi
        rw [putH_get]
        intro hh
        rw [← h3] at hh
        rw [kacc, ← h5'] at hi
        exact n1 i hh hi
      have sy : stepX cl y E H = some (dy, ey, uy) := by rw [← h4]; exact stepX_congr hr kE kH
      have kE2 : EnvAt (rdS x) E (putE y.dst dy (putE ey .un E)) := env_keep ey' a2
      have kacc2 : accS E x = accS (putE y.dst dy (putE ey .un E)) x := accS_congr kE2
      have kH2 : SameAt (accS E x) H (putH uy H) := by
        intro i hi
        rw [putH_get]
        intro hh
        rw [← h6] at hh
        rw [← h2'] at hi
        exact n2 i hh hi
      have sx : stepX cl x (putE y.dst dy (putE ey .un E)) (putH uy H) = some (dx, ex, ux) := by rw [← h1]; exact (stepX_congr hr kE2 kH2).symm
      have hids : ∀ i, i ∈ idOf uy → i ∉ idOf ux := by
        intro i hi hx
        rw [← h3] at hx
        refine n1 i hx ?_
        rw [h5']
        cases uy with
        | none => simp [idOf] at hi
        | some p =>
          obtain ⟨j, o⟩ := p
          simp only [idOf, List.mem_singleton] at hi
          subst hi
          exact stepX_id h4
      refine .inl ⟨hcy, (dy, ey, uy), sy, by rw [h5]; exact (loX_congr kE).symm, .inl ⟨hcx, (dx, ex, ux), sx, by rw [h2]; exact loX_congr kE2, ?_⟩⟩
      simp only
      rw [putH_comm (fun i hi hx => hids i hx hi)]
      exact Run.congr hr (fun t => lk_swap w1 ex' ey' t) h7
    · -- the second one is a call
      rw [if_neg (by rw [h2]; exact loX_ne), if_pos (by rw [h5])] at hn
      simp only [Bool.and_eq_true, decide_eq_true_eq, List.all_eq_true] at hn
      obtain ⟨n1, n2⟩ := hn
      rw [h2] at n1
      obtain ⟨i1, i2, i3⟩ := inert_of n1
      simp only at i1 i2 i3
      subst i2; subst i3
      have kE : EnvAt (rdS y) E (putE x.dst dx (putE none .un E)) := env_keep ex' (fun t ht => fun hh => a1 t ht (List.mem_append_left _ hh))
      simp only [putH] at h4 h5 h7
      rcases stepO_call_congr (cl := cl) (H := H) hcy kE with ⟨a, b⟩ | ⟨d', H2, a, b⟩
      · rw [b] at h4; cases h4
      · rw [b] at h4
        injection h4 with h4
        simp only [Prod.mk.injEq] at h4
        obtain ⟨g1, rfl⟩ := h4
        have hdd : ∀ Z : Env, putE y.dst d' Z = putE y.dst dy Z := by
          intro Z
          cases hd : y.dst with
          | none => rfl
          | some t =>
            rw [hd] at g1
            simp only [putE, List.cons.injEq, Prod.mk.injEq, true_and, and_true] at g1
            simp [putE, g1]
        rw [hdd] at a
        have kE2 : EnvAt (rdS x) E (putE y.dst dy E) := env_keep (e := none) (fun t h => by cases h) a2
        have kH2 : SameAt (accS E x) H H2 := by
          intro i hi
          have := n2 i (by rw [h2]; exact hi)
          rw [h5] at this
          exact (kept_same (by simpa using this)).symm
        have sx : stepX cl x (putE y.dst dy E) H2 = some (dx, none, none) := by rw [← h1]; exact (stepX_congr hr kE2 kH2).symm
        refine .inr ⟨hcy, dy, H2, fun t ht => by rw [kE t ht]; exact g0 t ht, a, h5, .inl ⟨hcx, (dx, none, none), sx, by rw [h2]; exact loX_congr kE2, ?_⟩⟩
        exact Run.congr hr (fun t => lk_swap (ey := none) w1 ex' (fun t h => by cases h) t) h7
  · rcases r with ⟨hcy, ⟨dy, ey, uy⟩, h4, h5, h7⟩ | ⟨hcy, dy, Hy, g0, h4, h5, h7⟩
    · -- the first one is a call
      have ey' := stepX_eats h4
      rw [if_pos (by rw [h2])] at hn
      simp only [Bool.and_eq_true, decide_eq_true_eq, List.all_eq_true] at hn
      obtain ⟨n1, n2⟩ := hn
      rw [h5] at n1
      obtain ⟨i1, i2, i3⟩ := inert_of n1
      simp only at i1 i2 i3
      subst i2; subst i3
      have kE : EnvAt (rdS y) E (putE x.dst dx E) := env_keep (e := none) (fun t h => by cases h) (fun t ht => fun hh => a1 t ht (List.mem_append_left _ hh))
      have kacc : accS E y = accS (putE x.dst dx E) y := accS_congr kE
      have kH : SameAt (accS E y) H Hx := by
        intro i hi
        have := n2 i (by rw [h5]; rw [kacc] at hi; exact hi)
        rw [h2] at this
        exact (kept_same (by simpa using this)).symm
      have sy : stepX cl y E H = some (dy, none, none) := by rw [← h4]; exact stepX_congr hr kE kH
      have kE2 : EnvAt (rdS x) E (putE y.dst dy E) := env_keep (e := none) (fun t h => by cases h) a2
      rcases stepO_call_congr (cl := cl) (H := H) hcx kE2 with ⟨a, b⟩ | ⟨d', H2, a, b⟩
      · rw [a] at h1; cases h1
      · rw [a] at h1
        injection h1 with h1
        simp only [Prod.mk.injEq] at h1
        obtain ⟨g1, rfl⟩ := h1
        have hdd : ∀ Z : Env, putE x.dst d' Z = putE x.dst dx Z := by
          intro Z
          cases hd : x.dst with
          | none => rfl
          | some t =>
            rw [hd] at g1
            simp only [putE, List.cons.injEq, Prod.mk.injEq, true_and, and_true] at g1
            simp [putE, g1]
        rw [hdd] at b
        refine .inl ⟨hcy, (dy, none, none), sy, by rw [h5]; exact (loX_congr kE).symm, .inr ⟨hcx, dx, H2, fun t ht => ?_, b, h2, ?_⟩⟩
        · show noTree (lk (putE y.dst dy E) t) = true
          rw [← kE2 t ht]; exact h0 t ht
        · exact Run.congr hr (fun t => lk_swap (ex := none) w1 (fun t h => by cases h) ey' t) h7
    · -- both are calls
      exfalso
      rw [if_pos (by rw [h2])] at hn
      rw [h5] at hn
      simp at hn
/-- One is drawn ahead of all. -/
theorem Run.bubble (hr : CongrR cl.r) {x : SOper} {lx : Lo} {post : List SOper} {lpost : List Lo} : ∀ (pre : List (SOper × Lo)) {E : Env} {H : List Ob}, (∀ p, p ∈ pre → apartS p.1 x ∧ nocl p.2 lx) →
    Run cl (pre.map (·.1) ++ x :: post) (pre.map (·.2) ++ lx :: lpost) E H E' H' → Run cl (x :: (pre.map (·.1) ++ post)) (lx :: (pre.map (·.2) ++ lpost)) E H E' H'
  | [], E, H, _, r => r
  | p :: pre, E, H, h, r => by
    simp only [List.map_cons, List.cons_append] at r ⊢
    obtain ⟨ha, hn⟩ := h p (by simp)
    refine Run.swap hr ha hn ?_
    rcases r with ⟨hc, r, h1, h2, h4⟩ | ⟨hc, d, H1, h0, h1, h2, h4⟩
    · exact .inl ⟨hc, r, h1, h2, Run.bubble hr pre (fun q hq => h q (by simp [hq])) h4⟩
    · exact .inr ⟨hc, d, H1, h0, h1, h2, Run.bubble hr pre (fun q hq => h q (by simp [hq])) h4⟩
end
end Lg
