import Derived.Test.YtmmbkjigflhmjaaGreatLgSa
/-
  SourceTabs: its law.
-/
namespace Go.Proofs.YtmmbkjigflhmjaaGreat.LgTab
open Go Lg
set_option linter.unusedVariables false
set_option linter.unusedSimpArgs false
set_option maxRecDepth 8000
/-- A screen and a map that tell of the same stops. -/
structure TabI (w : Nat) (s : Sc) (m : List (Int × Bool)) : Prop where
  ok : OkS s
  gw : s.g.w = w
  st : ∀ c : Nat, c < w → hasT s.tabs c = inM m c
theorem tab_put {w : Nat} {s : Sc} {m : List (Int × Bool)} (t : TabI w s m) (hw : w ≤ 60) (c : Nat) (hc : c < w) : TabI w (allS s [csiE 71 [(c : Int) + 1], escE 72]) (putM m c true) := by
  have o := allS_ok t.ok [csiE 71 [(c : Int) + 1], escE 72]
  have gw := t.gw
  have e : allS s [csiE 71 [(c : Int) + 1], escE 72] = { atS s s.row c with tabs := s.tabs ||| bitN (atS s s.row c).col } := by
    show doS (doS s (csiE 71 [(c : Int) + 1])) (escE 72) = _
    rw [do_col s c (by omega), do_stop]
    rfl
  have hcc : (atS s s.row c).col = c := nearI_id (by omega) (by omega)
  rw [e] at o ⊢
  refine ⟨o, t.gw, ?_⟩
  show ∀ d : Nat, d < w → hasT (s.tabs ||| bitN (atS s s.row c).col) d = inM (putM m c true) d
  rw [hcc]
  exact stops_put hw hc t.st
theorem tab_drop {w : Nat} {s : Sc} {m : List (Int × Bool)} (t : TabI w s m) (hw : w ≤ 60) (c : Nat) (hc : c < w) : TabI w (allS s [csiE 71 [(c : Int) + 1], csiN 103]) (putM m c false) := by
  have o := allS_ok t.ok [csiE 71 [(c : Int) + 1], csiN 103]
  have gw := t.gw
  have e : allS s [csiE 71 [(c : Int) + 1], csiN 103] = { atS s s.row c with tabs := dropN s.tabs (bitN (atS s s.row c).col) } := by
    show doS (doS s (csiE 71 [(c : Int) + 1])) (csiN 103) = _
    rw [do_col s c (by omega), do_drop]
    have ha : argI ((none : Option (List Int)).getD []) 0 0 0 65535 = 0 := rfl
    rw [ha]
    unfold dropS
    rw [if_pos rfl]
    rfl
  have hcc : (atS s s.row c).col = c := nearI_id (by omega) (by omega)
  rw [e] at o ⊢
  refine ⟨o, t.gw, ?_⟩
  show ∀ d : Nat, d < w → hasT (dropN s.tabs (bitN (atS s s.row c).col)) d = inM (putM m c false) d
  rw [hcc]
  exact stops_drop t.ok.tabs hw hc t.st
theorem tab_home {w : Nat} {s : Sc} {m : List (Int × Bool)} (t : TabI w s m) : TabI w (doS s (execE 13)) m ∧ (doS s (execE 13)).col = 0 := by
  have o := doS_ok t.ok (execE 13)
  have h1 := t.ok.g.2.2.1
  rw [do_home] at o ⊢
  exact ⟨⟨o, t.gw, t.st⟩, nearI_id (by omega) (by omega)⟩
theorem tab_next {w : Nat} {s : Sc} {m : List (Int × Bool)} (t : TabI w s m) (hw : w ≤ 60) (j : Nat) (hj : j + 1 ≤ w) (hc : s.col = (w : Int) - 1 - j) : TabI w (doS s (execE 9)) m ∧ (doS s (execE 9)).col = wantJ m w j := by
  have o := doS_ok t.ok (execE 9)
  have h1 := t.ok.g.2.2.1
  have gw := t.gw
  rw [do_tab] at o ⊢
  refine ⟨⟨o, t.gw, t.st⟩, ?_⟩
  show nearI (nextT s.tabs s.col s.g.w) s.g.w = _
  rw [gw, hc, next_want (by omega) hw t.st j hj]
  have hb := wantJ_b m w j hj
  exact nearI_id (by omega) (by omega)
/-- The screen, and the map, behind so many stops. -/
noncomputable def tabS (s : Sc) (cs : List Int) : Nat → Sc
  | 0 => s
  | i + 1 => allS (tabS s cs i) [csiE 71 [cs.getD i 0 + 1], escE 72]
def tabM (cs : List Int) : Nat → List (Int × Bool)
  | 0 => []
  | i + 1 => putM (tabM cs i) (cs.getD i 0) true
theorem tab_all {w : Nat} {s : Sc} (t : TabI w s []) (hw : w ≤ 60) (cs : List Int) (hc : ∀ c, c ∈ cs → 0 ≤ c ∧ c < w) : ∀ i, i ≤ cs.length → TabI w (tabS s cs i) (tabM cs i)
  | 0, _ => t
  | i + 1, hi => by
    have ih := tab_all t hw cs hc i (by omega)
    have hx : cs[i]? = some cs[i] := List.getElem?_eq_getElem (by omega)
    have hd : cs.getD i 0 = cs[i] := by rw [List.getD_eq_getElem?_getD, hx]; rfl
    have hb := hc cs[i] (List.getElem_mem _)
    obtain ⟨c, hcc⟩ : ∃ c : Nat, cs[i] = (c : Int) := ⟨cs[i].toNat, by omega⟩
    show TabI w (allS (tabS s cs i) [csiE 71 [cs.getD i 0 + 1], escE 72]) (putM (tabM cs i) (cs.getD i 0) true)
    rw [hd, hcc]
    exact tab_put ih hw c (by omega)
set_option maxHeartbeats 8000000 in
theorem sp194 (k : Nat) (c0 n0 : Int) (st : List Int) (hl : st.length ≤ 9223372036854775807) : evFun (clOf (modsR tab (k + 12)) 3) s194 [I c0, I n0, .sl 1 (intsD st)] = some (B true, []) := by
  obtain ⟨q0, hq⟩ : ∃ q, q = 2 + c0 % (50 - 2 + 1) := ⟨_, rfl⟩
  have wq := fun q => sp174c q c0 2 50 (by omega) (by omega) (by omega) q0 hq
  obtain ⟨w, hw⟩ : ∃ w : Nat, q0 = (w : Int) := ⟨q0.toNat, by omega⟩
  have bw : 2 ≤ w ∧ w ≤ 50 := by omega
  rw [hw] at wq
  clear hq hw
  have w372 : ∀ q, evFun (clOf (modsR tab (q + 4)) 3) s372 [I 2, I w] = some (scD (newS 2 w), []) := fun q => sp372 q 2 w (by omega) (by omega)
  have o0 := newS_ok 2 w (by omega) (by omega)
  have v0 := fun q => sp400 q _ o0 (csiE 103 [3]) (by simp [Ev.par])
  have t0 : TabI w (doS (newS 2 w) (csiE 103 [3])) [] := by
    have o := doS_ok o0 (csiE 103 [3])
    have e : doS (newS 2 w) (csiE 103 [3]) = { newS 2 w with tabs := 0 } := by
      rw [do_drop]
      rfl
    rw [e] at o ⊢
    exact ⟨o, rfl, stops_0 w (by omega)⟩
  obtain ⟨cs, hcs⟩ : ∃ cs : List Int, cs = st.map fun n => 0 + n % ((w : Int) - 1 - 0 + 1) := ⟨_, rfl⟩
  have lcs : cs.length = st.length := by rw [hcs]; simp
  have bcs : ∀ c, c ∈ cs → 0 ≤ c ∧ c < w := by
    intro c hc
    rw [hcs, List.mem_map] at hc
    obtain ⟨n, _, rfl⟩ := hc
    have := Int.emod_nonneg n (b := (w : Int) - 1 - 0 + 1) (by omega)
    have := Int.emod_lt_of_pos n (b := (w : Int) - 1 - 0 + 1) (by omega)
    omega
  generalize doS (newS 2 w) (csiE 103 [3]) = S0 at *
  generalize newS 2 w = S00 at *
  have tA := tab_all t0 (by omega) cs bcs
  obtain ⟨N, hN⟩ : ∃ N, N = min st.length 8 := ⟨_, rfl⟩
  have tN := tA N (by omega)
  have a0 : tabS S0 cs 0 = S0 := rfl
  have a1 : tabM cs 0 = [] := rfl
  have ww : wr ((w : Int) - 1) = (w : Int) - 1 := wr_id _ (by omega) (by omega)
  obtain ⟨kk, hk⟩ : ∃ q, q = 0 + n0 % ((w : Int) - 1 - 0 + 1) := ⟨_, rfl⟩
  have wk := fun q => sp174c q n0 0 ((w : Int) - 1) (by omega) (by omega) (by omega) kk hk
  have bk : 0 ≤ kk ∧ kk < w := by
    have := Int.emod_nonneg n0 (b := (w : Int) - 1 - 0 + 1) (by omega)
    have := Int.emod_lt_of_pos n0 (b := (w : Int) - 1 - 0 + 1) (by omega)
    omega
  clear hk
  obtain ⟨kn, rfl⟩ : ∃ kn : Nat, kk = (kn : Int) := ⟨kk.toNat, by omega⟩
  have tD := tab_drop tN (by omega) kn (by omega)
  obtain ⟨tH, hH⟩ := tab_home tD
  have v1 := fun q => sp399 q _ tN.ok [csiE 71 [(kn : Int) + 1], csiN 103] (by simp) (by intro e he; simp at he; rcases he with rfl | rfl <;> simp [Ev.par])
  have v2 := fun q => sp400 q _ tD.ok (execE 13) (by simp [Ev.par])
  have wr1 : ∀ n : Int, 0 ≤ n → n ≤ 1000 → wr (n + 1) = n + 1 := fun n h1 h2 => wr_id _ (by omega) (by omega)
  have k0 : keysM [] = [] := rfl
  have k1 : valsM [] = [] := rfl
  have w193 := fun q => sp193 q
  simp only [evD, evL, parD, evsD, List.map_cons, List.map_nil, intsD] at v0 v1 v2
  rw [evFun_evB rfl]
  unfold s194
  simp -implicitDefEqProofs [cw174, cr174, wq, cw372, w372, cw400, cr400, v0]
  refine evB_for (fun i => [I n0, .sl 1 (intsD st), I w, I i, .obx (scL (tabS S0 cs i)), .omp (keysM (tabM cs i)) (valsM (tabM cs i))]) N (.exit 0) [I n0, .sl 1 (intsD st), I w, I N, .obx (scL (tabS S0 cs N)), .omp (keysM (tabM cs N)) (valsM (tabM cs N))] ?_ (fun i hi => ?_) ?_ (by simp) (by simp [rounds]; omega) ?_
  · simp -implicitDefEqProofs [a0, a1, k0, k1]
  · have i1 : i < st.length := by omega
    have i2 : (i : Int) < 8 := by omega
    have i3 : (i : Int) < st.length := by omega
    obtain ⟨x, hx⟩ := get_ex i1
    have hg := intsD_at hx
    have hcx : cs[i]? = some (0 + x % ((w : Int) - 1 - 0 + 1)) := by rw [hcs, List.getElem?_map, hx]; rfl
    obtain ⟨c, hc⟩ : ∃ c, c = 0 + x % ((w : Int) - 1 - 0 + 1) := ⟨_, rfl⟩
    have wc := fun q => sp174c q x 0 ((w : Int) - 1) (by omega) (by omega) (by omega) c hc
    rw [← hc] at hcx
    have bc := bcs c (List.mem_of_getElem? hcx)
    have hd : cs.getD i 0 = c := by rw [List.getD_eq_getElem?_getD, hcx]; rfl
    have e1 : tabS S0 cs (i + 1) = allS (tabS S0 cs i) [csiE 71 [c + 1], escE 72] := by rw [← hd]; rfl
    have e2 : tabM cs (i + 1) = putM (tabM cs i) c true := by rw [← hd]; rfl
    have v3 := fun q => sp399 q _ (tA i (by omega)).ok [csiE 71 [c + 1], escE 72] (by simp) (by intro e he; simp at he; rcases he with rfl | rfl <;> simp [Ev.par])
    rw [← e1] at v3
    rw [e2]
    simp only [evD, evL, parD, evsD, List.map_cons, List.map_nil, intsD] at v3
    have f1 := findK_M (tabM cs i) c
    have f2 := putK_M (tabM cs i) c true
    generalize tabS S0 cs (i + 1) = S' at *
    generalize tabS S0 cs i = S2 at *
    generalize tabM cs i = M at *
    clear v0 v1 v2 hc hd hcx
    simp -implicitDefEqProofs [i1, i2, i3, hg, cw174, cr174, wc, ww, wr1 c bc.1 (by omega), cw399, cr399, v3, f1, f2, -putK, -getK, wr_id ((i : Int) + 1) (by omega) (by omega)]
  · clear v0 v1 v2
    by_cases h1 : (N : Int) < st.length
    · have h2 : ¬ (N : Int) < 8 := by omega
      simp -implicitDefEqProofs [h1, h2]
    · simp -implicitDefEqProofs [h1]
  · have f1 := findK_M (tabM cs N) kn
    have f2 := putK_M (tabM cs N) kn false
    clear tA v0
    generalize doS (allS (tabS S0 cs N) [csiE 71 [(kn : Int) + 1], csiN 103]) (execE 13) = S5 at *
    generalize allS (tabS S0 cs N) [csiE 71 [(kn : Int) + 1], csiN 103] = S4 at *
    generalize putM (tabM cs N) kn false = M2 at *
    generalize tabS S0 cs N = S3 at *
    generalize tabM cs N = M at *
    simp -implicitDefEqProofs [cw174, cr174, wk, ww, wr1 kn (by omega) (by omega), cw399, cr399, v1, cw400, cr400, v2, f1, f2, -putK, -getK]
    refine evB_inv (P := fun r => r = some (B true, [])) (σ := Nat × Sc) (fun x => [.un, I w, I x.1, .obx (scL x.2), .omp (keysM M2) (valsM M2)]) (fun x => w - x.1) (fun x => x.1 + 1 ≤ w ∧ TabI w x.2 M2 ∧ x.2.col = x.1) (fun ex t => ex = .exit 2 ∧ ∃ s', t = [.un, I w, I ((w : Int) - 1), .obx (scL s'), .omp (keysM M2) (valsM M2)] ∧ TabI w s' M2 ∧ s'.col = (w : Int) - 1) (0, S5) ?_ ⟨by omega, tH, hH⟩ (by simp [rounds]; omega) ?_ ?_
    · simp -implicitDefEqProofs []
    · rintro ⟨t, s⟩ ⟨h1, h2, h3⟩
      simp only at h1 h2 h3
      by_cases h4 : t + 1 = w
      · right
        have h5 : ¬ (t : Int) < (w : Int) - 1 := by omega
        have h6 : (t : Int) = (w : Int) - 1 := by omega
        refine ⟨.exit 2, _, ?_, by simp, rfl, s, rfl, h2, by omega⟩
        simp -implicitDefEqProofs [ww, h5, h6]
      · left
        have h5 : (t : Int) < (w : Int) - 1 := by omega
        obtain ⟨n, hn⟩ : ∃ n, n = w - 1 - t := ⟨_, rfl⟩
        obtain ⟨g1, g2⟩ := tab_next h2 (by omega) n (by omega) (by omega)
        have hb := wantJ_b M2 w n (by omega)
        have hb2 := hb.2.1 (by omega)
        have v6 := fun q => sp400 q s h2.ok (execE 9) (by simp [Ev.par])
        simp only [evD, evL, parD, evsD, List.map_cons, List.map_nil, intsD] at v6
        generalize doS s (execE 9) = S6 at *
        have u0 : wantJ M2 w 0 = (w : Int) - 1 := rfl
        obtain ⟨u, hu⟩ : ∃ u : Nat, wantJ M2 w n = (u : Int) := ⟨(wantJ M2 w n).toNat, by omega⟩
        refine ⟨(u, S6), ?_, by simp only; omega, by simp only; omega, g1, by simp only; omega⟩
        simp -implicitDefEqProofs [ww, h5]
        refine evB_for (fun j => [I w, I t, I (wantJ M2 w j), I ((w : Int) - 1 - j), .obx (scL s), .omp (keysM M2) (valsM M2)]) n (.exit 4) [I w, I t, I (wantJ M2 w n), I ((w : Int) - 1 - n), .obx (scL s), .omp (keysM M2) (valsM M2)] ?_ (fun j hj => ?_) ?_ (by simp) (by simp [rounds]; omega) ?_
        · simp -implicitDefEqProofs [u0]
        · have j1 : (t : Int) < (w : Int) - 1 - j := by omega
          have f3 := findK_M M2 ((w : Int) - 1 - j)
          have f4 := getK_M M2 ((w : Int) - 1 - j)
          have e3 : wr ((w : Int) - 1 - j - 1) = (w : Int) - 1 - (j + 1 : Nat) := by rw [wr_id _ (by omega) (by omega)]; omega
          have e4 : wantJ M2 w (j + 1) = if inM M2 ((w : Int) - 1 - j) = true then (w : Int) - 1 - j else wantJ M2 w j := rfl
          rw [e4]
          cases hb5 : inM M2 ((w : Int) - 1 - j) with
          | true =>
            rw [hb5] at f4
            simp -implicitDefEqProofs [j1, f3, f4, -putK, -getK, e3]
          | false =>
            rw [hb5] at f4
            simp -implicitDefEqProofs [j1, f3, f4, -putK, -getK, e3]
        · have j1 : ¬ (t : Int) < (w : Int) - 1 - n := by omega
          simp -implicitDefEqProofs [j1]
        · have g3 : S6.col = (u : Int) := g2.trans hu
          simp -implicitDefEqProofs [cw400, cr400, v6, eq_true g3, hu]
    · rintro ex t ⟨rfl, s', rfl, h2, h3⟩
      obtain ⟨g1, g2⟩ := tab_next h2 (by omega) 0 (by omega) (by omega)
      have u0 : wantJ M2 w 0 = (w : Int) - 1 := rfl
      rw [u0] at g2
      have v6 := fun q => sp400 q s' h2.ok (execE 9) (by simp [Ev.par])
      simp only [evD, evL, parD, evsD, List.map_cons, List.map_nil, intsD] at v6
      generalize doS s' (execE 9) = S6 at *
      simp -implicitDefEqProofs [cw400, cr400, v6, ww, eq_true g2, cw193, cr193, w193]
end Go.Proofs.YtmmbkjigflhmjaaGreat.LgTab
