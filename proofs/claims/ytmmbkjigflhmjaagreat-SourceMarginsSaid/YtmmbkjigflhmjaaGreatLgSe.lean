import Derived.Test.YtmmbkjigflhmjaaGreatLgSa
/-
  SourceMargins: its law.
-/
namespace Go.Proofs.YtmmbkjigflhmjaaGreat.LgTab
open Go Lg
set_option linter.unusedVariables false
set_option linter.unusedSimpArgs false
set_option maxRecDepth 8000
theorem neq_str (a : List UInt8) : binD .neq (S a) (S a) = some (B false) := by simp [binD, binS]
def botM (bot h : Int) : Int := if 0 < bot then mnI bot h else h
theorem marg_is {s : Sc} (o : OkS s) (top bot : Int) (ht : 0 ≤ top ∧ top ≤ 9) (hb : 0 ≤ bot ∧ bot ≤ 9) :
    (mxI top 1 - 1 < botM bot s.g.h - 1 → (doS s (csiE 114 [top, bot])).top = mxI top 1 - 1 ∧ (doS s (csiE 114 [top, bot])).bot = botM bot s.g.h - 1 ∧ (doS s (csiE 114 [top, bot])).col = 0 ∧ ((doS s (csiE 114 [top, bot])).orig = true → (doS s (csiE 114 [top, bot])).row = mxI top 1 - 1) ∧ ((doS s (csiE 114 [top, bot])).orig = false → (doS s (csiE 114 [top, bot])).row = 0)) ∧
    (¬ mxI top 1 - 1 < botM bot s.g.h - 1 → doS s (csiE 114 [top, bot]) = s) := by
  have e := margS_is s o (csiE 114 [top, bot]) top bot rfl ht hb
  have eb : (if 0 < bot then mnI bot s.g.h else (s.g.h : Int)) = botM bot s.g.h := rfl
  rw [eb] at e
  have hh := o.g.1
  have hw := o.g.2.2.1
  have h1 : 0 ≤ mxI top 1 - 1 := by unfold mxI; split <;> omega
  have h2 : botM bot s.g.h ≤ s.g.h := by unfold botM mnI; repeat' split
                                         all_goals omega
  rw [do_marg, e]
  constructor
  · intro h
    rw [if_pos h]
    refine ⟨rfl, rfl, ?_, fun ho => ?_, fun ho => ?_⟩
    · show nearI 0 s.g.w = 0
      exact nearI_id (by omega) (by omega)
    · have ho' : s.orig = true := ho
      show nearI (if s.orig = true then mxI top 1 - 1 else 0) s.g.h = _
      rw [if_pos ho']
      exact nearI_id h1 (by omega)
    · have ho' : s.orig = false := ho
      show nearI (if s.orig = true then mxI top 1 - 1 else 0) s.g.h = _
      rw [if_neg (by rw [ho']; decide)]
      exact nearI_id (by omega) (by omega)
  · intro h
    rw [if_neg h]
/-- What the rows that move keep, told of their texts. -/
theorem rows_keep {t : Sc} (o : OkS t) (hc : okCells t.g) (c m : Int) (h : c = 76 ∨ c = 77 ∨ c = 83 ∨ c = 84) :
    (doS t (csiE c [m])).top = t.top ∧ (doS t (csiE c [m])).bot = t.bot ∧ (doS t (csiE c [m])).row = t.row ∧
    ∀ y : Nat, y < t.g.h → (y : Int) < t.top ∨ t.bot < y → textM [gdD (doS t (csiE c [m])).g, I y] = some (S (textL (rowL t.g y)), []) := by
  have oU := doS_ok o (csiE c [m])
  rw [do_rows t c _ h] at oU ⊢
  obtain ⟨h1, h2, h3, h4, h5, h6⟩ := rowsS_keeps o (csiE c [m]) h
  refine ⟨h1, h2, h3, fun y hy hm => ?_⟩
  rw [text_is oU.g (rowsS_cells hc _) (by have := oU.len; omega) (by rw [h4]; exact hy), h6 y hy hm]
theorem list_L (i : Nat) (h : i < 4) : ∃ c : Int, ([U 76, U 77, U 83, U 84] : List D)[i]? = some (U c) ∧ (c = 76 ∨ c = 77 ∨ c = 83 ∨ c = 84) := by
  have hc : i = 0 ∨ i = 1 ∨ i = 2 ∨ i = 3 := by omega
  rcases hc with rfl | rfl | rfl | rfl <;> exact ⟨_, rfl, by simp⟩
theorem margS_right' {s : Sc} (o : OkS s) (r : RightS s) (l : List Int) : RightS (doS s (csiE 114 l)) := by
  rw [do_marg]
  exact margS_right o r _
set_option maxHeartbeats 40000000 in
theorem sp189 (k : Nat) (a b : Int) (rs ps : List Int) (hr : rs.length ≤ 9223372036854775807) (hp : ps.length ≤ 9223372036854775807) (kr kc kt kb kf p1 p2 p3 : Int) (tabs : Nat) (ht : tabs < 2 ^ 64)
    (a0 b0 n0 : Int) :
    evFun (clOf (modsR tab (k + 12)) 3) s189 [.agg [I a, I b, .sl 1 (intsD rs), .sl 1 (intsD ps), I kr, I kc, I kt, I kb, I kf, I p1, I p2, I p3, T64 tabs], I a0, I b0, I n0] = some (B true, []) := by
  obtain ⟨s, w66, o, r, h5, w9⟩ := sp66 (k + 7) a b rs ps hr hp kr kc kt kb kf p1 p2 p3 tabs ht
  obtain ⟨top, hn⟩ : ∃ q, q = 0 + a0 % (9 - 0 + 1) := ⟨_, rfl⟩
  have wa := fun q => sp174c q a0 0 9 (by omega) (by omega) (by omega) top hn
  have ba : 0 ≤ top ∧ top ≤ 9 := by omega
  clear hn
  obtain ⟨bot, hn⟩ : ∃ q, q = 0 + b0 % (9 - 0 + 1) := ⟨_, rfl⟩
  have wb := fun q => sp174c q b0 0 9 (by omega) (by omega) (by omega) bot hn
  have bb : 0 ≤ bot ∧ bot ≤ 9 := by omega
  clear hn
  obtain ⟨m, hn⟩ : ∃ q, q = 1 + n0 % (6 - 1 + 1) := ⟨_, rfl⟩
  have wm := fun q => sp174c q n0 1 6 (by omega) (by omega) (by omega) m hn
  clear hn
  have v1 := fun q => sp400 q s o (csiE 114 [top, bot]) (by simp [Ev.par])
  have oT := doS_ok o (csiE 114 [top, bot])
  have rT := margS_right' o r [top, bot]
  have w177 := fun q => sp177 q s (by have := o.len; omega)
  obtain ⟨m1, m2⟩ := marg_is o top bot ba bb
  have hh := o.h
  have h0 := o.g.1
  obtain ⟨lo, hlo⟩ : ∃ lo, lo = mxI top 1 - 1 := ⟨_, rfl⟩
  have blo : 0 ≤ lo ∧ lo ≤ 8 := by rw [hlo]; unfold mxI; split <;> omega
  have wlo : wr (mxI top 1 - 1) = lo := by rw [← hlo]; exact wr_id _ (by omega) (by omega)
  rw [← hlo] at m1 m2
  generalize doS s (csiE 114 [top, bot]) = T at *
  have w373 := fun q => sp373 q T oT rT
  have hcT := right_cells rT.g
  have tx := fun (y : Nat) (hy : y < T.g.h) => text_is oT.g hcT (by have := oT.len; omega) hy
  have hT5 := oT.h
  simp only [evD, evL, parD, List.map_cons, List.map_nil, intsD] at v1
  have w193 := fun q => sp193 q
  obtain ⟨L, hL⟩ : ∃ L : List D, L = [U 76, U 77, U 83, U 84] := ⟨_, rfl⟩
  have lL : L.length = 4 := by rw [hL]; rfl
  have gL : ∀ i : Nat, i < 4 → ∃ c : Int, L[i]? = some (U c) ∧ (c = 76 ∨ c = 77 ∨ c = 83 ∨ c = 84) := fun i hi => by rw [hL]; exact list_L i hi
  rw [evFun_evB rfl]
  unfold s189
  by_cases c1 : 0 < bot
  · have eb : botM bot s.g.h = mnI bot s.g.h := by unfold botM; rw [if_pos c1]
    rw [eb] at m1 m2
    have bm : 1 ≤ mnI bot s.g.h ∧ mnI bot s.g.h ≤ 9 := by unfold mnI; split <;> omega
    by_cases c2 : lo < mnI bot s.g.h - 1
    · obtain ⟨t1, t2, t3, t4, t5⟩ := m1 c2
      cases ho : T.orig with
      | false =>
        have t6 := t5 ho
        simp -implicitDefEqProofs [cw66, w66, cw174, cr174, wa, wb, wm, cw400, cr400, v1, wlo, wr_id ((s.g.h : Int) - 1) (by omega) (by omega), wr_id (mnI bot (s.g.h : Int) - 1) (by omega) (by omega), c1, c2, eq_true t1, eq_true t2, eq_true t3, ho, eq_true t6]
        refine evB_for (fun i => [B false, I m, .sl 1 L, I 4, I i, .obx (scL T)]) 4 (.exit 0) [B false, I m, .sl 1 L, I 4, I 4, .obx (scL T)] ?_ (fun i hi => ?_) ?_ (by simp) (by simp [rounds]) ?_
        · simp -implicitDefEqProofs [hL, ho]
        · obtain ⟨c, hc, hcc⟩ := gL i hi
          obtain ⟨k1, k2, k3, k4⟩ := rows_keep oT hcT c m hcc
          have v2 := fun q => sp400 q T oT (csiE c [m]) (by simp [Ev.par])
          simp only [evD, evL, parD, List.map_cons, List.map_nil, intsD] at v2
          generalize doS T (csiE c [m]) = Uu at *
          have hi' : (i : Int) < 4 := by omega
          have hcg := get_of hc
          clear gL hL m1 m2 w66 v1
          simp -implicitDefEqProofs [hi, hi', lL, hcg, cw400, v2]
          refine evB_for (fun y => [B false, I m, I y, .sl 1 L, I 4, I i, .obx (scL T), .obx (scL Uu)]) T.g.h (.exit 2) [B false, I m, I T.g.h, .sl 1 L, I 4, I i, .obx (scL T), .obx (scL Uu)] ?_ (fun y hy => ?_) ?_ (by simp) (by simp [rounds]; omega) ?_
          · simp -implicitDefEqProofs []
          · have hy' : (y : Int) < T.g.h := by omega
            have ty := tx y hy
            have ey : wr ((y : Int) + 1) = (y : Int) + 1 := wr_id _ (by omega) (by omega)
            by_cases c5 : (y : Int) < T.top
            · have tu := k4 y hy (.inl c5)
              generalize textL (rowL T.g y) = X at *
              have nq := neq_str X
              simp -implicitDefEqProofs [hy', c5, cw156, cr156, ty, tu, nq, ey]
            · by_cases c6 : T.bot < (y : Int)
              · have tu := k4 y hy (.inr c6)
                generalize textL (rowL T.g y) = X at *
                have nq := neq_str X
                simp -implicitDefEqProofs [hy', c5, c6, cw156, cr156, ty, tu, nq, ey]
              · simp -implicitDefEqProofs [hy', c5, c6, ey]
          · simp -implicitDefEqProofs []
          · simp -implicitDefEqProofs [eq_true k1, eq_true k2, eq_true k3, wr_id ((i : Int) + 1) (by omega) (by omega)]
        · simp -implicitDefEqProofs [lL]
        · simp -implicitDefEqProofs [cw373, cr373, w373, cw193, cr193, w193]
      | true =>
        have t6 := t4 ho
        simp -implicitDefEqProofs [cw66, w66, cw174, cr174, wa, wb, wm, cw400, cr400, v1, wlo, wr_id ((s.g.h : Int) - 1) (by omega) (by omega), wr_id (mnI bot (s.g.h : Int) - 1) (by omega) (by omega), c1, c2, eq_true t1, eq_true t2, eq_true t3, ho, eq_true t6]
        refine evB_for (fun i => [B false, I m, .sl 1 L, I 4, I i, .obx (scL T)]) 4 (.exit 0) [B false, I m, .sl 1 L, I 4, I 4, .obx (scL T)] ?_ (fun i hi => ?_) ?_ (by simp) (by simp [rounds]) ?_
        · simp -implicitDefEqProofs [hL, ho]
        · obtain ⟨c, hc, hcc⟩ := gL i hi
          obtain ⟨k1, k2, k3, k4⟩ := rows_keep oT hcT c m hcc
          have v2 := fun q => sp400 q T oT (csiE c [m]) (by simp [Ev.par])
          simp only [evD, evL, parD, List.map_cons, List.map_nil, intsD] at v2
          generalize doS T (csiE c [m]) = Uu at *
          have hi' : (i : Int) < 4 := by omega
          have hcg := get_of hc
          clear gL hL m1 m2 w66 v1
          simp -implicitDefEqProofs [hi, hi', lL, hcg, cw400, v2]
          refine evB_for (fun y => [B false, I m, I y, .sl 1 L, I 4, I i, .obx (scL T), .obx (scL Uu)]) T.g.h (.exit 2) [B false, I m, I T.g.h, .sl 1 L, I 4, I i, .obx (scL T), .obx (scL Uu)] ?_ (fun y hy => ?_) ?_ (by simp) (by simp [rounds]; omega) ?_
          · simp -implicitDefEqProofs []
          · have hy' : (y : Int) < T.g.h := by omega
            have ty := tx y hy
            have ey : wr ((y : Int) + 1) = (y : Int) + 1 := wr_id _ (by omega) (by omega)
            by_cases c5 : (y : Int) < T.top
            · have tu := k4 y hy (.inl c5)
              generalize textL (rowL T.g y) = X at *
              have nq := neq_str X
              simp -implicitDefEqProofs [hy', c5, cw156, cr156, ty, tu, nq, ey]
            · by_cases c6 : T.bot < (y : Int)
              · have tu := k4 y hy (.inr c6)
                generalize textL (rowL T.g y) = X at *
                have nq := neq_str X
                simp -implicitDefEqProofs [hy', c5, c6, cw156, cr156, ty, tu, nq, ey]
              · simp -implicitDefEqProofs [hy', c5, c6, ey]
          · simp -implicitDefEqProofs []
          · simp -implicitDefEqProofs [eq_true k1, eq_true k2, eq_true k3, wr_id ((i : Int) + 1) (by omega) (by omega)]
        · simp -implicitDefEqProofs [lL]
        · simp -implicitDefEqProofs [cw373, cr373, w373, cw193, cr193, w193]
    · have eT := m2 c2
      subst s
      simp -implicitDefEqProofs [cw66, w66, cw174, cr174, wa, wb, wm, cw400, cr400, v1, wlo, wr_id ((T.g.h : Int) - 1) (by omega) (by omega), wr_id (mnI bot (T.g.h : Int) - 1) (by omega) (by omega), c1, c2, cw177, w177]
      refine evB_for (fun i => [B false, I m, .sl 1 L, I 4, I i, .obx (scL T)]) 4 (.exit 0) [B false, I m, .sl 1 L, I 4, I 4, .obx (scL T)] ?_ (fun i hi => ?_) ?_ (by simp) (by simp [rounds]) ?_
      · simp -implicitDefEqProofs [hL]
      · obtain ⟨c, hc, hcc⟩ := gL i hi
        obtain ⟨k1, k2, k3, k4⟩ := rows_keep oT hcT c m hcc
        have v2 := fun q => sp400 q T oT (csiE c [m]) (by simp [Ev.par])
        simp only [evD, evL, parD, List.map_cons, List.map_nil, intsD] at v2
        generalize doS T (csiE c [m]) = Uu at *
        have hi' : (i : Int) < 4 := by omega
        have hcg := get_of hc
        clear gL hL m1 m2 w66 v1
        simp -implicitDefEqProofs [hi, hi', lL, hcg, cw400, v2]
        refine evB_for (fun y => [B false, I m, I y, .sl 1 L, I 4, I i, .obx (scL T), .obx (scL Uu)]) T.g.h (.exit 2) [B false, I m, I T.g.h, .sl 1 L, I 4, I i, .obx (scL T), .obx (scL Uu)] ?_ (fun y hy => ?_) ?_ (by simp) (by simp [rounds]; omega) ?_
        · simp -implicitDefEqProofs []
        · have hy' : (y : Int) < T.g.h := by omega
          have ty := tx y hy
          have ey : wr ((y : Int) + 1) = (y : Int) + 1 := wr_id _ (by omega) (by omega)
          by_cases c5 : (y : Int) < T.top
          · have tu := k4 y hy (.inl c5)
            generalize textL (rowL T.g y) = X at *
            have nq := neq_str X
            simp -implicitDefEqProofs [hy', c5, cw156, cr156, ty, tu, nq, ey]
          · by_cases c6 : T.bot < (y : Int)
            · have tu := k4 y hy (.inr c6)
              generalize textL (rowL T.g y) = X at *
              have nq := neq_str X
              simp -implicitDefEqProofs [hy', c5, c6, cw156, cr156, ty, tu, nq, ey]
            · simp -implicitDefEqProofs [hy', c5, c6, ey]
        · simp -implicitDefEqProofs []
        · simp -implicitDefEqProofs [eq_true k1, eq_true k2, eq_true k3, wr_id ((i : Int) + 1) (by omega) (by omega)]
      · simp -implicitDefEqProofs [lL]
      · simp -implicitDefEqProofs [cw373, cr373, w373, cw193, cr193, w193]
  · have eb : botM bot s.g.h = (s.g.h : Int) := by unfold botM; rw [if_neg c1]
    rw [eb] at m1 m2
    by_cases c2 : lo < (s.g.h : Int) - 1
    · obtain ⟨t1, t2, t3, t4, t5⟩ := m1 c2
      cases ho : T.orig with
      | false =>
        have t6 := t5 ho
        simp -implicitDefEqProofs [cw66, w66, cw174, cr174, wa, wb, wm, cw400, cr400, v1, wlo, wr_id ((s.g.h : Int) - 1) (by omega) (by omega), c1, c2, eq_true t1, eq_true t2, eq_true t3, ho, eq_true t6]
        refine evB_for (fun i => [B false, I m, .sl 1 L, I 4, I i, .obx (scL T)]) 4 (.exit 0) [B false, I m, .sl 1 L, I 4, I 4, .obx (scL T)] ?_ (fun i hi => ?_) ?_ (by simp) (by simp [rounds]) ?_
        · simp -implicitDefEqProofs [hL, ho]
        · obtain ⟨c, hc, hcc⟩ := gL i hi
          obtain ⟨k1, k2, k3, k4⟩ := rows_keep oT hcT c m hcc
          have v2 := fun q => sp400 q T oT (csiE c [m]) (by simp [Ev.par])
          simp only [evD, evL, parD, List.map_cons, List.map_nil, intsD] at v2
          generalize doS T (csiE c [m]) = Uu at *
          have hi' : (i : Int) < 4 := by omega
          have hcg := get_of hc
          clear gL hL m1 m2 w66 v1
          simp -implicitDefEqProofs [hi, hi', lL, hcg, cw400, v2]
          refine evB_for (fun y => [B false, I m, I y, .sl 1 L, I 4, I i, .obx (scL T), .obx (scL Uu)]) T.g.h (.exit 2) [B false, I m, I T.g.h, .sl 1 L, I 4, I i, .obx (scL T), .obx (scL Uu)] ?_ (fun y hy => ?_) ?_ (by simp) (by simp [rounds]; omega) ?_
          · simp -implicitDefEqProofs []
          · have hy' : (y : Int) < T.g.h := by omega
            have ty := tx y hy
            have ey : wr ((y : Int) + 1) = (y : Int) + 1 := wr_id _ (by omega) (by omega)
            by_cases c5 : (y : Int) < T.top
            · have tu := k4 y hy (.inl c5)
              generalize textL (rowL T.g y) = X at *
              have nq := neq_str X
              simp -implicitDefEqProofs [hy', c5, cw156, cr156, ty, tu, nq, ey]
            · by_cases c6 : T.bot < (y : Int)
              · have tu := k4 y hy (.inr c6)
                generalize textL (rowL T.g y) = X at *
                have nq := neq_str X
                simp -implicitDefEqProofs [hy', c5, c6, cw156, cr156, ty, tu, nq, ey]
              · simp -implicitDefEqProofs [hy', c5, c6, ey]
          · simp -implicitDefEqProofs []
          · simp -implicitDefEqProofs [eq_true k1, eq_true k2, eq_true k3, wr_id ((i : Int) + 1) (by omega) (by omega)]
        · simp -implicitDefEqProofs [lL]
        · simp -implicitDefEqProofs [cw373, cr373, w373, cw193, cr193, w193]
      | true =>
        have t6 := t4 ho
        simp -implicitDefEqProofs [cw66, w66, cw174, cr174, wa, wb, wm, cw400, cr400, v1, wlo, wr_id ((s.g.h : Int) - 1) (by omega) (by omega), c1, c2, eq_true t1, eq_true t2, eq_true t3, ho, eq_true t6]
        refine evB_for (fun i => [B false, I m, .sl 1 L, I 4, I i, .obx (scL T)]) 4 (.exit 0) [B false, I m, .sl 1 L, I 4, I 4, .obx (scL T)] ?_ (fun i hi => ?_) ?_ (by simp) (by simp [rounds]) ?_
        · simp -implicitDefEqProofs [hL, ho]
        · obtain ⟨c, hc, hcc⟩ := gL i hi
          obtain ⟨k1, k2, k3, k4⟩ := rows_keep oT hcT c m hcc
          have v2 := fun q => sp400 q T oT (csiE c [m]) (by simp [Ev.par])
          simp only [evD, evL, parD, List.map_cons, List.map_nil, intsD] at v2
          generalize doS T (csiE c [m]) = Uu at *
          have hi' : (i : Int) < 4 := by omega
          have hcg := get_of hc
          clear gL hL m1 m2 w66 v1
          simp -implicitDefEqProofs [hi, hi', lL, hcg, cw400, v2]
          refine evB_for (fun y => [B false, I m, I y, .sl 1 L, I 4, I i, .obx (scL T), .obx (scL Uu)]) T.g.h (.exit 2) [B false, I m, I T.g.h, .sl 1 L, I 4, I i, .obx (scL T), .obx (scL Uu)] ?_ (fun y hy => ?_) ?_ (by simp) (by simp [rounds]; omega) ?_
          · simp -implicitDefEqProofs []
          · have hy' : (y : Int) < T.g.h := by omega
            have ty := tx y hy
            have ey : wr ((y : Int) + 1) = (y : Int) + 1 := wr_id _ (by omega) (by omega)
            by_cases c5 : (y : Int) < T.top
            · have tu := k4 y hy (.inl c5)
              generalize textL (rowL T.g y) = X at *
              have nq := neq_str X
              simp -implicitDefEqProofs [hy', c5, cw156, cr156, ty, tu, nq, ey]
            · by_cases c6 : T.bot < (y : Int)
              · have tu := k4 y hy (.inr c6)
                generalize textL (rowL T.g y) = X at *
                have nq := neq_str X
                simp -implicitDefEqProofs [hy', c5, c6, cw156, cr156, ty, tu, nq, ey]
              · simp -implicitDefEqProofs [hy', c5, c6, ey]
          · simp -implicitDefEqProofs []
          · simp -implicitDefEqProofs [eq_true k1, eq_true k2, eq_true k3, wr_id ((i : Int) + 1) (by omega) (by omega)]
        · simp -implicitDefEqProofs [lL]
        · simp -implicitDefEqProofs [cw373, cr373, w373, cw193, cr193, w193]
    · have eT := m2 c2
      subst s
      simp -implicitDefEqProofs [cw66, w66, cw174, cr174, wa, wb, wm, cw400, cr400, v1, wlo, wr_id ((T.g.h : Int) - 1) (by omega) (by omega), c1, c2, cw177, w177]
      refine evB_for (fun i => [B false, I m, .sl 1 L, I 4, I i, .obx (scL T)]) 4 (.exit 0) [B false, I m, .sl 1 L, I 4, I 4, .obx (scL T)] ?_ (fun i hi => ?_) ?_ (by simp) (by simp [rounds]) ?_
      · simp -implicitDefEqProofs [hL]
      · obtain ⟨c, hc, hcc⟩ := gL i hi
        obtain ⟨k1, k2, k3, k4⟩ := rows_keep oT hcT c m hcc
        have v2 := fun q => sp400 q T oT (csiE c [m]) (by simp [Ev.par])
        simp only [evD, evL, parD, List.map_cons, List.map_nil, intsD] at v2
        generalize doS T (csiE c [m]) = Uu at *
        have hi' : (i : Int) < 4 := by omega
        have hcg := get_of hc
        clear gL hL m1 m2 w66 v1
        simp -implicitDefEqProofs [hi, hi', lL, hcg, cw400, v2]
        refine evB_for (fun y => [B false, I m, I y, .sl 1 L, I 4, I i, .obx (scL T), .obx (scL Uu)]) T.g.h (.exit 2) [B false, I m, I T.g.h, .sl 1 L, I 4, I i, .obx (scL T), .obx (scL Uu)] ?_ (fun y hy => ?_) ?_ (by simp) (by simp [rounds]; omega) ?_
        · simp -implicitDefEqProofs []
        · have hy' : (y : Int) < T.g.h := by omega
          have ty := tx y hy
          have ey : wr ((y : Int) + 1) = (y : Int) + 1 := wr_id _ (by omega) (by omega)
          by_cases c5 : (y : Int) < T.top
          · have tu := k4 y hy (.inl c5)
            generalize textL (rowL T.g y) = X at *
            have nq := neq_str X
            simp -implicitDefEqProofs [hy', c5, cw156, cr156, ty, tu, nq, ey]
          · by_cases c6 : T.bot < (y : Int)
            · have tu := k4 y hy (.inr c6)
              generalize textL (rowL T.g y) = X at *
              have nq := neq_str X
              simp -implicitDefEqProofs [hy', c5, c6, cw156, cr156, ty, tu, nq, ey]
            · simp -implicitDefEqProofs [hy', c5, c6, ey]
        · simp -implicitDefEqProofs []
        · simp -implicitDefEqProofs [eq_true k1, eq_true k2, eq_true k3, wr_id ((i : Int) + 1) (by omega) (by omega)]
      · simp -implicitDefEqProofs [lL]
      · simp -implicitDefEqProofs [cw373, cr373, w373, cw193, cr193, w193]
end Go.Proofs.YtmmbkjigflhmjaaGreat.LgTab
