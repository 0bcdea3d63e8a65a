import Derived.Test.YtmmbkjigflhmjaaGreatLgSa
/-
  SourceErases: its law.
-/
namespace Go.Proofs.YtmmbkjigflhmjaaGreat.LgTab
open Go Lg
set_option linter.unusedVariables false
set_option linter.unusedSimpArgs false
set_option maxRecDepth 8000
def gone (line : Bool) (r c : Nat) (n : Int) (y x : Nat) : Prop := goneJ r c n y x ∧ (line = false ∨ y = r)
theorem arg_n (n : Int) (h : 0 ≤ n ∧ n ≤ 2) : argI [n] 0 0 0 65535 = n := by
  rw [argI]
  simp only [List.getElem?_cons_zero]
  unfold mxI mnI
  repeat' split
  all_goals omega
/-- What an erasing leaves in each cell. -/
theorem erased {s : Sc} (o : OkS s) (r : RightS s) (line : Bool) (n : Int) (hn : n = 0 ∨ n = 1 ∨ n = 2) : ∃ G : Gd, doS s (csiE (if line = true then 75 else 74) [n]) = { s with g := G, pend := false } ∧ OkG G ∧ G.h = s.g.h ∧ G.w = s.g.w ∧
    ∀ y x : Nat, y < s.g.h → x < s.g.w → ∃ X Y, (rowL s.g y)[x]? = some X ∧ (rowL G y)[x]? = some Y ∧ (gone line s.row.toNat s.col.toNat n y x → Y = blankC (fillP s)) ∧
      (¬ gone line s.row.toNat s.col.toNat n y x → ¬ (y = s.row.toNat ∧ (x + 1 = s.col.toNat ∨ x = s.col.toNat + 1)) → Y = X) := by
  have hr := o.row
  have hc := o.col
  have hrn : s.row.toNat < s.g.h := by omega
  have hcn : s.col.toNat < s.g.w := by omega
  have ha := arg_n n (by omega)
  obtain ⟨_, hg⟩ := r.g
  cases line with
  | false =>
    have e : doS s (csiE 74 [n]) = { s with g := eraseG s.g s.row.toNat s.col.toNat n (fillP s), pend := false } := by
      rw [do_chg s 74 _ (.inl rfl)]
      simp [chgS, chgG, Ev.par, ha]
    have er := erTo_ok o.g hrn s.col.toNat n (fillP s) s.g.h (Nat.le_refl _)
    have ee : eraseG s.g s.row.toNat s.col.toNat n (fillP s) = erTo s.g s.row.toNat s.col.toNat n (fillP s) s.g.h := by
      unfold eraseG
      rw [if_neg (by omega)]
    refine ⟨_, e, by rw [ee]; exact er.1, by rw [ee]; exact er.2.1, by rw [ee]; exact er.2.2.1, fun y x hy hx => ?_⟩
    have hl := rowL_len o.g hy
    obtain ⟨X, hX⟩ : ∃ X, (rowL s.g y)[x]? = some X := ⟨_, List.getElem?_eq_getElem (by omega)⟩
    have hl2 := rowL_len er.1 (r := y) (by rw [er.2.1]; exact hy)
    obtain ⟨Y, hY⟩ : ∃ Y, (rowL (eraseG s.g s.row.toNat s.col.toNat n (fillP s)) y)[x]? = some Y := ⟨_, List.getElem?_eq_getElem (by rw [ee, hl2, er.2.2.1]; exact hx)⟩
    refine ⟨X, Y, hX, hY, fun h => ?_, fun h h2 => ?_⟩
    · have := erase_get o.g hg hrn hcn n hn (fillP s) hy hX (.inl h.1)
      rw [hY, if_pos h.1] at this
      exact Option.some.inj this
    · have hj : ¬ goneJ s.row.toNat s.col.toNat n y x := fun hh => h ⟨hh, .inl rfl⟩
      have := erase_get o.g hg hrn hcn n hn (fillP s) hy hX (.inr h2)
      rw [hY, if_neg hj] at this
      exact Option.some.inj this
  | true =>
    have e : doS s (csiE 75 [n]) = { s with g := lineG s.g s.row.toNat s.col.toNat n (fillP s), pend := false } := by
      rw [do_chg s 75 _ (.inr rfl)]
      simp [chgS, chgG, Ev.par, ha]
    have er := lineG_ok o.g hrn s.col.toNat n (fillP s)
    refine ⟨_, e, er.1, er.2.1, er.2.2.1, fun y x hy hx => ?_⟩
    have hl := rowL_len o.g hy
    obtain ⟨X, hX⟩ : ∃ X, (rowL s.g y)[x]? = some X := ⟨_, List.getElem?_eq_getElem (by omega)⟩
    have hl2 := rowL_len er.1 (r := y) (by rw [er.2.1]; exact hy)
    obtain ⟨Y, hY⟩ : ∃ Y, (rowL (lineG s.g s.row.toNat s.col.toNat n (fillP s)) y)[x]? = some Y := ⟨_, List.getElem?_eq_getElem (by rw [hl2, er.2.2.1]; exact hx)⟩
    by_cases hyr : y = s.row.toNat
    · refine ⟨X, Y, hX, hY, fun h => ?_, fun h h2 => ?_⟩
      · have hj : n = 0 ∧ s.col.toNat ≤ x ∨ n = 1 ∧ x ≤ s.col.toNat ∨ n = 2 := by
          have := h.1
          unfold goneJ at this
          omega
        rw [hyr] at hX hY
        have := line_get o.g hg hrn hcn n hn (fillP s) hX (.inl hj)
        rw [hY, if_pos hj] at this
        exact Option.some.inj this
      · have hj : ¬ (n = 0 ∧ s.col.toNat ≤ x ∨ n = 1 ∧ x ≤ s.col.toNat ∨ n = 2) := by
          intro hh
          apply h
          refine ⟨?_, .inr hyr⟩
          unfold goneJ
          omega
        rw [hyr] at hX hY
        have := line_get o.g hg hrn hcn n hn (fillP s) hX (.inr (fun hh => h2 ⟨hyr, by omega⟩))
        rw [hY, if_neg hj] at this
        exact Option.some.inj this
    · have := rowL_lineG_ne o.g hrn hy hyr s.col.toNat n (fillP s)
      rw [this, hX] at hY
      have e2 := Option.some.inj hY
      refine ⟨X, Y, hX, by rw [this, hX, e2], fun h => ?_, fun _ _ => e2.symm⟩
      rcases h.2 with h | h
      · cases h
      · exact absurd h hyr
set_option maxHeartbeats 40000000 in
theorem sp188 (k : Nat) (a b : Int) (rs ps : List Int) (hr : rs.length ≤ 9223372036854775807) (hp : ps.length ≤ 9223372036854775807) (kr kc kt kb kf p1 p2 p3 : Int) (tabs : Nat) (ht : tabs < 2 ^ 64)
    (n0 : Int) (line : Bool) :
    evFun (clOf (modsR tab (k + 12)) 3) s188 [.agg [I a, I b, .sl 1 (intsD rs), .sl 1 (intsD ps), I kr, I kc, I kt, I kb, I kf, I p1, I p2, I p3, T64 tabs], I n0, B line] = some (B true, []) := by
  obtain ⟨s, w66, o, r, h5, w9⟩ := sp66 (k + 7) a b rs ps hr hp kr kc kt kb kf p1 p2 p3 tabs ht
  obtain ⟨n, hn⟩ : ∃ q, q = 0 + n0 % (2 - 0 + 1) := ⟨_, rfl⟩
  have wn := fun q => sp174c q n0 0 2 (by omega) (by omega) (by omega) n hn
  have bn : n = 0 ∨ n = 1 ∨ n = 2 := by omega
  clear hn
  obtain ⟨G, eG, oG, g1, g2, hG⟩ := erased o r line n bn
  have v1 := fun q => sp400 q s o (csiE (if line = true then 75 else 74) [n]) (by simp [Ev.par])
  rw [eG] at v1
  simp only [evD, evL, parD, List.map_cons, List.map_nil, intsD] at v1
  have w371 := fun q => sp371 q s
  have w193 := fun q => sp193 q
  have hcb := o.col
  have hrb := o.row
  have hww := o.w
  have hhh := o.h
  have go1 := o.g
  rw [evFun_evB rfl]
  unfold s188
  clear eG
  obtain ⟨f, hf⟩ : ∃ f : Int, f = if line = true then 75 else 74 := ⟨_, rfl⟩
  rw [← hf] at v1
  cases line with
  | false =>
    simp only [Bool.false_eq_true, if_false] at hf
    subst hf
    simp -implicitDefEqProofs [cw66, w66, cw174, wn, cw400, v1, cw371, w371, fillP]
    refine evB_for (fun y => [B false, B false, I n, I y, .obx (scL s), .obx (scL { s with g := G, pend := false }), .obx [R 32, I 0, I (-1), I s.p.b, I 0]]) s.g.h (.exit 0) [B false, B false, I n, I s.g.h, .obx (scL s), .obx (scL { s with g := G, pend := false }), .obx [R 32, I 0, I (-1), I s.p.b, I 0]] ?_ (fun y hy => ?_) ?_ (by simp) (by simp [rounds]; omega) ?_
    · simp -implicitDefEqProofs []
    · have hy' : (y : Int) < s.g.h := by omega
      simp -implicitDefEqProofs [hy, hy']
      refine evB_for (fun x => [B false, B false, I n, I y, I x, .obx (scL s), .obx (scL { s with g := G, pend := false }), .obx [R 32, I 0, I (-1), I s.p.b, I 0]]) s.g.w (.exit 2) [B false, B false, I n, I y, I s.g.w, .obx (scL s), .obx (scL { s with g := G, pend := false }), .obx [R 32, I 0, I (-1), I s.p.b, I 0]] ?_ (fun x hx => ?_) ?_ (by simp) (by simp [rounds]; omega) ?_
      · simp -implicitDefEqProofs []
      · have hx' : (x : Int) < s.g.w := by omega
        obtain ⟨X, Y, hX, hY, y1, y2⟩ := hG y x hy hx
        have u1 := fun q => sp149 q s.g o.g y x hy hx X hX
        have u2 := fun q => sp149 q G oG y x (by omega) (by omega) Y hY
        have ex : wr ((x : Int) + 1) = (x : Int) + 1 := wr_id _ (by omega) (by omega)
        have e1 : wr (s.col - 1) = s.col - 1 := wr_id _ (by omega) (by omega)
        have e2 : wr (s.col + 1) = s.col + 1 := wr_id _ (by omega) (by omega)
        have hc : (s.row < y ∧ ¬ (y : Int) = s.row ∧ ¬ (y : Int) < s.row) ∨ (¬ s.row < y ∧ ¬ (y : Int) = s.row ∧ (y : Int) < s.row) ∨ (¬ s.row < y ∧ (y : Int) = s.row ∧ ¬ (y : Int) < s.row) := by omega
        clear hG v1 w66 hX hY
        rcases hc with ⟨q1, q2, q3⟩ | ⟨q1, q2, q3⟩ | ⟨q1, q2, q3⟩
        · rcases bn with rfl | rfl | rfl
          · obtain rfl := y1 ⟨by unfold goneJ; omega, .inl rfl⟩
            simp -implicitDefEqProofs [hx', q1, q2, q3, cw149, u1, u2, ex, blankC, fillP]
          · obtain rfl := y2 (by unfold gone goneJ; omega) (by omega)
            simp -implicitDefEqProofs [hx', q1, q2, q3, cw149, u1, u2, ex]
          · obtain rfl := y1 ⟨by unfold goneJ; omega, .inl rfl⟩
            simp -implicitDefEqProofs [hx', q1, q2, q3, cw149, u1, u2, ex, blankC, fillP]
        · rcases bn with rfl | rfl | rfl
          · obtain rfl := y2 (by unfold gone goneJ; omega) (by omega)
            simp -implicitDefEqProofs [hx', q1, q2, q3, cw149, u1, u2, ex]
          · obtain rfl := y1 ⟨by unfold goneJ; omega, .inl rfl⟩
            simp -implicitDefEqProofs [hx', q1, q2, q3, cw149, u1, u2, ex, blankC, fillP]
          · obtain rfl := y1 ⟨by unfold goneJ; omega, .inl rfl⟩
            simp -implicitDefEqProofs [hx', q1, q2, q3, cw149, u1, u2, ex, blankC, fillP]
        · have q2' := eq_true q2
          have hd : (s.col ≤ x ∧ ¬ (x : Int) ≤ s.col ∧ ¬ (x : Int) = s.col - 1 ∧ ¬ (x : Int) = s.col + 1) ∨ (s.col ≤ x ∧ ¬ (x : Int) ≤ s.col ∧ ¬ (x : Int) = s.col - 1 ∧ (x : Int) = s.col + 1) ∨ (s.col ≤ x ∧ (x : Int) ≤ s.col ∧ ¬ (x : Int) = s.col - 1 ∧ ¬ (x : Int) = s.col + 1) ∨ (¬ s.col ≤ x ∧ (x : Int) ≤ s.col ∧ (x : Int) = s.col - 1 ∧ ¬ (x : Int) = s.col + 1) ∨ (¬ s.col ≤ x ∧ (x : Int) ≤ s.col ∧ ¬ (x : Int) = s.col - 1 ∧ ¬ (x : Int) = s.col + 1) := by omega
          rcases bn with rfl | rfl | rfl
          · rcases hd with ⟨d1, d2, d3, d4⟩ | ⟨d1, d2, d3, d4⟩ | ⟨d1, d2, d3, d4⟩ | ⟨d1, d2, d3, d4⟩ | ⟨d1, d2, d3, d4⟩
            · obtain rfl := y1 ⟨by unfold goneJ; omega, .inl rfl⟩
              simp -implicitDefEqProofs [hx', q1, q2', q3, d1, d2, d3, d4, e1, e2, cw149, u1, u2, ex, blankC, fillP]
            · obtain rfl := y1 ⟨by unfold goneJ; omega, .inl rfl⟩
              have d4' := eq_true d4
              simp -implicitDefEqProofs [hx', q1, q2', q3, d1, d2, d3, d4', e1, e2, cw149, u1, u2, ex, blankC, fillP]
            · obtain rfl := y1 ⟨by unfold goneJ; omega, .inl rfl⟩
              simp -implicitDefEqProofs [hx', q1, q2', q3, d1, d2, d3, d4, e1, e2, cw149, u1, u2, ex, blankC, fillP]
            · have d3' := eq_true d3
              simp -implicitDefEqProofs [hx', q1, q2', q3, d1, d2, d3', d4, e1, e2, cw149, u1, u2, ex]
            · obtain rfl := y2 (by unfold gone goneJ; omega) (by omega)
              simp -implicitDefEqProofs [hx', q1, q2', q3, d1, d2, d3, d4, e1, e2, cw149, u1, u2, ex]
          · rcases hd with ⟨d1, d2, d3, d4⟩ | ⟨d1, d2, d3, d4⟩ | ⟨d1, d2, d3, d4⟩ | ⟨d1, d2, d3, d4⟩ | ⟨d1, d2, d3, d4⟩
            · obtain rfl := y2 (by unfold gone goneJ; omega) (by omega)
              simp -implicitDefEqProofs [hx', q1, q2', q3, d1, d2, d3, d4, e1, e2, cw149, u1, u2, ex]
            · have d4' := eq_true d4
              simp -implicitDefEqProofs [hx', q1, q2', q3, d1, d2, d3, d4', e1, e2, cw149, u1, u2, ex]
            · obtain rfl := y1 ⟨by unfold goneJ; omega, .inl rfl⟩
              simp -implicitDefEqProofs [hx', q1, q2', q3, d1, d2, d3, d4, e1, e2, cw149, u1, u2, ex, blankC, fillP]
            · obtain rfl := y1 ⟨by unfold goneJ; omega, .inl rfl⟩
              have d3' := eq_true d3
              simp -implicitDefEqProofs [hx', q1, q2', q3, d1, d2, d3', d4, e1, e2, cw149, u1, u2, ex, blankC, fillP]
            · obtain rfl := y1 ⟨by unfold goneJ; omega, .inl rfl⟩
              simp -implicitDefEqProofs [hx', q1, q2', q3, d1, d2, d3, d4, e1, e2, cw149, u1, u2, ex, blankC, fillP]
          · obtain rfl := y1 ⟨by unfold goneJ; omega, .inl rfl⟩
            rcases hd with ⟨d1, d2, d3, d4⟩ | ⟨d1, d2, d3, d4⟩ | ⟨d1, d2, d3, d4⟩ | ⟨d1, d2, d3, d4⟩ | ⟨d1, d2, d3, d4⟩
            · simp -implicitDefEqProofs [hx', q1, q2', q3, d1, d2, d3, d4, e1, e2, cw149, u1, u2, ex, blankC, fillP]
            · have d4' := eq_true d4
              simp -implicitDefEqProofs [hx', q1, q2', q3, d1, d2, d3, d4', e1, e2, cw149, u1, u2, ex, blankC, fillP]
            · simp -implicitDefEqProofs [hx', q1, q2', q3, d1, d2, d3, d4, e1, e2, cw149, u1, u2, ex, blankC, fillP]
            · have d3' := eq_true d3
              simp -implicitDefEqProofs [hx', q1, q2', q3, d1, d2, d3', d4, e1, e2, cw149, u1, u2, ex, blankC, fillP]
            · simp -implicitDefEqProofs [hx', q1, q2', q3, d1, d2, d3, d4, e1, e2, cw149, u1, u2, ex, blankC, fillP]
      · simp -implicitDefEqProofs []
      · simp -implicitDefEqProofs [wr_id ((y : Int) + 1) (by omega) (by omega)]
    · simp -implicitDefEqProofs []
    · simp -implicitDefEqProofs [cw193, cr193, w193]
  | true =>
    simp only [if_true] at hf
    subst hf
    simp -implicitDefEqProofs [cw66, w66, cw174, wn, cw400, v1, cw371, w371, fillP]
    refine evB_for (fun y => [B true, B false, I n, I y, .obx (scL s), .obx (scL { s with g := G, pend := false }), .obx [R 32, I 0, I (-1), I s.p.b, I 0]]) s.g.h (.exit 0) [B true, B false, I n, I s.g.h, .obx (scL s), .obx (scL { s with g := G, pend := false }), .obx [R 32, I 0, I (-1), I s.p.b, I 0]] ?_ (fun y hy => ?_) ?_ (by simp) (by simp [rounds]; omega) ?_
    · simp -implicitDefEqProofs []
    · have hy' : (y : Int) < s.g.h := by omega
      simp -implicitDefEqProofs [hy, hy']
      refine evB_for (fun x => [B true, B false, I n, I y, I x, .obx (scL s), .obx (scL { s with g := G, pend := false }), .obx [R 32, I 0, I (-1), I s.p.b, I 0]]) s.g.w (.exit 2) [B true, B false, I n, I y, I s.g.w, .obx (scL s), .obx (scL { s with g := G, pend := false }), .obx [R 32, I 0, I (-1), I s.p.b, I 0]] ?_ (fun x hx => ?_) ?_ (by simp) (by simp [rounds]; omega) ?_
      · simp -implicitDefEqProofs []
      · have hx' : (x : Int) < s.g.w := by omega
        obtain ⟨X, Y, hX, hY, y1, y2⟩ := hG y x hy hx
        have u1 := fun q => sp149 q s.g o.g y x hy hx X hX
        have u2 := fun q => sp149 q G oG y x (by omega) (by omega) Y hY
        have ex : wr ((x : Int) + 1) = (x : Int) + 1 := wr_id _ (by omega) (by omega)
        have e1 : wr (s.col - 1) = s.col - 1 := wr_id _ (by omega) (by omega)
        have e2 : wr (s.col + 1) = s.col + 1 := wr_id _ (by omega) (by omega)
        have hc : (s.row < y ∧ ¬ (y : Int) = s.row ∧ ¬ (y : Int) < s.row) ∨ (¬ s.row < y ∧ ¬ (y : Int) = s.row ∧ (y : Int) < s.row) ∨ (¬ s.row < y ∧ (y : Int) = s.row ∧ ¬ (y : Int) < s.row) := by omega
        clear hG v1 w66 hX hY
        have ngone : ¬ (y : Int) = s.row → ¬ gone true s.row.toNat s.col.toNat n y x := by
          rintro h ⟨_, h2 | h2⟩
          · cases h2
          · omega
        rcases hc with ⟨q1, q2, q3⟩ | ⟨q1, q2, q3⟩ | ⟨q1, q2, q3⟩
        · obtain rfl := y2 (ngone q2) (by omega)
          rcases bn with rfl | rfl | rfl
          · simp -implicitDefEqProofs [hx', q1, q2, q3, cw149, u1, u2, ex]
          · simp -implicitDefEqProofs [hx', q1, q2, q3, cw149, u1, u2, ex]
          · simp -implicitDefEqProofs [hx', q1, q2, q3, cw149, u1, u2, ex]
        · obtain rfl := y2 (ngone q2) (by omega)
          rcases bn with rfl | rfl | rfl
          · simp -implicitDefEqProofs [hx', q1, q2, q3, cw149, u1, u2, ex]
          · simp -implicitDefEqProofs [hx', q1, q2, q3, cw149, u1, u2, ex]
          · simp -implicitDefEqProofs [hx', q1, q2, q3, cw149, u1, u2, ex]
        · have q2' := eq_true q2
          have hyr : y = s.row.toNat := by omega
          have hd : (s.col ≤ x ∧ ¬ (x : Int) ≤ s.col ∧ ¬ (x : Int) = s.col - 1 ∧ ¬ (x : Int) = s.col + 1) ∨ (s.col ≤ x ∧ ¬ (x : Int) ≤ s.col ∧ ¬ (x : Int) = s.col - 1 ∧ (x : Int) = s.col + 1) ∨ (s.col ≤ x ∧ (x : Int) ≤ s.col ∧ ¬ (x : Int) = s.col - 1 ∧ ¬ (x : Int) = s.col + 1) ∨ (¬ s.col ≤ x ∧ (x : Int) ≤ s.col ∧ (x : Int) = s.col - 1 ∧ ¬ (x : Int) = s.col + 1) ∨ (¬ s.col ≤ x ∧ (x : Int) ≤ s.col ∧ ¬ (x : Int) = s.col - 1 ∧ ¬ (x : Int) = s.col + 1) := by omega
          rcases bn with rfl | rfl | rfl
          · rcases hd with ⟨d1, d2, d3, d4⟩ | ⟨d1, d2, d3, d4⟩ | ⟨d1, d2, d3, d4⟩ | ⟨d1, d2, d3, d4⟩ | ⟨d1, d2, d3, d4⟩
            · obtain rfl := y1 ⟨by unfold goneJ; omega, .inr hyr⟩
              simp -implicitDefEqProofs [hx', q1, q2', q3, d1, d2, d3, d4, e1, e2, cw149, u1, u2, ex, blankC, fillP]
            · obtain rfl := y1 ⟨by unfold goneJ; omega, .inr hyr⟩
              have d4' := eq_true d4
              simp -implicitDefEqProofs [hx', q1, q2', q3, d1, d2, d3, d4', e1, e2, cw149, u1, u2, ex, blankC, fillP]
            · obtain rfl := y1 ⟨by unfold goneJ; omega, .inr hyr⟩
              simp -implicitDefEqProofs [hx', q1, q2', q3, d1, d2, d3, d4, e1, e2, cw149, u1, u2, ex, blankC, fillP]
            · have d3' := eq_true d3
              simp -implicitDefEqProofs [hx', q1, q2', q3, d1, d2, d3', d4, e1, e2, cw149, u1, u2, ex]
            · obtain rfl := y2 (by unfold gone goneJ; omega) (by omega)
              simp -implicitDefEqProofs [hx', q1, q2', q3, d1, d2, d3, d4, e1, e2, cw149, u1, u2, ex]
          · rcases hd with ⟨d1, d2, d3, d4⟩ | ⟨d1, d2, d3, d4⟩ | ⟨d1, d2, d3, d4⟩ | ⟨d1, d2, d3, d4⟩ | ⟨d1, d2, d3, d4⟩
            · obtain rfl := y2 (by unfold gone goneJ; omega) (by omega)
              simp -implicitDefEqProofs [hx', q1, q2', q3, d1, d2, d3, d4, e1, e2, cw149, u1, u2, ex]
            · have d4' := eq_true d4
              simp -implicitDefEqProofs [hx', q1, q2', q3, d1, d2, d3, d4', e1, e2, cw149, u1, u2, ex]
            · obtain rfl := y1 ⟨by unfold goneJ; omega, .inr hyr⟩
              simp -implicitDefEqProofs [hx', q1, q2', q3, d1, d2, d3, d4, e1, e2, cw149, u1, u2, ex, blankC, fillP]
            · obtain rfl := y1 ⟨by unfold goneJ; omega, .inr hyr⟩
              have d3' := eq_true d3
              simp -implicitDefEqProofs [hx', q1, q2', q3, d1, d2, d3', d4, e1, e2, cw149, u1, u2, ex, blankC, fillP]
            · obtain rfl := y1 ⟨by unfold goneJ; omega, .inr hyr⟩
              simp -implicitDefEqProofs [hx', q1, q2', q3, d1, d2, d3, d4, e1, e2, cw149, u1, u2, ex, blankC, fillP]
          · obtain rfl := y1 ⟨by unfold goneJ; omega, .inr hyr⟩
            rcases hd with ⟨d1, d2, d3, d4⟩ | ⟨d1, d2, d3, d4⟩ | ⟨d1, d2, d3, d4⟩ | ⟨d1, d2, d3, d4⟩ | ⟨d1, d2, d3, d4⟩
            · simp -implicitDefEqProofs [hx', q1, q2', q3, d1, d2, d3, d4, e1, e2, cw149, u1, u2, ex, blankC, fillP]
            · have d4' := eq_true d4
              simp -implicitDefEqProofs [hx', q1, q2', q3, d1, d2, d3, d4', e1, e2, cw149, u1, u2, ex, blankC, fillP]
            · simp -implicitDefEqProofs [hx', q1, q2', q3, d1, d2, d3, d4, e1, e2, cw149, u1, u2, ex, blankC, fillP]
            · have d3' := eq_true d3
              simp -implicitDefEqProofs [hx', q1, q2', q3, d1, d2, d3', d4, e1, e2, cw149, u1, u2, ex, blankC, fillP]
            · simp -implicitDefEqProofs [hx', q1, q2', q3, d1, d2, d3, d4, e1, e2, cw149, u1, u2, ex, blankC, fillP]
      · simp -implicitDefEqProofs []
      · simp -implicitDefEqProofs [wr_id ((y : Int) + 1) (by omega) (by omega)]
    · simp -implicitDefEqProofs []
    · simp -implicitDefEqProofs [cw193, cr193, w193]
end Go.Proofs.YtmmbkjigflhmjaaGreat.LgTab
