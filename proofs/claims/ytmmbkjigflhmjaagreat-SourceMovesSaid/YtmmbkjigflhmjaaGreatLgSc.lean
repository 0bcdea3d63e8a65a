import Derived.Test.YtmmbkjigflhmjaaGreatLgSa
/-
  SourceMoves: its law.
-/
namespace Go.Proofs.YtmmbkjigflhmjaaGreat.LgTab
open Go Lg
set_option linter.unusedVariables false
set_option linter.unusedSimpArgs false
set_option maxRecDepth 8000
theorem move_f (q : Int) (h : 0 ≤ q ∧ q ≤ 9) : ∃ f : UInt8, ([65, 66, 67, 68, 69, 70, 71, 100, 72, 102] : List UInt8)[q.toNat]? = some f ∧ isMove (f.toNat : Int) = true := by
  have hc : q = 0 ∨ q = 1 ∨ q = 2 ∨ q = 3 ∨ q = 4 ∨ q = 5 ∨ q = 6 ∨ q = 7 ∨ q = 8 ∨ q = 9 := by omega
  rcases hc with rfl | rfl | rfl | rfl | rfl | rfl | rfl | rfl | rfl | rfl <;> exact ⟨_, rfl, rfl⟩
theorem moveS_form (s : Sc) (e : Ev) : ∃ r c, moveS s e = { s with row := r, col := c, pend := false } := by
  obtain ⟨h1, h2⟩ := moveS_but s e
  unfold SameBut at h1
  rw [h2] at h1
  exact ⟨_, _, h1⟩
set_option maxHeartbeats 8000000 in
theorem sp190 (k : Nat) (a b : Int) (rs ps : List Int) (hr : rs.length ≤ 9223372036854775807) (hp : ps.length ≤ 9223372036854775807) (kr kc kt kb kf p1 p2 p3 : Int) (tabs : Nat) (ht : tabs < 2 ^ 64)
    (what n0 m0 : Int) :
    evFun (clOf (modsR tab (k + 12)) 3) s190 [.agg [I a, I b, .sl 1 (intsD rs), .sl 1 (intsD ps), I kr, I kc, I kt, I kb, I kf, I p1, I p2, I p3, T64 tabs], I what, I n0, I m0] = some (B true, []) := by
  obtain ⟨s, w66, o, r, h5, w9⟩ := sp66 (k + 7) a b rs ps hr hp kr kc kt kb kf p1 p2 p3 tabs ht
  obtain ⟨q0, hq⟩ : ∃ q, q = 0 + what % (9 - 0 + 1) := ⟨_, rfl⟩
  have wq := fun q => sp174c q what 0 9 (by omega) (by omega) (by omega) q0 hq
  have bq : 0 ≤ q0 ∧ q0 ≤ 9 := by omega
  clear hq
  obtain ⟨n, hn⟩ : ∃ q, q = 0 + n0 % (70 - 0 + 1) := ⟨_, rfl⟩
  have wn := fun q => sp174c q n0 0 70 (by omega) (by omega) (by omega) n hn
  clear hn
  obtain ⟨m, hm⟩ : ∃ q, q = 0 + m0 % (70 - 0 + 1) := ⟨_, rfl⟩
  have wm := fun q => sp174c q m0 0 70 (by omega) (by omega) (by omega) m hm
  clear hm
  obtain ⟨c, hc⟩ : ∃ q, q = 1 + n0 % (9 - 1 + 1) := ⟨_, rfl⟩
  have wc := fun q => sp174c q n0 1 9 (by omega) (by omega) (by omega) c hc
  have bc : 1 ≤ c ∧ c ≤ 9 := by omega
  clear hc
  obtain ⟨f8, hf, hfm⟩ := move_f q0 bq
  obtain ⟨f, ef⟩ : ∃ f : Int, f = (f8.toNat : Int) := ⟨_, rfl⟩
  rw [← ef] at hfm
  have v1 := fun q => sp400 q s o (csiE f [n, m]) (by simp [Ev.par])
  rw [do_move s f _ hfm] at v1
  have o1 := moveS_ok o (csiE f [n, m])
  have r1 := moveS_right r (csiE f [n, m])
  obtain ⟨tr, tc, et⟩ := moveS_form s (csiE f [n, m])
  rw [et] at v1 o1 r1
  have w373 := fun q => sp373 q _ o1 r1
  have w177 := fun q => sp177 q s (by have := o.len; omega)
  have v2 := fun q => sp399 q s o [csiE 67 [c], csiE 68 [c]] (by simp) (by intro e he; simp at he; rcases he with rfl | rfl <;> simp [Ev.par])
  have v3 := fun q => sp399 q s o [escE 55, csiN f, escE 56] (by simp) (by intro e he; simp at he; rcases he with rfl | rfl | rfl <;> simp [Ev.par])
  have hu : (s.g.w : Int) - 1 < s.col + c ∨ (allS s [csiE 67 [c], csiE 68 [c]]).col = s.col := by
    by_cases h : (s.g.w : Int) - 1 < s.col + c
    · exact .inl h
    · right
      show (doS (doS s (csiE 67 [c])) (csiE 68 [c])).col = s.col
      rw [do_right s c (by omega), do_left _ c (by omega)]
      exact there_back o (by omega) (by omega)
  have hw : (allS s [escE 55, csiN f, escE 56]).row = s.row ∧ (allS s [escE 55, csiN f, escE 56]).col = s.col := by
    have e : allS s [escE 55, csiN f, escE 56] = restS (moveS (saveS s) (csiN f)) := by
      show doS (doS (doS s (escE 55)) (csiN f)) (escE 56) = _
      rw [do_save, do_move _ f _ hfm, do_rest]
    rw [e]
    exact save_rest o _
  generalize allS s [csiE 67 [c], csiE 68 [c]] = Su at *
  generalize allS s [escE 55, csiN f, escE 56] = Sw at *
  simp only [evD, evL, parD, evsD, List.map_cons, List.map_nil, intsD] at v1 v2 v3
  have w193 := fun q => sp193 q
  have hcb := o.col
  have hww := o.w
  rw [evFun_evB rfl]
  unfold s190
  by_cases h : (s.g.w : Int) - 1 < s.col + c
  · simp -implicitDefEqProofs [cw66, w66, cw174, cr174, wq, wn, wm, wc, hf, ← ef, bq.1, cw400, cr400, v1, cw373, w373, cw177, cr177, w177, cw399, v2, v3, wr_id (s.col + c) (by omega) (by omega), wr_id ((s.g.w : Int) - 1) (by omega) (by omega), h, hw.1, hw.2, cw193, cr193, w193]
  · have hu' := hu.resolve_left h
    simp -implicitDefEqProofs [cw66, w66, cw174, cr174, wq, wn, wm, wc, hf, ← ef, bq.1, cw400, cr400, v1, cw373, w373, cw177, cr177, w177, cw399, v2, v3, wr_id (s.col + c) (by omega) (by omega), wr_id ((s.g.w : Int) - 1) (by omega) (by omega), h, hu', hw.1, hw.2, cw193, cr193, w193]
end Go.Proofs.YtmmbkjigflhmjaaGreat.LgTab
