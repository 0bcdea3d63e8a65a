import Derived.Test.YtmmbkjigflhmjaaGreatLgSa
/-
  SourceReset: its law.
-/
namespace Go.Proofs.YtmmbkjigflhmjaaGreat.LgTab
open Go Lg
set_option linter.unusedVariables false
set_option linter.unusedSimpArgs false
set_option maxRecDepth 8000
set_option maxHeartbeats 8000000 in
theorem sp192 (k : Nat) (a b : Int) (rs ps : List Int) (hr : rs.length ≤ 9223372036854775807) (hp : ps.length ≤ 9223372036854775807) (kr kc kt kb kf p1 p2 p3 : Int) (tabs : Nat) (ht : tabs < 2 ^ 64)
    (l : List Kev) (htx : ∀ x, x ∈ l → ∀ c, c ∈ x.tx → 0 ≤ c ∧ c ≤ 255) :
    evFun (clOf (modsR tab (k + 12)) 3) s192 [.agg [I a, I b, .sl 1 (intsD rs), .sl 1 (intsD ps), I kr, I kc, I kt, I kb, I kf, I p1, I p2, I p3, T64 tabs], .sl 5 (kevsD l)] = some (B true, []) := by
  obtain ⟨s, w66, o, r, h5, w9⟩ := sp66 (k + 7) a b rs ps hr hp kr kc kt kb kf p1 p2 p3 tabs ht
  obtain ⟨es, el, w63⟩ := kevs_ex (k + 10) l htx
  have v := fun q => sp400 q s o (escE 99) (by simp [Ev.par])
  rw [do_reset] at v
  simp only [evD, evL, parD] at v
  have w372 := fun q => sp372 q s.g.h s.g.w ⟨o.g.1, o.h⟩ ⟨o.g.2.2.1, o.w⟩
  have on := newS_ok s.g.h s.g.w ⟨o.g.1, o.h⟩ ⟨o.g.2.2.1, o.w⟩
  generalize newS s.g.h s.g.w = n at *
  have w374 := fun q => sp374 q n (by have := on.len; omega)
  have hlen := kevsD_len l
  obtain ⟨N, hN⟩ : ∃ N, N = min l.length 15 := ⟨_, rfl⟩
  have h0 := allN_0 n es
  have oN := allN_ok on es N
  have w374N := fun q => sp374 q (allN n es N) (by have := oN.len; omega)
  have w193 := fun q => sp193 q
  rw [evFun_evB rfl]
  unfold s192
  simp -implicitDefEqProofs [cw66, w66, cw400, v, cw372, w372, cw374, w374]
  refine evB_for (fun i => [.sl 5 (kevsD l), I i, .obx (scL (allN n es i)), .obx (scL (allN n es i))]) N (.exit 0) [.sl 5 (kevsD l), I N, .obx (scL (allN n es N)), .obx (scL (allN n es N))] ?_ (fun i hi => ?_) ?_ (by simp) (by simp [rounds]; omega) ?_
  · simp -implicitDefEqProofs [h0]
  · have i1 : i < l.length := by omega
    have i2 : (i : Int) < 15 := by omega
    have i3 : (i : Int) < l.length := by omega
    obtain ⟨x, hx⟩ := get_ex i1
    obtain ⟨e, he, wx, _, he5⟩ := w63 i x hx
    have hs := allN_snoc n he
    have oi := allN_ok on es i
    have v2 := fun q => sp400 q _ oi e (by omega)
    have hg := kevsD_at hx
    rw [← hs] at v2
    have r1 := isROs_I x.ps
    have r2 := isROs_U x.tx
    clear w63 v w66
    generalize allN n es (i + 1) = S' at *
    generalize allN n es i = S2 at *
    generalize kevsD l = L at *
    simp -implicitDefEqProofs [i1, i2, i3, hg, hlen, cw400, cr400, v2, cw63, cr63, wx, r1, r2, wr_id ((i : Int) + 1) (by omega) (by omega)]
  · clear w63 v w66
    generalize allN n es N = S' at *
    generalize kevsD l = L at *
    by_cases h1 : (N : Int) < l.length
    · have h2 : ¬ (N : Int) < 15 := by omega
      simp -implicitDefEqProofs [hlen, h1, h2]
    · simp -implicitDefEqProofs [hlen, h1]
  · clear w63 v w66
    generalize allN n es N = S' at *
    simp -implicitDefEqProofs [cw374, w374N, cw193, cr193, w193]
end Go.Proofs.YtmmbkjigflhmjaaGreat.LgTab
