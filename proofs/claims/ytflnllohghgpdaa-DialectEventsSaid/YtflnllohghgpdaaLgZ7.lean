import Derived.Test.YtflnllohghgpdaaLgZ6
/-
  Regions, from a program's text.
-/
namespace Lg
open Go
set_option linter.unusedVariables false
set_option linter.unusedSimpArgs false
set_option linter.unusedSectionVars false

section
variable {P : Program} {num : FuncId → Option Nat} {fid : Nat → FuncId}
  {w0 : World} {A0 : Av} {Cb : Nat → Prop} {nt : Nt} {w : World} {A : Av} {ι : Io} {a : Act} {E E' : Env} {H H' : List Ob} {cl : Cl} {ops : Array Oper} {C : List (Bool × SOper)} {r : Env × List Ob} {Q : Exit → Act → World → Prop}
theorem compDraw_spec {b : Array Nat} : ∀ (os : List Oper) (i : Nat) (C : List (Bool × SOper)), compDraw P num nt.1 ops b i os = some C →
    C.length = os.length ∧ ∀ (k : Nat) (o : Oper), os[k]? = some o → ∃ s, C[k]? = some (barrier ops b (i + k), s) ∧ ∃ q, compOper P num nt.1 ops q o = some s
  | [], i, C, h => by
    simp only [compDraw, Option.some.injEq] at h; subst h
    exact ⟨rfl, by simp⟩
  | o :: os, i, C, h => by
    simp only [compDraw] at h
    obtain ⟨s, h1, h⟩ := Option.bind_eq_some_iff.1 h
    obtain ⟨l, h2, rfl⟩ := Option.map_eq_some_iff.1 h
    obtain ⟨e1, e2⟩ := compDraw_spec os (i + 1) l h2
    refine ⟨by simp [e1], fun k o' hk => ?_⟩
    cases k with
    | zero => simp at hk; subst hk; exact ⟨s, rfl, _, h1⟩
    | succ k =>
      obtain ⟨s', g1, g2⟩ := e2 k o' (by simpa using hk)
      exact ⟨s', by rw [show i + (k + 1) = i + 1 + k by omega]; simpa using g1, g2⟩
theorem drawOK_of (h1 : edgesOk ops = true) (h2 : compDraw P num nt.1 ops (Region.before ops) 0 ops.toList = some C) (h3 : drawOk C (Region.before ops) = true) : DrawOK P num nt ops C := by
  obtain ⟨hl, hs⟩ := compDraw_spec _ _ _ h2
  have hl' : C.length = ops.size := by simpa using hl
  refine ⟨hl', fun i o ho => ?_, fun i hb j hj => ?_, fun i j hij hj hu => ?_, fun j o e ho he hb => ?_⟩
  · obtain ⟨s, g1, q, g2⟩ := hs i o (by simpa using ho)
    exact ⟨q, by simp only [sAt, g1, Option.map_some, Option.getD_some]; exact g2⟩
  · have hilt : i < ops.size := by
      rcases Nat.lt_or_ge i ops.size with h | h
      · exact h
      · simp [barAt, List.getElem?_eq_none (show C.length ≤ i by omega)] at hb
    obtain ⟨s, g1, _⟩ := hs i ops[i] (by simp [hilt])
    simp only [barAt, g1, Option.map_some, Option.getD_some, Nat.zero_add] at hb
    unfold barrier at hb
    rw [List.all_eq_true] at hb
    have := hb j (List.mem_range.2 hj)
    constructor
    · intro h; rw [if_pos h] at this; exact this
    · intro h; rw [if_neg (by omega), if_pos h] at this; exact this
  · unfold drawOk at h3
    rw [List.all_eq_true] at h3
    have := h3 j (List.mem_range.2 (by omega))
    rw [List.all_eq_true] at this
    have := this i (List.mem_range.2 hij)
    unfold pairOk at this
    rw [show ((Region.before ops).getD j 0).testBit i = false from hu, Bool.false_or] at this
    have e1 : C[i]? = some (C[i]'(by omega)) := List.getElem?_eq_getElem (by omega)
    have e2 : C[j]? = some (C[j]'(by omega)) := List.getElem?_eq_getElem (by omega)
    rw [e1, e2] at this
    simp only [apartS, sAt, e1, e2, Option.map_some, Option.getD_some]
    simpa using this
  · have hj : j < ops.size := (Array.getElem?_eq_some_iff.1 ho).1
    unfold edgesOk at h1
    rw [List.all_eq_true] at h1
    have := h1 j (List.mem_range.2 hj)
    rw [ho] at this
    simp only [List.all_eq_true] at this
    have := this e (by simpa using he)
    rw [hb] at this
    simpa using this
theorem getD_replicate {n j : Nat} {d : Bool} : (Array.replicate n false).getD j d = if j < n then false else d := by
  simp only [Array.getD_eq_getD_getElem?, Array.getElem?_replicate]
  split <;> simp
/-- A region. -/
theorem reg_sound (hnum : ∀ f g, num f = some g → fid g = f) (hr : ClR P fid cl.r) (hcg : CongrR cl.r) (hcw : ClW P fid cl.w) (hmix : P.follows .mixedOrders = true) {id : Nat} {draw : Bool} {c : SCode} (hc : compReg P num nt.1 ops draw = some c)
    (S : St fid w0 A0 Cb nt w A ι a E H no) {ex : Ex} (he : evC cl c E H = some (ex, E', H')) (hQ : ∀ a' w' A' ι', St fid w0 A0 Cb nt w' A' ι' a' E' H' no → Ext ι ι' → Q .normal a' w') : ex = .nrm ∧ (Code.region id ops draw).wp P Q a w := by
  cases draw with
  | false =>
    simp only [compReg, Bool.false_eq_true, if_false] at hc
    obtain ⟨l, hl, rfl⟩ := Option.map_eq_some_iff.1 hc
    simp only [evC] at he
    obtain ⟨⟨E1, H1⟩, h1, h2⟩ := Option.map_eq_some_iff.1 he
    simp only [Prod.mk.injEq] at h2
    obtain ⟨rfl, rfl, rfl⟩ := h2
    refine ⟨rfl, wp_region ?_⟩
    have := regO_sound hnum hr hcw (ops := ops) (Q := Q) ops.toList 0 l rfl hl h1 S hQ
    rw [List.range_eq_range']
    simpa using this
  | true =>
    simp only [compReg, if_true] at hc
    split at hc
    · rename_i hed
      obtain ⟨C, hC, hc⟩ := Option.bind_eq_some_iff.1 hc
      split at hc
      · rename_i hdr
        injection hc with hc; subst hc
        simp only [evC] at he
        obtain ⟨⟨E1, H1⟩, h1, h2⟩ := Option.map_eq_some_iff.1 he
        simp only [Prod.mk.injEq] at h2
        obtain ⟨rfl, rfl, rfl⟩ := h2
        refine ⟨rfl, wp_region_any hmix ?_⟩
        have D := drawOK_of hed hC hdr
        have S' : St fid w0 A0 Cb nt { w with drawn := w.drawn + 1 } A ι a E H no := S.world (O := []) ⟨List.nodup_nil, by simp, by simp, by simp⟩ (Keep.drawn w (w.drawn + 1) A _)
        obtain ⟨m, L, ps, k1, k2, k3, _, _⟩ := seg_of 0 C 0 [] [] E H rfl (by omega) (Nat.le_refl _) rfl h1
        have hLlen : L.length = m - 0 := by have := congrArg List.length k2; simpa using this
        have hmem' : ∀ k, k ∈ L.map (·.1) ↔ 0 ≤ k ∧ k < m := by intro k; rw [k2, List.mem_range'_1]; omega
        refine any_sound hnum hr hcg hcw D (ι0 := ι) hQ ops.size _ a _ m L ps E H no A ι (by simp) ?_ (fun i hi => ?_) (fun y hy => ((hmem' y.1).1 (List.mem_map.2 ⟨y, hy, rfl⟩)).2) (by have := k3.le; have := D.len; omega) ?_ (by have := k3.le; have := D.len; omega) (fun h => k3.br (by have := D.len; omega)) k3.run k3.ds k3.pw S' (fun t ht => (ht rfl).elim) (Ext.refl _)
        · intro j o e hj ho he hb
          rw [getD_replicate] at hj
          simp at hj
        · rw [getD_replicate, if_pos hi, hmem']
          simp; omega
        · have := List.pairwise_lt_range' (s := 0) (n := m - 0) (step := 1)
          rw [← k2, List.pairwise_map] at this
          exact this
      · cases hc
    · cases hc
end
end Lg
