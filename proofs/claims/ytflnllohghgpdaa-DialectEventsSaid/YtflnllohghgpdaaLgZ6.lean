import Derived.Test.YtflnllohghgpdaaLgZ5
/-
  Regions that draw their order: every order comes to the text's.
-/
namespace Lg
open Go
set_option linter.unusedVariables false
set_option linter.unusedSimpArgs false
set_option linter.unusedSectionVars false

section
variable {P : Program} {num : FuncId → Option Nat} {fid : Nat → FuncId}
  {w0 : World} {A0 : Av} {Cb : Nat → Prop} {nt : Nt} {cl : Cl} {ops : Array Oper} {C : List (Bool × SOper)} {r : Env × List Ob} {Q : Exit → Act → World → Prop}
structure DrawOK (P : Program) (num : FuncId → Option Nat) (nt : Nt) (ops : Array Oper) (C : List (Bool × SOper)) : Prop where
  len : C.length = ops.size
  op : ∀ i o, ops[i]? = some o → ∃ q, compOper P num nt.1 ops q o = some (sAt C i)
  bar : ∀ i, barAt C i = true → ∀ j, j < ops.size → (j < i → ((Region.before ops).getD i 0).testBit j = true) ∧ (i < j → ((Region.before ops).getD j 0).testBit i = true)
  dr : ∀ i j, i < j → j < ops.size → unord (Region.before ops) i j → apartS (sAt C i) (sAt C j)
  ed : ∀ j o e, ops[j]? = some o → e ∈ o.after → Region.binds .any e = true → e.on < j
theorem settled_no {own' own : Nat → List Nat} {ps : List Nat} (h : ∀ t, t ∈ ps ∨ own t = [] → own' t = []) (ho : ∀ t, own t ≠ [] → t ∈ ps) : own' = no := by
  funext t
  by_cases e : own t = []
  · exact h t (.inr e)
  · exact h t (.inl (ho t e))
theorem any_sound (hnum : ∀ f g, num f = some g → fid g = f) (hr : ClR P fid cl.r) (hcg : CongrR cl.r) (hcw : ClW P fid cl.w) (D : DrawOK P num nt ops C) {ι0 : Io}
    (hQ : ∀ a' w' A' ι', St fid w0 A0 Cb nt w' A' ι' a' r.1 r.2 no → Ext ι0 ι' → Q .normal a' w') :
    ∀ (fuel : Nat) (listed : Array Bool) (a : Act) (w : World) (m : Nat) (L : Ln) (ps : List Nat) (E : Env) (H : List Ob) (own : Nat → List Nat) (A : Av) (ι : Io),
      listed.size = ops.size → Closed ops listed → (∀ i, i < ops.size → (listed.getD i true = false ↔ (i ∈ L.map (·.1) ∨ m ≤ i))) → (∀ x, x ∈ L → x.1 < m) → m ≤ ops.size → L.Pairwise (fun x y => x.1 < y.1) → fuel = L.length + (ops.size - m) →
      (m < ops.size → barAt C m = true) → (∃ E1 H1, Run cl (L.map fun x => sAt C x.1) (L.map (·.2)) E H E1 H1 ∧ Cont cl (Region.before ops) C m ps E1 H1 r) →
      (∀ x, x ∈ L → ∀ t, (sAt C x.1).dst = some t → t ∈ ps) → L.Pairwise (fun x y => unord (Region.before ops) x.1 y.1 → nocl x.2 y.2) →
      St fid w0 A0 Cb nt w A ι a E H own → (∀ t, own t ≠ [] → t ∈ ps) → Ext ι0 ι → wpAny P .any ops Q fuel listed a w := by
  intro fuel
  have unl : ∀ {listed : Array Bool} {i : Nat}, listed.size = ops.size → i < ops.size → listed.getD i true = false → listed.getD i false = true → False := by
    intro listed i h1 h2 h3 h4
    simp [h1, h2] at h3 h4
    rw [h3] at h4; cases h4
  induction fuel with
  | zero =>
    intro listed a w m L ps E H own A ι hsz hc hul hLm hm hasc hf hbr hrun hds hpw S hown hx
    have hL : L = [] := List.length_eq_zero_iff.1 (by omega)
    subst hL
    have hmn : m = ops.size := by omega
    refine ⟨?_, ?_⟩
    · refine List.eq_nil_iff_forall_not_mem.2 fun j hj => ?_
      obtain ⟨hj1, o, ho, _⟩ := mem_ready.1 hj
      have hlt : j < ops.size := (Array.getElem?_eq_some_iff.1 ho).1
      rcases (hul j hlt).1 hj1 with h | h
      · simp at h
      · omega
    · obtain ⟨E1, H1, h1, h2⟩ := hrun
      obtain ⟨hE, rfl⟩ := h1
      rcases h2 with ⟨_, rfl⟩ | ⟨hlt, _⟩
      · obtain ⟨ι', own', S', h', x'⟩ := (S.lk hE).settle ps
        have : own' = no := settled_no h' hown
        subst this
        exact hQ a w A ι' S' (hx.trans x')
      · have := D.len; omega
  | succ fuel ih =>
    intro listed a w m L ps E H own A ι hsz hc hul hLm hm hasc hf hbr hrun hds hpw S hown hx
    -- the first one that is left is ready
    have first : ∀ j0, j0 < ops.size → listed.getD j0 true = false → (∀ k, k < j0 → listed.getD k true = true) → j0 ∈ Region.ready .any ops listed := by
      intro j0 hlt hu hmin
      obtain ⟨o, ho⟩ : ∃ o, ops[j0]? = some o := ⟨_, Array.getElem?_eq_getElem hlt⟩
      refine mem_ready.2 ⟨hu, o, ho, fun e he hb => ?_⟩
      have hlt2 := D.ed j0 o e ho he hb
      have := hmin e.on hlt2
      have hl3 : e.on < listed.size := by omega
      simp [hl3] at this ⊢; exact this
    have nonempty : Region.ready .any ops listed ≠ [] := by
      intro hnil
      cases L with
      | nil =>
        have hmlt : m < ops.size := by simp at hf; omega
        have := first m hmlt ((hul m hmlt).2 (.inr (Nat.le_refl _))) (fun k hk => by
          have hk' : k < ops.size := by omega
          cases hh : listed.getD k true with
          | true => rfl
          | false => rcases (hul k hk').1 hh with h | h; simp at h; omega)
        rw [hnil] at this; cases this
      | cons x L =>
        have hxm := hLm x (by simp)
        have := first x.1 (by omega) ((hul x.1 (by omega)).2 (.inl (by simp))) (fun k hk => by
          have hk' : k < ops.size := by omega
          cases hh : listed.getD k true with
          | true => rfl
          | false =>
            rcases (hul k hk').1 hh with h | h
            · simp only [List.map_cons, List.mem_cons] at h
              rcases h with h | h
              · omega
              · obtain ⟨y, hy, e⟩ := List.mem_map.1 h
                have := (List.pairwise_cons.1 hasc).1 y hy
                omega
            · omega)
        rw [hnil] at this; cases this
    refine ⟨fun h => (nonempty h).elim, fun i hi => ?_⟩
    obtain ⟨hiu, o, ho, hall⟩ := mem_ready.1 hi
    have hilt : i < ops.size := (Array.getElem?_eq_some_iff.1 ho).1
    have hbef := ready_before hc hi
    obtain ⟨q, hcomp⟩ := D.op i o ho
    have hsz' : (listed.setIfInBounds i true).size = ops.size := by simpa using hsz
    have hlisted' : ∀ k, k < ops.size → ((listed.setIfInBounds i true).getD k true = false ↔ (k ≠ i ∧ listed.getD k true = false)) := by
      intro k hk
      by_cases e : i = k
      · subst e; simp [hsz, hilt]
      · rw [getD_set_ne true e]; exact ⟨fun h => ⟨fun h' => e h'.symm, h⟩, fun h => h.2⟩
    have notlater : m < i → False := by
      intro h
      have hmlt : m < ops.size := by omega
      have h1 := (D.bar m (hbr hmlt) i hilt).2 h
      exact unl hsz hmlt ((hul m hmlt).2 (.inr (Nat.le_refl _))) (hbef m h1)
    by_cases hmem : i ∈ L.map (·.1)
    · -- one of the segment
      obtain ⟨x, hxL, rfl⟩ := List.mem_map.1 hmem
      obtain ⟨L1, L2, rfl⟩ := List.append_of_mem hxL
      obtain ⟨E1, H1, h1, h2⟩ := hrun
      have hasc' := List.pairwise_append.1 hasc
      have hpw' := List.pairwise_append.1 hpw
      have hpre : ∀ p, p ∈ L1.map (fun y => (sAt C y.1, y.2)) → apartS p.1 (sAt C x.1) ∧ nocl p.2 x.2 := by
        intro p hp
        obtain ⟨y, hy, rfl⟩ := List.mem_map.1 hp
        have hlt := hasc'.2.2 y hy x (by simp)
        have hu : unord (Region.before ops) y.1 x.1 := by
          cases hh : ((Region.before ops).getD x.1 0).testBit y.1 with
          | false => exact hh
          | true =>
            exfalso
            have hy' : y.1 < ops.size := by have := hLm y (by simp [hy]); omega
            exact unl hsz hy' ((hul y.1 hy').2 (.inl (List.mem_map.2 ⟨y, by simp [hy], rfl⟩))) (hbef y.1 hh)
        exact ⟨D.dr y.1 x.1 hlt hilt hu, hpw'.2.2 y hy x (by simp) hu⟩
      have h1' : Run cl ((L1.map fun y => (sAt C y.1, y.2)).map (·.1) ++ sAt C x.1 :: L2.map fun y => sAt C y.1) ((L1.map fun y => (sAt C y.1, y.2)).map (·.2) ++ x.2 :: L2.map (·.2)) E H E1 H1 := by
        simpa [List.map_map, Function.comp_def] using h1
      have hb := Run.bubble hcg _ hpre h1'
      have next : ∀ {a' : Act} {w' : World} {A' : Av} {ι' : Io} {E2 : Env} {H2 : List Ob} {own' : Nat → List Nat}, Run cl (L1.map (fun y => (sAt C y.1, y.2)) |>.map (·.1) |> (· ++ L2.map fun y => sAt C y.1)) (L1.map (fun y => (sAt C y.1, y.2)) |>.map (·.2) |> (· ++ L2.map (·.2))) E2 H2 E1 H1 →
          St fid w0 A0 Cb nt w' A' ι' a' E2 H2 own' → (∀ t, own' t ≠ [] → (sAt C x.1).dst = some t ∨ own t ≠ []) → Ext ι0 ι' → wpAny P .any ops Q fuel (listed.setIfInBounds x.1 true) a' w' := by
        intro a' w' A' ι' E2 H2 own' g4 S' hown' hx'
        refine ih _ a' w' m (L1 ++ L2) ps _ _ _ A' ι' hsz' (hc.set hi) (fun k hk => ?_) (fun y hy => hLm y (by simp at hy ⊢; rcases hy with h | h; exact .inl h; exact .inr (.inr h))) hm ?_ (by simp at hf ⊢; omega) hbr ⟨E1, H1, by simpa [List.map_map, Function.comp_def] using g4, h2⟩ (fun y hy => hds y (by simp at hy ⊢; rcases hy with h | h; exact .inl h; exact .inr (.inr h))) ?_ S' (fun t ht => ?_) hx'
        · rw [hlisted' k hk, hul k hk]
          constructor
          · rintro ⟨hne, h | h⟩
            · left
              obtain ⟨y, hy, rfl⟩ := List.mem_map.1 h
              refine List.mem_map.2 ⟨y, ?_, rfl⟩
              simp at hy ⊢
              rcases hy with h | h | h
              · exact .inl h
              · exact (hne (by rw [h])).elim
              · exact .inr h
            · exact .inr h
          · rintro (h | h)
            · obtain ⟨y, hy, rfl⟩ := List.mem_map.1 h
              simp at hy
              rcases hy with hy | hy
              · have := hasc'.2.2 y hy x (by simp)
                exact ⟨by omega, .inl (List.mem_map.2 ⟨y, by simp [hy], rfl⟩)⟩
              · have := (List.pairwise_cons.1 hasc'.2.1).1 y hy
                exact ⟨by omega, .inl (List.mem_map.2 ⟨y, by simp [hy], rfl⟩)⟩
            · have := hLm x (by simp)
              exact ⟨by omega, .inr h⟩
        · exact List.pairwise_append.2 ⟨hasc'.1, (List.pairwise_cons.1 hasc'.2.1).2, fun y hy z hz => hasc'.2.2 y hy z (by simp [hz])⟩
        · exact List.pairwise_append.2 ⟨hpw'.1, (List.pairwise_cons.1 hpw'.2.1).2, fun y hy z hz => hpw'.2.2 y hy z (by simp [hz])⟩
        · rcases hown' t ht with hd | hd
          · exact hds x (by simp) t hd
          · exact hown t hd
      rcases hb with ⟨hcl, ⟨d, e, u⟩, g1, g2, g4⟩ | ⟨hcl, d, H2, g0, g1, g2, g4⟩
      · refine wpOp_of ho (stepX_sound hr hcomp S g1 hnum fun a' w' A' O S' => ?_)
        refine next g4 S' (fun t ht => ?_) hx
        unfold put1 at ht
        split at ht
        · rename_i hd; exact .inl hd
        · split at ht
          · exact (ht rfl).elim
          · exact .inr ht
      · refine wpOp_of ho (stepW_sound hcw hcomp S hcl g0 g1 hnum fun a' w' A' ι' S' x' => ?_)
        refine next g4 S' (fun t ht => ?_) (hx.trans x')
        unfold put1 at ht
        split at ht
        · exact (ht rfl).elim
        · exact .inr ht
    · -- the one that all others wait for
      have hge : m ≤ i := by
        rcases (hul i hilt).1 hiu with h | h
        · exact (hmem h).elim
        · exact h
      have him : i = m := by
        rcases Nat.lt_or_ge m i with h | h
        · exact (notlater h).elim
        · omega
      subst him
      have hL : L = [] := by
        cases L with
        | nil => rfl
        | cons x L =>
          exfalso
          have hxm := hLm x (by simp)
          have h1 := (D.bar i (hbr hilt) x.1 (by omega)).1 hxm
          exact unl hsz (by omega) ((hul x.1 (by omega)).2 (.inl (by simp))) (hbef x.1 h1)
      subst hL
      obtain ⟨E1, H1, h1, h2⟩ := hrun
      obtain ⟨hE, rfl⟩ := h1
      rcases h2 with ⟨he, _⟩ | ⟨_, E2, H2, h3, h4⟩
      · have := D.len; omega
      · obtain ⟨ι1, own1, S1, h', x1⟩ := (S.lk hE).settle ps
        have : own1 = no := settled_no h' hown
        subst this
        refine wpOp_of ho (stepO_sound hr hcw hcomp S1 h3 hnum fun a' w' A' ι' S' x' => ?_)
        obtain ⟨m', L', ps', k1, k2, k3, _, _⟩ := seg_of (i + 1) (C.drop (i + 1)) (i + 1) [] [] E2 H2 rfl (by have := D.len; omega) (Nat.le_refl _) (by simp) h4
        have hLlen : L'.length = m' - (i + 1) := by have := congrArg List.length k2; simpa using this
        have hmem' : ∀ k, k ∈ L'.map (·.1) ↔ i + 1 ≤ k ∧ k < m' := by intro k; rw [k2, List.mem_range'_1]; omega
        refine ih _ a' w' m' L' ps' E2 H2 no A' ι' hsz' (hc.set hi) (fun k hk => ?_) (fun y hy => ((hmem' y.1).1 (List.mem_map.2 ⟨y, hy, rfl⟩)).2) (by have := k3.le; have := D.len; omega) ?_ (by simp at hf; have := k3.le; have := D.len; omega) (fun h => k3.br (by have := D.len; omega)) k3.run k3.ds k3.pw S' (fun t ht => (ht rfl).elim) ((hx.trans x1).trans x')
        · rw [hlisted' k hk, hul k hk, hmem']
          simp only [List.map_nil, List.not_mem_nil, false_or]
          omega
        · have := List.pairwise_lt_range' (s := i + 1) (n := m' - (i + 1)) (step := 1)
          rw [← k2, List.pairwise_map] at this
          exact this
end
end Lg
