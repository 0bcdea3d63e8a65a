import Derived.Test.YtadipapkdjcnbaaGreatLgXf
/-
  TargetOld: its law.
-/
namespace Go.Proofs.YtadipapkdjcnbaaGreat.LgTab
open Go Lg
set_option linter.unusedVariables false
set_option linter.unusedSimpArgs false
set_option maxRecDepth 8000
/-- Where the cursor goes. -/
def stepP (n : Int) (p : Int × Int) : Int × Int := if n = 0 then (mxI (p.1 - 1) 0, p.2) else if n = 1 then (mnI (p.1 + 1) 4, p.2) else if n = 2 then (p.1, mnI (p.2 + 1) 8) else (p.1, mxI (p.2 - 1) 0)
def posN (ks : List Int) (p : Int × Int) : Nat → Int × Int
  | 0 => p
  | i + 1 => stepP (ks.getD i 0) (posN ks p i)
def inP (p : Int × Int) : Prop := (0 ≤ p.1 ∧ p.1 ≤ 4) ∧ (0 ≤ p.2 ∧ p.2 ≤ 8)
theorem step_in (n : Int) {p : Int × Int} (h : inP p) : inP (stepP n p) := by
  obtain ⟨h1, h2⟩ := h
  unfold stepP inP mxI mnI
  repeat' split
  all_goals (simp only; omega)
theorem pos_in (ks : List Int) {p : Int × Int} (h : inP p) : ∀ i, inP (posN ks p i)
  | 0 => h
  | i + 1 => step_in _ (pos_in ks h i)
set_option maxHeartbeats 8000000 in
theorem sp207 (k : Nat) (r0 c0 : Int) (l : List Int) (hb : ∀ b, b ∈ l → 0 ≤ b ∧ b ≤ 255) (w209 : evFun (clOf (modsR tab (k + 14)) 3) s209 [] = some (B true, [])) : evFun (clOf (modsR tab (k + 15)) 3) s207 [I r0, I c0, .sl 1 (l.map U)] = some (B true, []) := by
  obtain ⟨y, hy⟩ : ∃ q, q = 0 + r0 % (90 - 0 + 1) := ⟨_, rfl⟩
  have wy := fun q => sp174c q r0 0 90 (by omega) (by omega) (by omega) y hy
  have by_ : 0 ≤ y ∧ y ≤ 90 := by omega
  clear hy
  obtain ⟨x, hx⟩ : ∃ q, q = 0 + c0 % (90 - 0 + 1) := ⟨_, rfl⟩
  have wx := fun q => sp174c q c0 0 90 (by omega) (by omega) (by omega) x hx
  have bx_ : 0 ≤ x ∧ x ≤ 90 := by omega
  clear hx
  have w424 := fun q => sp424 q
  have okO := fun (r c : Int) (hr : 0 ≤ r ∧ r ≤ 4) (hc : 0 ≤ c ∧ c ≤ 8) => oldS_ok hr hc
  have rowO : ∀ r c : Int, (oldS r c).row = r := fun r c => rfl
  have colO : ∀ r c : Int, (oldS r c).col = c := fun r c => rfl
  have fl := fun (q : Nat) (r c b : Int) (S' : Sc) (hr : 0 ≤ r ∧ r ≤ 4) (hc : 0 ≤ c ∧ c ≤ 8) (h1 : b ≠ 73) (h2 : b ≠ 89) (hk : knownE (escE b)) (h : doS (oldS r c) (csiN b) = S') => feed_move q r c y b S' hr hc h1 h2 hk h
  have mA := fun (r c : Int) (hr : 0 ≤ r ∧ r ≤ 4) (hc : 0 ≤ c ∧ c ≤ 8) => old_A hr hc
  have mB := fun (r c : Int) (hr : 0 ≤ r ∧ r ≤ 4) (hc : 0 ≤ c ∧ c ≤ 8) => old_B hr hc
  have mC := fun (r c : Int) (hr : 0 ≤ r ∧ r ≤ 4) (hc : 0 ≤ c ∧ c ≤ 8) => old_C hr hc
  have mD := fun (r c : Int) (hr : 0 ≤ r ∧ r ≤ 4) (hc : 0 ≤ c ∧ c ≤ 8) => old_D hr hc
  have v1 := fun q => feed_place q y x by_ bx_
  have fL := fun (q : Nat) (r c : Int) (hr : 0 ≤ r ∧ r ≤ 4) (hc : 0 ≤ c ∧ c ≤ 8) => feed_last q r c y hr hc
  have oL : OkS lastS := allN_ok (oldS_ok (by omega) (by omega)) lastE 12
  have v3 := fun q => sp34 q lastS oL 0 y 0
  have v4 := fun q => sp33 q lastS 0 y 0
  have tr := last_row
  have tc := last_col
  have tt := last_text
  generalize lastS = SL at *
  generalize oldS = OS at *
  have p0 : inP (mnI y 4, mnI x 8) := by
    unfold inP mnI
    simp only
    repeat' split
    all_goals omega
  have oP := okO _ _ p0.1 p0.2
  have v2 := fun q => sp34 q _ oP 0 y 0
  have r1 := rowO (mnI y 4) (mnI x 8)
  have c1 := colO (mnI y 4) (mnI x 8)
  have e1 : wr (32 + y) = 32 + y := wr_id _ (by omega) (by omega)
  have e2 : wr (32 + x) = 32 + x := wr_id _ (by omega) (by omega)
  have e3 : IntKind.u8.wrap (32 + y) = 32 + y := wrap_u8 _ (by omega) (by omega)
  have e4 : IntKind.u8.wrap (32 + x) = 32 + x := wrap_u8 _ (by omega) (by omega)
  obtain ⟨ks, hks⟩ : ∃ ks : List Int, ks = l.map fun b => 0 + b % (3 - 0 + 1) := ⟨_, rfl⟩
  have pI := pos_in ks p0
  have pz : posN ks (mnI y 4, mnI x 8) 0 = (mnI y 4, mnI x 8) := rfl
  have ps : ∀ i, posN ks (mnI y 4, mnI x 8) (i + 1) = stepP (ks.getD i 0) (posN ks (mnI y 4, mnI x 8) i) := fun i => rfl
  generalize hR : (mnI y 4) = R0 at *
  generalize hC : (mnI x 8) = C0 at *
  obtain ⟨P, hP⟩ : ∃ P : Nat → Int × Int, P = posN ks (R0, C0) := ⟨_, rfl⟩
  rw [← hP] at pI pz ps
  clear hP
  obtain ⟨N, hN⟩ : ∃ N, N = min l.length 20 := ⟨_, rfl⟩
  have vL := fun q => fL q (P N).1 (P N).2 (pI N).1 (pI N).2
  clear fL
  generalize hO : OS R0 C0 = O0 at *
  rw [evFun_evB rfl]
  unfold s207
  simp -implicitDefEqProofs [cw424, cr424, w424, cw174, cr174, wy, wx, e1, e2, e3, e4, cw30, cr30, v1, cw34, cr34, v2, hR, hC, eq_true r1, eq_true c1]
  refine evB_for (fun i => [.sl 1 (l.map U), B false, I (P i).1, I (P i).2, I i, .obx (tmL (OS (P i).1 (P i).2) 0 y 0)]) N (.exit 0) [.sl 1 (l.map U), B false, I (P N).1, I (P N).2, I N, .obx (tmL (OS (P N).1 (P N).2) 0 y 0)] ?_ (fun i hi => ?_) ?_ (by simp) (by simp [rounds]; omega) ?_
  · simp -implicitDefEqProofs [pz, hO]
  · have i1 : i < l.length := by omega
    have i2 : (i : Int) < 20 := by omega
    have i3 : (i : Int) < l.length := by omega
    obtain ⟨b, hbx⟩ := get_ex i1
    have hbb := hb b (List.mem_of_getElem? hbx)
    have hg : ∀ h', (l.map U)[i]'h' = U b := get_of (by rw [List.getElem?_map, hbx]; rfl)
    have hkx : ks[i]? = some (0 + b % (3 - 0 + 1)) := by rw [hks, List.getElem?_map, hbx]; rfl
    obtain ⟨q0, hq0⟩ : ∃ q0, q0 = 0 + b % (3 - 0 + 1) := ⟨_, rfl⟩
    have wq := fun q => sp174c q b 0 3 (by omega) (by omega) (by omega) q0 hq0
    rw [← hq0] at hkx
    have hd : ks.getD i 0 = q0 := by rw [List.getD_eq_getElem?_getD, hkx]; rfl
    have eb : IntKind.i64.wrap b = b := wrap_id _ (by omega) (by omega)
    have hcase : q0 = 0 ∨ q0 = 1 ∨ q0 = 2 ∨ q0 = 3 := by omega
    have pi := pI i
    have es := ps i
    rw [hd] at es
    have pj := pI (i + 1)
    rw [es] at pj
    rw [es]
    have hl : (l.map U).length = l.length := by simp
    generalize P i = p at *
    obtain ⟨r, c⟩ := p
    obtain ⟨hr, hc⟩ := pi
    simp only at hr hc
    generalize l.map U = L at *
    clear hq0 hkx es v1 v2 vL
    have ei : wr ((i : Int) + 1) = (i : Int) + 1 := wr_id _ (by omega) (by omega)
    rcases hcase with rfl | rfl | rfl | rfl
    · have f := fun q => fl q r c 65 _ hr hc (by omega) (by omega) known_A (mA _ _ hr hc)
      have e5 : wr (r - 1) = r - 1 := wr_id _ (by omega) (by omega)
      simp only [stepP, if_true] at pj ⊢
      obtain ⟨h5, h6⟩ := pj
      simp only at h5 h6
      have oo := okO _ _ h5 h6
      have f2 := fun q => sp34 q _ oo 0 y 0
      have g1 := rowO (mxI (r - 1) 0) c
      have g2 := colO (mxI (r - 1) 0) c
      generalize OS (mxI (r - 1) 0) c = S' at *
      generalize OS r c = S0 at *
      simp -implicitDefEqProofs [i1, i2, i3, hl, hg, eb, cw174, cr174, wq, e5, cw30, cr30, f, cw34, cr34, f2, eq_true g1, eq_true g2, ei]
    · have f := fun q => fl q r c 66 _ hr hc (by omega) (by omega) known_B (mB _ _ hr hc)
      have e5 : wr (r + 1) = r + 1 := wr_id _ (by omega) (by omega)
      simp only [stepP, show ¬ (1 : Int) = 0 by decide, if_true, if_false] at pj ⊢
      obtain ⟨h5, h6⟩ := pj
      simp only at h5 h6
      have oo := okO _ _ h5 h6
      have f2 := fun q => sp34 q _ oo 0 y 0
      have g1 := rowO (mnI (r + 1) 4) c
      have g2 := colO (mnI (r + 1) 4) c
      generalize OS (mnI (r + 1) 4) c = S' at *
      generalize OS r c = S0 at *
      simp -implicitDefEqProofs [i1, i2, i3, hl, hg, eb, cw174, cr174, wq, e5, cw30, cr30, f, cw34, cr34, f2, eq_true g1, eq_true g2, ei]
    · have f := fun q => fl q r c 67 _ hr hc (by omega) (by omega) known_C (mC _ _ hr hc)
      have e5 : wr (c + 1) = c + 1 := wr_id _ (by omega) (by omega)
      simp only [stepP, show ¬ (2 : Int) = 0 by decide, show ¬ (2 : Int) = 1 by decide, if_true, if_false] at pj ⊢
      obtain ⟨h5, h6⟩ := pj
      simp only at h5 h6
      have oo := okO _ _ h5 h6
      have f2 := fun q => sp34 q _ oo 0 y 0
      have g1 := rowO r (mnI (c + 1) 8)
      have g2 := colO r (mnI (c + 1) 8)
      generalize OS r (mnI (c + 1) 8) = S' at *
      generalize OS r c = S0 at *
      simp -implicitDefEqProofs [i1, i2, i3, hl, hg, eb, cw174, cr174, wq, e5, cw30, cr30, f, cw34, cr34, f2, eq_true g1, eq_true g2, ei]
    · have f := fun q => fl q r c 68 _ hr hc (by omega) (by omega) known_D (mD _ _ hr hc)
      have e5 : wr (c - 1) = c - 1 := wr_id _ (by omega) (by omega)
      simp only [stepP, show ¬ (3 : Int) = 0 by decide, show ¬ (3 : Int) = 1 by decide, show ¬ (3 : Int) = 2 by decide, if_false] at pj ⊢
      obtain ⟨h5, h6⟩ := pj
      simp only at h5 h6
      have oo := okO _ _ h5 h6
      have f2 := fun q => sp34 q _ oo 0 y 0
      have g1 := rowO r (mxI (c - 1) 0)
      have g2 := colO r (mxI (c - 1) 0)
      generalize OS r (mxI (c - 1) 0) = S' at *
      generalize OS r c = S0 at *
      simp -implicitDefEqProofs [i1, i2, i3, hl, hg, eb, cw174, cr174, wq, e5, cw30, cr30, f, cw34, cr34, f2, eq_true g1, eq_true g2, ei]
  · have hl : (l.map U).length = l.length := by simp
    generalize l.map U = L at *
    generalize OS (P N).1 (P N).2 = S' at *
    by_cases h1 : (N : Int) < l.length
    · have h2 : ¬ (N : Int) < 20 := by omega
      have h1n : N < l.length := by omega
      simp -implicitDefEqProofs [hl, h1, h1n, h2]
    · have h1n : ¬ N < l.length := by omega
      simp -implicitDefEqProofs [hl, h1, h1n]
  · generalize OS (P N).1 (P N).2 = S' at *
    have ss := same_str [49, 50, 51, 52, 53, 54, 55, 56, 122] [49, 50, 51, 52, 53, 54, 55, 56, 122] rfl
    simp -implicitDefEqProofs [cw30, cr30, vL, cw34, cr34, v3, cw156, cr156, tt, ss, eq_true tr, eq_true tc, cw33, cr33, v4, cw209, cr209, w209]
end Go.Proofs.YtadipapkdjcnbaaGreat.LgTab
