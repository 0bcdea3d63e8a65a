import Derived.Test.YtadipapkdjcnbaaGreatDoorLgQu
/-
  What is made of numbers: any event.
-/
namespace Go.Proofs.YtadipapkdjcnbaaGreatDoor.LgTab
open Go Lg
set_option linter.unusedVariables false
set_option linter.unusedSimpArgs false
set_option maxRecDepth 8000
/-- What comes is an event. -/
def GoodE (o : Option (D × List D)) : Prop := ∃ e : Ev, o = some (evD e, []) ∧ (∀ n, n ∈ e.par → -1 ≤ n ∧ n ≤ 60) ∧ e.par.length ≤ 5
theorem good_sn (kind rune priv inter fin : Int) (text : List UInt8) : GoodE (some (.agg [I kind, R rune, U priv, U inter, U fin, .sn, .sc (.string ⟨⟨text⟩⟩)], [])) := ⟨⟨kind, rune, priv, inter, fin, none, text⟩, rfl, by intro n hn; exact absurd hn (List.not_mem_nil), Nat.zero_le _⟩
theorem good_sl (kind rune priv inter fin : Int) (text : List UInt8) (l : List Int) (hl : (∀ n, n ∈ l → -1 ≤ n ∧ n ≤ 60) ∧ l.length ≤ 5) : GoodE (some (.agg [I kind, R rune, U priv, U inter, U fin, .sl 1 (l.map I), .sc (.string ⟨⟨text⟩⟩)], [])) := ⟨⟨kind, rune, priv, inter, fin, some l, text⟩, rfl, hl⟩
theorem bytesOf_U : ∀ l : List Int, (∀ n, n ∈ l → 0 ≤ n ∧ n < 256) → ∃ bs, bytesOfD (l.map U) = some bs
  | [], _ => ⟨[], rfl⟩
  | n :: l, h => by
    obtain ⟨bs, hb⟩ := bytesOf_U l (fun x hx => h x (by simp [hx]))
    have h1 := h n (by simp)
    exact ⟨UInt8.ofNat n.toNat :: bs, by simp [bytesOfD, u8OfD, hb, h1]⟩
theorem lit_get {α : Type} (l : List α) (w : Int) (h : 0 ≤ w) (h2 : w.toNat < l.length) : ∃ x, l[w.toNat]? = some x := ⟨l[w.toNat], List.getElem?_eq_getElem h2⟩
set_option maxHeartbeats 4000000 in
theorem sp63 (k : Nat) (kd rn fn : Int) (ps : List Int) (tx : List Int) (htx : ∀ c, c ∈ tx → 0 ≤ c ∧ c ≤ 255) : GoodE (evFun (clOf (modsR tab (k + 1)) 3) s63 [.agg [I kd, I rn, I fn, .sl 1 (ps.map I), .sl 1 (tx.map U)]]) := by
  rw [evFun_evB rfl]
  unfold s63
  obtain ⟨q, hq⟩ : ∃ q, q = 0 + kd % (5 - 0 + 1) := ⟨_, rfl⟩
  have wq := sp174c k kd 0 5 (by omega) (by omega) (by omega) q hq
  have bq : 0 ≤ q ∧ q ≤ 5 := by omega
  clear hq
  have hc : q = 0 ∨ q = 1 ∨ q = 2 ∨ q = 3 ∨ ¬ (q = 0 ∨ q = 1 ∨ q = 2 ∨ q = 3) := by omega
  rcases hc with rfl | rfl | rfl | rfl | hc
  · obtain ⟨n, hn⟩ : ∃ n, n = 0 + rn % (94 - 0 + 1) := ⟨_, rfl⟩
    have wn := sp174c k rn 0 94 (by omega) (by omega) (by omega) n hn
    obtain ⟨w, hw⟩ : ∃ w, w = 0 + fn % (5 - 0 + 1) := ⟨_, rfl⟩
    have ww := sp174c k fn 0 5 (by omega) (by omega) (by omega) w hw
    have hc : w = 0 ∨ w = 1 ∨ w = 2 ∨ w = 3 ∨ w = 4 ∨ w = 5 := by omega
    clear hn hw
    by_cases h7 : rn.tmod 7 = 3
    · rcases hc with rfl | rfl | rfl | rfl | rfl | rfl <;> simp -implicitDefEqProofs [cw174, binD_rem, wq, wn, ww, h7] <;> exact good_sn _ _ _ _ _ _
    · simp -implicitDefEqProofs [cw174, binD_rem, wq, wn, h7]
      exact good_sn _ _ _ _ _ _
  · obtain ⟨w, hw⟩ : ∃ w, w = 0 + fn % (8 - 0 + 1) := ⟨_, rfl⟩
    have ww := sp174c k fn 0 8 (by omega) (by omega) (by omega) w hw
    have hc : w = 0 ∨ w = 1 ∨ w = 2 ∨ w = 3 ∨ w = 4 ∨ w = 5 ∨ w = 6 ∨ w = 7 ∨ w = 8 := by omega
    clear hw
    rcases hc with rfl | rfl | rfl | rfl | rfl | rfl | rfl | rfl | rfl <;> simp -implicitDefEqProofs [cw174, binD_rem, wq, ww] <;> exact good_sn _ _ _ _ _ _
  · obtain ⟨w, hw⟩ : ∃ w, w = 0 + fn % (9 - 0 + 1) := ⟨_, rfl⟩
    have ww := sp174c k fn 0 9 (by omega) (by omega) (by omega) w hw
    have hc : w = 0 ∨ w = 1 ∨ w = 2 ∨ w = 3 ∨ w = 4 ∨ w = 5 ∨ w = 6 ∨ w = 7 ∨ w = 8 ∨ w = 9 := by omega
    clear hw
    rcases hc with rfl | rfl | rfl | rfl | rfl | rfl | rfl | rfl | rfl | rfl <;> simp -implicitDefEqProofs [cw174, binD_rem, wq, ww] <;> exact good_sn _ _ _ _ _ _
  · simp -implicitDefEqProofs [cw174, binD_rem, wq]
    obtain ⟨L, hL⟩ : ∃ L, L = tx.map fun c => 32 + c % 224 := ⟨_, rfl⟩
    have lL : L.length = tx.length := by simp [hL]
    obtain ⟨M, hM⟩ : ∃ M, M = min tx.length 20 := ⟨_, rfl⟩
    have bL : ∀ n, n ∈ L → 0 ≤ n ∧ n < 256 := by
      intro n hn
      rw [hL, List.mem_map] at hn
      obtain ⟨c, _, rfl⟩ := hn
      omega
    refine evB_forP (fun i => [I i, .obx [I kd, I rn, I fn, .sl 1 (ps.map I), .sl 1 (tx.map U)], .obx [I 0, R 0, U 0, U 0, U 0, .sn, D.str []], .osl true 1 ((L.take i).map U)]) M (.exit 1)
      [I M, .obx [I kd, I rn, I fn, .sl 1 (ps.map I), .sl 1 (tx.map U)], .obx [I 0, R 0, U 0, U 0, U 0, .sn, D.str []], .osl true 1 ((L.take M).map U)] ?_ (fun i hi => ?_) ?_ (by simp) (by simp [rounds]; omega) ?_
    · simp -implicitDefEqProofs []
    · have i1 : i < tx.length := by omega
      have i2 : i < 20 := by omega
      have hx : tx[i]? = some tx[i] := List.getElem?_eq_getElem i1
      have hc := htx tx[i] (List.getElem_mem i1)
      obtain ⟨c, hcc⟩ : ∃ c, c = tx[i] := ⟨_, rfl⟩
      rw [← hcc] at hx hc
      have hy : L[i]? = some (32 + c % 224) := by rw [hL, List.getElem?_map, hx]; rfl
      have hs : (L.take (i + 1)).map U = (L.take i).map U ++ [U (32 + c % 224)] := by rw [take_snoc hy, List.map_append]; rfl
      rw [hs]
      have lT : ((L.take i).map U).length = i := by simp; omega
      generalize (L.take i).map U = T at *
      have tT : T.take i = T := List.take_of_length_le (by omega)
      have e3 : wr ((i : Int) + 1) = (i : Int) + 1 := wr_id _ (by omega) (by omega)
      have e4 : IntKind.i64.wrap c = c := wrap_id _ (by omega) (by omega)
      have e5 : IntKind.u8.wrap (32 + c % 224) = 32 + c % 224 := wrap_u8 _ (by omega) (by omega)
      have w1 := sp174c k c 32 255 (by omega) (by omega) (by omega) (32 + c % 224) (by omega)
      have b1 : i ≤ 140737488355327 := by omega
      have i3 : (i : Int) < 20 := by omega
      have hcs : tx[i] = c := hcc.symm
      simp -implicitDefEqProofs [cw174, i1, i2, i3, hx, hcs, lT, tT, e3, e4, e5, w1, b1]
    · by_cases h1 : M < tx.length
      · have h2 : ¬ (M : Int) < 20 := by omega
        simp -implicitDefEqProofs [h1, h2]
      · simp -implicitDefEqProofs [h1]
    obtain ⟨bs, hb⟩ := bytesOf_U (L.take M) (fun n hn => bL n (List.mem_of_mem_take hn))
    have lT : ((L.take M).map U).length = M := by simp; omega
    generalize (L.take M).map U = T at *
    have tT : T.take M = T := List.take_of_length_le (by omega)
    simp -implicitDefEqProofs [lT, hb, tT]
    exact good_sn _ _ _ _ _ _
  · obtain ⟨h0, h1, h2, h3⟩ : ¬ q = 0 ∧ ¬ q = 1 ∧ ¬ q = 2 ∧ ¬ q = 3 := by omega
    obtain ⟨w, hw⟩ : ∃ w, w = 0 + fn % (22 - 0 + 1) := ⟨_, rfl⟩
    have ww := sp174c k fn 0 22 (by omega) (by omega) (by omega) w hw
    have bw : 0 ≤ w ∧ w ≤ 22 := by omega
    clear hw
    obtain ⟨c, hc⟩ := lit_get ([72, 65, 66, 67, 68, 71, 100, 74, 75, 76, 77, 80, 88, 64, 83, 84, 114, 109, 104, 108, 110, 99, 115] : List UInt8) w bw.1 (by simp; omega)
    simp -implicitDefEqProofs [cw174, binD_rem, wq, ww, h0, h1, h2, h3, bw, hc]
    obtain ⟨L, hL⟩ : ∃ L, L = ps.map fun c => -1 + c % 62 := ⟨_, rfl⟩
    have lL : L.length = ps.length := by simp [hL]
    obtain ⟨M, hM⟩ : ∃ M, M = min ps.length 5 := ⟨_, rfl⟩
    obtain ⟨X, hX⟩ : ∃ X : Nat → D, X = fun i => if i = 0 then .sn else .osl true 1 ((L.take i).map I) := ⟨_, rfl⟩
    have X0 : X 0 = .sn := by rw [hX]; rfl
    refine evB_forP (fun i => [I i, .obx [I kd, I rn, I fn, .sl 1 (ps.map I), .sl 1 (tx.map U)], .obx [I 0, R 0, U 0, U 0, U 0, .sn, D.str []], .obx [I 4, R 0, U 0, U 0, U c.toNat, X i, D.str []]]) M (.exit 3)
      [I M, .obx [I kd, I rn, I fn, .sl 1 (ps.map I), .sl 1 (tx.map U)], .obx [I 0, R 0, U 0, U 0, U 0, .sn, D.str []], .obx [I 4, R 0, U 0, U 0, U c.toNat, X M, D.str []]] ?_ (fun i hi => ?_) ?_ (by simp) (by simp [rounds]; omega) ?_
    · simp -implicitDefEqProofs [X0]
    · have i1 : i < ps.length := by omega
      have i2 : i < 5 := by omega
      have hx : ps[i]? = some ps[i] := List.getElem?_eq_getElem i1
      obtain ⟨v, hcc⟩ : ∃ v, v = ps[i] := ⟨_, rfl⟩
      rw [← hcc] at hx
      have hy : L[i]? = some (-1 + v % 62) := by rw [hL, List.getElem?_map, hx]; rfl
      have hs : (L.take (i + 1)).map I = (L.take i).map I ++ [I (-1 + v % 62)] := by rw [take_snoc hy, List.map_append]; rfl
      have hX1 : X (i + 1) = .osl true 1 ((L.take i).map I ++ [I (-1 + v % 62)]) := by rw [hX, ← hs]; rfl
      have e3 : wr ((i : Int) + 1) = (i : Int) + 1 := wr_id _ (by omega) (by omega)
      have w1 := sp174c k v (-1) 60 (by omega) (by omega) (by omega) (-1 + v % 62) rfl
      have b1 : i ≤ 17592186044415 := by omega
      have b2 : (i + 1) * 8 ≤ 140737488355328 := by omega
      by_cases hi0 : i = 0
      · subst hi0
        have hX1' : X 1 = .osl true 1 [I (-1 + v % 62)] := hX1
        have w0 : wr 1 = 1 := wr_id _ (by omega) (by omega)
        have hcs : ps[0] = v := hcc.symm
        simp -implicitDefEqProofs [cr174, X0, hX1', hx, hcs, w1, i1, w0]
      · have i3 : (i : Int) < 5 := by omega
        have hcs : ps[i] = v := hcc.symm
        have hXi : X i = .osl true 1 ((L.take i).map I) := by rw [hX]; simp [hi0]
        have lT : ((L.take i).map I).length = i := by simp; omega
        generalize (L.take i).map I = T at *
        have tT : T.take i = T := List.take_of_length_le (by omega)
        simp -implicitDefEqProofs [cr174, hXi, hX1, i1, i2, i3, hx, hcs, lT, tT, e3, w1, b1, b2]
    · by_cases hM0 : M = 0
      · have h1 : ¬ M < ps.length := by omega
        subst hM0
        have h1' : ¬ 0 < ps.length := h1
        simp -implicitDefEqProofs [X0, h1']
      · have hXM : X M = .osl true 1 ((L.take M).map I) := by rw [hX]; simp [hM0]
        have lT : ((L.take M).map I).length = M := by simp; omega
        generalize (L.take M).map I = T at *
        by_cases h1 : M < ps.length
        · have h2 : ¬ (M : Int) < 5 := by omega
          simp -implicitDefEqProofs [hXM, h1, h2, lT]
        · simp -implicitDefEqProofs [hXM, h1, lT]
    by_cases hM0 : M = 0
    · subst hM0
      clear hX hM lL hL htx
      simp -implicitDefEqProofs [X0]
      repeat' (split <;> try simp -implicitDefEqProofs [*])
      all_goals exact good_sn _ _ _ _ _ _
    · have hne : ∃ a r, L.take M = a :: r := by
        cases hT : L.take M with
        | nil => have := congrArg List.length hT; rw [List.length_take, List.length_nil] at this; omega
        | cons a r => exact ⟨a, r, rfl⟩
      obtain ⟨a, r, har⟩ := hne
      have hXM : X M = .osl true 1 (I a :: r.map I) := by rw [hX]; simp [hM0, har]
      have hbd : (∀ n, n ∈ a :: r → -1 ≤ n ∧ n ≤ 60) ∧ (a :: r).length ≤ 5 := by
        refine ⟨fun n hn => ?_, by rw [← har, List.length_take]; omega⟩
        rw [← har] at hn
        have := List.mem_of_mem_take hn
        rw [hL, List.mem_map] at this
        obtain ⟨c, _, rfl⟩ := this
        omega
      clear hX X0 hM lL hL htx har
      have hbd' : Go.RowKit.Hid ((∀ n, n ∈ a :: r → -1 ≤ n ∧ n ≤ 60) ∧ (a :: r).length ≤ 5) := hbd
      clear hbd
      have tr : List.take r.length (List.map I r) = List.map I r := List.take_of_length_le (by simp)
      simp -implicitDefEqProofs [hXM, tr]
      repeat' (split <;> try simp -implicitDefEqProofs [*])
      all_goals first | exact good_sn _ _ _ _ _ _ | exact good_sl _ _ _ _ _ _ (a :: r) hbd'.out

end Go.Proofs.YtadipapkdjcnbaaGreatDoor.LgTab
