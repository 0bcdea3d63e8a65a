import Derived.Test.YtadipapkdjcnbaaGreatDoorLgTb
import Derived.Test.YtadipapkdjcnbaaGreatDoorLgAl
import Derived.Test.YtadipapkdjcnbaaGreatDoorLgQw
/-
  All events done, and all answers; ReplyAll: its law.
-/
namespace Go.Proofs.YtadipapkdjcnbaaGreatDoor.LgTab
open Go Lg
set_option linter.unusedVariables false
set_option linter.unusedSimpArgs false
set_option maxRecDepth 8000
theorem bytesD_len (l : List UInt8) : (bytesD l).length = l.length := by simp [bytesD]
theorem bytesD_app (a b : List UInt8) : bytesD a ++ bytesD b = bytesD (a ++ b) := by simp [bytesD]
theorem bytesD_take (l : List UInt8) : (bytesD l).take l.length = bytesD l := List.take_of_length_le (by rw [bytesD_len]; exact Nat.le_refl _)
theorem bytesD_ro : ∀ l : List UInt8, isROs (bytesD l) = true
  | [] => rfl
  | b :: l => by
    have ih := bytesD_ro l
    unfold bytesD at ih ⊢
    simp [isROs, isRO, ih]
/-- The answers to the first so many. -/
noncomputable def catN (s : Sc) (l : List Ev) : Nat → List UInt8
  | 0 => []
  | i + 1 => catN s l i ++ ((l[i]?).map (toL (allN s l i))).getD []
theorem catN_0 (s : Sc) (l : List Ev) : catN s l 0 = [] := rfl
theorem catN_snoc (s : Sc) {l : List Ev} {i : Nat} {e : Ev} (h : l[i]? = some e) : catN s l (i + 1) = catN s l i ++ toL (allN s l i) e := by
  show catN s l i ++ ((l[i]?).map (toL (allN s l i))).getD [] = _
  rw [h]
  rfl
theorem catN_len (s : Sc) (l : List Ev) : ∀ i, (catN s l i).length ≤ 12 * i
  | 0 => by simp [catN]
  | i + 1 => by
    have ih := catN_len s l i
    show (catN s l i ++ ((l[i]?).map (toL (allN s l i))).getD []).length ≤ _
    cases h : l[i]? with
    | none => simp; omega
    | some e =>
      have := toL_len (allN s l i) e
      simp
      omega
theorem sp399n (k : Nat) (s : Sc) (o : OkS s) : evFun (clOf (modsR tab (k + 9)) 3) s399 [scD s, .sn] = some (scD s, []) := by
  have w1 := fun q => sp370 q s o.g (by have := o.len; omega)
  rw [evFun_evB rfl]
  unfold s399
  simp -implicitDefEqProofs [cw370, w1]
  refine evB_for (fun i => [.sn, I 0, I 0, .obx (scL s), .obx zSc]) 0 (.exit 0) [.sn, I 0, I 0, .obx (scL s), .obx zSc] ?_ (fun i hi => by omega) ?_ (by simp) (by simp [rounds]) ?_
  · simp -implicitDefEqProofs [zSc]
  · simp -implicitDefEqProofs [zSc]
  · simp -implicitDefEqProofs [zSc]
set_option maxHeartbeats 4000000 in
theorem sp354 (k : Nat) (s : Sc) (o : OkS s) (l : List Ev) (hl : l.length ≤ 1000) (hp : ∀ e, e ∈ l → (∀ n, n ∈ e.par → -1 ≤ n ∧ n ≤ 60) ∧ e.par.length ≤ 100) : evFun (clOf (modsR tab (k + 10)) 3) s354 [scD s, .sl 7 (evsD l)] = some (.tup [scD (allS s l), .osl true 1 (bytesD (catN s l l.length))], []) := by
  have w1 := fun q => sp399n q s o
  have hlen := evsD_len l
  have h0 := allN_0 s l
  have c0 := catN_0 s l
  have b0 : bytesD [] = [] := rfl
  rw [← allN_all]
  rw [evFun_evB rfl]
  unfold s354
  simp -implicitDefEqProofs [cw399, w1, hlen]
  refine evB_for (fun i => [.sl 7 (evsD l), I l.length, I i, .obx (scL (allN s l i)), .obx zSc, .osl true 1 (bytesD (catN s l i))]) l.length (.exit 0) [.sl 7 (evsD l), I l.length, I l.length, .obx (scL (allN s l l.length)), .obx zSc, .osl true 1 (bytesD (catN s l l.length))] ?_ (fun i hi => ?_) ?_ (by simp) (by simp [rounds]; omega) ?_
  · simp -implicitDefEqProofs [h0, c0, b0, zSc]
  · obtain ⟨e, he⟩ := get_ex hi
    have hs := allN_snoc s he
    have hc := catN_snoc s he
    have oi := allN_ok o l i
    have he2 := hp e (List.mem_of_getElem? he)
    have v := fun q => sp400 q _ oi e (by omega)
    have v2 := fun q => sp356 q _ oi e he2.1
    have hg := evsD_at he
    have hlt : (i : Int) < l.length := by omega
    have l1 := catN_len s l i
    have l2 := toL_len (allN s l i) e
    rw [← hs] at v
    rw [hc]
    generalize allN s l (i + 1) = S' at *
    generalize toL (allN s l i) e = B1 at *
    generalize catN s l i = C1 at *
    generalize allN s l i = S2 at *
    generalize evsD l = L at *
    have b1 : C1.length + B1.length ≤ 140737488355328 := by omega
    have bl := bytesD_len C1
    have bl2 := bytesD_len B1
    have bt := bytesD_take C1
    have bt2 := bytesD_take B1
    have br := bytesD_ro B1
    have bp : plains (bytesD B1) = true := plains_u8 B1
    have ba := bytesD_app C1 B1
    simp -implicitDefEqProofs [hlt, hi, hg, hlen, cw356, v2, bl, bl2, bt, bt2, br, bp, b1, ba, cw400, v, wr_id ((i : Int) + 1) (by omega) (by omega), zSc]
  · generalize allN s l l.length = S'
    generalize catN s l l.length = C'
    simp -implicitDefEqProofs [zSc]
  · generalize allN s l l.length = S'
    generalize catN s l l.length = C'
    simp -implicitDefEqProofs [zSc]
set_option maxRecDepth 100000 in
theorem sp199 (k : Nat) : evFun (clOf (modsR tab (k + 9)) 3) s199 [] = some (B true, []) := by kernel_rfl
/-- The question for the cursor's place. -/
def askE : Ev := ⟨4, 0, 0, 0, 110, some [6], []⟩
/-- What is asked between, every third time. -/
noncomputable def asked (ask : Int) (es : List Ev) : List Ev := es.mapIdx fun i e => if (wr ((i : Int) + ask)).tmod 3 = 0 then askE else e
theorem asked_get {ask : Int} {es : List Ev} {i : Nat} {e : Ev} (h : es[i]? = some e) : (asked ask es)[i]? = some (if (wr ((i : Int) + ask)).tmod 3 = 0 then askE else e) := by
  unfold asked
  rw [List.getElem?_mapIdx, h]
  rfl
set_option maxHeartbeats 8000000 in
theorem sp197 (k : Nat) (a b : Int) (rs ps : List Int) (hr : rs.length ≤ 9223372036854775807) (hp : ps.length ≤ 9223372036854775807) (kr kc kt kb kf p1 p2 p3 : Int) (tabs : Nat) (ht : tabs < 2 ^ 64)
    (l : List Kev) (htx : ∀ x, x ∈ l → ∀ c, c ∈ x.tx → 0 ≤ c ∧ c ≤ 255) (ask : Int) :
    evFun (clOf (modsR tab (k + 11)) 3) s197 [.agg [I a, I b, .sl 1 (intsD rs), .sl 1 (intsD ps), I kr, I kc, I kt, I kb, I kf, I p1, I p2, I p3, T64 tabs], .sl 5 (kevsD l), I ask] = some (B true, []) := by
  obtain ⟨s, w66, o, r, h5, w9⟩ := sp66 (k + 6) a b rs ps hr hp kr kc kt kb kf p1 p2 p3 tabs ht
  obtain ⟨es, el, w63⟩ := kevs_ex (k + 9) l htx
  have hlen := kevsD_len l
  obtain ⟨N, hN⟩ : ∃ N, N = min l.length 15 := ⟨_, rfl⟩
  obtain ⟨zs, hz⟩ : ∃ zs, zs = (asked ask es).take N := ⟨_, rfl⟩
  have lz : zs.length = N := by rw [hz]; simp [asked]; omega
  have gz : ∀ i, i < N → zs[i]? = (asked ask es)[i]? := fun i hi => by rw [hz, List.getElem?_take_of_lt hi]
  have h0 := allN_0 s zs
  have c0 := catN_0 s zs
  have e0 : evsD [] = [] := rfl
  have oN := allN_ok o zs N
  have w382 := fun q => sp382 q 110 [6] (by simp) (by simp)
  simp only [List.map_cons, List.map_nil] at w382
  have hpz : ∀ e, e ∈ zs → (∀ n, n ∈ e.par → -1 ≤ n ∧ n ≤ 60) ∧ e.par.length ≤ 100 := by
    intro e he
    obtain ⟨i, hi⟩ := List.getElem?_of_mem he
    have hiN : i < N := by rw [← lz]; exact (List.getElem?_eq_some_iff.1 hi).1
    obtain ⟨x, hx⟩ := get_ex (l := l) (i := i) (by omega)
    obtain ⟨e2, he2, _, hb, hb5⟩ := w63 i x hx
    rw [gz i hiN, asked_get he2] at hi
    injection hi with hi
    rw [← hi]
    split
    · exact ⟨by intro n hn; simp [askE, Ev.par] at hn; omega, by simp [askE, Ev.par]⟩
    · exact ⟨hb, by omega⟩
  have w354 := fun q => sp354 q s o zs (by omega) hpz
  have w177 := fun q => sp177 q (allS s zs) (by rw [← allN_all]; have := (allN_ok o zs zs.length).len; omega)
  have cl := catN_len s zs N
  have hS : allN s zs N = allS s zs := by rw [← lz]; exact allN_all s zs
  have hC : catN s zs zs.length = catN s zs N := by rw [lz]
  rw [hC] at w354
  have w199 := fun q => sp199 q
  rw [evFun_evB rfl]
  unfold s197
  simp -implicitDefEqProofs [cw66, w66]
  refine evB_for (fun i => [.sl 5 (kevsD l), I ask, S (catN s zs i), I i, .obx (scL s), .obx (scL (allN s zs i)), .osl true 7 (evsD (zs.take i))]) N (.exit 0) [.sl 5 (kevsD l), I ask, S (catN s zs N), I N, .obx (scL s), .obx (scL (allN s zs N)), .osl true 7 (evsD (zs.take N))] ?_ (fun i hi => ?_) ?_ (by simp) (by simp [rounds]; omega) ?_
  · simp -implicitDefEqProofs [h0, c0, e0]
  · have i1 : i < l.length := by omega
    have i2 : (i : Int) < 15 := by omega
    have i3 : (i : Int) < l.length := by omega
    obtain ⟨x, hx⟩ := get_ex i1
    obtain ⟨e, he, wx, hb, he5⟩ := w63 i x hx
    obtain ⟨z, ez⟩ : ∃ z, z = if (wr ((i : Int) + ask)).tmod 3 = 0 then askE else e := ⟨_, rfl⟩
    have hzi : zs[i]? = some z := by rw [gz i hi, asked_get he, ez]
    have hs := allN_snoc s hzi
    have hc := catN_snoc s hzi
    have oi := allN_ok o zs i
    have hz2 := hpz z (List.mem_of_getElem? hzi)
    have v := fun q => sp400 q _ oi z (by omega)
    have v2 := fun q => sp356 q _ oi z hz2.1
    have hg := kevsD_at hx
    have l1 := catN_len s zs i
    have l2 := toL_len (allN s zs i) z
    have et : evsD (zs.take (i + 1)) = evsD (zs.take i) ++ [evD z] := by rw [take_snoc hzi]; simp [evsD]
    have lt : (evsD (zs.take i)).length = i := by rw [evsD_len, List.length_take]; omega
    have tt : (evsD (zs.take i)).take i = evsD (zs.take i) := List.take_of_length_le (by omega)
    have b1 : i ≤ 2513169434915 := by omega
    have b2 : (i + 1) * 56 ≤ 140737488355328 := by omega
    have b3 : i + 1 ≤ 2513169434916 := by omega
    rw [← hs] at v
    rw [hc, et]
    have r1 := isROs_I x.ps
    have r2 := isROs_U x.tx
    clear w63 w66 w354 w177 hS hC cl hpz
    generalize allN s zs (i + 1) = S' at *
    generalize toL (allN s zs i) z = B1 at *
    generalize catN s zs i = C1 at *
    generalize allN s zs i = S2 at *
    generalize evsD (zs.take i) = E1 at *
    generalize kevsD l = L at *
    have cc := cat_ok C1 B1 (C1 ++ B1) (by omega) rfl
    have bo := bytesOf_u8 B1
    have bp := bytesD_ro B1
    have bpl : plains (bytesD B1) = true := plains_u8 B1
    have bl2 := bytesD_len B1
    have bt2 := bytesD_take B1
    have bb : bytesOfD (bytesD B1) = some B1 := bo
    by_cases hq : (wr ((i : Int) + ask)).tmod 3 = 0
    · rw [if_pos hq] at ez
      subst ez
      simp only [askE, evD, evL, parD, intsD, List.map_cons, List.map_nil] at v v2 ⊢
      simp -implicitDefEqProofs [i1, i2, i3, hg, hlen, cw63, cr63, wx, r1, r2, binD_rem, hq, cw382, cr382, w382, lt, tt, b1, b2, b3, cw356, cr356, v2, bb, bp, bpl, bl2, bt2, cc, cw400, cr400, v, wr_id ((i : Int) + 1) (by omega) (by omega)]
    · rw [if_neg hq] at ez
      subst ez
      simp -implicitDefEqProofs [i1, i2, i3, hg, hlen, cw63, cr63, wx, r1, r2, binD_rem, hq, lt, tt, b1, b2, b3, cw356, cr356, v2, bb, bp, bpl, bl2, bt2, cc, cw400, cr400, v, wr_id ((i : Int) + 1) (by omega) (by omega)]
  · clear w63 w66
    generalize catN s zs N = C1 at *
    generalize allN s zs N = S' at *
    generalize evsD (zs.take N) = E1 at *
    generalize kevsD l = L at *
    by_cases h1 : (N : Int) < l.length
    · have h2 : ¬ (N : Int) < 15 := by omega
      have h1n : N < l.length := by omega
      simp -implicitDefEqProofs [hlen, h1, h1n, h2]
    · have h1n : ¬ N < l.length := by omega
      simp -implicitDefEqProofs [hlen, h1, h1n]
  · clear w63 w66
    have tz : zs.take N = zs := List.take_of_length_le (by omega)
    rw [tz, hS]
    have bb : bytesOfD (bytesD (catN s zs N)) = some (catN s zs N) := bytesOf_u8 _
    generalize allS s zs = S' at *
    generalize catN s zs N = C1 at *
    generalize evsD zs = E1 at *
    have ss := same_str C1 C1 rfl
    simp -implicitDefEqProofs [cw354, w354, cw177, cr177, w177, bb, ss, cw199, cr199, w199]
end Go.Proofs.YtadipapkdjcnbaaGreatDoor.LgTab
