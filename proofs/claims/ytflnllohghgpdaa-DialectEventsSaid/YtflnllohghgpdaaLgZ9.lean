import Derived.Test.YtflnllohghgpdaaLgZ8
/-
  Functions: what their code comes to is their contract.
-/
namespace Lg
open Go
set_option linter.unusedVariables false
set_option linter.unusedSimpArgs false
set_option linter.unusedSectionVars false

section
variable {P : Program} {num : FuncId → Option Nat} {fid : Nat → FuncId}
  {w0 : World} {A0 : Av} {Cb : Nat → Prop} {nt : Nt} {w : World} {A : Av} {ι : Io} {a : Act} {E E' : Env} {H H' : List Ob} {own : Nat → List Nat} {cl : Cl}
/-- A cell read where a pointer leads. -/
theorem run_loadVar_part {t : TypeId} {ag : Bool} {n : Nat} {ad : Addr} {vs : List Value} {cs : List D} {d : D} (h1 : aggT P t = some ag) (h2 : sizeT P t = some n) (hv : LVs fid w A ι true vs cs []) (hr : ∀ (k : Nat) (u : Value), vs[k]? = some u → w.cell? (ad.add k) = some u)
    (hp : part ag n cs = some d) : ∃ v, (loadVar t ad).run P w = .ok v w ∧ LV fid w A ι true v d [] := by
  unfold loadVar
  simp only [Sem.run_bind, run_isAgg h1, Result.andThen_ok]
  unfold part at hp
  cases ag with
  | true =>
    simp only [if_true] at hp ⊢
    split at hp
    · rename_i hle
      injection hp with hp; subst hp
      refine ⟨.agg ⟨vs.take n⟩, ?_, .agg _ _ [] (hv.take n)⟩
      have hlen : (vs.take n).length = n := by rw [List.length_take, hv.length_eq]; omega
      have := run_loadCells_list (P := P) w ad (vs.take n) (fun j v hj => hr j v (take_get hj))
      rw [hlen] at this
      simp only [Sem.run_bind, run_sizeT h2, Result.andThen_ok, this, Sem.run_pure]
    · cases hp
  | false =>
    simp only [Bool.false_eq_true, if_false] at hp ⊢
    split at hp
    · rename_i c cs'
      injection hp with hp; subst hp
      obtain ⟨v, hv1, hv2⟩ := hv.get (k := 0) (d := c) rfl
      refine ⟨v, ?_, hv2⟩
      have := hr 0 v hv1
      have ha : ad.add 0 = ad := by unfold Addr.add; simp
      rw [ha] at this
      simp [run_load, this]
    · cases hp
def resM (tmps : Array Value) : ResultVar → Sem Value
  | .tmp t => pure (tmps.getD t undef)
  | .cell a t => do loadVar t (← asAddr (tmps.getD a undef))
theorem res_sound (S : St fid w0 A0 Cb nt w A ι a E H no) : ∀ (rs : List ResultVar) (ms : List Mode) (srs : List (SRes × Mode)) (ds : List D), compRes P rs ms = some srs → resDs E H srs = some ds →
    ∃ vs : List Value, (rs.mapM (resM a.tmps)).run P w = .ok vs w ∧ LVs fid w A ι true vs ds []
  | [], ms, srs, ds, hc, hd => by
    simp only [compRes, Option.some.injEq] at hc; subst hc
    simp only [resDs, Option.some.injEq] at hd; subst hd
    exact ⟨[], by simp, .nil⟩
  | r :: rs, ms, srs, ds, hc, hd => by
    simp only [compRes] at hc
    obtain ⟨x, hx, hc⟩ := Option.bind_eq_some_iff.1 hc
    obtain ⟨l, hl, rfl⟩ := Option.map_eq_some_iff.1 hc
    simp only [resDs] at hd
    obtain ⟨d, hd1, hd⟩ := Option.bind_eq_some_iff.1 hd
    obtain ⟨ds', hd2, rfl⟩ := Option.map_eq_some_iff.1 hd
    obtain ⟨vs, hv1, hv2⟩ := res_sound S rs ms.tail l ds' hl hd2
    have one : ∃ v, (resM a.tmps r).run P w = .ok v w ∧ LV fid w A ι true v d [] := by
      cases r with
      | tmp t =>
        simp only [compRes1, Option.some.injEq] at hx; subst hx
        simp only [resD, Option.some.injEq] at hd1; subst hd1
        exact ⟨_, rfl, S.lv t⟩
      | cell t ty =>
        simp only [compRes1] at hx
        obtain ⟨ag, hag, hx⟩ := Option.bind_eq_some_iff.1 hx
        obtain ⟨n, hn, rfl⟩ := Option.map_eq_some_iff.1 hx
        simp only [resD] at hd1
        obtain ⟨cs, hcs, hp⟩ := Option.bind_eq_some_iff.1 hd1
        obtain ⟨ad, vs', e1, l1, hr⟩ := cellsAt_lv S.ob (S.lv t) hcs
        obtain ⟨v, hv, lv⟩ := run_loadVar_part (P := P) hag hn l1 hr hp
        refine ⟨v, ?_, lv⟩
        simp only [resM, e1, asAddr, Sem.run_bind, Sem.run_pure, Result.andThen_ok, hv]
    obtain ⟨v, hr, lv⟩ := one
    exact ⟨v :: vs, by simp only [List.mapM_cons, Sem.run_bind, hr, hv1, Result.andThen_ok, Sem.run_pure], LVs.cons' lv hv2⟩
def oneV : List Value → Value
  | [v] => v
  | vs => .tuple ⟨vs⟩
theorem run_results {fn : Func} {tmps : Array Value} {vs : List Value} (h : (fn.results.toList.mapM (resM tmps)).run P w = .ok vs w) : (results fn tmps).run P w = .ok (oneV vs) w := by
  have e : results fn tmps = (fn.results.mapM (resM tmps) >>= fun vs => pure (if h : vs.size = 1 then vs[0] else .tuple vs)) := by
    unfold results
    have : (fun x : ResultVar => (match x with | .tmp t => (pure (tmps.getD t undef) : Sem Value) | .cell a t => do loadVar t (← asAddr (tmps.getD a undef)))) = resM tmps := by
      funext x; cases x <;> rfl
    rw [← this]
    rfl
  rw [e, Array.mapM_eq_mapM_toList, Sem.run_bind]
  simp only [Sem.run_map, h, Result.andThen_ok, Sem.run_pure]
  cases vs with
  | nil => rfl
  | cons v vs =>
    cases vs with
    | nil => rfl
    | cons u vs => simp [oneV]
theorem foldR_sound : ∀ (rs : List (SRes × Mode)) (vs : List Value) (ds : List D) {A : Av} {H : List Ob} {ts : List D} {H' : List Ob}, St fid w0 A0 Cb nt w A ι a E H no → LVs fid w A ι true vs ds [] → foldR rs ds H = some (ts, H') →
    ∃ A1 O, (∀ b off, A1 b off → A b off) ∧ Spare ι H A A1 ∧ LVs fid w A1 (fun _ => none) false vs ts O ∧ O.Nodup ∧ (∃ I, Mix H H' I) ∧ Taken ι H H' O ∧ St fid w0 A0 Cb nt w A1 ι a E H' no
  | [], vs, [], A, H, ts, H', S, l, h => by
    simp only [foldR, Option.some.injEq, Prod.mk.injEq] at h
    obtain ⟨rfl, rfl⟩ := h
    cases l
    exact ⟨A, [], fun _ _ h => h, fun _ _ _ h => h, .nil, List.nodup_nil, ⟨[], (Gone.refl H).mix⟩, by intro b hb; simp at hb, S⟩
  | [], vs, _ :: _, A, H, ts, H', S, l, h => by simp [foldR] at h
  | _ :: _, vs, [], A, H, ts, H', S, l, h => by simp [foldR] at h
  | (t, m) :: rs, [], d :: ds, A, H, ts, H', S, l, h => by cases l
  | (t, m) :: rs, v :: vs, d :: ds, A, H, ts, H', S, l, h => by
    simp only [foldR] at h
    obtain ⟨⟨d1, H1⟩, h1, h⟩ := Option.bind_eq_some_iff.1 h
    obtain ⟨⟨ts2, H2⟩, h2, h⟩ := Option.map_eq_some_iff.1 h
    simp only [Prod.mk.injEq] at h
    obtain ⟨rfl, rfl⟩ := h
    obtain ⟨A1, O1, a1, s1, l1, n1, ⟨I1, m1⟩, t1, S1⟩ := foldM_sound S l.uncons.1 h1
    have lrest : LVs fid w A1 ι true vs ds [] := by
      have := LV.narrowO a1 (LV.agg vs ds [] l.uncons.2) (by simp)
      obtain ⟨vs', e, l'⟩ := this.inv_agg
      simp only [Value.agg.injEq, Array.mk.injEq] at e
      subst e; exact l'
    obtain ⟨A2, O2, a2, s2, l2, n2, ⟨I2, m2⟩, t2, S2⟩ := foldR_sound rs vs ds S1 lrest h2
    have hdead : ∀ b, b ∈ O1 → ∀ i, alive (obAt H1 i) = true → ι i ≠ some (some b) := by
      intro b hb i ha hi
      obtain ⟨j, e1, e2, e3⟩ := t1 b hb
      have := S.inj j i b e2 (m1.alive ha) e1 hi
      subst this
      rw [e3] at ha; cases ha
    refine ⟨A2, O1 ++ O2, fun b off h => a1 b off (a2 b off h), fun b hb off hA => s2 b (fun i ha => hb i (m1.alive ha)) off (s1 b hb off hA), ?_, ?_, ⟨_, m1.trans m2⟩, ?_, S2⟩
    · exact .cons _ d1 O1 _ ts2 O2 (l1.narrowO a2 (fun b hb off hA => s2 b (hdead b hb) off hA)) l2
    · refine List.nodup_append.2 ⟨n1, n2, fun x hx y hy e => ?_⟩
      subst e
      obtain ⟨j, e1, e2, e3⟩ := t2 x hy
      exact hdead x hx j e2 e1
    · intro b hb
      rcases List.mem_append.1 hb with hb | hb
      · obtain ⟨i, f1, f2, f3⟩ := t1 b hb
        refine ⟨i, f1, f2, ?_⟩
        rcases m2.2 i with e | e
        · exact e
        · rw [e, f3]; by_cases hq : i ∈ I2 <;> simp [hq, frz]
      · obtain ⟨i, f1, f2, f3⟩ := t2 b hb
        exact ⟨i, f1, m1.alive f2, f3⟩
/-- What pointers that came in hold behind a call. -/
theorem outs_sound {fx : List Nat} : ∀ (k : Nat) (as : List D) (vs : List Value) {H : List Ob} {os : List D} {H' : List Ob}, vs.length = as.length → (∀ t, lk E t = lk E t ∧ LV fid w A ι true (a.tmps.getD t undef) (lk E t) []) → (∀ i, ObjOK fid w A ι (ι i) (obAt H i)) → Inj ι H →
    (∀ i v, vs[i]? = some v → fx.contains (k + i) = true → a.tmps.getD (k + i) undef = v) → outs fx E k as H = some (os, H') →
    ∃ O, LVs fid w A (fun _ => none) false (ptVals vs as) os O ∧ O.Nodup ∧ Gone H H' ∧ Taken ι H H' O
  | k, [], [], H, os, H', _, _, _, _, _, h => by
    simp only [outs, Option.some.injEq, Prod.mk.injEq] at h
    obtain ⟨rfl, rfl⟩ := h
    exact ⟨[], .nil, List.nodup_nil, Gone.refl _, by intro b hb; simp at hb⟩
  | k, [], _ :: _, H, os, H', hl, _, _, _, _, h => by simp at hl
  | k, _ :: _, [], H, os, H', hl, _, _, _, _, h => by simp at hl
  | k, d :: as, v :: vs, H, os, H', hl, hlv, hob, hi, hv, h => by
    have hv' : ∀ i u, vs[i]? = some u → fx.contains (k + 1 + i) = true → a.tmps.getD (k + 1 + i) undef = u := by
      intro i u hu hc
      have := hv (i + 1) u (by simpa using hu) (by rw [show k + (i + 1) = k + 1 + i by omega]; exact hc)
      rwa [show k + (i + 1) = k + 1 + i by omega] at this
    by_cases hb : isBx d = true
    · cases d <;> simp [isBx] at hb
      rename_i ds
      simp only [outs] at h
      split at h
      · rename_i hc
        obtain ⟨⟨d1, H1⟩, h1, h⟩ := Option.bind_eq_some_iff.1 h
        obtain ⟨⟨os2, H2⟩, h2, h⟩ := Option.map_eq_some_iff.1 h
        simp only [Prod.mk.injEq] at h
        obtain ⟨rfl, rfl⟩ := h
        have hval := hv 0 v rfl (by simpa using hc)
        simp only [Nat.add_zero] at hval
        obtain ⟨O1, l1, n1, g1, t1⟩ := fld_sound (ι' := fun _ => none) depth _ _ d1 H H1 (hlv k).2 hob hi h1
        rw [hval] at l1
        obtain ⟨O2, l2, n2, g2, t2⟩ := outs_sound (k + 1) as vs (by simpa using hl) hlv (g1.ob hob) (g1.inj hi) hv' h2
        refine ⟨O1 ++ O2, ?_, List.nodup_append.2 ⟨n1, n2, fun x hx y hy e => Taken.apart hi g1 t1 t2 x hx (e ▸ hy)⟩, g1.trans g2, t1.app g1 g2 t2⟩
        simp only [ptVals, isBx, if_true]
        exact .cons v d1 O1 _ os2 O2 l1 l2
      · cases h
    · have hb' : isBx d = false := by simpa using hb
      have he : outs fx E k (d :: as) H = outs fx E (k + 1) as H := by cases d <;> simp [isBx] at hb' <;> rfl
      rw [he] at h
      simp only [ptVals, hb', Bool.false_eq_true, if_false]
      exact outs_sound (k + 1) as vs (by simpa using hl) hlv hob hi hv' h
theorem envFrom_mem : ∀ (k : Nat) (ds : List D) (p : Nat × D), p ∈ envFrom k ds → ∃ i, p.1 = k + i ∧ ds[i]? = some p.2
  | k, [], p, h => by simp [envFrom] at h
  | k, d :: ds, p, h => by
    simp only [envFrom, List.mem_cons] at h
    rcases h with rfl | h
    · exact ⟨0, rfl, rfl⟩
    · obtain ⟨i, e1, e2⟩ := envFrom_mem (k + 1) ds p h
      exact ⟨i + 1, by omega, by simpa using e2⟩
end
end Lg
