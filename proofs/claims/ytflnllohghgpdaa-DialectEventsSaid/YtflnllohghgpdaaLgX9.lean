import Derived.Test.YtflnllohghgpdaaLgX8
/-
  append and copy as operations; texts from bytes, bytes from texts.
-/
namespace Lg
open Go
set_option linter.unusedVariables false
set_option linter.unusedSimpArgs false
set_option linter.unusedSectionVars false

section
variable {P : Program} {num : FuncId → Option Nat} {fid : Nat → FuncId} (hnum : ∀ f g, num f = some g → fid g = f)
  {w : World} {A : Av} {ι : Io} {H : List Ob} {eo : List Nat} {a : Act} {E : Env} {own : Nat → List Nat} (hl : ∀ t, LV fid w A ι true (a.tmps.getD t undef) (lk E t) (own t))
  (hob : ∀ i, ObjOK fid w A ι (ι i) (obAt H i)) {o : Oper} {d : D}
include hnum hl hob
theorem x_append {t u e : TypeId} {du : TypeDesc} {x y : Operand} {sz by_ : Nat} {ys : List D} {up : Option (Nat × Ob)} (ho : o.op = .call { callee := .builtin .append, args := #[x, y], argTypes := #[t, u] }) (hsz0 : 0 < sz)
    (ht : P.underlying t = some (.slice e)) (hu : P.underlying u = some du) (hdu : seqT du = true) (hs : sizeT P e = some sz) (hby : bytesT P e = some by_) (hb0 : 0 < by_) (hz : (zeroT P e).map List.length = some sz)
    (hx : okOpd x = true) (hy : okOpd y = true) (h1 : appendY H sz (ov E (opd num y)) = some ys) (h : appendD H sz by_ ys (ov E (opd num x)) = some (d, up)) :
    Does P fid w A ι H (eaten own (eats E (.append sz by_ (opd num x) (opd num y)))) a o d up := by
  have kx := lv_opd hnum hl x hx
  have ky := lv_opd hnum hl y hy
  obtain ⟨us, g1, g2, g3, g4, g5, g6⟩ := appendY_lv (P := P) hob hsz0 ky h1
  have heo : ∀ b, b ∈ ownX own x → b ∈ eaten own (eats E (.append sz by_ (opd num x) (opd num y))) := by
    intro b hb
    cases x with
    | tmp t =>
      simp only [ownX] at hb
      simp only [opd, ov, ownX] at kx h
      simp only [eats, opd]
      split
      · exact hb
      · rename_i hne
        exfalso
        have hno : noTree (lk E t) = true := by
          cases hd : lk E t with
          | osl wr sz ds => exact (hne wr sz ds hd).elim
          | rf => rfl
          | sn => rfl
          | _ => rw [hd] at h; simp [appendD] at h
        rw [kx.noTree hno] at hb
        simp at hb
    | _ => simp [ownX] at hb
  obtain ⟨v, w', A', O, hrun, X⟩ := append_does (ty := o.type) (eo := eaten own (eats E (.append sz by_ (opd num x) (opd num y)))) hsz0 ht hu hdu hs hby hb0 hz g1 g2 g3 g4 g5 g6 hob kx heo h
  refine ⟨_, v, w', A', O, ?_, .inl rfl, X⟩
  simp only [execOp, ho, resolve, invoke, builtin, Sem.run_bind, Sem.run_pure, Result.andThen_ok, List.map_toArray, List.map_cons, List.map_nil, hrun]

omit hnum hl in
theorem copy_does {t e ty : TypeId} {u : TypeId} {sz : Nat} {ys : List D} {us : List Value} {yv xv : Value} {dx : D} {Ox : List Nat} {up : Option (Nat × Ob)} (hsz0 : 0 < sz)
    (ht : P.underlying t = some (.slice e)) (hs : sizeT P e = some sz)
    (h1 : LVs fid w A (fun _ => none) false us (flat ys) []) (h2 : ∀ v, v ∈ us → v.oneCell' = true) (h3 : ∀ d, d ∈ ys → d.cells.length = sz) (h4 : us.length = ys.length * sz)
    (h5 : ∀ w' : World, (Builtin.lenOf yv).run P w' = .ok ys.length w') (h6 : ∀ m, m ≤ ys.length → ∀ w' : World, w'.heap = w.heap → (Builtin.firstCells sz m yv).run P w' = .ok (us.take (m * sz)).toArray w')
    (hx : LV fid w A ι true xv dx Ox) (h : copyD H sz ys dx = some (d, up)) :
    ∃ v w', (Builtin.copy_ #[t, u] ty #[xv, yv]).run P w = .ok v w' ∧ XR fid w w' A A ι H eo v d up [] := by
  have key : ∀ (ad : Option Addr) (len cap : Nat) (w' : World), (match ad with | some a => storeCells a (us.take (Nat.min ys.length len * sz)) | none => pure ()).run P w = .ok () w' →
      (Builtin.copy_ #[t, u] ty #[.slice ad len cap, yv]).run P w = .ok (.int .i64 (Nat.min ys.length len : Nat)) w' := by
    intro ad len cap w' hst
    unfold Builtin.copy_
    simp only [List.getElem?_toArray, List.getElem?_cons_zero, List.getElem?_cons_succ, Sem.run_bind, run_underlying ht, run_sizeT hs, Result.andThen_ok, Sem.run_pure, h5 w, h6 (Nat.min ys.length len) (Nat.min_le_left _ _) w rfl]
    cases ad with
    | none => simp only [Sem.run_pure] at hst ⊢; injection hst with _ hst; subst hst; rfl
    | some a => simp only [Sem.run_bind, hst, Result.andThen_ok, Sem.run_pure]; rfl
  unfold copyD at h
  split at h
  · simp only [Option.some.injEq, Prod.mk.injEq] at h
    obtain ⟨rfl, rfl⟩ := h
    obtain ⟨ad, e1, _⟩ := hx.inv_sn
    subst e1
    refine ⟨_, w, key ad 0 0 w ?_, ?_⟩
    · cases ad <;> simp [storeCells]
    · have : (Nat.min ys.length 0 : Nat) = 0 := Nat.min_zero _
      rw [this]
      exact XR.val (.sc _ rfl)
  · rename_i id sz' off len
    obtain ⟨ad, cap, q, e1, e2, _, hi, g0, g1⟩ := hx.inv_rf
    subst e1
    split at h
    · rename_i sz'' ds hH
      split at h
      · rename_i hh
        obtain ⟨rfl, rfl, hle⟩ := hh
        simp only [Option.some.injEq, Prod.mk.injEq] at h
        obtain ⟨rfl, rfl⟩ := h
        have hobi := hob id
        rw [obAt_of hH, hi] at hobi
        by_cases hm : min ys.length len = 0
        · refine ⟨_, w, key ad len cap w ?_, ?_⟩
          · have : Nat.min ys.length len = 0 := hm
            rw [this]; cases ad <;> simp [storeCells]
          · refine ⟨Keep.refl _ _ _, .sc _ rfl, ?_, List.nodup_nil, by simp⟩
            intro i ob hu
            simp only [Option.some.injEq, Prod.mk.injEq] at hu
            obtain ⟨rfl, rfl⟩ := hu
            refine ⟨?_, lt_of_get hH, by rw [obAt_of hH]; rfl⟩
            rw [hm]; simp only [List.take_zero, List.nil_append, Nat.add_zero, List.take_append_drop]
            rw [hi]; exact hobi
        · rcases hobi with ⟨eb, rfl⟩ | ⟨b, eb, cs, T, fr, vs, k1, k2, ku, k4, k5, k6, k7, k8⟩
          · simp at hle; exfalso; omega
          · injection eb with eb
            obtain ⟨m1, m2, cs', T', fr', m3, m4⟩ := g1 b eb
            rw [k1] at m3
            injection m3 with m3; injection m3 with m3 m5 m6
            subst m3
            rcases m1 with rfl | m1
            · have hvl : vs.length = ds.length * sz'' := by rw [k4.length_eq, flat_len ku]
              have hcs := prefix_len k6
              have hus : (us.take (min ys.length len * sz'')).length = min ys.length len * sz'' := by
                rw [List.length_take, h4]
                have := Nat.mul_le_mul_right sz'' (Nat.min_le_left ys.length len)
                omega
              have hlev : off * sz'' + (us.take (min ys.length len * sz'')).length ≤ vs.length := by
                rw [hus, hvl, ← Nat.add_mul]
                exact Nat.mul_le_mul_right _ (by omega)
              have hlec : off * sz'' + (us.take (min ys.length len * sz'')).length ≤ cs.size := by omega
              have hst := run_storeCells_okfr P b (off * sz'') T fr (us.take (min ys.length len * sz'')) 0 cs w k1 k2 (by simpa using hlec) (fun v hv => h2 v (List.mem_of_mem_take hv))
              have K := setRow_lv (fid := fid) (A := A) (us := us.take (min ys.length len * sz'')) (o := off * sz'') k1 hlec (fun k _ => k7 rfl _)
              simp only [Nat.add_zero] at hst
              refine ⟨_, _, key _ len cap _ hst, ?_⟩
              refine ⟨K.mono (by rintro x rfl; exact .inr ⟨id, _, rfl, by rw [hi, eb]⟩), .sc _ rfl, ?_, List.nodup_nil, by simp⟩
              intro i ob hu
              simp only [Option.some.injEq, Prod.mk.injEq] at hu
              obtain ⟨rfl, rfl⟩ := hu
              refine ⟨?_, lt_of_get hH, by rw [obAt_of hH]; rfl⟩
              have hfl : flat (ds.take off ++ (ys.take (min ys.length len) ++ ds.drop (off + min ys.length len))) = (flat ds).take (off * sz'') ++ ((flat ys).take (min ys.length len * sz'') ++ (flat ds).drop (off * sz'' + ((flat ys).take (min ys.length len * sz'')).length)) := by
                have hfy : ((flat ys).take (min ys.length len * sz'')).length = min ys.length len * sz'' := by
                  rw [List.length_take, flat_len h3]
                  have := Nat.mul_le_mul_right sz'' (Nat.min_le_left ys.length len)
                  omega
                rw [flat_app, flat_app, hfy, ← flat_take ku, ← flat_take h3, ← Nat.add_mul, flat_drop ku]
              have hlv' : LVs fid w A (fun _ => none) false (vs.take (off * sz'') ++ us.take (min ys.length len * sz'') ++ vs.drop (off * sz'' + (us.take (min ys.length len * sz'')).length)) (flat (ds.take off ++ (ys.take (min ys.length len) ++ ds.drop (off + min ys.length len)))) [] := by
                rw [hfl]; exact k4.splice (h1.take _)
              rw [hi, eb]
              refine .inr ⟨b, rfl, _, T, fr, _, setRow_heap w b _ _ T fr k1, ?_, ?_, LVs.keep K (fun _ _ e => e) hlv' (by simp), ?_, ?_, fun _ => k7 rfl, fun off' _ => k7 rfl off'⟩
              · have : (⟨cs.toList.take (off * sz'') ++ us.take (min ys.length len * sz'') ++ cs.toList.drop (off * sz'' + (us.take (min ys.length len * sz'')).length)⟩ : Array Value).size = cs.size := by
                  have := splice_size cs.toList (us.take (min ys.length len * sz'')) (off * sz'') (by simpa using hlec)
                  simpa using this
                rw [this]; exact k2
              · intro x hx
                rcases List.mem_append.1 hx with hx | hx
                · exact ku x (List.mem_of_mem_take hx)
                · rcases List.mem_append.1 hx with hx | hx
                  · exact h3 x (List.mem_of_mem_take hx)
                  · exact ku x (List.mem_of_mem_drop hx)
              · intro x hx
                simp only [List.mem_append] at hx
                rcases hx with (hx | hx) | hx
                · exact k5 x (List.mem_of_mem_take hx)
                · exact h2 x (List.mem_of_mem_take hx)
                · exact k5 x (List.mem_of_mem_drop hx)
              · intro k x hk
                rw [splice_get vs _ _ hlev] at hk
                have h2' : (⟨cs.toList.take (off * sz'') ++ us.take (min ys.length len * sz'') ++ cs.toList.drop (off * sz'' + (us.take (min ys.length len * sz'')).length)⟩ : Array Value)[k]? = (cs.toList.take (off * sz'') ++ us.take (min ys.length len * sz'') ++ cs.toList.drop (off * sz'' + (us.take (min ys.length len * sz'')).length))[k]? := by simp
                rw [h2', splice_get cs.toList _ _ (by simpa using hlec)]
                split at hk
                · rename_i hk1; rw [if_pos hk1]; simpa using k6 k x hk
                · rename_i hk1
                  rw [if_neg hk1]
                  split at hk
                  · rename_i hk2; rw [if_pos hk2]; exact hk
                  · rename_i hk2; rw [if_neg hk2]; simpa using k6 k x hk
            · exfalso; omega
      · cases h
    · cases h
  · cases h
theorem x_copy {t u e : TypeId} {x y : Operand} {sz : Nat} {ys : List D} {up : Option (Nat × Ob)} (ho : o.op = .call { callee := .builtin .copy, args := #[x, y], argTypes := #[t, u] }) (hsz0 : 0 < sz)
    (ht : P.underlying t = some (.slice e)) (hs : sizeT P e = some sz)
    (hx : okOpd x = true) (hy : okOpd y = true) (h1 : appendY H sz (ov E (opd num y)) = some ys) (h : copyD H sz ys (ov E (opd num x)) = some (d, up)) :
    Does P fid w A ι H eo a o d up := by
  obtain ⟨us, g1, g2, g3, g4, g5, g6⟩ := appendY_lv (P := P) hob hsz0 (lv_opd hnum hl y hy) h1
  obtain ⟨v, w', hrun, X⟩ := copy_does (ty := o.type) (u := u) (eo := eo) hob hsz0 ht hs g1 g2 g3 g4 g5 g6 (lv_opd hnum hl x hx) h
  refine ⟨_, v, w', A, [], ?_, .inl rfl, X⟩
  simp only [execOp, ho, resolve, invoke, builtin, Sem.run_bind, Sem.run_pure, Result.andThen_ok, List.map_toArray, List.map_cons, List.map_nil, hrun]
end
end Lg
