import Derived.Test.YtflnllohghgpdaaLgN2
/-
  Every operation: what the evaluator says of it is so.
-/
namespace Lg
open Go
set_option linter.unusedVariables false
set_option linter.unusedSimpArgs false
set_option linter.unusedSectionVars false

def DoesW (P : Program) (fid : Nat → FuncId) (w : World) (A : Av) (ι : Io) (H : List Ob) (eo : List Nat) (a : Act) (o : Oper) (d : D) (u : Option (Nat × Ob)) : Prop :=
  ∀ (K : Act → World → Prop) (Q : Exit → Act → World → Prop), (∀ v w' A' O, XR fid w w' A A' ι H eo v d u O → K (a.put o.dst v) w') → o.wp P a w K Q
def Entered (P : Program) (f : FuncId) : Prop := ∃ fn, P.funcs[f]? = some fn ∧ (fn.name == "runtime.NumGoroutine") = false ∧ fn.body.isNone = false
/-- The calls that are told by a value: what the evaluator asks them for is so. -/
def ClR (P : Program) (fid : Nat → FuncId) (r : Nat → List D → List Ob → Option D) : Prop :=
  ∀ (f : Nat) (as : List D) (H : List Ob) (d : D), r f as H = some d → Entered P (fid f) ∧ ∀ (w : World) (A : Av) (ι : Io) (vs : List Value) (O eo : List Nat), LVs fid w A ι true vs as O → (∀ i, ObjOK fid w A ι (ι i) (obAt H i)) → (∀ b off, A b off → b < w.heap.size) →
    Calls P (fid f) ⟨vs⟩ w (fun e w' => ∃ v A' O', e = .returned v ∧ XR fid w w' A A' ι H eo v d none O')
section
variable {P : Program} {num : FuncId → Option Nat} {fid : Nat → FuncId} (hnum : ∀ f g, num f = some g → fid g = f)
  {w : World} {A : Av} {ι : Io} {H : List Ob} {eo : List Nat} {a : Act} {E : Env} {own : Nat → List Nat}
  {o : Oper} {d : D} {u : Option (Nat × Ob)}
theorem Does.upw (h : Does P fid w A ι H eo a o d u) : DoesW P fid w A ι H eo a o d u := by
  intro K Q hK
  obtain ⟨nx, v, w', A', O, hr, hn, X⟩ := h
  rcases hn with rfl | ⟨rfl, rfl⟩
  · exact wp_value hr (hK v w' A' O X)
  · exact wp_skipped hr (hK undef w' A' O X)
theorem run_callFunc_enter {f : FuncId} {args : Array Value} (h : Entered P f) : (callFunc f args).run P w = .ok (.enter f args) w := by
  obtain ⟨fn, h1, h2, h3⟩ := h
  simp only [callFunc, Sem.run_bind, run_program, Result.andThen_ok, h1, h2, h3, Bool.false_eq_true, if_false, Sem.run_pure]
include hnum in
theorem x_args {xs : List Operand} (hl : ∀ t, LV fid w A ι true (a.tmps.getD t undef) (lk E t) (own t)) (hk : ∀ x, x ∈ xs → okOpd x = true) : ∃ O, LVs fid w A ι true (xs.map a.eval) (xs.map fun x => ov E (opd num x)) O := by
  induction xs with
  | nil => exact ⟨[], .nil⟩
  | cons x xs ih =>
    obtain ⟨O, l⟩ := ih (fun y hy => hk y (by simp [hy]))
    exact ⟨_, .cons _ _ _ _ _ _ (lv_opd hnum hl x (hk x (by simp))) l⟩
theorem ovs_opds (xs : Array Operand) : ovs E (opds num xs) = xs.toList.map fun x => ov E (opd num x) := by
  simp [ovs, opds, List.map_map, Function.comp_def]
/-- A call told by its value. -/
theorem call_doesW {r : Nat → List D → List Ob → Option D} (hr : ClR P fid r) (hl : ∀ t, LV fid w A ι true (a.tmps.getD t undef) (lk E t) (own t)) (hob : ∀ i, ObjOK fid w A ι (ι i) (obAt H i)) (hal : ∀ b off, A b off → b < w.heap.size)
    {g : Nat} {vs : List Value} {as : List D} {O : List Nat} (l : LVs fid w A ι true vs as O) (h : r g as H = some d) (hrun : Entered P (fid g) → (execOp a.eval o).run P w = .ok (.enter (fid g) ⟨vs⟩) w) : DoesW P fid w A ι H eo a o d none := by
  intro K Q hK
  obtain ⟨he, hc⟩ := hr g as H d h
  unfold Oper.wp
  rw [hrun he, Oper.upon_enter]
  refine Calls.mono (hc w A ι vs O eo l hob hal) fun e w' hh => ?_
  obtain ⟨v, A', O', rfl, X⟩ := hh
  exact hK v w' A' O' X
theorem LVs.appendO {fid : Nat → FuncId} {w : World} {A : Av} {ι : Io} {r : Bool} {vs us : List Value} {ds es : List D} {O O' : List Nat} (h : LVs fid w A ι r vs ds O) (k : LVs fid w A ι r us es O') : LVs fid w A ι r (vs ++ us) (ds ++ es) (O ++ O') := by
  induction vs generalizing ds O with
  | nil => cases h; exact k
  | cons v vs ih =>
    cases h with
    | cons _ d O1 _ ds' O2 h hs =>
      rw [List.append_assoc]
      exact LVs.cons v d O1 _ _ _ h (ih hs)
include hnum in
theorem evX_sound {r : Nat → List D → List Ob → Option D} (hr : ClR P fid r) {own' q : Bool} {sop : SOp} (hl : ∀ t, LV fid w A ι true (a.tmps.getD t undef) (lk E t) (own t)) (hob : ∀ i, ObjOK fid w A ι (ι i) (obAt H i)) (hal : ∀ b off, A b off → b < w.heap.size)
    (hk : ∀ x, x ∈ o.op.operands.toList → okOpd x = true) (hc : compOp P num q own' o.op = some sop) (h : evX r E H sop = some (d, u)) : DoesW P fid w A ι H (eaten own (eats E sop)) a o d u := by
  rcases compOp_some hc with hc | rfl
  case inr => simp [evX] at h
  have pure : ∀ {d'}, Pure1 P fid w A ι a o d' → d' = d → u = none → DoesW P fid w A ι H (eaten own (eats E sop)) a o d u := by
    rintro d' hp rfl rfl; exact hp.does.upw
  cases ho : o.op with
  | move x =>
    rw [ho] at hc hk; simp only [compOp0, Option.some.injEq] at hc; subst hc
    simp only [evX] at h; split at h <;> simp only [Option.some.injEq, Prod.mk.injEq, reduceCtorEq] at h
    exact pure (x_mv hnum hl (.inl ho) (hk x (by simp [Op.operands])) (by assumption)) h.1 h.2.symm
  | assign x =>
    rw [ho] at hc hk; simp only [compOp0, Option.some.injEq] at hc; subst hc
    simp only [evX] at h; split at h <;> simp only [Option.some.injEq, Prod.mk.injEq, reduceCtorEq] at h
    exact pure (x_mv hnum hl (.inr ho) (hk x (by simp [Op.operands])) (by assumption)) h.1 h.2.symm
  | pick c x y =>
    rw [ho] at hc hk; simp only [compOp0, Option.some.injEq] at hc; subst hc
    simp only [evX] at h
    split at h
    · rename_i b hb
      by_cases hh : noTree (if b = true then ov E (opd num x) else ov E (opd num y)) = true
      · rw [if_pos hh] at h
        simp only [Option.some.injEq, Prod.mk.injEq] at h
        exact pure (x_pick hnum hl ho (hk c (by simp [Op.operands])) (hk x (by simp [Op.operands])) (hk y (by simp [Op.operands])) hb hh) h.1 h.2.symm
      · rw [if_neg hh] at h; cases h
    · cases h
  | alloc t =>
    rw [ho] at hc hk; simp only [compOp0] at hc
    obtain ⟨z, hz, rfl⟩ := Option.map_eq_some_iff.1 hc
    simp only [evX] at h; split at h <;> simp only [Option.some.injEq, Prod.mk.injEq, reduceCtorEq] at h
    obtain ⟨rfl, rfl⟩ := h
    exact (x_alloc hnum ho hz).upw
  | box t x =>
    rw [ho] at hc hk; simp only [compOp0] at hc
    obtain ⟨n, hn, rfl⟩ := Option.map_eq_some_iff.1 hc
    simp only [evX] at h; split at h <;> simp only [Option.some.injEq, Prod.mk.injEq, reduceCtorEq] at h
    rename_i hh
    obtain ⟨rfl, rfl⟩ := h
    exact (x_box (n := n) hnum hl ho (hk x (by simp [Op.operands])) hh.2.1 hh.2.2).upw
  | build t ps =>
    rw [ho] at hc hk; simp only [compOp0] at hc
    have hok : ∀ p, p ∈ ps.toList → okOpd p.2 = true := fun p hp => hk p.2 (by simp only [Op.operands]; exact List.mem_map.2 ⟨p, hp, rfl⟩)
    obtain ⟨z, hz, hc⟩ := Option.bind_eq_some_iff.1 hc
    split at hc
    · rename_i fs ht
      obtain ⟨pl, hp, hc⟩ := Option.bind_eq_some_iff.1 hc
      obtain ⟨qs, hq, rfl⟩ := Option.map_eq_some_iff.1 hc
      simp only [evX] at h
      split at h
      · rename_i hn
        obtain ⟨ds, hd, h⟩ := Option.map_eq_some_iff.1 h
        simp only [Prod.mk.injEq] at h
        exact pure (x_build_struct hnum hl ho hz ht hp hq hok hn hd) h.1 h.2.symm
      · cases h
    · rename_i len e ht
      obtain ⟨n, hs, rfl⟩ := Option.map_eq_some_iff.1 hc
      simp only [evX] at h
      split at h
      · rename_i hn
        obtain ⟨ds, hd, h⟩ := Option.map_eq_some_iff.1 h
        simp only [Prod.mk.injEq] at h
        simp only [List.map_map, Function.comp_def] at hn hd
        exact pure (x_build_array hnum hl ho hz ht hs hok hn hd) h.1 h.2.symm
      · cases h
    · cases hc
  | buildSlice t len ps =>
    rw [ho] at hc hk; simp only [compOp0] at hc
    have hok : ∀ p, p ∈ ps.toList → okOpd p.2 = true := fun p hp => hk p.2 (by simp only [Op.operands]; exact List.mem_map.2 ⟨p, hp, rfl⟩)
    obtain ⟨e, he, hc⟩ := Option.bind_eq_some_iff.1 hc
    obtain ⟨n, hn, hc⟩ := Option.bind_eq_some_iff.1 hc
    obtain ⟨z, hz, hc⟩ := Option.bind_eq_some_iff.1 hc
    have ht : P.underlying t = some (.slice e) := by
      unfold elemT at he; split at he <;> simp_all
    split at hc
    · rename_i hh
      injection hc with hc; subst hc
      simp only [evX] at h
      obtain ⟨cs, hf, h⟩ := Option.bind_eq_some_iff.1 h
      obtain ⟨⟨cs', u'⟩, hfz, h⟩ := Option.bind_eq_some_iff.1 h
      split at h
      · rename_i hg
        simp only [Option.some.injEq, Prod.mk.injEq] at h
        obtain ⟨rfl, rfl⟩ := h
        simp only [List.map_map, Function.comp_def] at hf hg
        exact (x_bsl hnum hl hob hal ho ht hn hz hh.1 hh.2 hok hf hfz hg.1 hg.2.1 hg.2.2.1 hg.2.2.2 rfl).upw
      · cases h
    · cases hc
  | load t x =>
    rw [ho] at hc hk; simp only [compOp0] at hc
    obtain ⟨ag, ha, hc⟩ := Option.bind_eq_some_iff.1 hc
    obtain ⟨n, hn, rfl⟩ := Option.map_eq_some_iff.1 hc
    simp only [evX] at h
    obtain ⟨d', hd, h⟩ := Option.map_eq_some_iff.1 h
    simp only [Prod.mk.injEq] at h
    exact pure (x_load hnum hl hob ho ha hn (hk x (by simp [Op.operands])) hd) h.1 h.2.symm
  | store t x v =>
    rw [ho] at hc hk; simp only [compOp0] at hc
    obtain ⟨n, hn, rfl⟩ := Option.map_eq_some_iff.1 hc
    simp only [evX] at h
    split at h
    · rename_i hh
      simp only [Bool.and_eq_true] at hh
      exact (x_store hnum hl hob ho hn (hk x (by simp [Op.operands])) (hk v (by simp [Op.operands])) hh.1 hh.2 h).upw
    · cases h
  | nilCheck x =>
    rw [ho] at hc hk; simp only [compOp0, Option.some.injEq] at hc; subst hc
    simp only [evX] at h
    split at h
    · rename_i e; simp only [Option.some.injEq, Prod.mk.injEq] at h
      exact pure (x_nilc hnum hl ho (hk x (by simp [Op.operands])) (.inl ⟨_, _, _, _, e⟩)) (by rw [e]; exact h.1) h.2.symm
    · rename_i e; simp only [Option.some.injEq, Prod.mk.injEq] at h
      exact pure (x_nilc hnum hl ho (hk x (by simp [Op.operands])) (.inr ⟨_, e⟩)) (by rw [e]; exact h.1) h.2.symm
    · cases h
  | binOp op t x y ty =>
    rw [ho] at hc hk
    have hx := hk x (by simp [Op.operands])
    have hy := hk y (by simp [Op.operands])
    simp only [compOp0] at hc
    split at hc
    · rename_i fs hu
      split at hc
      · rename_i hg
        obtain ⟨ks, hks, rfl⟩ := Option.map_eq_some_iff.1 hc
        simp only [evX] at h
        obtain ⟨d', hd, h⟩ := Option.map_eq_some_iff.1 h
        simp only [Prod.mk.injEq] at h
        exact pure (x_eqa (neg := false) hnum hl ho hu rfl hg hks hx hy hd) h.1 h.2.symm
      · cases hc
    · rename_i len e hu
      split at hc
      · rename_i hg
        obtain ⟨ks, hks, rfl⟩ := Option.map_eq_some_iff.1 hc
        simp only [evX] at h
        obtain ⟨d', hd, h⟩ := Option.map_eq_some_iff.1 h
        simp only [Prod.mk.injEq] at h
        exact pure (x_eqa (neg := false) hnum hl ho hu rfl hg hks hx hy hd) h.1 h.2.symm
      · cases hc
    · rename_i fs hu
      split at hc
      · rename_i hg
        obtain ⟨ks, hks, rfl⟩ := Option.map_eq_some_iff.1 hc
        simp only [evX] at h
        obtain ⟨d', hd, h⟩ := Option.map_eq_some_iff.1 h
        simp only [Prod.mk.injEq] at h
        exact pure (x_eqa (neg := true) hnum hl ho hu rfl hg hks hx hy hd) h.1 h.2.symm
      · cases hc
    · rename_i len e hu
      split at hc
      · rename_i hg
        obtain ⟨ks, hks, rfl⟩ := Option.map_eq_some_iff.1 hc
        simp only [evX] at h
        obtain ⟨d', hd, h⟩ := Option.map_eq_some_iff.1 h
        simp only [Prod.mk.injEq] at h
        exact pure (x_eqa (neg := true) hnum hl ho hu rfl hg hks hx hy hd) h.1 h.2.symm
      · cases hc
    · rename_i e hu
      split at hc
      · injection hc with hc; subst hc
        simp only [evX] at h
        split at h
        · rename_i e1; simp only [Option.some.injEq, Prod.mk.injEq] at h
          exact pure (x_eqn (neg := false) hnum hl ho rfl hu hx (.inl ⟨e1, rfl⟩)) h.1 h.2.symm
        · rename_i e1; simp only [Option.some.injEq, Prod.mk.injEq] at h
          exact pure (x_eqn (neg := false) hnum hl ho rfl hu hx (.inr ⟨⟨_, _, _, _, e1⟩, rfl⟩)) h.1 h.2.symm
        · cases h
      · cases hc
    · rename_i e hu
      split at hc
      · injection hc with hc; subst hc
        simp only [evX] at h
        split at h
        · rename_i e1; simp only [Option.some.injEq, Prod.mk.injEq] at h
          exact pure (x_eqn (neg := true) hnum hl ho rfl hu hx (.inl ⟨e1, rfl⟩)) h.1 h.2.symm
        · rename_i e1; simp only [Option.some.injEq, Prod.mk.injEq] at h
          exact pure (x_eqn (neg := true) hnum hl ho rfl hu hx (.inr ⟨⟨_, _, _, _, e1⟩, rfl⟩)) h.1 h.2.symm
        · cases h
      · cases hc
    · injection hc with hc; subst hc
      simp only [evX] at h
      obtain ⟨d', hd, h⟩ := Option.map_eq_some_iff.1 h
      simp only [Prod.mk.injEq] at h
      exact pure (x_bin hnum hl ho hx hy hd) h.1 h.2.symm
    · injection hc with hc; subst hc
      simp only [evX] at h
      obtain ⟨d', hd, h⟩ := Option.map_eq_some_iff.1 h
      simp only [Prod.mk.injEq] at h
      exact pure (x_bin hnum hl ho hx hy hd) h.1 h.2.symm
    · rename_i hu
      injection hc with hc; subst hc
      simp only [evX] at h
      obtain ⟨d', hd, h⟩ := Option.map_eq_some_iff.1 h
      simp only [Prod.mk.injEq] at h
      exact pure (x_binb hnum hl ho hu hx hy hd) h.1 h.2.symm
    · cases hc
  | unOp op t x =>
    rw [ho] at hc hk; simp only [compOp0, Option.some.injEq] at hc; subst hc
    simp only [evX] at h
    obtain ⟨d', hd, h⟩ := Option.map_eq_some_iff.1 h
    simp only [Prod.mk.injEq] at h
    exact pure (x_una hnum hl ho (hk x (by simp [Op.operands])) hd) h.1 h.2.symm
  | convert s t x =>
    rw [ho] at hc hk
    have hx := hk x (by simp [Op.operands])
    have u8 : ∀ e, isU8 P e = true → P.underlying e = some (.int .u8) := by
      intro e he
      unfold isU8 at he
      split at he
      · assumption
      · cases he
    simp only [compOp0] at hc
    split at hc
    · rename_i e e' h1 h2
      split at hc
      · rename_i hh
        obtain ⟨rfl, hh⟩ := hh
        injection hc with hc; subst hc
        simp only [evX] at h
        split at h
        · rename_i id sz off len e1
          split at h
          · rename_i wr sz' ds hH
            split at h
            · rename_i hlen
              simp only [Option.some.injEq, Prod.mk.injEq] at h
              obtain ⟨rfl, rfl⟩ := h
              exact (x_cvb hnum hl hob ho h1 (u8 e hh) hx e1 hH hlen).upw
            · cases h
          · cases h
        · cases h
      · cases hc
    · rename_i k0 k h1 h2
      injection hc with hc; subst hc
      simp only [evX] at h
      obtain ⟨d', hd, h⟩ := Option.map_eq_some_iff.1 h
      simp only [Prod.mk.injEq] at h
      exact pure (x_cvi hnum hl ho h1 h2 hx hd) h.1 h.2.symm
    · rename_i h1 h2
      injection hc with hc; subst hc
      simp only [evX] at h
      split at h
      · rename_i e1
        simp only [Option.some.injEq, Prod.mk.injEq] at h
        exact pure (x_cvs hnum hl ho h1 h2 hx e1) h.1 h.2.symm
      · cases h
    · rename_i e h1 h2
      split at hc
      · rename_i hh
        injection hc with hc; subst hc
        simp only [evX] at h
        split at h
        · rename_i e1
          simp only [Option.some.injEq, Prod.mk.injEq] at h
          obtain ⟨rfl, rfl⟩ := h
          exact (x_s2b hnum hl ho h1 h2 (u8 e hh) hx e1).upw
        · cases h
      · cases hc
    · rename_i e h1 h2
      split at hc
      · rename_i hh
        injection hc with hc; subst hc
        simp only [evX] at h
        obtain ⟨⟨sz, ds⟩, hs, h⟩ := Option.bind_eq_some_iff.1 h
        obtain ⟨l, hb, h⟩ := Option.map_eq_some_iff.1 h
        simp only [Prod.mk.injEq] at h
        exact pure (x_b2s hnum hl hob ho h1 h2 (u8 e hh) hx hs hb) h.1 h.2.symm
      · cases hc
    · cases hc
  | makeFunc fn first caps =>
    rw [ho] at hc hk
    simp only [compOp0] at hc
    split at hc
    · rename_i f
      split at hc
      · rename_i hf
        have : first = #[] := Array.size_eq_zero_iff.1 hf
        subst this
        obtain ⟨g, hg, rfl⟩ := Option.map_eq_some_iff.1 hc
        simp only [evX] at h
        split at h
        · rename_i hn
          simp only [Option.some.injEq, Prod.mk.injEq] at h
          rw [ovs_opds] at hn h
          exact pure (x_mkf hnum hl ho hg (fun x hx => hk x (by simp [Op.operands]; simpa using hx)) hn) h.1 h.2.symm
        · cases h
      · cases hc
    · cases hc
  | makeSlice t l c =>
    rw [ho] at hc hk
    simp only [compOp0] at hc
    split at hc
    · rename_i x y
      split at hc
      · rename_i hxy
        subst hxy
        obtain ⟨e, he, hc⟩ := Option.bind_eq_some_iff.1 hc
        obtain ⟨n, hn, hc⟩ := Option.bind_eq_some_iff.1 hc
        obtain ⟨by_, hby, hc⟩ := Option.bind_eq_some_iff.1 hc
        obtain ⟨z, hz, hc⟩ := Option.bind_eq_some_iff.1 hc
        have ht : P.underlying t = some (.slice e) := by
          unfold elemT at he; split at he <;> simp_all
        split at hc
        · rename_i hh
          injection hc with hc; subst hc
          simp only [evX] at h
          obtain ⟨m, hm, h⟩ := Option.bind_eq_some_iff.1 h
          split at h
          · rename_i hg
            simp only [Option.some.injEq, Prod.mk.injEq] at h
            obtain ⟨rfl, rfl⟩ := h
            exact (x_mksl hnum hl ho ht hn hby hz hh.1 hh.2 hm hg.1 hg.2.1 hg.2.2.1 hg.2.2.2).upw
          · cases h
        · cases hc
      · cases hc
    · cases hc
  | slice t x lo hi mx =>
    rw [ho] at hc hk
    simp only [compOp0] at hc
    split at hc
    · split at hc
      · rename_i hz
        simp only [Bool.and_eq_true] at hz
        split at hc
        · rename_i e ht
          obtain ⟨n, hn, rfl⟩ := Option.map_eq_some_iff.1 hc
          simp only [evX] at h
          split at h
          · cases h
          · rename_i hst
            obtain ⟨m, hm, h⟩ := Option.map_eq_some_iff.1 h
            simp only [Prod.mk.injEq] at h
            exact pure (x_slz hnum hl ho ⟨hz.1.1, hz.1.2, hz.2⟩ ht hn (hk x (by simp [Op.operands])) (by simpa using hst) hm) h.1 h.2.symm
        · cases hc
      · cases hc
    · rename_i hmx
      have : mx = none := by simpa using hmx
      subst this
      have hx := hk x (by simp [Op.operands])
      have hlo : ∀ y, lo = some y → okOpd y = true := fun y e => hk y (by subst e; simp [Op.operands])
      have hhi : ∀ y, hi = some y → okOpd y = true := fun y e => hk y (by subst e; simp [Op.operands])
      have em : ∀ z : Option Operand, (z.map (opd num)).map (ov E) = z.map fun x => ov E (opd num x) := fun z => by cases z <;> rfl
      split at hc
      · rename_i e ht
        obtain ⟨n, hn, hc⟩ := Option.bind_eq_some_iff.1 hc
        split at hc
        · rename_i h0
          injection hc with hc; subst hc
          simp only [evX] at h
          obtain ⟨d', hd, h⟩ := Option.map_eq_some_iff.1 h
          simp only [Prod.mk.injEq] at h
          rw [em, em] at hd
          exact pure (x_slc hnum hl ho ht hn h0 hx hlo hhi hd) h.1 h.2.symm
        · cases hc
      · rename_i ht
        injection hc with hc; subst hc
        simp only [evX] at h
        split at h
        · rename_i str e1
          obtain ⟨⟨l, hh⟩, hd, h⟩ := Option.map_eq_some_iff.1 h
          simp only [Prod.mk.injEq] at h
          rw [em, em] at hd
          exact pure (x_sls hnum hl ho ht hx hlo hhi e1 hd) h.1 h.2.symm
        · cases h
      · cases hc
  | fieldAddr t x i =>
    rw [ho] at hc hk
    simp only [compOp0] at hc
    split at hc
    · rename_i fs ht
      obtain ⟨f, hf, hc⟩ := Option.bind_eq_some_iff.1 hc
      obtain ⟨n, hn, hc⟩ := Option.bind_eq_some_iff.1 hc
      split at hc
      · cases hc
      · rename_i h0
        injection hc with hc; subst hc
        simp only [evX] at h
        split at h
        · rename_i ds e1; simp only [Option.some.injEq, Prod.mk.injEq] at h
          exact pure (x_fad hnum hl ho ht hf hn h0 (hk x (by simp [Op.operands])) (.inl ⟨ds, e1, rfl⟩)) h.1 h.2.symm
        · rename_i id sz e off e1; simp only [Option.some.injEq, Prod.mk.injEq] at h
          exact pure (x_fad hnum hl ho ht hf hn h0 (hk x (by simp [Op.operands])) (.inr ⟨id, sz, e, off, e1, rfl⟩)) h.1 h.2.symm
        · cases h
    · cases hc
  | field t x i =>
    rw [ho] at hc hk
    simp only [compOp0] at hc
    split at hc
    · rename_i fs ht
      obtain ⟨f, hf, hc⟩ := Option.bind_eq_some_iff.1 hc
      obtain ⟨n, hn, hc⟩ := Option.bind_eq_some_iff.1 hc
      obtain ⟨ag, ha, rfl⟩ := Option.map_eq_some_iff.1 hc
      simp only [evX] at h
      split at h
      · rename_i ds e1
        split at h
        · rename_i hnt
          obtain ⟨d', hd, h⟩ := Option.map_eq_some_iff.1 h
          simp only [Prod.mk.injEq] at h
          exact pure (x_fld hnum hl ho ht hf hn ha (hk x (by simp [Op.operands])) e1 hnt hd) h.1 h.2.symm
        · cases h
      · cases h
    · cases hc
  | indexAddr t x i =>
    rw [ho] at hc hk
    have hx := hk x (by simp [Op.operands])
    have hi := hk i (by simp [Op.operands])
    simp only [compOp0] at hc
    split at hc
    · rename_i e ht
      obtain ⟨n, hn, hc⟩ := Option.bind_eq_some_iff.1 hc
      split at hc
      · rename_i h0
        injection hc with hc; subst hc
        simp only [evX] at h
        obtain ⟨j, hj, h⟩ := Option.bind_eq_some_iff.1 h
        split at h
        · rename_i sz' ds e1
          split at h
          · rename_i es
            have e1' : ov E (opd num x) = .sl n ds := by rw [e1, es]
            obtain ⟨d', hd, h⟩ := Option.map_eq_some_iff.1 h
            simp only [Prod.mk.injEq] at h
            exact pure (x_ixs hnum hl ho ht hn h0 hx hi hj (.inl ⟨ds, d', e1', hd, rfl⟩)) h.1 h.2.symm
          · cases h
        · rename_i id sz' off len e1
          split at h
          · rename_i es
            obtain ⟨rfl, hlt⟩ := es
            simp only [Option.some.injEq, Prod.mk.injEq] at h
            exact pure (x_ixs hnum hl ho ht hn h0 hx hi hj (.inr ⟨id, off, len, e1, hlt, rfl⟩)) h.1 h.2.symm
          · cases h
        · cases h
      · cases hc
    · rename_i len e ht
      obtain ⟨n, hn, rfl⟩ := Option.map_eq_some_iff.1 hc
      simp only [evX] at h
      obtain ⟨j, hj, h⟩ := Option.bind_eq_some_iff.1 h
      split at h
      · rename_i hlt
        split at h
        · rename_i ds e1
          simp only [Option.some.injEq, Prod.mk.injEq] at h
          exact pure (x_ixa hnum hl ho ht hn hx hi hj hlt (.inl ⟨ds, e1, rfl⟩)) h.1 h.2.symm
        · rename_i id s e0 off e1
          simp only [Option.some.injEq, Prod.mk.injEq] at h
          exact pure (x_ixa hnum hl ho ht hn hx hi hj hlt (.inr ⟨id, s, e0, off, e1, rfl⟩)) h.1 h.2.symm
        · cases h
      · cases h
    · cases hc
  | index t x i =>
    rw [ho] at hc hk
    have hx := hk x (by simp [Op.operands])
    have hi := hk i (by simp [Op.operands])
    simp only [compOp0] at hc
    split at hc
    · rename_i ht
      injection hc with hc; subst hc
      simp only [evX] at h
      obtain ⟨j, hj, h⟩ := Option.bind_eq_some_iff.1 h
      split at h
      · rename_i str e1
        obtain ⟨b, hb, h⟩ := Option.map_eq_some_iff.1 h
        simp only [Prod.mk.injEq] at h
        exact pure (x_ixt hnum hl ho ht hx hi hj e1 hb) h.1 h.2.symm
      · cases h
    · rename_i len e ht
      obtain ⟨n, hn, hc⟩ := Option.bind_eq_some_iff.1 hc
      obtain ⟨ag, ha, rfl⟩ := Option.map_eq_some_iff.1 hc
      simp only [evX] at h
      obtain ⟨j, hj, h⟩ := Option.bind_eq_some_iff.1 h
      split at h
      · rename_i hlt
        split at h
        · rename_i ds e1
          split at h
          · rename_i hnt
            obtain ⟨d', hd, h⟩ := Option.map_eq_some_iff.1 h
            simp only [Prod.mk.injEq] at h
            exact pure (x_ixg hnum hl ho ht hn ha hx hi hj hlt e1 hnt hd) h.1 h.2.symm
          · cases h
        · cases h
      · cases h
    · cases hc
  | extract x i =>
    rw [ho] at hc hk; simp only [compOp0, Option.some.injEq] at hc; subst hc
    simp only [evX] at h
    split at h
    · rename_i ds e1
      obtain ⟨d', hd, h⟩ := Option.bind_eq_some_iff.1 h
      split at h
      · rename_i hn
        simp only [Option.some.injEq, Prod.mk.injEq] at h
        exact pure (x_ext hnum hl ho (hk x (by simp [Op.operands])) e1 hd hn) h.1 h.2.symm
      · cases h
    · cases h
  | call c =>
    rw [ho] at hc hk
    simp only [compOp0] at hc
    obtain ⟨callee, args, ts⟩ := c
    simp only [compCall] at hc
    split at hc
    · rename_i f
      obtain ⟨g, hg, hsop⟩ := Option.map_eq_some_iff.1 hc
      have hfg := hnum f g hg
      subst hfg
      have main : ∀ {d'}, r g (ovs E (opds num args)) H = some d' → DoesW P fid w A ι H (eaten own (eats E sop)) a o d' none := by
        intro d' hd
        rw [ovs_opds] at hd
        obtain ⟨O, l⟩ := x_args hnum (E := E) (xs := args.toList) hl (fun x hx => hk x (by simp [Op.operands, Call.operands]; exact .inr (by simpa using hx)))
        refine call_doesW hr hl hob hal l hd fun hent => ?_
        have he : (⟨args.toList.map a.eval⟩ : Array Value) = args.map a.eval := by apply Array.ext'; simp
        rw [he]
        have := run_callFunc_enter (w := w) (args := args.map a.eval) hent
        simpa [execOp, ho, resolve, Deferred.ofValue, Act.eval, invoke, Sem.run_bind] using this
      split at hsop
      · subst hsop
        simp only [evX] at h
        obtain ⟨d', hd, h⟩ := Option.bind_eq_some_iff.1 h
        obtain ⟨d2, hro, h⟩ := Option.map_eq_some_iff.1 h
        simp only [Prod.mk.injEq] at h
        obtain ⟨rfl, rfl⟩ := h
        intro K Q hK
        exact main hd K Q fun v w' A' O X => hK v w' _ [] (X.ro hro)
      · subst hsop
        cases q with
        | false => simp [evX] at h
        | true =>
          simp only [evX] at h
          obtain ⟨d', hd, h⟩ := Option.map_eq_some_iff.1 h
          simp only [Prod.mk.injEq] at h
          obtain ⟨rfl, rfl⟩ := h
          exact main hd
    · rename_i t
      injection hc with hc; subst hc
      cases q with
      | false => simp [evX] at h
      | true =>
        simp only [evX, ov] at h
        split at h
        · rename_i g caps e1
          obtain ⟨d', hd, h⟩ := Option.map_eq_some_iff.1 h
          simp only [Prod.mk.injEq] at h
          obtain ⟨rfl, rfl⟩ := h
          rw [ovs_opds] at hd
          obtain ⟨O, l⟩ := x_args hnum (E := E) (xs := args.toList) hl (fun x hx => hk x (by simp [Op.operands, Call.operands]; exact .inr (by simpa using hx)))
          have lf := hl t
          rw [e1] at lf
          obtain ⟨cv, ef, lc⟩ := lf.inv_fn
          have lall : LVs fid w A ι true (args.toList.map a.eval ++ cv) (args.toList.map (fun x => ov E (opd num x)) ++ caps) (O ++ own t) := LVs.appendO l lc
          refine call_doesW hr hl hob hal lall hd fun hent => ?_
          have he : (⟨args.toList.map a.eval ++ cv⟩ : Array Value) = args.map a.eval ++ ⟨cv⟩ := by apply Array.ext'; simp
          rw [he]
          have := run_callFunc_enter (w := w) (args := args.map a.eval ++ ⟨cv⟩) hent
          have hev : a.eval (.tmp t) = .func (.func (fid g)) #[] ⟨cv⟩ := ef
          simp only [execOp, ho, resolve, hev, Deferred.ofValue, invoke, Sem.run_bind, Sem.run_pure, Result.andThen_ok, Array.empty_append]
          exact this
        · cases h
    · rename_i b
      have hargs : ∀ x, x ∈ args.toList → okOpd x = true := fun x hx => hk x (by simp [Op.operands, Call.operands]; simpa using hx)
      simp only [compBuiltin] at hc
      split at hc
      · rename_i x t ea et
        have ea' : args = #[x] := by apply Array.ext'; simpa using ea
        have et' : ts = #[t] := by apply Array.ext'; simpa using et
        subst ea'; subst et'
        have hx := hargs x (by simp)
        split at hc
        · rename_i ht
          injection hc with hc; subst hc
          simp only [evX] at h
          split at h
          · rename_i hs
            obtain ⟨n, hn, h⟩ := Option.map_eq_some_iff.1 h
            simp only [Prod.mk.injEq] at h
            refine pure (x_len (t' := 0) hnum hl ho (.inr ht) hx hn ?_) h.1 h.2.symm
            constructor
            · rintro ⟨e, he⟩; rw [ht] at he; cases he
            · intro hh
              unfold isStr at hs
              split at hs
              · rename_i s0 e0; exact (hh s0 e0).elim
              · cases hs
          · cases h
        · rename_i e ht
          injection hc with hc; subst hc
          simp only [evX] at h
          split at h
          · cases h
          · rename_i hs
            obtain ⟨n, hn, h⟩ := Option.map_eq_some_iff.1 h
            simp only [Prod.mk.injEq] at h
            refine pure (x_len (t' := 0) hnum hl ho (.inl ⟨e, ht⟩) hx hn ?_) h.1 h.2.symm
            exact ⟨fun _ s0 e0 => hs (by rw [e0]; rfl), fun _ => ⟨e, ht⟩⟩
        · rename_i n e ht
          injection hc with hc; subst hc
          simp only [evX, ov, noTree, if_true, Option.some.injEq, Prod.mk.injEq] at h
          refine pure ⟨.int .i64 n, ?_, .sc _ rfl⟩ h.1 h.2.symm
          simp only [execOp, ho, resolve, invoke, builtin, Sem.run_bind, Sem.run_pure, Result.andThen_ok, List.map_toArray, List.map_cons, List.map_nil]
          simp [Builtin.len_, run_underlying ht, goInt, Sem.run_bind]
        · cases hc
      · rename_i x y t u' ea et
        have ea' : args = #[x, y] := by apply Array.ext'; simpa using ea
        have et' : ts = #[t, u'] := by apply Array.ext'; simpa using et
        subst ea'; subst et'
        obtain ⟨e, he, hc⟩ := Option.bind_eq_some_iff.1 hc
        obtain ⟨n, hn, hc⟩ := Option.bind_eq_some_iff.1 hc
        obtain ⟨by_, hby, hc⟩ := Option.bind_eq_some_iff.1 hc
        obtain ⟨du, hdu, hc⟩ := Option.bind_eq_some_iff.1 hc
        have ht : P.underlying t = some (.slice e) := by
          unfold elemT at he; split at he <;> simp_all
        split at hc
        · rename_i kn
          obtain ⟨z, hz, hc⟩ := Option.bind_eq_some_iff.1 hc
          split at hc
          · rename_i hh
            injection hc with hc; subst hc
            simp only [evX] at h
            split at h
            · rename_i hsn
              obtain ⟨m, hm, h⟩ := Option.bind_eq_some_iff.1 h
              split at h
              · rename_i hg
                simp only [Option.some.injEq, Prod.mk.injEq] at h
                obtain ⟨rfl, rfl⟩ := h
                exact (x_appz hnum hl ho ht hdu hn hby hz hh.1 hh.2 (hargs x (by simp)) (hargs y (by simp)) hsn hm hg.1 hg.2.1 hg.2.2.1 hg.2.2.2.1 hg.2.2.2.2).upw
              · cases h
            · cases h
          · cases hc
        split at hc
        · rename_i hh
          injection hc with hc; subst hc
          simp only [evX] at h
          obtain ⟨ys, hy, h⟩ := Option.bind_eq_some_iff.1 h
          exact (x_append hnum hl hob ho hh.2.1 ht hdu hh.1 hn hby hh.2.2.1 hh.2.2.2 (hargs x (by simp)) (hargs y (by simp)) hy h).upw
        · cases hc
      · rename_i x y t u' ea et
        have ea' : args = #[x, y] := by apply Array.ext'; simpa using ea
        have et' : ts = #[t, u'] := by apply Array.ext'; simpa using et
        subst ea'; subst et'
        obtain ⟨e, he, hc⟩ := Option.bind_eq_some_iff.1 hc
        obtain ⟨n, hn, hc⟩ := Option.bind_eq_some_iff.1 hc
        have ht : P.underlying t = some (.slice e) := by
          unfold elemT at he; split at he <;> simp_all
        split at hc
        · rename_i h0
          injection hc with hc; subst hc
          simp only [evX] at h
          obtain ⟨ys, hy, h⟩ := Option.bind_eq_some_iff.1 h
          exact (x_copy hnum hl hob ho h0 ht hn (hargs x (by simp)) (hargs y (by simp)) hy h).upw
        · cases hc
      · rename_i x t ea et
        have ea' : args = #[x] := by apply Array.ext'; simpa using ea
        have et' : ts = #[t] := by apply Array.ext'; simpa using et
        subst ea'; subst et'
        obtain ⟨e, he, rfl⟩ := Option.map_eq_some_iff.1 hc
        have ht : P.underlying t = some (.slice e) := by
          unfold elemT at he; split at he <;> simp_all
        simp only [evX] at h
        split at h
        · rename_i e1
          simp only [Option.some.injEq, Prod.mk.injEq] at h
          exact pure (x_capn hnum hl ho ht (hargs x (by simp)) e1) h.1 h.2.symm
        · cases h
      · rename_i x t ea et
        have ea' : args = #[x] := by apply Array.ext'; simpa using ea
        have et' : ts = #[t] := by apply Array.ext'; simpa using et
        subst ea'; subst et'
        obtain ⟨e, he, hc⟩ := Option.bind_eq_some_iff.1 hc
        obtain ⟨z, hz, rfl⟩ := Option.map_eq_some_iff.1 hc
        have ht : P.underlying t = some (.slice e) := by
          unfold elemT at he; split at he <;> simp_all
        simp only [evX] at h
        exact (x_clr hnum hl hob ho ht hz (hargs x (by simp)) h).upw
      · rename_i x y ea
        have ea' : args = #[x, y] := by apply Array.ext'; simpa using ea
        subst ea'
        injection hc with hc; subst hc
        simp only [evX] at h
        obtain ⟨d', hd, h⟩ := Option.map_eq_some_iff.1 h
        simp only [Prod.mk.injEq] at h
        exact pure (x_mx hnum hl ho (hargs x (by simp)) (hargs y (by simp)) hd) h.1 h.2.symm
      · rename_i x y ea
        have ea' : args = #[x, y] := by apply Array.ext'; simpa using ea
        subst ea'
        injection hc with hc; subst hc
        simp only [evX] at h
        obtain ⟨d', hd, h⟩ := Option.map_eq_some_iff.1 h
        simp only [Prod.mk.injEq] at h
        exact pure (x_mn hnum hl ho (hargs x (by simp)) (hargs y (by simp)) hd) h.1 h.2.symm
      · cases hc
    · cases hc
  | makeMap t r =>
    rw [ho] at hc hk
    simp only [compOp0] at hc
    split at hc
    · rename_i hr
      injection hc with hc; subst hc
      cases r with
      | some _ => simp at hr
      | none =>
        simp only [evX, Option.some.injEq, Prod.mk.injEq] at h
        obtain ⟨rfl, rfl⟩ := h
        exact (x_mkm ho).upw
    · cases hc
  | mapUpdate t m k v =>
    rw [ho] at hc hk
    have h1 := hk m (by simp [Op.operands])
    have h2 := hk k (by simp [Op.operands])
    have h3 := hk v (by simp [Op.operands])
    simp only [compOp0] at hc
    obtain ⟨⟨kt, et⟩, ht, hc⟩ := Option.bind_eq_some_iff.1 hc
    obtain ⟨ks, hks, hc⟩ := Option.bind_eq_some_iff.1 hc
    obtain ⟨ag, hag, rfl⟩ := Option.map_eq_some_iff.1 hc
    simp only [evX] at h
    split at h
    · rename_i id e1
      split at h
      · rename_i kk vv hH
        split at h
        · rename_i hh
          simp only [Bool.and_eq_true] at hh
          obtain ⟨⟨⟨⟨hro, hrov⟩, hn⟩, hnv⟩, hs⟩ := hh
          obtain ⟨r, hr, h⟩ := Option.map_eq_some_iff.1 h
          simp only [Prod.mk.injEq] at h
          obtain ⟨rfl, rfl⟩ := h
          have hs' : eqK ag ks (ov E (opd num k)) (ov E (opd num k)) = some true := by unfold isSomeTrue at hs; split at hs <;> simp_all
          exact (x_mup hnum hl hob (.inl ho) ht hks hag h1 h2 h3 e1 hH hn hnv hro hrov hs' hr).upw
        · cases h
      · cases h
    · cases h
  | insert t m k v =>
    rw [ho] at hc hk
    have h1 := hk m (by simp [Op.operands])
    have h2 := hk k (by simp [Op.operands])
    have h3 := hk v (by simp [Op.operands])
    simp only [compOp0] at hc
    obtain ⟨⟨kt, et⟩, ht, hc⟩ := Option.bind_eq_some_iff.1 hc
    obtain ⟨ks, hks, hc⟩ := Option.bind_eq_some_iff.1 hc
    obtain ⟨ag, hag, rfl⟩ := Option.map_eq_some_iff.1 hc
    simp only [evX] at h
    split at h
    · rename_i id e1
      split at h
      · rename_i kk vv hH
        split at h
        · rename_i hh
          simp only [Bool.and_eq_true] at hh
          obtain ⟨⟨⟨⟨hro, hrov⟩, hn⟩, hnv⟩, hs⟩ := hh
          obtain ⟨r, hr, h⟩ := Option.map_eq_some_iff.1 h
          simp only [Prod.mk.injEq] at h
          obtain ⟨rfl, rfl⟩ := h
          have hs' : eqK ag ks (ov E (opd num k)) (ov E (opd num k)) = some true := by unfold isSomeTrue at hs; split at hs <;> simp_all
          exact (x_mup hnum hl hob (.inr ho) ht hks hag h1 h2 h3 e1 hH hn hnv hro hrov hs' hr).upw
        · cases h
      · cases h
    · cases h
  | lookup t m k ok =>
    rw [ho] at hc hk
    have h1 := hk m (by simp [Op.operands])
    have h2 := hk k (by simp [Op.operands])
    simp only [compOp0] at hc
    obtain ⟨⟨kt, et⟩, ht, hc⟩ := Option.bind_eq_some_iff.1 hc
    obtain ⟨ks, hks, hc⟩ := Option.bind_eq_some_iff.1 hc
    obtain ⟨ag, hag, hc⟩ := Option.bind_eq_some_iff.1 hc
    obtain ⟨z, hz, rfl⟩ := Option.map_eq_some_iff.1 hc
    simp only [evX] at h
    split at h
    · rename_i id e1
      split at h
      · rename_i kk vv hH
        split at h
        · rename_i hh
          simp only [Bool.and_eq_true] at hh
          obtain ⟨hn, hs⟩ := hh
          obtain ⟨r, hr, h⟩ := Option.bind_eq_some_iff.1 h
          have hs' : eqK ag ks (ov E (opd num k)) (ov E (opd num k)) = some true := by unfold isSomeTrue at hs; split at hs <;> simp_all
          obtain ⟨d', hd, h⟩ := Option.map_eq_some_iff.1 h
          simp only [Prod.mk.injEq] at h
          exact pure (x_lkp hnum hl hob ho ht hks hag hz h1 h2 e1 hH hn hs' hr hd) h.1 h.2.symm
        · cases h
      · cases h
    · cases h
  | _ => rw [ho] at hc; simp [compOp0] at hc
end
end Lg
