import Derived.Test.YtflnllohghgpdaaLgY8
/-
  Operations of a region, one behind the other.
-/
namespace Lg
open Go
set_option linter.unusedVariables false
set_option linter.unusedSimpArgs false
set_option linter.unusedSectionVars false

/-- What a call's objects are, without its slots. -/
structure Obs (fid : Nat → FuncId) (Cb : Nat → Prop) (w : World) (A : Av) (ι : Io) (H : List Ob) : Prop where
  al : ∀ b off, A b off → b < w.heap.size
  cb : ∀ b, w.heap.size ≤ b → Cb b
  ob : ∀ i, ObjOK fid w A ι (ι i) (obAt H i)
  sp : Sep Cb ι H (fun _ => [])
def Ext (ι ι' : Io) : Prop := ∀ i q, ι i = some q → ι' i = some q
theorem Ext.refl (ι : Io) : Ext ι ι := fun _ _ h => h
theorem Ext.trans {ι ι1 ι2 : Io} (h : Ext ι ι1) (k : Ext ι1 ι2) : Ext ι ι2 := fun i q e => k i q (h i q e)
def no : Nat → List Nat := fun _ => []
/-- The calls that may turn what pointers lead to. -/
def ClW (P : Program) (fid : Nat → FuncId) (wf : Nat → List D → List Ob → Option (D × List Ob)) : Prop :=
  ∀ (f : Nat) (as : List D) (H : List Ob) (d : D) (H' : List Ob), wf f as H = some (d, H') → Entered P (fid f) ∧ ∀ (w : World) (A : Av) (ι : Io) (Cb : Nat → Prop) (vs : List Value), Obs fid Cb w A ι H → LVs fid w A ι true vs as [] →
    Calls P (fid f) ⟨vs⟩ w (fun e w' => ∃ v A' ι', e = .returned v ∧ Keep w w' A A' Cb ∧ Ext ι ι' ∧ Obs fid Cb w' A' ι' H' ∧ LV fid w' A' ι' true v d [])
section
variable {P : Program} {num : FuncId → Option Nat} {fid : Nat → FuncId} (hnum : ∀ f g, num f = some g → fid g = f)
  {w0 : World} {A0 : Av} {Cb : Nat → Prop} {nt : Nt} {w w' : World} {A A' : Av} {ι ι' : Io} {a : Act} {E E' : Env} {H H' : List Ob} {own : Nat → List Nat}
theorem St.obs (S : St fid w0 A0 Cb nt w A ι a E H own) (ho : own = no) : Obs fid Cb w A ι H :=
  ⟨S.al, fun b h => S.cb b (Nat.le_trans S.kp.size h), S.ob, by subst ho; exact S.sp⟩
theorem St.of_obs (S : St fid w0 A0 Cb nt w A ι a E H own) (ho : own = no) (K : Keep w w' A A' Cb) (hx : Ext ι ι') (B : Obs fid Cb w' A' ι' H') : St fid w0 A0 Cb nt w' A' ι' a E H' no := by
  subst ho
  exact ⟨S.kp.trans K (fun b h => .inl h) (fun b h => .inl h), B.al, S.cb, S.sz, S.fx, S.df, fun t => LV.keep K hx (S.lv t) (by simp [no]), B.ob, B.sp⟩
theorem isCall_cases {op : SOp} (h : isCall op = true) : (∃ f xs, op = .call false f xs) ∨ ∃ f xs, op = .callv false f xs := by
  cases op <;> simp only [isCall] at h <;> try (cases h; done)
  · rename_i q f xs; cases q
    · exact .inl ⟨f, xs, rfl⟩
    · cases h
  · rename_i q f xs; cases q
    · exact .inr ⟨f, xs, rfl⟩
    · cases h
def NC (s : Option SOp) : Prop := ∀ x, s = some x → isCall x = false
theorem NC.none : NC none := by intro x h; cases h
theorem NC.some {s : SOp} (h : isCall s = false) : NC (some s) := by intro x e; injection e with e; rw [← e]; exact h
theorem NC.bind {α : Type} {o : Option α} {f : α → Option SOp} (h : ∀ a, NC (f a)) : NC (o.bind f) := by
  intro x e; obtain ⟨a, _, e⟩ := Option.bind_eq_some_iff.1 e; exact h a x e
theorem NC.map {α : Type} {o : Option α} {f : α → SOp} (h : ∀ a, isCall (f a) = false) : NC (o.map f) := by
  intro x e; obtain ⟨a, _, e⟩ := Option.map_eq_some_iff.1 e; rw [← e]; exact h a
theorem compOp_nc {q own' : Bool} {op : Op} (hn : ∀ c, op ≠ .call c) : NC (compOp0 P num q own' op) := by
  cases op <;> simp only [compOp0]
  all_goals first | (exact absurd rfl (hn _)) | skip
  all_goals repeat' first
    | exact NC.none
    | exact NC.some rfl
    | exact NC.map fun _ => rfl
    | refine NC.bind fun _ => ?_
    | split
theorem compBuiltin_nc {b : Builtin} {args : List Operand} {ts : List TypeId} : NC (compBuiltin P num b args ts) := by
  unfold compBuiltin
  repeat' first
    | exact NC.none
    | exact NC.some rfl
    | exact NC.map fun _ => rfl
    | refine NC.bind fun _ => ?_
    | split
theorem comp_call {q own' : Bool} {op : Op} {s : SOp} (h : compOp P num q own' op = some s) (hs : isCall s = true) : ∃ c, op = .call c ∧ compCall P num q own' c = some s := by
  by_cases hc : ∃ c, op = .call c
  · obtain ⟨c, rfl⟩ := hc
    rcases compOp_some h with h | rfl
    · exact ⟨c, rfl, by simpa [compOp0] using h⟩
    · simp [isCall] at hs
  · rcases compOp_some h with h | rfl
    · have := compOp_nc (P := P) (num := num) (q := q) (own' := own') (op := op) (fun c e => hc ⟨c, e⟩) s h
      rw [this] at hs; cases hs
    · simp [isCall] at hs
theorem all_no {own : Nat → List Nat} (h : ∀ t, own t = []) : own = no := funext h
/-- One operation of a region, as the region's rule has it. -/
def wpO (P : Program) (ops : Array Oper) (o : Oper) (K : Act → World → Prop) (Q : Exit → Act → World → Prop) (a : Act) (w : World) : Prop :=
  if Region.wanted o (yielded ops a.tmps) then o.wp P a w K Q ∨ (o.asks P a w ∧ LetsOut Q) else K (a.put o.dst undef) w
theorem compOper_some {ops : Array Oper} {q : Bool} {o : Oper} {s : SOper} (h : compOper P num nt.1 ops q o = some s) :
    (∀ x, x ∈ o.op.operands.toList → okOpd x = true) ∧ (∀ d, o.dst = some d → nt.1 d = true) ∧ (∃ own', compOp P num q own' o.op = some s.op) ∧ s.dst = o.dst ∧
      ((o.guard = none ∧ s.guard = none) ∨ ∃ j b t, o.guard = some (j, b) ∧ (ops[j]?).bind (·.dst) = some t ∧ s.guard = some (t, b)) := by
  unfold compOper at h
  split at h
  · cases h
  · rename_i hok
    simp only [Bool.not_eq_true, Bool.not_eq_false'] at hok
    simp only [okOper, Bool.and_eq_true, List.all_eq_true] at hok
    obtain ⟨op, hop, h⟩ := Option.bind_eq_some_iff.1 h
    refine ⟨hok.1, fun d hd => ?_, ?_⟩
    · have := hok.2; rw [hd] at this; simpa using this
    · split at h
      · rename_i hg
        injection h with h; subst h
        exact ⟨⟨_, hop⟩, rfl, .inl ⟨hg, rfl⟩⟩
      · rename_i j b hg
        split at h
        · rename_i t ht
          injection h with h; subst h
          exact ⟨⟨_, hop⟩, rfl, .inr ⟨j, b, t, hg, ht, rfl⟩⟩
        · cases h
theorem wanted_sound {ops : Array Oper} {q : Bool} {o : Oper} {s : SOper} (h : compOper P num nt.1 ops q o = some s) (S : St fid w0 A0 Cb nt w A ι a E H own) {b : Bool} (hw : wanted E s.guard = some b) : Region.wanted o (yielded ops a.tmps) = b := by
  obtain ⟨_, _, _, _, hg⟩ := compOper_some h
  rcases hg with ⟨h1, h2⟩ | ⟨j, c, t, h1, h2, h3⟩
  · rw [h2] at hw; simp [wanted] at hw
    simp [Region.wanted, h1, hw]
  · rw [h3] at hw
    simp only [wanted] at hw
    split at hw
    · rename_i x hx
      injection hw with hw; subst hw
      have l := S.lv t
      rw [hx] at l
      have e := l.inv_bool.1
      have ht : a.tmps[t]? = some (.bool x) := by
        rw [Array.getD_eq_getD_getElem?] at e
        cases hh : a.tmps[t]? with
        | none => rw [hh] at e; cases e
        | some y => rw [hh] at e; simp at e; rw [e]
      simp [Region.wanted, h1, yielded, h2, ht]
    · rename_i hx
      injection hw with hw; subst hw
      have l := S.lv t
      rw [hx] at l
      obtain ⟨vs, e, lvs⟩ := l.inv_tup
      have hvs : vs = [] := List.length_eq_zero_iff.1 lvs.length_eq
      subst hvs
      rw [Array.getD_eq_getD_getElem?] at e
      cases hh : a.tmps[t]? with
      | none => simp [Region.wanted, h1, yielded, h2, hh]
      | some y => rw [hh] at e; simp at e; subst e; simp [Region.wanted, h1, yielded, h2, hh]
    · cases hw
/-- An operation that is no call of the greater kind. -/
theorem stepX_sound {cl : Cl} (hr : ClR P fid cl.r) {ops : Array Oper} {q : Bool} {o : Oper} {s : SOper} (h : compOper P num nt.1 ops q o = some s) (S : St fid w0 A0 Cb nt w A ι a E H own) {d : D} {eat : Option Nat} {u : Option (Nat × Ob)}
    (he : stepX cl s E H = some (d, eat, u)) (hnum : ∀ f g, num f = some g → fid g = f) {K : Act → World → Prop} {Q : Exit → Act → World → Prop}
    (hK : ∀ a' w' A' O, St fid w0 A0 Cb nt w' A' ι a' (putE s.dst d (putE eat .un E)) (putH u H) (put1 (put1 own eat []) s.dst O) → K a' w') : wpO P ops o K Q a w := by
  obtain ⟨hk, hd, ⟨own', hop⟩, hdst, _⟩ := compOper_some h
  unfold stepX at he
  unfold wpO
  split at he
  · rename_i hw
    rw [wanted_sound h S hw, if_pos rfl]
    obtain ⟨⟨d1, u1⟩, h1, h2⟩ := Option.map_eq_some_iff.1 he
    simp only [Prod.mk.injEq] at h2
    obtain ⟨rfl, rfl, rfl⟩ := h2
    refine .inl (evX_sound hnum hr S.lv S.ob S.al hk hop h1 K Q fun v w' A' O X => ?_)
    have := S.step X (dst := o.dst) hd
    rw [hdst] at hK
    exact hK _ w' A' O this
  · rename_i hw
    rw [wanted_sound h S hw, if_neg (by simp)]
    injection he with he
    simp only [Prod.mk.injEq] at he
    obtain ⟨rfl, rfl, rfl⟩ := he
    have X : XR fid w w A A ι H (eaten own none) undef (.tup []) none [] := XR.val (.tup [] [] [] .nil)
    have := S.step X (dst := o.dst) hd
    rw [hdst] at hK
    exact hK _ w A [] this
  · cases he
include hnum in
theorem args_no {xs : List Operand} (S : St fid w0 A0 Cb nt w A ι a E H no) (hk : ∀ x, x ∈ xs → okOpd x = true) : LVs fid w A ι true (xs.map a.eval) (xs.map fun x => ov E (opd num x)) [] := by
  induction xs with
  | nil => exact .nil
  | cons x xs ih =>
    have l := lv_opd hnum S.lv x (hk x (by simp))
    have e : ownX no x = [] := by cases x <;> rfl
    rw [e] at l
    exact LVs.cons' l (ih (fun y hy => hk y (by simp [hy])))
theorem St.obsO (S : St fid w0 A0 Cb nt w A ι a E H own) : Obs fid (fun b => Cb b ∧ ∀ t, b ∉ own t) w A ι H :=
  ⟨S.al, fun b h => ⟨S.cb b (Nat.le_trans S.kp.size h), fun t hb => by have := S.own_lt t b hb; omega⟩, S.ob,
    ⟨S.sp.len, fun i b ha hi => ⟨S.sp.ib i b ha hi, fun t hb => S.sp.to t b i hb ha hi⟩, S.sp.inj, by simp, by simp, by simp, by simp⟩⟩
theorem St.of_obsO (S : St fid w0 A0 Cb nt w A ι a E H own) (K : Keep w w' A A' (fun b => Cb b ∧ ∀ t, b ∉ own t)) (hx : Ext ι ι') (B : Obs fid (fun b => Cb b ∧ ∀ t, b ∉ own t) w' A' ι' H') : St fid w0 A0 Cb nt w' A' ι' a E H' own :=
  ⟨S.kp.trans K (fun b h => .inl h) (fun b h => .inl h.1), B.al, S.cb, S.sz, S.fx, S.df, fun t => LV.keep K hx (S.lv t) (fun b hb hc => hc.2 t hb), B.ob,
    ⟨B.sp.len, fun i b ha hi => (B.sp.ib i b ha hi).1, B.sp.inj, S.sp.tb, fun t b i hb ha hi => (B.sp.ib i b ha hi).2 t hb, S.sp.nd, S.sp.ap⟩⟩
include hnum in
theorem args_nt {xs : List Operand} (S : St fid w0 A0 Cb nt w A ι a E H own) (hk : ∀ x, x ∈ xs → okOpd x = true) (hn : ∀ t, t ∈ rdOs (xs.map (opd num)) → noTree (lk E t) = true) : LVs fid w A ι true (xs.map a.eval) (xs.map fun x => ov E (opd num x)) [] := by
  induction xs with
  | nil => exact .nil
  | cons x xs ih =>
    have l := lv_opd hnum S.lv x (hk x (by simp))
    have e : ownX own x = [] := by
      cases x with
      | tmp t => exact (S.lv t).noTree (hn t (by simp [rdOs, opd, rdO]))
      | _ => rfl
    rw [e] at l
    refine LVs.cons' l (ih (fun y hy => hk y (by simp [hy])) (fun t ht => hn t ?_))
    simp only [rdOs, List.map_cons, List.flatMap_cons] at ht ⊢
    exact List.mem_append_right _ ht
/-- A call of the greater kind. -/
theorem stepW_sound {cl : Cl} (hcw : ClW P fid cl.w) {ops : Array Oper} {q : Bool} {o : Oper} {s : SOper} (h : compOper P num nt.1 ops q o = some s) (S : St fid w0 A0 Cb nt w A ι a E H own) (hcall : isCall s.op = true) (hnt : ∀ t, t ∈ rdS s → noTree (lk E t) = true)
    (he : stepO cl s E H = some (E', H')) (hnum : ∀ f g, num f = some g → fid g = f) {K : Act → World → Prop} {Q : Exit → Act → World → Prop}
    (hK : ∀ a' w' A' ι', St fid w0 A0 Cb nt w' A' ι' a' E' H' (put1 own s.dst []) → Ext ι ι' → K a' w') : wpO P ops o K Q a w := by
  obtain ⟨hk, hd, ⟨own', hop⟩, hdst, _⟩ := compOper_some h
  unfold stepO at he
  rw [if_pos hcall] at he
  · unfold wpO
    split at he
    · rename_i hw
      rw [wanted_sound h S hw, if_pos rfl]
      left
      obtain ⟨⟨d, H1⟩, h1, h2⟩ := Option.map_eq_some_iff.1 he
      simp only [Prod.mk.injEq] at h2
      obtain ⟨rfl, rfl⟩ := h2
      -- behind the call
      have fin : ∀ (g : Nat) (as : List D) (vs : List Value), cl.w g as H = some (d, H1) → LVs fid w A ι true vs as [] → (Entered P (fid g) → (execOp a.eval o).run P w = .ok (.enter (fid g) ⟨vs⟩) w) → o.wp P a w K Q := by
        intro g as vs hh l hrun
        obtain ⟨hent, hc⟩ := hcw g as H d H1 hh
        unfold Oper.wp
        rw [hrun hent, Oper.upon_enter]
        refine Calls.mono (hc w A ι _ vs S.obsO l) fun e w' hx => ?_
        obtain ⟨v, A', ι', rfl, K1, hext, B, lv⟩ := hx
        have S1 := S.of_obsO K1 hext B
        have S2 := S1.put (dst := o.dst) hd lv
        rw [← hdst] at S2
        have := hK _ w' A' ι' S2 hext
        rwa [hdst] at this
      obtain ⟨c, ho, hc⟩ := comp_call hop hcall
      rw [ho] at hk
      obtain ⟨callee, args, ts⟩ := c
      simp only [compCall] at hc
      split at hc
      · rename_i f
        obtain ⟨g, hg, hse⟩ := Option.map_eq_some_iff.1 hc
        have hfg := hnum f g hg
        subst hfg
        split at hse
        · rw [← hse] at hcall; cases hcall
        rw [← hse] at hcall h1
        cases q with
        | true => cases hcall
        | false =>
          simp only [evCall] at h1
          rw [ovs_opds] at h1
          have l := args_nt hnum (xs := args.toList) S (fun x hx => hk x (by simp [Op.operands, Call.operands]; exact .inr (by simpa using hx))) (fun t ht => hnt t (by rw [rdS, ← hse]; exact List.mem_append_left _ (by simpa [rdX, opds] using ht)))
          refine fin g _ _ h1 l fun hent => ?_
          have he : (⟨args.toList.map a.eval⟩ : Array Value) = args.map a.eval := by apply Array.ext'; simp
          rw [he]
          have := run_callFunc_enter (w := w) (args := args.map a.eval) hent
          simpa [execOp, ho, resolve, Deferred.ofValue, Act.eval, invoke, Sem.run_bind] using this
      · rename_i t
        injection hc with hse
        rw [← hse] at hcall h1
        cases q with
        | true => cases hcall
        | false =>
          simp only [evCall, ov] at h1
          split at h1
          · rename_i g caps e1
            rw [ovs_opds] at h1
            have l := args_nt hnum (xs := args.toList) S (fun x hx => hk x (by simp [Op.operands, Call.operands]; exact .inr (by simpa using hx))) (fun t ht => hnt t (by rw [rdS, ← hse]; exact List.mem_append_left _ (List.mem_append_right _ (by simpa [opds] using ht))))
            have lf := S.lv t
            rw [lf.noTree (hnt t (by rw [rdS, ← hse]; exact List.mem_append_left _ (List.mem_append_left _ (by simp [rdO]))))] at lf
            rw [e1] at lf
            obtain ⟨cv, ef, lc⟩ := lf.inv_fn
            have lall : LVs fid w A ι true (args.toList.map a.eval ++ cv) (args.toList.map (fun x => ov E (opd num x)) ++ caps) [] := l.append lc
            refine fin g _ _ h1 lall fun hent => ?_
            have he : (⟨args.toList.map a.eval ++ cv⟩ : Array Value) = args.map a.eval ++ ⟨cv⟩ := by apply Array.ext'; simp
            rw [he]
            have := run_callFunc_enter (w := w) (args := args.map a.eval ++ ⟨cv⟩) hent
            have hev : a.eval (.tmp t) = .func (.func (fid g)) #[] ⟨cv⟩ := ef
            simp only [execOp, ho, resolve, hev, Deferred.ofValue, invoke, Sem.run_bind, Sem.run_pure, Result.andThen_ok, Array.empty_append]
            exact this
          · cases h1
      · have := compBuiltin_nc _ hc
        rw [this] at hcall; cases hcall
      · cases hc
    · rename_i hw
      rw [wanted_sound h S hw, if_neg (by simp)]
      injection he with he
      simp only [Prod.mk.injEq] at he
      obtain ⟨rfl, rfl⟩ := he
      have S2 := S.put (dst := o.dst) hd (LV.tup (r := true) [] [] [] .nil)
      rw [← hdst] at S2
      have := hK _ w A ι S2 (Ext.refl _)
      rwa [hdst] at this
    · cases he
/-- An operation that all others wait for, or of a region in the text's order. -/
theorem stepO_sound {cl : Cl} (hr : ClR P fid cl.r) (hcw : ClW P fid cl.w) {ops : Array Oper} {q : Bool} {o : Oper} {s : SOper} (h : compOper P num nt.1 ops q o = some s) (S : St fid w0 A0 Cb nt w A ι a E H no)
    (he : stepO cl s E H = some (E', H')) (hnum : ∀ f g, num f = some g → fid g = f) {K : Act → World → Prop} {Q : Exit → Act → World → Prop}
    (hK : ∀ a' w' A' ι', St fid w0 A0 Cb nt w' A' ι' a' E' H' no → Ext ι ι' → K a' w') : wpO P ops o K Q a w := by
  obtain ⟨hk, hd, ⟨own', hop⟩, hdst, _⟩ := compOper_some h
  unfold stepO at he
  split at he
  · rename_i hcall
    unfold wpO
    split at he
    · rename_i hw
      rw [wanted_sound h S hw, if_pos rfl]
      left
      obtain ⟨⟨d, H1⟩, h1, h2⟩ := Option.map_eq_some_iff.1 he
      simp only [Prod.mk.injEq] at h2
      obtain ⟨rfl, rfl⟩ := h2
      -- behind the call
      have fin : ∀ (g : Nat) (as : List D) (vs : List Value), cl.w g as H = some (d, H1) → LVs fid w A ι true vs as [] → (Entered P (fid g) → (execOp a.eval o).run P w = .ok (.enter (fid g) ⟨vs⟩) w) → o.wp P a w K Q := by
        intro g as vs hh l hrun
        obtain ⟨hent, hc⟩ := hcw g as H d H1 hh
        unfold Oper.wp
        rw [hrun hent, Oper.upon_enter]
        refine Calls.mono (hc w A ι Cb vs (S.obs rfl) l) fun e w' hx => ?_
        obtain ⟨v, A', ι', rfl, K1, hext, B, lv⟩ := hx
        have S1 := S.of_obs rfl K1 hext B
        have S2 := S1.put (dst := o.dst) hd lv
        have e : put1 no o.dst [] = no := by funext t; simp [put1, no]
        rw [e, ← hdst] at S2
        have := hK _ w' A' ι' S2 hext
        rwa [hdst] at this
      obtain ⟨c, ho, hc⟩ := comp_call hop hcall
      rw [ho] at hk
      obtain ⟨callee, args, ts⟩ := c
      simp only [compCall] at hc
      split at hc
      · rename_i f
        obtain ⟨g, hg, hse⟩ := Option.map_eq_some_iff.1 hc
        have hfg := hnum f g hg
        subst hfg
        split at hse
        · rw [← hse] at hcall; cases hcall
        rw [← hse] at hcall h1
        cases q with
        | true => cases hcall
        | false =>
          simp only [evCall] at h1
          rw [ovs_opds] at h1
          have l := args_no hnum (xs := args.toList) S (fun x hx => hk x (by simp [Op.operands, Call.operands]; exact .inr (by simpa using hx)))
          refine fin g _ _ h1 l fun hent => ?_
          have he : (⟨args.toList.map a.eval⟩ : Array Value) = args.map a.eval := by apply Array.ext'; simp
          rw [he]
          have := run_callFunc_enter (w := w) (args := args.map a.eval) hent
          simpa [execOp, ho, resolve, Deferred.ofValue, Act.eval, invoke, Sem.run_bind] using this
      · rename_i t
        injection hc with hse
        rw [← hse] at hcall h1
        cases q with
        | true => cases hcall
        | false =>
          simp only [evCall, ov] at h1
          split at h1
          · rename_i g caps e1
            rw [ovs_opds] at h1
            have l := args_no hnum (xs := args.toList) S (fun x hx => hk x (by simp [Op.operands, Call.operands]; exact .inr (by simpa using hx)))
            have lf := S.lv t
            rw [e1] at lf
            obtain ⟨cv, ef, lc⟩ := lf.inv_fn
            have lall : LVs fid w A ι true (args.toList.map a.eval ++ cv) (args.toList.map (fun x => ov E (opd num x)) ++ caps) [] := l.append lc
            refine fin g _ _ h1 lall fun hent => ?_
            have he : (⟨args.toList.map a.eval ++ cv⟩ : Array Value) = args.map a.eval ++ ⟨cv⟩ := by apply Array.ext'; simp
            rw [he]
            have := run_callFunc_enter (w := w) (args := args.map a.eval ++ ⟨cv⟩) hent
            have hev : a.eval (.tmp t) = .func (.func (fid g)) #[] ⟨cv⟩ := ef
            simp only [execOp, ho, resolve, hev, Deferred.ofValue, invoke, Sem.run_bind, Sem.run_pure, Result.andThen_ok, Array.empty_append]
            exact this
          · cases h1
      · have := compBuiltin_nc _ hc
        rw [this] at hcall; cases hcall
      · cases hc
    · rename_i hw
      rw [wanted_sound h S hw, if_neg (by simp)]
      injection he with he
      simp only [Prod.mk.injEq] at he
      obtain ⟨rfl, rfl⟩ := he
      have S2 := S.put (dst := o.dst) hd (LV.tup (r := true) [] [] [] .nil)
      have e : put1 no o.dst [] = no := by funext t; simp [put1, no]
      rw [e, ← hdst] at S2
      have := hK _ w A ι S2 (Ext.refl _)
      rwa [hdst] at this
    · cases he
  · obtain ⟨⟨d, eat, u⟩, h1, h2⟩ := Option.map_eq_some_iff.1 he
    refine stepX_sound hr h S h1 hnum fun a' w' A' O S1 => ?_
    simp only at h2
    split at h2
    · rename_i hdn
      simp only [Prod.mk.injEq] at h2
      obtain ⟨rfl, rfl⟩ := h2
      rw [hdn] at S1
      have e : put1 (put1 no eat []) none O = no := by funext t; simp [put1, no]
      rw [e] at S1
      exact hK a' w' A' ι S1 (Ext.refl _)
    · rename_i t hdt
      simp only [Prod.mk.injEq] at h2
      obtain ⟨rfl, rfl⟩ := h2
      rw [hdt] at S1
      obtain ⟨ι', S2, hx⟩ := S1.settle1 t
      have e1 : lk (putE (some t) d (putE eat .un E)) t = d := by simp [putE, lk]
      rw [e1] at S2
      have e : put1 (put1 (put1 no eat []) (some t) O) (some t) [] = no := by
        funext t'; simp only [put1, no]
        by_cases x : some t = some t' <;> simp [x]
      rw [e] at S2
      refine hK a' w' A' ι' (S2.lk fun t' => ?_) hx
      simp only [putE, lk]
      by_cases x : t = t' <;> simp [x]
end
end Lg
