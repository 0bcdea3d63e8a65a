import Derived.Test.YtflnllohghgpdaaLgY1
/-
  Slots settled; values told anew, read alone or handed over.
-/
namespace Lg
open Go
set_option linter.unusedVariables false
set_option linter.unusedSimpArgs false
set_option linter.unusedSectionVars false

theorem LV.isRO_own {fid : Nat → FuncId} {w : World} {A : Av} {ι : Io} : ∀ {r : Bool} {v : Value} {d : D} {O : List Nat}, LV fid w A ι r v d O → isRO d = true → O = [] := by
  intro r v d O h
  refine LV.rec (motive_1 := fun r v d O _ => isRO d = true → O = []) (motive_2 := fun r vs ds O _ => isROs ds = true → O = [])
    ?_ ?_ ?_ ?_ ?_ ?_ ?_ ?_ ?_ ?_ ?_ ?_ ?_ ?_ ?_ ?_ ?_ ?_ ?_ h <;> intros <;> first | rfl | (rename_i ih e; exact ih (by simpa [isRO] using e)) | (rename_i e; simp [isRO] at e; done) | skip
  rename_i ih1 ih2 e
  simp only [isROs, Bool.and_eq_true] at e
  rw [ih1 e.1, ih2 e.2]; rfl
section
variable {fid : Nat → FuncId} {w0 : World} {A0 : Av} {Cb : Nat → Prop} {nt : Nt} {w : World} {A : Av} {ι : Io} {a : Act} {E : Env} {H : List Ob} {own : Nat → List Nat}
theorem obAt_ge {H : List Ob} {i : Nat} (h : H.length ≤ i) : obAt H i = .dead := by unfold obAt; rw [List.getElem?_eq_none h]; rfl
/-- A value that a slot has of its own becomes objects. -/
theorem St.settle1 (S : St fid w0 A0 Cb nt w A ι a E H own) (t : Nat) : ∃ ι', St fid w0 A0 Cb nt w A ι' a ((t, (unf (lk E t) H).1) :: E) (unf (lk E t) H).2 (put1 own (some t) []) ∧ ∀ i q, ι i = some q → ι' i = some q := by
  obtain ⟨ι', N, l⟩ := unf_sound_both (S.lv t) ι H (fun _ _ h => h) S.sp.len (S.sp.nd t)
  have hext := N.ext S.sp.len
  have hobO : ∀ i, i < H.length → obAt (unf (lk E t) H).2 i = obAt H i := fun i hi => by unfold obAt; rw [N.pre i hi]
  have hown : ∀ t' b, b ∈ put1 own (some t) [] t' → t' ≠ t ∧ b ∈ own t' := by
    intro t' b h
    unfold put1 at h
    split at h
    · simp at h
    · rename_i e; exact ⟨fun e' => e (by rw [e']), h⟩
  refine ⟨ι', ⟨S.kp, S.al, S.cb, S.sz, S.fx, S.df, fun t' => ?_, fun i => ?_, ⟨N.out, fun i b ha hi => ?_, fun i j b ha hb hi hj => ?_, fun t' b h => ?_, fun t' b i h ha hi => ?_, fun t' => ?_, fun t1 t2 b h1 h2 => ?_⟩⟩, hext⟩
  · simp only [lk, put1, Option.some.injEq]
    by_cases e : t = t'
    · subst e; simp only [if_pos]; exact l
    · rw [if_neg e, if_neg e]
      exact LV.keep (Keep.refl w A (fun _ => False)) hext (S.lv t') (by simp)
  · rcases Nat.lt_or_ge i H.length with hl | hl
    · rw [hobO i hl, N.io i hl]
      exact (S.ob i).keep (Keep.refl w A (fun _ => False)) hext (by simp)
    · rcases Nat.lt_or_ge i (unf (lk E t) H).2.length with hl2 | hl2
      · exact (N.ok i hl hl2).1
      · rw [obAt_ge hl2]; trivial
  · rcases Nat.lt_or_ge i H.length with hl | hl
    · rw [hobO i hl] at ha; rw [N.io i hl] at hi; exact S.sp.ib i b ha hi
    · exact S.sp.tb t b (N.blk i b hl hi)
  · rcases Nat.lt_or_ge i H.length with hl | hl
    · rw [hobO i hl] at ha; rw [N.io i hl] at hi
      rcases Nat.lt_or_ge j H.length with hl2 | hl2
      · rw [hobO j hl2] at hb; rw [N.io j hl2] at hj
        exact S.sp.inj i j b ha hb hi hj
      · exact (S.sp.to t b i (N.blk j b hl2 hj) ha hi).elim
    · rcases Nat.lt_or_ge j H.length with hl2 | hl2
      · rw [hobO j hl2] at hb; rw [N.io j hl2] at hj
        exact (S.sp.to t b j (N.blk i b hl hi) hb hj).elim
      · exact N.inj i j b hl hl2 hi hj
  · exact S.sp.tb t' b (hown t' b h).2
  · obtain ⟨hne, hb⟩ := hown t' b h
    rcases Nat.lt_or_ge i H.length with hl | hl
    · rw [hobO i hl] at ha; rw [N.io i hl] at hi
      exact S.sp.to t' b i hb ha hi
    · exact hne (S.sp.ap t' t b hb (N.blk i b hl hi))
  · unfold put1
    split
    · simp
    · exact S.sp.nd t'
  · obtain ⟨n1, b1⟩ := hown t1 b h1
    obtain ⟨n2, b2⟩ := hown t2 b h2
    exact S.sp.ap t1 t2 b b1 b2
theorem St.own_none (S : St fid w0 A0 Cb nt w A ι a E H own) {t : Nat} (h : noTree (lk E t) = true) : own t = [] := (S.lv t).noTree h
theorem St.settle : ∀ (ts : List Nat) {ι : Io} {E : Env} {H : List Ob} {own : Nat → List Nat}, St fid w0 A0 Cb nt w A ι a E H own → ∃ ι' own', St fid w0 A0 Cb nt w A ι' a (settle ts E H).1 (settle ts E H).2 own' ∧ (∀ t, t ∈ ts ∨ own t = [] → own' t = []) ∧ ∀ i q, ι i = some q → ι' i = some q
  | [], ι, E, H, own, S => ⟨ι, own, S, by intro t h; rcases h with h | h; simp at h; exact h, fun _ _ h => h⟩
  | t :: ts, ι, E, H, own, S => by
    unfold Lg.settle
    split
    · rename_i hro
      obtain ⟨ι', own', S', h', hx⟩ := St.settle ts S
      refine ⟨ι', own', S', fun t' h => ?_, hx⟩
      rcases h with h | h
      · rcases List.mem_cons.1 h with h | h
        · subst h; exact h' _ (.inr ((S.lv _).isRO_own hro))
        · exact h' _ (.inl h)
      · exact h' _ (.inr h)
    · obtain ⟨ι1, S1, x1⟩ := S.settle1 t
      obtain ⟨ι', own', S', h', hx⟩ := St.settle ts S1
      refine ⟨ι', own', S', fun t' h => ?_, fun i q hq => hx i q (x1 i q hq)⟩
      by_cases e : t = t'
      · subst e; exact h' _ (.inr (by simp [put1]))
      · rcases h with h | h
        · rcases List.mem_cons.1 h with h | h
          · exact (e h.symm).elim
          · exact h' _ (.inl h)
        · exact h' _ (.inr (by unfold put1; rw [if_neg (by simpa using e)]; exact h))
end

/-! ### more may be written -/
theorem LV.wide_both {fid : Nat → FuncId} {w : World} {A A' : Av} {ι : Io} (hA : ∀ b off, A b off → A' b off) :
    (∀ {r : Bool} {v : Value} {d : D} {O : List Nat}, LV fid w A ι r v d O → plain d = true → LV fid w A' ι r v d O) ∧
    (∀ {r : Bool} {vs : List Value} {ds : List D} {O : List Nat}, LVs fid w A ι r vs ds O → plains ds = true → LVs fid w A' ι r vs ds O) := by
  have flatp : ∀ ds : List D, plains ds = true → plains (flat ds) = true := by
    have app : ∀ l1 l2 : List D, plains l1 = true → plains l2 = true → plains (l1 ++ l2) = true := by
      intro l1 l2 h1 h2
      induction l1 with
      | nil => exact h2
      | cons d l1 ih => simp only [List.cons_append, plains, Bool.and_eq_true] at h1 ⊢; exact ⟨h1.1, ih h1.2⟩
    intro ds h
    induction ds with
    | nil => rfl
    | cons d ds ih =>
      simp only [plains, Bool.and_eq_true] at h
      rw [flat_cons]
      refine app _ _ ?_ (ih h.2)
      have h1 := h.1
      cases d <;> simp only [D.cells, plains, Bool.and_true] <;> first | exact h1 | (simpa [plain] using h1)
  have key : ∀ {r : Bool} {v : Value} {d : D} {O : List Nat}, LV fid w A ι r v d O → plain d = true → LV fid w A' ι r v d O := by
    intro r v d O h
    refine LV.rec (motive_1 := fun r v d O _ => plain d = true → LV fid w A' ι r v d O) (motive_2 := fun r vs ds O _ => plains ds = true → LVs fid w A' ι r vs ds O)
      ?_ ?_ ?_ ?_ ?_ ?_ ?_ ?_ ?_ ?_ ?_ ?_ ?_ ?_ ?_ ?_ ?_ ?_ ?_ h
    · intro r v h _; exact .sc v h
    · intro r v _; exact .un v
    · intro r v h _; exact .uk v h
    · intro r _; exact .nl
    · intro r a _; exact .sn a
    · intro r f vs ds O _ ih e; exact .fn f vs ds O (ih e)
    · intro r vs ds O _ ih e; exact .agg vs ds O (ih e)
    · intro r vs ds O _ ih e; exact .tup vs ds O (ih e)
    · intro r a n cap sz ds vs hn hc hu h h1 hr ih e
      cases ds with
      | cons => simp [plain, isNil] at e
      | nil =>
        have : vs = [] := h.nil_of
        subst this
        exact .sl a n cap sz [] [] hn hc hu .nil h1 (by simp)
    · intro r ad ds vs h h1 hr ih e
      cases ds with
      | cons => simp [plain, isNil] at e
      | nil =>
        have : vs = [] := h.nil_of
        subst this
        exact .ep ad [] [] .nil h1 (by simp)
    · intro r a wr sz e; exact .osln a wr sz
    · intro r b cap sz wr ds vs cs T fr hb hf hu h h1 hr hc hs ha hA' ih e
      exact .osl b cap sz wr ds vs cs T fr hb hf hu (ih (flatp ds (by simpa [plain] using e))) h1 hr hc hs (fun e off => hA _ _ (ha e off)) (fun off ho => hA _ _ (hA' off ho))
    · intro r b vs ds O T fr hb hf _ h1 hA' ih e; exact .obx b vs ds O T fr hb hf (ih (by simpa [plain] using e)) h1 (fun off => hA _ _ (hA' off))
    · intro r b es c ks xs hb _ _ hA' ih1 ih2 e
      simp only [plain, Bool.and_eq_true] at e
      exact .omp b es c ks xs hb (ih1 e.1) (ih2 e.2) (fun off => hA _ _ (hA' off))
    · intro a id sz off len cap q hi h0 h1 e; exact .rf a id sz off len cap q hi h0 h1
    · intro id sz e off b hi e'; exact .pt id sz e off b hi
    · intro id b hi e; exact .mp id b hi
    · intro r _; exact .nil
    · intro r v d O vs ds Os _ _ ih1 ih2 e
      simp only [plains, Bool.and_eq_true] at e
      exact .cons v d O vs ds Os (ih1 e.1) (ih2 e.2)
  refine ⟨key, ?_⟩
  intro r vs
  induction vs with
  | nil => intro ds O h _; cases h; exact .nil
  | cons v vs ih =>
    intro ds O h e
    cases h with
    | cons _ d O1 _ ds O2 h hs =>
      simp only [plains, Bool.and_eq_true] at e
      exact .cons v d O1 vs ds O2 (key h e.1) (ih hs e.2)
end Lg
