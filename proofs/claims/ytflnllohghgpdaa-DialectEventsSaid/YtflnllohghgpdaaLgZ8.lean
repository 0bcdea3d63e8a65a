import Derived.Test.YtflnllohghgpdaaLgZ7
/-
  Loops: what is live is folded into trees, each round.
-/
namespace Lg
open Go
set_option linter.unusedVariables false
set_option linter.unusedSimpArgs false
set_option linter.unusedSectionVars false

theorem wp_loop_n {P : Program} {Q : Exit → Act → World → Prop} {a : Act} {w : World} {c : Code} (I : Nat → Act → World → Prop) (n : Nat) (h₀ : I n a w)
    (round : ∀ n a w, I n a w → c.wp P (Exit.then (fun a' w' => ∃ m, m < n ∧ I m a' w') Q) a w) : (Code.loop c).wp P Q a w := by
  intro b k cs
  have key : ∀ n a w, I n a w → ∃ e a' w', Q e a' w' ∧ Arrives P (lone (b.at a (.code c :: .inLoop c :: k)) cs w) b k cs e a' w' := by
    intro n
    induction n using Nat.strongRecOn with
    | _ n ih =>
      intro a w hI
      obtain ⟨e, a₁, w₁, hq, harr⟩ := round n a w hI b (.inLoop c :: k) cs
      cases e with
      | normal =>
        obtain ⟨m, hlt, hI₁⟩ := hq
        obtain ⟨e₂, a₂, w₂, hq₂, harr₂⟩ := ih m hlt a₁ w₁ hI₁
        exact ⟨e₂, a₂, w₂, hq₂, .of_steps (Steps.trans harr (.one step_inLoop)) harr₂⟩
      | exit id => exact ⟨_, a₁, w₁, hq, .pass (x := .inLoop c) rfl (fun _ _ => .inl (by simp)) harr⟩
      | goto l => exact ⟨_, a₁, w₁, hq, .pass (x := .inLoop c) rfl (fun _ _ => .inl (by simp)) harr⟩
      | ret => exact ⟨_, a₁, w₁, hq, .pass (x := .inLoop c) rfl (fun _ _ => .inl (by simp)) harr⟩
      | panic ch => exact ⟨_, a₁, w₁, hq, .pass (x := .inLoop c) rfl (fun _ _ => .inl (by simp)) harr⟩
      | outgrown => exact ⟨_, a₁, w₁, hq, .pass (x := .inLoop c) rfl (fun _ _ => .inl (by simp)) harr⟩
  obtain ⟨e, a', w', hq, harr⟩ := key n a w h₀
  exact ⟨e, a', w', hq, .of_steps (.one step_loop) harr⟩

section
variable {P : Program} {num : FuncId → Option Nat} {fid : Nat → FuncId}
  {w0 : World} {A0 : Av} {Cb : Nat → Prop} {nt : Nt} {w : World} {A : Av} {ι : Io} {a : Act} {E E' : Env} {H H' : List Ob} {own : Nat → List Nat} {cl : Cl} {Q : Exit → Act → World → Prop}
theorem canon_lv {m : Mode} {r : Bool} {v : Value} {d : D} {O : List Nat} (h : LV fid w A ι r v d O) : LV fid w A ι r v (canon m d) O := by
  cases h with
  | sn ad =>
    simp only [canon]
    split
    · exact .sn ad
    · exact .osln ad _ _
  | osln ad wr sz => exact .osln ad _ _
  | osl b cap sz wr ds vs cs T fr hb hf hu h h1 hr hc hs ha hA =>
    exact .osl b cap sz _ ds vs cs T fr hb hf hu h h1 hr hc hs (fun e => ha (by simp at e; exact e.1)) hA
  | sc v h => exact .sc v h
  | un v => exact .un v
  | uk v h => exact .uk v h
  | nl => exact .nl
  | fn f vs ds O h => exact .fn f vs ds _ h
  | agg vs ds O h => exact .agg vs ds _ h
  | tup vs ds O h => exact .tup vs ds _ h
  | sl a n cap sz ds vs hn hc hu h h1 hr => exact .sl a n cap sz ds vs hn hc hu h h1 hr
  | ep ad ds vs h h1 hr => exact .ep ad ds vs h h1 hr
  | obx b vs ds O T fr hb hf h h1 hA => exact .obx b vs ds O T fr hb hf h h1 hA
  | omp b es c ks xs hb hk hx hA => exact .omp b es c ks xs hb hk hx hA
  | rf a id sz off len cap q hi h0 h1 => exact .rf a id sz off len cap q hi h0 h1
  | pt id sz e off b hi => exact .pt id sz e off b hi
  | mp id b hi => exact .mp id b hi
/-- Where no object has a block, it may be written as before. -/
def Spare (ι : Io) (H : List Ob) (A A1 : Av) : Prop := ∀ b, (∀ i, alive (obAt H i) = true → ι i ≠ some (some b)) → ∀ off, A b off → A1 b off
theorem foldM_sound {m : Mode} {v : Value} {d d' : D} (S : St fid w0 A0 Cb nt w A ι a E H no) (l : LV fid w A ι true v d []) (h : foldM m d H = some (d', H')) :
    ∃ A1 O, (∀ b off, A1 b off → A b off) ∧ Spare ι H A A1 ∧ LV fid w A1 (fun _ => none) false v d' O ∧ O.Nodup ∧ (∃ I, Mix H H' I) ∧ Taken ι H H' O ∧ St fid w0 A0 Cb nt w A1 ι a E H' no := by
  unfold foldM at h
  split at h
  · obtain ⟨⟨d1, H1⟩, h1, h2⟩ := Option.map_eq_some_iff.1 h
    simp only [Prod.mk.injEq] at h2
    obtain ⟨rfl, rfl⟩ := h2
    obtain ⟨O, l1, n1, g1, t1⟩ := fld_sound (ι' := fun _ => none) depth v d d1 H H1 l S.ob S.inj h1
    have S' := S.freeze g1.mix
    have e : less A ι H [] = A := by funext b off; simp [less, Fz]
    rw [e] at S'
    exact ⟨A, O, fun _ _ h => h, fun _ _ _ h => h, canon_lv l1, n1, ⟨[], g1.mix⟩, t1, S'⟩
  · have hR := less_out A ι H (idsD d)
    obtain ⟨l1, f1⟩ := rof_sound (fz := true) (ι' := fun _ => none) (less_le A ι H (idsD d)) l H H' d' (owOK S.ob) hR (by simp) h
    simp only [if_true] at f1
    refine ⟨less A ι H (idsD d), [], less_le _ _ _ _, fun b hb off hA => ⟨hA, ?_⟩, l1, List.nodup_nil, ⟨_, f1.mix⟩, by intro b hb; simp at hb, S.freeze f1.mix⟩
    rintro ⟨i, wr, sz, ds, g1, g2, g3, g4⟩
    exact hb i (by rw [g3]; rfl) g2
def vals (a : Act) (live : List (Nat × Mode)) : List Value := live.map fun p => a.tmps.getD p.1 undef
theorem foldL_sound : ∀ (live : List (Nat × Mode)) {A : Av} {H : List Ob} {ts : List D} {H' : List Ob}, St fid w0 A0 Cb nt w A ι a E H no → foldL live E H = some (ts, H') →
    ∃ A1 O, (∀ b off, A1 b off → A b off) ∧ Spare ι H A A1 ∧ LVs fid w A1 (fun _ => none) false (vals a live) ts O ∧ O.Nodup ∧ (∃ I, Mix H H' I) ∧ Taken ι H H' O ∧ St fid w0 A0 Cb nt w A1 ι a E H' no
  | [], A, H, ts, H', S, h => by
    simp only [foldL, Option.some.injEq, Prod.mk.injEq] at h
    obtain ⟨rfl, rfl⟩ := h
    exact ⟨A, [], fun _ _ h => h, fun _ _ _ h => h, .nil, List.nodup_nil, ⟨[], (Gone.refl H).mix⟩, by intro b hb; simp at hb, S⟩
  | (t, m) :: live, A, H, ts, H', S, h => by
    simp only [foldL] at h
    obtain ⟨⟨ts2, H2⟩, h2, h⟩ := Option.map_eq_some_iff.1 h
    simp only [Prod.mk.injEq] at h
    obtain ⟨rfl, rfl⟩ := h
    have one : ∃ A1 O1, (∀ b off, A1 b off → A b off) ∧ Spare ι H A A1 ∧ LV fid w A1 (fun _ => none) false (a.tmps.getD t undef) ((foldM m (lk E t) H).getD (.un, H)).1 O1 ∧ O1.Nodup ∧ (∃ I, Mix H ((foldM m (lk E t) H).getD (.un, H)).2 I) ∧ Taken ι H ((foldM m (lk E t) H).getD (.un, H)).2 O1 ∧ St fid w0 A0 Cb nt w A1 ι a E ((foldM m (lk E t) H).getD (.un, H)).2 no := by
      cases hh : foldM m (lk E t) H with
      | none => exact ⟨A, [], fun _ _ h => h, fun _ _ _ h => h, .un _, List.nodup_nil, ⟨[], (Gone.refl H).mix⟩, by intro b hb; simp at hb, S⟩
      | some p => exact foldM_sound S (S.lv t) hh
    revert h2
    generalize (foldM m (lk E t) H).getD (.un, H) = p at one
    intro h2
    obtain ⟨d1, H1⟩ := p
    simp only at h2 one ⊢
    obtain ⟨A1, O1, a1, s1, l1, n1, ⟨I1, m1⟩, t1, S1⟩ := one
    obtain ⟨A2, O2, a2, s2, l2, n2, ⟨I2, m2⟩, t2, S2⟩ := foldL_sound live S1 h2
    have hdead : ∀ b, b ∈ O1 → ∀ i, alive (obAt H1 i) = true → ι i ≠ some (some b) := by
      intro b hb i ha hi
      obtain ⟨j, e1, e2, e3⟩ := t1 b hb
      have := S.inj j i b e2 (m1.alive ha) e1 hi
      subst this
      rw [e3] at ha; cases ha
    refine ⟨A2, O1 ++ O2, fun b off h => a1 b off (a2 b off h), fun b hb off hA => s2 b (fun i ha => hb i (m1.alive ha)) off (s1 b hb off hA), ?_, ?_, ⟨_, m1.trans m2⟩, ?_, S2⟩
    · exact .cons _ d1 O1 _ ts2 O2 (l1.narrowO a2 (fun b hb off hA => s2 b (hdead b hb) off hA)) l2
    · refine List.nodup_append.2 ⟨n1, n2, fun x hx y hy e => ?_⟩
      subst e
      obtain ⟨j, e1, e2, e3⟩ := t2 x hy
      exact hdead x hx j e2 e1
    · intro b hb
      rcases List.mem_append.1 hb with hb | hb
      · obtain ⟨i, f1, f2, f3⟩ := t1 b hb
        refine ⟨i, f1, f2, ?_⟩
        rcases m2.2 i with e | e
        · exact e
        · rw [e, f3]; by_cases hq : i ∈ I2 <;> simp [hq, frz]
      · obtain ⟨i, f1, f2, f3⟩ := t2 b hb
        exact ⟨i, f1, m1.alive f2, f3⟩
/-- The state with no objects. -/
theorem St.bare (S : St fid w0 A0 Cb nt w A ι a E H own) : St fid w0 A0 Cb nt w A (fun _ => none) a [] [] no :=
  ⟨S.kp, S.al, S.cb, S.sz, S.fx, S.df, fun t => .un _, fun i => by rw [obAt_ge (by simp)]; trivial, ⟨fun _ _ => rfl, by simp, by simp, by simp [no], by simp, by simp [no], by simp [no]⟩⟩
theorem unfL_sound : ∀ (live : List (Nat × Mode)) (ts : List D) {ι : Io} {H : List Ob} {O : List Nat}, St fid w0 A0 Cb nt w A ι a E H no → LVs fid w A (fun _ => none) false (vals a live) ts O → Free Cb ι H no O →
    ∃ ι', St fid w0 A0 Cb nt w A ι' a E (unfL live ts H).2 no ∧ Ext ι ι' ∧ ∀ p, p ∈ (unfL live ts H).1 → LV fid w A ι' true (a.tmps.getD p.1 undef) p.2 []
  | [], ts, ι, H, O, S, l, F => ⟨ι, by simpa [unfL] using S, Ext.refl _, by simp [unfL]⟩
  | (t, m) :: live, [], ι, H, O, S, l, F => ⟨ι, by simpa [unfL] using S, Ext.refl _, by simp [unfL]⟩
  | (t, m) :: live, d :: ts, ι, H, O, S, l, F => by
    cases l with
    | cons _ _ O1 _ _ O2 lv ls =>
      obtain ⟨ι1, N, l1, S1⟩ := S.absorb (r := true) F.left lv.weak
      have x1 : Ext ι ι1 := N.ext S.sp.len
      obtain ⟨ι2, S2, x2, h2⟩ := unfL_sound live ts S1 ls (F.rest S N)
      refine ⟨ι2, by simpa [unfL] using S2, x1.trans x2, fun p hp => ?_⟩
      simp only [unfL, List.mem_cons] at hp
      rcases hp with rfl | hp
      · exact LV.keep (Keep.refl w A (fun _ => False)) x2 l1 (by simp)
      · exact h2 p hp
theorem lk_mem : ∀ (E : Env) (t : Nat), lk E t = .un ∨ (t, lk E t) ∈ E
  | [], t => .inl rfl
  | (s, d) :: E, t => by
    by_cases e : s = t
    · subst e; right; simp [lk]
    · rcases lk_mem E t with h | h
      · left; simp only [lk, if_neg e]; exact h
      · right; simp only [lk, if_neg e]; exact List.mem_cons_of_mem _ h
theorem St.env (S : St fid w0 A0 Cb nt w A ι a E H no) (h : ∀ p, p ∈ E' → LV fid w A ι true (a.tmps.getD p.1 undef) p.2 []) : St fid w0 A0 Cb nt w A ι a E' H no := by
  refine ⟨S.kp, S.al, S.cb, S.sz, S.fx, S.df, fun t => ?_, S.ob, S.sp⟩
  rcases lk_mem E' t with e | e
  · rw [e]; exact .un _
  · exact h (t, Lg.lk E' t) e
/-- What is live, folded. -/
def LiveSt (fid : Nat → FuncId) (w0 : World) (A0 : Av) (Cb : Nat → Prop) (nt : Nt) (live : List (Nat × Mode)) (a : Act) (w : World) (ts : List D) : Prop :=
  ∃ A O, St fid w0 A0 Cb nt w A (fun _ => none) a [] [] no ∧ LVs fid w A (fun _ => none) false (vals a live) ts O ∧ O.Nodup ∧ ∀ b, b ∈ O → Cb b
theorem live_of {live : List (Nat × Mode)} {ts : List D} (S : St fid w0 A0 Cb nt w A ι a E H no) (h : foldL live E H = some (ts, H')) : LiveSt fid w0 A0 Cb nt live a w ts := by
  obtain ⟨A1, O, a1, s1, l1, n1, _, t1, S1⟩ := foldL_sound live S h
  refine ⟨A1, O, S1.bare, l1, n1, fun b hb => ?_⟩
  obtain ⟨i, e1, e2, _⟩ := t1 b hb
  exact S.sp.ib i b e2 e1
theorem of_live {live : List (Nat × Mode)} {ts : List D} (h : LiveSt fid w0 A0 Cb nt live a w ts) : ∃ A ι, St fid w0 A0 Cb nt w A ι a (unfL live ts []).1 (unfL live ts []).2 no := by
  obtain ⟨A, O, S, l, n, hc⟩ := h
  obtain ⟨ι', S', _, hp⟩ := unfL_sound live ts S l ⟨n, hc, by simp [no], by intro b hb i ha; rw [obAt_ge (by simp)] at ha; cases ha⟩
  exact ⟨A, ι', S'.env hp⟩
def exOf : Ex → Exit
  | .nrm => .normal
  | .exit id => .exit id
  | .ret => .ret
/-- Code. -/
theorem evC_sound {ann : Ann} (hnum : ∀ f g, num f = some g → fid g = f) (hr : ClR P fid cl.r) (hcg : CongrR cl.r) (hcw : ClW P fid cl.w) (hmix : P.follows .mixedOrders = true) :
    ∀ (code : Code) {c : SCode} {Q : Exit → Act → World → Prop} {w : World} {A : Av} {ι : Io} {a : Act} {E E' : Env} {H H' : List Ob} {ex : Ex}, compC P num nt.1 ann code = some c → St fid w0 A0 Cb nt w A ι a E H no → evC cl c E H = some (ex, E', H') →
      (∀ a' w' A' ι', St fid w0 A0 Cb nt w' A' ι' a' E' H' no → (noLoop c = true → Ext ι ι') → Q (exOf ex) a' w') → code.wp P Q a w := by
  intro code
  induction code with
  | skip =>
    intro c Q w A ι a E E' H H' ex hc S he hQ
    simp only [compC, Option.some.injEq] at hc; subst hc
    simp only [evC, Option.some.injEq, Prod.mk.injEq] at he
    obtain ⟨rfl, rfl, rfl⟩ := he
    exact wp_skip (hQ a w A ι S fun _ => Ext.refl _)
  | region id ops draw =>
    intro c Q w A ι a E E' H H' ex hc S he hQ
    simp only [compC] at hc
    have hex : ex = .nrm := (reg_sound (Q := fun _ _ _ => True) (id := id) hnum hr hcg hcw hmix hc S he (fun _ _ _ _ _ _ => trivial)).1
    subst hex
    exact (reg_sound (Q := Q) (id := id) hnum hr hcg hcw hmix hc S he (fun a' w' A' ι' S' x => hQ a' w' A' ι' S' fun _ => x)).2
  | seq x y ihx ihy =>
    intro c Q w A ι a E E' H H' ex hc S he hQ
    simp only [compC] at hc
    obtain ⟨cx, hx, hc⟩ := Option.bind_eq_some_iff.1 hc
    obtain ⟨cy, hy, rfl⟩ := Option.map_eq_some_iff.1 hc
    refine wp_seq ?_
    simp only [evC] at he
    cases hh : evC cl cx E H with
    | none => rw [hh] at he; simp at he
    | some q =>
      obtain ⟨ex1, E1, H1⟩ := q
      rw [hh] at he
      cases ex1 with
      | nrm =>
        refine ihx hx S hh fun a1 w1 A1 ι1 S1 x1 => ?_
        refine ihy hy S1 he fun a2 w2 A2 ι2 S2 x2 => hQ a2 w2 A2 ι2 S2 fun hn => ?_
        simp only [noLoop, Bool.and_eq_true] at hn
        exact (x1 hn.1).trans (x2 hn.2)
      | exit id =>
        simp only [Option.some.injEq, Prod.mk.injEq] at he
        obtain ⟨rfl, rfl, rfl⟩ := he
        refine ihx hx S hh fun a1 w1 A1 ι1 S1 x1 => hQ a1 w1 A1 ι1 S1 fun hn => ?_
        simp only [noLoop, Bool.and_eq_true] at hn
        exact x1 hn.1
      | ret =>
        simp only [Option.some.injEq, Prod.mk.injEq] at he
        obtain ⟨rfl, rfl, rfl⟩ := he
        refine ihx hx S hh fun a1 w1 A1 ι1 S1 x1 => hQ a1 w1 A1 ι1 S1 fun hn => ?_
        simp only [noLoop, Bool.and_eq_true] at hn
        exact x1 hn.1
  | cond o x y ihx ihy =>
    intro c Q w A ι a E E' H H' ex hc S he hQ
    simp only [compC] at hc
    obtain ⟨cx, hx, hc⟩ := Option.bind_eq_some_iff.1 hc
    obtain ⟨cy, hy, rfl⟩ := Option.map_eq_some_iff.1 hc
    simp only [evC] at he
    split at he
    · rename_i b hb
      have hbv : a.eval o = .bool b := by
        cases o with
        | tmp t =>
          have l := S.lv t
          simp only [opd, ov] at hb
          rw [hb] at l
          exact l.inv_bool.1
        | const v =>
          simp only [opd, ov] at hb
          simp only [Act.eval]
          cases v <;> simp [dVal, dLeaf] at hb
          · rw [hb]
          all_goals (repeat' split at hb) <;> simp_all
        | global g => simp [opd, ov] at hb
        | func f => simp only [opd] at hb; split at hb <;> simp [ov] at hb
      cases b with
      | true =>
        simp only [if_true] at he
        refine wp_cond_true hbv (ihx hx S he fun a1 w1 A1 ι1 S1 x1 => hQ a1 w1 A1 ι1 S1 fun hn => ?_)
        simp only [noLoop, Bool.and_eq_true] at hn
        exact x1 hn.1
      | false =>
        simp only [Bool.false_eq_true, if_false] at he
        refine wp_cond_false hbv (ihy hy S he fun a1 w1 A1 ι1 S1 x1 => hQ a1 w1 A1 ι1 S1 fun hn => ?_)
        simp only [noLoop, Bool.and_eq_true] at hn
        exact x1 hn.2
    · cases he
  | block id x ihx =>
    intro c Q w A ι a E E' H H' ex hc S he hQ
    simp only [compC] at hc
    obtain ⟨cx, hx, rfl⟩ := Option.map_eq_some_iff.1 hc
    refine wp_block ?_
    simp only [evC] at he
    cases hh : evC cl cx E H with
    | none => rw [hh] at he; simp at he
    | some q =>
      obtain ⟨ex1, E1, H1⟩ := q
      rw [hh] at he
      refine ihx hx S hh fun a1 w1 A1 ι1 S1 x1 => ?_
      cases ex1 with
      | nrm =>
        simp only [Option.some.injEq, Prod.mk.injEq] at he
        obtain ⟨rfl, rfl, rfl⟩ := he
        exact hQ a1 w1 A1 ι1 S1 x1
      | exit id' =>
        simp only at he
        split at he
        · rename_i e; subst e
          simp only [Option.some.injEq, Prod.mk.injEq] at he
          obtain ⟨rfl, rfl, rfl⟩ := he
          simp only [exOf, Exit.inBlock, if_true]
          exact hQ a1 w1 A1 ι1 S1 x1
        · rename_i e
          simp only [Option.some.injEq, Prod.mk.injEq] at he
          obtain ⟨rfl, rfl, rfl⟩ := he
          simp only [exOf, Exit.inBlock, if_neg e]
          exact hQ a1 w1 A1 ι1 S1 x1
      | ret =>
        simp only [Option.some.injEq, Prod.mk.injEq] at he
        obtain ⟨rfl, rfl, rfl⟩ := he
        exact hQ a1 w1 A1 ι1 S1 x1
  | loop x ihx =>
    intro c Q w A ι a E E' H H' ex hc S he hQ
    simp only [compC] at hc
    obtain ⟨live, hlive, hc⟩ := Option.bind_eq_some_iff.1 hc
    obtain ⟨cx, hx, rfl⟩ := Option.map_eq_some_iff.1 hc
    simp only [evC] at he
    obtain ⟨⟨t0, H0⟩, h0, he⟩ := Option.bind_eq_some_iff.1 he
    obtain ⟨⟨exr, tr⟩, hit, he⟩ := Option.map_eq_some_iff.1 he
    simp only [Prod.mk.injEq] at he
    obtain ⟨rfl, rfl, rfl⟩ := he
    refine wp_loop_n (fun n a w => ∃ ts, LiveSt fid w0 A0 Cb nt live a w ts ∧ iter _ n ts = some (exr, tr)) rounds ⟨t0, live_of S h0, hit⟩ ?_
    rintro n a1 w1 ⟨ts, hl, hi⟩
    obtain ⟨A1, ι1, S1⟩ := of_live hl
    cases n with
    | zero => simp [iter] at hi
    | succ n =>
      simp only [iter] at hi
      cases hh : evC cl cx (unfL live ts []).1 (unfL live ts []).2 with
      | none => rw [hh] at hi; simp at hi
      | some q =>
        obtain ⟨ex1, E1, H1⟩ := q
        rw [hh] at hi
        simp only at hi
        cases hf : foldL live E1 H1 with
        | none => rw [hf] at hi; simp at hi
        | some p =>
          obtain ⟨ts1, H2⟩ := p
          rw [hf] at hi
          simp only [Option.map_some] at hi
          refine ihx hx S1 hh fun a2 w2 A2 ι2 S2 _ => ?_
          have hl2 := live_of S2 hf
          cases ex1 with
          | nrm => exact ⟨n, Nat.lt_succ_self n, ts1, hl2, hi⟩
          | exit id =>
            simp only [Option.some.injEq, Prod.mk.injEq] at hi
            obtain ⟨rfl, rfl⟩ := hi
            obtain ⟨A3, ι3, S3⟩ := of_live hl2
            exact hQ a2 w2 A3 ι3 S3 (by simp [noLoop])
          | ret =>
            simp only [Option.some.injEq, Prod.mk.injEq] at hi
            obtain ⟨rfl, rfl⟩ := hi
            obtain ⟨A3, ι3, S3⟩ := of_live hl2
            exact hQ a2 w2 A3 ι3 S3 (by simp [noLoop])
  | exit id =>
    intro c Q w A ι a E E' H H' ex hc S he hQ
    simp only [compC, Option.some.injEq] at hc; subst hc
    simp only [evC, Option.some.injEq, Prod.mk.injEq] at he
    obtain ⟨rfl, rfl, rfl⟩ := he
    exact wp_exit (hQ a w A ι S fun _ => Ext.refl _)
  | ret =>
    intro c Q w A ι a E E' H H' ex hc S he hQ
    simp only [compC, Option.some.injEq] at hc; subst hc
    simp only [evC, Option.some.injEq, Prod.mk.injEq] at he
    obtain ⟨rfl, rfl, rfl⟩ := he
    exact wp_ret (hQ a w A ι S fun _ => Ext.refl _)
  | _ => intro c Q w A ι a E E' H H' ex hc; simp [compC] at hc
end
end Lg
