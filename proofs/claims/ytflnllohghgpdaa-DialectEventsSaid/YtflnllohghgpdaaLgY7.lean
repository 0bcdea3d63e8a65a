import Derived.Test.YtflnllohghgpdaaLgY6
/-
  Calls of what has a contract, in a state.
-/
namespace Lg
open Go
set_option linter.unusedVariables false
set_option linter.unusedSimpArgs false
set_option linter.unusedSectionVars false

section
variable {P : Program} {fid : Nat → FuncId} {w0 : World} {A0 : Av} {Cb : Nat → Prop} {nt : Nt} {w w' : World} {A A' Ac : Av} {ι ι' : Io} {a : Act} {E : Env} {H H' : List Ob} {own : Nat → List Nat}
theorem LV.inv_obx {r : Bool} {v : Value} {ds : List D} {O : List Nat} (h : LV fid w A ι r v (.obx ds) O) : ∃ b vs O1 T fr, v = .pointer (some ⟨b, 0, none⟩) ∧ O = b :: O1 ∧ w.heap[b]? = some (.cells ⟨vs⟩ T fr) ∧ okfr vs.length fr ∧ LVs fid w A ι r vs ds O1 ∧ (∀ v, v ∈ vs → v.oneCell' = true) ∧ ∀ off, A b off := by
  cases h with | obx b vs _ O T fr hb hf h h1 hA => exact ⟨b, vs, O, T, fr, rfl, rfl, hb, hf, h, h1, hA⟩
theorem ptVals_len : ∀ {vs : List Value} {ds : List D}, vs.length = ds.length → (ptVals vs ds).length = (ds.filter isBx).length
  | [], [], _ => rfl
  | v :: vs, d :: ds, h => by
    simp only [ptVals, List.filter_cons]
    split
    · simp [ptVals_len (by simpa using h : vs.length = ds.length)]
    · exact ptVals_len (by simpa using h)
  | [], _ :: _, h => by simp at h
  | _ :: _, [], h => by simp at h
theorem callQ_sound {f : FuncId} {fz : Bool} {m : List D → Option (D × List D)} (hS : SoundFn P fid f m) {as : List D} {vs : List Value} {O : List Nat} {d : D} {eo : List Nat} (l : LVs fid w A ι true vs as O) (hob : ∀ i, ObjOK fid w A ι (ι i) (obAt H i)) (hal : ∀ b off, A b off → b < w.heap.size)
    (h : callQ fz m as H = some d) : Calls P f ⟨vs⟩ w (fun e w' => ∃ v A' O', e = .returned v ∧ XR fid w w' A A' ι H eo v d none O') := by
  unfold callQ at h
  obtain ⟨ts, h1, h2⟩ := Option.bind_eq_some_iff.1 h
  split at h2
  · rename_i r hm
    split at h2
    · rename_i hpl
      injection h2 with h2; subst h2
      cases fz with
      | true =>
        simp only [if_true] at h1
        split at h1
        · rename_i hro
          injection h1 with h1; subst h1
          have l1 := (l.ro hro).weak (ι' := fun _ => none) (r := false)
          refine Calls.mono (hS as r [] hm w A vs [] l1 List.nodup_nil hal) fun e w' he => ?_
          obtain ⟨v, A', O', rfl, K, lr, nd, fr⟩ := he
          cases lr with
          | cons _ _ O1 _ _ O2 lv ls =>
            have hp : ptVals vs as = [] := by
              cases hh : ptVals vs as with
              | nil => rfl
              | cons x xs => rw [hh] at ls; cases ls
            rw [hp] at ls
            cases ls
            refine ⟨v, A', _, rfl, ⟨K.mono (by simp), lv.weak, (by intro i o e; cases e), by simpa using (List.nodup_append.1 nd).1, fun b hb => ?_⟩⟩
            have := fr b (by simp [hb])
            simp at this
            exact .inr (.inr this)
        · cases h1
      | false =>
        simp only [Bool.false_eq_true, if_false, Bool.false_or] at h1 hpl
        obtain ⟨⟨ts', H1⟩, e1, e2⟩ := Option.map_eq_some_iff.1 h1
        simp only at e2; subst e2
        have hro : rof false (.agg as) H = some (.agg ts', H1) := by simp [rof, e1]
        have lz := (rof_sound (fid := fid) (w := w) (A := A) (Ac := fun _ _ => False) (ι := ι) (ι' := fun _ => none) (fz := false) (by simp) (LV.agg vs as O l) H H1 (.agg ts') (owOK hob) (by intro _ _ _ _ _ _ _ _ _ _ x; exact x) (by simp) hro).1
        obtain ⟨vs', e0, lz'⟩ := lz.inv_agg
        simp only [Value.agg.injEq, Array.mk.injEq] at e0
        subst e0
        refine Calls.mono (hS ts' r [] hm w (fun _ _ => False) vs [] lz' List.nodup_nil (by simp)) fun e w' he => ?_
        obtain ⟨v, A', O', rfl, K, lr, nd, fr⟩ := he
        cases lr with
        | cons _ _ O1 _ _ O2 lv ls =>
          have hp : ptVals vs ts' = [] := by
            cases hh : ptVals vs ts' with
            | nil => rfl
            | cons x xs => rw [hh] at ls; cases ls
          rw [hp] at ls
          cases ls
          have K2 : Keep w w' A (fun b off => A b off ∨ A' b off) (fun b => b ∈ ([] : List Nat)) := by
            refine ⟨K.os, K.tape, K.output, K.size, K.blk, fun b off v _ hc => K.cel b off v (by simp) hc, K.siz, fun b off hh => ?_, fun b off _ _ hh => .inl hh⟩
            rcases hh with hh | hh
            · exact .inl hh
            · rcases K.a1 b off hh with x | x
              · cases x
              · exact .inr x
          refine ⟨v, _, _, rfl, ⟨K2.mono (by simp), ((LV.wide_both (fun b off hh => .inr hh)).1 lv hpl).weak, (by intro i o e; cases e), by simpa using (List.nodup_append.1 nd).1, fun b hb => ?_⟩⟩
          have := fr b (by simp [hb])
          simp at this
          exact .inr (.inr this)
    · cases h2
  · cases h2
theorem restore_sound : ∀ (as : List D) (vs : List Value) (ts outs : List D) {ι : Io} {H H' : List Ob} {O : List Nat} {w1 : World} {A1 : Av} {ι1 : Io}, LVs fid w1 A1 ι1 true vs as [] → (∀ i q, ι1 i = some q → ι i = some q) → ts.map isBx = as.map isPt →
    St fid w0 A0 Cb nt w A ι a E H own → LVs fid w A (fun _ => none) false (ptVals vs ts) outs O → Free Cb ι H own O → restore as outs H = some H' → ∃ ι', St fid w0 A0 Cb nt w A ι' a E H' own ∧ ∀ i q, ι i = some q → ι' i = some q
  | [], [], ts, outs, ι, H, H', O, w1, A1, ι1, l, hι, hk, S, lo, F, h => by
    cases outs with
    | nil => simp [restore] at h; subst h; exact ⟨ι, S, fun _ _ h => h⟩
    | cons => simp [restore] at h
  | [], _ :: _, ts, outs, ι, H, H', O, w1, A1, ι1, l, hι, hk, S, lo, F, h => by cases l
  | _ :: _, [], ts, outs, ι, H, H', O, w1, A1, ι1, l, hι, hk, S, lo, F, h => by cases l
  | d :: as, v :: vs, [], outs, ι, H, H', O, w1, A1, ι1, l, hι, hk, S, lo, F, h => by simp at hk
  | d :: as, v :: vs, t :: ts, outs, ι, H, H', O, w1, A1, ι1, l, hι, hk, S, lo, F, h => by
    simp only [List.map_cons, List.cons.injEq] at hk
    obtain ⟨hk1, hk2⟩ := hk
    by_cases hp : isPt d = true
    · cases d <;> simp [isPt] at hp
      rename_i id sz e off
      simp only [isPt] at hk1
      simp only [ptVals, hk1, if_true] at lo
      cases outs with
      | nil => simp [restore] at h
      | cons x outs =>
        cases x <;> simp only [restore] at h <;> try (cases h; done)
        rename_i ds
        obtain ⟨b, hb, rfl, _⟩ := l.uncons.1.inv_pt
        have hb' := hι _ _ hb
        cases lo with
        | cons _ _ O1 _ _ O2 lv ls =>
          obtain ⟨b', ws, O1', T, fr, ev, rfl, hheap, hfr, lw, h1, hA⟩ := lv.inv_obx
          simp only [Value.pointer.injEq, Option.some.injEq, Addr.mk.injEq] at ev
          obtain ⟨rfl, _, _⟩ := ev
          · skip
            have F0 : Free Cb ι H own (b :: O1') := F.left
            have F1 : Free Cb ι H own O1' := ⟨(List.nodup_cons.1 F0.nd).2, fun x hx => F0.cb x (by simp [hx]), fun x hx => F0.ow x (by simp [hx]), fun x hx => F0.ob x (by simp [hx])⟩
            have hbn := (List.nodup_cons.1 F0.nd).1
            have hlt : id < H.length := by
              rcases Nat.lt_or_ge id H.length with hl | hl
              · exact hl
              · rw [S.sp.len id hl] at hb'; cases hb'
            have hdead : alive (obAt H id) = false := by
              cases hx : alive (obAt H id) with
              | false => rfl
              | true => exact (F0.ob b (by simp) id hx hb').elim
            obtain ⟨ι2, N, l2, S2⟩ := S.absorb (r := true) F1 (LV.agg ws ds O1' lw.weak)
            have N' : New fid w A ι ι2 H (unfs ds H).2 O1' := N
            have S2' : St fid w0 A0 Cb nt w A ι2 a E (unfs ds H).2 own := S2
            have l2' : LV fid w A ι2 true (.agg ⟨ws⟩) (.agg (unfs ds H).1) [] := l2
            obtain ⟨ws', e0, l3⟩ := l2'.inv_agg
            simp only [Value.agg.injEq, Array.mk.injEq] at e0
            subst e0
            have hext := N'.ext S.sp.len
            have hio : ι2 id = some (some b) := by rw [N'.io id hlt]; exact hb'
            have hob2 : obAt (unfs ds H).2 id = obAt H id := by unfold obAt; rw [N'.pre id hlt]
            have hfree2 : ∀ i, alive (obAt (unfs ds H).2 i) = true → ι2 i ≠ some (some b) := by
              intro i ha hi
              rcases Nat.lt_or_ge i H.length with hl | hl
              · have : obAt (unfs ds H).2 i = obAt H i := by unfold obAt; rw [N'.pre i hl]
                rw [this] at ha; rw [N'.io i hl] at hi
                exact F0.ob b (by simp) i ha hi
              · exact hbn (N'.blk i b hl hi)
            have S3 := S2'.revive (o := .bx (unfs ds H).1) (Nat.lt_of_lt_of_le hlt N'.le) (by rw [hob2]; exact hdead) hio ⟨b, ws, T, fr, rfl, hheap, hfr, l3, h1, hA⟩ (F0.cb b (by simp)) (F0.ow b (by simp)) hfree2
            have F2 : Free Cb ι2 ((unfs ds H).2.set id (.bx (unfs ds H).1)) own O2 := by
              have hO2 : ∀ x, x ∈ O2 → x ∉ (b :: O1') := fun x hx hx' => (List.nodup_append.1 F.nd).2.2 x hx' x hx rfl
              refine ⟨(List.nodup_append.1 F.nd).2.1, fun x hx => F.cb x (by simp [hx]), fun x hx => F.ow x (by simp [hx]), fun x hx i ha hi => ?_⟩
              rcases Nat.lt_or_ge i H.length with hl | hl
              · by_cases e : id = i
                · subst e
                  rw [hio] at hi; injection hi with hi; injection hi with hi; subst hi
                  exact hO2 b hx (by simp)
                · rw [obAt_set, if_neg (by intro q; exact e q.1)] at ha
                  have : obAt (unfs ds H).2 i = obAt H i := by unfold obAt; rw [N'.pre i hl]
                  rw [this] at ha; rw [N'.io i hl] at hi
                  exact F.ob x (by simp [hx]) i ha hi
              · exact hO2 x hx (by simp [N'.blk i x hl hi])
            obtain ⟨ι', S', hx⟩ := restore_sound as vs ts outs l.uncons.2 (fun i q hq => hext i q (hι i q hq)) hk2 S3 ls F2 h
            exact ⟨ι', S', fun i q hq => hx i q (hext i q hq)⟩
    · have hp' : isPt d = false := by simpa using hp
      rw [hp'] at hk1
      simp only [ptVals, hk1, Bool.false_eq_true, if_false] at lo
      have hr : restore (d :: as) outs H = restore as outs H := by cases d <;> simp [isPt] at hp' <;> rfl
      rw [hr] at h
      exact restore_sound as vs ts outs l.uncons.2 hι hk2 S lo F h
/-- A call, where its arguments are told as trees. -/
theorem call_core {f : FuncId} {fz : Bool} {m : List D → Option (D × List D)} (hS : SoundFn P fid f m) {as : List D} {vs : List Value} {r : D} {outs ts : List D} {ids : List Nat} {H1 H2 : List Ob} {O : List Nat} (S : St fid w0 A0 Cb nt w A ι a E H own) (l : LVs fid w A ι true vs as [])
    (hm : m ts = some (r, outs)) (hpl : (fz || (plain r && plains outs)) = true) (hal : ids.all (isAlive H1) = true) (h2 : restore as outs (unf r H1).2 = some H2) (hk : ts.map isBx = as.map isPt) (M : Mix H H1 (if fz then ids else [])) (T : Taken ι H H1 O) (nd : O.Nodup)
    (conv : ∀ Ac : Av, (∀ b off, Ac b off → A b off) → RowsOut Ac ι H ids → (∀ b, b ∈ O → ∀ off, A b off → Ac b off) → LVs fid w Ac (fun _ => none) false vs ts O) :
    Calls P f ⟨vs⟩ w (fun e w' => ∃ v A' ι', e = .returned v ∧ St fid w0 A0 Cb nt w' A' ι' a E H2 own ∧ LV fid w' A' ι' true v (unf r H1).1 [] ∧ ∀ i q, ι i = some q → ι' i = some q) := by
  have hfr : Free Cb ι H1 own O := by
    refine ⟨nd, fun b hb => ?_, fun b hb t hx => ?_, fun b hb j ha hj => ?_⟩
    · obtain ⟨i, e1, e2, _⟩ := T b hb; exact S.sp.ib i b e2 e1
    · obtain ⟨i, e1, e2, _⟩ := T b hb; exact S.sp.to t b i hx e2 e1
    · obtain ⟨i, e1, e2, e3⟩ := T b hb
      have := S.inj i j b e2 (M.alive ha) e1 hj
      subst this
      rw [e3] at ha; cases ha
  -- rows read alone aren't among what's handed over
  have hapart : ∀ i b wr sz ds, i ∈ ids → ι i = some (some b) → obAt H i = .ow wr sz ds → b ∉ O := by
    intro i b wr sz ds hi hb ho hO
    obtain ⟨j, e1, e2, e3⟩ := T b hO
    have := S.inj i j b (by rw [ho]; rfl) e2 hb e1
    subst this
    rw [List.all_eq_true] at hal
    have := hal i hi
    unfold isAlive at this
    unfold obAt at e3
    cases hx : H1[i]? with
    | none => rw [hx] at this; cases this
    | some o => rw [hx] at this e3; simp at e3; subst e3; cases this
  -- the state behind the call, where what may be written is right
  have main : ∀ (Ac A2 : Av) (w' : World) (A' : Av) (O' : List Nat) (v : Value), St fid w0 A0 Cb nt w' A2 ι a E H1 own → Keep w w' Ac A' (fun b => b ∈ O) → LVs fid w' A2 (fun _ => none) false (v :: ptVals vs ts) (r :: outs) O' → O'.Nodup → (∀ b, b ∈ O' → b ∈ O ∨ w.heap.size ≤ b) →
      ∃ A' ι', St fid w0 A0 Cb nt w' A' ι' a E H2 own ∧ LV fid w' A' ι' true v (unf r H1).1 [] ∧ ∀ i q, ι i = some q → ι' i = some q := by
    intro Ac A2 w' A' O' v S' K lr nd' fr'
    have F' : Free Cb ι H1 own O' := by
      refine ⟨nd', fun b hb => ?_, fun b hb t hx => ?_, fun b hb j ha hj => ?_⟩
      · rcases fr' b hb with x | x
        · exact hfr.cb b x
        · exact S.cb b (Nat.le_trans S.kp.size x)
      · rcases fr' b hb with x | x
        · exact hfr.ow b x t hx
        · have := S.own_lt t b hx; omega
      · rcases fr' b hb with x | x
        · exact hfr.ob b x j ha hj
        · have := S.ob_lt (M.alive ha) hj; omega
    cases lr with
    | cons _ _ O1 _ _ O2 lv ls =>
      obtain ⟨ι2, N, l2, S2⟩ := S'.absorb (r := true) F'.left lv.weak
      have F2 := F'.rest S' N
      obtain ⟨ι3, S3, hx⟩ := restore_sound as vs ts outs l (N.ext S'.sp.len) hk S2 ls F2 h2
      exact ⟨A2, ι3, S3, LV.keep (Keep.refl w' A2 (fun _ => False)) hx l2 (by simp), fun i q hq => hx i q (N.ext S'.sp.len i q hq)⟩
  cases fz with
  | true =>
    simp only [if_true] at M
    have SF := S.freeze M
    have lc := conv (less A ι H (ids)) (less_le _ _ _ _) (less_out _ _ _ _) (fun b hb off hA => ⟨hA, fun ⟨i, wr, sz, ds, g1, g2, g3, _⟩ => hapart i b wr sz ds g1 g2 g3 hb⟩)
    refine Calls.mono (hS ts r outs hm w _ vs O lc nd (fun b off hh => S.al b off hh.1)) fun e w' he => ?_
    obtain ⟨v, A', O', rfl, K, lr, nd', fr'⟩ := he
    have SW := SF.world hfr K
    obtain ⟨A3, ι3, S3, l3, x3⟩ := main _ A' w' A' O' v SW K lr nd' fr'
    exact ⟨v, A3, ι3, rfl, S3, l3, x3⟩
  | false =>
    simp only [Bool.false_eq_true, if_false, Bool.false_or, Bool.and_eq_true] at M hpl
    have SF : St fid w0 A0 Cb nt w A ι a E H1 own := by
      have := S.freeze M
      have e : less A ι H [] = A := by funext b off; simp [less, Fz]
      rw [e] at this; exact this
    let Ac : Av := fun b off => A b off ∧ b ∈ O
    have lc := conv Ac (fun b off h => h.1) (fun i b wr sz ds off g1 g2 g3 _ hh => hapart i b wr sz ds g1 g2 g3 hh.2) (fun b hb off hA => ⟨hA, hb⟩)
    refine Calls.mono (hS ts r outs hm w Ac vs O lc nd (fun b off hh => S.al b off hh.1)) fun e w' he => ?_
    obtain ⟨v, A', O', rfl, K, lr, nd', fr'⟩ := he
    have K2 : Keep w w' A (fun b off => A b off ∨ A' b off) (fun b => b ∈ O) := by
      refine ⟨K.os, K.tape, K.output, K.size, K.blk, fun b off v hn hc => K.cel b off v (fun x => hn x.1) hc, K.siz, fun b off hh => ?_, fun b off _ _ hh => .inl hh⟩
      rcases hh with hh | hh
      · exact .inl hh
      · rcases K.a1 b off hh with x | x
        · exact .inl x.1
        · exact .inr x
    have SW := SF.world hfr K2
    have lr2 : LVs fid w' (fun b off => A b off ∨ A' b off) (fun _ => none) false (v :: ptVals vs ts) (r :: outs) O' := (LV.wide_both (fun b off hh => .inr hh)).2 lr (by simp only [plains, Bool.and_eq_true]; exact hpl)
    obtain ⟨A3, ι3, S3, l3, x3⟩ := main Ac _ w' A' O' v SW K lr2 nd' fr'
    exact ⟨v, A3, ι3, rfl, S3, l3, x3⟩
theorem callM_sound {f : FuncId} {fz : Bool} {m : List D → Option (D × List D)} (hS : SoundFn P fid f m) {as : List D} {vs : List Value} {d : D} (S : St fid w0 A0 Cb nt w A ι a E H own) (l : LVs fid w A ι true vs as [])
    (h : callM fz m as H = some (d, H')) : Calls P f ⟨vs⟩ w (fun e w' => ∃ v A' ι', e = .returned v ∧ St fid w0 A0 Cb nt w' A' ι' a E H' own ∧ LV fid w' A' ι' true v d [] ∧ ∀ i q, ι i = some q → ι' i = some q) := by
  unfold callM at h
  obtain ⟨⟨ts, H1⟩, h1, h⟩ := Option.bind_eq_some_iff.1 h
  obtain ⟨⟨r, outs⟩, hm, h⟩ := Option.bind_eq_some_iff.1 h
  simp only at hm h
  split at h
  · rename_i hchk
    simp only [Bool.and_eq_true] at hchk
    obtain ⟨hpl, hal⟩ := hchk
    obtain ⟨H2, h2, h3⟩ := Option.map_eq_some_iff.1 h
    simp only [Prod.mk.injEq] at h3
    obtain ⟨rfl, rfl⟩ := h3
    obtain ⟨hk, O, M, T, nd, conv⟩ := args_sound as vs ts H H1 l S.ob S.inj h1
    exact call_core hS S l hm hpl hal h2 hk M T nd conv
  · cases h
/-- The first argument, a slice of the caller's own, goes along. -/
theorem callO_sound {f : FuncId} {m : List D → Option (D × List D)} (hS : SoundFn P fid f m) {as : List D} {vs : List Value} {d : D} (S : St fid w0 A0 Cb nt w A ι a E H own) (l : LVs fid w A ι true vs as [])
    (h : callO m as H = some (d, H')) : Calls P f ⟨vs⟩ w (fun e w' => ∃ v A' ι', e = .returned v ∧ St fid w0 A0 Cb nt w' A' ι' a E H' own ∧ LV fid w' A' ι' true v d [] ∧ ∀ i q, ι i = some q → ι' i = some q) := by
  unfold callO at h
  split at h
  case h_2 => cases h
  rename_i id sz off len as'
  obtain ⟨⟨t1, H1⟩, h1, h⟩ := Option.bind_eq_some_iff.1 h
  obtain ⟨⟨ts, H2⟩, h2, h⟩ := Option.bind_eq_some_iff.1 h
  obtain ⟨⟨r, outs⟩, hm, h⟩ := Option.bind_eq_some_iff.1 h
  simp only at hm h h2
  split at h
  case isFalse => cases h
  rename_i hal
  obtain ⟨H3, h3, h4⟩ := Option.map_eq_some_iff.1 h
  simp only [Prod.mk.injEq] at h4
  obtain ⟨rfl, rfl⟩ := h4
  cases vs with
  | nil => cases l
  | cons v vs =>
    have hb : isBx t1 = false := by
      unfold depth at h1
      simp only [fld] at h1
      split at h1
      · split at h1
        · split at h1
          · injection h1 with h1; simp only [Prod.mk.injEq] at h1; rw [← h1.1]; rfl
          · split at h1
            · injection h1 with h1; simp only [Prod.mk.injEq] at h1; rw [← h1.1]; rfl
            · cases h1
        · cases h1
      · cases h1
    obtain ⟨O1, l1, n1, g1, T1⟩ := fld_sound (ι' := fun _ => none) depth v _ t1 H H1 l.uncons.1 S.ob S.inj h1
    have m1 := g1.mix
    obtain ⟨k2, O2, m2, t2, n2, l2⟩ := args_sound as' vs ts H1 H2 l.uncons.2 (m1.ob S.ob) (m1.inj S.inj) h2
    have hap : ∀ b, b ∈ O1 → b ∉ O2 := by
      intro b hb1 hb2
      obtain ⟨i, f1, f2, f3⟩ := T1 b hb1
      obtain ⟨j, g1, g2, g3⟩ := t2 b hb2
      have := S.inj i j b f2 (m1.alive g2) f1 g1
      subst this
      rw [f3] at g2; cases g2
    refine call_core (fz := true) (ids := idsRO as') (O := O1 ++ O2) (ts := t1 :: ts) hS S l hm rfl hal h3 (by simp [hb, k2, isPt]) ?_ ?_ (List.nodup_append.2 ⟨n1, n2, fun a ha b hb e => hap a ha (e ▸ hb)⟩) ?_
    · have := m1.trans m2
      simpa using this
    · intro b hb
      rcases List.mem_append.1 hb with hb | hb
      · obtain ⟨i, f1, f2, f3⟩ := T1 b hb
        refine ⟨i, f1, f2, ?_⟩
        rcases m2.2 i with e | e
        · exact e
        · rw [e, f3]; by_cases hq : i ∈ (if true = true then idsRO as' else []) <;> simp [hq, frz]
      · obtain ⟨i, f1, f2, f3⟩ := t2 b hb
        exact ⟨i, f1, m1.alive f2, f3⟩
    · intro Ac hA hR hO
      refine .cons _ t1 O1 vs ts O2 (l1.narrowO hA fun b hb => hO b (by simp [hb])) (l2 Ac hA ?_ fun b hb => hO b (by simp [hb]))
      intro i b wr sz ds off hi hb ho hlt
      obtain ⟨wr', ho'⟩ := m1.ow ho
      exact hR i b wr' sz ds off hi hb ho' hlt
end
end Lg
