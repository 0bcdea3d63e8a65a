import Derived.Test.YtflnllohghgpdaaLgY4
/-
  What calls are: contracts; the state around a call.
-/
namespace Lg
open Go
set_option linter.unusedVariables false
set_option linter.unusedSimpArgs false
set_option linter.unusedSectionVars false

/-! ### the state turned -/
def Mix (H H' : List Ob) (I : List Nat) : Prop := H'.length = H.length ∧ ∀ i, obAt H' i = .dead ∨ obAt H' i = if i ∈ I then frz (obAt H i) else obAt H i
theorem Frz.mix {H H' : List Ob} {I : List Nat} (h : Frz H H' I) : Mix H H' I := ⟨h.1, fun i => .inr (h.2 i)⟩
theorem Gone.mix {H H' : List Ob} (h : Gone H H') : Mix H H' [] := ⟨h.1, fun i => by rcases h.2 i with e | e; exact .inr (by simpa using e); exact .inl e⟩
theorem Mix.trans {H H1 H2 : List Ob} {I J : List Nat} (h : Mix H H1 I) (k : Mix H1 H2 J) : Mix H H2 (I ++ J) := by
  refine ⟨k.1.trans h.1, fun i => ?_⟩
  rcases k.2 i with e | e
  · exact .inl e
  · rcases h.2 i with e' | e'
    · left; rw [e, e']; split <;> rfl
    · right
      rw [e, e']
      by_cases h1 : i ∈ I <;> by_cases h2 : i ∈ J <;> simp [h1, h2, frz_frz]
theorem alive_frz (o : Ob) : alive (frz o) = alive o := by cases o <;> rfl
theorem Mix.alive {H H' : List Ob} {I : List Nat} (h : Mix H H' I) {i : Nat} (ha : alive (obAt H' i) = true) : alive (obAt H i) = true := by
  rcases h.2 i with e | e
  · rw [e] at ha; cases ha
  · rw [e] at ha; split at ha
    · rwa [alive_frz] at ha
    · exact ha
theorem Mix.ow {H H' : List Ob} {I : List Nat} (h : Mix H H' I) {i : Nat} {wr : Bool} {sz : Nat} {ds : List D} (e : obAt H' i = .ow wr sz ds) : ∃ wr', obAt H i = .ow wr' sz ds := by
  rcases h.2 i with e' | e'
  · rw [e] at e'; cases e'
  · rw [e] at e'
    split at e'
    · cases ho : obAt H i with
      | ow wr' sz' ds' => rw [ho] at e'; simp only [frz, Ob.ow.injEq] at e'; exact ⟨wr', by rw [e'.2.1, e'.2.2]⟩
      | _ => rw [ho] at e'; simp [frz] at e'
    · exact ⟨wr, e'.symm⟩
section
variable {fid : Nat → FuncId} {w0 : World} {A0 : Av} {Cb : Nat → Prop} {nt : Nt} {w w' : World} {A A' Ac : Av} {ι ι' : Io} {a : Act} {E : Env} {H H' : List Ob} {own : Nat → List Nat}
theorem frz_ok {q : Option (Option Nat)} {o : Ob} (h : ObjOK fid w A ι q o) : ObjOK fid w A ι q (frz o) := by
  cases o with
  | ow wr sz ds =>
    rcases h with h | ⟨b, e, cs, T, fr, vs, h1, h2, h3, h4, h5, h6, h7, h8⟩
    · exact .inl h
    · exact .inr ⟨b, e, cs, T, fr, vs, h1, h2, h3, h4, h5, h6, (by intro x; cases x), h8⟩
  | _ => exact h
theorem Mix.ob {I : List Nat} (h : Mix H H' I) (hob : ∀ i, ObjOK fid w A ι (ι i) (obAt H i)) : ∀ i, ObjOK fid w A ι (ι i) (obAt H' i) := by
  intro i
  rcases h.2 i with e | e
  · rw [e]; trivial
  · rw [e]; split
    · exact frz_ok (hob i)
    · exact hob i
theorem Mix.inj {I : List Nat} (h : Mix H H' I) (k : Inj ι H) : Inj ι H' := fun i j b h1 h2 => k i j b (h.alive h1) (h.alive h2)
/-- The cells that are written no more. -/
def Fz (ι : Io) (H : List Ob) (I : List Nat) (b off : Nat) : Prop := ∃ (i : Nat) (wr : Bool) (sz : Nat) (ds : List D), i ∈ I ∧ ι i = some (some b) ∧ obAt H i = .ow wr sz ds ∧ off < ds.length * sz
def less (A : Av) (ι : Io) (H : List Ob) (I : List Nat) : Av := fun b off => A b off ∧ ¬ Fz ι H I b off
theorem less_le (A : Av) (ι : Io) (H : List Ob) (I : List Nat) : ∀ b off, less A ι H I b off → A b off := fun b off h => h.1
theorem less_out (A : Av) (ι : Io) (H : List Ob) (I : List Nat) : RowsOut (less A ι H I) ι H I := fun i b wr sz ds off hi hb ho hlt h => h.2 ⟨i, wr, sz, ds, hi, hb, ho, hlt⟩
/-- The blocks of which some cells are written no more. -/
def FzB (ι : Io) (H : List Ob) (I : List Nat) (b : Nat) : Prop := ∃ (i : Nat) (wr : Bool) (sz : Nat) (ds : List D), i ∈ I ∧ ι i = some (some b) ∧ obAt H i = .ow wr sz ds
theorem less_keep (w : World) (A : Av) (ι : Io) (H : List Ob) (I : List Nat) : Keep w w A (less A ι H I) (FzB ι H I) :=
  ⟨rfl, rfl, rfl, Nat.le_refl _, fun _ _ _ => rfl, fun _ _ _ _ h => h, fun b cs T fr h => ⟨cs, fr, h, rfl⟩, fun b off h => .inl h.1, fun b off hb _ h => ⟨h, fun ⟨i, wr, sz, ds, h1, h2, h3, _⟩ => hb ⟨i, wr, sz, ds, h1, h2, h3⟩⟩⟩
theorem St.inj (S : St fid w0 A0 Cb nt w A ι a E H own) : Inj ι H := S.sp.inj
/-- The state where some rows are written no more, and some objects are gone. -/
theorem St.freeze {I : List Nat} (S : St fid w0 A0 Cb nt w A ι a E H own) (M : Mix H H' I) : St fid w0 A0 Cb nt w (less A ι H I) ι a E H' own := by
  have K := less_keep w A ι H I
  have hCb : ∀ b, FzB ι H I b → Cb b := by
    rintro b ⟨i, wr, sz, ds, h1, h2, h3⟩
    exact S.sp.ib i b (by rw [h3]; rfl) h2
  refine ⟨S.kp.trans K (fun b h => .inl h) (fun b h => .inl (hCb b h)), fun b off h => S.al b off h.1, S.cb, S.sz, S.fx, S.df, fun t => ?_, fun i => ?_, ⟨fun i hi => S.sp.len i (by rw [← M.1]; exact hi), fun i b ha => S.sp.ib i b (M.alive ha), M.inj S.inj, S.sp.tb, fun t b i h ha => S.sp.to t b i h (M.alive ha), S.sp.nd, S.sp.ap⟩⟩
  · refine LV.keep K (fun _ _ e => e) (S.lv t) ?_
    rintro b hb ⟨i, wr, sz, ds, h1, h2, h3⟩
    exact S.sp.to t b i hb (by rw [h3]; rfl) h2
  · rcases M.2 i with e | e
    · rw [e]; trivial
    · rw [e]
      by_cases hi : i ∈ I
      · rw [if_pos hi]
        cases ho : obAt H i with
        | ow wr sz ds =>
          have h := S.ob i
          rw [ho] at h
          rcases h with h | ⟨b, eb, cs, T, fr, vs, h1, h2, h3, h4, h5, h6, h7, h8⟩
          · exact .inl h
          · refine .inr ⟨b, eb, cs, T, fr, vs, h1, h2, h3, LVs.keep K (fun _ _ e => e) h4 (by simp), h5, h6, (by intro x; cases x), fun off ho' => ⟨h8 off ho', ?_⟩⟩
            rintro ⟨j, wr', sz', ds', g1, g2, g3, g4⟩
            have := S.sp.inj i j b (by rw [ho]; rfl) (by rw [g3]; rfl) eb g2
            subst this
            rw [ho] at g3
            simp only [Ob.ow.injEq] at g3
            obtain ⟨_, rfl, rfl⟩ := g3
            rw [h4.length_eq, flat_len h3] at ho'
            omega
        | bx ds =>
          have h := (S.ob i).keep K (fun _ _ e => e) (by
            rintro b ha hb ⟨j, wr', sz', ds', g1, g2, g3⟩
            have := S.sp.inj i j b ha (by rw [g3]; rfl) hb g2
            subst this
            rw [ho] at g3; cases g3)
          rw [ho] at h; exact h
        | mpo ks xs =>
          have h := (S.ob i).keep K (fun _ _ e => e) (by
            rintro b ha hb ⟨j, wr', sz', ds', g1, g2, g3⟩
            have := S.sp.inj i j b ha (by rw [g3]; rfl) hb g2
            subst this
            rw [ho] at g3; cases g3)
          rw [ho] at h; exact h
        | dead => trivial
      · rw [if_neg hi]
        refine (S.ob i).keep K (fun _ _ e => e) ?_
        rintro b ha hb ⟨j, wr', sz', ds', g1, g2, g3⟩
        have := S.sp.inj i j b ha (by rw [g3]; rfl) hb g2
        subst this
        exact hi g1
/-- Blocks that nobody of the state has. -/
structure Free (Cb : Nat → Prop) (ι : Io) (H : List Ob) (own : Nat → List Nat) (O : List Nat) : Prop where
  nd : O.Nodup
  cb : ∀ b, b ∈ O → Cb b
  ow : ∀ b, b ∈ O → ∀ t, b ∉ own t
  ob : ∀ b, b ∈ O → ∀ i, alive (obAt H i) = true → ι i ≠ some (some b)
theorem St.world {O : List Nat} (S : St fid w0 A0 Cb nt w A ι a E H own) (F : Free Cb ι H own O) (K : Keep w w' A A' (fun b => b ∈ O)) : St fid w0 A0 Cb nt w' A' ι a E H own := by
  refine ⟨S.kp.trans K (fun b h => .inl h) (fun b h => .inl (F.cb b h)), fun b off h => ?_, S.cb, S.sz, S.fx, S.df, fun t => ?_, fun i => ?_, S.sp⟩
  · rcases K.a1 b off h with h | h
    · exact Nat.lt_of_lt_of_le (S.al b off h) K.size
    · exact h.2
  · exact LV.keep K (fun _ _ e => e) (S.lv t) (fun b hb hO => F.ow b hO t hb)
  · exact (S.ob i).keep K (fun _ _ e => e) (fun b ha hb hO => F.ob b hO i ha hb)
/-- New objects, of free blocks. -/
theorem St.new {O : List Nat} (S : St fid w0 A0 Cb nt w A ι a E H own) (F : Free Cb ι H own O) (N : New fid w A ι ι' H H' O) : St fid w0 A0 Cb nt w A ι' a E H' own := by
  have hext := N.ext S.sp.len
  have hobO : ∀ i, i < H.length → obAt H' i = obAt H i := fun i hi => by unfold obAt; rw [N.pre i hi]
  refine ⟨S.kp, S.al, S.cb, S.sz, S.fx, S.df, fun t' => LV.keep (Keep.refl w A (fun _ => False)) hext (S.lv t') (by simp), fun i => ?_, ⟨N.out, fun i b ha hi => ?_, fun i j b ha hb hi hj => ?_, S.sp.tb, fun t' b i h ha hi => ?_, S.sp.nd, S.sp.ap⟩⟩
  · rcases Nat.lt_or_ge i H.length with hl | hl
    · rw [hobO i hl, N.io i hl]
      exact (S.ob i).keep (Keep.refl w A (fun _ => False)) hext (by simp)
    · rcases Nat.lt_or_ge i H'.length with hl2 | hl2
      · exact (N.ok i hl hl2).1
      · rw [obAt_ge hl2]; trivial
  · rcases Nat.lt_or_ge i H.length with hl | hl
    · rw [hobO i hl] at ha; rw [N.io i hl] at hi; exact S.sp.ib i b ha hi
    · exact F.cb b (N.blk i b hl hi)
  · rcases Nat.lt_or_ge i H.length with hl | hl
    · rw [hobO i hl] at ha; rw [N.io i hl] at hi
      rcases Nat.lt_or_ge j H.length with hl2 | hl2
      · rw [hobO j hl2] at hb; rw [N.io j hl2] at hj
        exact S.sp.inj i j b ha hb hi hj
      · exact (F.ob b (N.blk j b hl2 hj) i ha hi).elim
    · rcases Nat.lt_or_ge j H.length with hl2 | hl2
      · rw [hobO j hl2] at hb; rw [N.io j hl2] at hj
        exact (F.ob b (N.blk i b hl hi) j hb hj).elim
      · exact N.inj i j b hl hl2 hi hj
  · rcases Nat.lt_or_ge i H.length with hl | hl
    · rw [hobO i hl] at ha; rw [N.io i hl] at hi
      exact S.sp.to t' b i h ha hi
    · exact F.ow b (N.blk i b hl hi) t' h
theorem Free.rest {O1 O2 : List Nat} (S : St fid w0 A0 Cb nt w A ι a E H own) (F : Free Cb ι H own (O1 ++ O2)) (N : New fid w A ι ι' H H' O1) : Free Cb ι' H' own O2 := by
  obtain ⟨_, n2, n3⟩ := List.nodup_append.1 F.nd
  refine ⟨n2, fun b hb => F.cb b (by simp [hb]), fun b hb => F.ow b (by simp [hb]), fun b hb i ha hi => ?_⟩
  rcases Nat.lt_or_ge i H.length with hl | hl
  · have : obAt H' i = obAt H i := by unfold obAt; rw [N.pre i hl]
    rw [this] at ha; rw [N.io i hl] at hi
    exact F.ob b (by simp [hb]) i ha hi
  · exact n3 b (N.blk i b hl hi) b hb rfl
theorem Free.left {O1 O2 : List Nat} (F : Free Cb ι H own (O1 ++ O2)) : Free Cb ι H own O1 :=
  ⟨(List.nodup_append.1 F.nd).1, fun b hb => F.cb b (by simp [hb]), fun b hb => F.ow b (by simp [hb]), fun b hb => F.ob b (by simp [hb])⟩
/-- A value that comes from outside. -/
theorem St.absorb {O : List Nat} {v : Value} {d : D} {r : Bool} (S : St fid w0 A0 Cb nt w A ι a E H own) (F : Free Cb ι H own O) (l : LV fid w A ι r v d O) :
    ∃ ι', New fid w A ι ι' H (unf d H).2 O ∧ LV fid w A ι' true v (unf d H).1 [] ∧ St fid w0 A0 Cb nt w A ι' a E (unf d H).2 own := by
  obtain ⟨ι', N, l'⟩ := unf_sound_both l ι H (fun _ _ h => h) S.sp.len F.nd
  exact ⟨ι', N, l', S.new F N⟩
/-- An object that is there again. -/
theorem St.revive {id b : Nat} {o : Ob} (S : St fid w0 A0 Cb nt w A ι a E H own) (hlt : id < H.length) (hd : alive (obAt H id) = false) (hi : ι id = some (some b)) (hok : ObjOK fid w A ι (some (some b)) o) (hcb : Cb b) (how : ∀ t, b ∉ own t)
    (hob : ∀ i, alive (obAt H i) = true → ι i ≠ some (some b)) : St fid w0 A0 Cb nt w A ι a E (H.set id o) own := by
  have hset : ∀ i, obAt (H.set id o) i = if id = i then o else obAt H i := by
    intro i; rw [obAt_set]
    by_cases e : id = i
    · subst e; simp [hlt]
    · simp [e]
  refine ⟨S.kp, S.al, S.cb, S.sz, S.fx, S.df, S.lv, fun i => ?_, ⟨fun i h => S.sp.len i (by simpa using h), fun i b' ha h => ?_, fun i j b' h1 h2 h3 h4 => ?_, S.sp.tb, fun t b' i h ha hh => ?_, S.sp.nd, S.sp.ap⟩⟩
  · rw [hset]
    split
    · rename_i e; subst e; rw [hi]; exact hok
    · exact S.ob i
  · rw [hset] at ha
    split at ha
    · rename_i e; subst e; rw [hi] at h; injection h with h; injection h with h; subst h; exact hcb
    · exact S.sp.ib i b' ha h
  · rw [hset] at h1 h2
    split at h1
    · rename_i e; subst e
      split at h2
      · rename_i e; exact e
      · rw [hi] at h3; injection h3 with h3; injection h3 with h3; subst h3
        exact (hob j h2 h4).elim
    · split at h2
      · rename_i e; subst e
        rw [hi] at h4; injection h4 with h4; injection h4 with h4; subst h4
        exact (hob i h1 h3).elim
      · exact S.sp.inj i j b' h1 h2 h3 h4
  · rw [hset] at ha
    split at ha
    · rename_i e; subst e
      rw [hi] at hh; injection hh with hh; injection hh with hh; subst hh
      exact how t h
    · exact S.sp.to t b' i h ha hh
/-- A slot is set. -/
theorem St.put {dst : Option Nat} {v : Value} {d : D} (S : St fid w0 A0 Cb nt w A ι a E H own) (hd : ∀ t, dst = some t → nt.1 t = true) (l : LV fid w A ι true v d []) : St fid w0 A0 Cb nt w A ι (a.put dst v) (putE dst d E) H (put1 own dst []) := by
  have h := S.step (eat := none) (u := none) (XR.val (eo := []) l) hd
  have e : put1 own none [] = own := by funext t; simp [put1]
  rw [e] at h
  exact h
theorem St.lk {E' : Env} (S : St fid w0 A0 Cb nt w A ι a E H own) (h : ∀ t, lk E t = lk E' t) : St fid w0 A0 Cb nt w A ι a E' H own :=
  ⟨S.kp, S.al, S.cb, S.sz, S.fx, S.df, fun t => by rw [← h t]; exact S.lv t, S.ob, S.sp⟩
end
end Lg
