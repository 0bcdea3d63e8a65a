import Derived.Test.YtflnllohghgpdaaLgX15
/-
  Trees unfolded into objects.
-/
namespace Lg
open Go
set_option linter.unusedVariables false
set_option linter.unusedSimpArgs false
set_option linter.unusedSectionVars false

/-- What has come of objects: those that are new. -/
structure New (fid : Nat → FuncId) (w : World) (A : Av) (ι ι' : Io) (H H' : List Ob) (O : List Nat) : Prop where
  le : H.length ≤ H'.length
  pre : ∀ i, i < H.length → H'[i]? = H[i]?
  io : ∀ i, i < H.length → ι' i = ι i
  out : ∀ i, H'.length ≤ i → ι' i = none
  ok : ∀ i, H.length ≤ i → i < H'.length → ObjOK fid w A ι' (ι' i) (obAt H' i) ∧ alive (obAt H' i) = true
  blk : ∀ i b, H.length ≤ i → ι' i = some (some b) → b ∈ O
  inj : ∀ i j b, H.length ≤ i → H.length ≤ j → ι' i = some (some b) → ι' j = some (some b) → i = j
theorem New.refl {fid : Nat → FuncId} {w : World} {A : Av} {ι : Io} {H : List Ob} {O : List Nat} (h : ∀ i, H.length ≤ i → ι i = none) : New fid w A ι ι H H O :=
  ⟨Nat.le_refl _, fun _ _ => rfl, fun _ _ => rfl, h, fun i h1 h2 => by omega, fun i b h1 h2 => (by rw [h i h1] at h2; cases h2), fun i j b h1 _ h2 _ => (by rw [h i h1] at h2; cases h2)⟩
theorem New.ext {fid : Nat → FuncId} {w : World} {A : Av} {ι ι' : Io} {H H' : List Ob} {O : List Nat} (h : ∀ i, H.length ≤ i → ι i = none) (N : New fid w A ι ι' H H' O) : ∀ i q, ι i = some q → ι' i = some q := by
  intro i q hq
  rcases Nat.lt_or_ge i H.length with hl | hl
  · rw [N.io i hl]; exact hq
  · rw [h i hl] at hq; cases hq
theorem New.trans {fid : Nat → FuncId} {w : World} {A : Av} {ι ι1 ι2 : Io} {H H1 H2 : List Ob} {O1 O2 : List Nat} (h : ∀ i, H.length ≤ i → ι i = none) (N1 : New fid w A ι ι1 H H1 O1) (N2 : New fid w A ι1 ι2 H1 H2 O2) (hd : ∀ b, b ∈ O1 → b ∉ O2) :
    New fid w A ι ι2 H H2 (O1 ++ O2) := by
  have hext := N2.ext N1.out
  refine ⟨Nat.le_trans N1.le N2.le, fun i hi => ?_, fun i hi => ?_, N2.out, fun i h1 h2 => ?_, fun i b h1 h2 => ?_, fun i j b h1 h2 h3 h4 => ?_⟩
  · rw [N2.pre i (Nat.lt_of_lt_of_le hi N1.le), N1.pre i hi]
  · rw [N2.io i (Nat.lt_of_lt_of_le hi N1.le), N1.io i hi]
  · rcases Nat.lt_or_ge i H1.length with hl | hl
    · obtain ⟨a1, a2⟩ := N1.ok i h1 hl
      have : obAt H2 i = obAt H1 i := by unfold obAt; rw [N2.pre i hl]
      rw [this, N2.io i hl]
      exact ⟨a1.keep (Keep.refl w A (fun _ => False)) hext (by simp), a2⟩
    · exact N2.ok i hl h2
  · rcases Nat.lt_or_ge i H1.length with hl | hl
    · rw [N2.io i hl] at h2
      exact List.mem_append_left _ (N1.blk i b h1 h2)
    · exact List.mem_append_right _ (N2.blk i b hl h2)
  · rcases Nat.lt_or_ge i H1.length with hi | hi
    · rw [N2.io i hi] at h3
      rcases Nat.lt_or_ge j H1.length with hj | hj
      · rw [N2.io j hj] at h4
        exact N1.inj i j b h1 h2 h3 h4
      · exact (hd b (N1.blk i b h1 h3) (N2.blk j b hj h4)).elim
    · rcases Nat.lt_or_ge j H1.length with hj | hj
      · rw [N2.io j hj] at h4
        exact (hd b (N1.blk j b h2 h4) (N2.blk i b hi h3)).elim
      · exact N2.inj i j b hi hj h3 h4
/-- One object more. -/
theorem New.push {fid : Nat → FuncId} {w : World} {A : Av} {ι : Io} {H : List Ob} {o : Ob} {q : Option Nat} {O : List Nat} (h : ∀ i, H.length ≤ i → ι i = none) (ha : alive o = true) (hok : ObjOK fid w A (fun i => if i = H.length then some q else ι i) (some q) o)
    (hO : ∀ b, q = some b → b ∈ O) : New fid w A ι (fun i => if i = H.length then some q else ι i) H (H ++ [o]) O := by
  refine ⟨by simp, fun i hi => by rw [List.getElem?_append_left hi], fun i hi => by rw [if_neg (by omega)], fun i hi => ?_, fun i h1 h2 => ?_, fun i b h1 h2 => ?_, fun i j b h1 h2 h3 h4 => ?_⟩
  · simp at hi; rw [if_neg (by omega)]; exact h i (by omega)
  · simp at h2
    have : i = H.length := by omega
    subst this
    rw [obAt_append, if_pos rfl, if_pos rfl]
    exact ⟨hok, ha⟩
  · split at h2
    · injection h2 with h2; exact hO b h2
    · rw [h i h1] at h2; cases h2
  · split at h3
    · split at h4
      · omega
      · rw [h j h2] at h4; cases h4
    · rw [h i h1] at h3; cases h3
theorem New.mono {fid : Nat → FuncId} {w : World} {A : Av} {ι ι' : Io} {H H' : List Ob} {O O' : List Nat} (N : New fid w A ι ι' H H' O) (h : ∀ b, b ∈ O → b ∈ O') : New fid w A ι ι' H H' O' :=
  ⟨N.le, N.pre, N.io, N.out, N.ok, fun i b h1 h2 => h b (N.blk i b h1 h2), N.inj⟩

section
variable {fid : Nat → FuncId} {w : World} {A : Av}
def UnfOK (fid : Nat → FuncId) (w : World) (A : Av) (v : Value) (d : D) (O : List Nat) : Prop :=
  ∀ (ι : Io) (H : List Ob), (∀ i, H.length ≤ i → ι i = none) → O.Nodup → ∃ ι', New fid w A ι ι' H (unf d H).2 O ∧ LV fid w A ι' true v (unf d H).1 []
theorem unf_sound_both {ι0 : Io} :
    (∀ {r : Bool} {v : Value} {d : D} {O : List Nat}, LV fid w A ι0 r v d O → ∀ (ι : Io) (H : List Ob), (∀ i q, ι0 i = some q → ι i = some q) → (∀ i, H.length ≤ i → ι i = none) → O.Nodup → ∃ ι', New fid w A ι ι' H (unf d H).2 O ∧ LV fid w A ι' true v (unf d H).1 []) := by
  intro r v d O h
  refine LV.rec (motive_1 := fun r v d O _ => ∀ (ι : Io) (H : List Ob), (∀ i q, ι0 i = some q → ι i = some q) → (∀ i, H.length ≤ i → ι i = none) → O.Nodup → ∃ ι', New fid w A ι ι' H (unf d H).2 O ∧ LV fid w A ι' true v (unf d H).1 [])
    (motive_2 := fun r vs ds O _ => ∀ (ι : Io) (H : List Ob), (∀ i q, ι0 i = some q → ι i = some q) → (∀ i, H.length ≤ i → ι i = none) → O.Nodup → ∃ ι', New fid w A ι ι' H (unfs ds H).2 O ∧ LVs fid w A ι' true vs (unfs ds H).1 [])
    ?_ ?_ ?_ ?_ ?_ ?_ ?_ ?_ ?_ ?_ ?_ ?_ ?_ ?_ ?_ ?_ ?_ ?_ ?_ h
  · intro r v h ι H hι hn hd; exact ⟨ι, New.refl hn, .sc v h⟩
  · intro r v ι H hι hn hd; exact ⟨ι, New.refl hn, .un v⟩
  · intro r v h ι H hι hn hd; exact ⟨ι, New.refl hn, .uk v h⟩
  · intro r ι H hι hn hd; exact ⟨ι, New.refl hn, .nl⟩
  · intro r a ι H hι hn hd; exact ⟨ι, New.refl hn, .sn a⟩
  · intro r f vs ds O _ ih ι H hι hn hd
    obtain ⟨ι', N, l⟩ := ih ι H hι hn hd
    exact ⟨ι', N, .fn f vs _ [] l⟩
  · intro r vs ds O _ ih ι H hι hn hd
    obtain ⟨ι', N, l⟩ := ih ι H hι hn hd
    exact ⟨ι', N, .agg vs _ [] l⟩
  · intro r vs ds O _ ih ι H hι hn hd
    obtain ⟨ι', N, l⟩ := ih ι H hι hn hd
    exact ⟨ι', N, .tup vs _ [] l⟩
  · intro r a n cap sz ds vs hn' hc hu h h1 hr ih ι H hι hn hd; exact ⟨ι, New.refl hn, .sl a n cap sz ds vs hn' hc hu h.weak h1 hr⟩
  · intro r ad ds vs h h1 hr ih ι H hι hn hd; exact ⟨ι, New.refl hn, .ep ad ds vs h.weak h1 hr⟩
  · intro r a wr sz ι H hι hn hd
    exact ⟨_, New.push (q := none) hn rfl (.inl ⟨rfl, rfl⟩) (by simp), .rf a H.length sz 0 0 0 none (by simp) (by simp) (by simp)⟩
  · intro r b cap sz wr ds vs cs T fr hb hf hu h h1 hr hc hs ha hA ih ι H hι hn hd
    refine ⟨_, New.push (q := some b) (O := [b]) hn rfl (.inr ⟨b, rfl, cs, T, fr, vs, hb, hf, hu, h.weak, h1, hr, ha, hA⟩) (by simp), ?_⟩
    refine .rf _ H.length sz 0 ds.length cap (some b) (by simp) (by simp) ?_
    intro b' e
    injection e with e; subst e
    exact ⟨.inl (by simp), hc, cs, T, fr, hb, by simpa using hs⟩
  · intro r b vs ds O T fr hb hf _ h1 hA ih ι H hι hn hd
    obtain ⟨hd1, hd2⟩ := List.nodup_cons.1 hd
    obtain ⟨ι', N, l⟩ := ih ι H hι hn hd2
    have hn' := N.out
    have hext : ∀ i q, ι' i = some q → (fun i => if i = (unfs ds H).2.length then some (some b) else ι' i) i = some q := by
      intro i q hq
      show (if i = (unfs ds H).2.length then some (some b) else ι' i) = some q
      rw [if_neg (fun e => by rw [e, hn' _ (Nat.le_refl _)] at hq; cases hq)]; exact hq
    have l' : LVs fid w A (fun i => if i = (unfs ds H).2.length then some (some b) else ι' i) true vs (unfs ds H).1 [] := LVs.keep (Keep.refl w A (fun _ => False)) hext l (by simp)
    have N2 := New.push (fid := fid) (w := w) (A := A) (H := (unfs ds H).2) (o := .bx (unfs ds H).1) (q := some b) (O := [b]) hn' rfl ⟨b, vs, T, fr, rfl, hb, hf, l', h1, hA⟩ (by simp)
    refine ⟨_, ((N.trans hn N2 (fun x hx e => by simp at e; subst e; exact hd1 hx)).mono (fun x hx => by simp at hx ⊢; rcases hx with hx | hx; exact .inr hx; exact .inl hx)), ?_⟩
    have := LV.pt (fid := fid) (w := w) (A := A) (ι := fun i => if i = (unfs ds H).2.length then some (some b) else ι' i) (unfs ds H).2.length 0 0 0 b (by simp)
    simpa [unf] using this
  · intro r b es c ks xs hb hk hx hA ih1 ih2 ι H hι hn hd
    exact ⟨_, New.push (q := some b) (O := [b]) hn rfl ⟨b, es, c, rfl, hb, hk.weak, hx.weak, hA⟩ (by simp), .mp H.length b (by simp)⟩
  · intro a id sz off len cap q hi h0 h1 ι H hι hn hd; exact ⟨ι, New.refl hn, .rf a id sz off len cap q (hι _ _ hi) h0 h1⟩
  · intro id sz e off b hi ι H hι hn hd; exact ⟨ι, New.refl hn, .pt id sz e off b (hι _ _ hi)⟩
  · intro id b hi ι H hι hn hd; exact ⟨ι, New.refl hn, .mp id b (hι _ _ hi)⟩
  · intro r ι H hι hn hd; exact ⟨ι, New.refl hn, .nil⟩
  · intro r v d O vs ds Os _ _ ih1 ih2 ι H hι hn hd
    obtain ⟨hd1, hd2, hd3⟩ := List.nodup_append.1 hd
    obtain ⟨ι1, N1, l1⟩ := ih1 ι H hι hn hd1
    have hext1 := N1.ext hn
    obtain ⟨ι2, N2, l2⟩ := ih2 ι1 (unf d H).2 (fun i q hq => hext1 i q (hι i q hq)) N1.out hd2
    refine ⟨ι2, N1.trans hn N2 (fun b h1 h2 => hd3 b h1 b h2 rfl), ?_⟩
    have l1' := LV.keep (Keep.refl w A (fun _ => False)) (N2.ext N1.out) l1 (by simp)
    exact LVs.cons' l1' l2
end
end Lg
