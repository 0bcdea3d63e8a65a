import Derived.Test.YtflnllohghgpdaaLgM
/-
  A call's state: its slots and its objects, and what they are of data.
-/
namespace Lg
open Go
set_option linter.unusedSectionVars false
set_option linter.unusedVariables false
set_option linter.unusedSimpArgs false

def alive : Ob → Bool
  | .dead => false
  | _ => true
def obAt (H : List Ob) (i : Nat) : Ob := (H[i]?).getD .dead
/-- A row of one's own. -/
def OwnB (fid : Nat → FuncId) (w : World) (A : Av) (b : Nat) (wr : Bool) (sz : Nat) (ds : List D) : Prop :=
  ∃ (cs : Array Value) (T : TypeId) (fr : Nat × Nat) (vs : List Value), w.heap[b]? = some (.cells cs T fr) ∧ okfr cs.size fr ∧ (∀ d, d ∈ ds → d.cells.length = sz) ∧
    LVs fid w A (fun _ => none) false vs (flat ds) [] ∧ (∀ v, v ∈ vs → v.oneCell' = true) ∧ (∀ (k : Nat) (v : Value), vs[k]? = some v → cs[k]? = some v) ∧
    (wr = true → ∀ off, A b off) ∧ (∀ off, vs.length ≤ off → A b off)
def ObjOK (fid : Nat → FuncId) (w : World) (A : Av) (ι : Io) (q : Option (Option Nat)) : Ob → Prop
  | .bx ds => ∃ (b : Nat) (vs : List Value) (T : TypeId) (fr : Nat × Nat), q = some (some b) ∧ w.heap[b]? = some (.cells ⟨vs⟩ T fr) ∧ okfr vs.length fr ∧ LVs fid w A ι true vs ds [] ∧ (∀ v, v ∈ vs → v.oneCell' = true) ∧ ∀ off, A b off
  | .ow wr sz ds => (q = some none ∧ ds = []) ∨ ∃ b, q = some (some b) ∧ OwnB fid w A b wr sz ds
  | .mpo ks xs => ∃ (b : Nat) (es : Array MapEntry) (c : Nat), q = some (some b) ∧ w.heap[b]? = some (.map es c) ∧ LVs fid w A (fun _ => none) false (es.toList.map (·.key)) ks [] ∧
      LVs fid w A (fun _ => none) false (es.toList.map (·.val)) xs [] ∧ ∀ off, A b off
  | .dead => True

theorem OwnB.keep {fid : Nat → FuncId} {w w' : World} {A A' : Av} {C : Nat → Prop} (K : Keep w w' A A' C) {b : Nat} {wr : Bool} {sz : Nat} {ds : List D} (h : OwnB fid w A b wr sz ds) (hb : ¬ C b) : OwnB fid w' A' b wr sz ds := by
  obtain ⟨cs, T, fr, vs, h1, h2, h3, h4, h5, h6, h7, h8⟩ := h
  have hlt := lt_of_heap h1
  exact ⟨cs, T, fr, vs, (K.blk b hb hlt).trans h1, h2, h3, LVs.keep K (fun _ _ e => e) h4 (by simp), h5, h6, fun e off => K.a2 b off hb hlt (h7 e off), fun off ho => K.a2 b off hb hlt (h8 off ho)⟩
theorem ObjOK.keep {fid : Nat → FuncId} {w w' : World} {A A' : Av} {ι ι' : Io} {C : Nat → Prop} (K : Keep w w' A A' C) (hι : ∀ id q, ι id = some q → ι' id = some q)
    {q : Option (Option Nat)} {o : Ob} (h : ObjOK fid w A ι q o) (hC : ∀ b, alive o = true → q = some (some b) → ¬ C b) : ObjOK fid w' A' ι' q o := by
  cases o with
  | bx ds =>
    obtain ⟨b, vs, T, fr, e, h1, h2, h3, h4, h5⟩ := h
    have hb := hC b rfl e
    exact ⟨b, vs, T, fr, e, (K.blk b hb (lt_of_heap h1)).trans h1, h2, LVs.keep K hι h3 (by simp), h4, fun off => K.a2 b off hb (lt_of_heap h1) (h5 off)⟩
  | ow wr sz ds =>
    rcases h with h | ⟨b, e, h⟩
    · exact .inl h
    · exact .inr ⟨b, e, h.keep K (hC b rfl e)⟩
  | mpo ks xs =>
    obtain ⟨b, es, c, e, h1, h2, h3, h5⟩ := h
    have hb := hC b rfl e
    exact ⟨b, es, c, e, (K.blk b hb (lt_of_heap h1)).trans h1, LVs.keep K (fun _ _ e => e) h2 (by simp), LVs.keep K (fun _ _ e => e) h3 (by simp), fun off => K.a2 b off hb (lt_of_heap h1) (h5 off)⟩
  | dead => trivial

/-- What a call's own blocks are, and that they are apart: 'Cb': the blocks that may be written at all. -/
structure Sep (Cb : Nat → Prop) (ι : Io) (H : List Ob) (own : Nat → List Nat) : Prop where
  len : ∀ i, H.length ≤ i → ι i = none
  ib : ∀ i b, alive (obAt H i) = true → ι i = some (some b) → Cb b
  inj : ∀ i j b, alive (obAt H i) = true → alive (obAt H j) = true → ι i = some (some b) → ι j = some (some b) → i = j
  tb : ∀ t b, b ∈ own t → Cb b
  to : ∀ t b i, b ∈ own t → alive (obAt H i) = true → ι i ≠ some (some b)
  nd : ∀ t, (own t).Nodup
  ap : ∀ t t' b, b ∈ own t → b ∈ own t' → t = t'
/-- The slots that may be set; what the others hold. -/
abbrev Nt := (Nat → Bool) × (Nat → Value)
structure St (fid : Nat → FuncId) (w0 : World) (A0 : Av) (Cb : Nat → Prop) (nt : Nt) (w : World) (A : Av) (ι : Io) (a : Act) (E : Env) (H : List Ob) (own : Nat → List Nat) : Prop where
  kp : Keep w0 w A0 A Cb
  al : ∀ b off, A b off → b < w.heap.size
  cb : ∀ b, w0.heap.size ≤ b → Cb b
  sz : ∀ d, nt.1 d = true → d < a.tmps.size
  fx : ∀ t, nt.1 t = false → a.tmps.getD t undef = nt.2 t
  df : a.defers = []
  lv : ∀ t, LV fid w A ι true (a.tmps.getD t undef) (lk E t) (own t)
  ob : ∀ i, ObjOK fid w A ι (ι i) (obAt H i)
  sp : Sep Cb ι H own

theorem obAt_set (H : List Ob) (i j : Nat) (o : Ob) : obAt (H.set i o) j = if i = j ∧ j < H.length then o else obAt H j := by
  unfold obAt
  rw [List.getElem?_set]
  by_cases e : i = j
  · subst e
    by_cases hl : i < H.length
    · simp [hl]
    · simp [hl]
  · simp [e]
theorem obAt_append (H : List Ob) (o : Ob) (j : Nat) : obAt (H ++ [o]) j = if j = H.length then o else obAt H j := by
  unfold obAt
  rw [List.getElem?_append]
  by_cases h : j < H.length
  · rw [if_pos h, if_neg (by omega)]
  · rw [if_neg h]
    by_cases e : j = H.length
    · subst e; simp
    · rw [if_neg e]
      have : (H[j]? : Option Ob) = none := List.getElem?_eq_none (by omega)
      rw [this]
      have : ([o][j - H.length]? : Option Ob) = none := List.getElem?_eq_none (by simp; omega)
      rw [this]
theorem obAt_of {H : List Ob} {i : Nat} {o : Ob} (h : H[i]? = some o) : obAt H i = o := by simp [obAt, h]
theorem lt_of_get {H : List Ob} {i : Nat} {o : Ob} (h : H[i]? = some o) : i < H.length := by
  rcases Nat.lt_or_ge i H.length with hl | hl
  · exact hl
  · rw [List.getElem?_eq_none hl] at h; cases h

/-- What an operation did: its value, what it has of its own; one object turned. 'eo': what it took over from a slot. -/
structure XR (fid : Nat → FuncId) (w w' : World) (A A' : Av) (ι : Io) (H : List Ob) (eo : List Nat) (v : Value) (d : D) (u : Option (Nat × Ob)) (O : List Nat) : Prop where
  kp : Keep w w' A A' (fun b => b ∈ eo ∨ ∃ i o, u = some (i, o) ∧ ι i = some (some b))
  lv : LV fid w' A' ι true v d O
  ob : ∀ i o, u = some (i, o) → ObjOK fid w' A' ι (ι i) o ∧ i < H.length ∧ alive (obAt H i) = true
  nd : O.Nodup
  fr : ∀ b, b ∈ O → b ∈ eo ∨ (∃ i, u = some (i, .dead) ∧ ι i = some (some b)) ∨ w.heap.size ≤ b

def obU (H : List Ob) (u : Option (Nat × Ob)) (j : Nat) : Ob := match u with | some (i, o) => if i = j then o else obAt H j | none => obAt H j
def put1 (own : Nat → List Nat) (t : Option Nat) (O : List Nat) : Nat → List Nat := fun t' => if t = some t' then O else own t'
def eaten (own : Nat → List Nat) : Option Nat → List Nat
  | some t => own t
  | none => []

theorem lk_putE (dst : Option Nat) (d : D) (E : Env) (t : Nat) : lk (putE dst d E) t = if dst = some t then d else lk E t := by
  cases dst with
  | none => simp [putE]
  | some s => simp only [putE, lk]; by_cases h : s = t <;> simp [h]
theorem getD_put (a : Act) (dst : Option Nat) (v : Value) (t : Nat) (hd : ∀ d, dst = some d → d < a.tmps.size) : (a.put dst v).tmps.getD t undef = if dst = some t then v else a.tmps.getD t undef := by
  cases dst with
  | none => simp [Act.put]
  | some s =>
    have hs := hd s rfl
    simp only [Act.put, Option.some.injEq, Array.getD_eq_getD_getElem?, Array.getElem?_setIfInBounds]
    by_cases h : s = t
    · subst h; simp [hs]
    · simp [h]
theorem put_size (a : Act) (dst : Option Nat) (v : Value) : (a.put dst v).tmps.size = a.tmps.size := by cases dst <;> simp [Act.put]
theorem put_defers (a : Act) (dst : Option Nat) (v : Value) : (a.put dst v).defers = a.defers := by cases dst <;> rfl

section
variable {fid : Nat → FuncId} {w0 : World} {A0 : Av} {Cb : Nat → Prop} {nt : Nt} {w : World} {A : Av} {ι : Io} {a : Act} {E : Env} {H : List Ob} {own : Nat → List Nat}
theorem St.own_lt (S : St fid w0 A0 Cb nt w A ι a E H own) : ∀ t b, b ∈ own t → b < w.heap.size := by
  have key : ∀ {r : Bool} {v : Value} {d : D} {O : List Nat}, LV fid w A ι r v d O → ∀ b, b ∈ O → b < w.heap.size := by
    intro r v d O h
    refine LV.rec (motive_1 := fun r v d O _ => ∀ b, b ∈ O → b < w.heap.size) (motive_2 := fun r vs ds O _ => ∀ b, b ∈ O → b < w.heap.size)
      ?_ ?_ ?_ ?_ ?_ ?_ ?_ ?_ ?_ ?_ ?_ ?_ ?_ ?_ ?_ ?_ ?_ ?_ ?_ h
    · intro r v h b hb; simp at hb
    · intro r v b hb; simp at hb
    · intro r v h b hb; simp at hb
    · intro r b hb; simp at hb
    · intro r a b hb; simp at hb
    · intro r f vs ds O _ ih; exact ih
    · intro r vs ds O _ ih; exact ih
    · intro r vs ds O _ ih; exact ih
    · intro r a n cap sz ds vs hn hc hu _ h1 hr ih b hb; simp at hb
    · intro r ad ds vs _ h1 hr ih b hb; simp at hb
    · intro r a wr sz b hb; simp at hb
    · intro r b cap sz wr ds vs cs T fr hb hf hu _ h1 hr hc hs ha hA ih b' hb'; simp at hb'; subst hb'; exact lt_of_heap hb
    · intro r b vs ds O T fr hb hf _ h1 hA ih b' hb'
      rcases List.mem_cons.1 hb' with e | e
      · subst e; exact lt_of_heap hb
      · exact ih b' e
    · intro r b es c ks xs hb _ _ hA ih1 ih2 b' hb'; simp at hb'; subst hb'; exact lt_of_heap hb
    · intro a id sz off len cap q hi h0 h1 b hb; simp at hb
    · intro id sz e off b hi b' hb; simp at hb
    · intro id b hi b' hb; simp at hb
    · intro r b hb; simp at hb
    · intro r v d O vs ds Os _ _ ih1 ih2 b hb
      rcases List.mem_append.1 hb with e | e
      · exact ih1 b e
      · exact ih2 b e
  exact fun t b hb => key (S.lv t) b hb
theorem St.ob_lt (S : St fid w0 A0 Cb nt w A ι a E H own) {i b : Nat} (ha : alive (obAt H i) = true) (hi : ι i = some (some b)) : b < w.heap.size := by
  have h := S.ob i
  rw [hi] at h
  cases ho : obAt H i with
  | bx ds => rw [ho] at h; obtain ⟨b', vs, T, fr, e, h1, _⟩ := h; injection e with e; injection e with e; subst e; exact lt_of_heap h1
  | ow wr sz ds =>
    rw [ho] at h
    rcases h with ⟨e, _⟩ | ⟨b', e, cs, T, fr, vs, h1, _⟩
    · cases e
    · injection e with e; injection e with e; subst e; exact lt_of_heap h1
  | mpo ks xs => rw [ho] at h; obtain ⟨b', es, c, e, h1, _⟩ := h; injection e with e; injection e with e; subst e; exact lt_of_heap h1
  | dead => rw [ho] at ha; cases ha
/-- The state behind an operation. -/
theorem St.step (S : St fid w0 A0 Cb nt w A ι a E H own) {w' : World} {A' : Av} {eat dst : Option Nat} {v : Value} {d : D} {u : Option (Nat × Ob)} {O : List Nat}
    (X : XR fid w w' A A' ι H (eaten own eat) v d u O) (hd : ∀ t, dst = some t → nt.1 t = true) :
    St fid w0 A0 Cb nt w' A' ι (a.put dst v) (putE dst d (putE eat .un E)) (putH u H) (put1 (put1 own eat []) dst O) := by
  have hC : ∀ b, (b ∈ eaten own eat ∨ ∃ i o, u = some (i, o) ∧ ι i = some (some b)) → Cb b := by
    rintro b (h | ⟨i, o, e, hi⟩)
    · cases eat with
      | none => simp [eaten] at h
      | some t => exact S.sp.tb t b h
    · exact S.sp.ib i b (X.ob i o e).2.2 hi
  have hObNew : ∀ j, obAt (putH u H) j = obU H u j := by
    intro j
    cases hu : u with
    | none => rfl
    | some p =>
      obtain ⟨i, o⟩ := p
      have hl := (X.ob i o hu).2.1
      simp only [putH, obAt_set, obU]
      by_cases e : i = j
      · subst e; simp [hl]
      · simp [e]
  have halive : ∀ j, alive (obAt (putH u H) j) = true → alive (obAt H j) = true := by
    intro j h
    rw [hObNew] at h
    cases hu : u with
    | none => rw [hu] at h; exact h
    | some p =>
      obtain ⟨i, o⟩ := p
      rw [hu] at h
      simp only [obU] at h
      split at h
      · rename_i e; subst e; exact (X.ob i o hu).2.2
      · exact h
  have hι : ∀ id q, ι id = some q → ι id = some q := fun _ _ e => e
  have hother : ∀ t, eat ≠ some t → ∀ b, b ∈ own t → ¬ (b ∈ eaten own eat ∨ ∃ i o, u = some (i, o) ∧ ι i = some (some b)) := by
    rintro t hne b hb (h | ⟨i, o, e, hi⟩)
    · cases eat with
      | none => simp [eaten] at h
      | some s => exact hne (by rw [S.sp.ap s t b h hb])
    · exact S.sp.to t b i hb (X.ob i o e).2.2 hi
  refine ⟨?_, ?_, S.cb, by rw [put_size]; exact S.sz, ?_, by rw [put_defers]; exact S.df, ?_, ?_, ?_⟩
  · exact S.kp.trans X.kp (fun b h => .inl h) (fun b h => .inl (hC b h))
  · intro b off h
    rcases X.kp.a1 b off h with h | h
    · exact Nat.lt_of_lt_of_le (S.al b off h) X.kp.size
    · exact h.2
  · intro t ht
    rw [getD_put a dst v t (fun d e => S.sz d (hd d e)), if_neg (fun e => by rw [hd t e] at ht; cases ht)]
    exact S.fx t ht
  · intro t
    rw [getD_put a dst v t (fun d e => S.sz d (hd d e)), lk_putE]
    unfold put1
    by_cases e : dst = some t
    · rw [if_pos e, if_pos e, if_pos e]; exact X.lv
    · rw [if_neg e, if_neg e, if_neg e, lk_putE]
      by_cases e' : eat = some t
      · rw [if_pos e', if_pos e']
        exact .un _
      · rw [if_neg e', if_neg e']
        exact LV.keep X.kp hι (S.lv t) (hother t e')
  · intro j
    rw [hObNew]
    cases hu : u with
    | none => exact (S.ob j).keep X.kp hι (by
        rintro b ha hb (h | ⟨i, o, e, hi⟩)
        · cases eat with
          | none => simp [eaten] at h
          | some s => exact S.sp.to s b j h ha hb
        · rw [hu] at e; cases e)
    | some p =>
      obtain ⟨i, o⟩ := p
      simp only [obU]
      split
      · rename_i e; subst e; exact (X.ob i o hu).1
      · rename_i hne
        exact (S.ob j).keep X.kp hι (by
          rintro b ha hb (h | ⟨i', o', e, hi⟩)
          · cases eat with
            | none => simp [eaten] at h
            | some s => exact S.sp.to s b j h ha hb
          · rw [hu] at e; injection e with e; injection e with e1 e2; subst e1
            exact hne (S.sp.inj i j b (X.ob i o hu).2.2 ha hi hb))
  · have hlen : (putH u H).length = H.length := by cases u with | none => rfl | some p => simp [putH]
    have hown : ∀ t b, b ∈ put1 (put1 own eat []) dst O t → (dst = some t ∧ b ∈ O) ∨ (dst ≠ some t ∧ eat ≠ some t ∧ b ∈ own t) := by
      intro t b h
      unfold put1 at h
      split at h
      · rename_i e; exact .inl ⟨e, h⟩
      · rename_i e
        split at h
        · simp at h
        · rename_i e'; exact .inr ⟨e, e', h⟩
    have hOt : ∀ b, b ∈ O → ∀ t, dst ≠ some t → eat ≠ some t → b ∉ own t := by
      intro b hb t h1 h2 hbt
      rcases X.fr b hb with h | ⟨i, e, hi⟩ | h
      · cases eat with
        | none => simp [eaten] at h
        | some s => exact h2 (by rw [S.sp.ap s t b h hbt])
      · exact S.sp.to t b i hbt (X.ob i _ e).2.2 hi
      · have := S.own_lt t b hbt; omega
    have hOo : ∀ b, b ∈ O → ∀ i, alive (obAt (putH u H) i) = true → ι i ≠ some (some b) := by
      intro b hb i ha hi
      rcases X.fr b hb with h | ⟨j, e, hj⟩ | h
      · cases eat with
        | none => simp [eaten] at h
        | some s => exact S.sp.to s b i h (halive i ha) hi
      · have := S.sp.inj j i b (X.ob j _ e).2.2 (halive i ha) hj hi
        subst this
        rw [hObNew, e] at ha
        simp [alive, obU] at ha
      · have := S.ob_lt (halive i ha) hi; omega
    refine ⟨fun i hi => S.sp.len i (by rw [← hlen]; exact hi), fun i b ha hi => S.sp.ib i b (halive i ha) hi, fun i j b h1 h2 => S.sp.inj i j b (halive i h1) (halive j h2), ?_, ?_, ?_, ?_⟩
    · intro t b h
      rcases hown t b h with ⟨_, h⟩ | ⟨_, _, h⟩
      · rcases X.fr b h with h | ⟨i, e, hi⟩ | h
        · exact hC b (.inl h)
        · exact hC b (.inr ⟨i, _, e, hi⟩)
        · exact S.cb b (Nat.le_trans S.kp.size h)
      · exact S.sp.tb t b h
    · intro t b i h ha
      rcases hown t b h with ⟨_, h⟩ | ⟨_, _, h⟩
      · exact hOo b h i ha
      · exact S.sp.to t b i h (halive i ha)
    · intro t
      unfold put1
      split
      · exact X.nd
      · split
        · simp
        · exact S.sp.nd t
    · intro t t' b h h'
      rcases hown t b h with ⟨e, h⟩ | ⟨e1, e2, h⟩
      · rcases hown t' b h' with ⟨e', h'⟩ | ⟨e1', e2', h'⟩
        · rw [e] at e'; injection e'
        · exact (hOt b h t' e1' e2' h').elim
      · rcases hown t' b h' with ⟨e', h'⟩ | ⟨e1', e2', h'⟩
        · exact (hOt b h' t e1 e2 h).elim
        · exact S.sp.ap t t' b h h'
end
end Lg
