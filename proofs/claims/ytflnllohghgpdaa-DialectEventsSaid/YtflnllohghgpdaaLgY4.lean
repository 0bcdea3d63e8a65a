import Derived.Test.YtflnllohghgpdaaLgY3
/-
  Values handed over: 'fld'.
-/
namespace Lg
open Go
set_option linter.unusedVariables false
set_option linter.unusedSimpArgs false
set_option linter.unusedSectionVars false

/-- Some objects are gone. -/
def Gone (H H' : List Ob) : Prop := H'.length = H.length ∧ ∀ i, obAt H' i = obAt H i ∨ obAt H' i = .dead
theorem Gone.refl (H : List Ob) : Gone H H := ⟨rfl, fun i => .inl rfl⟩
theorem Gone.trans {H H1 H2 : List Ob} (h : Gone H H1) (k : Gone H1 H2) : Gone H H2 := by
  refine ⟨k.1.trans h.1, fun i => ?_⟩
  rcases k.2 i with e | e
  · rcases h.2 i with e' | e'
    · exact .inl (e.trans e')
    · exact .inr (e.trans e')
  · exact .inr e
theorem Gone.alive {H H' : List Ob} (h : Gone H H') {i : Nat} (ha : alive (obAt H' i) = true) : obAt H' i = obAt H i := by
  rcases h.2 i with e | e
  · exact e
  · rw [e] at ha; cases ha
theorem Gone.set (H : List Ob) (id : Nat) : Gone H (H.set id .dead) := by
  refine ⟨by simp, fun i => ?_⟩
  rw [obAt_set]
  split
  · exact .inr rfl
  · exact .inl rfl
section
variable {fid : Nat → FuncId} {w : World} {A : Av} {ι ι' : Io}
theorem Gone.ob {H H' : List Ob} (h : Gone H H') (hob : ∀ i, ObjOK fid w A ι (ι i) (obAt H i)) : ∀ i, ObjOK fid w A ι (ι i) (obAt H' i) := by
  intro i
  rcases h.2 i with e | e
  · rw [e]; exact hob i
  · rw [e]; trivial
def Inj (ι : Io) (H : List Ob) : Prop := ∀ i j b, alive (obAt H i) = true → alive (obAt H j) = true → ι i = some (some b) → ι j = some (some b) → i = j
theorem Gone.inj {H H' : List Ob} (h : Gone H H') (k : Inj ι H) : Inj ι H' := by
  intro i j b h1 h2
  have e1 := h.alive h1
  have e2 := h.alive h2
  rw [e1] at h1; rw [e2] at h2
  exact k i j b h1 h2
/-- What was taken: blocks of objects that are gone now. -/
def Taken (ι : Io) (H H' : List Ob) (O : List Nat) : Prop := ∀ b, b ∈ O → ∃ i, ι i = some (some b) ∧ alive (obAt H i) = true ∧ obAt H' i = .dead
theorem Taken.app {H H1 H2 : List Ob} {O1 O2 : List Nat} (g1 : Gone H H1) (g2 : Gone H1 H2) (h1 : Taken ι H H1 O1) (h2 : Taken ι H1 H2 O2) : Taken ι H H2 (O1 ++ O2) := by
  intro b hb
  rcases List.mem_append.1 hb with hb | hb
  · obtain ⟨i, e1, e2, e3⟩ := h1 b hb
    refine ⟨i, e1, e2, ?_⟩
    rcases g2.2 i with e | e
    · rw [e, e3]
    · exact e
  · obtain ⟨i, e1, e2, e3⟩ := h2 b hb
    exact ⟨i, e1, by rwa [g1.alive e2] at e2, e3⟩
theorem Taken.apart {H H1 H2 : List Ob} {O1 O2 : List Nat} (hi : Inj ι H) (g1 : Gone H H1) (h1 : Taken ι H H1 O1) (h2 : Taken ι H1 H2 O2) : ∀ b, b ∈ O1 → b ∉ O2 := by
  intro b m1 m2
  obtain ⟨i, e1, e2, e3⟩ := h1 b m1
  obtain ⟨j, f1, f2, f3⟩ := h2 b m2
  have f2' := f2
  rw [g1.alive f2] at f2
  have := hi i j b e2 f2 e1 f1
  subst this
  rw [e3] at f2'
  cases f2'
def FldOK (fid : Nat → FuncId) (w : World) (A : Av) (ι ι' : Io) (f : D → List Ob → Option (D × List Ob)) : Prop :=
  ∀ (v : Value) (d d' : D) (H H' : List Ob), LV fid w A ι true v d [] → (∀ i, ObjOK fid w A ι (ι i) (obAt H i)) → Inj ι H → f d H = some (d', H') →
    ∃ O, LV fid w A ι' false v d' O ∧ O.Nodup ∧ Gone H H' ∧ Taken ι H H' O
theorem thr_sound {f : D → List Ob → Option (D × List Ob)} (hf : FldOK fid w A ι ι' f) : ∀ (vs : List Value) (ds ds' : List D) (H H' : List Ob), LVs fid w A ι true vs ds [] → (∀ i, ObjOK fid w A ι (ι i) (obAt H i)) → Inj ι H → thr f ds H = some (ds', H') →
    ∃ O, LVs fid w A ι' false vs ds' O ∧ O.Nodup ∧ Gone H H' ∧ Taken ι H H' O
  | [], [], ds', H, H', h, _, _, e => by
    simp [thr] at e
    obtain ⟨rfl, rfl⟩ := e
    exact ⟨[], .nil, List.nodup_nil, Gone.refl _, by intro b hb; simp at hb⟩
  | [], _ :: _, ds', H, H', h, _, _, e => by cases h
  | _ :: _, [], ds', H, H', h, _, _, e => by cases h
  | v :: vs, d :: ds, ds', H, H', h, hob, hi, e => by
    simp only [thr] at e
    obtain ⟨⟨d1, H1⟩, e1, e⟩ := Option.bind_eq_some_iff.1 e
    obtain ⟨⟨ds2, H2⟩, e2, e⟩ := Option.map_eq_some_iff.1 e
    simp only [Prod.mk.injEq] at e
    obtain ⟨rfl, rfl⟩ := e
    obtain ⟨O1, l1, n1, g1, t1⟩ := hf v d d1 H H1 h.uncons.1 hob hi e1
    obtain ⟨O2, l2, n2, g2, t2⟩ := thr_sound hf vs ds ds2 H1 H2 h.uncons.2 (g1.ob hob) (g1.inj hi) e2
    exact ⟨O1 ++ O2, .cons v d1 O1 vs ds2 O2 l1 l2, List.nodup_append.2 ⟨n1, n2, fun a ha b hb e => Taken.apart hi g1 t1 t2 a ha (e ▸ hb)⟩, g1.trans g2, t1.app g1 g2 t2⟩
theorem fld_sound : ∀ n, FldOK fid w A ι ι' (fld n)
  | 0 => by intro v d d' H H' _ _ _ e; simp [fld] at e
  | n + 1 => by
    intro v d d' H H' h hob hi e
    have ih := thr_sound (fld_sound n)
    have same : ∀ d, isRO d = true → LV fid w A ι true v d [] → d' = d → H' = H → ∃ O, LV fid w A ι' false v d' O ∧ O.Nodup ∧ Gone H H' ∧ Taken ι H H' O := by
      rintro d hr hl rfl rfl
      exact ⟨[], (hl.ro hr).weak, List.nodup_nil, Gone.refl _, by intro b hb; simp at hb⟩
    cases d with
    | sc x => simp [fld] at e; exact same _ rfl h e.1.symm e.2.symm
    | un => simp [fld] at e; exact same _ rfl h e.1.symm e.2.symm
    | uk => simp [fld] at e; exact same _ rfl h e.1.symm e.2.symm
    | nl => simp [fld] at e; exact same _ rfl h e.1.symm e.2.symm
    | sn => simp [fld] at e; exact same _ rfl h e.1.symm e.2.symm
    | sl sz ds => simp [fld] at e; exact same _ rfl h e.1.symm e.2.symm
    | ep ds => simp [fld] at e
    | osl wr sz ds => simp [fld] at e
    | obx ds => simp [fld] at e
    | omp ks vs => simp [fld] at e
    | agg ds =>
      simp only [fld] at e
      obtain ⟨⟨ds', H1⟩, e1, e2⟩ := Option.map_eq_some_iff.1 e
      simp only [Prod.mk.injEq] at e2
      obtain ⟨rfl, rfl⟩ := e2
      obtain ⟨vs, rfl, hv⟩ := h.inv_agg
      obtain ⟨O, l, r⟩ := ih vs ds ds' H H1 hv hob hi e1
      exact ⟨O, .agg vs ds' O l, r⟩
    | tup ds =>
      simp only [fld] at e
      obtain ⟨⟨ds', H1⟩, e1, e2⟩ := Option.map_eq_some_iff.1 e
      simp only [Prod.mk.injEq] at e2
      obtain ⟨rfl, rfl⟩ := e2
      obtain ⟨vs, rfl, hv⟩ := h.inv_tup
      obtain ⟨O, l, r⟩ := ih vs ds ds' H H1 hv hob hi e1
      exact ⟨O, .tup vs ds' O l, r⟩
    | fn f ds =>
      simp only [fld] at e
      obtain ⟨⟨ds', H1⟩, e1, e2⟩ := Option.map_eq_some_iff.1 e
      simp only [Prod.mk.injEq] at e2
      obtain ⟨rfl, rfl⟩ := e2
      obtain ⟨vs, rfl, hv⟩ := h.inv_fn
      obtain ⟨O, l, r⟩ := ih vs ds ds' H H1 hv hob hi e1
      exact ⟨O, .fn f vs ds' O l, r⟩
    | rf id sz off len =>
      simp only [fld] at e
      split at e
      · rename_i wr sz' ds hH
        split at e
        case isFalse => cases e
        rename_i hh
        obtain ⟨rfl, rfl⟩ := hh
        -- the part that is handed on: all of it, or the head of what's one's own
        have key : ∃ dn wr', d' = .osl wr' sz dn ∧ H' = H.set id .dead ∧ dn = ds.take len ∧ dn.length = len ∧ (wr' = true → wr = true) ∧ (len < ds.length → wr = true) := by
          split at e
          · rename_i hl
            injection e with e
            simp only [Prod.mk.injEq] at e
            obtain ⟨rfl, rfl⟩ := e
            exact ⟨ds, wr, rfl, rfl, by rw [hl, List.take_length], hl.symm, fun h => h, fun h => by omega⟩
          · split at e
            · rename_i hl
              simp only [Bool.and_eq_true, decide_eq_true_eq] at hl
              injection e with e
              simp only [Prod.mk.injEq] at e
              obtain ⟨rfl, rfl⟩ := e
              exact ⟨_, true, rfl, rfl, rfl, by rw [List.length_take]; omega, fun _ => hl.1, fun _ => hl.1⟩
            · cases e
        obtain ⟨dn, wr', rfl, rfl, hdn, hlen, hw1, hw2⟩ := key
        obtain ⟨ad, cap, q, rfl, _, _, hid, h0, h1⟩ := h.inv_rf
        have hobi := hob id
        rw [obAt_of hH] at hobi
        rcases hobi with ⟨eb, rfl⟩ | ⟨b, eb, cs, T, fr, vs, k1, k2, ku, k4, k5, k6, k7, k8⟩
        · rw [hid] at eb
          injection eb with eb
          obtain ⟨hl0, hc0, _⟩ := h0 eb
          subst hc0; subst hl0
          have : dn = [] := by rw [hdn]; rfl
          subst this
          exact ⟨[], .osln ad wr' sz, List.nodup_nil, Gone.set H id, by intro b hb; simp at hb⟩
        · have eb' := eb
          rw [hid] at eb
          injection eb with eb
          obtain ⟨m1, m2, cs', T', fr', m3, m4⟩ := h1 b eb
          rw [k1] at m3
          injection m3 with m3; injection m3 with m3 m5 m6
          subst m3
          have hle : len ≤ ds.length := by rw [hdn, List.length_take] at hlen; omega
          rcases m1 with rfl | m1
          · refine ⟨[b], ?_, by simp, Gone.set H id, ?_⟩
            · have hfl : flat ds = flat dn ++ flat (ds.drop len) := by
                rw [hdn]; unfold flat; rw [← List.flatMap_append, List.take_append_drop]
              have kn : LVs fid w A (fun _ => none) false (vs.take (flat dn).length) (flat dn) [] := by
                have := k4.take (flat dn).length
                rw [hfl, List.take_left] at this
                exact this
              have hvl : vs.length = (flat ds).length := k4.length_eq
              have hvn : (vs.take (flat dn).length).length = (flat dn).length := kn.length_eq
              have := LV.osl (fid := fid) (w := w) (A := A) (ι := ι') (r := false) b cap sz wr' dn (vs.take (flat dn).length) cs T fr k1 k2 (fun d hd => ku d (by rw [hdn] at hd; exact List.mem_of_mem_take hd)) kn.weak
                (fun v hv => k5 v (List.mem_of_mem_take hv)) (fun k v hk => k6 k v (by rw [List.getElem?_take] at hk; split at hk; exact hk; cases hk)) (by rw [hlen]; exact m2) (by simpa using m4) (fun e off => k7 (hw1 e) off)
                (fun off ho => by
                  by_cases hlt : len < ds.length
                  · exact k7 (hw2 hlt) off
                  · have : dn = ds := by rw [hdn, List.take_of_length_le (by omega)]
                    rw [hvn, this] at ho
                    exact k8 off (by omega))
              rw [hlen] at this
              simpa using this
            · intro b' hb'
              simp at hb'; subst hb'
              exact ⟨id, eb', by rw [obAt_of hH]; rfl, by rw [obAt_set, if_pos ⟨rfl, lt_of_get hH⟩]⟩
          · subst m1
            have hl0 : len = 0 := Nat.le_zero.1 m2
            subst hl0
            have : dn = [] := by rw [hdn]; rfl
            subst this
            exact ⟨[], .osln ad wr' sz, List.nodup_nil, Gone.set H id, by intro b hb; simp at hb⟩
      · cases e
    | pt id sz e1 off =>
      simp only [fld] at e
      split at e
      · rename_i ds hH
        split at e
        · rename_i hh
          obtain ⟨rfl, rfl⟩ := hh
          obtain ⟨⟨ds', H1⟩, e1, e2⟩ := Option.map_eq_some_iff.1 e
          simp only [Prod.mk.injEq] at e2
          obtain ⟨rfl, rfl⟩ := e2
          obtain ⟨b, hid, rfl, _⟩ := h.inv_pt
          have hobi := hob id
          rw [obAt_of hH] at hobi
          obtain ⟨b', vs, T, fr, eb, h1, h2, h3, h4, h5⟩ := hobi
          rw [hid] at eb
          injection eb with eb; injection eb with eb; subst eb
          have g0 := Gone.set H id
          have hlive : alive (obAt H id) = true := by rw [obAt_of hH]; rfl
          have t0 : Taken ι H (H.set id .dead) [b] := by
            intro b' hb'
            simp at hb'; subst hb'
            exact ⟨id, hid, hlive, by rw [obAt_set, if_pos ⟨rfl, lt_of_get hH⟩]⟩
          obtain ⟨O, l, n1, g1, t1⟩ := ih vs ds ds' (H.set id .dead) H1 h3 (g0.ob hob) (g0.inj hi) e1
          refine ⟨b :: O, ?_, ?_, g0.trans g1, ?_⟩
          · have := LV.obx (fid := fid) (w := w) (A := A) (ι := ι') (r := false) b vs ds' O T fr h1 h2 l h4 h5
            simpa using this
          · exact List.nodup_cons.2 ⟨Taken.apart hi g0 t0 t1 b (by simp), n1⟩
          · exact t0.app g0 g1 t1
        · cases e
      · cases e
    | mp id =>
      simp only [fld] at e
      split at e
      · rename_i ks vs hH
        injection e with e
        simp only [Prod.mk.injEq] at e
        obtain ⟨rfl, rfl⟩ := e
        have hobi := hob id
        rw [obAt_of hH] at hobi
        obtain ⟨b, es, c, eb, h1, h2, h3, h5⟩ := hobi
        cases h with
        | mp _ b' hid =>
          rw [hid] at eb
          injection eb with eb; injection eb with eb; subst eb
          refine ⟨[b'], .omp b' es c ks vs h1 h2.weak h3.weak h5, by simp, Gone.set H id, ?_⟩
          intro b'' hb'
          simp at hb'; subst hb'
          exact ⟨id, hid, by rw [obAt_of hH]; rfl, by rw [obAt_set, if_pos ⟨rfl, lt_of_get hH⟩]⟩
      · cases e
end
end Lg
