import Derived.Test.YtflnllohghgpdaaLgY2
/-
  Values told read alone ('rof'), or handed over ('fld').
-/
namespace Lg
open Go
set_option linter.unusedVariables false
set_option linter.unusedSimpArgs false
set_option linter.unusedSectionVars false

/-- Objects marked as no more written. -/
def frz : Ob → Ob
  | .ow _ sz ds => .ow false sz ds
  | o => o
def Frz (H H' : List Ob) (I : List Nat) : Prop := H'.length = H.length ∧ ∀ i, obAt H' i = if i ∈ I then frz (obAt H i) else obAt H i
theorem Frz.nil {H : List Ob} {I : List Nat} (h : I = []) : Frz H H I := ⟨rfl, fun i => by rw [h]; simp⟩
theorem frz_frz (o : Ob) : frz (frz o) = frz o := by cases o <;> rfl
theorem Frz.trans {H H1 H2 : List Ob} {I J : List Nat} (h : Frz H H1 I) (k : Frz H1 H2 J) : Frz H H2 (I ++ J) := by
  refine ⟨k.1.trans h.1, fun i => ?_⟩
  rw [k.2 i, h.2 i]
  by_cases h1 : i ∈ I <;> by_cases h2 : i ∈ J <;> simp [h1, h2, frz_frz]
theorem Frz.ow {H H' : List Ob} {I : List Nat} (h : Frz H H' I) {i : Nat} {wr : Bool} {sz : Nat} {ds : List D} (e : obAt H' i = .ow wr sz ds) : ∃ wr', obAt H i = .ow wr' sz ds := by
  rw [h.2 i] at e
  split at e
  · cases ho : obAt H i with
    | ow wr' sz' ds' => rw [ho] at e; simp only [frz, Ob.ow.injEq] at e; exact ⟨wr', by rw [e.2.1, e.2.2]⟩
    | _ => rw [ho] at e; simp [frz] at e
  · exact ⟨wr, e⟩
section
variable {fid : Nat → FuncId} {w : World} {A Ac : Av} {ι ι' : Io} {H : List Ob}
/-- Read alone, where fewer cells may be written. -/
theorem LV.narrow_both (hA : ∀ b off, Ac b off → A b off) :
    (∀ {v : Value} {d : D}, LV fid w A ι false v d [] → LV fid w Ac ι' false v d []) ∧ (∀ {vs : List Value} {ds : List D}, LVs fid w A ι false vs ds [] → LVs fid w Ac ι' false vs ds []) := by
  have key : ∀ {r : Bool} {v : Value} {d : D} {O : List Nat}, LV fid w A ι r v d O → r = false → O = [] → LV fid w Ac ι' false v d [] := by
    intro r v d O h
    refine LV.rec (motive_1 := fun r v d O _ => r = false → O = [] → LV fid w Ac ι' false v d []) (motive_2 := fun r vs ds O _ => r = false → O = [] → LVs fid w Ac ι' false vs ds [])
      ?_ ?_ ?_ ?_ ?_ ?_ ?_ ?_ ?_ ?_ ?_ ?_ ?_ ?_ ?_ ?_ ?_ ?_ ?_ h
    · intro r v h _ _; exact .sc v h
    · intro r v _ _; exact .un v
    · intro r v h _ _; exact .uk v h
    · intro r _ _; exact .nl
    · intro r a _ _; exact .sn a
    · intro r f vs ds O _ ih e e'; exact .fn f vs ds [] (ih e e')
    · intro r vs ds O _ ih e e'; exact .agg vs ds [] (ih e e')
    · intro r vs ds O _ ih e e'; exact .tup vs ds [] (ih e e')
    · intro r a n cap sz ds vs hn hc hu h h1 hr ih _ _
      exact .sl a n cap sz ds vs hn hc hu (ih rfl rfl).weak h1 (fun k v hk => by obtain ⟨ad, e, n, c⟩ := hr k v hk; exact ⟨ad, e, fun x => n (hA _ _ x), c⟩)
    · intro r ad ds vs h h1 hr ih _ _
      exact .ep ad ds vs (ih rfl rfl).weak h1 (fun k v hk => ⟨fun x => (hr k v hk).1 (hA _ _ x), (hr k v hk).2⟩)
    · intro r a wr sz _ _; exact .osln a wr sz
    · intro r b cap sz wr ds vs cs T fr hb hf hu h h1 hr hc hs ha hA ih _ e; cases e
    · intro r b vs ds O T fr hb hf _ h1 hA ih _ e; cases e
    · intro r b es c ks xs hb _ _ hA ih1 ih2 _ e; cases e
    · intro a id sz off len cap q hi h0 h1 e; cases e
    · intro id sz e off b hi e'; cases e'
    · intro id b hi e; cases e
    · intro r _ _; exact .nil
    · intro r v d O vs ds Os _ _ ih1 ih2 e e'
      have := List.append_eq_nil_iff.1 e'
      exact .cons v d [] vs ds [] (ih1 e this.1) (ih2 e this.2)
  refine ⟨fun h => key h rfl rfl, ?_⟩
  intro vs
  induction vs with
  | nil => intro ds h; cases ds with | nil => exact .nil | cons => cases h
  | cons v vs ih =>
    intro ds h
    cases ds with
    | nil => cases h
    | cons d ds => exact LVs.cons' (key h.uncons.1 rfl rfl) (ih h.uncons.2)
/-- Where the rows that are looked at aren't written. -/
def RowsOut (Ac : Av) (ι : Io) (H : List Ob) (I : List Nat) : Prop := ∀ (i b : Nat) (wr : Bool) (sz : Nat) (ds : List D) (off : Nat), i ∈ I → ι i = some (some b) → obAt H i = .ow wr sz ds → off < ds.length * sz → ¬ Ac b off
theorem RowsOut.frz {H' : List Ob} {I J : List Nat} (h : RowsOut Ac ι H I) (k : Frz H H' J) : RowsOut Ac ι H' I := by
  intro i b wr sz ds off hi hb ho hlt
  obtain ⟨wr', ho'⟩ := k.ow ho
  exact h i b wr' sz ds off hi hb ho' hlt
def OwOK (fid : Nat → FuncId) (w : World) (A : Av) (ι : Io) (H : List Ob) : Prop := ∀ (i : Nat) (wr : Bool) (sz : Nat) (ds : List D), obAt H i = .ow wr sz ds → (ι i = some none ∧ ds = []) ∨ ∃ b, ι i = some (some b) ∧ ∃ (cs : Array Value) (T : TypeId) (fr : Nat × Nat) (vs : List Value), w.heap[b]? = some (.cells cs T fr) ∧ (∀ d, d ∈ ds → d.cells.length = sz) ∧
    LVs fid w A (fun _ => none) false vs (flat ds) [] ∧ (∀ v, v ∈ vs → v.oneCell' = true) ∧ (∀ (k : Nat) (v : Value), vs[k]? = some v → cs[k]? = some v)
theorem OwOK.frz {H' : List Ob} {J : List Nat} (h : OwOK fid w A ι H) (k : Frz H H' J) : OwOK fid w A ι H' := by
  intro i wr sz ds ho
  obtain ⟨wr', ho'⟩ := k.ow ho
  exact h i wr' sz ds ho'
theorem owOK (hob : ∀ i, ObjOK fid w A ι (ι i) (obAt H i)) : OwOK fid w A ι H := by
  intro i wr sz ds ho
  have := hob i
  rw [ho] at this
  rcases this with ⟨h1, h2⟩ | ⟨b, hb, cs, T, fr, vs, k1, k2, ku, k4, k5, k6, k7, k8⟩
  · exact .inl ⟨h1, h2⟩
  · exact .inr ⟨b, hb, cs, T, fr, vs, k1, ku, k4, k5, k6⟩
theorem rof_rf {ad : Option Addr} {len cap : Nat} {id sz off : Nat} {q : Option Nat} {wr : Bool} {sz' : Nat} {ds : List D} (hA : ∀ b off, Ac b off → A b off) (hok : OwOK fid w A ι H) (hH : H[id]? = some (.ow wr sz' ds)) (hh : (off = 0 ∨ sz = sz') ∧ off + len ≤ ds.length)
    (hi : ι id = some q) (h0 : q = none → len = 0 ∧ cap = 0 ∧ off = 0) (h1 : ∀ b, q = some b → (ad = some ⟨b, off * sz, none⟩ ∨ cap = 0) ∧ len ≤ cap ∧ ∃ (cs : Array Value) (T : TypeId) (fr : Nat × Nat), w.heap[b]? = some (Obj.cells cs T fr) ∧ (off + cap) * sz ≤ cs.size)
    (hR : RowsOut Ac ι H [id]) : LV fid w Ac ι' false (.slice ad len cap) (.sl sz' ((ds.drop off).take len)) [] := by
  have hlen : ((ds.drop off).take len).length = len := by rw [List.length_take, List.length_drop]; omega
  rcases hok id wr sz' ds (obAt_of hH) with ⟨eb, rfl⟩ | ⟨b, eb, cs, T, fr, vs, g1, hu, g4, g5, g6⟩
  · rw [hi] at eb
    injection eb with eb
    obtain ⟨hl0, hc0, _⟩ := h0 eb
    subst hl0; subst hc0
    exact .sl ad 0 0 sz' [] [] rfl (Nat.le_refl _) (by simp) .nil (by simp) (by simp)
  · have hid := eb
    rw [hi] at eb
    injection eb with eb
    obtain ⟨k1, k2, _⟩ := h1 b eb
    have hvl : vs.length = ds.length * sz' := by rw [g4.length_eq, flat_len hu]
    refine .sl ad len cap sz' _ ((vs.drop (off * sz')).take (len * sz')) hlen k2 (fun d hd => hu d (List.mem_of_mem_drop (List.mem_of_mem_take hd))) ?_ (fun v hv => g5 v (List.mem_of_mem_drop (List.mem_of_mem_take hv))) fun k u hk => ?_
    · have := (g4.drop (off * sz')).take (len * sz')
      rw [flat_drop hu, flat_take (fun d hd => hu d (List.mem_of_mem_drop hd))] at this
      exact (LV.narrow_both hA).2 this
    · have hk' := take_get hk
      rw [drop_get] at hk'
      have hlt : k < len * sz' := by
        rw [List.getElem?_take] at hk
        split at hk
        · assumption
        · cases hk
      have hlt2 : off * sz' + k < ds.length * sz' := by
        have : (off + len) * sz' ≤ ds.length * sz' := Nat.mul_le_mul_right _ hh.2
        rw [Nat.add_mul] at this; omega
      rcases k1 with rfl | k1
      · have e0 : off * sz = off * sz' := by rcases hh.1 with e | e <;> subst e <;> simp
        refine ⟨_, rfl, ?_, ?_⟩
        · rw [show (⟨b, off * sz, none⟩ : Addr).off = off * sz from rfl, e0]
          exact hR id b wr sz' ds (off * sz' + k) (by simp) hid (obAt_of hH) hlt2
        · rw [addr_add, e0]
          exact cell_of g1 (g6 _ _ hk')
      · exfalso
        have : len = 0 := by omega
        rw [this] at hlt; omega
/-- Told read alone. 'Ac' has nothing of what's looked at. -/
theorem rof_sound {fz : Bool} (hA : ∀ b off, Ac b off → A b off) :
    (∀ {r : Bool} {v : Value} {d : D} {O : List Nat}, LV fid w A ι r v d O → ∀ (H H' : List Ob) (d' : D), OwOK fid w A ι H → RowsOut Ac ι H (idsD d) → (∀ b, b ∈ O → ∀ off, ¬ Ac b off) → rof fz d H = some (d', H') → LV fid w Ac ι' false v d' [] ∧ Frz H H' (if fz then idsD d else [])) := by
  intro r v d O h
  refine LV.rec (motive_1 := fun r v d O _ => ∀ (H H' : List Ob) (d' : D), OwOK fid w A ι H → RowsOut Ac ι H (idsD d) → (∀ b, b ∈ O → ∀ off, ¬ Ac b off) → rof fz d H = some (d', H') → LV fid w Ac ι' false v d' [] ∧ Frz H H' (if fz then idsD d else []))
    (motive_2 := fun r vs ds O _ => ∀ (H H' : List Ob) (ds' : List D), OwOK fid w A ι H → RowsOut Ac ι H (idsDs ds) → (∀ b, b ∈ O → ∀ off, ¬ Ac b off) → rofs fz ds H = some (ds', H') → LVs fid w Ac ι' false vs ds' [] ∧ Frz H H' (if fz then idsDs ds else []))
    ?_ ?_ ?_ ?_ ?_ ?_ ?_ ?_ ?_ ?_ ?_ ?_ ?_ ?_ ?_ ?_ ?_ ?_ ?_ h
  · intro r v h H H' d' _ _ _ e; simp [rof] at e; obtain ⟨rfl, rfl⟩ := e; exact ⟨.sc v h, Frz.nil (by simp [idsD, idsDs])⟩
  · intro r v H H' d' _ _ _ e; simp [rof] at e; obtain ⟨rfl, rfl⟩ := e; exact ⟨.un v, Frz.nil (by simp [idsD, idsDs])⟩
  · intro r v h H H' d' _ _ _ e; simp [rof] at e; obtain ⟨rfl, rfl⟩ := e; exact ⟨.uk v h, Frz.nil (by simp [idsD, idsDs])⟩
  · intro r H H' d' _ _ _ e; simp [rof] at e; obtain ⟨rfl, rfl⟩ := e; exact ⟨.nl, Frz.nil (by simp [idsD, idsDs])⟩
  · intro r a H H' d' _ _ _ e; simp [rof] at e; obtain ⟨rfl, rfl⟩ := e; exact ⟨.sn a, Frz.nil (by simp [idsD, idsDs])⟩
  · intro r f vs ds O _ ih H H' d' h1 h2 h3 e
    simp only [rof] at e
    obtain ⟨⟨ds', H1⟩, e1, e2⟩ := Option.map_eq_some_iff.1 e
    simp only [Prod.mk.injEq] at e2
    obtain ⟨rfl, rfl⟩ := e2
    obtain ⟨q1, q2⟩ := ih H H1 ds' h1 h2 h3 e1
    exact ⟨.fn f vs ds' [] q1, q2⟩
  · intro r vs ds O _ ih H H' d' h1 h2 h3 e
    simp only [rof] at e
    obtain ⟨⟨ds', H1⟩, e1, e2⟩ := Option.map_eq_some_iff.1 e
    simp only [Prod.mk.injEq] at e2
    obtain ⟨rfl, rfl⟩ := e2
    obtain ⟨q1, q2⟩ := ih H H1 ds' h1 h2 h3 e1
    exact ⟨.agg vs ds' [] q1, q2⟩
  · intro r vs ds O _ ih H H' d' h1 h2 h3 e
    simp only [rof] at e
    obtain ⟨⟨ds', H1⟩, e1, e2⟩ := Option.map_eq_some_iff.1 e
    simp only [Prod.mk.injEq] at e2
    obtain ⟨rfl, rfl⟩ := e2
    obtain ⟨q1, q2⟩ := ih H H1 ds' h1 h2 h3 e1
    exact ⟨.tup vs ds' [] q1, q2⟩
  · intro r a n cap sz ds vs hn hc hu h h1 hr ih H H' d' _ _ _ e
    simp [rof] at e; obtain ⟨rfl, rfl⟩ := e
    exact ⟨(LV.narrow_both hA).1 (.sl a n cap sz ds vs hn hc hu h h1 hr), Frz.nil (by simp [idsD, idsDs])⟩
  · intro r ad ds vs h h1 hr ih H H' d' _ _ _ e
    simp [rof] at e; obtain ⟨rfl, rfl⟩ := e
    exact ⟨(LV.narrow_both hA).1 (.ep ad ds vs h h1 hr), Frz.nil (by simp [idsD, idsDs])⟩
  · intro r a wr sz H H' d' _ _ _ e
    simp only [rof] at e
    split at e
    · cases e
    · injection e with e; simp only [Prod.mk.injEq] at e; obtain ⟨rfl, rfl⟩ := e
      exact ⟨.sl a 0 0 sz [] [] rfl (Nat.le_refl _) (by simp) .nil (by simp) (by simp), Frz.nil (by simp [idsD, idsDs])⟩
  · intro r b cap sz wr ds vs cs T fr hb hf hu h h1 hr hc hs ha hA' ih H H' d' _ _ h3 e
    simp only [rof] at e
    split at e
    · cases e
    · injection e with e; simp only [Prod.mk.injEq] at e; obtain ⟨rfl, rfl⟩ := e
      refine ⟨.sl _ _ cap sz ds vs rfl hc hu ((LV.narrow_both hA).2 h) h1 (fun k v hk => ⟨_, rfl, h3 b (by simp) _, ?_⟩), Frz.nil (by simp [idsD, idsDs])⟩
      rw [addr_add, Nat.zero_add]; exact cell_of hb (hr k v hk)
  · intro r b vs ds O T fr hb hf _ h1 hA' ih H H' d' _ _ _ e; simp [rof] at e
  · intro r b es c ks xs hb _ _ hA' ih1 ih2 H H' d' _ _ _ e; simp [rof] at e
  · intro a id sz off len cap q hi h0 h1 H H' d' hok hR _ e
    simp only [rof] at e
    split at e
    · rename_i wr sz' ds hH
      split at e
      · rename_i hh
        injection e with e
        simp only [Prod.mk.injEq] at e
        obtain ⟨rfl, e2⟩ := e
        refine ⟨rof_rf hA hok hH hh hi h0 h1 hR, ?_⟩
        cases fz with
        | false => simp only [Bool.false_eq_true, if_false] at e2; subst e2; exact Frz.nil (by simp [idsD, idsDs])
        | true =>
          simp only [if_true] at e2; subst e2
          refine ⟨by simp, fun i => ?_⟩
          rw [obAt_set]
          by_cases e : i = id
          · subst e
            simp only [if_pos, true_and, lt_of_get hH, idsD, List.mem_singleton]
            rw [obAt_of hH]; rfl
          · rw [if_neg (fun h => e h.1.symm), if_pos rfl, if_neg (by simp [idsD, e])]
      · cases e
    · cases e
  · intro id sz e off b hi H H' d' _ _ _ e'; simp [rof] at e'
  · intro id b hi H H' d' _ _ _ e; simp [rof] at e
  · intro r H H' ds' _ _ _ e; simp [rofs] at e; obtain ⟨rfl, rfl⟩ := e; exact ⟨.nil, Frz.nil (by simp [idsD, idsDs])⟩
  · intro r v d O vs ds Os _ _ ih1 ih2 H H' ds' hok hR h3 e
    simp only [rofs] at e
    obtain ⟨⟨d1, H1⟩, e1, e⟩ := Option.bind_eq_some_iff.1 e
    obtain ⟨⟨ds2, H2⟩, e2, e⟩ := Option.map_eq_some_iff.1 e
    simp only [Prod.mk.injEq] at e
    obtain ⟨rfl, rfl⟩ := e
    obtain ⟨q1, f1⟩ := ih1 H H1 d1 hok (fun i b wr sz ds off hi => hR i b wr sz ds off (by simp [idsDs, hi])) (fun b hb => h3 b (by simp [hb])) e1
    have hR2 : RowsOut Ac ι H (idsDs ds) := fun i b wr sz ds off hi => hR i b wr sz ds off (by simp [idsDs, hi])
    obtain ⟨q2, f2⟩ := ih2 H1 H2 ds2 (hok.frz f1) (hR2.frz f1) (fun b hb => h3 b (by simp [hb])) e2
    refine ⟨LVs.cons' q1 q2, ?_⟩
    have := f1.trans f2
    cases fz <;> simpa [idsDs] using this
end
end Lg
