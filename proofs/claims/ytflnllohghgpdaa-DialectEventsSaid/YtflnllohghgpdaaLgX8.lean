import Derived.Test.YtflnllohghgpdaaLgX7
/-
  append, as the state has it; copy.
-/
namespace Lg
open Go
set_option linter.unusedVariables false
set_option linter.unusedSimpArgs false
set_option linter.unusedSectionVars false

theorem flat_app (l1 l2 : List D) : flat (l1 ++ l2) = flat l1 ++ flat l2 := by simp [flat]
theorem Keep.drew (w : World) (A : Av) (C : Nat → Prop) : Keep w w.drew A A C := Keep.same (w := w) (w' := w.drew) rfl rfl rfl rfl A C
theorem prefix_len {vs : List Value} {cs : Array Value} (h : ∀ (k : Nat) (v : Value), vs[k]? = some v → cs[k]? = some v) : vs.length ≤ cs.size := by
  rcases Nat.lt_or_ge cs.size vs.length with h' | h'
  · exfalso
    have := h cs.size _ (List.getElem?_eq_getElem h')
    simp at this
  · exact h'
section
variable {P : Program} {num : FuncId → Option Nat} {fid : Nat → FuncId} (hnum : ∀ f g, num f = some g → fid g = f)
  {w : World} {A : Av} {ι : Io} {H : List Ob} {eo : List Nat} {a : Act} {E : Env} {own : Nat → List Nat} (hl : ∀ t, LV fid w A ι true (a.tmps.getD t undef) (lk E t) (own t))
  (hob : ∀ i, ObjOK fid w A ι (ι i) (obAt H i)) {o : Oper} {d : D}
/-- A new row of one's own. -/
theorem LV.newRow {w1 : World} {vs rest : List Value} {ds : List D} {n c sz : Nat} {e : TypeId} {wr r : Bool} (K : Keep w w1 A A (fun _ => False)) (h : LVs fid w A (fun _ => none) false vs (flat ds) []) (h1 : ∀ v, v ∈ vs → v.oneCell' = true)
    (hu : ∀ d, d ∈ ds → d.cells.length = sz) (hn : ds.length = n) (hc : n ≤ c) (hs : (vs ++ rest).length = c * sz) :
    LV fid (w1.alloc (.cells ⟨vs ++ rest⟩ e)) (newA A w1.heap.size) ι r (.slice (some ⟨w1.heap.size, 0, none⟩) n c) (.osl wr sz ds) [w1.heap.size] := by
  subst hn
  have K2 := Keep.alloc w1 A (.cells ⟨vs ++ rest⟩ e)
  have h' := LVs.keep K2 (ι' := fun _ => none) (fun _ _ e => e) (LVs.keep K (ι' := fun _ => none) (fun _ _ e => e) h (by simp)) (by simp)
  refine .osl w1.heap.size c sz wr ds vs ⟨vs ++ rest⟩ e (0, 0) (alloc_heap_new w1 _) (okfr0 _) hu h'.weak h1 ?_ hc ?_ (fun _ off => .inr rfl) (fun off _ => .inr rfl)
  · intro k v hk
    have hlt : k < vs.length := by
      rcases Nat.lt_or_ge k vs.length with h' | h'
      · exact h'
      · rw [List.getElem?_eq_none h'] at hk; cases hk
    simp only [List.getElem?_toArray]
    rw [List.getElem?_append_left hlt]; exact hk
  · have : (⟨vs ++ rest⟩ : Array Value).size = (vs ++ rest).length := rfl
    rw [this, hs]; exact Nat.le_refl _
theorem append_does {t u e ty : TypeId} {du : TypeDesc} {sz by_ : Nat} {ys : List D} {us : List Value} {yv xv : Value} {dx : D} {Ox : List Nat} {up : Option (Nat × Ob)} (hsz0 : 0 < sz)
    (ht : P.underlying t = some (.slice e)) (hu : P.underlying u = some du) (hdu : seqT du = true) (hs : sizeT P e = some sz) (hby : bytesT P e = some by_) (hb0 : 0 < by_) (hz : (zeroT P e).map List.length = some sz)
    (h1 : LVs fid w A (fun _ => none) false us (flat ys) []) (h2 : ∀ v, v ∈ us → v.oneCell' = true) (h3 : ∀ d, d ∈ ys → d.cells.length = sz) (h4 : us.length = ys.length * sz)
    (h5 : ∀ w' : World, (Builtin.lenOf yv).run P w' = .ok ys.length w') (h6 : ∀ m, m ≤ ys.length → ∀ w' : World, w'.heap = w.heap → (Builtin.firstCells sz m yv).run P w' = .ok (us.take (m * sz)).toArray w')
    (hob : ∀ i, ObjOK fid w A ι (ι i) (obAt H i)) (hx : LV fid w A ι true xv dx Ox) (heo : ∀ b, b ∈ Ox → b ∈ eo) (h : appendD H sz by_ ys dx = some (d, up)) :
    ∃ v w' A' O, (Builtin.append_ #[t, u] ty #[xv, yv]).run P w = .ok v w' ∧ XR fid w w' A A' ι H eo v d up O := by
  have hall : us.take (ys.length * sz) = us := List.take_of_length_le (by omega)
  have hfc : ∀ w' : World, w'.heap = w.heap → (Builtin.firstCells sz ys.length yv).run P w' = .ok us.toArray w' := by
    intro w' hw; have := h6 ys.length (Nat.le_refl _) w' hw; rwa [hall] at this
  -- of a slice that has no room
  have nilcase : ∀ (ad : Option Addr) (wr : Bool) (up : Option (Nat × Ob)), xv = .slice ad 0 0 → ys.length * by_ ≤ 140737488355328 → (∀ i ob, up = some (i, ob) → ob = .dead ∧ i < H.length ∧ alive (obAt H i) = true) →
      ∃ v w' A' O, (Builtin.append_ #[t, u] ty #[xv, yv]).run P w = .ok v w' ∧ XR fid w w' A A' ι H eo v (.osl wr sz ys) up O := by
    rintro ad wr up rfl hbd hup
    have hXob : ∀ w' A', ∀ i ob, up = some (i, ob) → ObjOK fid w' A' ι (ι i) ob ∧ i < H.length ∧ alive (obAt H i) = true := by
      intro w' A' i ob hh
      obtain ⟨rfl, hlt, hal⟩ := hup i ob hh
      exact ⟨trivial, hlt, hal⟩
    by_cases hy : ys = []
    · subst hy
      have h0 : us = [] := by simpa using h4
      subst h0
      refine ⟨_, w, A, [], run_append_nothing ht hu hdu hs (h5 w) (hfc w rfl), ?_⟩
      exact ⟨Keep.refl _ _ _, .osln _ _ _, hXob _ _, List.nodup_nil, by simp⟩
    · have hpos : 0 < 0 + ys.length := by have := List.length_pos_iff.2 hy; omega
      obtain ⟨c, rest, hc1, hc2, hrun⟩ := run_append_grows (ty := ty) (os := []) (base := ad) (len := 0) (cap := 0) ht hu hdu hs hby hb0 hz (h5 w) hfc
        (by intro w' hw; cases ad <;> simp [Builtin.firstCells, loadCells, loadCellsFrom]) (by simp) h4 hpos (by simpa using hbd)
      simp only [List.nil_append, Nat.zero_add] at hrun hc2 hc1
      refine ⟨_, _, newA A w.heap.size, [w.heap.size], hrun, ?_⟩
      have K : Keep w w.drew A A (fun _ => False) := Keep.drew w A _
      have K2 := Keep.alloc w.drew A (.cells ⟨us ++ rest⟩ e)
      refine ⟨(K.trans K2 (C := fun _ => False) (fun _ h => .inl h) (fun _ h => .inl h)).mono (fun _ h => h.elim), LV.newRow K h1 h2 h3 rfl hc1 hc2, hXob _ _, by simp, ?_⟩
      intro b hb; simp at hb; subst hb; exact .inr (.inr (Nat.le_refl _))
  -- of a row
  have rowcase : ∀ (b cap : Nat) (wr : Bool) (ds : List D) (vs : List Value) (cs : Array Value) (T : TypeId) (fr : Nat × Nat) (up : Option (Nat × Ob)), xv = .slice (some ⟨b, 0, none⟩) ds.length cap →
      w.heap[b]? = some (.cells cs T fr) → okfr cs.size fr → (∀ d, d ∈ ds → d.cells.length = sz) → LVs fid w A (fun _ => none) false vs (flat ds) [] → (∀ v, v ∈ vs → v.oneCell' = true) → (∀ (k : Nat) (v : Value), vs[k]? = some v → cs[k]? = some v) →
      ds.length ≤ cap → cap * sz ≤ cs.size → (wr = true → ∀ off, A b off) → (∀ off, vs.length ≤ off → A b off) → (ds.length + ys.length) * by_ ≤ 140737488355328 →
      (∀ i ob, up = some (i, ob) → ob = .dead ∧ i < H.length ∧ alive (obAt H i) = true) → (b ∈ eo ∨ ∃ i, up = some (i, .dead) ∧ ι i = some (some b)) →
      ∃ v w' A' O, (Builtin.append_ #[t, u] ty #[xv, yv]).run P w = .ok v w' ∧ XR fid w w' A A' ι H eo v (.osl wr sz (ds ++ ys)) up O := by
    rintro b cap wr ds vs cs T fr up rfl hb hf hud hv hv1 hr hc hcs ha hA hbd hup hbo
    have hvl : vs.length = ds.length * sz := by rw [hv.length_eq, flat_len hud]
    have hXob : ∀ w' A', ∀ i ob, up = some (i, ob) → ObjOK fid w' A' ι (ι i) ob ∧ i < H.length ∧ alive (obAt H i) = true := by
      intro w' A' i ob hh
      obtain ⟨rfl, hlt, hal⟩ := hup i ob hh
      exact ⟨trivial, hlt, hal⟩
    have hu2 : ∀ d, d ∈ ds ++ ys → d.cells.length = sz := by
      intro d hd
      rcases List.mem_append.1 hd with hd | hd
      · exact hud d hd
      · exact h3 d hd
    have hv2 : LVs fid w A (fun _ => none) false (vs ++ us) (flat (ds ++ ys)) [] := by rw [flat_app]; exact hv.append h1
    have ho2 : ∀ v, v ∈ vs ++ us → v.oneCell' = true := by
      intro v hv
      rcases List.mem_append.1 hv with hv | hv
      · exact hv1 v hv
      · exact h2 v hv
    have hl2 : (ds ++ ys).length = ds.length + ys.length := by simp
    by_cases hfit : ds.length + ys.length ≤ cap
    · have hle : ds.length * sz + us.length ≤ cs.size := by
        have : (ds.length + ys.length) * sz ≤ cap * sz := Nat.mul_le_mul_right _ hfit
        rw [Nat.add_mul] at this; omega
      have hrun := run_append_fits (ty := ty) ht hu hdu hs (h5 w) (hfc w rfl) h4 hb hf hle h2 hfit
      have K := setRow_lv (fid := fid) (A := A) (us := us) (o := ds.length * sz) hb hle (fun k _ => hA _ (by omega))
      refine ⟨_, _, A, [b], hrun, ?_⟩
      refine ⟨K.mono (by rintro x rfl; rcases hbo with h | ⟨i, h, hi⟩; exact .inl h; exact .inr ⟨i, _, h, hi⟩), ?_, hXob _ _, by simp, ?_⟩
      · rw [← hl2]
        refine .osl b cap sz wr _ (vs ++ us) _ T fr (setRow_heap w b _ _ T fr hb) ?_ hu2 (LVs.keep K (fun _ _ e => e) hv2.weak (by simp)) ho2 ?_ (by rw [hl2]; exact hfit) ?_ ha ?_
        · have : (⟨cs.toList.take (ds.length * sz) ++ us ++ cs.toList.drop (ds.length * sz + us.length)⟩ : Array Value).size = cs.size := by simp; omega
          rw [this]; exact hf
        · intro k v hk
          have h2' : (⟨cs.toList.take (ds.length * sz) ++ us ++ cs.toList.drop (ds.length * sz + us.length)⟩ : Array Value)[k]? = (cs.toList.take (ds.length * sz) ++ us ++ cs.toList.drop (ds.length * sz + us.length))[k]? := by simp
          rw [h2', splice_get cs.toList _ _ (by simpa using hle)]
          rw [List.getElem?_append] at hk
          split at hk
          · rename_i hk1; rw [if_pos (by omega)]; simpa using hr k v hk
          · rename_i hk1
            rw [if_neg (by omega), if_pos (by
              rcases Nat.lt_or_ge (k - vs.length) us.length with h' | h'
              · omega
              · rw [List.getElem?_eq_none h'] at hk; cases hk), ← hvl]
            exact hk
        · have : (⟨cs.toList.take (ds.length * sz) ++ us ++ cs.toList.drop (ds.length * sz + us.length)⟩ : Array Value).size = cs.size := by simp; omega
          rw [this]; exact hcs
        · intro off ho; exact hA off (by simp at ho; omega)
      · intro x hx; simp at hx; subst hx
        rcases hbo with h | h
        · exact .inl h
        · exact .inr (.inl h)
    · have hgt : cap < ds.length + ys.length := by omega
      have hoc : ∀ w', w'.heap = w.heap → (Builtin.firstCells sz ds.length (.slice (some ⟨b, 0, none⟩) ds.length cap)).run P w' = .ok vs.toArray w' := by
        intro w' hw
        have := run_loadCells_world (P := P) (w := w) hw (x := ⟨b, 0, none⟩) (vs := vs) (fun k u hk => by rw [addr_add, Nat.zero_add]; exact cell_of hb (hr k u hk))
        rw [hvl] at this
        simpa [Builtin.firstCells] using this
      obtain ⟨c, rest, hc1, hc2, hrun⟩ := run_append_grows (ty := ty) (os := vs) (base := some ⟨b, 0, none⟩) (len := ds.length) (cap := cap) ht hu hdu hs hby hb0 hz (h5 w) hfc hoc hvl h4 hgt hbd
      refine ⟨_, _, newA A w.heap.size, [w.heap.size], hrun, ?_⟩
      have K : Keep w w.drew A A (fun _ => False) := Keep.drew w A _
      have K2 := Keep.alloc w.drew A (.cells ⟨vs ++ us ++ rest⟩ e)
      refine ⟨(K.trans K2 (C := fun _ => False) (fun _ h => .inl h) (fun _ h => .inl h)).mono (fun _ h => h.elim), LV.newRow K hv2 ho2 hu2 hl2 hc1 hc2, hXob _ _, by simp, ?_⟩
      intro b hb; simp at hb; subst hb; exact .inr (.inr (Nat.le_refl _))
  unfold appendD at h
  split at h
  · split at h
    · rename_i hbd
      simp only [Option.some.injEq, Prod.mk.injEq] at h
      obtain ⟨rfl, rfl⟩ := h
      obtain ⟨ad, e1, _⟩ := hx.inv_sn
      exact nilcase ad true none e1 hbd (by intro i ob hh; cases hh)
    · cases h
  · rename_i wr sz' ds
    split at h
    · rename_i hh
      obtain ⟨rfl, hbd⟩ := hh
      simp only [Option.some.injEq, Prod.mk.injEq] at h
      obtain ⟨rfl, rfl⟩ := h
      cases hx with
      | osln ad =>
        have := nilcase ad wr none rfl (by simpa using hbd) (by intro i ob hh; cases hh)
        simpa using this
      | osl b cap _ _ _ vs cs T fr hb hf hud hv hv1 hr hc hcs ha hA =>
        exact rowcase b cap wr ds vs cs T fr none rfl hb hf hud hv.weak hv1 hr hc hcs ha hA hbd (by intro i ob hh; cases hh) (.inl (heo b (by simp)))
    · cases h
  · rename_i id sz' off len
    obtain ⟨ad, cap, q, e1, e2, _, hi, g0, g1⟩ := hx.inv_rf
    split at h
    · rename_i wr sz'' ds hH
      split at h
      · rename_i hh
        obtain ⟨rfl, rfl, rfl, hle, hwr, hbd⟩ := hh
        simp only [Option.some.injEq, Prod.mk.injEq] at h
        obtain ⟨rfl, rfl⟩ := h
        have hup : ∀ i ob, (some (id, Ob.dead) : Option (Nat × Ob)) = some (i, ob) → ob = .dead ∧ i < H.length ∧ alive (obAt H i) = true := by
          intro i ob hh
          simp only [Option.some.injEq, Prod.mk.injEq] at hh
          obtain ⟨rfl, rfl⟩ := hh
          exact ⟨rfl, lt_of_get hH, by rw [obAt_of hH]; rfl⟩
        have ho := hob id
        rw [obAt_of hH, hi] at ho
        rcases ho with ⟨eb, rfl⟩ | ⟨b, eb, cs, T, fr, vs, k1, k2, ku, k4, k5, k6, k7, k8⟩
        · injection eb with eb
          obtain ⟨hl0, hc0, _⟩ := g0 eb
          subst hl0; subst hc0
          have := nilcase ad wr (some (id, .dead)) e1 (by simpa using hbd) hup
          simpa using this
        · injection eb with eb
          obtain ⟨m1, m2, cs', T', fr', m3, m4⟩ := g1 b eb
          rw [k1] at m3
          injection m3 with m3; injection m3 with m3 m5 m6
          subst m3
          have htl : (ds.take len).length = len := by rw [List.length_take]; omega
          rcases m1 with rfl | m1
          · have hvl : vs.length = ds.length * sz'' := by rw [k4.length_eq, flat_len ku]
            have htv : (vs.take (len * sz'')).length = len * sz'' := by
              rw [List.length_take, hvl]
              have := Nat.mul_le_mul_right sz'' hle
              omega
            have := rowcase b cap wr (ds.take len) (vs.take (len * sz'')) cs T fr (some (id, .dead)) (by rw [htl]; simpa using e1) k1 k2 (fun d hd => ku d (List.mem_of_mem_take hd))
              (by rw [← flat_take ku]; exact k4.take _) (fun v hv => k5 v (List.mem_of_mem_take hv)) (fun k v hk => k6 k v (take_get hk)) (by rw [htl]; exact m2) (by simpa using m4) k7
              (by
                intro off ho
                rw [htv] at ho
                rcases hwr with hw | hw
                · exact k7 hw off
                · subst hw; exact k8 off (by omega))
              (by rw [htl]; exact hbd) hup (.inr ⟨id, rfl, by rw [hi, eb]⟩)
            exact this
          · have hl0 : len = 0 := by omega
            subst hl0; subst m1
            have := nilcase ad wr (some (id, .dead)) e1 (by simpa using hbd) hup
            simpa using this
      · cases h
    · cases h
  · cases h
end
end Lg
