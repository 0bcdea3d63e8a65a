import Derived.Test.YtflnllohghgpdaaLgY7
/-
  Rows that are built of what holds a slice of one's own: it's written no more. Results that are read alone.
-/
namespace Lg
open Go
set_option linter.unusedVariables false
set_option linter.unusedSimpArgs false
set_option linter.unusedSectionVars false

section
variable {fid : Nat → FuncId} {w w' : World} {A A' : Av} {ι : Io} {H : List Ob}
theorem frz1_sound {vs : List Value} {cs cs' : List D} {u : Option (Nat × Ob)} (l : LVs fid w A ι true vs cs []) (hob : ∀ i, ObjOK fid w A ι (ι i) (obAt H i)) (h : frz1 cs H = some (cs', u)) :
    ∃ A1, Keep w w A A1 (fun b => ∃ i o, u = some (i, o) ∧ ι i = some (some b)) ∧ (∀ b off, A1 b off → A b off) ∧ LVs fid w A1 (fun _ => none) false vs cs' [] ∧
      ∀ i o, u = some (i, o) → ObjOK fid w A1 ι (ι i) o ∧ i < H.length ∧ alive (obAt H i) = true := by
  unfold frz1 at h
  split at h
  · rename_i hro
    injection h with h
    simp only [Prod.mk.injEq] at h
    obtain ⟨rfl, rfl⟩ := h
    exact ⟨A, Keep.refl _ _ _, fun _ _ h => h, (l.ro hro).weak, by intro i o e; cases e⟩
  · split at h
    case h_2 => cases h
    rename_i id ids hids
    split at h
    case isFalse => cases h
    rename_i hall
    split at h
    case h_2 => cases h
    rename_i wr sz ds hH
    have hall' : ∀ i, i ∈ idsDs cs → i = id := by
      intro i hi
      rw [hids] at hi
      rcases List.mem_cons.1 hi with e | e
      · exact e
      · rw [List.all_eq_true] at hall
        simpa using hall i e
    obtain ⟨⟨cs1, H1⟩, h1, h2⟩ := Option.map_eq_some_iff.1 h
    simp only [Prod.mk.injEq] at h2
    obtain ⟨rfl, rfl⟩ := h2
    have K := less_keep w A ι H [id]
    have hro : rof false (.agg cs) H = some (.agg cs1, H1) := by simp [rof, h1]
    have lz := (rof_sound (fid := fid) (w := w) (A := A) (Ac := less A ι H [id]) (ι := ι) (ι' := fun _ => none) (fz := false) (less_le _ _ _ _) (LV.agg vs cs [] l) H H1 (.agg cs1) (owOK hob) (by simp only [idsD]; intro i b wr sz ds off hi hb ho hlt; exact less_out A ι H [id] i b wr sz ds off (by simp [hall' i hi]) hb ho hlt) (by simp) hro).1
    obtain ⟨vs', e0, lz'⟩ := lz.inv_agg
    simp only [Value.agg.injEq, Array.mk.injEq] at e0
    subst e0
    refine ⟨less A ι H [id], K.mono ?_, less_le _ _ _ _, lz', fun i o e => ?_⟩
    · rintro b ⟨i, wr', sz', ds', g1, g2, g3⟩
      simp at g1; subst g1
      exact ⟨_, _, rfl, g2⟩
    · injection e with e
      simp only [Prod.mk.injEq] at e
      obtain ⟨rfl, rfl⟩ := e
      refine ⟨?_, lt_of_get hH, by rw [obAt_of hH]; rfl⟩
      have ho := hob id
      rw [obAt_of hH] at ho
      rcases ho with ho | ⟨b, eb, cs, T, fr, vs, h1, h2, h3, h4, h5, h6, h7, h8⟩
      · exact .inl ho
      · refine .inr ⟨b, eb, cs, T, fr, vs, h1, h2, h3, LVs.keep K (fun _ _ e => e) h4 (by simp), h5, h6, (by intro x; cases x), fun off ho' => ⟨h8 off ho', ?_⟩⟩
        rintro ⟨j, wr', sz', ds', g1, g2, g3, g4⟩
        simp at g1; subst g1
        rw [obAt_of hH] at g3
        simp only [Ob.ow.injEq] at g3
        obtain ⟨_, rfl, rfl⟩ := g3
        rw [h4.length_eq, flat_len h3] at ho'
        omega
theorem roD_both {Ac : Av} (hA : ∀ b off, Ac b off → A b off) :
    (∀ {r : Bool} {v : Value} {d : D} {O : List Nat}, LV fid w A ι r v d O → (∀ b, b ∈ O → ∀ off, ¬ Ac b off) → ∀ d', roD d = some d' → LV fid w Ac ι r v d' []) := by
  intro r v d O h
  refine LV.rec (motive_1 := fun r v d O _ => (∀ b, b ∈ O → ∀ off, ¬ Ac b off) → ∀ d', roD d = some d' → LV fid w Ac ι r v d' []) (motive_2 := fun r vs ds O _ => (∀ b, b ∈ O → ∀ off, ¬ Ac b off) → ∀ ds', roDs ds = some ds' → LVs fid w Ac ι r vs ds' [])
    ?_ ?_ ?_ ?_ ?_ ?_ ?_ ?_ ?_ ?_ ?_ ?_ ?_ ?_ ?_ ?_ ?_ ?_ ?_ h
  · intro r v h _ d' e; simp [roD] at e; subst e; exact .sc v h
  · intro r v _ d' e; simp [roD] at e; subst e; exact .un v
  · intro r v h _ d' e; simp [roD] at e; subst e; exact .uk v h
  · intro r _ d' e; simp [roD] at e; subst e; exact .nl
  · intro r a _ d' e; simp [roD] at e; subst e; exact .sn a
  · intro r f vs ds O _ ih n d' e
    simp only [roD] at e
    obtain ⟨ds', e1, rfl⟩ := Option.map_eq_some_iff.1 e
    exact .fn f vs ds' [] (ih n ds' e1)
  · intro r vs ds O _ ih n d' e
    simp only [roD] at e
    obtain ⟨ds', e1, rfl⟩ := Option.map_eq_some_iff.1 e
    exact .agg vs ds' [] (ih n ds' e1)
  · intro r vs ds O _ ih n d' e
    simp only [roD] at e
    obtain ⟨ds', e1, rfl⟩ := Option.map_eq_some_iff.1 e
    exact .tup vs ds' [] (ih n ds' e1)
  · intro r a n cap sz ds vs hn hc hu h h1 hr ih _ d' e
    simp [roD] at e; subst e
    exact .sl a n cap sz ds vs hn hc hu ((LV.narrow_both hA).2 h) h1 (fun k v hk => by obtain ⟨ad, e, n, c⟩ := hr k v hk; exact ⟨ad, e, fun x => n (hA _ _ x), c⟩)
  · intro r ad ds vs h h1 hr ih _ d' e
    simp [roD] at e; subst e
    exact .ep ad ds vs ((LV.narrow_both hA).2 h) h1 (fun k v hk => ⟨fun x => (hr k v hk).1 (hA _ _ x), (hr k v hk).2⟩)
  · intro r a wr sz _ d' e; simp [roD] at e; subst e; exact .sl a 0 0 sz [] [] rfl (Nat.le_refl _) (by simp) .nil (by simp) (by simp)
  · intro r b cap sz wr ds vs cs T fr hb hf hu h h1 hr hc hs ha hA' ih n d' e
    simp [roD] at e; subst e
    refine .sl _ _ cap sz ds vs rfl hc hu ((LV.narrow_both hA).2 h) h1 (fun k v hk => ⟨_, rfl, n b (by simp) _, ?_⟩)
    rw [addr_add]
    exact cell_of hb (by rw [Nat.zero_add]; exact hr k v hk)
  · intro r b vs ds O T fr hb hf _ h1 hA' ih _ d' e; simp [roD] at e
  · intro r b es c ks xs hb _ _ hA' ih1 ih2 _ d' e; simp [roD] at e
  · intro a id sz off len cap q hi h0 h1 _ d' e; simp [roD] at e; subst e; exact .rf a id sz off len cap q hi h0 h1
  · intro id sz e off b hi _ d' e'; simp [roD] at e'; subst e'; exact .pt id sz e off b hi
  · intro id b hi _ d' e; simp [roD] at e; subst e; exact .mp id b hi
  · intro r _ ds' e; simp [roDs] at e; subst e; exact .nil
  · intro r v d O vs ds Os _ _ ih1 ih2 n ds' e
    simp only [roDs] at e
    obtain ⟨d1, e1, e⟩ := Option.bind_eq_some_iff.1 e
    obtain ⟨ds2, e2, rfl⟩ := Option.map_eq_some_iff.1 e
    exact LVs.cons' (ih1 (fun b hb => n b (by simp [hb])) d1 e1) (ih2 (fun b hb => n b (by simp [hb])) ds2 e2)
/-- A result that is read alone. -/
theorem XR.ro {eo O : List Nat} {v : Value} {d d' : D} (X : XR fid w w' A A' ι H eo v d none O) (h : roD d = some d') : XR fid w w' A (fun b off => A' b off ∧ b ∉ O) ι H eo v d' none [] := by
  have K := X.kp
  refine ⟨⟨K.os, K.tape, K.output, K.size, K.blk, K.cel, K.siz, fun b off hh => K.a1 b off hh.1, fun b off hb hlt hA => ⟨K.a2 b off hb hlt hA, fun hO => ?_⟩⟩, roD_both (fun b off hh => hh.1) X.lv (fun b hb off hh => hh.2 hb) d' h, (by intro i o e; cases e), List.nodup_nil, by simp⟩
  rcases X.fr b hO with hx | ⟨i, e, _⟩ | hx
  · exact hb (.inl hx)
  · cases e
  · omega
end
section
variable {P : Program} {num : FuncId → Option Nat} {fid : Nat → FuncId} (hnum : ∀ f g, num f = some g → fid g = f)
  {w : World} {A : Av} {ι : Io} {H : List Ob} {eo : List Nat} {a : Act} {E : Env} {own : Nat → List Nat} (hl : ∀ t, LV fid w A ι true (a.tmps.getD t undef) (lk E t) (own t)) (hob : ∀ i, ObjOK fid w A ι (ι i) (obAt H i)) {o : Oper} {d : D}
include hnum hl hob
theorem x_bsl {t e : TypeId} {own' : Bool} {len sz : Nat} {ps : Array (Nat × Operand)} {z cs cs' : List D} {u : Option (Nat × Ob)} (hal : ∀ b off, A b off → b < w.heap.size) (ho : o.op = .buildSlice t len ps) (ht : P.underlying t = some (.slice e)) (hs : sizeT P e = some sz) (hz : zeroT P e = some z)
    (hbig : len * sz ≤ 2 ^ 24) (h0 : 0 < sz) (hok : ∀ p, p ∈ ps.toList → okOpd p.2 = true) (hf : fillD sz (List.replicate len z).flatten (ps.toList.map fun p => (p.1, ov E (opd num p.2))) = some cs)
    (hfz : frz1 cs H = some (cs', u)) (hzl : z.length = sz) (hcc : cs.all isCellD = true) (hcc' : cs'.all isCellD = true) (hnt : noTrees (ps.toList.map fun p => ov E (opd num p.2)) = true)
    (hd : d = if own' then .osl true sz (chunks (sz != 1) sz len cs') else .sl sz (chunks (sz != 1) sz len cs')) :
    Does P fid w A ι H eo a o d u := by
  obtain ⟨ti, zv, hti, hzv, hlz, h1⟩ := lv_zero (fid := fid) (w := w) (A := A) (ι := ι) hnum hz (r := true)
  obtain ⟨ti2, hti2, hsz⟩ := Option.map_eq_some_iff.1 hs
  rw [hti] at hti2
  injection hti2 with e1; subst e1
  have hzs : zv.cells.size = sz := by rw [← Array.length_toList, hlz.length_eq, hzl]
  have hbd : buildD (List.replicate len z).flatten ((ps.toList.map fun p => (p.1 * sz, sz, opd num p.2)).map fun q => (q.1, q.2.1, ov E q.2.2)) = some cs := by
    rw [fillD_build] at hf
    simpa [List.map_map, Function.comp_def] using hf
  obtain ⟨cv, hfill, hcv⟩ := fill_lv hnum hl (fun i => some (i * sz, sz)) ps.toList (ps.toList.map fun p => (p.1 * sz, sz, opd num p.2)) (List.replicate len zv.cells.toList).flatten (List.replicate len z).flatten cs hok (by simp)
    (by intro k p q hp hq; simp only [List.getElem?_map, hp, Option.map_some, Option.some.injEq] at hq; subst hq; exact ⟨rfl, rfl⟩) (by simpa [List.map_map, Function.comp_def] using hnt) (hlz.reps len) hbd
  have hcl : cs.length = len * sz := by rw [fillD_len hf]; simp [List.length_flatten, hzl]
  obtain ⟨A1, K1, hA1, hl1, hou⟩ := frz1_sound hcv hob hfz
  have hcl' : cs'.length = len * sz := by rw [← hl1.length_eq, hcv.length_eq, hcl]
  obtain ⟨c1, c2, c3⟩ := chunks_spec sz h0 len cs' hcl' hcc'
  have hcv' : LVs fid w A1 (fun _ => none) false cv.toList (flat (chunks (sz != 1) sz len cs')) [] := by rw [c1]; exact hl1
  have hones := hcv.ones hcc
  have hcvl : cv.toList.length = len * sz := by rw [hcv.length_eq, hcl]
  have hmk : (Array.range (len * sz)).map (zv.cells[· % zv.cells.size]!) = ⟨(List.replicate len zv.cells.toList).flatten⟩ := by
    apply Array.ext'
    have := madeCells_rep zv.cells len (by omega)
    rw [hzs] at this
    unfold madeCells at this
    exact this
  have hrun : (Instr.buildSlice t len (ps.map fun x => (x.1, a.eval x.2))).run P w = .ok (.slice (some ⟨w.heap.size, 0, none⟩) len len) (w.alloc (.cells ⟨cv.toList ++ []⟩ e)) := by
    unfold Instr.buildSlice
    have hpl : (ps.map fun x => (x.1, a.eval x.2)).toList = ps.toList.map fun p => (p.1, a.eval p.2) := by simp
    simp only [Sem.run_bind, run_underlying ht, run_sizeT hs, Result.andThen_ok]
    rw [if_neg (by omega)]
    by_cases hz0 : len * sz = 0
    · rw [if_pos hz0]
      have hl0 : len = 0 := by
        rcases Nat.mul_eq_zero.1 hz0 with h | h
        · exact h
        · omega
      subst hl0
      simp only [Sem.run_bind, Sem.run_pure, Result.andThen_ok, hpl]
      have hr0 : (Array.range (0 * sz)).map (fun x => (#[] : Array Value)[x % (#[] : Array Value).size]!) = ⟨[]⟩ := by simp [Array.range_zero']
      rw [hr0]
      have hf2 := hfill
      simp only [List.replicate_zero, List.flatten_nil] at hf2
      rw [hf2]
      simp only [Sem.run_bind, run_newRow, Result.andThen_ok, Sem.run_pure, List.append_nil]
    · rw [if_neg hz0]
      have hz0' : (zeroValue e).run P w = .ok zv w := by simp [zeroValue, typeInfo, hti, hzv, Sem.run_bind]
      simp only [Sem.run_bind, hz0', Result.andThen_ok, Sem.run_pure, hmk, hpl]
      rw [hfill]
      simp only [Sem.run_bind, run_newRow, Result.andThen_ok, Sem.run_pure, List.append_nil]
  have hex : (execOp a.eval o).run P w = .ok (.value (.slice (some ⟨w.heap.size, 0, none⟩) len len)) (w.alloc (.cells ⟨cv.toList ++ []⟩ e)) := by
    simp only [execOp, ho]
    exact run_v hrun
  subst hd
  have fin : ∀ {A2 : Av} {d : D} {O : List Nat}, Keep w (w.alloc (.cells ⟨cv.toList ++ []⟩ e)) A1 A2 (fun _ => False) → LV fid (w.alloc (.cells ⟨cv.toList ++ []⟩ e)) A2 ι true (.slice (some ⟨w.heap.size, 0, none⟩) len len) d O → O.Nodup → (∀ b, b ∈ O → w.heap.size ≤ b) →
      XR fid w (w.alloc (.cells ⟨cv.toList ++ []⟩ e)) A A2 ι H eo (.slice (some ⟨w.heap.size, 0, none⟩) len len) d u O := by
    intro A2 d O K2 l nd hO
    refine ⟨(K1.trans K2 (fun b h => .inl h) (fun b h => h.elim)).mono (fun b h => .inr h), l, fun i ob hu => ?_, nd, fun b hb => .inr (.inr (hO b hb))⟩
    obtain ⟨h1, h2, h3⟩ := hou i ob hu
    exact ⟨h1.keep K2 (fun _ _ e => e) (by simp), h2, h3⟩
  cases own' with
  | true => exact ⟨_, _, _, _, [w.heap.size], hex, .inl rfl, fin (Keep.alloc w A1 _) (LV.newRow (e := e) (Keep.refl w A1 _) hcv' hones c3 c2 (Nat.le_refl _) (by simpa using hcvl)) (by simp) (by simp)⟩
  | false =>
    refine ⟨_, _, _, A1, [], hex, .inl rfl, fin (Keep.alloc0 w A1 _ _) ?_ (by simp) (by simp)⟩
    have K := Keep.alloc0 w A1 (.cells ⟨cv.toList ++ []⟩ e) (fun _ => False)
    refine .sl _ len len sz _ cv.toList c2 (Nat.le_refl _) c3 (LVs.keep K (fun _ _ e => e) hcv' (by simp)).weak hones fun k v hk => ⟨_, rfl, fun hA => ?_, ?_⟩
    · have := hal _ _ (hA1 _ _ hA); simp at this
    · rw [addr_add]
      exact cell_of (alloc_heap_new w _) (by rw [Nat.zero_add]; simpa using hk)
end
end Lg
