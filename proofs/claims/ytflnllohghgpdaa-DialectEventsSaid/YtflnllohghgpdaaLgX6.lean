import Derived.Test.YtflnllohghgpdaaLgX5
import Derived.Laws.BytesArg
/-
  Operations on memory: slices read, appended to, copied into; texts and bytes.
-/
namespace Lg
open Go
set_option linter.unusedVariables false
set_option linter.unusedSimpArgs false
set_option linter.unusedSectionVars false

theorem LVs.ofNil {fid : Nat → FuncId} {w : World} {A : Av} {ι : Io} {r : Bool} {ds : List D} (h : LVs fid w A ι r [] ds []) : ds = [] := by
  cases ds with | nil => rfl | cons => cases h
section
variable {P : Program} {num : FuncId → Option Nat} {fid : Nat → FuncId} (hnum : ∀ f g, num f = some g → fid g = f)
  {w : World} {A : Av} {ι : Io} {H : List Ob} {eo : List Nat} {a : Act} {E : Env} {own : Nat → List Nat} (hl : ∀ t, LV fid w A ι true (a.tmps.getD t undef) (lk E t) (own t))
  (hob : ∀ i, ObjOK fid w A ι (ι i) (obAt H i)) {o : Oper} {d : D}
include hob
/-- A slice's content. -/
theorem slD_lv {v : Value} {O : List Nat} {sz : Nat} {ds : List D} (h : LV fid w A ι true v d O) (hs : slD H d = some (sz, ds)) :
    ∃ ad cap vs, v = .slice ad ds.length cap ∧ LVs fid w A (fun _ => none) false vs (flat ds) [] ∧ (∀ v, v ∈ vs → v.oneCell' = true) ∧ (∀ d, d ∈ ds → d.cells.length = sz) ∧
      ∀ (k : Nat) (u : Value), vs[k]? = some u → ∃ x, ad = some x ∧ w.cell? (x.add k) = some u := by
  unfold slD at hs
  split at hs
  · rename_i sz' ds'
    simp only [Option.some.injEq, Prod.mk.injEq] at hs
    obtain ⟨rfl, rfl⟩ := hs
    obtain ⟨ad, cap, vs, e1, e2, hc, hu, h2, h3, h4⟩ := h.inv_sl
    exact ⟨ad, cap, vs, e1, h2.weak, h3, hu, fun k u hk => by obtain ⟨x, e, _, hx⟩ := h4 k u hk; exact ⟨x, e, hx⟩⟩
  · rename_i wr sz' ds'
    simp only [Option.some.injEq, Prod.mk.injEq] at hs
    obtain ⟨rfl, rfl⟩ := hs
    cases h with
    | osln ad => exact ⟨ad, 0, [], rfl, .nil, by simp, by simp, by simp⟩
    | osl b cap _ _ _ vs cs T fr hb hf hu hv h1 hr hc hs ha hA =>
      exact ⟨_, cap, vs, rfl, hv.weak, h1, hu, fun k u hk => ⟨_, rfl, by rw [addr_add]; exact cell_of hb (by rw [Nat.zero_add]; exact hr k u hk)⟩⟩
  · simp only [Option.some.injEq, Prod.mk.injEq] at hs
    obtain ⟨rfl, rfl⟩ := hs
    obtain ⟨ad, e, _⟩ := h.inv_sn
    exact ⟨ad, 0, [], by simpa using e, .nil, by simp, by simp, by simp⟩
  · rename_i id sz0 off len
    obtain ⟨ad, cap, q, e1, e2, _, hi, h0, h1⟩ := h.inv_rf
    split at hs
    · rename_i wr sz' ds' hH
      split at hs
      · rename_i hh
        simp only [Option.some.injEq, Prod.mk.injEq] at hs
        obtain ⟨rfl, rfl⟩ := hs
        have hlen : ((ds'.drop off).take len).length = len := by rw [List.length_take, List.length_drop]; omega
        have ho := hob id
        rw [obAt_of hH, hi] at ho
        rcases ho with ⟨eb, rfl⟩ | ⟨b, eb, cs, T, fr, vs, g1, g2, hu, g4, g5, g6, g7, g8⟩
        · injection eb with eb
          have := h0 eb
          simp at hh
          obtain ⟨hl0, hc0, ho0⟩ := this
          subst hl0
          exact ⟨ad, cap, [], by simpa using e1, by simp [flat]; exact .nil, by simp, by simp, by simp⟩
        · injection eb with eb
          obtain ⟨k1, k2, _⟩ := h1 b eb
          refine ⟨ad, cap, (vs.drop (off * sz')).take (len * sz'), by rw [hlen]; exact e1, ?_, fun v hv => g5 v (List.mem_of_mem_drop (List.mem_of_mem_take hv)), fun d hd => hu d (List.mem_of_mem_drop (List.mem_of_mem_take hd)), fun k u hk => ?_⟩
          · have := (g4.drop (off * sz')).take (len * sz')
            rw [flat_drop hu, flat_take (fun d hd => hu d (List.mem_of_mem_drop hd))] at this
            exact this
          · have hk' := take_get hk
            rw [drop_get] at hk'
            have hlt : k < len * sz' := by
              rw [List.getElem?_take] at hk
              split at hk
              · assumption
              · cases hk
            rcases k1 with rfl | k1
            · refine ⟨_, rfl, ?_⟩
              rw [addr_add]
              refine cell_of g1 ?_
              have := g6 _ _ hk'
              rcases hh.1 with e | e
              · subst e; simpa using this
              · subst e; exact this
            · exfalso
              have : len = 0 := by omega
              rw [this] at hlt; omega
      · cases hs
    · cases hs
  · cases hs
omit hob in
theorem run_loadCells_world {w' : World} (hw : w'.heap = w.heap) {x : Addr} {vs : List Value} (h : ∀ (k : Nat) (u : Value), vs[k]? = some u → w.cell? (x.add k) = some u) : (loadCells x vs.length).run P w' = .ok vs.toArray w' := by
  refine run_loadCells_list (P := P) w' x vs fun j v hj => ?_
  have := h j v hj
  simpa [World.cell?, hw] using this
/-- What is appended. -/
theorem appendY_lv {v : Value} {O : List Nat} {sz : Nat} {ys : List D} (hsz : 0 < sz) (h : LV fid w A ι true v d O) (hs : appendY H sz d = some ys) :
    ∃ us, LVs fid w A (fun _ => none) false us (flat ys) [] ∧ (∀ v, v ∈ us → v.oneCell' = true) ∧ (∀ d, d ∈ ys → d.cells.length = sz) ∧ us.length = ys.length * sz ∧
      (∀ w' : World, (Builtin.lenOf v).run P w' = .ok ys.length w') ∧ (∀ m, m ≤ ys.length → ∀ w' : World, w'.heap = w.heap → (Builtin.firstCells sz m v).run P w' = .ok (us.take (m * sz)).toArray w') := by
  unfold appendY at hs
  split at hs
  · rename_i s
    split at hs
    · rename_i e1
      subst e1
      injection hs with hs; subst hs
      have e := h.inv_str.1
      subst e
      refine ⟨s.data.toList.map fun b => .int .u8 b.toNat, ?_, ?_, ?_, by simp, ?_, ?_⟩
      · have hf : flat (s.data.toList.map fun b => D.sc (.int .u8 b.toNat)) = s.data.toList.map fun b => D.sc (.int .u8 b.toNat) := by
          induction s.data.toList with
          | nil => rfl
          | cons b l ih => simp only [List.map_cons, flat_cons, D.cells, ih]; rfl
        rw [hf]
        induction s.data.toList with
        | nil => exact .nil
        | cons b l ih => exact LVs.cons' (.sc _ rfl) ih
      · intro v hv; obtain ⟨b, _, rfl⟩ := List.mem_map.1 hv; rfl
      · intro d hd; obtain ⟨b, _, rfl⟩ := List.mem_map.1 hd; rfl
      · intro w'; simp [Builtin.lenOf]
      · intro m hm w' _
        simp only [Builtin.firstCells, Sem.run_pure, Nat.mul_one]
        congr 1
        apply Array.ext'
        simp [List.extract_eq_take_drop, List.map_take]
    · cases hs
  · split at hs
    · rename_i sz' ys' hsl
      split at hs
      · rename_i hz
        injection hs with hs; subst hs
        obtain ⟨ad, cap, vs, rfl, h2, h3, hu, h4⟩ := slD_lv hob h hsl
        have hu' : ∀ d, d ∈ ys' → d.cells.length = sz := by
          rcases hz with hz | hz
          · subst hz; exact hu
          · cases ys' with
            | nil => simp
            | cons => simp [isNil] at hz
        have hvl : vs.length = ys'.length * sz := by rw [h2.length_eq, flat_len hu']
        refine ⟨vs, h2, h3, hu', hvl, fun w' => by simp [Builtin.lenOf], fun m hm w' hw => ?_⟩
        have hml : (vs.take (m * sz)).length = m * sz := by
          rw [List.length_take, hvl]
          have := Nat.mul_le_mul_right sz hm
          omega
        cases ad with
        | none =>
          have : vs = [] := by
            cases vs with
            | nil => rfl
            | cons u vs => obtain ⟨x, e, _⟩ := h4 0 u rfl; cases e
          subst this
          simp [Builtin.firstCells]
        | some x =>
          have := run_loadCells_world (P := P) (w := w) hw (x := x) (vs := vs.take (m * sz)) (fun k u hk => by obtain ⟨x', e, hx⟩ := h4 k u (take_get hk); injection e with e; subst e; exact hx)
          rw [hml] at this
          simpa [Builtin.firstCells] using this
      · cases hs
    · cases hs
end
/-- New rows have bytes enough. -/
theorem growBy_le (need : Nat) : ∀ (n c : Nat), 256 ≤ c → c ≤ 2 * need → Builtin.growBy need n c ≤ 2 * need
  | 0, c, _, h => h
  | n + 1, c, h0, h => by
    unfold Builtin.growBy
    split
    · exact h
    · exact growBy_le need n _ (by omega) (by omega)
theorem nextslicecap_le {need cap : Nat} (h : cap < need) : Builtin.nextslicecap need cap ≤ 2 * need := by
  unfold Builtin.nextslicecap
  split
  · omega
  · split
    · omega
    · exact growBy_le need 4 cap (by omega) (by omega)
theorem forced_appendCap (n m : Nat) (e : TypeId) : (Question.appendCap n m e).forced = false := rfl
end Lg
