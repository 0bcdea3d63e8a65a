import Derived.Test.YtflnllohghgpdaaLgR
/-
  Memory's steps, and what they keep.
-/
namespace Lg
open Go
set_option linter.unusedSectionVars false
set_option linter.unusedVariables false
set_option linter.unusedSimpArgs false

def newA (A : Av) (n : Nat) : Av := fun b off => A b off ∨ b = n
theorem setRow_heap_ne (w : World) (g : Nat) (cs : Array Value) (b : Nat) (h : b ≠ g) : (w.setRow g cs).heap[b]? = w.heap[b]? := by
  unfold World.setRow
  simp only [Array.getElem?_modify]
  rw [if_neg (by omega)]
theorem setRow_size (w : World) (g : Nat) (cs : Array Value) : (w.setRow g cs).heap.size = w.heap.size := by
  unfold World.setRow; simp
theorem alloc_heap_lt (w : World) (o : Obj) (b : Nat) (h : b < w.heap.size) : (w.alloc o).heap[b]? = w.heap[b]? := by
  show (w.heap.push o)[b]? = _
  rw [Array.getElem?_push, if_neg (by omega)]
theorem alloc_heap_new (w : World) (o : Obj) : (w.alloc o).heap[w.heap.size]? = some o := by
  show (w.heap.push o)[w.heap.size]? = _
  simp
theorem alloc_size (w : World) (o : Obj) : (w.alloc o).heap.size = w.heap.size + 1 := by
  show (w.heap.push o).size = _
  simp
theorem cell_of_heap {w w' : World} {b : Nat} (h : w'.heap[b]? = w.heap[b]?) (off : Nat) : w'.cell? ⟨b, off, none⟩ = w.cell? ⟨b, off, none⟩ := by
  simp [World.cell?, h]
theorem cell_some {w : World} {b off : Nat} {v : Value} (h : w.cell? ⟨b, off, none⟩ = some v) : ∃ cs T fr, w.heap[b]? = some (.cells cs T fr) ∧ cs[off]? = some v := by
  unfold World.cell? at h
  simp only at h
  split at h
  · rename_i c e fr hb
    exact ⟨c, e, fr, hb, by simpa using h⟩
  · simp at h
theorem cell_of {w : World} {b off : Nat} {v : Value} {cs : Array Value} {T : TypeId} {fr : Nat × Nat} (hb : w.heap[b]? = some (.cells cs T fr)) (h : cs[off]? = some v) : w.cell? ⟨b, off, none⟩ = some v := by
  simp [World.cell?, hb, h]

theorem Keep.alloc (w : World) (A : Av) (o : Obj) : Keep w (w.alloc o) A (newA A w.heap.size) (fun _ => False) := by
  refine ⟨rfl, rfl, rfl, by rw [alloc_size]; omega, fun b _ hb => alloc_heap_lt w o b hb, ?_, ?_, ?_, ?_⟩
  · intro b off v _ h
    have hlt : b < w.heap.size := World.block_lt_of_cell? w ⟨b, off, none⟩ h
    rw [cell_of_heap (alloc_heap_lt w o b hlt)]; exact h
  · intro b cs T fr h
    exact ⟨cs, fr, by rw [alloc_heap_lt w o b (lt_of_heap h)]; exact h, rfl⟩
  · rintro b off (h | h)
    · exact .inl h
    · exact .inr (by rw [alloc_size]; omega)
  · exact fun b off _ _ h => .inl h
/-- New memory that nobody writes. -/
theorem Keep.alloc0 (w : World) (A : Av) (o : Obj) (C : Nat → Prop) : Keep w (w.alloc o) A A C := by
  refine ⟨rfl, rfl, rfl, by rw [alloc_size]; omega, fun b _ hb => alloc_heap_lt w o b hb, ?_, ?_, fun b off h => .inl h, fun b off _ _ h => h⟩
  · intro b off v _ h
    have hlt : b < w.heap.size := World.block_lt_of_cell? w ⟨b, off, none⟩ h
    rw [cell_of_heap (alloc_heap_lt w o b hlt)]; exact h
  · intro b cs T fr h
    exact ⟨cs, fr, by rw [alloc_heap_lt w o b (lt_of_heap h)]; exact h, rfl⟩
/-- A world of which only what is not memory has turned (draws). -/
theorem Keep.same {w w' : World} (hh : w'.heap = w.heap) (ho : w'.os = w.os) (ht : w'.tape = w.tape) (hu : w'.output = w.output) (A : Av) (C : Nat → Prop) : Keep w w' A A C := by
  refine ⟨ho, ht, hu, by rw [hh]; exact Nat.le_refl _, fun b _ _ => by rw [hh], ?_, ?_, fun b off h => .inl h, fun b off _ _ h => h⟩
  · intro b off v _ h; rw [cell_of_heap (w := w) (w' := w') (by rw [hh])]; exact h
  · intro b cs T fr h; exact ⟨cs, fr, by rw [hh]; exact h, rfl⟩
theorem Keep.drawn (w : World) (n : Nat) (A : Av) (C : Nat → Prop) : Keep w { w with drawn := n } A A C := Keep.same (w := w) (w' := { w with drawn := n }) rfl rfl rfl rfl A C
/-- A row of one's own is written. -/
theorem Keep.setRow {w : World} {A : Av} {g : Nat} {cs cs' : Array Value} {T : TypeId} {fr : Nat × Nat} (hb : w.heap[g]? = some (.cells cs T fr)) (hs : cs'.size = cs.size)
    (hA : ∀ off, ¬ A g off → cs'[off]? = cs[off]?) : Keep w (w.setRow g cs') A A (fun b => b = g) := by
  refine ⟨rfl, rfl, rfl, by rw [setRow_size]; exact Nat.le_refl _, fun b hne _ => setRow_heap_ne w g cs' b hne, ?_, ?_, fun b off h => .inl h, fun b off _ _ h => h⟩
  · intro b off v hn h
    by_cases e : b = g
    · subst e
      obtain ⟨c, T', fr', hb', hc⟩ := cell_some h
      rw [hb] at hb'
      injection hb' with hb'
      injection hb' with e1 e2 e3
      subst e1
      exact cell_of (setRow_heap w b cs cs' T fr hb) (by rw [hA off hn]; exact hc)
    · rw [cell_of_heap (setRow_heap_ne w g cs' b e)]; exact h
  · intro b c T' fr' h
    by_cases e : b = g
    · subst e
      rw [hb] at h
      injection h with h
      injection h with e1 e2 e3
      subst e1; subst e2; subst e3
      exact ⟨cs', fr, setRow_heap w b cs cs' T fr hb, hs⟩
    · exact ⟨c, fr', by rw [setRow_heap_ne w g cs' b e]; exact h, rfl⟩

/-- Cells are stored into a row, the frozen range being none of its cells. -/
theorem run_storeCells_okfr (P : Program) (g o : Nat) (t : TypeId) (fz : Nat × Nat) : ∀ (vs : List Value) (i : Nat) (cur : Array Value) (w : World), w.heap[g]? = some (.cells cur t fz) → okfr cur.size fz → o + i + vs.length ≤ cur.size → (∀ v ∈ vs, v.oneCell' = true) →
    (storeCells ⟨g, o, none⟩ vs i).run P w = .ok () (w.setRow g (cur.toList.take (o + i) ++ vs ++ cur.toList.drop (o + i + vs.length)).toArray)
  | [], i, cur, w, hg, _, _, _ => by
    simp only [storeCells, List.append_nil, List.length_nil, Nat.add_zero, List.take_append_drop, Array.toArray_toList]
    rw [setRow_self w g cur t fz hg]
    rfl
  | v :: rest, i, cur, w, hg, hfz, hl, h1 => by
    have hi : o + i < cur.size := by simp at hl; omega
    have hadd : (⟨g, o, none⟩ : Addr).add i = ⟨g, o + i, none⟩ := by unfold Addr.add; split <;> simp_all
    have hcell : w.cell? ⟨g, o + i, none⟩ = some cur[o + i] := by simp [World.cell?, hg, hi]
    have hfro : w.frozen? ⟨g, o + i, none⟩ = false := by
      have := hfz.at (o + i) hi
      obtain ⟨lo, hi'⟩ := fz
      simp only [World.frozen?, hg, Bool.and_eq_false_iff, decide_eq_false_iff_not]
      simp only at this
      omega
    have hst : (store ((⟨g, o, none⟩ : Addr).add i) v).run P w = .ok () (w.setRow g (cur.setIfInBounds (o + i) v)) := by
      rw [hadd, run_store P w _ v _ (h1 v (by simp)), hcell]
      simp [hfro, setCell_eq_setRow w g (o + i) cur t fz v hg]
    have ih := run_storeCells_okfr P g o t fz rest (i + 1) (cur.setIfInBounds (o + i) v) (w.setRow g (cur.setIfInBounds (o + i) v)) (setRow_heap w g cur _ t _ hg) (by simpa using hfz) (by simp at hl ⊢; omega) (fun x hx => h1 x (by simp [hx]))
    simp only [storeCells, Sem.run_bind, hst, Result.andThen_ok, ih, setRow_setRow]
    congr 3
    have hx : (cur.setIfInBounds (o + i) v).toList = cur.toList.set (o + i) v := by simp
    rw [hx]
    have h2 : (cur.toList.set (o + i) v).take (o + (i + 1)) = cur.toList.take (o + i) ++ [v] := by
      rw [show o + (i + 1) = o + i + 1 by omega, List.take_set, List.take_succ_eq_append_getElem (by simpa using hi)]
      simp [List.set_append_right, hi, Nat.min_eq_left (Nat.le_of_lt hi)]
    have h3 : (cur.toList.set (o + i) v).drop (o + (i + 1) + rest.length) = cur.toList.drop (o + i + (v :: rest).length) := by
      rw [List.drop_set_of_lt (by omega)]
      congr 1
      simp; omega
    rw [h2, h3]
    simp
theorem splice_get (cur vs : List Value) (o : Nat) (h : o + vs.length ≤ cur.length) (k : Nat) :
    (cur.take o ++ vs ++ cur.drop (o + vs.length))[k]? = if k < o then cur[k]? else if k < o + vs.length then vs[k - o]? else cur[k]? := by
  have ht : (cur.take o).length = o := by simp; omega
  rw [List.append_assoc, List.getElem?_append]
  rw [ht]
  split
  · rename_i hk; rw [List.getElem?_take]; simp [hk]
  · rename_i hk
    rw [List.getElem?_append]
    split
    · rename_i hk2; rw [if_pos (by omega)]
    · rename_i hk2
      rw [if_neg (by omega), List.getElem?_drop]
      congr 1; omega
theorem splice_size (cur vs : List Value) (o : Nat) (h : o + vs.length ≤ cur.length) : (cur.take o ++ vs ++ cur.drop (o + vs.length)).length = cur.length := by
  simp; omega
end Lg
