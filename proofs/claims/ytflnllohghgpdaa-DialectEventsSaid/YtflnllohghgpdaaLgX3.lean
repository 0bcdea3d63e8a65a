import Derived.Test.YtflnllohghgpdaaLgX2
import Derived.Laws.Tables
/-
  Operations: structs built; cells read.
-/
namespace Lg
open Go
set_option linter.unusedVariables false
set_option linter.unusedSimpArgs false
set_option linter.unusedSectionVars false

theorem foldl_splice (off : Nat) : ∀ (us : List Value) (k : Nat) (cs : Array Value), off + k + us.length ≤ cs.size →
    ((us.zipIdx k).foldl (fun cs p => cs.setIfInBounds (off + p.2) p.1) cs) = ⟨cs.toList.take (off + k) ++ us ++ cs.toList.drop (off + k + us.length)⟩
  | [], k, cs, h => by simp
  | u :: us, k, cs, h => by
    simp only [List.zipIdx_cons, List.foldl_cons]
    rw [foldl_splice off us (k + 1) _ (by simp at h ⊢; omega)]
    congr 1
    have hk : off + k < cs.toList.length := by simp at h ⊢; omega
    have h2 : ((cs.setIfInBounds (off + k) u).toList).take (off + (k + 1)) = cs.toList.take (off + k) ++ [u] := by
      rw [Array.toList_setIfInBounds, show off + (k + 1) = off + k + 1 by omega, List.take_set, List.take_succ_eq_append_getElem hk]
      rw [List.set_append_right _ _ (by simp; omega)]
      have : off + k - (cs.toList.take (off + k)).length = 0 := by simp; omega
      rw [this]; rfl
    have h3 : ((cs.setIfInBounds (off + k) u).toList).drop (off + (k + 1) + us.length) = cs.toList.drop (off + k + (u :: us).length) := by
      rw [Array.toList_setIfInBounds, List.drop_set_of_lt (by omega)]
      congr 1; simp; omega
    rw [h2, h3]; simp
section
variable {fid : Nat → FuncId} {w : World} {A : Av} {ι : Io} {r : Bool}
theorem LVs.splice {vs us : List Value} {ds es : List D} {off : Nat} (h : LVs fid w A ι r vs ds []) (k : LVs fid w A ι r us es []) :
    LVs fid w A ι r (vs.take off ++ us ++ vs.drop (off + us.length)) (ds.take off ++ (es ++ ds.drop (off + es.length))) [] := by
  rw [List.append_assoc, k.length_eq]
  exact (h.take off).append (k.append (h.drop _))
theorem putCells_some {ds es ds' : List D} {off : Nat} (h : putCells ds off es = some ds') : off + es.length ≤ ds.length ∧ ds' = ds.take off ++ (es ++ ds.drop (off + es.length)) := by
  unfold putCells at h
  split at h
  · rename_i hl; injection h with h; exact ⟨hl, h.symm⟩
  · cases h
/-- One part laid. -/
theorem fill_one {vs : List Value} {ds ds' : List D} {v : Value} {d : D} {off : Nat} (h : LVs fid w A ι r vs ds []) (k : LV fid w A ι r v d []) (hne : d ≠ .un) (hp : putCells ds off d.cells = some ds') :
    off + v.cells.size ≤ vs.length ∧ LVs fid w A ι r (v.cells.zipIdx.foldl (fun (cs : Array Value) (p : Value × Nat) => cs.setIfInBounds (off + p.2) p.1) (⟨vs⟩ : Array Value)).toList ds' [] ∧
      (v.cells.zipIdx.foldl (fun (cs : Array Value) (p : Value × Nat) => cs.setIfInBounds (off + p.2) p.1) (⟨vs⟩ : Array Value)).size = vs.length := by
  obtain ⟨hl, rfl⟩ := putCells_some hp
  have kc := k.cells hne
  have e1 := kc.length_eq
  have e2 := h.length_eq
  have hsz : v.cells.size = d.cells.length := by rw [← e1]; simp
  have hle : off + v.cells.size ≤ vs.length := by omega
  have hf : v.cells.zipIdx.foldl (fun (cs : Array Value) (p : Value × Nat) => cs.setIfInBounds (off + p.2) p.1) (⟨vs⟩ : Array Value) = ⟨vs.take off ++ v.cells.toList ++ vs.drop (off + v.cells.toList.length)⟩ := by
    rw [← Array.foldl_toList, Array.toList_zipIdx]
    exact foldl_splice off v.cells.toList 0 ⟨vs⟩ (by simp; omega)
  rw [hf]
  refine ⟨hle, h.splice kc, ?_⟩
  simp; omega
end
section
variable {P : Program} {num : FuncId → Option Nat} {fid : Nat → FuncId} (hnum : ∀ f g, num f = some g → fid g = f)
  {w : World} {A : Av} {ι : Io} {a : Act} {E : Env} {own : Nat → List Nat} (hl : ∀ t, LV fid w A ι true (a.tmps.getD t undef) (lk E t) (own t)) {o : Oper} {d : D}
include hnum hl
theorem fill_lv (pl : Nat → Option (Nat × Nat)) : ∀ (ps : List (Nat × Operand)) (qs : List (Nat × Nat × SOpd)) (vs : List Value) (ds ds' : List D),
    (∀ p, p ∈ ps → okOpd p.2 = true) → List.length qs = ps.length → (∀ (k : Nat) (p : Nat × Operand) (q : Nat × Nat × SOpd), ps[k]? = some p → qs[k]? = some q → pl p.1 = some (q.1, q.2.1) ∧ q.2.2 = opd num p.2) → noTrees (qs.map fun q => ov E q.2.2) = true →
    LVs fid w A ι true vs ds [] → buildD ds (qs.map fun q => (q.1, q.2.1, ov E q.2.2)) = some ds' →
    ∃ cs : Array Value, Instr.fill pl ⟨vs⟩ (ps.map fun p => (p.1, a.eval p.2)) = some cs ∧ LVs fid w A ι true cs.toList ds' []
  | [], [], vs, ds, ds', _, _, _, _, hv, h => by
    simp [buildD] at h; subst h
    exact ⟨⟨vs⟩, rfl, hv⟩
  | [], q :: qs, vs, ds, ds', _, hlen, _, _, hv, h => by simp at hlen
  | p :: ps, [], vs, ds, ds', _, hlen, _, _, hv, h => by simp at hlen
  | p :: ps, q :: qs, vs, ds, ds', hok, hlen, hpl, hn, hv, h => by
    obtain ⟨h1, h2⟩ := hpl 0 p q rfl rfl
    simp only [List.map_cons, noTrees, Bool.and_eq_true] at hn
    have kx := lv_opd hnum hl p.2 (hok p (by simp))
    rw [← h2] at kx
    rw [kx.noTree hn.1] at kx
    have hne := noTree_ne hn.1
    simp only [List.map_cons, buildD] at h
    split at h
    · rename_i hsz
      obtain ⟨ds1, hp, hb⟩ := Option.bind_eq_some_iff.1 h
      obtain ⟨g1, g2, g3⟩ := fill_one hv kx hne hp
      have hcs : (a.eval p.2).cells.size = q.2.1 := by rw [← hsz]; have := (kx.cells hne).length_eq; simpa using this
      obtain ⟨cs, hf, hcsv⟩ := fill_lv pl ps qs _ ds1 ds' (fun x hx => hok x (by simp [hx])) (by simpa using hlen) (fun k p' q' hp hq => hpl (k + 1) p' q' (by simpa using hp) (by simpa using hq)) hn.2 g2 hb
      refine ⟨cs, ?_, hcsv⟩
      simp only [List.map_cons, Instr.fill, h1]
      have hif : ((a.eval p.2).cells.size ≠ q.2.1 || decide (q.1 + (a.eval p.2).cells.size > (⟨vs⟩ : Array Value).size)) = false := by
        simp [hcs]; omega
      split
      · rename_i hc
        exfalso
        simp at hc
        rcases hc with hc | hc
        · exact hc hcs
        · omega
      · exact hf
    · cases h
omit hnum hl in
theorem partsT_spec {pl : List (Nat × Nat)} : ∀ {ps : List (Nat × Operand)} {qs : List (Nat × Nat × SOpd)}, partsT num pl ps = some qs → qs.length = ps.length ∧ ∀ (k : Nat) (p : Nat × Operand) (q : Nat × Nat × SOpd), ps[k]? = some p → qs[k]? = some q → pl.toArray[p.1]? = some (q.1, q.2.1) ∧ q.2.2 = opd num p.2
  | [], qs, h => by simp [partsT] at h; subst h; exact ⟨rfl, by intro k p q hp; simp at hp⟩
  | p :: ps, qs, h => by
    simp only [partsT] at h
    obtain ⟨q, hq, h⟩ := Option.bind_eq_some_iff.1 h
    obtain ⟨l, hl, rfl⟩ := Option.map_eq_some_iff.1 h
    obtain ⟨h1, h2⟩ := partsT_spec hl
    refine ⟨by simp [h1], fun k p' q' hp hq' => ?_⟩
    cases k with
    | zero => simp at hp hq'; subst hp; subst hq'; exact ⟨by simpa using hq, rfl⟩
    | succ k => exact h2 k p' q' (by simpa using hp) (by simpa using hq')
omit hl in
theorem lv_zero {t : TypeId} {z : List D} (h : zeroT P t = some z) {r : Bool} : ∃ (ti : TypeInfo) (zv : Value), P.info? t = some ti ∧ ti.zero = some zv ∧ LVs fid w A ι r zv.cells.toList z [] ∧ ∀ v, v ∈ zv.cells.toList → v.oneCell' = true := by
  unfold zeroT at h
  obtain ⟨zv, hz, h⟩ := Option.bind_eq_some_iff.1 h
  obtain ⟨ti, hti, hzz⟩ := Option.bind_eq_some_iff.1 hz
  split at h
  · rename_i hh
    injection h with h
    subst h
    rw [List.all_eq_true] at hh
    refine ⟨ti, zv, hti, hzz, lv_leaves hnum _ ?_, fun v hv => ?_⟩
    · rw [List.all_eq_true]; intro v hv; have := hh v hv; cases v <;> simp_all [cell1, notAgg]
    · have := hh v hv; cases v <;> simp_all [cell1, Value.oneCell']
  · cases h
theorem x_build_struct {t : TypeId} {ps : Array (Nat × Operand)} {qs : List (Nat × Nat × SOpd)} {z ds : List D} {fs : Array Field} {pl : List (Nat × Nat)} (ho : o.op = .build t ps) (hz : zeroT P t = some z) (ht : P.underlying t = some (.struct fs)) (hp : placesT P fs = some pl)
    (hq : partsT num pl ps.toList = some qs) (hok : ∀ p, p ∈ ps.toList → okOpd p.2 = true) (hn : noTrees (qs.map fun q => ov E q.2.2) = true) (h : buildD z (qs.map fun q => (q.1, q.2.1, ov E q.2.2)) = some ds) : Pure1 P fid w A ι a o (.agg ds) := by
  obtain ⟨ti, zv, hti, hzv, hlz, _⟩ := lv_zero hnum hz
  obtain ⟨h1, h2⟩ := partsT_spec hq
  obtain ⟨cs, hf, hcs⟩ := fill_lv hnum hl (pl.toArray[·]?) ps.toList qs zv.cells.toList z ds hok h1 h2 hn hlz h
  refine ⟨.agg cs, ?_, ?_⟩
  · simp only [execOp, ho]
    refine run_v (run_build w t _ cs ?_)
    unfold Program.built
    simp only [hti, ht, hzv]
    unfold placesT at hp
    simp only [hp]
    have : (ps.map fun x => (x.1, a.eval x.2)).toList = ps.toList.map fun p => (p.1, a.eval p.2) := by simp
    simpa using hf
  · exact .agg cs.toList ds [] hcs
theorem x_build_array {t e : TypeId} {len n : Nat} {ps : Array (Nat × Operand)} {z ds : List D} (ho : o.op = .build t ps) (hz : zeroT P t = some z) (ht : P.underlying t = some (.array len e)) (hs : sizeT P e = some n)
    (hok : ∀ p, p ∈ ps.toList → okOpd p.2 = true) (hn : noTrees (ps.toList.map fun p => ov E (opd num p.2)) = true) (h : buildD z (ps.toList.map fun p => (p.1 * n, n, ov E (opd num p.2))) = some ds) : Pure1 P fid w A ι a o (.agg ds) := by
  obtain ⟨ti, zv, hti, hzv, hlz, _⟩ := lv_zero hnum hz
  obtain ⟨te, hte, hsz⟩ := Option.map_eq_some_iff.1 hs
  obtain ⟨cs, hf, hcs⟩ := fill_lv hnum hl (fun i => some (i * n, n)) ps.toList (ps.toList.map fun p => (p.1 * n, n, opd num p.2)) zv.cells.toList z ds hok (by simp)
    (by intro k p q hp hq; simp only [List.getElem?_map, hp, Option.map_some, Option.some.injEq] at hq; subst hq; exact ⟨rfl, rfl⟩) (by simpa [List.map_map, Function.comp_def] using hn) hlz (by simpa [List.map_map, Function.comp_def] using h)
  refine ⟨.agg cs, ?_, ?_⟩
  · simp only [execOp, ho]
    refine run_v (run_build w t _ cs ?_)
    unfold Program.built
    simp only [hti, ht, hzv, hte, hsz]
    simpa using hf
  · exact .agg cs.toList ds [] hcs
end
end Lg
