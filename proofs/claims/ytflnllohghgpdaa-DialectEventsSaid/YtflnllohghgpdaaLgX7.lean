import Derived.Test.YtflnllohghgpdaaLgX6
/-
  append.
-/
namespace Lg
open Go
set_option linter.unusedVariables false
set_option linter.unusedSimpArgs false
set_option linter.unusedSectionVars false

theorem run_zeroT {P : Program} {w : World} {e : TypeId} {n : Nat} (h : (zeroT P e).map List.length = some n) : ∃ zv : Value, zv.cells.size = n ∧ ∀ w : World, (zeroValue e).run P w = .ok zv w := by
  obtain ⟨z, hz, hn⟩ := Option.map_eq_some_iff.1 h
  unfold zeroT at hz
  obtain ⟨zv, hz1, hz2⟩ := Option.bind_eq_some_iff.1 hz
  obtain ⟨ti, hti, hzz⟩ := Option.bind_eq_some_iff.1 hz1
  split at hz2
  · injection hz2 with hz2
    refine ⟨zv, ?_, fun w => by simp [zeroValue, typeInfo, hti, hzz, Sem.run_bind]⟩
    rw [← hn, ← hz2]; simp
  · cases hz2
theorem size_zeroCells (z : Array Value) (n : Nat) : (Builtin.zeroCells z n).size = n * z.size := by simp [Builtin.zeroCells]

theorem seqT_cases {du : TypeDesc} (h : seqT du = true) : (∃ x, du = .slice x) ∨ du = .string := by
  cases du <;> simp [seqT] at h
  · exact .inr rfl
  · exact .inl ⟨_, rfl⟩
section
variable {P : Program} {w : World}
theorem run_append_fits {t u e ty : TypeId} {du : TypeDesc} {sz len cap n : Nat} {b : Nat} {yv : Value} {us : List Value} {cs : Array Value} {T : TypeId} {fr : Nat × Nat}
    (ht : P.underlying t = some (.slice e)) (hu : P.underlying u = some du) (hdu : seqT du = true) (hs : sizeT P e = some sz) (hlen : (Builtin.lenOf yv).run P w = .ok n w) (hc : (Builtin.firstCells sz n yv).run P w = .ok us.toArray w)
    (hul : us.length = n * sz) (hb : w.heap[b]? = some (.cells cs T fr)) (hf : okfr cs.size fr) (hle : len * sz + us.length ≤ cs.size) (h1 : ∀ v, v ∈ us → v.oneCell' = true) (hfit : len + n ≤ cap) :
    (Builtin.append_ #[t, u] ty #[.slice (some ⟨b, 0, none⟩) len cap, yv]).run P w = .ok (.slice (some ⟨b, 0, none⟩) (len + n) cap) (w.setRow b ⟨cs.toList.take (len * sz) ++ us ++ cs.toList.drop (len * sz + us.length)⟩) := by
  have hst := run_storeCells_okfr P b (len * sz) T fr us 0 cs w hb hf (by simpa using hle) h1
  have hadd : (⟨b, 0, none⟩ : Addr).add (len * sz) = ⟨b, len * sz, none⟩ := by rw [addr_add, Nat.zero_add]
  simp only [Nat.add_zero] at hst
  unfold Builtin.append_
  rcases seqT_cases hdu with ⟨x, rfl⟩ | rfl
  all_goals simp only [List.getElem?_toArray, List.getElem?_cons_zero, List.getElem?_cons_succ, Sem.run_bind, run_underlying ht, run_underlying hu, run_sizeT hs, Result.andThen_ok, Sem.run_pure, Bool.false_eq_true, if_false, hlen, Bool.not_false, if_true, if_pos hfit, hc, hadd, hst]
theorem run_append_nothing {t u e ty : TypeId} {du : TypeDesc} {sz : Nat} {ad : Option Addr} {yv : Value}
    (ht : P.underlying t = some (.slice e)) (hu : P.underlying u = some du) (hdu : seqT du = true) (hs : sizeT P e = some sz) (hlen : (Builtin.lenOf yv).run P w = .ok 0 w) (hc : (Builtin.firstCells sz 0 yv).run P w = .ok #[] w) :
    (Builtin.append_ #[t, u] ty #[.slice ad 0 0, yv]).run P w = .ok (.slice ad 0 0) w := by
  unfold Builtin.append_
  rcases seqT_cases hdu with ⟨x, rfl⟩ | rfl
  all_goals simp only [List.getElem?_toArray, List.getElem?_cons_zero, List.getElem?_cons_succ, Sem.run_bind, run_underlying ht, run_underlying hu, run_sizeT hs, Result.andThen_ok, Sem.run_pure, Bool.false_eq_true, if_false, hlen, Bool.not_false, if_true, hc, Nat.add_zero, Nat.le_refl, Nat.zero_mul]
  all_goals (cases ad <;> simp [Sem.run_bind, storeCells])
theorem run_append_grows {t u e ty : TypeId} {du : TypeDesc} {sz by_ len cap n : Nat} {base : Option Addr} {yv : Value} {os us : List Value}
    (ht : P.underlying t = some (.slice e)) (hu : P.underlying u = some du) (hdu : seqT du = true) (hs : sizeT P e = some sz) (hby : bytesT P e = some by_) (hb0 : 0 < by_) (hz : (zeroT P e).map List.length = some sz)
    (hlen : (Builtin.lenOf yv).run P w = .ok n w) (hc : ∀ w', w'.heap = w.heap → (Builtin.firstCells sz n yv).run P w' = .ok us.toArray w') (hco : ∀ w', w'.heap = w.heap → (Builtin.firstCells sz len (.slice base len cap)).run P w' = .ok os.toArray w')
    (hol : os.length = len * sz) (hul : us.length = n * sz) (hgt : cap < len + n) (hbd : (len + n) * by_ ≤ 140737488355328) :
    ∃ (c : Nat) (rest : List Value), len + n ≤ c ∧ (os ++ us ++ rest).length = c * sz ∧
      (Builtin.append_ #[t, u] ty #[.slice base len cap, yv]).run P w = .ok (.slice (some ⟨w.heap.size, 0, none⟩) (len + n) c) (w.drew.alloc (.cells ⟨os ++ us ++ rest⟩ e)) := by
  obtain ⟨ti, hti, hbb⟩ := Option.map_eq_some_iff.1 hby
  obtain ⟨zv, hzs, hzr⟩ := run_zeroT (w := w) hz
  let c := (Question.appendCap (len + n) cap e).cut (w.tape w.drawn (.appendCap (len + n) cap e))
  have hcc : c = (len + n) + (w.tape w.drawn (.appendCap (len + n) cap e)) % (2 ^ 63 - (len + n)) := rfl
  have hle : len + n ≤ c := by omega
  have hw : w.drew.heap = w.heap := rfl
  have hnc := nextslicecap_le hgt
  refine ⟨c, (Builtin.zeroCells zv.cells (c - (len + n))).toList, hle, ?_, ?_⟩
  · simp only [List.length_append, hol, hul, Array.length_toList, size_zeroCells, hzs]
    rw [← Nat.add_mul, ← Nat.add_mul]; congr 1; omega
  · have h2 : ¬ (Builtin.nextslicecap (len + n) cap * ti.bytes > 2 ^ 48) := by
      rw [hbb]
      have : Builtin.nextslicecap (len + n) cap * by_ ≤ 2 * (len + n) * by_ := Nat.mul_le_mul_right _ hnc
      rw [Nat.mul_assoc] at this
      omega
    have h3 : ¬ ((((len + n : Nat) : Int) > IntKind.i64.max) ∧ (false = true ∨ ti.bytes = 0)) := by
      rintro ⟨_, h | h⟩
      · cases h
      · omega
    have hti' : ∀ w : World, (typeInfo e).run P w = .ok ti w := fun w => by simp [typeInfo, hti, Sem.run_bind]
    have hch : (choose (.appendCap (len + n) cap e)).run P w = .ok c w.drew := by
      rw [run_choose_drew]; simp [forced_appendCap]; rfl
    unfold Builtin.append_
    rcases seqT_cases hdu with ⟨x, rfl⟩ | rfl
    all_goals simp only [List.getElem?_toArray, List.getElem?_cons_zero, List.getElem?_cons_succ, Sem.run_bind, run_underlying ht, run_underlying hu, run_sizeT hs, Result.andThen_ok, Sem.run_pure, Bool.false_eq_true, if_false, hlen, Bool.not_false, if_true,
      if_neg (Nat.not_le.2 hgt), hti', if_neg h2, hch, run_askRoom, hco _ hw, hc _ hw, hzr, run_newRow]
    all_goals rw [if_neg (by simpa using h3)]
    all_goals simp only [Sem.run_bind, hti', Result.andThen_ok, if_neg h2, hch, run_askRoom, hco _ hw, hc _ hw, hzr, run_newRow, Sem.run_pure]
    all_goals congr 2
    all_goals congr 1
    all_goals (apply Array.ext'; simp)
end
end Lg
