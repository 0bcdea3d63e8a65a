import Derived.Test.YtflnllohghgpdaaLgX13
/-
  A slice of one's own is cleared (cells of one place).
-/
namespace Lg
open Go
set_option linter.unusedVariables false
set_option linter.unusedSimpArgs false
set_option linter.unusedSectionVars false

section
variable {P : Program} {num : FuncId → Option Nat} {fid : Nat → FuncId} (hnum : ∀ f g, num f = some g → fid g = f)
  {w : World} {A : Av} {ι : Io} {H : List Ob} {eo : List Nat} {a : Act} {E : Env} {own : Nat → List Nat} (hl : ∀ t, LV fid w A ι true (a.tmps.getD t undef) (lk E t) (own t)) (hob : ∀ i, ObjOK fid w A ι (ι i) (obAt H i)) {o : Oper} {d : D}
theorem zeroCells_one (z : Value) (n : Nat) : (Builtin.zeroCells #[z] n).toList = List.replicate n z := by
  apply List.ext_getElem?
  intro i
  simp only [Builtin.zeroCells, Array.toList_map, Array.toList_range, List.getElem?_map, List.getElem?_replicate]
  by_cases h : i < n
  · simp [h, Nat.mod_one]
  · simp [h]
theorem zero1T_cells {t : TypeId} {z : D} (hnum : ∀ f g, num f = some g → fid g = f) (h : zero1T P t = some z) : ∃ zv, (zeroValue t).run P w = .ok zv w ∧ LV fid w A ι false zv z [] ∧ zv.cells = #[zv] ∧ zv.oneCell' = true ∧ z.cells.length = 1 := by
  unfold zero1T at h
  obtain ⟨v, hv, h⟩ := Option.bind_eq_some_iff.1 h
  obtain ⟨ti, hti, hzv⟩ := Option.bind_eq_some_iff.1 hv
  split at h
  · rename_i hc
    injection h with h; subst h
    refine ⟨v, by simp [zeroValue, typeInfo, hti, hzv, Sem.run_bind], lv_leaf hnum v (by cases v <;> simp_all [cell1, notAgg]), by cases v <;> simp_all [cell1, Value.cells], by cases v <;> simp_all [cell1, Value.oneCell'], ?_⟩
    unfold dLeaf
    split <;> rfl
  · cases h
include hnum hl hob in
theorem x_clr {t e : TypeId} {x : Operand} {z : D} {up : Option (Nat × Ob)} (ho : o.op = .call { callee := .builtin .clear, args := #[x], argTypes := #[t] }) (ht : P.underlying t = some (.slice e)) (hz : zero1T P e = some z)
    (hx : okOpd x = true) (h : clrD H z (ov E (opd num x)) = some (d, up)) : Does P fid w A ι H eo a o d up := by
  obtain ⟨zv, hzv, lz, hzc, hz1, hzl⟩ := zero1T_cells (w := w) (A := A) (ι := ι) hnum hz
  have kx := lv_opd hnum hl x hx
  generalize ov E (opd num x) = dx at kx h
  have ltup : LV fid w A ι true (.tuple #[]) (.tup []) [] := .tup [] [] [] .nil
  have fin : ∀ {w' : World} {up}, (Builtin.clear_ #[t] o.type #[a.eval x]).run P w = .ok (.tuple #[]) w' → XR fid w w' A A ι H eo (.tuple #[]) (.tup []) up [] → Does P fid w A ι H eo a o (.tup []) up := by
    intro w' up hrun X
    refine ⟨_, _, w', A, [], ?_, .inl rfl, X⟩
    simp only [execOp, ho, resolve, invoke, builtin, Sem.run_bind, Sem.run_pure, Result.andThen_ok, List.map_toArray, List.map_cons, List.map_nil, hrun]
  unfold clrD at h
  split at h
  · simp only [Option.some.injEq, Prod.mk.injEq] at h
    obtain ⟨rfl, rfl⟩ := h
    obtain ⟨ad, e1, _⟩ := kx.inv_sn
    refine fin ?_ (XR.val ltup)
    rw [e1]
    unfold Builtin.clear_
    cases ad <;> simp [run_underlying ht, Sem.run_bind]
  · rename_i id sz off len
    obtain ⟨ad, cap, q, e1, e2, _, hi, g0, g1⟩ := kx.inv_rf
    split at h
    · rename_i sz'' ds hH
      split at h
      · rename_i hh
        obtain ⟨rfl, rfl, hle⟩ := hh
        simp only [Option.some.injEq, Prod.mk.injEq] at h
        obtain ⟨rfl, rfl⟩ := h
        have hobi := hob id
        rw [obAt_of hH, hi] at hobi
        by_cases hm : len = 0
        · subst hm
          refine fin (w' := w) ?_ ⟨Keep.refl _ _ _, ltup, ?_, List.nodup_nil, by simp⟩
          · rw [e1]
            unfold Builtin.clear_
            cases ad <;> simp [run_underlying ht, Sem.run_bind]
          · intro i ob hu
            simp only [Option.some.injEq, Prod.mk.injEq] at hu
            obtain ⟨rfl, rfl⟩ := hu
            refine ⟨?_, lt_of_get hH, by rw [obAt_of hH]; rfl⟩
            simp only [List.replicate_zero, List.nil_append, Nat.add_zero, List.take_append_drop]
            rw [hi]; exact hobi
        · rcases hobi with ⟨eb, rfl⟩ | ⟨b, eb, cs, T, fr, vs, k1, k2, ku, k4, k5, k6, k7, k8⟩
          · simp at hle; exfalso; omega
          · injection eb with eb
            obtain ⟨m1, m2, cs', T', fr', m3, m4⟩ := g1 b eb
            rw [k1] at m3
            injection m3 with m3; injection m3 with m3 m5 m6
            subst m3
            rcases m1 with rfl | m1
            · have hvl : vs.length = ds.length := by rw [k4.length_eq, flat_len ku]; omega
              have hcs := prefix_len k6
              have hlec : off + (List.replicate len zv).length ≤ cs.size := by simp; omega
              have hlev : off + (List.replicate len zv).length ≤ vs.length := by simp; omega
              have hst := run_storeCells_okfr P b off T fr (List.replicate len zv) 0 cs w k1 k2 (by simpa using hlec) (fun v hv => by rw [(List.mem_replicate.1 hv).2]; exact hz1)
              have K := setRow_lv (fid := fid) (A := A) (us := List.replicate len zv) (o := off) k1 hlec (fun k _ => k7 rfl _)
              simp only [Nat.add_zero] at hst
              refine fin (w' := w.setRow b (cs.toList.take off ++ List.replicate len zv ++ cs.toList.drop (off + (List.replicate len zv).length)).toArray) ?_ ⟨K.mono (by rintro x rfl; exact .inr ⟨id, _, rfl, by rw [hi, eb]⟩), .tup [] [] [] .nil, ?_, List.nodup_nil, by simp⟩
              · rw [e1]
                unfold Builtin.clear_
                obtain ⟨k, rfl⟩ := Nat.exists_eq_succ_of_ne_zero hm
                simp only [Nat.mul_one] at hst ⊢
                simp [run_underlying ht, Sem.run_bind, hzv, hzc, zeroCells_one, hst]
              · intro i ob hu
                simp only [Option.some.injEq, Prod.mk.injEq] at hu
                obtain ⟨rfl, rfl⟩ := hu
                refine ⟨?_, lt_of_get hH, by rw [obAt_of hH]; rfl⟩
                have hfy : ∀ n, flat (List.replicate n z) = List.replicate n z ∨ z.cells = [z] ∨ True := fun _ => .inr (.inr trivial)
                have hzc1 : flat (List.replicate len z) = List.replicate len z ∨ True := .inr trivial
                have hz11 : z.cells = [z] := by
                  have : z.cells.length = 1 := hzl
                  unfold zero1T at hz
                  obtain ⟨v, hv, hz⟩ := Option.bind_eq_some_iff.1 hz
                  split at hz
                  · injection hz with hz; subst hz; unfold dLeaf; split <;> rfl
                  · cases hz
                have hfr : flat (List.replicate len z) = List.replicate len z := by
                  unfold flat
                  rw [List.flatMap_replicate, hz11]
                  simp
                have hfl : flat (ds.take off ++ (List.replicate len z ++ ds.drop (off + len))) = (flat ds).take off ++ (List.replicate len z ++ (flat ds).drop (off + len)) := by
                  have h1 := flat_take ku off
                  have h2 := flat_drop ku (off + len)
                  simp only [Nat.mul_one] at h1 h2
                  rw [flat_app, flat_app, hfr, ← h1, h2]
                have hlv' : LVs fid w A (fun _ => none) false (vs.take off ++ List.replicate len zv ++ vs.drop (off + (List.replicate len zv).length)) (flat (ds.take off ++ (List.replicate len z ++ ds.drop (off + len)))) [] := by
                  rw [hfl]
                  have := k4.splice (off := off) (LVs.replicate len (lz.weak (ι' := fun _ => none) (r := false)))
                  simpa using this
                rw [hi, eb]
                refine .inr ⟨b, rfl, _, T, fr, _, setRow_heap w b _ _ T fr k1, ?_, ?_, LVs.keep K (fun _ _ e => e) hlv' (by simp), ?_, ?_, fun _ => k7 rfl, fun off' _ => k7 rfl off'⟩
                · have : (⟨cs.toList.take off ++ List.replicate len zv ++ cs.toList.drop (off + (List.replicate len zv).length)⟩ : Array Value).size = cs.size := by
                    have := splice_size cs.toList (List.replicate len zv) off (by simpa using hlec)
                    simpa using this
                  rw [this]; exact k2
                · intro x hx
                  rcases List.mem_append.1 hx with hx | hx
                  · exact ku x (List.mem_of_mem_take hx)
                  · rcases List.mem_append.1 hx with hx | hx
                    · rw [(List.mem_replicate.1 hx).2]; exact hzl
                    · exact ku x (List.mem_of_mem_drop hx)
                · intro x hx
                  simp only [List.mem_append] at hx
                  rcases hx with (hx | hx) | hx
                  · exact k5 x (List.mem_of_mem_take hx)
                  · rw [(List.mem_replicate.1 hx).2]; exact hz1
                  · exact k5 x (List.mem_of_mem_drop hx)
                · intro k x hk
                  rw [splice_get vs _ _ hlev] at hk
                  have h2' : (⟨cs.toList.take off ++ List.replicate len zv ++ cs.toList.drop (off + (List.replicate len zv).length)⟩ : Array Value)[k]? = (cs.toList.take off ++ List.replicate len zv ++ cs.toList.drop (off + (List.replicate len zv).length))[k]? := by simp
                  rw [h2', splice_get cs.toList _ _ (by simpa using hlec)]
                  split at hk
                  · rename_i hk1; rw [if_pos hk1]; simpa using k6 k x hk
                  · rename_i hk1
                    rw [if_neg hk1]
                    split at hk
                    · rename_i hk2; rw [if_pos hk2]; exact hk
                    · rename_i hk2; rw [if_neg hk2]; simpa using k6 k x hk
            · exfalso; omega
      · cases h
    · cases h
  · cases h
include hnum hl in
theorem x_capn {t e : TypeId} {x : Operand} (ho : o.op = .call { callee := .builtin .cap, args := #[x], argTypes := #[t] }) (ht : P.underlying t = some (.slice e)) (hx : okOpd x = true) (h : ov E (opd num x) = .sn) : Pure1 P fid w A ι a o (.sc (.int .i64 0)) := by
  have kx := lv_opd hnum hl x hx
  rw [h] at kx
  obtain ⟨ad, e1, _⟩ := kx.inv_sn
  refine ⟨.int .i64 0, ?_, .sc _ rfl⟩
  simp only [execOp, ho, resolve, invoke, builtin, Sem.run_bind, Sem.run_pure, Result.andThen_ok, List.map_toArray, List.map_cons, List.map_nil]
  rw [e1]
  simp [Builtin.cap_, run_underlying ht, goInt, Sem.run_bind]
end
end Lg
