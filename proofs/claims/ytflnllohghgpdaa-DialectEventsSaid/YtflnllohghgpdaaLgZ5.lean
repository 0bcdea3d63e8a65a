import Derived.Test.YtflnllohghgpdaaLgZ4
/-
  Regions that draw their order.
-/
namespace Lg
open Go
set_option linter.unusedVariables false
set_option linter.unusedSimpArgs false
set_option linter.unusedSectionVars false

/-! ### what is ahead of what -/
def msk (acc : Array Nat) (o : Oper) : Nat := o.after.foldl (fun s e => if Region.binds .any e then s ||| 2 ^ e.on ||| acc.getD e.on 0 else s) 0
def bef (os : List Oper) (acc : Array Nat) : Array Nat := os.foldl (fun acc o => acc.push (msk acc o)) acc
theorem before_eq (ops : Array Oper) : Region.before ops = bef ops.toList #[] := by
  unfold Region.before bef msk
  rw [← Array.foldl_toList]
theorem bef_size (os : List Oper) (acc : Array Nat) : (bef os acc).size = acc.size + os.length := by
  induction os generalizing acc with
  | nil => rfl
  | cons o os ih => simp only [bef, List.foldl_cons] at ih ⊢; rw [ih]; simp; omega
theorem bef_old (os : List Oper) (acc : Array Nat) (j : Nat) (h : j < acc.size) : (bef os acc).getD j 0 = acc.getD j 0 := by
  induction os generalizing acc with
  | nil => rfl
  | cons o os ih =>
    simp only [bef, List.foldl_cons] at ih ⊢
    rw [ih _ (by simp; omega)]
    simp [Array.getElem?_push, Nat.ne_of_lt h]
theorem msk_bit (acc : Array Nat) (o : Oper) (k : Nat) (h : (msk acc o).testBit k = true) : ∃ e, e ∈ o.after ∧ Region.binds .any e = true ∧ (k = e.on ∨ (acc.getD e.on 0).testBit k = true) := by
  unfold msk at h
  rw [← Array.foldl_toList] at h
  have key : ∀ (l : List Edge) (s : Nat), (∀ e, e ∈ l → e ∈ o.after) → (l.foldl (fun s e => if Region.binds .any e then s ||| 2 ^ e.on ||| acc.getD e.on 0 else s) s).testBit k = true →
      s.testBit k = true ∨ ∃ e, e ∈ o.after ∧ Region.binds .any e = true ∧ (k = e.on ∨ (acc.getD e.on 0).testBit k = true) := by
    intro l
    induction l with
    | nil => intro s _ h; exact .inl h
    | cons e l ih =>
      intro s hm h
      simp only [List.foldl_cons] at h
      rcases ih _ (fun x hx => hm x (by simp [hx])) h with h | h
      · split at h
        · rename_i hb
          simp only [Nat.testBit_or, Bool.or_eq_true] at h
          rcases h with (h | h) | h
          · exact .inl h
          · rw [Nat.testBit_two_pow] at h
            exact .inr ⟨e, hm e (by simp), hb, .inl (by simpa [eq_comm] using h)⟩
          · exact .inr ⟨e, hm e (by simp), hb, .inr h⟩
        · exact .inl h
      · exact .inr h
  rcases key o.after.toList 0 (fun e he => by simpa using he) h with h | h
  · simp at h
  · exact h
theorem bef_bit : ∀ (os : List Oper) (acc : Array Nat) (j k : Nat), acc.size ≤ j → ((bef os acc).getD j 0).testBit k = true →
    ∃ o e, os[j - acc.size]? = some o ∧ e ∈ o.after ∧ Region.binds .any e = true ∧ (k = e.on ∨ (e.on < j ∧ ((bef os acc).getD e.on 0).testBit k = true))
  | [], acc, j, k, hj, h => by
    simp only [bef, List.foldl_nil] at h
    simp [Array.getElem?_eq_none hj] at h
  | o :: os, acc, j, k, hj, h => by
    have hunf : bef (o :: os) acc = bef os (acc.push (msk acc o)) := rfl
    rcases Nat.lt_or_ge acc.size j with hl | hl
    · rw [hunf] at h
      obtain ⟨o', e, h1, h2, h3, h4⟩ := bef_bit os (acc.push (msk acc o)) j k (by simp; omega) h
      refine ⟨o', e, ?_, h2, h3, by rw [hunf]; exact h4⟩
      rw [show j - acc.size = (j - (acc.push (msk acc o)).size) + 1 by simp; omega]
      simpa using h1
    · have : j = acc.size := by omega
      subst this
      rw [hunf, bef_old _ _ _ (by simp)] at h
      simp only [Array.getD_eq_getD_getElem?, Array.getElem?_push_size, Option.getD_some] at h
      obtain ⟨e, h1, h2, h3⟩ := msk_bit acc o k h
      refine ⟨o, e, by simp, h1, h2, h3.imp id fun h3 => ?_⟩
      have hlt : e.on < acc.size := by
        rcases Nat.lt_or_ge e.on acc.size with h' | h'
        · exact h'
        · simp [Array.getElem?_eq_none h'] at h3
      refine ⟨hlt, ?_⟩
      rw [hunf, bef_old _ _ _ (by simp; omega)]
      rw [Array.getD_eq_getD_getElem?, Array.getElem?_push, if_neg (by omega), ← Array.getD_eq_getD_getElem?]
      exact h3
theorem before_bit {ops : Array Oper} {j k : Nat} (h : ((Region.before ops).getD j 0).testBit k = true) :
    ∃ o e, ops[j]? = some o ∧ e ∈ o.after ∧ Region.binds .any e = true ∧ (k = e.on ∨ (e.on < j ∧ ((Region.before ops).getD e.on 0).testBit k = true)) := by
  rw [before_eq] at h ⊢
  obtain ⟨o, e, h1, h2⟩ := bef_bit ops.toList #[] j k (by simp) h
  exact ⟨o, e, by simpa using h1, h2⟩
def Closed (ops : Array Oper) (listed : Array Bool) : Prop := ∀ (j : Nat) (o : Oper) (e : Edge), listed.getD j false = true → ops[j]? = some o → e ∈ o.after → Region.binds .any e = true → listed.getD e.on false = true
theorem before_listed {ops : Array Oper} {listed : Array Bool} (hc : Closed ops listed) : ∀ (j : Nat), (∀ o e, ops[j]? = some o → e ∈ o.after → Region.binds .any e = true → listed.getD e.on false = true) → ∀ k, ((Region.before ops).getD j 0).testBit k = true → listed.getD k false = true := by
  intro j
  induction j using Nat.strongRecOn with
  | ind j ih =>
    intro hj k hk
    obtain ⟨o, e, h1, h2, h3, h4⟩ := before_bit hk
    have hl := hj o e h1 h2 h3
    rcases h4 with rfl | ⟨hlt, hb⟩
    · exact hl
    · exact ih e.on hlt (fun o' e' g1 g2 g3 => hc e.on o' e' hl g1 g2 g3) k hb
theorem Closed.set {ops : Array Oper} {listed : Array Bool} {i : Nat} (hc : Closed ops listed) (hi : i ∈ Region.ready .any ops listed) : Closed ops (listed.setIfInBounds i true) := by
  intro j o e hj ho he hb
  refine getD_set_true ?_
  by_cases e' : j = i
  · subst e'
    obtain ⟨_, o', ho', hall⟩ := mem_ready.1 hi
    rw [ho] at ho'; injection ho' with ho'; subst ho'
    exact hall e he hb
  · rw [getD_set_ne false (Ne.symm e')] at hj
    exact hc j o e hj ho he hb
theorem ready_before {ops : Array Oper} {listed : Array Bool} {i : Nat} (hc : Closed ops listed) (hi : i ∈ Region.ready .any ops listed) : ∀ k, ((Region.before ops).getD i 0).testBit k = true → listed.getD k false = true := by
  refine before_listed hc i fun o e ho he hb => ?_
  obtain ⟨_, o', ho', hall⟩ := mem_ready.1 hi
  rw [ho] at ho'; injection ho' with ho'; subst ho'
  exact hall e he hb

/-! ### a region's segments -/
section
variable {cl : Cl} {b : Array Nat} {C : List (Bool × SOper)} {r : Env × List Ob}
def sAt (C : List (Bool × SOper)) (i : Nat) : SOper := ((C[i]?).map (·.2)).getD default
def barAt (C : List (Bool × SOper)) (i : Nat) : Bool := ((C[i]?).map (·.1)).getD false
/-- What comes behind a segment. -/
def Cont (cl : Cl) (b : Array Nat) (C : List (Bool × SOper)) (m : Nat) (ps : List Nat) (E : Env) (H : List Ob) (r : Env × List Ob) : Prop :=
  (m = C.length ∧ r = settle ps E H) ∨ (m < C.length ∧ ∃ E2 H2, stepO cl (sAt C m) (settle ps E H).1 (settle ps E H).2 = some (E2, H2) ∧ stepsD cl (withUn b (m + 1) (m + 1) (C.drop (m + 1))) [] [] E2 H2 = some r)
def unord (b : Array Nat) (i j : Nat) : Prop := (b.getD j 0).testBit i = false
abbrev Ln := List (Nat × Lo)
structure Seg (cl : Cl) (b : Array Nat) (C : List (Bool × SOper)) (j m : Nat) (L : Ln) (ps : List Nat) (E : Env) (H : List Ob) (r : Env × List Ob) : Prop where
  le : m ≤ C.length
  nb : ∀ i, j ≤ i → i < m → barAt C i = false
  br : m < C.length → barAt C m = true
  run : ∃ E1 H1, Run cl (L.map fun x => sAt C x.1) (L.map (·.2)) E H E1 H1 ∧ Cont cl b C m ps E1 H1 r
  ds : ∀ x, x ∈ L → ∀ t, (sAt C x.1).dst = some t → t ∈ ps
  pw : L.Pairwise fun x y => unord b x.1 y.1 → nocl x.2 y.2
theorem clash_false {lg : Log} {un : List Nat} {l : Lo} (h : clash lg un l = false) : ∀ i, i ∈ un → ∃ x, lg[i]? = some x ∧ nocl x l := by
  intro i hi
  unfold clash at h
  rw [List.any_eq_false] at h
  have := h i hi
  cases hh : lg[i]? with
  | none => rw [hh] at this; simp at this
  | some x =>
    rw [hh] at this
    simp at this
    exact ⟨x, rfl, this⟩
theorem stepO_call_shape {s : SOper} {E E1 : Env} {H H1 : List Ob} (hc : isCall s.op = true) (h : stepO cl s E H = some (E1, H1)) : ∃ d, E1 = putE s.dst d E := by
  rcases stepO_call_congr (cl := cl) (H := H) hc (fun t _ => rfl : EnvAt (rdS s) E E) with ⟨a, _⟩ | ⟨d, H2, a, _⟩
  · rw [a] at h; cases h
  · rw [a] at h; injection h with h; simp only [Prod.mk.injEq] at h; exact ⟨d, h.1.symm⟩
theorem seg_of (s0 : Nat) : ∀ (cs : List (Bool × SOper)) (j : Nat) (lg : Log) (ps : List Nat) (E : Env) (H : List Ob), C.drop j = cs → j ≤ C.length → s0 ≤ j → lg.length = j - s0 → stepsD cl (withUn b s0 j cs) lg ps E H = some r →
    ∃ m L ps', j ≤ m ∧ L.map (·.1) = List.range' j (m - j) ∧ Seg cl b C j m L ps' E H r ∧ (∀ t, t ∈ ps → t ∈ ps') ∧ (∀ x, x ∈ L → ∀ i l, lg[i]? = some l → unord b (s0 + i) x.1 → nocl l x.2)
  | [], j, lg, ps, E, H, hd, hj, hs, hl, he => by
    have hjn : j = C.length := by
      have := congrArg List.length hd
      simp at this; omega
    simp only [withUn, stepsD, Option.some.injEq] at he
    refine ⟨j, [], ps, Nat.le_refl _, by simp, ⟨by omega, by omega, by omega, ⟨E, H, ⟨fun _ => rfl, rfl⟩, .inl ⟨hjn, he.symm⟩⟩, by simp, .nil⟩, fun _ h => h, by simp⟩
  | (bar, s) :: cs, j, lg, ps, E, H, hd, hj, hs, hl, he => by
    have hget : C[j]? = some (bar, s) := by
      have : (C.drop j)[0]? = some (bar, s) := by rw [hd]; rfl
      rw [List.getElem?_drop] at this
      simpa using this
    have hlt : j < C.length := by
      rcases Nat.lt_or_ge j C.length with h | h
      · exact h
      · rw [List.getElem?_eq_none h] at hget; cases hget
    have hd' : C.drop (j + 1) = cs := by rw [← List.drop_drop, hd]; rfl
    have hsA : sAt C j = s := by simp [sAt, hget]
    have hbA : barAt C j = bar := by simp [barAt, hget]
    simp only [withUn, stepsD] at he
    cases bar with
    | true =>
      simp only [if_true] at he
      obtain ⟨⟨E2, H2⟩, h1, h2⟩ := Option.bind_eq_some_iff.1 he
      refine ⟨j, [], ps, Nat.le_refl _, by simp, ⟨hj, by omega, fun _ => hbA, ⟨E, H, ⟨fun _ => rfl, rfl⟩, .inr ⟨hlt, E2, H2, by rw [hsA]; exact h1, by rw [hd']; exact h2⟩⟩, by simp, .nil⟩, fun _ h => h, by simp⟩
    | false =>
      simp only [Bool.false_eq_true, if_false] at he
      have main : ∀ (l : Lo) (E1' : Env) (H1' : List Ob), stepsD cl (withUn b s0 (j + 1) cs) (lg ++ [l]) (ps ++ s.dst.toList) E1' H1' = some r → clash lg (List.filter (fun k => !(b.getD j 0).testBit (s0 + k)) (List.range (j - s0))) l = false →
          (∀ {ss : List SOper} {ls : List Lo} {E2 : Env} {H2 : List Ob}, Run cl ss ls E1' H1' E2 H2 → Run cl (s :: ss) (l :: ls) E H E2 H2) →
          ∃ m L ps', j ≤ m ∧ L.map (·.1) = List.range' j (m - j) ∧ Seg cl b C j m L ps' E H r ∧ (∀ t, t ∈ ps → t ∈ ps') ∧ (∀ x, x ∈ L → ∀ i l, lg[i]? = some l → unord b (s0 + i) x.1 → nocl l x.2) := by
        intro l E1' H1' h2 hcl hstep
        have hnc := clash_false hcl
        obtain ⟨m, L, ps', g1, g2, g3, g4, g5⟩ := seg_of s0 cs (j + 1) (lg ++ [l]) (ps ++ s.dst.toList) _ _ hd' (by omega) (by omega) (by simp; omega) h2
        obtain ⟨E1, H1, hrun, hcont⟩ := g3.run
        have hself : ∀ x, x ∈ L → unord b j x.1 → nocl l x.2 := by
          intro x hx hu
          have := g5 x hx lg.length l (by simp) (by rw [hl, show s0 + (j - s0) = j by omega]; exact hu)
          exact this
        refine ⟨m, (j, l) :: L, ps', by omega, ?_, ⟨g3.le, fun i h1 h2 => ?_, g3.br, ⟨E1, H1, by simp only [List.map_cons, hsA]; exact hstep hrun, hcont⟩, fun x hx t ht => ?_, ?_⟩, fun t ht => g4 t (by simp [ht]), fun x hx i l' hli hu => ?_⟩
        · rw [List.map_cons, g2, show m - j = (m - (j + 1)) + 1 by omega, List.range'_succ]
        · rcases Nat.lt_or_ge j i with h | h
          · exact g3.nb i (by omega) h2
          · have : i = j := by omega
            subst this; exact hbA
        · rcases List.mem_cons.1 hx with rfl | hx
          · simp only [hsA] at ht
            exact g4 t (by simp [ht])
          · exact g3.ds x hx t ht
        · exact List.pairwise_cons.2 ⟨fun x hx hu => hself x hx hu, g3.pw⟩
        · rcases List.mem_cons.1 hx with rfl | hx
          · have hlen : i < lg.length := by
              rcases Nat.lt_or_ge i lg.length with h | h
              · exact h
              · rw [List.getElem?_eq_none h] at hli; cases hli
            obtain ⟨l2, hl', hnn⟩ := hnc i (by
              rw [List.mem_filter, List.mem_range]
              exact ⟨by omega, by simpa [unord] using hu⟩)
            rw [hli] at hl'; injection hl' with hl'; subst hl'
            exact hnn
          · exact g5 x hx i l' (by rw [List.getElem?_append_left]; exact hli; rcases Nat.lt_or_ge i lg.length with h | h; exact h; rw [List.getElem?_eq_none h] at hli; cases hli) hu
      split at he
      · rename_i hcall
        split at he
        · rename_i hno
          obtain ⟨⟨E1', H1'⟩, h1, h2⟩ := Option.bind_eq_some_iff.1 he
          simp only at h2
          split at h2
          · cases h2
          · rename_i hcl
            simp only [Bool.not_eq_true] at hcl
            refine main _ _ _ h2 hcl fun hrun => .inr ?_
            obtain ⟨d, rfl⟩ := stepO_call_shape hcall h1
            exact ⟨hcall, d, H1', fun t ht => by rw [List.all_eq_true] at hno; exact hno t ht, h1, rfl, hrun⟩
        · cases he
      · rename_i hcall
        simp only [Bool.not_eq_true] at hcall
        obtain ⟨⟨d, e, u⟩, h1, h2⟩ := Option.bind_eq_some_iff.1 he
        simp only at h2
        split at h2
        · cases h2
        · rename_i hcl
          simp only [Bool.not_eq_true] at hcl
          exact main _ _ _ h2 hcl fun hrun => .inl ⟨hcall, (d, e, u), h1, rfl, hrun⟩
end
end Lg
