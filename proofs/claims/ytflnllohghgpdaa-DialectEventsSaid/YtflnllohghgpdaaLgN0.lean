import Derived.Test.YtflnllohghgpdaaLgZ10
/-
  Functions that are walked into where calls are in no order: those that look into nothing of their caller's.
-/
namespace Lg
open Go
set_option linter.unusedVariables false
set_option linter.unusedSimpArgs false
set_option linter.unusedSectionVars false

section
variable {fid : Nat → FuncId} {w : World} {A : Av} {ι ι' : Io}
theorem idsDs_mem {d : D} {ds : List D} {i : Nat} (h : i ∈ idsD d) : i ∈ idsDs (d :: ds) := by simp [idsDs, h]
theorem idsDs_tail {d : D} {ds : List D} {i : Nat} (h : i ∈ idsDs ds) : i ∈ idsDs (d :: ds) := by simp [idsDs, h]
theorem LV.turn_both :
    (∀ {r : Bool} {v : Value} {d : D} {O : List Nat}, LV fid w A ι r v d O → Lg.noTree d = true → (∀ i q, i ∈ idsD d → ι i = some q → ι' i = some q) → LV fid w A ι' r v d O) ∧
    (∀ {r : Bool} {vs : List Value} {ds : List D} {O : List Nat}, LVs fid w A ι r vs ds O → Lg.noTrees ds = true → (∀ i q, i ∈ idsDs ds → ι i = some q → ι' i = some q) → LVs fid w A ι' r vs ds O) := by
  have key : ∀ {r : Bool} {v : Value} {d : D} {O : List Nat}, LV fid w A ι r v d O → Lg.noTree d = true → (∀ i q, i ∈ idsD d → ι i = some q → ι' i = some q) → LV fid w A ι' r v d O := by
    intro r v d O h
    refine LV.rec (motive_1 := fun r v d O _ => Lg.noTree d = true → (∀ i q, i ∈ idsD d → ι i = some q → ι' i = some q) → LV fid w A ι' r v d O) (motive_2 := fun r vs ds O _ => Lg.noTrees ds = true → (∀ i q, i ∈ idsDs ds → ι i = some q → ι' i = some q) → LVs fid w A ι' r vs ds O)
      ?_ ?_ ?_ ?_ ?_ ?_ ?_ ?_ ?_ ?_ ?_ ?_ ?_ ?_ ?_ ?_ ?_ ?_ ?_ h
    · intro r v h _ _; exact .sc v h
    · intro r v _ _; exact .un v
    · intro r v h _ _; exact .uk v h
    · intro r _ _; exact .nl
    · intro r a _ _; exact .sn a
    · intro r f vs ds O _ ih n e; exact .fn f vs ds O (ih (by simpa [Lg.noTree] using n) fun i q hi => e i q (by simpa [idsD] using hi))
    · intro r vs ds O _ ih n e; exact .agg vs ds O (ih (by simpa [Lg.noTree] using n) fun i q hi => e i q (by simpa [idsD] using hi))
    · intro r vs ds O _ ih n e; exact .tup vs ds O (ih (by simpa [Lg.noTree] using n) fun i q hi => e i q (by simpa [idsD] using hi))
    · intro r a n cap sz ds vs hn hc hu h h1 hr ih _ _; exact .sl a n cap sz ds vs hn hc hu h.weak h1 hr
    · intro r ad ds vs h h1 hr ih _ _; exact .ep ad ds vs h.weak h1 hr
    · intro r a wr sz _ _; exact .osln a wr sz
    · intro r b cap sz wr ds vs cs T fr hb hf hu h h1 hr hc hs ha hA ih _ _
      exact .osl b cap sz wr ds vs cs T fr hb hf hu h.weak h1 hr hc hs ha hA
    · intro r b vs ds O T fr hb hf h h1 hA ih n; simp [Lg.noTree] at n
    · intro r b es c ks xs hb h1 h2 hA ih1 ih2 n; simp [Lg.noTree] at n
    · intro a id sz off len cap q hi h0 h1 _ e; exact .rf a id sz off len cap q (e id q (by simp [idsD]) hi) h0 h1
    · intro id sz e off b hi _ e'; exact .pt id sz e off b (e' id _ (by simp [idsD]) hi)
    · intro id b hi _ e; exact .mp id b (e id _ (by simp [idsD]) hi)
    · intro r _ _; exact .nil
    · intro r v d O vs ds Os _ _ ih1 ih2 n e
      simp only [Lg.noTrees, Bool.and_eq_true] at n
      exact .cons v d O vs ds Os (ih1 n.1 fun i q hi => e i q (idsDs_mem hi)) (ih2 n.2 fun i q hi => e i q (idsDs_tail hi))
  refine ⟨key, ?_⟩
  intro r vs
  induction vs with
  | nil => intro ds O h _ _; cases h; exact .nil
  | cons v vs ih =>
    intro ds O h n e
    cases h with
    | cons _ d O1 _ ds O2 h hs =>
      simp only [Lg.noTrees, Bool.and_eq_true] at n
      exact .cons v d O1 vs ds O2 (key h n.1 fun i q hi => e i q (idsDs_mem hi)) (ih hs n.2 fun i q hi => e i q (idsDs_tail hi))
theorem LV.has_both :
    (∀ {r : Bool} {v : Value} {d : D} {O : List Nat}, LV fid w A ι r v d O → ∀ i, i ∈ idsD d → ∃ q, ι i = some q) ∧
    (∀ {r : Bool} {vs : List Value} {ds : List D} {O : List Nat}, LVs fid w A ι r vs ds O → ∀ i, i ∈ idsDs ds → ∃ q, ι i = some q) := by
  have key : ∀ {r : Bool} {v : Value} {d : D} {O : List Nat}, LV fid w A ι r v d O → ∀ i, i ∈ idsD d → ∃ q, ι i = some q := by
    intro r v d O h
    refine LV.rec (motive_1 := fun r v d O _ => ∀ i, i ∈ idsD d → ∃ q, ι i = some q) (motive_2 := fun r vs ds O _ => ∀ i, i ∈ idsDs ds → ∃ q, ι i = some q)
      ?_ ?_ ?_ ?_ ?_ ?_ ?_ ?_ ?_ ?_ ?_ ?_ ?_ ?_ ?_ ?_ ?_ ?_ ?_ h
    · intro r v h i hi; simp [idsD] at hi
    · intro r v i hi; simp [idsD] at hi
    · intro r v h i hi; simp [idsD] at hi
    · intro r i hi; simp [idsD] at hi
    · intro r a i hi; simp [idsD] at hi
    · intro r f vs ds O _ ih i hi; exact ih i (by simpa [idsD] using hi)
    · intro r vs ds O _ ih i hi; exact ih i (by simpa [idsD] using hi)
    · intro r vs ds O _ ih i hi; exact ih i (by simpa [idsD] using hi)
    · intro r a n cap sz ds vs hn hc hu h h1 hr ih i hi; simp [idsD] at hi
    · intro r ad ds vs h h1 hr ih i hi; simp [idsD] at hi
    · intro r a wr sz i hi; simp [idsD] at hi
    · intro r b cap sz wr ds vs cs T fr hb hf hu h h1 hr hc hs ha hA ih i hi; simp [idsD] at hi
    · intro r b vs ds O T fr hb hf h h1 hA ih i hi; simp [idsD] at hi
    · intro r b es c ks xs hb h1 h2 hA ih1 ih2 i hi; simp [idsD] at hi
    · intro a id sz off len cap q hi h0 h1 i hi'; simp [idsD] at hi'; subst hi'; exact ⟨q, hi⟩
    · intro id sz e off b hi i hi'; simp [idsD] at hi'; subst hi'; exact ⟨_, hi⟩
    · intro id b hi i hi'; simp [idsD] at hi'; subst hi'; exact ⟨_, hi⟩
    · intro r i hi; simp [idsDs] at hi
    · intro r v d O vs ds Os _ _ ih1 ih2 i hi
      simp only [idsDs, List.mem_append] at hi
      rcases hi with hi | hi
      · exact ih1 i hi
      · exact ih2 i hi
  refine ⟨key, ?_⟩
  intro r vs
  induction vs with
  | nil => intro ds O h i hi; cases h; simp [idsDs] at hi
  | cons v vs ih =>
    intro ds O h i hi
    cases h with
    | cons _ d O1 _ ds O2 h hs =>
      simp only [idsDs, List.mem_append] at hi
      rcases hi with hi | hi
      · exact key h i hi
      · exact ih hs i hi
end
theorem lt_bound : ∀ {ns : List Nat} {i : Nat}, i ∈ ns → i < bound ns
  | n :: ns, i, h => by
    rcases List.mem_cons.1 h with e | e
    · subst e; simp only [bound]; exact Nat.lt_of_lt_of_le (Nat.lt_succ_self _) (Nat.le_max_left _ _)
    · exact Nat.lt_of_lt_of_le (lt_bound e) (Nat.le_max_right _ _)
theorem obAt_deads (n i : Nat) : obAt (deads n) i = .dead := by
  unfold obAt deads
  rw [List.getElem?_replicate]
  split <;> rfl
end Lg
