import Derived.Test.YtmmbkjigflhmjaaGreatLgRi
/-
  Tab stops, and a map that tells them.
-/
namespace Go.Proofs.YtmmbkjigflhmjaaGreat.LgTab
open Go Lg
set_option linter.unusedVariables false
set_option linter.unusedSimpArgs false
set_option maxRecDepth 8000
def keysM (m : List (Int × Bool)) : List D := m.map fun x => I x.1
def valsM (m : List (Int × Bool)) : List D := m.map fun x => B x.2
def putM : List (Int × Bool) → Int → Bool → List (Int × Bool)
  | [], k, v => [(k, v)]
  | x :: m, k, v => if x.1 = k then (k, v) :: m else x :: putM m k v
def inM : List (Int × Bool) → Int → Bool
  | [], _ => false
  | x :: m, k => if x.1 = k then x.2 else inM m k
def ixM : List (Int × Bool) → Int → Option Nat
  | [], _ => none
  | x :: m, k => if x.1 = k then some 0 else (ixM m k).map (· + 1)
theorem inM_put (m : List (Int × Bool)) (a : Int) (b : Bool) (c : Int) : inM (putM m a b) c = if c = a then b else inM m c := by
  induction m with
  | nil =>
    by_cases h : a = c
    · subst h; simp [putM, inM]
    · have h' : ¬ c = a := fun e => h e.symm
      simp [putM, inM, h, h']
  | cons x m ih =>
    by_cases h1 : x.1 = a
    · by_cases h : a = c
      · subst h; simp [putM, inM, h1]
      · have h' : ¬ c = a := fun e => h e.symm
        simp [putM, inM, h, h', h1]
    · by_cases h2 : x.1 = c
      · have h' : ¬ c = a := fun e => h1 (h2.trans e)
        simp [putM, inM, h1, h2, h']
      · simp [putM, inM, h1, h2, ih]
theorem findK_M (m : List (Int × Bool)) (k : Int) : findK false [1] (I k) (keysM m) = some (ixM m k) := by
  induction m with
  | nil => rfl
  | cons x m ih =>
    have e : keysM (x :: m) = I x.1 :: keysM m := rfl
    rw [e]
    by_cases h : x.1 = k
    · subst h
      simp [findK, eqK, eqLeaves, eqLeaf, ixM]
    · have h' : ¬ k = x.1 := fun e => h e.symm
      simp [findK, eqK, eqLeaves, eqLeaf, ixM, h, h', ih]
theorem putK_M (m : List (Int × Bool)) (k : Int) (v : Bool) : putK (ixM m k) (keysM m) (valsM m) (I k) (B v) = .mpo (keysM (putM m k v)) (valsM (putM m k v)) := by
  induction m with
  | nil => rfl
  | cons x m ih =>
    by_cases h : x.1 = k
    · simp [ixM, putM, h, putK, keysM, valsM]
    · cases hi : ixM m k with
      | none =>
        rw [hi] at ih
        simp only [putK, Ob.mpo.injEq] at ih
        simp only [ixM, h, if_false, hi, Option.map_none, putM, putK, keysM, valsM, List.map_cons] at ih ⊢
        rw [← ih.1, ← ih.2]
        rfl
      | some i =>
        rw [hi] at ih
        simp only [putK, Ob.mpo.injEq] at ih
        simp only [ixM, h, if_false, hi, Option.map_some, putM, putK, keysM, valsM, List.map_cons] at ih ⊢
        rw [← ih.1, ← ih.2]
        rfl
theorem getK_M (m : List (Int × Bool)) (k : Int) : getK false (B false) (valsM m) (ixM m k) = some (B (inM m k)) := by
  induction m with
  | nil => rfl
  | cons x m ih =>
    by_cases h : x.1 = k
    · simp [ixM, inM, h, getK, valsM]
    · cases hi : ixM m k with
      | none =>
        rw [hi] at ih
        simp only [ixM, h, if_false, hi, Option.map_none, inM] at ih ⊢
        exact ih
      | some i =>
        rw [hi] at ih
        simp only [ixM, h, if_false, hi, Option.map_some, inM, getK, valsM, List.map_cons] at ih ⊢
        exact ih
theorem find_congr {α : Type} {p q : α → Bool} : ∀ {l : List α}, (∀ x, x ∈ l → p x = q x) → l.find? p = l.find? q
  | [], _ => rfl
  | x :: l, h => by
    rw [List.find?_cons, List.find?_cons, h x (by simp), find_congr fun y hy => h y (by simp [hy])]
theorem nextT_skip {t c : Nat} {w : Int} (h : hasT t c = false) : nextT t ((c : Int) - 1) w = nextT t c w := by
  unfold nextT
  congr 1
  apply find_congr
  intro x hx
  unfold tabL tabTo at hx
  simp only [List.mem_map, List.mem_filter, List.mem_range] at hx
  obtain ⟨d, ⟨hd, ht⟩, rfl⟩ := hx
  have hne : d ≠ c := by
    rintro rfl
    rw [h] at ht
    cases ht
  have e : decide ((c : Int) - 1 < (d : Int)) = decide ((c : Int) < (d : Int)) := by
    apply decide_eq_decide.2
    omega
  rw [e]
/-- What the map tells of the stop behind column w - 1 - j. -/
def wantJ (m : List (Int × Bool)) (w : Nat) : Nat → Int
  | 0 => (w : Int) - 1
  | j + 1 => if inM m ((w : Int) - 1 - j) = true then (w : Int) - 1 - j else wantJ m w j
theorem wantJ_b (m : List (Int × Bool)) (w : Nat) : ∀ j, j + 1 ≤ w → (w : Int) - 1 - j ≤ wantJ m w j ∧ (0 < j → (w : Int) - j ≤ wantJ m w j) ∧ wantJ m w j ≤ (w : Int) - 1
  | 0, _ => by
    have e : wantJ m w 0 = (w : Int) - 1 := rfl
    rw [e]
    omega
  | j + 1, h => by
    have ih := wantJ_b m w j (by omega)
    have e : wantJ m w (j + 1) = if inM m ((w : Int) - 1 - j) = true then (w : Int) - 1 - j else wantJ m w j := rfl
    rw [e]
    by_cases hb : inM m ((w : Int) - 1 - j) = true
    · rw [if_pos hb]; omega
    · rw [if_neg hb]; omega
theorem next_want {t : Nat} {m : List (Int × Bool)} {w : Nat} (hw : 1 ≤ w) (h64 : w ≤ 60) (h : ∀ c : Nat, c < w → hasT t c = inM m c) : ∀ j, j + 1 ≤ w → nextT t ((w : Int) - 1 - j) w = wantJ m w j
  | 0, _ => by
    unfold wantJ
    exact nextT_none fun c _ _ => by omega
  | j + 1, hj => by
    have ih := next_want hw h64 h j (by omega)
    obtain ⟨c, hc⟩ : ∃ c : Nat, c = w - 1 - j := ⟨_, rfl⟩
    have ec : (w : Int) - 1 - j = (c : Int) := by omega
    have ec1 : (w : Int) - 1 - ((j + 1 : Nat) : Int) = (c : Int) - 1 := by omega
    unfold wantJ
    rw [ec1, ec, ← h c (by omega)]
    rw [ec] at ih
    cases hb : hasT t c with
    | true =>
      rw [if_pos rfl]
      exact nextT_some (by omega) hb (by omega) (by omega) fun d hd _ => by omega
    | false =>
      rw [if_neg (by simp), nextT_skip hb, ih]
/-- What is told of stops: set, and dropped. -/
theorem stops_0 (w : Nat) (h64 : w ≤ 60) : ∀ c : Nat, c < w → hasT 0 c = inM [] c := fun c hc => hasT_0 c (by omega)
theorem stops_put {t : Nat} {m : List (Int × Bool)} {w a : Nat} (h64 : w ≤ 60) (ha : a < w) (h : ∀ c : Nat, c < w → hasT t c = inM m c) : ∀ c : Nat, c < w → hasT (t ||| bitN a) c = inM (putM m a true) c := by
  intro c hc
  rw [hasT_put t a c (by omega) (by omega), inM_put, h c hc]
  by_cases e : a = c
  · subst e; simp
  · have e' : ¬ (c : Int) = (a : Int) := by omega
    simp [e, e']
theorem stops_drop {t : Nat} {m : List (Int × Bool)} {w a : Nat} (ht : t < 2 ^ 64) (h64 : w ≤ 60) (ha : a < w) (h : ∀ c : Nat, c < w → hasT t c = inM m c) : ∀ c : Nat, c < w → hasT (dropN t (bitN a)) c = inM (putM m a false) c := by
  intro c hc
  rw [hasT_drop t a c ht (by omega) (by omega), inM_put, h c hc]
  by_cases e : a = c
  · subst e; simp
  · have e' : ¬ (c : Int) = (a : Int) := by omega
    simp [e, e']
end Go.Proofs.YtmmbkjigflhmjaaGreat.LgTab
