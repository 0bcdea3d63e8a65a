import Derived.Test.YtflnllohghgpdaaLgN1
import Derived.Below
/-
  A seat: its table of functions; a closed law's walk.
-/
namespace Lg
open Go Go.RowKit
set_option linter.unusedVariables false
set_option linter.unusedSimpArgs false
set_option linter.unusedSectionVars false

/-- What stands in a row: code, code that is walked into, code that asks for nil, a contract of its own. -/
inductive RK where
  | fn (s : SFun)
  | inl (s : SFun)
  | own (s : SFun)
  | nil (s : NFun)
  | ext (m : List D → Option (D × List D))
/-- A row of a seat's table: number, the program's own number, is it read alone, annotations, code. -/
structure Row where
  g : Nat
  f : FuncId
  fz : Bool
  ann : Ann
  k : RK
def findRow : List Row → Nat → Option Row
  | [], _ => none
  | r :: rs, g => if r.g = g then some r else findRow rs g
def semR (M : Nat → Option Sem1) (r : Row) : Sem1 := match r.k with
  | .fn s => .model r.fz (evFun (clOf M 3) s)
  | .inl s => .inl s
  | .own s => .modelO (evFun (clOf M 3) s)
  | .nil s => .model r.fz (evNil (clOf M 3) s)
  | .ext m => .model r.fz m
/-- Models by code, so many calls deep. -/
def modsR (T : List Row) : Nat → Nat → Option Sem1
  | 0, _ => none
  | k + 1, g => (findRow T g).map (semR (modsR T k))
def isT : Option (D × List D) → Bool
  | some (.sc (.bool true), []) => true
  | _ => false
theorem isT_eq {o : Option (D × List D)} (h : isT o = true) : o = some (.sc (.bool true), []) := by
  unfold isT at h
  split at h
  · rfl
  · cases h
def numOf (ns : List Nat) : FuncId → Option Nat := fun f => ns[f]?
def fidOf (ns : List Nat) (g : Nat) : FuncId := ns.idxOf g
theorem num_fid {ns : List Nat} (hd : ns.Nodup) : ∀ f g, numOf ns f = some g → fidOf ns g = f := by
  intro f g h
  obtain ⟨hl, e⟩ := List.getElem?_eq_some_iff.1 h
  unfold fidOf
  rw [← e]
  exact List.Nodup.idxOf_getElem hd f hl
section
variable {P : Program} {ns : List Nat} {T : List Row}
def entered (P : Program) (f : FuncId) : Bool := match P.funcs[f]? with
  | some fn => !(fn.name == "runtime.NumGoroutine") && !fn.body.isNone
  | none => false
theorem entered_of {f : FuncId} (h : entered P f = true) : Entered P f := by
  unfold entered at h
  split at h
  · rename_i fn hf
    simp only [Bool.and_eq_true, Bool.not_eq_true'] at h
    exact ⟨fn, hf, h.1, h.2⟩
  · cases h
def RowOK (P : Program) (ns : List Nat) (r : Row) : Prop := entered P r.f = true ∧ fidOf ns r.g = r.f ∧ match r.k with
  | .fn s => compF P (numOf ns) r.ann r.f = some s
  | .inl s => compF P (numOf ns) r.ann r.f = some s
  | .own s => compF P (numOf ns) r.ann r.f = some s
  | .nil s => compN P (numOf ns) r.ann r.f = some s
  | .ext m => SoundFn P (fidOf ns) r.f m
theorem findRow_mem : ∀ {T : List Row} {g : Nat} {r : Row}, findRow T g = some r → r ∈ T ∧ r.g = g
  | [], g, r, h => by simp [findRow] at h
  | x :: T, g, r, h => by
    simp only [findRow] at h
    split at h
    · rename_i e; injection h with h; subst h; exact ⟨by simp, e⟩
    · obtain ⟨h1, h2⟩ := findRow_mem h; exact ⟨by simp [h1], h2⟩
theorem tab_sound (hd : ns.Nodup) (hmix : P.follows .mixedOrders = true) (hT : ∀ r, r ∈ T → RowOK P ns r) : ∀ k, TabOK P (numOf ns) (fidOf ns) (modsR T k) := by
  intro k
  induction k with
  | zero => intro f; exact ⟨fun m h => by rcases h with ⟨fz, h⟩ | h <;> simp [modsR] at h, fun s h => by simp [modsR] at h⟩
  | succ k ih =>
    intro f
    constructor
    · intro m h
      have h' : ∃ r, findRow T f = some r ∧ ((∃ fz, semR (modsR T k) r = .model fz m) ∨ semR (modsR T k) r = .modelO m) := by
        rcases h with ⟨fz, h⟩ | h
        · simp only [modsR] at h
          obtain ⟨r, hr, h⟩ := Option.map_eq_some_iff.1 h
          exact ⟨r, hr, .inl ⟨fz, h⟩⟩
        · simp only [modsR] at h
          obtain ⟨r, hr, h⟩ := Option.map_eq_some_iff.1 h
          exact ⟨r, hr, .inr h⟩
      obtain ⟨r, hr, h⟩ := h'
      obtain ⟨hm, hg⟩ := findRow_mem hr
      obtain ⟨h1, h2, h3⟩ := hT r hm
      rw [← hg, h2]
      refine ⟨entered_of h1, ?_⟩
      unfold semR at h
      cases hk : r.k with
      | fn s =>
        rw [hk] at h h3
        simp only [Sem1.model.injEq, reduceCtorEq, or_false] at h
        obtain ⟨_, _, rfl⟩ := h
        exact fun_sound (num_fid hd) hmix ih 3 h3
      | inl s => rw [hk] at h; simp at h
      | own s =>
        rw [hk] at h h3
        simp only [Sem1.modelO.injEq, reduceCtorEq, exists_const, false_or] at h
        subst h
        exact fun_sound (num_fid hd) hmix ih 3 h3
      | nil s =>
        rw [hk] at h h3
        simp only [Sem1.model.injEq, reduceCtorEq, or_false] at h
        obtain ⟨_, _, rfl⟩ := h
        exact evNil_sound (num_fid hd) hmix ih 3 h3
      | ext m' =>
        rw [hk] at h h3
        simp only [Sem1.model.injEq, reduceCtorEq, or_false] at h
        obtain ⟨_, _, rfl⟩ := h
        exact h3
    · intro s h
      simp only [modsR] at h
      obtain ⟨r, hr, h⟩ := Option.map_eq_some_iff.1 h
      obtain ⟨hm, hg⟩ := findRow_mem hr
      obtain ⟨h1, h2, h3⟩ := hT r hm
      rw [← hg, h2]
      refine ⟨entered_of h1, ?_⟩
      unfold semR at h
      cases hk : r.k with
      | inl s' =>
        rw [hk] at h h3
        simp only [Sem1.inl.injEq] at h
        subst h
        exact ⟨r.ann, h3⟩
      | _ => rw [hk] at h; cases h
/-- A closed law. -/
theorem closed_walk {fid : Nat → FuncId} {f : FuncId} {m : List D → Option (D × List D)} (h : SoundFn P fid f m) (e : isT (m []) = true) (W : World) :
    Calls P f #[] W (fun e W' => e = .returned (.bool true) ∧ Below W.heap.size W W') := by
  refine Calls.mono (h [] _ [] (isT_eq e) W (fun _ _ => False) [] [] .nil List.nodup_nil (by simp)) fun e w' he => ?_
  obtain ⟨v, A', O', rfl, K, l, _, _⟩ := he
  cases l with
  | cons _ _ _ _ _ _ lv ls =>
    rw [lv.inv_bool.1]
    exact ⟨rfl, K.os, K.tape, K.output, K.size, fun k hk => K.blk k (by simp) hk⟩
end
end Lg
