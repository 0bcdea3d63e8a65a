import Derived.Test.YtioehjcdfhddcaaLgZ11
import Derived.Below
/-
  A seat: its table of functions; a closed law's walk.
-/
namespace Lg
open Go Go.RowKit
set_option linter.unusedVariables false
set_option linter.unusedSimpArgs false
set_option linter.unusedSectionVars false

/-- A row of a seat's table: number, the program's own number, is it read alone, annotations, code. -/
structure Row where
  g : Nat
  f : FuncId
  fz : Bool
  inl : Bool
  ann : Ann
  s : SFun
def findRow : List Row → Nat → Option Row
  | [], _ => none
  | r :: rs, g => if r.g = g then some r else findRow rs g
/-- Models by code, so many calls deep. -/
def modsR (T : List Row) : Nat → Nat → Option Sem1
  | 0, _ => none
  | k + 1, g => (findRow T g).map fun r => if r.inl then .inl r.s else .model r.fz (evFun (clOf (modsR T k) 3) r.s)
def isT : Option (D × List D) → Bool
  | some (.sc (.bool true), []) => true
  | _ => false
theorem isT_eq {o : Option (D × List D)} (h : isT o = true) : o = some (.sc (.bool true), []) := by
  unfold isT at h
  split at h
  · rfl
  · cases h
def numOf (ns : List Nat) : FuncId → Option Nat := fun f => ns[f]?
def fidOf (ns : List Nat) (g : Nat) : FuncId := ns.idxOf g
theorem num_fid {ns : List Nat} (hd : ns.Nodup) : ∀ f g, numOf ns f = some g → fidOf ns g = f := by
  intro f g h
  obtain ⟨hl, e⟩ := List.getElem?_eq_some_iff.1 h
  unfold fidOf
  rw [← e]
  exact List.Nodup.idxOf_getElem hd f hl
section
variable {P : Program} {ns : List Nat} {T : List Row}
def entered (P : Program) (f : FuncId) : Bool := match P.funcs[f]? with
  | some fn => !(fn.name == "runtime.NumGoroutine") && !fn.body.isNone
  | none => false
theorem entered_of {f : FuncId} (h : entered P f = true) : Entered P f := by
  unfold entered at h
  split at h
  · rename_i fn hf
    simp only [Bool.and_eq_true, Bool.not_eq_true'] at h
    exact ⟨fn, hf, h.1, h.2⟩
  · cases h
def RowOK (P : Program) (ns : List Nat) (r : Row) : Prop := entered P r.f = true ∧ fidOf ns r.g = r.f ∧ compF P (numOf ns) r.ann r.f = some r.s
theorem findRow_mem : ∀ {T : List Row} {g : Nat} {r : Row}, findRow T g = some r → r ∈ T ∧ r.g = g
  | [], g, r, h => by simp [findRow] at h
  | x :: T, g, r, h => by
    simp only [findRow] at h
    split at h
    · rename_i e; injection h with h; subst h; exact ⟨by simp, e⟩
    · obtain ⟨h1, h2⟩ := findRow_mem h; exact ⟨by simp [h1], h2⟩
theorem tab_sound (hd : ns.Nodup) (hmix : P.follows .mixedOrders = true) (hT : ∀ r, r ∈ T → RowOK P ns r) : ∀ k, TabOK P (numOf ns) (fidOf ns) (modsR T k) := by
  intro k
  induction k with
  | zero => intro f; exact ⟨fun fz m h => by simp [modsR] at h, fun s h => by simp [modsR] at h⟩
  | succ k ih =>
    intro f
    constructor
    · intro fz m h
      simp only [modsR] at h
      obtain ⟨r, hr, h⟩ := Option.map_eq_some_iff.1 h
      obtain ⟨hm, hg⟩ := findRow_mem hr
      obtain ⟨h1, h2, h3⟩ := hT r hm
      split at h
      · cases h
      · simp only [Sem1.model.injEq] at h
        obtain ⟨_, rfl⟩ := h
        rw [← hg, h2]
        exact ⟨entered_of h1, fun_sound (num_fid hd) hmix ih 3 h3⟩
    · intro s h
      simp only [modsR] at h
      obtain ⟨r, hr, h⟩ := Option.map_eq_some_iff.1 h
      obtain ⟨hm, hg⟩ := findRow_mem hr
      obtain ⟨h1, h2, h3⟩ := hT r hm
      split at h
      · simp only [Sem1.inl.injEq] at h
        subst h
        rw [← hg, h2]
        exact ⟨entered_of h1, r.ann, h3⟩
      · cases h
/-- A closed law. -/
theorem closed_walk {fid : Nat → FuncId} {f : FuncId} {m : List D → Option (D × List D)} (h : SoundFn P fid f m) (e : isT (m []) = true) (W : World) :
    Calls P f #[] W (fun e W' => e = .returned (.bool true) ∧ Below W.heap.size W W') := by
  refine Calls.mono (h [] _ [] (isT_eq e) W (fun _ _ => False) [] [] .nil List.nodup_nil (by simp)) fun e w' he => ?_
  obtain ⟨v, A', O', rfl, K, l, _, _⟩ := he
  cases l with
  | cons _ _ _ _ _ _ lv ls =>
    rw [lv.inv_bool.1]
    exact ⟨rfl, K.os, K.tape, K.output, K.size, fun k hk => K.blk k (by simp) hk⟩
end
end Lg
