import Derived.Test.YtflnllohghgpdaaLgO1
/-
  A row's arguments, told over data; an open law's walk.
-/
namespace Lg
open Go Go.RowKit
set_option linter.unusedVariables false
set_option linter.unusedSimpArgs false
set_option linter.unusedSectionVars false

/-- A value of a shape. -/
def FitsV (s : Sh) (d : D) : Prop := Fits s d.cells ∧ ((∃ fs, s = .st fs) → ∃ cs, d = .agg cs) ∧ ((∀ fs, s ≠ .st fs) → d.cells = [d])
inductive FitsA : List Sh → List D → Prop
  | nil : FitsA [] []
  | cons (s : Sh) (ss : List Sh) (d : D) (ds : List D) (h : FitsV s d) (hs : FitsA ss ds) : FitsA (s :: ss) (d :: ds)
section
variable {H : Type} {enc : TypeId × Value → H} {P : Program} {fid : Nat → FuncId} {w : World}
theorem val_fits {r : Reach} {base n : Nat} {t : TypeId} {s : Sh} {v : Value} {d : DataW H} {p : List MemPlace} (hs : shapeT P n t = some s) (hv : Value.okWide P w r base t v) (ht : DataW.Trod enc P w 0 (fun _ => true) true t v d p) :
    ∃ e, LV fid w Av0 Io0 false v e [] ∧ FitsV s e := by
  obtain ⟨fuel, ht⟩ := ht
  obtain ⟨ds, l, f, o⟩ := trod_fits (fid := fid) n fuel t s _ d p hs ht
  have scalar : (∀ fs, s ≠ .st fs) → v.cells = #[v] → ∃ e, LV fid w Av0 Io0 false v e [] ∧ FitsV s e := by
    intro hn hc
    obtain ⟨e, rfl, h1, h2, h3⟩ := f.one hn
    rw [hc] at l
    refine ⟨e, l.uncons.1, ?_, fun ⟨fs, h⟩ => (hn fs h).elim, fun _ => h1⟩
    rw [h1]; exact f
  have big : (∃ fs, s = .st fs) → (∃ cs, v = .agg cs) → ∃ e, LV fid w Av0 Io0 false v e [] ∧ FitsV s e := by
    rintro ⟨fs, rfl⟩ ⟨cs, rfl⟩
    exact ⟨.agg ds, .agg cs.toList ds [] l, f, fun _ => ⟨ds, rfl⟩, fun h => (h fs rfl).elim⟩
  cases n with
  | zero => simp [shapeT] at hs
  | succ n =>
    unfold shapeT at hs
    unfold Value.okWide at hv
    have sc : ∀ u, P.underlying t = some u → (u = .bool ∨ (∃ k, u = .int k) ∨ u = .string ∨ ∃ e, u = .slice e) → v.cells = #[v] := by
      intro u hu hh
      rw [hu] at hv
      have na : (∀ cs, v ≠ .agg cs) ∧ (∀ cs, v ≠ .tuple cs) := by
        constructor <;> (intro cs e; subst e; rcases hh with rfl | ⟨k, rfl⟩ | rfl | ⟨e, rfl⟩ <;> (unfold Cell.okWide at hv; rw [hu] at hv; unfold Cell.ok at hv; rw [hu] at hv; exact hv))
      cases v <;> first | rfl | exact absurd rfl (na.1 _)
    split at hs
    · rename_i hu; injection hs with hs; subst hs; exact scalar (by simp) (sc _ hu (.inl rfl))
    · rename_i k hu; injection hs with hs; subst hs; exact scalar (by simp) (sc _ hu (.inr (.inl ⟨k, rfl⟩)))
    · rename_i hu; injection hs with hs; subst hs; exact scalar (by simp) (sc _ hu (.inr (.inr (.inl rfl))))
    · rename_i e hu; obtain ⟨se, _, rfl⟩ := Option.map_eq_some_iff.1 hs; exact scalar (by simp) (sc _ hu (.inr (.inr (.inr ⟨e, rfl⟩))))
    · rename_i fs hu
      obtain ⟨q, _, hs⟩ := Option.bind_eq_some_iff.1 hs
      split at hs
      · injection hs with hs; subst hs
        rw [hu] at hv
        obtain ⟨cs, e, _⟩ := hv
        exact big ⟨_, rfl⟩ ⟨cs, e⟩
      · cases hs
    · rename_i m e hu
      split at hs
      · obtain ⟨se, _, rfl⟩ := Option.map_eq_some_iff.1 hs
        rw [hu] at hv
        obtain ⟨cs, e, _⟩ := hv
        exact big ⟨_, rfl⟩ ⟨cs, e⟩
      · cases hs
    · cases hs
theorem args_fit {r : Reach} {base n : Nat} : ∀ (ts : List TypeId) (args : List Value) (ds : List (DataW H)) (p : List MemPlace) (shs : List Sh), ts.mapM (shapeT P n) = some shs → DataW.TrodAll enc P w 0 (fun _ => true) true ts args ds p →
    (∀ (j : Nat) t v, ts[j]? = some t → args[j]? = some v → Value.okWide P w r base t v) → ∃ es, LVs fid w Av0 Io0 false args es [] ∧ FitsA shs es
  | [], [], ds, p, shs, hs, ht, hv => by simp at hs; subst hs; exact ⟨[], .nil, .nil⟩
  | [], _ :: _, ds, p, shs, hs, ht, hv => by cases ds <;> simp [DataW.TrodAll] at ht
  | t :: ts, [], ds, p, shs, hs, ht, hv => by cases ds <;> simp [DataW.TrodAll] at ht
  | t :: ts, v :: args, [], p, shs, hs, ht, hv => by simp [DataW.TrodAll] at ht
  | t :: ts, v :: args, d :: ds, p, shs, hs, ht, hv => by
    rw [List.mapM_cons] at hs
    obtain ⟨s, h1, hs⟩ := Option.bind_eq_some_iff.1 hs
    obtain ⟨ss, h2, hs⟩ := Option.bind_eq_some_iff.1 hs
    simp only [pure, Option.some.injEq] at hs
    subst hs
    obtain ⟨p1, p2, t1, t2, _⟩ := ht
    obtain ⟨e, l, f⟩ := val_fits (fid := fid) h1 (hv 0 t v rfl rfl) t1
    obtain ⟨es, ls, fs⟩ := args_fit ts args ds p2 ss h2 t2 (fun j t v a b => hv (j + 1) t v (by simpa using a) (by simpa using b))
    exact ⟨e :: es, LVs.cons' l ls, .cons s ss e es f fs⟩
/-- An open law. -/
theorem open_walk {f : FuncId} {m : List D → Option (D × List D)} (h : SoundFn P fid f m) {W : World} {args : Array Value} {es : List D} (l : LVs fid W Av0 Io0 false args.toList es []) (e : m es = some (.sc (.bool true), [])) :
    Calls P f args W (fun e W' => e = .returned (.bool true) ∧ Below W.heap.size W W') := by
  refine Calls.mono (h es _ [] e W Av0 args.toList [] l List.nodup_nil (by simp)) fun e w' he => ?_
  obtain ⟨v, A', O', rfl, K, l', _, _⟩ := he
  cases l' with
  | cons _ _ _ _ _ _ lv ls =>
    rw [lv.inv_bool.1]
    exact ⟨rfl, K.os, K.tape, K.output, K.size, fun k hk => K.blk k (by simp) hk⟩
end
end Lg
