import Derived.Test.YtflnllohghgpdaaLgB2
/-
  The evaluator, told for a walk by rewriting: guards and branches that hang on what is not known are split as 'if'.
-/
namespace Lg
open Go
set_option linter.unusedVariables false
set_option linter.unusedSimpArgs false

section
variable {α : Type} {cl : Cl} {E : Env} {H : List Ob}
/-- What a guarded operation does. -/
def gdK (d : D) (b : Bool) (A S : Option α) : Option α := match d with
  | .sc (.bool x) => if x = b then A else S
  | .tup [] => S
  | _ => none
theorem gdK_B {x b : Bool} {A S : Option α} : gdK (.sc (.bool x)) b A S = if x = b then A else S := Eq.trans rfl rfl
theorem gdK_tup {b : Bool} {A S : Option α} : gdK (.tup []) b A S = S := Eq.trans rfl rfl
theorem gd_eq {t : Nat} {b : Bool} {A S : Option α} : (match wanted E (some (t, b)) with | some true => A | some false => S | none => none) = gdK (lk E t) b A S := by
  simp only [wanted]
  generalize lk E t = d
  cases d with
  | sc v =>
    cases v with
    | bool x => cases x <;> cases b <;> rfl
    | _ => rfl
  | tup ds => cases ds <;> rfl
  | _ => rfl
def putX (E : Env) (op : SOp) (r : D × Option (Nat × Ob)) : D × Option Nat × Option (Nat × Ob) := (r.1, eats E op, r.2)
theorem putX_ap {op : SOp} {d : D} {u : Option (Nat × Ob)} : putX E op (d, u) = (d, eats E op, u) := Eq.trans rfl rfl
theorem stepX_0 {dst : Option Nat} {op : SOp} : stepX cl ⟨dst, op, none⟩ E H = (evX cl.r E H op).map (putX E op) := Eq.trans rfl rfl
theorem stepX_g {dst : Option Nat} {op : SOp} {t : Nat} {b : Bool} : stepX cl ⟨dst, op, some (t, b)⟩ E H = gdK (lk E t) b ((evX cl.r E H op).map (putX E op)) (some (.tup [], none, none)) := by
  rw [← gd_eq]
  rfl
def putS (dst : Option Nat) (E : Env) (H : List Ob) (r : D × Option Nat × Option (Nat × Ob)) : Env × List Ob := match dst with
  | none => (putE r.2.1 .un E, putH r.2.2 H)
  | some t => let u := unf r.1 (putH r.2.2 H); ((t, u.1) :: putE r.2.1 .un E, u.2)
theorem putS_none {d : D} {e : Option Nat} {u : Option (Nat × Ob)} : putS none E H (d, e, u) = (putE e .un E, putH u H) := Eq.trans rfl rfl
theorem putS_some {t : Nat} {d : D} {e : Option Nat} {u : Option (Nat × Ob)} : putS (some t) E H (d, e, u) = ((t, (unf d (putH u H)).1) :: putE e .un E, (unf d (putH u H)).2) := Eq.trans rfl rfl
def putC (dst : Option Nat) (E : Env) (r : D × List Ob) : Env × List Ob := (putE dst r.1 E, r.2)
theorem putC_ap {dst : Option Nat} {d : D} {H' : List Ob} : putC dst E (d, H') = (putE dst d E, H') := Eq.trans rfl rfl
theorem stepO_0 {dst : Option Nat} {op : SOp} : stepO cl ⟨dst, op, none⟩ E H = if isCall op = true then (evCall cl.w E H op).map (putC dst E) else (stepX cl ⟨dst, op, none⟩ E H).map (putS dst E H) := by
  unfold stepO
  cases isCall op <;> rfl
theorem stepO_g {dst : Option Nat} {op : SOp} {t : Nat} {b : Bool} : stepO cl ⟨dst, op, some (t, b)⟩ E H =
    if isCall op = true then gdK (lk E t) b ((evCall cl.w E H op).map (putC dst E)) (some (putE dst (.tup []) E, H)) else (stepX cl ⟨dst, op, some (t, b)⟩ E H).map (putS dst E H) := by
  unfold stepO
  rw [← gd_eq]
  cases isCall op <;> rfl
theorem condK_B {R : Type} {k : Ex → Env → List Ob → Option R} {a b : SCode} {x : Bool} : condK cl a b E H k (.sc (.bool x)) = if x = true then evB cl a E H k else evB cl b E H k := Eq.trans rfl rfl
end
/-! what stands at either end of an 'if' -/
section
variable {α β : Type} {p : Prop} [Decidable p]
theorem bind_ite {a b : Option α} {f : α → Option β} : (if p then a else b).bind f = if p then a.bind f else b.bind f := by split <;> rfl
theorem map_ite {a b : Option α} {f : α → β} : (if p then a else b).map f = if p then a.map f else b.map f := by split <;> rfl
end
end Lg
