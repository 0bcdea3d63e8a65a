import Derived.Test.YtflnllohghgpdaaLgB1
/-
  Drawn regions in which nothing is turned between two barriers: no log is needed.
-/
namespace Lg
open Go
set_option linter.unusedVariables false
set_option linter.unusedSimpArgs false

/-- Operations that turn no object. -/
def quietOp : SOp → Bool
  | .mv _ | .pick .. | .alloc _ | .box .. | .build .. | .load .. | .nilc _ | .bin .. | .binb .. | .eqa .. | .eqn .. | .una .. | .cvi .. | .cvs _ | .fad .. | .fld .. | .ixs .. | .ixa .. | .ixt .. | .ixg .. | .ext .. | .len _ | .slc .. | .sls .. | .mx _ | .mn _ => true
  | .call true _ _ | .callr _ _ => true
  | _ => false
theorem quiet_none {cl : Nat → List D → List Ob → Option D} {E : Env} {H : List Ob} {op : SOp} {d : D} {u : Option (Nat × Ob)} (h : quietOp op = true) (e : evX cl E H op = some (d, u)) : u = none := by
  cases op
  case call q f xs =>
    cases q
    · simp [quietOp] at h
    · simp only [evX, Option.map_eq_some_iff] at e
      obtain ⟨a, _, e⟩ := e
      injection e with _ e
      exact e.symm
  all_goals first
    | (simp only [quietOp, Bool.false_eq_true] at h; done)
    | (simp only [evX, Option.map_eq_some_iff, Option.bind_eq_some_iff] at e; grind)
    | (simp only [evX] at e; repeat' split at e
       all_goals first | (cases e; done) | (simp only [Option.map_eq_some_iff, Option.bind_eq_some_iff, Option.some.injEq, Prod.mk.injEq] at e; grind [Option.map_eq_some_iff]))
/-- A drawn region in which nothing is turned but at barriers, and each looks back no farther than the last one: so many operations since. -/
def quietReg : Nat → List (List Nat × Bool × SOper) → Bool
  | _, [] => true
  | n, (un, bar, o) :: os => if bar then quietReg 0 os else quietOp o.op && !isCall o.op && un.all (fun i => decide (i < n)) && quietReg (n + 1) os
def stepsQ (cl : Cl) : List (List Nat × Bool × SOper) → List Nat → Env → List Ob → Option (Env × List Ob)
  | [], ps, E, H => some (settle ps E H)
  | (un, bar, o) :: os, ps, E, H =>
    if bar then (let s := settle ps E H; (stepO cl o s.1 s.2).bind fun r => stepsQ cl os [] r.1 r.2)
    else (stepX cl o E H).bind fun r => stepsQ cl os (ps ++ o.dst.toList) (putE o.dst r.1 (putE r.2.1 .un E)) H
def calm (lg : Log) : Prop := ∀ l, l ∈ lg → l.2.1 = [] ∧ l.2.2 ≠ 2
theorem apart_nil (xs : List Nat) : apart xs [] = true := by
  unfold apart
  simp
theorem calm_clash {lg : Log} {un : List Nat} {l : Lo} (h : calm lg) (hl : l.2.1 = [] ∧ l.2.2 ≠ 2) (hu : un.all (fun i => decide (i < lg.length)) = true) : clash lg un l = false := by
  unfold clash
  rw [List.any_eq_false]
  intro i hi
  have hi' : i < lg.length := by
    have := List.all_eq_true.1 hu i hi
    simpa using this
  rw [List.getElem?_eq_getElem hi']
  obtain ⟨h1, h2⟩ := h lg[i] (List.getElem_mem hi')
  simp only [noclB, if_neg h2, if_neg hl.2, h1, hl.1]
  simp [apart]
theorem stepX_quiet {cl : Cl} {o : SOper} {E : Env} {H : List Ob} {r : D × Option Nat × Option (Nat × Ob)} (h : quietOp o.op = true) (e : stepX cl o E H = some r) : r.2.2 = none := by
  unfold stepX at e
  split at e
  · obtain ⟨⟨d, u⟩, h1, h2⟩ := Option.map_eq_some_iff.1 e
    have := quiet_none h h1
    subst this
    rw [← h2]
  · injection e with e; rw [← e]
  · cases e
theorem loX_calm {E : Env} {o : SOper} {r : D × Option Nat × Option (Nat × Ob)} (h : r.2.2 = none) : (loX E o r).2.1 = [] ∧ (loX E o r).2.2 ≠ 2 := by
  unfold loX
  rw [h]
  refine ⟨rfl, ?_⟩
  simp only
  split <;> omega
theorem stepsD_quiet {cl : Cl} : ∀ (os : List (List Nat × Bool × SOper)) (lg : Log) (ps : List Nat) (E : Env) (H : List Ob), calm lg → quietReg lg.length os = true → stepsD cl os lg ps E H = stepsQ cl os ps E H
  | [], lg, ps, E, H, h, hq => rfl
  | (un, bar, o) :: os, lg, ps, E, H, h, hq => by
    unfold quietReg at hq
    cases bar with
    | true =>
      simp only [if_true] at hq
      simp only [stepsD, stepsQ, if_true]
      congr 1
      funext r
      exact stepsD_quiet os [] [] r.1 r.2 (by intro l hl; cases hl) hq
    | false =>
      simp only [Bool.false_eq_true, if_false, Bool.and_eq_true, Bool.not_eq_true'] at hq
      obtain ⟨⟨⟨q1, q2⟩, q3⟩, q4⟩ := hq
      simp only [stepsD, stepsQ, Bool.false_eq_true, if_false, q2]
      cases hx : stepX cl o E H with
      | none => rfl
      | some r =>
        have hn := stepX_quiet q1 hx
        have hl := loX_calm (E := E) (o := o) hn
        simp only [Option.bind_some]
        rw [calm_clash h hl q3]
        simp only [Bool.false_eq_true, if_false]
        rw [stepsD_quiet os (lg ++ [loX E o r]) _ _ _ (by
          intro l hl'
          rcases List.mem_append.1 hl' with h' | h'
          · exact h l h'
          · simp at h'; subst h'; exact hl) (by simpa using q4)]
        rw [hn]
        rfl
/-! the same, by continuations -/
section
variable {R : Type} {cl : Cl} {E : Env} {H : List Ob} {k : Ex → Env → List Ob → Option R} {kk : Env → List Ob → Option R}
def qB (cl : Cl) (ops : List (List Nat × Bool × SOper)) (ps : List Nat) (E : Env) (H : List Ob) (kk : Env → List Ob → Option R) : Option R := (stepsQ cl ops ps E H).bind fun r => kk r.1 r.2
theorem evB_dregQ {ops : List (List Nat × Bool × SOper)} : evB cl (.dreg ops) E H k = if quietReg 0 ops then qB cl ops [] E H (nrmK k) else drB cl ops [] [] E H (nrmK k) := by
  split
  · rename_i h
    rw [evB_dreg]
    unfold drB qB
    rw [stepsD_quiet ops [] [] E H (by intro l hl; cases hl) h]
  · exact evB_dreg
theorem qB_nil {ps : List Nat} : qB cl [] ps E H kk = kk (settle ps E H).1 (settle ps E H).2 := Eq.trans rfl rfl
def qbarK (cl : Cl) (os : List (List Nat × Bool × SOper)) (kk : Env → List Ob → Option R) (r : Env × List Ob) : Option R := qB cl os [] r.1 r.2 kk
theorem qbarK_ap {os : List (List Nat × Bool × SOper)} {r : Env × List Ob} : qbarK cl os kk r = qB cl os [] r.1 r.2 kk := Eq.trans rfl rfl
theorem qB_bar {un : List Nat} {o : SOper} {os : List (List Nat × Bool × SOper)} {ps : List Nat} : qB cl ((un, true, o) :: os) ps E H kk = (stepO cl o (settle ps E H).1 (settle ps E H).2).bind (qbarK cl os kk) := by
  unfold qB qbarK qB
  simp only [stepsQ, if_true]
  cases stepO cl o (settle ps E H).1 (settle ps E H).2 <;> rfl
def qfreeK (cl : Cl) (dst : Option Nat) (os : List (List Nat × Bool × SOper)) (ps : List Nat) (E : Env) (H : List Ob) (kk : Env → List Ob → Option R) (r : D × Option Nat × Option (Nat × Ob)) : Option R := qB cl os (ps ++ dst.toList) (putE dst r.1 (putE r.2.1 .un E)) H kk
theorem qfreeK_ap {dst : Option Nat} {os : List (List Nat × Bool × SOper)} {ps : List Nat} {r : D × Option Nat × Option (Nat × Ob)} : qfreeK cl dst os ps E H kk r = qB cl os (ps ++ dst.toList) (putE dst r.1 (putE r.2.1 .un E)) H kk := Eq.trans rfl rfl
theorem qB_free {un : List Nat} {o : SOper} {os : List (List Nat × Bool × SOper)} {ps : List Nat} : qB cl ((un, false, o) :: os) ps E H kk = (stepX cl o E H).bind (qfreeK cl o.dst os ps E H kk) := by
  unfold qB qfreeK qB
  simp only [stepsQ, Bool.false_eq_true, if_false]
  cases stepX cl o E H <;> rfl
end
end Lg
