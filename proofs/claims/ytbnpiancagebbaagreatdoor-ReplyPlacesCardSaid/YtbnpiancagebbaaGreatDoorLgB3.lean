import Derived.Test.YtbnpiancagebbaaGreatDoorLgW1
/-
  The evaluator, told for a walk by rewriting: what comes next is a function, and each has a name.
-/
namespace Lg
open Go
set_option linter.unusedVariables false
set_option linter.unusedSimpArgs false

/-- Code, and what is done behind it. -/
def evB {R : Type} (cl : Cl) (c : SCode) (E : Env) (H : List Ob) (k : Ex → Env → List Ob → Option R) : Option R := (evC cl c E H).bind fun r => k r.1 r.2.1 r.2.2
def stB {R : Type} (cl : Cl) (ops : List SOper) (E : Env) (H : List Ob) (k : Env → List Ob → Option R) : Option R := (stepsO cl ops E H).bind fun r => k r.1 r.2
def drB {R : Type} (cl : Cl) (ops : List (List Nat × Bool × SOper)) (lg : Log) (ps : List Nat) (E : Env) (H : List Ob) (k : Env → List Ob → Option R) : Option R := (stepsD cl ops lg ps E H).bind fun r => k r.1 r.2
section
variable {R : Type} {cl : Cl} {E : Env} {H : List Ob} {k : Ex → Env → List Ob → Option R} {kk : Env → List Ob → Option R}
def nrmK (k : Ex → Env → List Ob → Option R) (E : Env) (H : List Ob) : Option R := k .nrm E H
theorem nrmK_ap : nrmK k E H = k .nrm E H := Eq.trans rfl rfl
theorem evB_skip : evB cl .skip E H k = k .nrm E H := Eq.trans rfl rfl
theorem evB_ret : evB cl .ret E H k = k .ret E H := Eq.trans rfl rfl
theorem evB_exit {id : Nat} : evB cl (.exit id) E H k = k (.exit id) E H := Eq.trans rfl rfl
theorem evB_reg {ops : List SOper} : evB cl (.reg ops) E H k = stB cl ops E H (nrmK k) := by
  unfold evB stB
  simp only [evC]
  cases stepsO cl ops E H <;> rfl
theorem evB_dreg {ops : List (List Nat × Bool × SOper)} : evB cl (.dreg ops) E H k = drB cl ops [] [] E H (nrmK k) := by
  unfold evB drB
  simp only [evC]
  cases stepsD cl ops [] [] E H <;> rfl
def seqK (cl : Cl) (b : SCode) (k : Ex → Env → List Ob → Option R) (ex : Ex) (E : Env) (H : List Ob) : Option R := match ex with
  | .nrm => evB cl b E H k
  | ex => k ex E H
theorem evB_seq {a b : SCode} : evB cl (.seq a b) E H k = evB cl a E H (seqK cl b k) := by
  unfold evB
  simp only [evC]
  cases h : evC cl a E H with
  | none => rfl
  | some r =>
    obtain ⟨ex, E', H'⟩ := r
    cases ex <;> rfl
def blkK (id : Nat) (k : Ex → Env → List Ob → Option R) (ex : Ex) (E : Env) (H : List Ob) : Option R := match ex with
  | .exit i => if i = id then k .nrm E H else k (.exit i) E H
  | ex => k ex E H
theorem evB_block {id : Nat} {a : SCode} : evB cl (.block id a) E H k = evB cl a E H (blkK id k) := by
  unfold evB
  simp only [evC]
  cases h : evC cl a E H with
  | none => rfl
  | some r =>
    obtain ⟨ex, E', H'⟩ := r
    cases ex with
    | exit i =>
      simp only [Option.bind_some, blkK]
      split <;> rfl
    | _ => rfl
theorem seqK_nrm {b : SCode} : seqK cl b k .nrm E H = evB cl b E H k := Eq.trans rfl rfl
theorem seqK_ret {b : SCode} : seqK cl b k .ret E H = k .ret E H := Eq.trans rfl rfl
theorem seqK_exit {b : SCode} {i : Nat} : seqK cl b k (.exit i) E H = k (.exit i) E H := Eq.trans rfl rfl
theorem blkK_nrm {id : Nat} : blkK id k .nrm E H = k .nrm E H := Eq.trans rfl rfl
theorem blkK_ret {id : Nat} : blkK id k .ret E H = k .ret E H := Eq.trans rfl rfl
theorem blkK_exit {id i : Nat} : blkK id k (.exit i) E H = if i = id then k .nrm E H else k (.exit i) E H := Eq.trans rfl rfl
/-- A branch. -/
def condK (cl : Cl) (a b : SCode) (E : Env) (H : List Ob) (k : Ex → Env → List Ob → Option R) (d : D) : Option R := match d with
  | .sc (.bool x) => if x then evB cl a E H k else evB cl b E H k
  | _ => none
theorem evB_cond {c : SOpd} {a b : SCode} : evB cl (.cond c a b) E H k = condK cl a b E H k (ov E c) := by
  unfold evB
  simp only [evC]
  cases ov E c with
  | sc v =>
    cases v with
    | bool x => cases x <;> rfl
    | _ => rfl
  | _ => rfl
theorem condK_true {a b : SCode} : condK cl a b E H k (.sc (.bool true)) = evB cl a E H k := Eq.trans rfl rfl
theorem condK_false {a b : SCode} : condK cl a b E H k (.sc (.bool false)) = evB cl b E H k := Eq.trans rfl rfl
theorem condK_ite {a b : SCode} {p : Prop} [Decidable p] : condK cl a b E H k (.sc (.bool (decide p))) = if p then evB cl a E H k else evB cl b E H k := by
  unfold condK
  by_cases h : p <;> simp [h]
theorem stB_nil : stB cl [] E H kk = kk E H := Eq.trans rfl rfl
def tailK (cl : Cl) (os : List SOper) (kk : Env → List Ob → Option R) (r : Env × List Ob) : Option R := stB cl os r.1 r.2 kk
theorem tailK_ap {os : List SOper} {r : Env × List Ob} : tailK cl os kk r = stB cl os r.1 r.2 kk := Eq.trans rfl rfl
theorem stB_cons {o : SOper} {os : List SOper} : stB cl (o :: os) E H kk = (stepO cl o E H).bind (tailK cl os kk) := by
  unfold stB tailK stB
  simp only [stepsO]
  cases stepO cl o E H <;> rfl
/-! drawn regions -/
theorem drB_nil {lg : Log} {ps : List Nat} : drB cl [] lg ps E H kk = kk (settle ps E H).1 (settle ps E H).2 := Eq.trans rfl rfl
def barK (cl : Cl) (os : List (List Nat × Bool × SOper)) (kk : Env → List Ob → Option R) (r : Env × List Ob) : Option R := drB cl os [] [] r.1 r.2 kk
theorem barK_ap {os : List (List Nat × Bool × SOper)} {r : Env × List Ob} : barK cl os kk r = drB cl os [] [] r.1 r.2 kk := Eq.trans rfl rfl
theorem drB_bar {un : List Nat} {o : SOper} {os : List (List Nat × Bool × SOper)} {lg : Log} {ps : List Nat} : drB cl ((un, true, o) :: os) lg ps E H kk = (stepO cl o (settle ps E H).1 (settle ps E H).2).bind (barK cl os kk) := by
  unfold drB barK drB
  simp only [stepsD, if_true]
  cases stepO cl o (settle ps E H).1 (settle ps E H).2 <;> rfl
def freeK (cl : Cl) (un : List Nat) (o : SOper) (os : List (List Nat × Bool × SOper)) (lg : Log) (ps : List Nat) (E : Env) (H : List Ob) (kk : Env → List Ob → Option R) (r : D × Option Nat × Option (Nat × Ob)) : Option R :=
  if clash lg un (loX E o r) then none else drB cl os (lg ++ [loX E o r]) (ps ++ o.dst.toList) (putE o.dst r.1 (putE r.2.1 .un E)) (putH r.2.2 H) kk
theorem freeK_ap {un : List Nat} {o : SOper} {os : List (List Nat × Bool × SOper)} {lg : Log} {ps : List Nat} {r : D × Option Nat × Option (Nat × Ob)} :
    freeK cl un o os lg ps E H kk r = if clash lg un (loX E o r) then none else drB cl os (lg ++ [loX E o r]) (ps ++ o.dst.toList) (putE o.dst r.1 (putE r.2.1 .un E)) (putH r.2.2 H) kk := Eq.trans rfl rfl
def freeC (cl : Cl) (un : List Nat) (o : SOper) (os : List (List Nat × Bool × SOper)) (lg : Log) (ps : List Nat) (H : List Ob) (kk : Env → List Ob → Option R) (r : Env × List Ob) : Option R :=
  if clash lg un ([], kept H r.2, 2) then none else drB cl os (lg ++ [([], kept H r.2, 2)]) (ps ++ o.dst.toList) r.1 r.2 kk
theorem freeC_ap {un : List Nat} {o : SOper} {os : List (List Nat × Bool × SOper)} {lg : Log} {ps : List Nat} {r : Env × List Ob} :
    freeC cl un o os lg ps H kk r = if clash lg un ([], kept H r.2, 2) then none else drB cl os (lg ++ [([], kept H r.2, 2)]) (ps ++ o.dst.toList) r.1 r.2 kk := Eq.trans rfl rfl
theorem drB_free {un : List Nat} {o : SOper} {os : List (List Nat × Bool × SOper)} {lg : Log} {ps : List Nat} : drB cl ((un, false, o) :: os) lg ps E H kk =
    if isCall o.op then (if (rdS o).all (fun t => noTree (lk E t)) then (stepO cl o E H).bind (freeC cl un o os lg ps H kk) else none) else (stepX cl o E H).bind (freeK cl un o os lg ps E H kk) := by
  unfold drB freeK freeC drB
  simp only [stepsD, Bool.false_eq_true, if_false]
  split
  · split
    · cases stepO cl o E H with
      | none => rfl
      | some r =>
        simp only [Option.bind_some]
        split <;> rfl
    · rfl
  · cases stepX cl o E H with
    | none => rfl
    | some r =>
      simp only [Option.bind_some]
      split <;> rfl
/-! loops -/
def loopF (cl : Cl) (live : List (Nat × Mode)) (c : SCode) (ts : List D) : Option (Ex × List D) := evB cl c (unfL live ts []).1 (unfL live ts []).2 fun ex E' H' => (foldL live E' H').map fun t => (ex, t.1)
theorem evC_loop {live : List (Nat × Mode)} {c : SCode} : evC cl (.loop live c) E H = (foldL live E H).bind fun t0 => (iter (loopF cl live c) rounds t0.1).map fun r => (r.1, (unfL live r.2 []).1, (unfL live r.2 []).2) := by
  rw [evC]
  congr 1
  funext t0
  congr 2
  funext ts
  unfold loopF evB
  simp only
  generalize evC cl c (unfL live ts []).1 (unfL live ts []).2 = o
  cases o <;> rfl
theorem evB_loop {live : List (Nat × Mode)} {c : SCode} {t0 t1 : List D} {H' : List Ob} {ex : Ex} (h0 : foldL live E H = some (t0, H')) (h1 : iter (loopF cl live c) rounds t0 = some (ex, t1)) :
    evB cl (.loop live c) E H k = k ex (unfL live t1 []).1 (unfL live t1 []).2 := by
  unfold evB
  rw [evC_loop, h0, Option.bind_some, h1]
  rfl
theorem evB_loop1 {live : List (Nat × Mode)} {c : SCode} {t0 t1 : List D} {ex : Ex} (h0 : (foldL live E H).map Prod.fst = some t0) (h1 : iter (loopF cl live c) rounds t0 = some (ex, t1)) :
    evB cl (.loop live c) E H k = k ex (unfL live t1 []).1 (unfL live t1 []).2 := by
  obtain ⟨⟨t, H'⟩, h, e⟩ := Option.map_eq_some_iff.1 h0
  cases e
  exact evB_loop h h1
/-- What a round ends with. -/
def foldK (live : List (Nat × Mode)) (ex : Ex) (E : Env) (H : List Ob) : Option (Ex × List D) := (foldL live E H).map fun t => (ex, t.1)
theorem loopF_eq {live : List (Nat × Mode)} {c : SCode} {ts : List D} : loopF cl live c ts = evB cl c (unfL live ts []).1 (unfL live ts []).2 (foldK live) := Eq.trans rfl rfl
theorem foldK_ap {live : List (Nat × Mode)} {ex : Ex} : foldK live ex E H = (foldL live E H).map fun t => (ex, t.1) := Eq.trans rfl rfl
/-- What a function's end tells. -/
def finK (s : SFun) (args : List D) (ex : Ex) (E : Env) (H : List Ob) : Option (D × List D) := match ex with
  | .exit _ => none
  | _ => (resDs E H s.res).bind fun ds => (foldR s.res ds H).bind fun p => (outs s.fx E 0 args p.2).map fun q => (one p.1, q.1)
theorem evFun_evB {s : SFun} {args : List D} (h : args.length = s.nargs) : evFun cl s args = evB cl s.body (envFrom 0 (unfs args []).1) (unfs args []).2 (finK s args) := by
  unfold evFun evB
  rw [if_pos h]
  simp only
  cases evC cl s.body (envFrom 0 (unfs args []).1) (unfs args []).2 with
  | none => rfl
  | some r => obtain ⟨ex, E, H⟩ := r; cases ex <;> rfl
theorem finK_nrm {s : SFun} {args : List D} : finK s args .nrm E H = (resDs E H s.res).bind fun ds => (foldR s.res ds H).bind fun p => (outs s.fx E 0 args p.2).map fun q => (one p.1, q.1) := Eq.trans rfl rfl
theorem finK_ret {s : SFun} {args : List D} : finK s args .ret E H = (resDs E H s.res).bind fun ds => (foldR s.res ds H).bind fun p => (outs s.fx E 0 args p.2).map fun q => (one p.1, q.1) := Eq.trans rfl rfl
end
/-- Rounds of a loop that goes from state to state. -/
theorem iter_to {body : List D → Option (Ex × List D)} {f : Nat → List D} {ex : Ex} {t : List D} (hne : ex ≠ .nrm) : ∀ (N : Nat) (j n : Nat), (∀ i, j ≤ i → i < j + N → body (f i) = some (.nrm, f (i + 1))) → body (f (j + N)) = some (ex, t) → N < n → iter body n (f j) = some (ex, t)
  | 0, j, n, h, he, hn => by
    cases n with
    | zero => omega
    | succ n =>
      rw [iter, show f j = f (j + 0) from rfl, he]
      cases ex <;> first | rfl | exact absurd rfl hne
  | N + 1, j, n, h, he, hn => by
    cases n with
    | zero => omega
    | succ n =>
      rw [iter, h j (Nat.le_refl _) (by omega)]
      exact iter_to hne N (j + 1) n (fun i a b => h i (by omega) (by omega)) (by rw [show j + 1 + N = j + (N + 1) by omega]; exact he) (by omega)
theorem iter_from {body : List D → Option (Ex × List D)} (f : Nat → List D) (N : Nat) {ex : Ex} {t : List D} (hne : ex ≠ .nrm) (h : ∀ i, i < N → body (f i) = some (.nrm, f (i + 1))) (he : body (f N) = some (ex, t)) (hn : N < rounds) : iter body rounds (f 0) = some (ex, t) :=
  iter_to hne N 0 rounds (fun i _ b => h i (by omega)) (by simpa using he) hn
/-- A loop that goes from state to state: N rounds, and one that ends it. -/
theorem evB_for {R : Type} {cl : Cl} {E : Env} {H : List Ob} {k : Ex → Env → List Ob → Option R} {live : List (Nat × Mode)} {c : SCode} {r : Option R} (f : Nat → List D) (N : Nat) (ex : Ex) (t : List D)
    (h0 : (foldL live E H).map Prod.fst = some (f 0)) (h : ∀ i, i < N → loopF cl live c (f i) = some (.nrm, f (i + 1))) (he : loopF cl live c (f N) = some (ex, t)) (hne : ex ≠ .nrm) (hn : N < rounds)
    (hk : k ex (unfL live t []).1 (unfL live t []).2 = r) : evB cl (.loop live c) E H k = r :=
  (evB_loop1 h0 (iter_from f N hne h he hn)).trans hk
/-- A loop over states with a measure: what it ends with is told by the state. -/
theorem iter_run {σ : Type} {body : List D → Option (Ex × List D)} (enc : σ → List D) (μ : σ → Nat) (out : σ → Ex × List D) (Q : σ → Prop)
    (h : ∀ s, Q s → (∃ s', body (enc s) = some (.nrm, enc s') ∧ μ s' < μ s ∧ out s' = out s ∧ Q s') ∨ (body (enc s) = some (out s) ∧ (out s).1 ≠ .nrm)) :
    ∀ (n : Nat) (s : σ), Q s → μ s < n → iter body n (enc s) = some (out s)
  | 0, s, hq, hn => by omega
  | n + 1, s, hq, hn => by
    rcases h s hq with ⟨s', h1, h2, h3, h4⟩ | ⟨h1, h2⟩
    · rw [iter, h1]
      simp only
      rw [iter_run enc μ out Q h n s' h4 (by omega), h3]
    · rw [iter, h1]
      revert h2
      generalize out s = o
      intro h2
      obtain ⟨ex, t⟩ := o
      cases ex <;> first | rfl | exact absurd rfl h2
theorem evB_run {R σ : Type} {cl : Cl} {E : Env} {H : List Ob} {k : Ex → Env → List Ob → Option R} {live : List (Nat × Mode)} {c : SCode} {r : Option R} (enc : σ → List D) (μ : σ → Nat) (out : σ → Ex × List D) (Q : σ → Prop) (s : σ)
    (h0 : (foldL live E H).map Prod.fst = some (enc s)) (hq : Q s) (hn : μ s < rounds)
    (h : ∀ s, Q s → (∃ s', loopF cl live c (enc s) = some (.nrm, enc s') ∧ μ s' < μ s ∧ out s' = out s ∧ Q s') ∨ (loopF cl live c (enc s) = some (out s) ∧ (out s).1 ≠ .nrm))
    (hk : k (out s).1 (unfL live (out s).2 []).1 (unfL live (out s).2 []).2 = r) : evB cl (.loop live c) E H k = r :=
  (evB_loop1 h0 (iter_run enc μ out Q h rounds s hq hn)).trans hk
/-! numbers -/
theorem wrap_id (n : Int) (h0 : -9223372036854775808 ≤ n) (h1 : n ≤ 9223372036854775807) : IntKind.i64.wrap n = n := by
  have e1 : IntKind.i64.wrap n = if decide (n % 18446744073709551616 ≥ 9223372036854775808) = true then n % 18446744073709551616 - 18446744073709551616 else n % 18446744073709551616 := rfl
  rw [e1]
  simp only [decide_eq_true_eq]
  split <;> omega
end Lg
/-
  Drawn regions in which nothing is turned between two barriers: no log is needed.
-/
namespace Lg
open Go
set_option linter.unusedVariables false
set_option linter.unusedSimpArgs false

/-- Operations that turn no object. -/
def quietOp : SOp → Bool
  | .mv _ | .pick .. | .alloc _ | .box .. | .build .. | .load .. | .nilc _ | .bin .. | .binb .. | .eqa .. | .eqn .. | .una .. | .cvi .. | .cvs _ | .fad .. | .fld .. | .ixs .. | .ixa .. | .ixt .. | .ixg .. | .ext .. | .len _ | .slc .. | .sls .. | .mx _ | .mn _ => true
  | .call true _ _ | .callr _ _ => true
  | _ => false
theorem quiet_none {cl : Nat → List D → List Ob → Option D} {E : Env} {H : List Ob} {op : SOp} {d : D} {u : Option (Nat × Ob)} (h : quietOp op = true) (e : evX cl E H op = some (d, u)) : u = none := by
  cases op
  case call q f xs =>
    cases q
    · simp [quietOp] at h
    · simp only [evX, Option.map_eq_some_iff] at e
      obtain ⟨a, _, e⟩ := e
      injection e with _ e
      exact e.symm
  all_goals first
    | (simp only [quietOp, Bool.false_eq_true] at h; done)
    | (simp only [evX, Option.map_eq_some_iff, Option.bind_eq_some_iff] at e; grind)
    | (simp only [evX] at e; repeat' split at e
       all_goals first | (cases e; done) | (simp only [Option.map_eq_some_iff, Option.bind_eq_some_iff, Option.some.injEq, Prod.mk.injEq] at e; grind [Option.map_eq_some_iff]))
/-- A drawn region in which nothing is turned but at barriers, and each looks back no farther than the last one: so many operations since. -/
def quietReg : Nat → List (List Nat × Bool × SOper) → Bool
  | _, [] => true
  | n, (un, bar, o) :: os => if bar then quietReg 0 os else quietOp o.op && !isCall o.op && un.all (fun i => decide (i < n)) && quietReg (n + 1) os
def stepsQ (cl : Cl) : List (List Nat × Bool × SOper) → List Nat → Env → List Ob → Option (Env × List Ob)
  | [], ps, E, H => some (settle ps E H)
  | (un, bar, o) :: os, ps, E, H =>
    if bar then (let s := settle ps E H; (stepO cl o s.1 s.2).bind fun r => stepsQ cl os [] r.1 r.2)
    else (stepX cl o E H).bind fun r => stepsQ cl os (ps ++ o.dst.toList) (putE o.dst r.1 (putE r.2.1 .un E)) H
def calm (lg : Log) : Prop := ∀ l, l ∈ lg → l.2.1 = [] ∧ l.2.2 ≠ 2
theorem apart_nil (xs : List Nat) : apart xs [] = true := by
  unfold apart
  simp
theorem calm_clash {lg : Log} {un : List Nat} {l : Lo} (h : calm lg) (hl : l.2.1 = [] ∧ l.2.2 ≠ 2) (hu : un.all (fun i => decide (i < lg.length)) = true) : clash lg un l = false := by
  unfold clash
  rw [List.any_eq_false]
  intro i hi
  have hi' : i < lg.length := by
    have := List.all_eq_true.1 hu i hi
    simpa using this
  rw [List.getElem?_eq_getElem hi']
  obtain ⟨h1, h2⟩ := h lg[i] (List.getElem_mem hi')
  simp only [noclB, if_neg h2, if_neg hl.2, h1, hl.1]
  simp [apart]
theorem stepX_quiet {cl : Cl} {o : SOper} {E : Env} {H : List Ob} {r : D × Option Nat × Option (Nat × Ob)} (h : quietOp o.op = true) (e : stepX cl o E H = some r) : r.2.2 = none := by
  unfold stepX at e
  split at e
  · obtain ⟨⟨d, u⟩, h1, h2⟩ := Option.map_eq_some_iff.1 e
    have := quiet_none h h1
    subst this
    rw [← h2]
  · injection e with e; rw [← e]
  · cases e
theorem loX_calm {E : Env} {o : SOper} {r : D × Option Nat × Option (Nat × Ob)} (h : r.2.2 = none) : (loX E o r).2.1 = [] ∧ (loX E o r).2.2 ≠ 2 := by
  unfold loX
  rw [h]
  refine ⟨rfl, ?_⟩
  simp only
  split <;> omega
theorem stepsD_quiet {cl : Cl} : ∀ (os : List (List Nat × Bool × SOper)) (lg : Log) (ps : List Nat) (E : Env) (H : List Ob), calm lg → quietReg lg.length os = true → stepsD cl os lg ps E H = stepsQ cl os ps E H
  | [], lg, ps, E, H, h, hq => rfl
  | (un, bar, o) :: os, lg, ps, E, H, h, hq => by
    unfold quietReg at hq
    cases bar with
    | true =>
      simp only [if_true] at hq
      simp only [stepsD, stepsQ, if_true]
      congr 1
      funext r
      exact stepsD_quiet os [] [] r.1 r.2 (by intro l hl; cases hl) hq
    | false =>
      simp only [Bool.false_eq_true, if_false, Bool.and_eq_true, Bool.not_eq_true'] at hq
      obtain ⟨⟨⟨q1, q2⟩, q3⟩, q4⟩ := hq
      simp only [stepsD, stepsQ, Bool.false_eq_true, if_false, q2]
      cases hx : stepX cl o E H with
      | none => rfl
      | some r =>
        have hn := stepX_quiet q1 hx
        have hl := loX_calm (E := E) (o := o) hn
        simp only [Option.bind_some]
        rw [calm_clash h hl q3]
        simp only [Bool.false_eq_true, if_false]
        rw [stepsD_quiet os (lg ++ [loX E o r]) _ _ _ (by
          intro l hl'
          rcases List.mem_append.1 hl' with h' | h'
          · exact h l h'
          · simp at h'; subst h'; exact hl) (by simpa using q4)]
        rw [hn]
        rfl
/-! the same, by continuations -/
section
variable {R : Type} {cl : Cl} {E : Env} {H : List Ob} {k : Ex → Env → List Ob → Option R} {kk : Env → List Ob → Option R}
def qB (cl : Cl) (ops : List (List Nat × Bool × SOper)) (ps : List Nat) (E : Env) (H : List Ob) (kk : Env → List Ob → Option R) : Option R := (stepsQ cl ops ps E H).bind fun r => kk r.1 r.2
theorem evB_dregQ {ops : List (List Nat × Bool × SOper)} : evB cl (.dreg ops) E H k = if quietReg 0 ops then qB cl ops [] E H (nrmK k) else drB cl ops [] [] E H (nrmK k) := by
  split
  · rename_i h
    rw [evB_dreg]
    unfold drB qB
    rw [stepsD_quiet ops [] [] E H (by intro l hl; cases hl) h]
  · exact evB_dreg
theorem qB_nil {ps : List Nat} : qB cl [] ps E H kk = kk (settle ps E H).1 (settle ps E H).2 := Eq.trans rfl rfl
def qbarK (cl : Cl) (os : List (List Nat × Bool × SOper)) (kk : Env → List Ob → Option R) (r : Env × List Ob) : Option R := qB cl os [] r.1 r.2 kk
theorem qbarK_ap {os : List (List Nat × Bool × SOper)} {r : Env × List Ob} : qbarK cl os kk r = qB cl os [] r.1 r.2 kk := Eq.trans rfl rfl
theorem qB_bar {un : List Nat} {o : SOper} {os : List (List Nat × Bool × SOper)} {ps : List Nat} : qB cl ((un, true, o) :: os) ps E H kk = (stepO cl o (settle ps E H).1 (settle ps E H).2).bind (qbarK cl os kk) := by
  unfold qB qbarK qB
  simp only [stepsQ, if_true]
  cases stepO cl o (settle ps E H).1 (settle ps E H).2 <;> rfl
def qfreeK (cl : Cl) (dst : Option Nat) (os : List (List Nat × Bool × SOper)) (ps : List Nat) (E : Env) (H : List Ob) (kk : Env → List Ob → Option R) (r : D × Option Nat × Option (Nat × Ob)) : Option R := qB cl os (ps ++ dst.toList) (putE dst r.1 (putE r.2.1 .un E)) H kk
theorem qfreeK_ap {dst : Option Nat} {os : List (List Nat × Bool × SOper)} {ps : List Nat} {r : D × Option Nat × Option (Nat × Ob)} : qfreeK cl dst os ps E H kk r = qB cl os (ps ++ dst.toList) (putE dst r.1 (putE r.2.1 .un E)) H kk := Eq.trans rfl rfl
theorem qB_free {un : List Nat} {o : SOper} {os : List (List Nat × Bool × SOper)} {ps : List Nat} : qB cl ((un, false, o) :: os) ps E H kk = (stepX cl o E H).bind (qfreeK cl o.dst os ps E H kk) := by
  unfold qB qfreeK qB
  simp only [stepsQ, Bool.false_eq_true, if_false]
  cases stepX cl o E H <;> rfl
end
end Lg
/-
  The evaluator, told for a walk by rewriting: guards and branches that hang on what is not known are split as 'if'.
-/
namespace Lg
open Go
set_option linter.unusedVariables false
set_option linter.unusedSimpArgs false

section
variable {α : Type} {cl : Cl} {E : Env} {H : List Ob}
/-- What a guarded operation does. -/
def gdK (d : D) (b : Bool) (A S : Option α) : Option α := match d with
  | .sc (.bool x) => if x = b then A else S
  | .tup [] => S
  | _ => none
theorem gdK_B {x b : Bool} {A S : Option α} : gdK (.sc (.bool x)) b A S = if x = b then A else S := Eq.trans rfl rfl
theorem gdK_tup {b : Bool} {A S : Option α} : gdK (.tup []) b A S = S := Eq.trans rfl rfl
theorem gd_eq {t : Nat} {b : Bool} {A S : Option α} : (match wanted E (some (t, b)) with | some true => A | some false => S | none => none) = gdK (lk E t) b A S := by
  simp only [wanted]
  generalize lk E t = d
  cases d with
  | sc v =>
    cases v with
    | bool x => cases x <;> cases b <;> rfl
    | _ => rfl
  | tup ds => cases ds <;> rfl
  | _ => rfl
def putX (E : Env) (op : SOp) (r : D × Option (Nat × Ob)) : D × Option Nat × Option (Nat × Ob) := (r.1, eats E op, r.2)
theorem putX_ap {op : SOp} {d : D} {u : Option (Nat × Ob)} : putX E op (d, u) = (d, eats E op, u) := Eq.trans rfl rfl
theorem stepX_0 {dst : Option Nat} {op : SOp} : stepX cl ⟨dst, op, none⟩ E H = (evX cl.r E H op).map (putX E op) := Eq.trans rfl rfl
theorem stepX_g {dst : Option Nat} {op : SOp} {t : Nat} {b : Bool} : stepX cl ⟨dst, op, some (t, b)⟩ E H = gdK (lk E t) b ((evX cl.r E H op).map (putX E op)) (some (.tup [], none, none)) := by
  rw [← gd_eq]
  rfl
def putS (dst : Option Nat) (E : Env) (H : List Ob) (r : D × Option Nat × Option (Nat × Ob)) : Env × List Ob := match dst with
  | none => (putE r.2.1 .un E, putH r.2.2 H)
  | some t => let u := unf r.1 (putH r.2.2 H); ((t, u.1) :: putE r.2.1 .un E, u.2)
theorem putS_none {d : D} {e : Option Nat} {u : Option (Nat × Ob)} : putS none E H (d, e, u) = (putE e .un E, putH u H) := Eq.trans rfl rfl
theorem putS_some {t : Nat} {d : D} {e : Option Nat} {u : Option (Nat × Ob)} : putS (some t) E H (d, e, u) = ((t, (unf d (putH u H)).1) :: putE e .un E, (unf d (putH u H)).2) := Eq.trans rfl rfl
def putC (dst : Option Nat) (E : Env) (r : D × List Ob) : Env × List Ob := (putE dst r.1 E, r.2)
theorem putC_ap {dst : Option Nat} {d : D} {H' : List Ob} : putC dst E (d, H') = (putE dst d E, H') := Eq.trans rfl rfl
theorem stepO_0 {dst : Option Nat} {op : SOp} : stepO cl ⟨dst, op, none⟩ E H = if isCall op = true then (evCall cl.w E H op).map (putC dst E) else (stepX cl ⟨dst, op, none⟩ E H).map (putS dst E H) := by
  unfold stepO
  cases isCall op <;> rfl
theorem stepO_g {dst : Option Nat} {op : SOp} {t : Nat} {b : Bool} : stepO cl ⟨dst, op, some (t, b)⟩ E H =
    if isCall op = true then gdK (lk E t) b ((evCall cl.w E H op).map (putC dst E)) (some (putE dst (.tup []) E, H)) else (stepX cl ⟨dst, op, some (t, b)⟩ E H).map (putS dst E H) := by
  unfold stepO
  rw [← gd_eq]
  cases isCall op <;> rfl
theorem condK_B {R : Type} {k : Ex → Env → List Ob → Option R} {a b : SCode} {x : Bool} : condK cl a b E H k (.sc (.bool x)) = if x = true then evB cl a E H k else evB cl b E H k := Eq.trans rfl rfl
end
/-- A loop, of which a property is told. -/
theorem evB_forP {R : Type} {P : Option R → Prop} {cl : Cl} {E : Env} {H : List Ob} {k : Ex → Env → List Ob → Option R} {live : List (Nat × Mode)} {c : SCode} (f : Nat → List D) (N : Nat) (ex : Ex) (t : List D)
    (h0 : (foldL live E H).map Prod.fst = some (f 0)) (h : ∀ i, i < N → loopF cl live c (f i) = some (.nrm, f (i + 1))) (he : loopF cl live c (f N) = some (ex, t)) (hne : ex ≠ .nrm) (hn : N < rounds)
    (hk : P (k ex (unfL live t []).1 (unfL live t []).2)) : P (evB cl (.loop live c) E H k) := by
  rw [evB_for f N ex t h0 h he hne hn rfl]
  exact hk
theorem evB_runP {R σ : Type} {P : Option R → Prop} {cl : Cl} {E : Env} {H : List Ob} {k : Ex → Env → List Ob → Option R} {live : List (Nat × Mode)} {c : SCode} (enc : σ → List D) (μ : σ → Nat) (out : σ → Ex × List D) (Q : σ → Prop) (s : σ)
    (h0 : (foldL live E H).map Prod.fst = some (enc s)) (hq : Q s) (hn : μ s < rounds)
    (h : ∀ s, Q s → (∃ s', loopF cl live c (enc s) = some (.nrm, enc s') ∧ μ s' < μ s ∧ out s' = out s ∧ Q s') ∨ (loopF cl live c (enc s) = some (out s) ∧ (out s).1 ≠ .nrm))
    (hk : P (k (out s).1 (unfL live (out s).2 []).1 (unfL live (out s).2 []).2)) : P (evB cl (.loop live c) E H k) := by
  rw [evB_run enc μ out Q s h0 hq hn h rfl]
  exact hk
/-- A loop that keeps what holds of its states: it ends as told. -/
theorem iter_inv {σ : Type} {body : List D → Option (Ex × List D)} (enc : σ → List D) (μ : σ → Nat) (Q : σ → Prop) (Post : Ex → List D → Prop)
    (h : ∀ s, Q s → (∃ s', body (enc s) = some (.nrm, enc s') ∧ μ s' < μ s ∧ Q s') ∨ (∃ ex t, body (enc s) = some (ex, t) ∧ ex ≠ .nrm ∧ Post ex t)) :
    ∀ (n : Nat) (s : σ), Q s → μ s < n → ∃ ex t, iter body n (enc s) = some (ex, t) ∧ Post ex t
  | 0, s, hq, hn => by omega
  | n + 1, s, hq, hn => by
    rcases h s hq with ⟨s', h1, h2, h3⟩ | ⟨ex, t, h1, h2, h3⟩
    · obtain ⟨ex, t, e, p⟩ := iter_inv enc μ Q Post h n s' h3 (by omega)
      exact ⟨ex, t, by rw [iter, h1]; exact e, p⟩
    · refine ⟨ex, t, ?_, h3⟩
      rw [iter, h1]
      cases ex <;> first | rfl | exact absurd rfl h2
theorem evB_inv {R σ : Type} {P : Option R → Prop} {cl : Cl} {E : Env} {H : List Ob} {k : Ex → Env → List Ob → Option R} {live : List (Nat × Mode)} {c : SCode} (enc : σ → List D) (μ : σ → Nat) (Q : σ → Prop) (Post : Ex → List D → Prop) (s : σ)
    (h0 : (foldL live E H).map Prod.fst = some (enc s)) (hq : Q s) (hn : μ s < rounds)
    (h : ∀ s, Q s → (∃ s', loopF cl live c (enc s) = some (.nrm, enc s') ∧ μ s' < μ s ∧ Q s') ∨ (∃ ex t, loopF cl live c (enc s) = some (ex, t) ∧ ex ≠ .nrm ∧ Post ex t))
    (hk : ∀ ex t, Post ex t → P (k ex (unfL live t []).1 (unfL live t []).2)) : P (evB cl (.loop live c) E H k) := by
  obtain ⟨ex, t, e, p⟩ := iter_inv enc μ Q Post h rounds s hq hn
  rw [evB_loop1 h0 e]
  exact hk ex t p
/-! what stands at either end of an 'if' -/
section
variable {α β : Type} {p : Prop} [Decidable p]
theorem bind_ite {a b : Option α} {f : α → Option β} : (if p then a else b).bind f = if p then a.bind f else b.bind f := by split <;> rfl
theorem map_ite {a b : Option α} {f : α → β} : (if p then a else b).map f = if p then a.map f else b.map f := by split <;> rfl
end
end Lg
