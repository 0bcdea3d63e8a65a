import Derived.Test.YtadipapkdjcnbaaGreatLgQo
/-
  The source: modes, CSI sequences, runes; an event done.
-/
namespace Go.Proofs.YtadipapkdjcnbaaGreat.LgTab
open Go Lg
set_option linter.unusedVariables false
set_option linter.unusedSimpArgs false
set_option maxRecDepth 8000
def setTo (s : Sc) (l : List Int) (on : Bool) (i : Nat) : Sc := (l.take i).foldl (fun s n => setM s n on) s
theorem setTo_succ (s : Sc) {l : List Int} (on : Bool) {i : Nat} {x : Int} (h : l[i]? = some x) : setTo s l on (i + 1) = setM (setTo s l on i) x on := by
  unfold setTo
  rw [take_snoc h, List.foldl_append]
  rfl
theorem setTo_ok {s : Sc} (o : OkS s) (l : List Int) (on : Bool) : ∀ i, OkS (setTo s l on i) := by
  intro i
  unfold setTo
  generalize l.take i = t
  induction t generalizing s with
  | nil => exact o
  | cons n t ih => exact ih (setM_ok o n on)
def setS (s : Sc) (e : Ev) : Sc := if e.fi = 104 ∨ e.fi = 108 then setTo s e.par (decide (e.fi = 104)) e.par.length else s
def zSc : List D := [(.sc (.int .i64 0)), (.sc (.int .i64 0)), .sn, (.sc (.int .i64 0)), (.sc (.int .i64 0)), (.sc (.bool false)), (.sc (.int .i64 0)), (.sc (.int .i64 0)), (.sc (.int .i64 0)), (.sc (.int .i64 0)), (.sc (.int .i64 0)), (.sc (.int .u64 0)), (.sc (.int .u8 0)), (.sc (.int .u8 0)), (.sc (.int .i64 0)), (.sc (.bool false)), (.sc (.bool false)), (.sc (.bool false)), (.sc (.bool false)), (.sc (.bool false)), (.sc (.int .i64 0)), (.sc (.int .i64 0)), (.sc (.int .i64 0)), (.sc (.int .i64 0)), (.sc (.int .i64 0)), (.sc (.int .u8 0)), (.sc (.int .u8 0)), (.sc (.int .i64 0)), (.sc (.bool false))]
set_option maxHeartbeats 4000000 in
theorem sp415t (k : Nat) (s : Sc) (o : OkS s) (ek er ep ei : Int) (l : List Int) (et : List UInt8) (hl : l.length ≤ 100000) : evFun (clOf (modsR tab (k + 5)) 3) s415 [scD s, evD ⟨ek, er, ep, ei, 104, some l, et⟩] = some (scD (setTo s l true l.length), []) := by
  have h0 : setTo s l true 0 = s := rfl
  rw [evFun_evB rfl]
  unfold s415
  simp -implicitDefEqProofs [parD]
  refine evB_for (fun i => [.sl 1 (intsD l), I l.length, I i, .obx (scL (setTo s l true i)), .obx [I ek, R er, U ep, U ei, U 104, .sl 1 (intsD l), S et], .obx zSc]) l.length (.exit 0) [.sl 1 (intsD l), I l.length, I l.length, .obx (scL (setTo s l true l.length)), .obx [I ek, R er, U ep, U ei, U 104, .sl 1 (intsD l), S et], .obx zSc] ?_ (fun i hi => ?_) ?_ (by simp) (by simp [rounds]; omega) ?_
  · simp -implicitDefEqProofs [h0, zSc]
  · obtain ⟨x, hx⟩ := get_ex hi
    have hs := setTo_succ s true hx
    have v := fun q => sp337 q _ (setTo_ok o l true i) x true
    rw [← hs] at v
    have hlt : (i : Int) < l.length := by omega
    have hg := intsD_at hx
    generalize setTo s l true (i + 1) = S' at *
    generalize setTo s l true i = S2 at *
    simp -implicitDefEqProofs [hlt, hi, hg, cw337, v, wr_id ((i : Int) + 1) (by omega) (by omega), zSc]
  · generalize setTo s l true l.length = S'
    simp -implicitDefEqProofs [zSc]
  · generalize setTo s l true l.length = S'
    simp -implicitDefEqProofs [zSc]
theorem sp415tn (k : Nat) (s : Sc) (o : OkS s) (ek er ep ei : Int) (et : List UInt8) : evFun (clOf (modsR tab (k + 5)) 3) s415 [scD s, evD ⟨ek, er, ep, ei, 104, none, et⟩] = some (scD s, []) := by
  rw [evFun_evB rfl]
  unfold s415
  simp -implicitDefEqProofs [parD]
  refine evB_for (fun i => [.sn, I 0, I 0, .obx (scL s), .obx [I ek, R er, U ep, U ei, U 104, .sn, S et], .obx zSc]) 0 (.exit 0) [.sn, I 0, I 0, .obx (scL s), .obx [I ek, R er, U ep, U ei, U 104, .sn, S et], .obx zSc] ?_ (fun i hi => by omega) ?_ (by simp) (by simp [rounds]) ?_
  · simp -implicitDefEqProofs [zSc]
  · simp -implicitDefEqProofs [zSc]
  · simp -implicitDefEqProofs [zSc]
set_option maxHeartbeats 4000000 in
theorem sp415f (k : Nat) (s : Sc) (o : OkS s) (ek er ep ei : Int) (l : List Int) (et : List UInt8) (hl : l.length ≤ 100000) : evFun (clOf (modsR tab (k + 5)) 3) s415 [scD s, evD ⟨ek, er, ep, ei, 108, some l, et⟩] = some (scD (setTo s l false l.length), []) := by
  have h0 : setTo s l false 0 = s := rfl
  rw [evFun_evB rfl]
  unfold s415
  simp -implicitDefEqProofs [parD]
  refine evB_for (fun i => [.sl 1 (intsD l), I l.length, I i, .obx (scL (setTo s l false i)), .obx [I ek, R er, U ep, U ei, U 108, .sl 1 (intsD l), S et], .obx zSc]) l.length (.exit 0) [.sl 1 (intsD l), I l.length, I l.length, .obx (scL (setTo s l false l.length)), .obx [I ek, R er, U ep, U ei, U 108, .sl 1 (intsD l), S et], .obx zSc] ?_ (fun i hi => ?_) ?_ (by simp) (by simp [rounds]; omega) ?_
  · simp -implicitDefEqProofs [h0, zSc]
  · obtain ⟨x, hx⟩ := get_ex hi
    have hs := setTo_succ s false hx
    have v := fun q => sp337 q _ (setTo_ok o l false i) x false
    rw [← hs] at v
    have hlt : (i : Int) < l.length := by omega
    have hg := intsD_at hx
    generalize setTo s l false (i + 1) = S' at *
    generalize setTo s l false i = S2 at *
    simp -implicitDefEqProofs [hlt, hi, hg, cw337, v, wr_id ((i : Int) + 1) (by omega) (by omega), zSc]
  · generalize setTo s l false l.length = S'
    simp -implicitDefEqProofs [zSc]
  · generalize setTo s l false l.length = S'
    simp -implicitDefEqProofs [zSc]
theorem sp415fn (k : Nat) (s : Sc) (o : OkS s) (ek er ep ei : Int) (et : List UInt8) : evFun (clOf (modsR tab (k + 5)) 3) s415 [scD s, evD ⟨ek, er, ep, ei, 108, none, et⟩] = some (scD s, []) := by
  rw [evFun_evB rfl]
  unfold s415
  simp -implicitDefEqProofs [parD]
  refine evB_for (fun i => [.sn, I 0, I 0, .obx (scL s), .obx [I ek, R er, U ep, U ei, U 108, .sn, S et], .obx zSc]) 0 (.exit 0) [.sn, I 0, I 0, .obx (scL s), .obx [I ek, R er, U ep, U ei, U 108, .sn, S et], .obx zSc] ?_ (fun i hi => by omega) ?_ (by simp) (by simp [rounds]) ?_
  · simp -implicitDefEqProofs [zSc]
  · simp -implicitDefEqProofs [zSc]
  · simp -implicitDefEqProofs [zSc]
theorem sp415 (k : Nat) (s : Sc) (o : OkS s) (e : Ev) (hl : e.par.length ≤ 100000) : evFun (clOf (modsR tab (k + 5)) 3) s415 [scD s, evD e] = some (scD (setS s e), []) := by
  obtain ⟨ek, er, ep, ei, ef, ps, et⟩ := e
  by_cases c1 : ef = 104
  · subst c1
    cases ps with
    | none => exact sp415tn k s o ek er ep ei et
    | some l => exact sp415t k s o ek er ep ei l et hl
  by_cases c2 : ef = 108
  · subst c2
    cases ps with
    | none => exact sp415fn k s o ek er ep ei et
    | some l => exact sp415f k s o ek er ep ei l et hl
  have ee : setS s ⟨ek, er, ep, ei, ef, ps, et⟩ = s := by unfold setS; rw [if_neg (fun h => h.elim c1 c2)]
  rw [ee, evFun_evB rfl]
  unfold s415
  simp -implicitDefEqProofs [c1, c2]
theorem sp340p (k : Nat) (p : Pn) (o : Option (List Int)) (hl : (o.getD []).length ≤ 100000) : evFun (clOf (modsR tab (k + 3)) 3) s340 [pnD p, parD o] = some (pnD (applyM p (o.getD [])), []) := by
  cases o with
  | none =>
    rw [evFun_evB rfl]
    unfold s340 applyM
    simp -implicitDefEqProofs [parD, cw107, sp107, plainP]
  | some l => exact sp340 k p l hl
end Go.Proofs.YtadipapkdjcnbaaGreat.LgTab
