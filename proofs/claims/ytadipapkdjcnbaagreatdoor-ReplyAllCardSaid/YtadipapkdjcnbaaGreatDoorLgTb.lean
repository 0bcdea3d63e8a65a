import Derived.Test.YtadipapkdjcnbaaGreatDoorLgTa
import Derived.Test.YtadipapkdjcnbaaGreatDoorLgQz
/-
  What the application is answered.
-/
namespace Go.Proofs.YtadipapkdjcnbaaGreatDoor.LgTab
open Go Lg
set_option linter.unusedVariables false
set_option linter.unusedSimpArgs false
set_option maxRecDepth 8000
/-- The number that an event asks of: its first parameter. -/
def askN (e : Ev) : Int := argI e.par 0 0 0 65535
theorem askN_b (e : Ev) (h : ∀ n, n ∈ e.par → -1 ≤ n ∧ n ≤ 60) : 0 ≤ askN e ∧ askN e ≤ 60 := by
  unfold askN argI
  cases hx : e.par[0]? with
  | none => simp only; unfold mxI mnI; repeat' split
            all_goals omega
  | some x =>
    have hb := h x (List.mem_of_getElem? hx)
    simp only
    unfold mxI mnI
    repeat' split
    all_goals omega
def whatI (e : Ev) (n : Int) : Int := if e.k ≠ 4 then 0 else if e.pr = 0 ∧ e.it = 0 ∧ e.fi = 110 ∧ n = 5 then 1 else if e.pr = 0 ∧ e.it = 0 ∧ e.fi = 110 ∧ n = 6 then 2 else if e.pr = 0 ∧ e.it = 0 ∧ e.fi = 99 ∧ n = 0 then 3 else if e.pr = 63 ∧ e.it = 36 ∧ e.fi = 112 then 4 else 0
theorem sp358 (k : Nat) (e : Ev) : evFun (clOf (modsR tab (k + 1)) 3) s358 [evD e] = some (.tup [I (whatI e (askN e)), I (if whatI e (askN e) = 0 then 0 else askN e)], []) := by
  have w := fun q => sp381_0 q e 0 0 65535
  have en : askN e = argI e.par 0 0 0 65535 := rfl
  rw [← en] at w
  generalize askN e = n at *
  obtain ⟨ek, er, ep, ei, ef, ps, et⟩ := e
  rw [evFun_evB rfl]
  unfold s358
  simp -implicitDefEqProofs [cw381, w]
  all_goals (repeat' (split <;> try simp -implicitDefEqProofs [*]))
  all_goals grind [whatI]
theorem what_b (e : Ev) (n : Int) : whatI e n = 0 ∨ whatI e n = 1 ∨ whatI e n = 2 ∨ whatI e n = 3 ∨ whatI e n = 4 := by
  unfold whatI
  repeat' split
  all_goals simp
def repM (n : Int) (s : Sc) : Int := if n = 1 then (if s.keys then 1 else 2) else if n = 6 then (if s.orig then 1 else 2) else if n = 7 then (if s.wrap then 1 else 2) else if n = 25 then (if s.shown then 1 else 2) else 0
theorem repM_b (n : Int) (s : Sc) : repM n s = 0 ∨ repM n s = 1 ∨ repM n s = 2 := by
  unfold repM
  repeat' split
  all_goals simp
theorem sp336 (k : Nat) (n : Int) (s : Sc) : evFun (clOf (modsR tab k) 3) s336 [scD s, I n] = some (I (repM n s), []) := by
  obtain ⟨g, row, col, pend, top, bot, p, tabs, s0, s1, sh, wrap, orig, shown, keys, pad, sv⟩ := s
  rw [evFun_evB rfl]
  unfold s336
  by_cases n1 : n = 1
  · subst n1
    cases keys <;> simp -implicitDefEqProofs [repM]
  by_cases n6 : n = 6
  · subst n6
    cases orig <;> simp -implicitDefEqProofs [repM]
  by_cases n7 : n = 7
  · subst n7
    cases wrap <;> simp -implicitDefEqProofs [repM]
  by_cases n25 : n = 25
  · subst n25
    cases shown <;> simp -implicitDefEqProofs [repM]
  simp -implicitDefEqProofs [repM, n1, n6, n7, n25]
theorem sp357 (k : Nat) (a b : Nat) (ha : a < 100) (hb : b < 100) : evFun (clOf (modsR tab (k + 7)) 3) s357 [I (a : Int), I (b : Int)] = some (S (numU a ++ 59 :: numU b), []) := by
  have w1 := fun q => sp466 q a ha
  have w2 := fun q => sp466 q b hb
  have l1 := numU_len a
  have l2 := numU_len b
  generalize numU a = N at *
  generalize numU b = O at *
  have c1 := cat_ok N [59] (N ++ [59]) (by simp; omega) rfl
  have c2 := cat_ok (N ++ [59]) O (N ++ 59 :: O) (by simp; omega) (by simp)
  rw [evFun_evB rfl]
  unfold s357
  simp -implicitDefEqProofs [cw466, cr466, w1, w2, c1, c2]
/-- The answer. -/
def ansL (w : Int) (N O NN : List UInt8) (st : UInt8) : List UInt8 := if w = 1 then [27, 91, 48, 110] else if w = 2 then 27 :: 91 :: (N ++ 59 :: (O ++ [82])) else if w = 3 then [27, 91, 63, 54, 99] else if w = 4 then 27 :: 91 :: 63 :: (NN ++ [59, st, 36, 121]) else []
def rowM (s : Sc) : Int := if s.orig then mxI (s.row - s.top) 0 else s.row
theorem rowM_b {s : Sc} (o : OkS s) : 0 ≤ rowM s ∧ rowM s < 40 := by
  have h1 := o.row
  have h2 := o.top
  have h3 := o.h
  unfold rowM mxI
  repeat' split
  all_goals omega
def stB8 (n : Int) (s : Sc) : UInt8 := if repM n s = 0 then 48 else if repM n s = 1 then 49 else 50
def toL (s : Sc) (e : Ev) : List UInt8 := ansL (whatI e (askN e)) (numU ((rowM s).toNat + 1)) (numU (s.col.toNat + 1)) (numU (askN e).toNat) (stB8 (askN e) s)
theorem toL_len (s : Sc) (e : Ev) : (toL s e).length ≤ 12 := by
  have l1 := numU_len ((rowM s).toNat + 1)
  have l2 := numU_len (s.col.toNat + 1)
  have l3 := numU_len (askN e).toNat
  unfold toL ansL
  repeat' split
  all_goals simp
  all_goals omega
set_option maxHeartbeats 4000000 in
theorem sp356 (k : Nat) (s : Sc) (o : OkS s) (e : Ev) (he : ∀ n, n ∈ e.par → -1 ≤ n ∧ n ≤ 60) : evFun (clOf (modsR tab (k + 8)) 3) s356 [scD s, evD e] = some (.osl true 1 (bytesD (toL s e)), []) := by
  have w358 := fun q => sp358 q e
  have bn := askN_b e he
  have hq := what_b e (askN e)
  have br := rowM_b o
  have hc := o.col
  have hcw := o.w
  have hrow := o.row
  have htop := o.top
  have hh := o.h
  have hbot := o.bot
  unfold toL
  generalize askN e = n at *
  generalize whatI e n = q at *
  have w336 := fun q => sp336 q n s
  have wc := fun q => sp357 q ((rowM s).toNat + 1) (s.col.toNat + 1) (by omega) (by omega)
  rw [show (((rowM s).toNat + 1 : Nat) : Int) = rowM s + 1 by omega, show ((s.col.toNat + 1 : Nat) : Int) = s.col + 1 by omega] at wc
  have wm := fun q b hb => sp357 q n.toNat b (by omega) hb
  rw [show ((n.toNat : Nat) : Int) = n by omega] at wm
  have hrep := repM_b n s
  have e1 : wr (rowM s + 1) = rowM s + 1 := wr_id _ (by omega) (by omega)
  have e2 : wr (s.col + 1) = s.col + 1 := wr_id _ (by omega) (by omega)
  have e3 : wr (s.row - s.top) = s.row - s.top := wr_id _ (by omega) (by omega)
  have l1 := numU_len ((rowM s).toNat + 1)
  have l2 := numU_len (s.col.toNat + 1)
  have l3 := numU_len n.toNat
  have d1 := cat_ok [27, 91] (numU ((rowM s).toNat + 1) ++ 59 :: numU (s.col.toNat + 1)) (27 :: 91 :: (numU ((rowM s).toNat + 1) ++ 59 :: numU (s.col.toNat + 1))) (by simp; omega) rfl
  have d2 := cat_ok (27 :: 91 :: (numU ((rowM s).toNat + 1) ++ 59 :: numU (s.col.toNat + 1))) [82] (27 :: 91 :: (numU ((rowM s).toNat + 1) ++ 59 :: (numU (s.col.toNat + 1) ++ [82]))) (by simp; omega) (by simp)
  have wm0 : ∀ q, evFun (clOf (modsR tab (q + 7)) 3) s357 [I n, I 0] = some (S (numU n.toNat ++ 59 :: numU 0), []) := fun q => wm q 0 (by omega)
  have wm1 : ∀ q, evFun (clOf (modsR tab (q + 7)) 3) s357 [I n, I 1] = some (S (numU n.toNat ++ 59 :: numU 1), []) := fun q => wm q 1 (by omega)
  have wm2 : ∀ q, evFun (clOf (modsR tab (q + 7)) 3) s357 [I n, I 2] = some (S (numU n.toNat ++ 59 :: numU 2), []) := fun q => wm q 2 (by omega)
  have n0 : numU 0 = [48] := rfl
  have n1 : numU 1 = [49] := rfl
  have n2 : numU 2 = [50] := rfl
  rw [n0] at wm0
  rw [n1] at wm1
  rw [n2] at wm2
  have t := fun (c : UInt8) => cat_ok [27, 91, 63] (numU n.toNat ++ [59, c]) (27 :: 91 :: 63 :: (numU n.toNat ++ [59, c])) (by simp; omega) rfl
  have t2 := fun (c : UInt8) => cat_ok (27 :: 91 :: 63 :: (numU n.toNat ++ [59, c])) [36, 121] (27 :: 91 :: 63 :: (numU n.toNat ++ [59, c, 36, 121])) (by simp; omega) (by simp)
  have hst : stB8 n s = if repM n s = 0 then 48 else if repM n s = 1 then 49 else 50 := rfl
  have ew : rowM s = if s.orig then mxI (s.row - s.top) 0 else s.row := rfl
  rw [hst]
  clear hst n0 n1 n2 wm l1 l2 l3
  generalize numU ((rowM s).toNat + 1) = N at *
  generalize numU (s.col.toNat + 1) = O at *
  generalize numU n.toNat = NN at *
  generalize repM n s = rp at *
  generalize hrm : rowM s = rm at *
  clear hrm br bn o he
  rw [evFun_evB rfl]
  unfold s356
  rcases hq with rfl | rfl | rfl | rfl | rfl
  · simp -implicitDefEqProofs [cw358, w358, ansL, bytesD]
  · simp -implicitDefEqProofs [cw358, w358, ansL, bytesD]
  · cases ho : s.orig with
    | true =>
      rw [ho] at ew
      simp only [if_true] at ew
      simp -implicitDefEqProofs [cw358, w358, ho, cw357, cr357, wc, e1, e2, e3, ← ew, d1, d2, ansL, bytesD]
    | false =>
      rw [ho] at ew
      have ew : rm = s.row := ew
      subst ew
      simp -implicitDefEqProofs [cw358, w358, ho, cw357, cr357, wc, e1, e2, d1, d2, ansL, bytesD]
  · simp -implicitDefEqProofs [cw358, w358, ansL, bytesD]
  · have a0 := t 48
    have a1 := t 49
    have a2 := t 50
    have b0 := t2 48
    have b1 := t2 49
    have b2 := t2 50
    rcases hrep with rfl | rfl | rfl <;> simp -implicitDefEqProofs [cw358, w358, cw336, cr336, w336, cw357, cr357, wm0, wm1, wm2, a0, a1, a2, b0, b1, b2, ansL, bytesD]
end Go.Proofs.YtadipapkdjcnbaaGreatDoor.LgTab
