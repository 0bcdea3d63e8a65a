import Derived.Test.YtohjgdaogcliiaaLgP6
/-
  The reference's Apply: it computes what the program's does.
-/
namespace Go.Proofs.Ytohjgdaogcliiaa.LgTab
open Go Lg
set_option linter.unusedVariables false
set_option linter.unusedSimpArgs false
set_option maxRecDepth 8000
theorem orI_lt {a b : Int} (ha : 0 ≤ a ∧ a ≤ 255) (hb : 0 ≤ b ∧ b ≤ 255) : 0 ≤ orI a b ∧ orI a b ≤ 255 := by
  have h := orI_nat a.toNat b.toNat (by omega) (by omega)
  rw [Int.toNat_of_nonneg ha.1, Int.toNat_of_nonneg hb.1] at h
  have l : a.toNat ||| b.toNat < 2 ^ 8 := Nat.or_lt_two_pow (by omega) (by omega)
  omega
theorem orI_0 {a : Int} (ha : 0 ≤ a ∧ a ≤ 255) : orI a 0 = a := by
  have h := orI_nat a.toNat 0 (by omega) (by omega)
  rw [Int.toNat_of_nonneg ha.1] at h
  simp at h
  omega
theorem andnI_lt {a : Int} (b : Int) (ha : 0 ≤ a ∧ a ≤ 255) : 0 ≤ andnI a b ∧ andnI a b ≤ 255 := by
  rw [andnI_def]
  have e1 : (a % 18446744073709551616).toNat = a.toNat := by omega
  rw [e1]
  have l : a.toNat &&& (18446744073709551615 - (b % 18446744073709551616).toNat) ≤ a.toNat := Nat.and_le_left
  rw [wrap_id _ (by omega) (by omega)]
  omega
theorem flagM_lt (n : Int) : 0 ≤ flagM n ∧ flagM n ≤ 255 := by
  unfold flagM
  repeat' split
  all_goals omega
theorem oneM_ok {p : Pen} (h : 0 ≤ p.flags ∧ p.flags ≤ 255) (n : Int) : 0 ≤ (oneM p n).flags ∧ (oneM p n).flags ≤ 255 := by
  unfold oneM plainP
  repeat' split
  all_goals first | exact h | exact andnI_lt _ h | exact orI_lt h (flagM_lt _) | simp
theorem stepL_ok {p : Pen} (h : 0 ≤ p.flags ∧ p.flags ≤ 255) (n : Int) (t : List Int) : 0 ≤ (stepL n t p).1.flags ∧ (stepL n t p).1.flags ≤ 255 := by
  unfold stepL
  repeat' split
  all_goals first | exact h | exact oneM_ok h n
theorem extM_old (l : List Int) (old : Int) : (extM l old).1 = if (extM l (-2)).1 = -2 then old else (extM l (-2)).1 := by
  match l with
  | [] => simp [extM]
  | [a] => simp [extM]
  | a :: b :: t =>
    by_cases h5 : a = 5
    · cases h : within b 0 255 with
      | false => simp [extM, h5, h]
      | true =>
        have := of_within h
        simp [extM, h5, h]
        omega
    match t with
    | [] => simp [extM, h5]
    | [c] => simp [extM, h5]
    | c :: d :: t =>
      by_cases h2 : a = 2
      · cases hb : within b 0 255 with
        | false => simp [extM, h2, hb]
        | true =>
        cases hc : within c 0 255 with
        | false => simp [extM, h2, hb, hc]
        | true =>
        cases hd : within d 0 255 with
        | false => simp [extM, h2, hb, hc, hd]
        | true =>
          have r := rgb_eq hb hc hd
          have b1 := of_within hb
          have c1 := of_within hc
          have d1 := of_within hd
          simp [extM, h2, hb, hc, hd, r]
          omega
      · simp [extM, h5, h2]
theorem extM_cnt (l : List Int) (old : Int) : (extM l old).2 = (extM l (-2)).2 := by
  match l with
  | [] => simp [extM]
  | [a] => simp [extM]
  | a :: b :: t =>
    by_cases h5 : a = 5
    · simp [extM, h5]
    match t with
    | [] => simp [extM, h5]
    | [c] => simp [extM, h5]
    | c :: d :: t => by_cases h2 : a = 2 <;> simp [extM, h5, h2]
theorem sp290 (k : Nat) : evFun (clOf (modsR tab k) 3) s290 [] = some (.agg [I (-1), I (-1), I 0], []) := by
  rw [evFun_evB rfl]
  unfold s290
  simp -implicitDefEqProofs [Lg.finK_nrm, Lg.finK_ret, Lg.seqK_nrm, Lg.seqK_ret, Lg.seqK_exit, Lg.blkK_nrm, Lg.blkK_ret, Lg.blkK_exit, Lg.evB_seq, Lg.evB_reg, Lg.evB_dregQ, Lg.quietReg, Lg.quietOp, Lg.qB_nil, Lg.qB_bar, Lg.qB_free, Lg.qbarK_ap, Lg.qfreeK_ap, Lg.evB_ret, Lg.evB_skip, Lg.evB_exit, Lg.evB_block, Lg.evB_cond, Lg.condK_true, Lg.condK_false, Lg.condK_ite, Lg.stB_cons, Lg.stB_nil, Lg.nrmK_ap, Lg.tailK_ap, Lg.drB_nil, Lg.drB_bar, Lg.drB_free, Lg.barK_ap, Lg.freeK_ap, Lg.freeC_ap, Lg.loopF_eq, Lg.foldK_ap, Lg.stepO, Lg.stepX, Lg.isCall, Lg.wanted, Lg.evX, Lg.ov, Lg.ovs, Lg.lk, Lg.putE, Lg.putH, Lg.envFrom, Lg.eats, Lg.D.int, Lg.D.bool, Lg.D.str, Lg.D.cells, Lg.noTree, Lg.noTrees, Lg.isRO, Lg.isROs, Lg.isCellD, Lg.cellsAt, Lg.part, Lg.slD, Lg.lenD, Lg.isStr, Lg.natOf, Lg.bnds, Lg.storeD, Lg.appendD, Lg.appendY, Lg.slcD, Lg.putCells, Lg.buildD, Lg.fillD, Lg.chunks, Lg.elemOf, Lg.frz1, Lg.idsD, Lg.idsDs, Lg.rof, Lg.rofs, Lg.roD, Lg.roDs, Lg.unf, Lg.unfs, Lg.thr, Lg.fld, Lg.depth, Lg.isNil, Lg.eqaD, Lg.eqLeaves, Lg.eqLeaf, Lg.unaD, Lg.cviD, Lg.binbD, Lg.binB, Lg.evCall, Lg.callM, Lg.callQ, Lg.callO, Lg.argF, Lg.plain, Lg.plains, Lg.idsRO, Lg.restore, Lg.isAlive, Lg.settle, Lg.accX, Lg.clash, Lg.loX, Lg.accS, Lg.inertX, Lg.idOf, Lg.isSomeTrue, Lg.noclB, Lg.apart, Lg.rdS, Lg.rdX, Lg.rdO, Lg.rdOs, Lg.rdM, Lg.kept, Lg.sameBx, Lg.eqD, Lg.eqDs, Lg.eqSc, Lg.resDs, Lg.resD, Lg.foldR, Lg.foldM, Lg.foldL, Lg.unfL, Lg.canon, Lg.outs, Lg.one, binD_add, binD_sub, binD_lss, binD_leq, binD_gtr, binD_geq, binD_eql, binD_neq, binD_or, binD_and, binD_andn, binD_shl, binD_shr]
end Go.Proofs.Ytohjgdaogcliiaa.LgTab
