import Derived.Test.YtbnpiancagebbaaGreatDoorLgP0
/-
  Helpers of the statements: what each computes.
-/
namespace Go.Proofs.YtbnpiancagebbaaGreatDoor.LgTab
open Go Lg
set_option linter.unusedVariables false
set_option linter.unusedSimpArgs false
set_option maxRecDepth 8000
abbrev U (n : Int) : D := .sc (.int .u8 n)
abbrev R (n : Int) : D := .sc (.int .i32 n)
theorem wrap_i32 (n : Int) (h0 : -2147483648 ≤ n) (h1 : n ≤ 2147483647) : IntKind.i32.wrap n = n := by
  have e1 : IntKind.i32.wrap n = if decide (n % 4294967296 ≥ 2147483648) = true then n % 4294967296 - 4294967296 else n % 4294967296 := rfl
  rw [e1]
  simp only [decide_eq_true_eq]
  split <;> omega
theorem wrap_u8 (n : Int) (h0 : 0 ≤ n) (h1 : n ≤ 255) : IntKind.u8.wrap n = n := by
  have e1 : IntKind.u8.wrap n = n % 256 := rfl
  rw [e1]
  omega
theorem tmod_neg {n d : Int} (hd : 0 < d) (h : n.tmod d < 0) : n.tmod d + d = n % d := by
  have h0 := Int.emod_nonneg n (b := d) (by omega)
  rw [Int.tmod_eq_emod] at h ⊢
  split <;> rename_i h1
  · rw [if_pos h1] at h; omega
  · omega
theorem tmod_pos {n d : Int} (hd : 0 < d) (h : ¬ n.tmod d < 0) : n.tmod d = n % d := by
  have h0 := Int.emod_lt_of_pos n hd
  rw [Int.tmod_eq_emod] at h ⊢
  split <;> rename_i h1
  · omega
  · rw [if_neg h1] at h; omega
theorem sp174 (k : Nat) (n lo hi : Int) (h1 : -1099511627776 ≤ lo) (h2 : lo ≤ hi) (h3 : hi ≤ 1099511627776) : evFun (clOf (modsR tab k) 3) s174 [I n, I lo, I hi] = some (I (lo + n % (hi - lo + 1)), []) := by
  rw [evFun_evB rfl]
  unfold s174
  have e1 : wr (hi - lo) = hi - lo := wr_id _ (by omega) (by omega)
  have e2 : wr (hi - lo + 1) = hi - lo + 1 := wr_id _ (by omega) (by omega)
  have hd : 0 < hi - lo + 1 := by omega
  have hz : ¬ (hi - lo + 1 = 0) := by omega
  have b0 := Int.emod_nonneg n (b := hi - lo + 1) (by omega)
  have b1 := Int.emod_lt_of_pos n hd
  by_cases hn : n.tmod (hi - lo + 1) < 0
  · have t := tmod_neg hd hn
    have e3 : wr (n.tmod (hi - lo + 1) + hi) = n.tmod (hi - lo + 1) + hi := wr_id _ (by omega) (by omega)
    have e4 : wr (n.tmod (hi - lo + 1) + hi - lo) = n.tmod (hi - lo + 1) + hi - lo := wr_id _ (by omega) (by omega)
    have e5 : wr (n.tmod (hi - lo + 1) + hi - lo + 1) = n % (hi - lo + 1) := by rw [wr_id _ (by omega) (by omega)]; omega
    have e6 : wr (lo + n % (hi - lo + 1)) = lo + n % (hi - lo + 1) := wr_id _ (by omega) (by omega)
    simp -implicitDefEqProofs [Lg.finK_nrm, Lg.finK_ret, Lg.seqK_nrm, Lg.seqK_ret, Lg.seqK_exit, Lg.blkK_nrm, Lg.blkK_ret, Lg.blkK_exit, Lg.evB_seq, Lg.evB_reg, Lg.evB_dregQ, Lg.quietReg, Lg.quietOp, Lg.qB_nil, Lg.qB_bar, Lg.qB_free, Lg.qbarK_ap, Lg.qfreeK_ap, Lg.evB_ret, Lg.evB_skip, Lg.evB_exit, Lg.evB_block, Lg.evB_cond, Lg.condK_true, Lg.condK_false, Lg.condK_ite, Lg.stB_cons, Lg.stB_nil, Lg.nrmK_ap, Lg.tailK_ap, Lg.drB_nil, Lg.drB_bar, Lg.drB_free, Lg.barK_ap, Lg.freeK_ap, Lg.freeC_ap, Lg.loopF_eq, Lg.foldK_ap, Lg.stepO, Lg.stepX, Lg.isCall, Lg.wanted, Lg.evX, Lg.ov, Lg.ovs, Lg.lk, Lg.putE, Lg.putH, Lg.envFrom, Lg.eats, Lg.D.int, Lg.D.bool, Lg.D.str, Lg.D.cells, Lg.noTree, Lg.noTrees, Lg.isRO, Lg.isROs, Lg.isCellD, Lg.cellsAt, Lg.part, Lg.slD, Lg.lenD, Lg.isStr, Lg.natOf, Lg.bnds, Lg.storeD, Lg.appendD, Lg.appendY, Lg.slcD, Lg.putCells, Lg.buildD, Lg.fillD, Lg.chunks, Lg.elemOf, Lg.frz1, Lg.idsD, Lg.idsDs, Lg.rof, Lg.rofs, Lg.roD, Lg.roDs, Lg.unf, Lg.unfs, Lg.thr, Lg.fld, Lg.depth, Lg.isNil, Lg.eqaD, Lg.eqLeaves, Lg.eqLeaf, Lg.unaD, Lg.cviD, Lg.binbD, Lg.binB, Lg.evCall, Lg.callM, Lg.callQ, Lg.callO, Lg.argF, Lg.plain, Lg.plains, Lg.idsRO, Lg.restore, Lg.isAlive, Lg.settle, Lg.accX, Lg.clash, Lg.loX, Lg.accS, Lg.inertX, Lg.idOf, Lg.isSomeTrue, Lg.noclB, Lg.apart, Lg.rdS, Lg.rdX, Lg.rdO, Lg.rdOs, Lg.rdM, Lg.kept, Lg.sameBx, Lg.eqD, Lg.eqDs, Lg.eqSc, Lg.resDs, Lg.resD, Lg.foldR, Lg.foldM, Lg.foldL, Lg.unfL, Lg.canon, Lg.outs, Lg.one, binD_add, binD_sub, binD_lss, binD_leq, binD_gtr, binD_geq, binD_eql, binD_neq, binD_or, binD_and, binD_andn, binD_shl, binD_shr, binD_rem, e1, e2, e3, e4, e5, e6, hz, hn]
  · have t := tmod_pos hd hn
    rw [t] at hn
    have e6 : wr (lo + n % (hi - lo + 1)) = lo + n % (hi - lo + 1) := wr_id _ (by omega) (by omega)
    simp -implicitDefEqProofs [Lg.finK_nrm, Lg.finK_ret, Lg.seqK_nrm, Lg.seqK_ret, Lg.seqK_exit, Lg.blkK_nrm, Lg.blkK_ret, Lg.blkK_exit, Lg.evB_seq, Lg.evB_reg, Lg.evB_dregQ, Lg.quietReg, Lg.quietOp, Lg.qB_nil, Lg.qB_bar, Lg.qB_free, Lg.qbarK_ap, Lg.qfreeK_ap, Lg.evB_ret, Lg.evB_skip, Lg.evB_exit, Lg.evB_block, Lg.evB_cond, Lg.condK_true, Lg.condK_false, Lg.condK_ite, Lg.stB_cons, Lg.stB_nil, Lg.nrmK_ap, Lg.tailK_ap, Lg.drB_nil, Lg.drB_bar, Lg.drB_free, Lg.barK_ap, Lg.freeK_ap, Lg.freeC_ap, Lg.loopF_eq, Lg.foldK_ap, Lg.stepO, Lg.stepX, Lg.isCall, Lg.wanted, Lg.evX, Lg.ov, Lg.ovs, Lg.lk, Lg.putE, Lg.putH, Lg.envFrom, Lg.eats, Lg.D.int, Lg.D.bool, Lg.D.str, Lg.D.cells, Lg.noTree, Lg.noTrees, Lg.isRO, Lg.isROs, Lg.isCellD, Lg.cellsAt, Lg.part, Lg.slD, Lg.lenD, Lg.isStr, Lg.natOf, Lg.bnds, Lg.storeD, Lg.appendD, Lg.appendY, Lg.slcD, Lg.putCells, Lg.buildD, Lg.fillD, Lg.chunks, Lg.elemOf, Lg.frz1, Lg.idsD, Lg.idsDs, Lg.rof, Lg.rofs, Lg.roD, Lg.roDs, Lg.unf, Lg.unfs, Lg.thr, Lg.fld, Lg.depth, Lg.isNil, Lg.eqaD, Lg.eqLeaves, Lg.eqLeaf, Lg.unaD, Lg.cviD, Lg.binbD, Lg.binB, Lg.evCall, Lg.callM, Lg.callQ, Lg.callO, Lg.argF, Lg.plain, Lg.plains, Lg.idsRO, Lg.restore, Lg.isAlive, Lg.settle, Lg.accX, Lg.clash, Lg.loX, Lg.accS, Lg.inertX, Lg.idOf, Lg.isSomeTrue, Lg.noclB, Lg.apart, Lg.rdS, Lg.rdX, Lg.rdO, Lg.rdOs, Lg.rdM, Lg.kept, Lg.sameBx, Lg.eqD, Lg.eqDs, Lg.eqSc, Lg.resDs, Lg.resD, Lg.foldR, Lg.foldM, Lg.foldL, Lg.unfL, Lg.canon, Lg.outs, Lg.one, binD_add, binD_sub, binD_lss, binD_leq, binD_gtr, binD_geq, binD_eql, binD_neq, binD_or, binD_and, binD_andn, binD_shl, binD_shr, binD_rem, e1, e2, e6, hz, hn, t]
/-- Within, of bounds that are known. -/
theorem sp174c (k : Nat) (n lo hi : Int) (h1 : -1099511627776 ≤ lo) (h2 : lo ≤ hi) (h3 : hi ≤ 1099511627776) (w : Int) (hw : w = lo + n % (hi - lo + 1)) : evFun (clOf (modsR tab k) 3) s174 [I n, I lo, I hi] = some (I w, []) := by rw [hw]; exact sp174 k n lo hi h1 h2 h3
theorem plains_I : ∀ l : List Int, plains (l.map I) = true
  | [] => rfl
  | n :: l => by simp [plains, plain, plains_I l]
theorem eqDs_I : ∀ l : List Int, eqDs (l.map I) (l.map I) = true
  | [] => rfl
  | n :: l => by simp [eqDs, eqD, eqSc, eqDs_I l]
theorem isROs_I : ∀ l : List Int, isROs (l.map I) = true
  | [] => rfl
  | n :: l => by simp [isROs, isRO, isROs_I l]
theorem take_snoc {α : Type} {l : List α} {i : Nat} {x : α} (h : l[i]? = some x) : l.take (i + 1) = l.take i ++ [x] := by
  rw [List.take_add_one, h]; rfl
theorem get_of {α : Type} {l : List α} {i : Nat} {x : α} (g : l[i]? = some x) : ∀ h : i < l.length, l[i]'h = x := fun h => by
  rw [List.getElem?_eq_getElem h] at g
  injection g
theorem clampEq {l h : Int} (hl : l ≤ h) (x : Int) : mxI l (mnI x h) = mnI (mxI x l) h := by
  unfold mxI mnI
  repeat' split
  all_goals omega
end Go.Proofs.YtbnpiancagebbaaGreatDoor.LgTab
