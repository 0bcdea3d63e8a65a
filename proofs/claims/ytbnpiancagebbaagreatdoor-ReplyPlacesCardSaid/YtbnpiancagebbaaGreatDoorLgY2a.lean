import Derived.Test.YtbnpiancagebbaaGreatDoorLgY2
/-
  A screen that is made of numbers.
-/
namespace Go.Proofs.YtbnpiancagebbaaGreatDoor.LgTab
open Go Lg
set_option linter.unusedVariables false
set_option linter.unusedSimpArgs false
set_option maxRecDepth 8000
set_option maxHeartbeats 4000000 in
theorem sp66a (k : Nat) (a b : Int) (rs ps : List Int) (kr kc kt kb kf p1 p2 p3 tabs : Int) (h w : Int) (cells : List D) (w64 : evFun (clOf (modsR tab (k + 3)) 3) s64 [.agg [I a, I b, .sl 1 (rs.map I), .sl 1 (ps.map I)]] = some (.agg [I h, I w, .sl 5 cells], [])) (bh : 1 ≤ h ∧ h ≤ 5) (bw : 1 ≤ w ∧ w ≤ 9) (hcl : cells ≠ [] ∧ cells.length ≤ 47 ∧ ∀ d, d ∈ cells → isCell5 d) (h1 : 1 < h) (hr : rs.length ≤ 9223372036854775807) (hp : ps.length ≤ 9223372036854775807) :
    GoodS (evFun (clOf (modsR tab (k + 4)) 3) s66 [.agg [I a, I b, .sl 1 (rs.map I), .sl 1 (ps.map I), I kr, I kc, I kt, I kb, I kf, I p1, I p2, I p3, T64 tabs]]) := by
  rw [evFun_evB rfl]
  unfold s66
  have w65 := sp65 (k + 1) p1 p2 p3
  have w65' := sp65 (k + 1) kf 0 0
  generalize colourM p1 = pf at w65
  generalize colourM p2 = pb at w65
  generalize p3 % 256 = pg at w65
  generalize colourM kf = f2 at w65'
  generalize colourM 0 = b2 at w65'
  generalize (0 : Int) % 256 = g2 at w65'
  have eh1 : wr (h - 1) = h - 1 := wr_id _ (by omega) (by omega)
  have ew1 : wr (w - 1) = w - 1 := wr_id _ (by omega) (by omega)
  have eh2 : wr (h - 2) = h - 2 := wr_id _ (by omega) (by omega)
  obtain ⟨row, hrow⟩ : ∃ v, v = 0 + kr % (h - 1 - 0 + 1) := ⟨_, rfl⟩
  have wrow := sp174c (k + 3) kr 0 (h - 1) (by omega) (by omega) (by omega) row hrow
  have brow : 0 ≤ row ∧ row ≤ 4 := by
    have := Int.emod_nonneg kr (b := h - 1 - 0 + 1) (by omega)
    have := Int.emod_lt_of_pos kr (b := h - 1 - 0 + 1) (by omega)
    omega
  obtain ⟨col, hcol⟩ : ∃ v, v = 0 + kc % (w - 1 - 0 + 1) := ⟨_, rfl⟩
  have wcol := sp174c (k + 3) kc 0 (w - 1) (by omega) (by omega) (by omega) col hcol
  have bcol : 0 ≤ col ∧ col ≤ 8 := by
    have := Int.emod_nonneg kc (b := w - 1 - 0 + 1) (by omega)
    have := Int.emod_lt_of_pos kc (b := w - 1 - 0 + 1) (by omega)
    omega
  obtain ⟨r2, hr2⟩ : ∃ v, v = 0 + kc % (h - 1 - 0 + 1) := ⟨_, rfl⟩
  have wr2 := sp174c (k + 3) kc 0 (h - 1) (by omega) (by omega) (by omega) r2 hr2
  obtain ⟨c2, hc2⟩ : ∃ v, v = 0 + kr % (w - 1 - 0 + 1) := ⟨_, rfl⟩
  have wc2 := sp174c (k + 3) kr 0 (w - 1) (by omega) (by omega) (by omega) c2 hc2
  clear hrow hcol hr2 hc2
  obtain ⟨top, htop⟩ : ∃ v, v = 0 + kt % (h - 2 - 0 + 1) := ⟨_, rfl⟩
  have wtop := sp174c (k + 3) kt 0 (h - 2) (by omega) (by omega) (by omega) top htop
  have btop : 0 ≤ top ∧ top ≤ h - 2 := by
    have := Int.emod_nonneg kt (b := h - 2 - 0 + 1) (by omega)
    have := Int.emod_lt_of_pos kt (b := h - 2 - 0 + 1) (by omega)
    omega
  clear htop
  have et1 : wr (top + 1) = top + 1 := wr_id _ (by omega) (by omega)
  obtain ⟨bot, hbot⟩ : ∃ v, v = top + 1 + kb % (h - 1 - (top + 1) + 1) := ⟨_, rfl⟩
  have wbot := sp174c (k + 3) kb (top + 1) (h - 1) (by omega) (by omega) (by omega) bot hbot
  clear hbot
  have btop3 : 0 ≤ top ∧ top ≤ 3 := by omega
  by_cases c1 : andI kf 1 = 0
  · by_cases c2 : col = w - 1
    · by_cases c3 : andI kf 32 = 32
      · (by_cases c4 : andI kf 64 = 64 <;> by_cases c5 : andI kf 128 = 128 <;> simp -implicitDefEqProofs [Lg.finK_nrm, Lg.finK_ret, Lg.seqK_nrm, Lg.seqK_ret, Lg.seqK_exit, Lg.blkK_nrm, Lg.blkK_ret, Lg.blkK_exit, Lg.evB_seq, Lg.evB_reg, Lg.evB_dregQ, Lg.quietReg, Lg.quietOp, Lg.qB_nil, Lg.qB_bar, Lg.qB_free, Lg.qbarK_ap, Lg.qfreeK_ap, Lg.evB_ret, Lg.evB_skip, Lg.evB_exit, Lg.evB_block, Lg.evB_cond, Lg.stB_cons, Lg.stB_nil, Lg.nrmK_ap, Lg.tailK_ap, Lg.drB_nil, Lg.drB_bar, Lg.drB_free, Lg.barK_ap, Lg.freeK_ap, Lg.freeC_ap, Lg.loopF_eq, Lg.foldK_ap, Lg.condK_B, Lg.isCall, Lg.wanted, Lg.evX, Lg.ov, Lg.ovs, Lg.lk, Lg.putE, Lg.putH, Lg.envFrom, Lg.eats, Lg.D.int, Lg.D.bool, Lg.D.str, Lg.D.cells, Lg.noTree, Lg.noTrees, Lg.isRO, Lg.isROs, Lg.isCellD, Lg.cellsAt, Lg.part, Lg.slD, Lg.lenD, Lg.isStr, Lg.natOf, Lg.bnds, Lg.storeD, Lg.appendD, Lg.appendY, Lg.slcD, Lg.putCells, Lg.buildD, Lg.fillD, Lg.chunks, Lg.elemOf, Lg.frz1, Lg.idsD, Lg.idsDs, Lg.rof, Lg.rofs, Lg.roD, Lg.roDs, Lg.unf, Lg.unfs, Lg.thr, Lg.fld, Lg.depth, Lg.isNil, Lg.eqaD, Lg.eqLeaves, Lg.eqLeaf, Lg.unaD, Lg.cviD, Lg.binbD, Lg.binB, Lg.stepO_0, Lg.stepO_g, Lg.stepX_0, Lg.stepX_g, Lg.putX_ap, Lg.putS_none, Lg.putS_some, Lg.putC_ap, Lg.gdK_B, Lg.gdK_tup, Lg.evCall, Lg.callM, Lg.callQ, Lg.callO, Lg.argF, Lg.plain, Lg.plains, Lg.idsRO, Lg.restore, Lg.isAlive, Lg.settle, Lg.accX, Lg.clash, Lg.loX, Lg.accS, Lg.inertX, Lg.idOf, Lg.isSomeTrue, Lg.noclB, Lg.apart, Lg.rdS, Lg.rdX, Lg.rdO, Lg.rdOs, Lg.rdM, Lg.kept, Lg.sameBx, Lg.eqD, Lg.eqDs, Lg.eqSc, Lg.resDs, Lg.resD, Lg.foldR, Lg.foldM, Lg.foldL, Lg.unfL, Lg.canon, Lg.outs, Lg.one, binD_add, binD_sub, binD_lss, binD_leq, binD_gtr, binD_geq, binD_eql, binD_neq, binD_or, binD_and, binD_andn, binD_shl, binD_shr, binK_eql, binK_neq, binK_lss, binK_leq, binK_gtr, binK_geq, cw64, w64, cw65, cr65, w65, w65', cw174, cr174, eh1, ew1, eh2, wrow, wcol, wr2, wc2, wtop, wbot, et1, h1, c1, c2, c3, c4, c5] <;> exact good_s _ _ _ _ _ _ _ _ _ _ _ _ _ _ _ _ _ _ _ _ _ _ _ _ _ _ _ _ _ brow (by omega) btop3 bh bw hcl)
      · (by_cases c4 : andI kf 64 = 64 <;> by_cases c5 : andI kf 128 = 128 <;> simp -implicitDefEqProofs [Lg.finK_nrm, Lg.finK_ret, Lg.seqK_nrm, Lg.seqK_ret, Lg.seqK_exit, Lg.blkK_nrm, Lg.blkK_ret, Lg.blkK_exit, Lg.evB_seq, Lg.evB_reg, Lg.evB_dregQ, Lg.quietReg, Lg.quietOp, Lg.qB_nil, Lg.qB_bar, Lg.qB_free, Lg.qbarK_ap, Lg.qfreeK_ap, Lg.evB_ret, Lg.evB_skip, Lg.evB_exit, Lg.evB_block, Lg.evB_cond, Lg.stB_cons, Lg.stB_nil, Lg.nrmK_ap, Lg.tailK_ap, Lg.drB_nil, Lg.drB_bar, Lg.drB_free, Lg.barK_ap, Lg.freeK_ap, Lg.freeC_ap, Lg.loopF_eq, Lg.foldK_ap, Lg.condK_B, Lg.isCall, Lg.wanted, Lg.evX, Lg.ov, Lg.ovs, Lg.lk, Lg.putE, Lg.putH, Lg.envFrom, Lg.eats, Lg.D.int, Lg.D.bool, Lg.D.str, Lg.D.cells, Lg.noTree, Lg.noTrees, Lg.isRO, Lg.isROs, Lg.isCellD, Lg.cellsAt, Lg.part, Lg.slD, Lg.lenD, Lg.isStr, Lg.natOf, Lg.bnds, Lg.storeD, Lg.appendD, Lg.appendY, Lg.slcD, Lg.putCells, Lg.buildD, Lg.fillD, Lg.chunks, Lg.elemOf, Lg.frz1, Lg.idsD, Lg.idsDs, Lg.rof, Lg.rofs, Lg.roD, Lg.roDs, Lg.unf, Lg.unfs, Lg.thr, Lg.fld, Lg.depth, Lg.isNil, Lg.eqaD, Lg.eqLeaves, Lg.eqLeaf, Lg.unaD, Lg.cviD, Lg.binbD, Lg.binB, Lg.stepO_0, Lg.stepO_g, Lg.stepX_0, Lg.stepX_g, Lg.putX_ap, Lg.putS_none, Lg.putS_some, Lg.putC_ap, Lg.gdK_B, Lg.gdK_tup, Lg.evCall, Lg.callM, Lg.callQ, Lg.callO, Lg.argF, Lg.plain, Lg.plains, Lg.idsRO, Lg.restore, Lg.isAlive, Lg.settle, Lg.accX, Lg.clash, Lg.loX, Lg.accS, Lg.inertX, Lg.idOf, Lg.isSomeTrue, Lg.noclB, Lg.apart, Lg.rdS, Lg.rdX, Lg.rdO, Lg.rdOs, Lg.rdM, Lg.kept, Lg.sameBx, Lg.eqD, Lg.eqDs, Lg.eqSc, Lg.resDs, Lg.resD, Lg.foldR, Lg.foldM, Lg.foldL, Lg.unfL, Lg.canon, Lg.outs, Lg.one, binD_add, binD_sub, binD_lss, binD_leq, binD_gtr, binD_geq, binD_eql, binD_neq, binD_or, binD_and, binD_andn, binD_shl, binD_shr, binK_eql, binK_neq, binK_lss, binK_leq, binK_gtr, binK_geq, cw64, w64, cw65, cr65, w65, w65', cw174, cr174, eh1, ew1, eh2, wrow, wcol, wr2, wc2, wtop, wbot, et1, h1, c1, c2, c3, c4, c5] <;> exact good_s _ _ _ _ _ _ _ _ _ _ _ _ _ _ _ _ _ _ _ _ _ _ _ _ _ _ _ _ _ brow (by omega) btop3 bh bw hcl)
    · (by_cases c4 : andI kf 64 = 64 <;> by_cases c5 : andI kf 128 = 128 <;> simp -implicitDefEqProofs [Lg.finK_nrm, Lg.finK_ret, Lg.seqK_nrm, Lg.seqK_ret, Lg.seqK_exit, Lg.blkK_nrm, Lg.blkK_ret, Lg.blkK_exit, Lg.evB_seq, Lg.evB_reg, Lg.evB_dregQ, Lg.quietReg, Lg.quietOp, Lg.qB_nil, Lg.qB_bar, Lg.qB_free, Lg.qbarK_ap, Lg.qfreeK_ap, Lg.evB_ret, Lg.evB_skip, Lg.evB_exit, Lg.evB_block, Lg.evB_cond, Lg.stB_cons, Lg.stB_nil, Lg.nrmK_ap, Lg.tailK_ap, Lg.drB_nil, Lg.drB_bar, Lg.drB_free, Lg.barK_ap, Lg.freeK_ap, Lg.freeC_ap, Lg.loopF_eq, Lg.foldK_ap, Lg.condK_B, Lg.isCall, Lg.wanted, Lg.evX, Lg.ov, Lg.ovs, Lg.lk, Lg.putE, Lg.putH, Lg.envFrom, Lg.eats, Lg.D.int, Lg.D.bool, Lg.D.str, Lg.D.cells, Lg.noTree, Lg.noTrees, Lg.isRO, Lg.isROs, Lg.isCellD, Lg.cellsAt, Lg.part, Lg.slD, Lg.lenD, Lg.isStr, Lg.natOf, Lg.bnds, Lg.storeD, Lg.appendD, Lg.appendY, Lg.slcD, Lg.putCells, Lg.buildD, Lg.fillD, Lg.chunks, Lg.elemOf, Lg.frz1, Lg.idsD, Lg.idsDs, Lg.rof, Lg.rofs, Lg.roD, Lg.roDs, Lg.unf, Lg.unfs, Lg.thr, Lg.fld, Lg.depth, Lg.isNil, Lg.eqaD, Lg.eqLeaves, Lg.eqLeaf, Lg.unaD, Lg.cviD, Lg.binbD, Lg.binB, Lg.stepO_0, Lg.stepO_g, Lg.stepX_0, Lg.stepX_g, Lg.putX_ap, Lg.putS_none, Lg.putS_some, Lg.putC_ap, Lg.gdK_B, Lg.gdK_tup, Lg.evCall, Lg.callM, Lg.callQ, Lg.callO, Lg.argF, Lg.plain, Lg.plains, Lg.idsRO, Lg.restore, Lg.isAlive, Lg.settle, Lg.accX, Lg.clash, Lg.loX, Lg.accS, Lg.inertX, Lg.idOf, Lg.isSomeTrue, Lg.noclB, Lg.apart, Lg.rdS, Lg.rdX, Lg.rdO, Lg.rdOs, Lg.rdM, Lg.kept, Lg.sameBx, Lg.eqD, Lg.eqDs, Lg.eqSc, Lg.resDs, Lg.resD, Lg.foldR, Lg.foldM, Lg.foldL, Lg.unfL, Lg.canon, Lg.outs, Lg.one, binD_add, binD_sub, binD_lss, binD_leq, binD_gtr, binD_geq, binD_eql, binD_neq, binD_or, binD_and, binD_andn, binD_shl, binD_shr, binK_eql, binK_neq, binK_lss, binK_leq, binK_gtr, binK_geq, cw64, w64, cw65, cr65, w65, w65', cw174, cr174, eh1, ew1, eh2, wrow, wcol, wr2, wc2, wtop, wbot, et1, h1, c1, c2, c4, c5] <;> exact good_s _ _ _ _ _ _ _ _ _ _ _ _ _ _ _ _ _ _ _ _ _ _ _ _ _ _ _ _ _ brow (by omega) btop3 bh bw hcl)
  · (by_cases c4 : andI kf 64 = 64 <;> by_cases c5 : andI kf 128 = 128 <;> simp -implicitDefEqProofs [Lg.finK_nrm, Lg.finK_ret, Lg.seqK_nrm, Lg.seqK_ret, Lg.seqK_exit, Lg.blkK_nrm, Lg.blkK_ret, Lg.blkK_exit, Lg.evB_seq, Lg.evB_reg, Lg.evB_dregQ, Lg.quietReg, Lg.quietOp, Lg.qB_nil, Lg.qB_bar, Lg.qB_free, Lg.qbarK_ap, Lg.qfreeK_ap, Lg.evB_ret, Lg.evB_skip, Lg.evB_exit, Lg.evB_block, Lg.evB_cond, Lg.stB_cons, Lg.stB_nil, Lg.nrmK_ap, Lg.tailK_ap, Lg.drB_nil, Lg.drB_bar, Lg.drB_free, Lg.barK_ap, Lg.freeK_ap, Lg.freeC_ap, Lg.loopF_eq, Lg.foldK_ap, Lg.condK_B, Lg.isCall, Lg.wanted, Lg.evX, Lg.ov, Lg.ovs, Lg.lk, Lg.putE, Lg.putH, Lg.envFrom, Lg.eats, Lg.D.int, Lg.D.bool, Lg.D.str, Lg.D.cells, Lg.noTree, Lg.noTrees, Lg.isRO, Lg.isROs, Lg.isCellD, Lg.cellsAt, Lg.part, Lg.slD, Lg.lenD, Lg.isStr, Lg.natOf, Lg.bnds, Lg.storeD, Lg.appendD, Lg.appendY, Lg.slcD, Lg.putCells, Lg.buildD, Lg.fillD, Lg.chunks, Lg.elemOf, Lg.frz1, Lg.idsD, Lg.idsDs, Lg.rof, Lg.rofs, Lg.roD, Lg.roDs, Lg.unf, Lg.unfs, Lg.thr, Lg.fld, Lg.depth, Lg.isNil, Lg.eqaD, Lg.eqLeaves, Lg.eqLeaf, Lg.unaD, Lg.cviD, Lg.binbD, Lg.binB, Lg.stepO_0, Lg.stepO_g, Lg.stepX_0, Lg.stepX_g, Lg.putX_ap, Lg.putS_none, Lg.putS_some, Lg.putC_ap, Lg.gdK_B, Lg.gdK_tup, Lg.evCall, Lg.callM, Lg.callQ, Lg.callO, Lg.argF, Lg.plain, Lg.plains, Lg.idsRO, Lg.restore, Lg.isAlive, Lg.settle, Lg.accX, Lg.clash, Lg.loX, Lg.accS, Lg.inertX, Lg.idOf, Lg.isSomeTrue, Lg.noclB, Lg.apart, Lg.rdS, Lg.rdX, Lg.rdO, Lg.rdOs, Lg.rdM, Lg.kept, Lg.sameBx, Lg.eqD, Lg.eqDs, Lg.eqSc, Lg.resDs, Lg.resD, Lg.foldR, Lg.foldM, Lg.foldL, Lg.unfL, Lg.canon, Lg.outs, Lg.one, binD_add, binD_sub, binD_lss, binD_leq, binD_gtr, binD_geq, binD_eql, binD_neq, binD_or, binD_and, binD_andn, binD_shl, binD_shr, binK_eql, binK_neq, binK_lss, binK_leq, binK_gtr, binK_geq, cw64, w64, cw65, cr65, w65, w65', cw174, cr174, eh1, ew1, eh2, wrow, wcol, wr2, wc2, wtop, wbot, et1, h1, c1, c4, c5] <;> exact good_s _ _ _ _ _ _ _ _ _ _ _ _ _ _ _ _ _ _ _ _ _ _ _ _ _ _ _ _ _ brow (by omega) btop3 bh bw hcl)
end Go.Proofs.YtbnpiancagebbaaGreatDoor.LgTab
