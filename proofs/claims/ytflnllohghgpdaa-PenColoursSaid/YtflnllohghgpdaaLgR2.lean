import Derived.Test.YtflnllohghgpdaaLgR1
/-
  PenColours: its law.
-/
namespace Go.Proofs.Ytflnllohghgpdaa.LgTab
open Go Lg
set_option linter.unusedVariables false
set_option linter.unusedSimpArgs false
set_option maxRecDepth 8000
set_option maxHeartbeats 8000000 in
theorem sp182 (k : Nat) (a0 b0 c0 n r0 g0 bb : Int) : evFun (clOf (modsR tab (k + 6)) 3) s182 [.agg [I a0, I b0, I c0], I n, I r0, I g0, I bb] = some (B true, []) := by
  rw [evFun_evB rfl]
  unfold s182
  have h65 := sp65 (k + 3) a0 b0 c0
  generalize colourM a0 = f at h65
  generalize colourM b0 = b at h65
  obtain ⟨g, hg⟩ : ∃ g, g = c0 % 256 := ⟨_, rfl⟩
  rw [← hg] at h65
  have bg : 0 ≤ g ∧ g ≤ 255 := by omega
  obtain ⟨c, hc⟩ : ∃ c, c = 0 + n % (255 - 0 + 1) := ⟨_, rfl⟩
  have wc := sp174c (k + 5) n 0 255 (by omega) (by omega) (by omega) c hc
  have bc : 0 ≤ c ∧ c ≤ 255 := by omega
  obtain ⟨x, hx⟩ : ∃ x, x = 0 + r0 % (255 - 0 + 1) := ⟨_, rfl⟩
  have wx := sp174c (k + 5) r0 0 255 (by omega) (by omega) (by omega) x hx
  have bx : 0 ≤ x ∧ x ≤ 255 := by omega
  obtain ⟨y, hy⟩ : ∃ y, y = 0 + g0 % (255 - 0 + 1) := ⟨_, rfl⟩
  have wy := sp174c (k + 5) g0 0 255 (by omega) (by omega) (by omega) y hy
  have by' : 0 ≤ y ∧ y ≤ 255 := by omega
  obtain ⟨z, hz⟩ : ∃ z, z = 0 + bb % (255 - 0 + 1) := ⟨_, rfl⟩
  have wz := sp174c (k + 5) bb 0 255 (by omega) (by omega) (by omega) z hz
  have bz : 0 ≤ z ∧ z ≤ 255 := by omega
  clear hg hc hx hy hz
  have a1 := sp340_l (k + 2) f b g [38, 5, c, 48, 2, x, y, z] _ (by simp) (by simp) (ap_two f b g c x y z bc bx by' bz)
  have a4 := sp340_l (k + 2) f b g [6, 21, 26, 50, 108, 300] _ (by simp) (by simp) (ap_none f b g bg)
  have a5 := sp340_l (k + 2) f b g [38, 5] _ (by simp) (by simp) (ap_385 f b g)
  have a6 := sp340_l (k + 2) f b g [38, 2, 1, 2] _ (by simp) (by simp) (ap_38212 f b g)
  have a7 := sp340_l (k + 2) f b g [38, 9, 1, 31] _ (by simp) (by simp) (ap_389 f b g)
  have a8 := sp340_l (k + 2) f b g [38, 5, 256, 4] _ (by simp) (by simp) (ap_256 f b g)
  have a9 := sp340_l (k + 2) f b g [38, 2, 1, 2, 256, 4] _ (by simp) (by simp) (ap_2256 f b g)
  have a10 := sp340_l (k + 2) f b g [-1] _ (by simp) (by simp) (ap_plain f b g)
  simp only [List.map_cons, List.map_nil] at a1 a4 a5 a6 a7 a8 a9 a10
  have t8 : c.tmod 8 = c % 8 := tmod_pos (by omega) (Int.not_lt.2 (Int.tmod_nonneg 8 bc.1))
  have e1 : wr (x * 65536) = x * 65536 := wr_id _ (by omega) (by omega)
  have e2 : wr (16777216 + x * 65536) = 16777216 + x * 65536 := wr_id _ (by omega) (by omega)
  have e3 : wr (y * 256) = y * 256 := wr_id _ (by omega) (by omega)
  have e4 : wr (16777216 + x * 65536 + y * 256) = 16777216 + x * 65536 + y * 256 := wr_id _ (by omega) (by omega)
  have e5 : wr (16777216 + x * 65536 + y * 256 + z) = 16777216 + x * 65536 + y * 256 + z := wr_id _ (by omega) (by omega)
  have e6 : wr (30 + c % 8) = 30 + c % 8 := wr_id _ (by omega) (by omega)
  have e7 : wr (90 + c % 8) = 90 + c % 8 := wr_id _ (by omega) (by omega)
  by_cases h8 : 8 ≤ c
  · by_cases h16 : c < 16
    · have p1 := sp340_l (k + 2) f b g [90 + c % 8] _ (by simp) (by simp) (ap_fore f b g (90 + c % 8) (by omega))
      have p2 := sp340_l (k + 2) f b g [100 + c % 8] _ (by simp) (by simp) (ap_back f b g (100 + c % 8) (by omega))
      have q1 : (if 90 + c % 8 < 90 then 90 + c % 8 - 30 else 90 + c % 8 - 82) = c := by rw [if_neg (by omega)]; omega
      have q2 : (if 100 + c % 8 < 90 then 100 + c % 8 - 40 else 100 + c % 8 - 92) = c := by rw [if_neg (by omega)]; omega
      simp only [List.map_cons, List.map_nil, q1, q2] at p1 p2
      have e8 : wr (90 + c % 8 + 10) = 100 + c % 8 := by rw [wr_id _ (by omega) (by omega)]; omega
      simp -implicitDefEqProofs [Lg.finK_nrm, Lg.finK_ret, Lg.seqK_nrm, Lg.seqK_ret, Lg.seqK_exit, Lg.blkK_nrm, Lg.blkK_ret, Lg.blkK_exit, Lg.evB_seq, Lg.evB_reg, Lg.evB_dregQ, Lg.quietReg, Lg.quietOp, Lg.qB_nil, Lg.qB_bar, Lg.qB_free, Lg.qbarK_ap, Lg.qfreeK_ap, Lg.evB_ret, Lg.evB_skip, Lg.evB_exit, Lg.evB_block, Lg.evB_cond, Lg.stB_cons, Lg.stB_nil, Lg.nrmK_ap, Lg.tailK_ap, Lg.drB_nil, Lg.drB_bar, Lg.drB_free, Lg.barK_ap, Lg.freeK_ap, Lg.freeC_ap, Lg.loopF_eq, Lg.foldK_ap, Lg.condK_B, Lg.isCall, Lg.wanted, Lg.evX, Lg.ov, Lg.ovs, Lg.lk, Lg.putE, Lg.putH, Lg.envFrom, Lg.eats, Lg.D.int, Lg.D.bool, Lg.D.str, Lg.D.cells, Lg.noTree, Lg.noTrees, Lg.isRO, Lg.isROs, Lg.isCellD, Lg.cellsAt, Lg.part, Lg.slD, Lg.lenD, Lg.isStr, Lg.natOf, Lg.bnds, Lg.storeD, Lg.appendD, Lg.appendY, Lg.slcD, Lg.putCells, Lg.buildD, Lg.fillD, Lg.chunks, Lg.elemOf, Lg.frz1, Lg.idsD, Lg.idsDs, Lg.rof, Lg.rofs, Lg.roD, Lg.roDs, Lg.unf, Lg.unfs, Lg.thr, Lg.fld, Lg.depth, Lg.isNil, Lg.eqaD, Lg.eqLeaves, Lg.eqLeaf, Lg.unaD, Lg.cviD, Lg.binbD, Lg.binB, Lg.stepO_0, Lg.stepO_g, Lg.stepX_0, Lg.stepX_g, Lg.putX_ap, Lg.putS_none, Lg.putS_some, Lg.putC_ap, Lg.gdK_B, Lg.gdK_tup, Lg.evCall, Lg.callM, Lg.callQ, Lg.callO, Lg.argF, Lg.plain, Lg.plains, Lg.idsRO, Lg.restore, Lg.isAlive, Lg.settle, Lg.accX, Lg.clash, Lg.loX, Lg.accS, Lg.inertX, Lg.idOf, Lg.isSomeTrue, Lg.noclB, Lg.apart, Lg.rdS, Lg.rdX, Lg.rdO, Lg.rdOs, Lg.rdM, Lg.kept, Lg.sameBx, Lg.eqD, Lg.eqDs, Lg.eqSc, Lg.resDs, Lg.resD, Lg.foldR, Lg.foldM, Lg.foldL, Lg.unfL, Lg.canon, Lg.outs, Lg.one, binD_add, binD_sub, binD_lss, binD_leq, binD_gtr, binD_geq, binD_eql, binD_neq, binD_or, binD_and, binD_andn, binD_shl, binD_shr, binK_eql, binK_neq, binK_lss, binK_leq, binK_gtr, binK_geq, binD_rem, binD_mul, cw174, cw65, cw340, cr340, cw290, sp290, cw184, sp184, h65, wc, wx, wy, wz, a1, a4, a5, a6, a7, a8, a9, a10, t8, e1, e2, e3, e4, e5, e6, e7, e8, p1, p2, h8, h16]
    · simp -implicitDefEqProofs [Lg.finK_nrm, Lg.finK_ret, Lg.seqK_nrm, Lg.seqK_ret, Lg.seqK_exit, Lg.blkK_nrm, Lg.blkK_ret, Lg.blkK_exit, Lg.evB_seq, Lg.evB_reg, Lg.evB_dregQ, Lg.quietReg, Lg.quietOp, Lg.qB_nil, Lg.qB_bar, Lg.qB_free, Lg.qbarK_ap, Lg.qfreeK_ap, Lg.evB_ret, Lg.evB_skip, Lg.evB_exit, Lg.evB_block, Lg.evB_cond, Lg.stB_cons, Lg.stB_nil, Lg.nrmK_ap, Lg.tailK_ap, Lg.drB_nil, Lg.drB_bar, Lg.drB_free, Lg.barK_ap, Lg.freeK_ap, Lg.freeC_ap, Lg.loopF_eq, Lg.foldK_ap, Lg.condK_B, Lg.isCall, Lg.wanted, Lg.evX, Lg.ov, Lg.ovs, Lg.lk, Lg.putE, Lg.putH, Lg.envFrom, Lg.eats, Lg.D.int, Lg.D.bool, Lg.D.str, Lg.D.cells, Lg.noTree, Lg.noTrees, Lg.isRO, Lg.isROs, Lg.isCellD, Lg.cellsAt, Lg.part, Lg.slD, Lg.lenD, Lg.isStr, Lg.natOf, Lg.bnds, Lg.storeD, Lg.appendD, Lg.appendY, Lg.slcD, Lg.putCells, Lg.buildD, Lg.fillD, Lg.chunks, Lg.elemOf, Lg.frz1, Lg.idsD, Lg.idsDs, Lg.rof, Lg.rofs, Lg.roD, Lg.roDs, Lg.unf, Lg.unfs, Lg.thr, Lg.fld, Lg.depth, Lg.isNil, Lg.eqaD, Lg.eqLeaves, Lg.eqLeaf, Lg.unaD, Lg.cviD, Lg.binbD, Lg.binB, Lg.stepO_0, Lg.stepO_g, Lg.stepX_0, Lg.stepX_g, Lg.putX_ap, Lg.putS_none, Lg.putS_some, Lg.putC_ap, Lg.gdK_B, Lg.gdK_tup, Lg.evCall, Lg.callM, Lg.callQ, Lg.callO, Lg.argF, Lg.plain, Lg.plains, Lg.idsRO, Lg.restore, Lg.isAlive, Lg.settle, Lg.accX, Lg.clash, Lg.loX, Lg.accS, Lg.inertX, Lg.idOf, Lg.isSomeTrue, Lg.noclB, Lg.apart, Lg.rdS, Lg.rdX, Lg.rdO, Lg.rdOs, Lg.rdM, Lg.kept, Lg.sameBx, Lg.eqD, Lg.eqDs, Lg.eqSc, Lg.resDs, Lg.resD, Lg.foldR, Lg.foldM, Lg.foldL, Lg.unfL, Lg.canon, Lg.outs, Lg.one, binD_add, binD_sub, binD_lss, binD_leq, binD_gtr, binD_geq, binD_eql, binD_neq, binD_or, binD_and, binD_andn, binD_shl, binD_shr, binK_eql, binK_neq, binK_lss, binK_leq, binK_gtr, binK_geq, binD_rem, binD_mul, cw174, cw65, cw340, cr340, cw290, sp290, cw184, sp184, h65, wc, wx, wy, wz, a1, a4, a5, a6, a7, a8, a9, a10, t8, e1, e2, e3, e4, e5, e6, e7, h8, h16]
  · have h16 : c < 16 := by omega
    have p1 := sp340_l (k + 2) f b g [30 + c % 8] _ (by simp) (by simp) (ap_fore f b g (30 + c % 8) (by omega))
    have p2 := sp340_l (k + 2) f b g [40 + c % 8] _ (by simp) (by simp) (ap_back f b g (40 + c % 8) (by omega))
    have q1 : (if 30 + c % 8 < 90 then 30 + c % 8 - 30 else 30 + c % 8 - 82) = c := by rw [if_pos (by omega)]; omega
    have q2 : (if 40 + c % 8 < 90 then 40 + c % 8 - 40 else 40 + c % 8 - 92) = c := by rw [if_pos (by omega)]; omega
    simp only [List.map_cons, List.map_nil, q1, q2] at p1 p2
    have e8 : wr (30 + c % 8 + 10) = 40 + c % 8 := by rw [wr_id _ (by omega) (by omega)]; omega
    simp -implicitDefEqProofs [Lg.finK_nrm, Lg.finK_ret, Lg.seqK_nrm, Lg.seqK_ret, Lg.seqK_exit, Lg.blkK_nrm, Lg.blkK_ret, Lg.blkK_exit, Lg.evB_seq, Lg.evB_reg, Lg.evB_dregQ, Lg.quietReg, Lg.quietOp, Lg.qB_nil, Lg.qB_bar, Lg.qB_free, Lg.qbarK_ap, Lg.qfreeK_ap, Lg.evB_ret, Lg.evB_skip, Lg.evB_exit, Lg.evB_block, Lg.evB_cond, Lg.stB_cons, Lg.stB_nil, Lg.nrmK_ap, Lg.tailK_ap, Lg.drB_nil, Lg.drB_bar, Lg.drB_free, Lg.barK_ap, Lg.freeK_ap, Lg.freeC_ap, Lg.loopF_eq, Lg.foldK_ap, Lg.condK_B, Lg.isCall, Lg.wanted, Lg.evX, Lg.ov, Lg.ovs, Lg.lk, Lg.putE, Lg.putH, Lg.envFrom, Lg.eats, Lg.D.int, Lg.D.bool, Lg.D.str, Lg.D.cells, Lg.noTree, Lg.noTrees, Lg.isRO, Lg.isROs, Lg.isCellD, Lg.cellsAt, Lg.part, Lg.slD, Lg.lenD, Lg.isStr, Lg.natOf, Lg.bnds, Lg.storeD, Lg.appendD, Lg.appendY, Lg.slcD, Lg.putCells, Lg.buildD, Lg.fillD, Lg.chunks, Lg.elemOf, Lg.frz1, Lg.idsD, Lg.idsDs, Lg.rof, Lg.rofs, Lg.roD, Lg.roDs, Lg.unf, Lg.unfs, Lg.thr, Lg.fld, Lg.depth, Lg.isNil, Lg.eqaD, Lg.eqLeaves, Lg.eqLeaf, Lg.unaD, Lg.cviD, Lg.binbD, Lg.binB, Lg.stepO_0, Lg.stepO_g, Lg.stepX_0, Lg.stepX_g, Lg.putX_ap, Lg.putS_none, Lg.putS_some, Lg.putC_ap, Lg.gdK_B, Lg.gdK_tup, Lg.evCall, Lg.callM, Lg.callQ, Lg.callO, Lg.argF, Lg.plain, Lg.plains, Lg.idsRO, Lg.restore, Lg.isAlive, Lg.settle, Lg.accX, Lg.clash, Lg.loX, Lg.accS, Lg.inertX, Lg.idOf, Lg.isSomeTrue, Lg.noclB, Lg.apart, Lg.rdS, Lg.rdX, Lg.rdO, Lg.rdOs, Lg.rdM, Lg.kept, Lg.sameBx, Lg.eqD, Lg.eqDs, Lg.eqSc, Lg.resDs, Lg.resD, Lg.foldR, Lg.foldM, Lg.foldL, Lg.unfL, Lg.canon, Lg.outs, Lg.one, binD_add, binD_sub, binD_lss, binD_leq, binD_gtr, binD_geq, binD_eql, binD_neq, binD_or, binD_and, binD_andn, binD_shl, binD_shr, binK_eql, binK_neq, binK_lss, binK_leq, binK_gtr, binK_geq, binD_rem, binD_mul, cw174, cw65, cw340, cr340, cw290, sp290, cw184, sp184, h65, wc, wx, wy, wz, a1, a4, a5, a6, a7, a8, a9, a10, t8, e1, e2, e3, e4, e5, e6, e7, e8, p1, p2, h8, h16]
end Go.Proofs.Ytflnllohghgpdaa.LgTab
