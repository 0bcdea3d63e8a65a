import Derived.Test.YtohjgdaogcliiaaLgR3
/-
  PenParts: its law.
-/
namespace Go.Proofs.Ytohjgdaogcliiaa.LgTab
open Go Lg
set_option linter.unusedVariables false
set_option linter.unusedSimpArgs false
set_option maxRecDepth 8000
theorem take_snoc {α : Type} {l : List α} {i : Nat} {x : α} (h : l[i]? = some x) : l.take (i + 1) = l.take i ++ [x] := by
  rw [List.take_add_one, h]; rfl
def fltP (n : Int) : Bool := decide (n ≠ 38) && decide (n ≠ 48)
set_option maxHeartbeats 400000 in
theorem sp183 (k : Nat) (a0 b0 c0 cut f0 : Int) (ps : List Int) : evFun (clOf (modsR tab (k + 6)) 3) s183 [.agg [I a0, I b0, I c0], .sl 1 (ps.map I), I cut, I f0] = some (B true, []) := by
  rw [evFun_evB rfl]
  unfold s183
  have h65 := sp65 (k + 3) a0 b0 c0
  generalize colourM a0 = f at h65
  generalize colourM b0 = b at h65
  obtain ⟨g, hg⟩ : ∃ g, g = c0 % 256 := ⟨_, rfl⟩
  rw [← hg] at h65
  have bg : 0 ≤ g ∧ g ≤ 255 := by omega
  clear hg
  obtain ⟨w, hw⟩ : ∃ w, w = 0 + f0 % (5 - 0 + 1) := ⟨_, rfl⟩
  have ww := sp174c (k + 5) f0 0 5 (by omega) (by omega) (by omega) w hw
  have bw : 0 ≤ w ∧ w ≤ 5 := by omega
  clear hw
  obtain ⟨on, off, fl, g1, g2, g3, q1, q2⟩ := ap_flags f b g w bg bw
  have x1 := sp340_l (k + 2) f b g [on] _ (by simp) (by simp) q1
  have x2 := sp340_l (k + 2) f b g [on, off] _ (by simp) (by simp) q2
  have x3 := sp340_l (k + 2) f b g [31, 39] _ (by simp) (by simp) (ap_3139 f b g)
  have x4 := sp340_l (k + 2) f b g [31, 94] _ (by simp) (by simp) (ap_3194 f b g)
  have x5 := sp340_l (k + 2) f b g [1, 2, 22] _ (by simp) (by simp) (ap_1222 f b g bg)
  simp only [List.map_cons, List.map_nil] at x1 x2 x3 x4 x5
  clear q1 q2
  obtain ⟨W, hW⟩ : ∃ W, W = ps.map fun c => 0 + c % 108 := ⟨_, rfl⟩
  have lW : W.length = ps.length := by simp [hW]
  obtain ⟨M, hM⟩ : ∃ M, M = min ps.length 10 := ⟨_, rfl⟩
  obtain ⟨F, hF⟩ : ∃ F : Nat → List Int, F = fun i => (W.take i).filter fltP := ⟨_, rfl⟩
  have F0 : F 0 = [] := by rw [hF]; rfl
  have Fl : ∀ i, (F i).length ≤ i := fun i => by rw [hF]; exact Nat.le_trans (List.length_filter_le _ _) (by simp; omega)
  have Fm : ∀ i n, n ∈ F i → 0 ≤ n ∧ n ≠ 38 ∧ n ≠ 48 := by
    intro i n hn
    rw [hF] at hn
    obtain ⟨h1, h2⟩ := List.mem_filter.1 hn
    have h3 := List.mem_of_mem_take h1
    rw [hW, List.mem_map] at h3
    obtain ⟨c, _, rfl⟩ := h3
    simp [fltP] at h2
    omega
  simp -implicitDefEqProofs [Lg.finK_nrm, Lg.finK_ret, Lg.seqK_nrm, Lg.seqK_ret, Lg.seqK_exit, Lg.blkK_nrm, Lg.blkK_ret, Lg.blkK_exit, Lg.evB_seq, Lg.evB_reg, Lg.evB_dregQ, Lg.quietReg, Lg.quietOp, Lg.qB_nil, Lg.qB_bar, Lg.qB_free, Lg.qbarK_ap, Lg.qfreeK_ap, Lg.evB_ret, Lg.evB_skip, Lg.evB_exit, Lg.evB_block, Lg.evB_cond, Lg.stB_cons, Lg.stB_nil, Lg.nrmK_ap, Lg.tailK_ap, Lg.drB_nil, Lg.drB_bar, Lg.drB_free, Lg.barK_ap, Lg.freeK_ap, Lg.freeC_ap, Lg.loopF_eq, Lg.foldK_ap, Lg.condK_B, Lg.isCall, Lg.wanted, Lg.evX, Lg.ov, Lg.ovs, Lg.lk, Lg.putE, Lg.putH, Lg.envFrom, Lg.eats, Lg.D.int, Lg.D.bool, Lg.D.str, Lg.D.cells, Lg.noTree, Lg.noTrees, Lg.isRO, Lg.isROs, Lg.isCellD, Lg.cellsAt, Lg.part, Lg.slD, Lg.lenD, Lg.isStr, Lg.natOf, Lg.bnds, Lg.storeD, Lg.appendD, Lg.appendY, Lg.slcD, Lg.putCells, Lg.buildD, Lg.fillD, Lg.chunks, Lg.elemOf, Lg.frz1, Lg.idsD, Lg.idsDs, Lg.rof, Lg.rofs, Lg.roD, Lg.roDs, Lg.unf, Lg.unfs, Lg.thr, Lg.fld, Lg.depth, Lg.isNil, Lg.eqaD, Lg.eqLeaves, Lg.eqLeaf, Lg.unaD, Lg.cviD, Lg.binbD, Lg.binB, Lg.stepO_0, Lg.stepO_g, Lg.stepX_0, Lg.stepX_g, Lg.putX_ap, Lg.putS_none, Lg.putS_some, Lg.putC_ap, Lg.gdK_B, Lg.gdK_tup, Lg.evCall, Lg.callM, Lg.callQ, Lg.callO, Lg.argF, Lg.plain, Lg.plains, Lg.idsRO, Lg.restore, Lg.isAlive, Lg.settle, Lg.accX, Lg.clash, Lg.loX, Lg.accS, Lg.inertX, Lg.idOf, Lg.isSomeTrue, Lg.noclB, Lg.apart, Lg.rdS, Lg.rdX, Lg.rdO, Lg.rdOs, Lg.rdM, Lg.kept, Lg.sameBx, Lg.eqD, Lg.eqDs, Lg.eqSc, Lg.resDs, Lg.resD, Lg.foldR, Lg.foldM, Lg.foldL, Lg.unfL, Lg.canon, Lg.outs, Lg.one, binD_add, binD_sub, binD_lss, binD_leq, binD_gtr, binD_geq, binD_eql, binD_neq, binD_or, binD_and, binD_andn, binD_shl, binD_shr, binK_eql, binK_neq, binK_lss, binK_leq, binK_gtr, binK_geq]
  refine evB_for (fun i => [.sl 1 (ps.map I), I cut, I f0, I i, .obx [I a0, I b0, I c0], .osl true 1 ((F i).map I)]) M (.exit 0) [.sl 1 (ps.map I), I cut, I f0, I M, .obx [I a0, I b0, I c0], .osl true 1 ((F M).map I)] ?_ (fun i hi => ?_) ?_ (by simp) (by simp [rounds]; omega) ?_
  · simp -implicitDefEqProofs [Lg.finK_nrm, Lg.finK_ret, Lg.seqK_nrm, Lg.seqK_ret, Lg.seqK_exit, Lg.blkK_nrm, Lg.blkK_ret, Lg.blkK_exit, Lg.evB_seq, Lg.evB_reg, Lg.evB_dregQ, Lg.quietReg, Lg.quietOp, Lg.qB_nil, Lg.qB_bar, Lg.qB_free, Lg.qbarK_ap, Lg.qfreeK_ap, Lg.evB_ret, Lg.evB_skip, Lg.evB_exit, Lg.evB_block, Lg.evB_cond, Lg.stB_cons, Lg.stB_nil, Lg.nrmK_ap, Lg.tailK_ap, Lg.drB_nil, Lg.drB_bar, Lg.drB_free, Lg.barK_ap, Lg.freeK_ap, Lg.freeC_ap, Lg.loopF_eq, Lg.foldK_ap, Lg.condK_B, Lg.isCall, Lg.wanted, Lg.evX, Lg.ov, Lg.ovs, Lg.lk, Lg.putE, Lg.putH, Lg.envFrom, Lg.eats, Lg.D.int, Lg.D.bool, Lg.D.str, Lg.D.cells, Lg.noTree, Lg.noTrees, Lg.isRO, Lg.isROs, Lg.isCellD, Lg.cellsAt, Lg.part, Lg.slD, Lg.lenD, Lg.isStr, Lg.natOf, Lg.bnds, Lg.storeD, Lg.appendD, Lg.appendY, Lg.slcD, Lg.putCells, Lg.buildD, Lg.fillD, Lg.chunks, Lg.elemOf, Lg.frz1, Lg.idsD, Lg.idsDs, Lg.rof, Lg.rofs, Lg.roD, Lg.roDs, Lg.unf, Lg.unfs, Lg.thr, Lg.fld, Lg.depth, Lg.isNil, Lg.eqaD, Lg.eqLeaves, Lg.eqLeaf, Lg.unaD, Lg.cviD, Lg.binbD, Lg.binB, Lg.stepO_0, Lg.stepO_g, Lg.stepX_0, Lg.stepX_g, Lg.putX_ap, Lg.putS_none, Lg.putS_some, Lg.putC_ap, Lg.gdK_B, Lg.gdK_tup, Lg.evCall, Lg.callM, Lg.callQ, Lg.callO, Lg.argF, Lg.plain, Lg.plains, Lg.idsRO, Lg.restore, Lg.isAlive, Lg.settle, Lg.accX, Lg.clash, Lg.loX, Lg.accS, Lg.inertX, Lg.idOf, Lg.isSomeTrue, Lg.noclB, Lg.apart, Lg.rdS, Lg.rdX, Lg.rdO, Lg.rdOs, Lg.rdM, Lg.kept, Lg.sameBx, Lg.eqD, Lg.eqDs, Lg.eqSc, Lg.resDs, Lg.resD, Lg.foldR, Lg.foldM, Lg.foldL, Lg.unfL, Lg.canon, Lg.outs, Lg.one, binD_add, binD_sub, binD_lss, binD_leq, binD_gtr, binD_geq, binD_eql, binD_neq, binD_or, binD_and, binD_andn, binD_shl, binD_shr, binK_eql, binK_neq, binK_lss, binK_leq, binK_gtr, binK_geq, F0]
  · have i1 : i < ps.length := by omega
    have i2 : (i : Int) < 10 := by omega
    have hx : ps[i]? = some ps[i] := List.getElem?_eq_getElem i1
    obtain ⟨c, hc⟩ : ∃ c, c = ps[i] := ⟨_, rfl⟩
    rw [← hc] at hx
    have hcs : ps[i] = c := hc.symm
    obtain ⟨v, hv⟩ : ∃ v, v = 0 + c % (107 - 0 + 1) := ⟨_, rfl⟩
    have hy : W[i]? = some v := by rw [hW, List.getElem?_map, hx, hv]; rfl
    have wv := sp174c (k + 5) c 0 107 (by omega) (by omega) (by omega) v hv
    have e3 : wr ((i : Int) + 1) = (i : Int) + 1 := wr_id _ (by omega) (by omega)
    have Fs : F (i + 1) = F i ++ if fltP v then [v] else [] := by
      have e : (W.take (i + 1)).filter fltP = (W.take i).filter fltP ++ [v].filter fltP := by rw [take_snoc hy, List.filter_append]
      have e2 : [v].filter fltP = if fltP v then [v] else [] := by cases h : fltP v <;> simp [h]
      rw [hF]
      exact e.trans (by rw [e2])
    have hl := Fl i
    have tT : List.take (F i).length ((F i).map I) = (F i).map I := List.take_of_length_le (by simp)
    clear hF Fm Fl F0
    by_cases h38 : v = 38
    · subst h38
      simp [fltP] at Fs
      simp -implicitDefEqProofs [Lg.finK_nrm, Lg.finK_ret, Lg.seqK_nrm, Lg.seqK_ret, Lg.seqK_exit, Lg.blkK_nrm, Lg.blkK_ret, Lg.blkK_exit, Lg.evB_seq, Lg.evB_reg, Lg.evB_dregQ, Lg.quietReg, Lg.quietOp, Lg.qB_nil, Lg.qB_bar, Lg.qB_free, Lg.qbarK_ap, Lg.qfreeK_ap, Lg.evB_ret, Lg.evB_skip, Lg.evB_exit, Lg.evB_block, Lg.evB_cond, Lg.stB_cons, Lg.stB_nil, Lg.nrmK_ap, Lg.tailK_ap, Lg.drB_nil, Lg.drB_bar, Lg.drB_free, Lg.barK_ap, Lg.freeK_ap, Lg.freeC_ap, Lg.loopF_eq, Lg.foldK_ap, Lg.condK_B, Lg.isCall, Lg.wanted, Lg.evX, Lg.ov, Lg.ovs, Lg.lk, Lg.putE, Lg.putH, Lg.envFrom, Lg.eats, Lg.D.int, Lg.D.bool, Lg.D.str, Lg.D.cells, Lg.noTree, Lg.noTrees, Lg.isRO, Lg.isROs, Lg.isCellD, Lg.cellsAt, Lg.part, Lg.slD, Lg.lenD, Lg.isStr, Lg.natOf, Lg.bnds, Lg.storeD, Lg.appendD, Lg.appendY, Lg.slcD, Lg.putCells, Lg.buildD, Lg.fillD, Lg.chunks, Lg.elemOf, Lg.frz1, Lg.idsD, Lg.idsDs, Lg.rof, Lg.rofs, Lg.roD, Lg.roDs, Lg.unf, Lg.unfs, Lg.thr, Lg.fld, Lg.depth, Lg.isNil, Lg.eqaD, Lg.eqLeaves, Lg.eqLeaf, Lg.unaD, Lg.cviD, Lg.binbD, Lg.binB, Lg.stepO_0, Lg.stepO_g, Lg.stepX_0, Lg.stepX_g, Lg.putX_ap, Lg.putS_none, Lg.putS_some, Lg.putC_ap, Lg.gdK_B, Lg.gdK_tup, Lg.evCall, Lg.callM, Lg.callQ, Lg.callO, Lg.argF, Lg.plain, Lg.plains, Lg.idsRO, Lg.restore, Lg.isAlive, Lg.settle, Lg.accX, Lg.clash, Lg.loX, Lg.accS, Lg.inertX, Lg.idOf, Lg.isSomeTrue, Lg.noclB, Lg.apart, Lg.rdS, Lg.rdX, Lg.rdO, Lg.rdOs, Lg.rdM, Lg.kept, Lg.sameBx, Lg.eqD, Lg.eqDs, Lg.eqSc, Lg.resDs, Lg.resD, Lg.foldR, Lg.foldM, Lg.foldL, Lg.unfL, Lg.canon, Lg.outs, Lg.one, binD_add, binD_sub, binD_lss, binD_leq, binD_gtr, binD_geq, binD_eql, binD_neq, binD_or, binD_and, binD_andn, binD_shl, binD_shr, binK_eql, binK_neq, binK_lss, binK_leq, binK_gtr, binK_geq, cw174, i1, i2, hx, hcs, wv, e3, Fs, tT]
    by_cases h48 : v = 48
    · subst h48
      simp [fltP] at Fs
      simp -implicitDefEqProofs [Lg.finK_nrm, Lg.finK_ret, Lg.seqK_nrm, Lg.seqK_ret, Lg.seqK_exit, Lg.blkK_nrm, Lg.blkK_ret, Lg.blkK_exit, Lg.evB_seq, Lg.evB_reg, Lg.evB_dregQ, Lg.quietReg, Lg.quietOp, Lg.qB_nil, Lg.qB_bar, Lg.qB_free, Lg.qbarK_ap, Lg.qfreeK_ap, Lg.evB_ret, Lg.evB_skip, Lg.evB_exit, Lg.evB_block, Lg.evB_cond, Lg.stB_cons, Lg.stB_nil, Lg.nrmK_ap, Lg.tailK_ap, Lg.drB_nil, Lg.drB_bar, Lg.drB_free, Lg.barK_ap, Lg.freeK_ap, Lg.freeC_ap, Lg.loopF_eq, Lg.foldK_ap, Lg.condK_B, Lg.isCall, Lg.wanted, Lg.evX, Lg.ov, Lg.ovs, Lg.lk, Lg.putE, Lg.putH, Lg.envFrom, Lg.eats, Lg.D.int, Lg.D.bool, Lg.D.str, Lg.D.cells, Lg.noTree, Lg.noTrees, Lg.isRO, Lg.isROs, Lg.isCellD, Lg.cellsAt, Lg.part, Lg.slD, Lg.lenD, Lg.isStr, Lg.natOf, Lg.bnds, Lg.storeD, Lg.appendD, Lg.appendY, Lg.slcD, Lg.putCells, Lg.buildD, Lg.fillD, Lg.chunks, Lg.elemOf, Lg.frz1, Lg.idsD, Lg.idsDs, Lg.rof, Lg.rofs, Lg.roD, Lg.roDs, Lg.unf, Lg.unfs, Lg.thr, Lg.fld, Lg.depth, Lg.isNil, Lg.eqaD, Lg.eqLeaves, Lg.eqLeaf, Lg.unaD, Lg.cviD, Lg.binbD, Lg.binB, Lg.stepO_0, Lg.stepO_g, Lg.stepX_0, Lg.stepX_g, Lg.putX_ap, Lg.putS_none, Lg.putS_some, Lg.putC_ap, Lg.gdK_B, Lg.gdK_tup, Lg.evCall, Lg.callM, Lg.callQ, Lg.callO, Lg.argF, Lg.plain, Lg.plains, Lg.idsRO, Lg.restore, Lg.isAlive, Lg.settle, Lg.accX, Lg.clash, Lg.loX, Lg.accS, Lg.inertX, Lg.idOf, Lg.isSomeTrue, Lg.noclB, Lg.apart, Lg.rdS, Lg.rdX, Lg.rdO, Lg.rdOs, Lg.rdM, Lg.kept, Lg.sameBx, Lg.eqD, Lg.eqDs, Lg.eqSc, Lg.resDs, Lg.resD, Lg.foldR, Lg.foldM, Lg.foldL, Lg.unfL, Lg.canon, Lg.outs, Lg.one, binD_add, binD_sub, binD_lss, binD_leq, binD_gtr, binD_geq, binD_eql, binD_neq, binD_or, binD_and, binD_andn, binD_shl, binD_shr, binK_eql, binK_neq, binK_lss, binK_leq, binK_gtr, binK_geq, cw174, i1, i2, hx, hcs, wv, e3, Fs, tT]
    simp [fltP, h38, h48] at Fs
    have b1 : (F i).length ≤ 17592186044415 := by omega
    have b2 : ((F i).length + 1) * 8 ≤ 140737488355328 := by omega
    simp -implicitDefEqProofs [Lg.finK_nrm, Lg.finK_ret, Lg.seqK_nrm, Lg.seqK_ret, Lg.seqK_exit, Lg.blkK_nrm, Lg.blkK_ret, Lg.blkK_exit, Lg.evB_seq, Lg.evB_reg, Lg.evB_dregQ, Lg.quietReg, Lg.quietOp, Lg.qB_nil, Lg.qB_bar, Lg.qB_free, Lg.qbarK_ap, Lg.qfreeK_ap, Lg.evB_ret, Lg.evB_skip, Lg.evB_exit, Lg.evB_block, Lg.evB_cond, Lg.stB_cons, Lg.stB_nil, Lg.nrmK_ap, Lg.tailK_ap, Lg.drB_nil, Lg.drB_bar, Lg.drB_free, Lg.barK_ap, Lg.freeK_ap, Lg.freeC_ap, Lg.loopF_eq, Lg.foldK_ap, Lg.condK_B, Lg.isCall, Lg.wanted, Lg.evX, Lg.ov, Lg.ovs, Lg.lk, Lg.putE, Lg.putH, Lg.envFrom, Lg.eats, Lg.D.int, Lg.D.bool, Lg.D.str, Lg.D.cells, Lg.noTree, Lg.noTrees, Lg.isRO, Lg.isROs, Lg.isCellD, Lg.cellsAt, Lg.part, Lg.slD, Lg.lenD, Lg.isStr, Lg.natOf, Lg.bnds, Lg.storeD, Lg.appendD, Lg.appendY, Lg.slcD, Lg.putCells, Lg.buildD, Lg.fillD, Lg.chunks, Lg.elemOf, Lg.frz1, Lg.idsD, Lg.idsDs, Lg.rof, Lg.rofs, Lg.roD, Lg.roDs, Lg.unf, Lg.unfs, Lg.thr, Lg.fld, Lg.depth, Lg.isNil, Lg.eqaD, Lg.eqLeaves, Lg.eqLeaf, Lg.unaD, Lg.cviD, Lg.binbD, Lg.binB, Lg.stepO_0, Lg.stepO_g, Lg.stepX_0, Lg.stepX_g, Lg.putX_ap, Lg.putS_none, Lg.putS_some, Lg.putC_ap, Lg.gdK_B, Lg.gdK_tup, Lg.evCall, Lg.callM, Lg.callQ, Lg.callO, Lg.argF, Lg.plain, Lg.plains, Lg.idsRO, Lg.restore, Lg.isAlive, Lg.settle, Lg.accX, Lg.clash, Lg.loX, Lg.accS, Lg.inertX, Lg.idOf, Lg.isSomeTrue, Lg.noclB, Lg.apart, Lg.rdS, Lg.rdX, Lg.rdO, Lg.rdOs, Lg.rdM, Lg.kept, Lg.sameBx, Lg.eqD, Lg.eqDs, Lg.eqSc, Lg.resDs, Lg.resD, Lg.foldR, Lg.foldM, Lg.foldL, Lg.unfL, Lg.canon, Lg.outs, Lg.one, binD_add, binD_sub, binD_lss, binD_leq, binD_gtr, binD_geq, binD_eql, binD_neq, binD_or, binD_and, binD_andn, binD_shl, binD_shr, binK_eql, binK_neq, binK_lss, binK_leq, binK_gtr, binK_geq, cw174, i1, i2, hx, hcs, wv, e3, Fs, tT, h38, h48, b1, b2]
  · by_cases h1 : M < ps.length
    · have h2 : ¬ (M : Int) < 10 := by omega
      simp -implicitDefEqProofs [Lg.finK_nrm, Lg.finK_ret, Lg.seqK_nrm, Lg.seqK_ret, Lg.seqK_exit, Lg.blkK_nrm, Lg.blkK_ret, Lg.blkK_exit, Lg.evB_seq, Lg.evB_reg, Lg.evB_dregQ, Lg.quietReg, Lg.quietOp, Lg.qB_nil, Lg.qB_bar, Lg.qB_free, Lg.qbarK_ap, Lg.qfreeK_ap, Lg.evB_ret, Lg.evB_skip, Lg.evB_exit, Lg.evB_block, Lg.evB_cond, Lg.stB_cons, Lg.stB_nil, Lg.nrmK_ap, Lg.tailK_ap, Lg.drB_nil, Lg.drB_bar, Lg.drB_free, Lg.barK_ap, Lg.freeK_ap, Lg.freeC_ap, Lg.loopF_eq, Lg.foldK_ap, Lg.condK_B, Lg.isCall, Lg.wanted, Lg.evX, Lg.ov, Lg.ovs, Lg.lk, Lg.putE, Lg.putH, Lg.envFrom, Lg.eats, Lg.D.int, Lg.D.bool, Lg.D.str, Lg.D.cells, Lg.noTree, Lg.noTrees, Lg.isRO, Lg.isROs, Lg.isCellD, Lg.cellsAt, Lg.part, Lg.slD, Lg.lenD, Lg.isStr, Lg.natOf, Lg.bnds, Lg.storeD, Lg.appendD, Lg.appendY, Lg.slcD, Lg.putCells, Lg.buildD, Lg.fillD, Lg.chunks, Lg.elemOf, Lg.frz1, Lg.idsD, Lg.idsDs, Lg.rof, Lg.rofs, Lg.roD, Lg.roDs, Lg.unf, Lg.unfs, Lg.thr, Lg.fld, Lg.depth, Lg.isNil, Lg.eqaD, Lg.eqLeaves, Lg.eqLeaf, Lg.unaD, Lg.cviD, Lg.binbD, Lg.binB, Lg.stepO_0, Lg.stepO_g, Lg.stepX_0, Lg.stepX_g, Lg.putX_ap, Lg.putS_none, Lg.putS_some, Lg.putC_ap, Lg.gdK_B, Lg.gdK_tup, Lg.evCall, Lg.callM, Lg.callQ, Lg.callO, Lg.argF, Lg.plain, Lg.plains, Lg.idsRO, Lg.restore, Lg.isAlive, Lg.settle, Lg.accX, Lg.clash, Lg.loX, Lg.accS, Lg.inertX, Lg.idOf, Lg.isSomeTrue, Lg.noclB, Lg.apart, Lg.rdS, Lg.rdX, Lg.rdO, Lg.rdOs, Lg.rdM, Lg.kept, Lg.sameBx, Lg.eqD, Lg.eqDs, Lg.eqSc, Lg.resDs, Lg.resD, Lg.foldR, Lg.foldM, Lg.foldL, Lg.unfL, Lg.canon, Lg.outs, Lg.one, binD_add, binD_sub, binD_lss, binD_leq, binD_gtr, binD_geq, binD_eql, binD_neq, binD_or, binD_and, binD_andn, binD_shl, binD_shr, binK_eql, binK_neq, binK_lss, binK_leq, binK_gtr, binK_geq, h1, h2]
    · simp -implicitDefEqProofs [Lg.finK_nrm, Lg.finK_ret, Lg.seqK_nrm, Lg.seqK_ret, Lg.seqK_exit, Lg.blkK_nrm, Lg.blkK_ret, Lg.blkK_exit, Lg.evB_seq, Lg.evB_reg, Lg.evB_dregQ, Lg.quietReg, Lg.quietOp, Lg.qB_nil, Lg.qB_bar, Lg.qB_free, Lg.qbarK_ap, Lg.qfreeK_ap, Lg.evB_ret, Lg.evB_skip, Lg.evB_exit, Lg.evB_block, Lg.evB_cond, Lg.stB_cons, Lg.stB_nil, Lg.nrmK_ap, Lg.tailK_ap, Lg.drB_nil, Lg.drB_bar, Lg.drB_free, Lg.barK_ap, Lg.freeK_ap, Lg.freeC_ap, Lg.loopF_eq, Lg.foldK_ap, Lg.condK_B, Lg.isCall, Lg.wanted, Lg.evX, Lg.ov, Lg.ovs, Lg.lk, Lg.putE, Lg.putH, Lg.envFrom, Lg.eats, Lg.D.int, Lg.D.bool, Lg.D.str, Lg.D.cells, Lg.noTree, Lg.noTrees, Lg.isRO, Lg.isROs, Lg.isCellD, Lg.cellsAt, Lg.part, Lg.slD, Lg.lenD, Lg.isStr, Lg.natOf, Lg.bnds, Lg.storeD, Lg.appendD, Lg.appendY, Lg.slcD, Lg.putCells, Lg.buildD, Lg.fillD, Lg.chunks, Lg.elemOf, Lg.frz1, Lg.idsD, Lg.idsDs, Lg.rof, Lg.rofs, Lg.roD, Lg.roDs, Lg.unf, Lg.unfs, Lg.thr, Lg.fld, Lg.depth, Lg.isNil, Lg.eqaD, Lg.eqLeaves, Lg.eqLeaf, Lg.unaD, Lg.cviD, Lg.binbD, Lg.binB, Lg.stepO_0, Lg.stepO_g, Lg.stepX_0, Lg.stepX_g, Lg.putX_ap, Lg.putS_none, Lg.putS_some, Lg.putC_ap, Lg.gdK_B, Lg.gdK_tup, Lg.evCall, Lg.callM, Lg.callQ, Lg.callO, Lg.argF, Lg.plain, Lg.plains, Lg.idsRO, Lg.restore, Lg.isAlive, Lg.settle, Lg.accX, Lg.clash, Lg.loX, Lg.accS, Lg.inertX, Lg.idOf, Lg.isSomeTrue, Lg.noclB, Lg.apart, Lg.rdS, Lg.rdX, Lg.rdO, Lg.rdOs, Lg.rdM, Lg.kept, Lg.sameBx, Lg.eqD, Lg.eqDs, Lg.eqSc, Lg.resDs, Lg.resD, Lg.foldR, Lg.foldM, Lg.foldL, Lg.unfL, Lg.canon, Lg.outs, Lg.one, binD_add, binD_sub, binD_lss, binD_leq, binD_gtr, binD_geq, binD_eql, binD_neq, binD_or, binD_and, binD_andn, binD_shl, binD_shr, binK_eql, binK_neq, binK_lss, binK_leq, binK_gtr, binK_geq, h1]
  have Fm := Fm M
  have Fl := Fl M
  generalize F M = l at *
  clear hF F0 hW lW
  obtain ⟨n, hn⟩ : ∃ n, n = l.length := ⟨_, rfl⟩
  obtain ⟨T, hT⟩ : ∃ T, T = l.map I := ⟨_, rfl⟩
  have lT : T.length = n := by rw [hT, hn]; simp
  obtain ⟨P, hP⟩ : ∃ P, P = applyL l ⟨f, b, g⟩ := ⟨_, rfl⟩
  obtain ⟨c, hc⟩ : ∃ c, c = 0 + cut % ((n : Int) - 0 + 1) := ⟨_, rfl⟩
  have wc := sp174c (k + 5) cut 0 n (by omega) (by omega) (by omega) c hc
  have bc : 0 ≤ c ∧ c ≤ n := by
    have := Int.emod_nonneg cut (b := (n : Int) - 0 + 1) (by omega)
    have := Int.emod_lt_of_pos cut (b := (n : Int) - 0 + 1) (by omega)
    omega
  clear hc
  obtain ⟨m, rfl⟩ : ∃ m : Nat, c = (m : Int) := ⟨c.toNat, by omega⟩
  have bm : m ≤ n := by omega
  rw [← hT]
  have tT : T.take n = T := List.take_of_length_le (by omega)
  by_cases hn0 : n = 0
  · have hm0 : m = 0 := by omega
    subst hn0 hm0
    simp at tT
    have wc0 : evFun (clOf (modsR tab (k + 5)) 3) s174 [I cut, I 0, I 0] = some (I 0, []) := wc
    simp -implicitDefEqProofs [Lg.finK_nrm, Lg.finK_ret, Lg.seqK_nrm, Lg.seqK_ret, Lg.seqK_exit, Lg.blkK_nrm, Lg.blkK_ret, Lg.blkK_exit, Lg.evB_seq, Lg.evB_reg, Lg.evB_dregQ, Lg.quietReg, Lg.quietOp, Lg.qB_nil, Lg.qB_bar, Lg.qB_free, Lg.qbarK_ap, Lg.qfreeK_ap, Lg.evB_ret, Lg.evB_skip, Lg.evB_exit, Lg.evB_block, Lg.evB_cond, Lg.stB_cons, Lg.stB_nil, Lg.nrmK_ap, Lg.tailK_ap, Lg.drB_nil, Lg.drB_bar, Lg.drB_free, Lg.barK_ap, Lg.freeK_ap, Lg.freeC_ap, Lg.loopF_eq, Lg.foldK_ap, Lg.condK_B, Lg.isCall, Lg.wanted, Lg.evX, Lg.ov, Lg.ovs, Lg.lk, Lg.putE, Lg.putH, Lg.envFrom, Lg.eats, Lg.D.int, Lg.D.bool, Lg.D.str, Lg.D.cells, Lg.noTree, Lg.noTrees, Lg.isRO, Lg.isROs, Lg.isCellD, Lg.cellsAt, Lg.part, Lg.slD, Lg.lenD, Lg.isStr, Lg.natOf, Lg.bnds, Lg.storeD, Lg.appendD, Lg.appendY, Lg.slcD, Lg.putCells, Lg.buildD, Lg.fillD, Lg.chunks, Lg.elemOf, Lg.frz1, Lg.idsD, Lg.idsDs, Lg.rof, Lg.rofs, Lg.roD, Lg.roDs, Lg.unf, Lg.unfs, Lg.thr, Lg.fld, Lg.depth, Lg.isNil, Lg.eqaD, Lg.eqLeaves, Lg.eqLeaf, Lg.unaD, Lg.cviD, Lg.binbD, Lg.binB, Lg.stepO_0, Lg.stepO_g, Lg.stepX_0, Lg.stepX_g, Lg.putX_ap, Lg.putS_none, Lg.putS_some, Lg.putC_ap, Lg.gdK_B, Lg.gdK_tup, Lg.evCall, Lg.callM, Lg.callQ, Lg.callO, Lg.argF, Lg.plain, Lg.plains, Lg.idsRO, Lg.restore, Lg.isAlive, Lg.settle, Lg.accX, Lg.clash, Lg.loX, Lg.accS, Lg.inertX, Lg.idOf, Lg.isSomeTrue, Lg.noclB, Lg.apart, Lg.rdS, Lg.rdX, Lg.rdO, Lg.rdOs, Lg.rdM, Lg.kept, Lg.sameBx, Lg.eqD, Lg.eqDs, Lg.eqSc, Lg.resDs, Lg.resD, Lg.foldR, Lg.foldM, Lg.foldL, Lg.unfL, Lg.canon, Lg.outs, Lg.one, binD_add, binD_sub, binD_lss, binD_leq, binD_gtr, binD_geq, binD_eql, binD_neq, binD_or, binD_and, binD_andn, binD_shl, binD_shr, binK_eql, binK_neq, binK_lss, binK_leq, binK_gtr, binK_geq, cw174, cw65, cw340, cr340, cw184, sp184, h65, ww, lT, tT, bw.1, g1, g2, g3, x1, x2, x3, x4, x5, wc0]
  have hne : l ≠ [] := by rintro rfl; simp at hn; omega
  have y := sp340_l (k + 2) f b g l P (by omega) hne (by rw [map_normI (fun n hn => (Fm n hn).1), hP])
  rw [← hT] at y
  have n0 : ¬ (n : Int) = 0 := by omega
  by_cases hm0 : m = 0
  · subst hm0
    have hlt : 0 < n := by omega
    have wc0 : evFun (clOf (modsR tab (k + 5)) 3) s174 [I cut, I 0, I n] = some (I 0, []) := wc
    simp -implicitDefEqProofs [Lg.finK_nrm, Lg.finK_ret, Lg.seqK_nrm, Lg.seqK_ret, Lg.seqK_exit, Lg.blkK_nrm, Lg.blkK_ret, Lg.blkK_exit, Lg.evB_seq, Lg.evB_reg, Lg.evB_dregQ, Lg.quietReg, Lg.quietOp, Lg.qB_nil, Lg.qB_bar, Lg.qB_free, Lg.qbarK_ap, Lg.qfreeK_ap, Lg.evB_ret, Lg.evB_skip, Lg.evB_exit, Lg.evB_block, Lg.evB_cond, Lg.stB_cons, Lg.stB_nil, Lg.nrmK_ap, Lg.tailK_ap, Lg.drB_nil, Lg.drB_bar, Lg.drB_free, Lg.barK_ap, Lg.freeK_ap, Lg.freeC_ap, Lg.loopF_eq, Lg.foldK_ap, Lg.condK_B, Lg.isCall, Lg.wanted, Lg.evX, Lg.ov, Lg.ovs, Lg.lk, Lg.putE, Lg.putH, Lg.envFrom, Lg.eats, Lg.D.int, Lg.D.bool, Lg.D.str, Lg.D.cells, Lg.noTree, Lg.noTrees, Lg.isRO, Lg.isROs, Lg.isCellD, Lg.cellsAt, Lg.part, Lg.slD, Lg.lenD, Lg.isStr, Lg.natOf, Lg.bnds, Lg.storeD, Lg.appendD, Lg.appendY, Lg.slcD, Lg.putCells, Lg.buildD, Lg.fillD, Lg.chunks, Lg.elemOf, Lg.frz1, Lg.idsD, Lg.idsDs, Lg.rof, Lg.rofs, Lg.roD, Lg.roDs, Lg.unf, Lg.unfs, Lg.thr, Lg.fld, Lg.depth, Lg.isNil, Lg.eqaD, Lg.eqLeaves, Lg.eqLeaf, Lg.unaD, Lg.cviD, Lg.binbD, Lg.binB, Lg.stepO_0, Lg.stepO_g, Lg.stepX_0, Lg.stepX_g, Lg.putX_ap, Lg.putS_none, Lg.putS_some, Lg.putC_ap, Lg.gdK_B, Lg.gdK_tup, Lg.evCall, Lg.callM, Lg.callQ, Lg.callO, Lg.argF, Lg.plain, Lg.plains, Lg.idsRO, Lg.restore, Lg.isAlive, Lg.settle, Lg.accX, Lg.clash, Lg.loX, Lg.accS, Lg.inertX, Lg.idOf, Lg.isSomeTrue, Lg.noclB, Lg.apart, Lg.rdS, Lg.rdX, Lg.rdO, Lg.rdOs, Lg.rdM, Lg.kept, Lg.sameBx, Lg.eqD, Lg.eqDs, Lg.eqSc, Lg.resDs, Lg.resD, Lg.foldR, Lg.foldM, Lg.foldL, Lg.unfL, Lg.canon, Lg.outs, Lg.one, binD_add, binD_sub, binD_lss, binD_leq, binD_gtr, binD_geq, binD_eql, binD_neq, binD_or, binD_and, binD_andn, binD_shl, binD_shr, binK_eql, binK_neq, binK_lss, binK_leq, binK_gtr, binK_geq, cw174, cw65, cw340, cr340, cw184, sp184, h65, ww, lT, tT, bw.1, g1, g2, g3, x1, x2, x3, x4, x5, wc0, hlt, n0, hn0, y]
  by_cases hmn : m = n
  · subst hmn
    have hlt : 0 < m := by omega
    simp -implicitDefEqProofs [Lg.finK_nrm, Lg.finK_ret, Lg.seqK_nrm, Lg.seqK_ret, Lg.seqK_exit, Lg.blkK_nrm, Lg.blkK_ret, Lg.blkK_exit, Lg.evB_seq, Lg.evB_reg, Lg.evB_dregQ, Lg.quietReg, Lg.quietOp, Lg.qB_nil, Lg.qB_bar, Lg.qB_free, Lg.qbarK_ap, Lg.qfreeK_ap, Lg.evB_ret, Lg.evB_skip, Lg.evB_exit, Lg.evB_block, Lg.evB_cond, Lg.stB_cons, Lg.stB_nil, Lg.nrmK_ap, Lg.tailK_ap, Lg.drB_nil, Lg.drB_bar, Lg.drB_free, Lg.barK_ap, Lg.freeK_ap, Lg.freeC_ap, Lg.loopF_eq, Lg.foldK_ap, Lg.condK_B, Lg.isCall, Lg.wanted, Lg.evX, Lg.ov, Lg.ovs, Lg.lk, Lg.putE, Lg.putH, Lg.envFrom, Lg.eats, Lg.D.int, Lg.D.bool, Lg.D.str, Lg.D.cells, Lg.noTree, Lg.noTrees, Lg.isRO, Lg.isROs, Lg.isCellD, Lg.cellsAt, Lg.part, Lg.slD, Lg.lenD, Lg.isStr, Lg.natOf, Lg.bnds, Lg.storeD, Lg.appendD, Lg.appendY, Lg.slcD, Lg.putCells, Lg.buildD, Lg.fillD, Lg.chunks, Lg.elemOf, Lg.frz1, Lg.idsD, Lg.idsDs, Lg.rof, Lg.rofs, Lg.roD, Lg.roDs, Lg.unf, Lg.unfs, Lg.thr, Lg.fld, Lg.depth, Lg.isNil, Lg.eqaD, Lg.eqLeaves, Lg.eqLeaf, Lg.unaD, Lg.cviD, Lg.binbD, Lg.binB, Lg.stepO_0, Lg.stepO_g, Lg.stepX_0, Lg.stepX_g, Lg.putX_ap, Lg.putS_none, Lg.putS_some, Lg.putC_ap, Lg.gdK_B, Lg.gdK_tup, Lg.evCall, Lg.callM, Lg.callQ, Lg.callO, Lg.argF, Lg.plain, Lg.plains, Lg.idsRO, Lg.restore, Lg.isAlive, Lg.settle, Lg.accX, Lg.clash, Lg.loX, Lg.accS, Lg.inertX, Lg.idOf, Lg.isSomeTrue, Lg.noclB, Lg.apart, Lg.rdS, Lg.rdX, Lg.rdO, Lg.rdOs, Lg.rdM, Lg.kept, Lg.sameBx, Lg.eqD, Lg.eqDs, Lg.eqSc, Lg.resDs, Lg.resD, Lg.foldR, Lg.foldM, Lg.foldL, Lg.unfL, Lg.canon, Lg.outs, Lg.one, binD_add, binD_sub, binD_lss, binD_leq, binD_gtr, binD_geq, binD_eql, binD_neq, binD_or, binD_and, binD_andn, binD_shl, binD_shr, binK_eql, binK_neq, binK_lss, binK_leq, binK_gtr, binK_geq, cw174, cw65, cw340, cr340, cw184, sp184, h65, ww, lT, tT, bw.1, g1, g2, g3, x1, x2, x3, x4, x5, wc, hlt, n0, hn0, y]
  have h0m : 0 < m := by omega
  have hmn' : m < n := by omega
  obtain ⟨P1, hP1⟩ : ∃ P1, P1 = applyL (l.take m) ⟨f, b, g⟩ := ⟨_, rfl⟩
  have t1 : l.take m ≠ [] := by
    intro h
    have := congrArg List.length h
    rw [List.length_take, List.length_nil] at this
    omega
  have t2 : l.drop m ≠ [] := by
    intro h
    have := congrArg List.length h
    rw [List.length_drop, List.length_nil] at this
    omega
  have y1 := sp340_l (k + 2) f b g (l.take m) P1 (by rw [List.length_take]; omega) t1 (by rw [map_normI (fun n hn => (Fm n (List.mem_of_mem_take hn)).1), hP1])
  have y2 := sp340_l (k + 2) P1.fore P1.back P1.flags (l.drop m) P (by rw [List.length_drop]; omega) t2 (by
    rw [map_normI (fun n hn => (Fm n (List.mem_of_mem_drop hn)).1), hP]
    rw [show (⟨P1.fore, P1.back, P1.flags⟩ : Pen) = P1 from rfl, hP1, ← applyL_append _ _ _ (fun n hn => (Fm n (List.mem_of_mem_take hn)).2), List.take_append_drop])
  have e1 : List.take m T = (l.take m).map I := by rw [hT, List.map_take]
  have e2 : List.drop m T = (l.drop m).map I := by rw [hT, List.map_drop]
  have l1 : ((l.take m).map I).length = m := by rw [List.length_map, List.length_take]; omega
  have l2 : ((l.drop m).map I).length = n - m := by rw [List.length_map, List.length_drop]; omega
  generalize (l.take m).map I = T1 at y1 e1 l1
  generalize (l.drop m).map I = T2 at y2 e2 l2
  have e3 : List.take (n - m) T2 = T2 := List.take_of_length_le (by omega)
  simp -implicitDefEqProofs [Lg.finK_nrm, Lg.finK_ret, Lg.seqK_nrm, Lg.seqK_ret, Lg.seqK_exit, Lg.blkK_nrm, Lg.blkK_ret, Lg.blkK_exit, Lg.evB_seq, Lg.evB_reg, Lg.evB_dregQ, Lg.quietReg, Lg.quietOp, Lg.qB_nil, Lg.qB_bar, Lg.qB_free, Lg.qbarK_ap, Lg.qfreeK_ap, Lg.evB_ret, Lg.evB_skip, Lg.evB_exit, Lg.evB_block, Lg.evB_cond, Lg.stB_cons, Lg.stB_nil, Lg.nrmK_ap, Lg.tailK_ap, Lg.drB_nil, Lg.drB_bar, Lg.drB_free, Lg.barK_ap, Lg.freeK_ap, Lg.freeC_ap, Lg.loopF_eq, Lg.foldK_ap, Lg.condK_B, Lg.isCall, Lg.wanted, Lg.evX, Lg.ov, Lg.ovs, Lg.lk, Lg.putE, Lg.putH, Lg.envFrom, Lg.eats, Lg.D.int, Lg.D.bool, Lg.D.str, Lg.D.cells, Lg.noTree, Lg.noTrees, Lg.isRO, Lg.isROs, Lg.isCellD, Lg.cellsAt, Lg.part, Lg.slD, Lg.lenD, Lg.isStr, Lg.natOf, Lg.bnds, Lg.storeD, Lg.appendD, Lg.appendY, Lg.slcD, Lg.putCells, Lg.buildD, Lg.fillD, Lg.chunks, Lg.elemOf, Lg.frz1, Lg.idsD, Lg.idsDs, Lg.rof, Lg.rofs, Lg.roD, Lg.roDs, Lg.unf, Lg.unfs, Lg.thr, Lg.fld, Lg.depth, Lg.isNil, Lg.eqaD, Lg.eqLeaves, Lg.eqLeaf, Lg.unaD, Lg.cviD, Lg.binbD, Lg.binB, Lg.stepO_0, Lg.stepO_g, Lg.stepX_0, Lg.stepX_g, Lg.putX_ap, Lg.putS_none, Lg.putS_some, Lg.putC_ap, Lg.gdK_B, Lg.gdK_tup, Lg.evCall, Lg.callM, Lg.callQ, Lg.callO, Lg.argF, Lg.plain, Lg.plains, Lg.idsRO, Lg.restore, Lg.isAlive, Lg.settle, Lg.accX, Lg.clash, Lg.loX, Lg.accS, Lg.inertX, Lg.idOf, Lg.isSomeTrue, Lg.noclB, Lg.apart, Lg.rdS, Lg.rdX, Lg.rdO, Lg.rdOs, Lg.rdM, Lg.kept, Lg.sameBx, Lg.eqD, Lg.eqDs, Lg.eqSc, Lg.resDs, Lg.resD, Lg.foldR, Lg.foldM, Lg.foldL, Lg.unfL, Lg.canon, Lg.outs, Lg.one, binD_add, binD_sub, binD_lss, binD_leq, binD_gtr, binD_geq, binD_eql, binD_neq, binD_or, binD_and, binD_andn, binD_shl, binD_shr, binK_eql, binK_neq, binK_lss, binK_leq, binK_gtr, binK_geq, cw174, cw65, cw340, cr340, cw184, sp184, h65, ww, lT, tT, bw.1, g1, g2, g3, x1, x2, x3, x4, x5, wc, h0m, hmn', bm, n0, hn0, y, y1, y2, e1, e2, e3, l1, l2]
end Go.Proofs.Ytohjgdaogcliiaa.LgTab
