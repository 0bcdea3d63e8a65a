import Derived.Test.YtflnllohghgpdaaLgQ5
/-
  DialectTells: its law.
-/
namespace Go.Proofs.Ytflnllohghgpdaa.LgTab
open Go Lg
set_option linter.unusedVariables false
set_option linter.unusedSimpArgs false
set_option maxRecDepth 8000
def finM (kind rune fin : Int) : Int := if kind = 1 then (if 32 ≤ rune ∧ rune < 127 then 32 else 127) else fin
theorem finM_eq (kind rune fin : Int) : (if kind = 1 then (if 32 ≤ rune ∧ rune ≤ 126 then (32 : Int) else 127) else fin) = finM kind rune fin := by
  unfold finM
  have : rune ≤ 126 ↔ rune < 127 := by omega
  simp [this]
theorem sp133n (k : Nat) (d kind rune priv inter fin : Int) (text : List UInt8) : evFun (clOf (modsR tab k) 3) s133 [I d, .agg [I kind, R rune, U priv, U inter, U fin, .sn, .sc (.string ⟨⟨text⟩⟩)]] = some (.agg [I d, I kind, U priv, U inter, U (finM kind rune fin)], []) := by
  rw [← finM_eq]
  exact sp133 k d ⟨kind, rune, priv, inter, fin, .sn, text⟩ (.inl rfl)
theorem sp133s (k : Nat) (d kind rune priv inter fin : Int) (text : List UInt8) (l : List Int) : evFun (clOf (modsR tab k) 3) s133 [I d, .agg [I kind, R rune, U priv, U inter, U fin, .sl 1 (l.map I), .sc (.string ⟨⟨text⟩⟩)]] = some (.agg [I d, I kind, U priv, U inter, U (finM kind rune fin)], []) := by
  rw [← finM_eq]
  exact sp133 k d ⟨kind, rune, priv, inter, fin, .sl 1 (l.map I), text⟩ (.inr ⟨l, rfl⟩)
theorem sp260n (k : Nat) (d kind rune priv inter fin : Int) (text : List UInt8) : evFun (clOf (modsR tab (k + 1)) 3) s260 [I d, .agg [I kind, R rune, U priv, U inter, U fin, .sn, .sc (.string ⟨⟨text⟩⟩)]] = some (B (refK d ⟨kind, rune, priv, inter, fin, .sn, text⟩), []) :=
  sp260 k d ⟨kind, rune, priv, inter, fin, .sn, text⟩ (.inl rfl)
theorem sp260s (k : Nat) (d kind rune priv inter fin : Int) (text : List UInt8) (l : List Int) : evFun (clOf (modsR tab (k + 1)) 3) s260 [I d, .agg [I kind, R rune, U priv, U inter, U fin, .sl 1 (l.map I), .sc (.string ⟨⟨text⟩⟩)]] = some (B (refK d ⟨kind, rune, priv, inter, fin, .sn, text⟩), []) :=
  sp260 k d ⟨kind, rune, priv, inter, fin, .sl 1 (l.map I), text⟩ (.inr ⟨l, rfl⟩)
set_option maxHeartbeats 8000000 in
theorem sp204 (k : Nat) (d kd rn fn : Int) (ps tx : List Int) (htx : ∀ c, c ∈ tx → 0 ≤ c ∧ c ≤ 255) (kind rune priv inter fin : Int) (l : List Int) (text : List UInt8) (own : Bool) :
    evFun (clOf (modsR tab (k + 5)) 3) s204 [I d, .agg [I kd, I rn, I fn, .sl 1 (ps.map I), .sl 1 (tx.map U)], .agg [I kind, R rune, U priv, U inter, U fin, .sl 1 (l.map I), .sc (.string ⟨⟨text⟩⟩)], B own] = some (B true, []) := by
  rw [evFun_evB rfl]
  unfold s204
  obtain ⟨q, hq⟩ : ∃ q, q = 0 + d % (4 - 0 + 1) := ⟨_, rfl⟩
  have wq := sp174c (k + 4) d 0 4 (by omega) (by omega) (by omega) q hq
  have bq : 0 ≤ q ∧ q ≤ 4 := by omega
  clear hq
  obtain ⟨m, hm⟩ : ∃ m, m = min l.length 16 := ⟨_, rfl⟩
  have hmn : mnD [I (l.length : Int), I 16] = some (I (m : Nat)) := by
    simp only [mnD, mnI]
    split
    · rw [show m = 16 by omega]; rfl
    · rw [show m = l.length by omega]
  obtain ⟨P, hP⟩ : ∃ P, P = l.take m := ⟨_, rfl⟩
  have hT : List.take m (List.map I l) = List.map I P := by rw [hP, List.map_take]
  have lP : P.length = m := by rw [hP, List.length_take]; omega
  have tP : List.take m (List.map I P) = List.map I P := List.take_of_length_le (by simp; omega)
  have b1 : m ≤ l.length := by omega
  have b2 : m * 8 ≤ 140737488355328 := by omega
  clear hm hP
  cases own with
  | false =>
    have hk := knows_ref q ⟨kind, rune, priv, inter, fin, .sn, text⟩ bq
    simp only [gap] at hk
    simp -implicitDefEqProofs [Lg.finK_nrm, Lg.finK_ret, Lg.seqK_nrm, Lg.seqK_ret, Lg.seqK_exit, Lg.blkK_nrm, Lg.blkK_ret, Lg.blkK_exit, Lg.evB_seq, Lg.evB_reg, Lg.evB_dregQ, Lg.quietReg, Lg.quietOp, Lg.qB_nil, Lg.qB_bar, Lg.qB_free, Lg.qbarK_ap, Lg.qfreeK_ap, Lg.evB_ret, Lg.evB_skip, Lg.evB_exit, Lg.evB_block, Lg.evB_cond, Lg.stB_cons, Lg.stB_nil, Lg.nrmK_ap, Lg.tailK_ap, Lg.drB_nil, Lg.drB_bar, Lg.drB_free, Lg.barK_ap, Lg.freeK_ap, Lg.freeC_ap, Lg.loopF_eq, Lg.foldK_ap, Lg.condK_B, Lg.isCall, Lg.wanted, Lg.evX, Lg.ov, Lg.ovs, Lg.lk, Lg.putE, Lg.putH, Lg.envFrom, Lg.eats, Lg.D.int, Lg.D.bool, Lg.D.str, Lg.D.cells, Lg.noTree, Lg.noTrees, Lg.isRO, Lg.isROs, Lg.isCellD, Lg.cellsAt, Lg.part, Lg.slD, Lg.lenD, Lg.isStr, Lg.natOf, Lg.bnds, Lg.storeD, Lg.appendD, Lg.appendY, Lg.slcD, Lg.putCells, Lg.buildD, Lg.fillD, Lg.chunks, Lg.elemOf, Lg.frz1, Lg.idsD, Lg.idsDs, Lg.rof, Lg.rofs, Lg.roD, Lg.roDs, Lg.unf, Lg.unfs, Lg.thr, Lg.fld, Lg.depth, Lg.isNil, Lg.eqaD, Lg.eqLeaves, Lg.eqLeaf, Lg.unaD, Lg.cviD, Lg.binbD, Lg.binB, Lg.stepO_0, Lg.stepO_g, Lg.stepX_0, Lg.stepX_g, Lg.putX_ap, Lg.putS_none, Lg.putS_some, Lg.putC_ap, Lg.gdK_B, Lg.gdK_tup, Lg.evCall, Lg.callM, Lg.callQ, Lg.callO, Lg.argF, Lg.plain, Lg.plains, Lg.idsRO, Lg.restore, Lg.isAlive, Lg.settle, Lg.accX, Lg.clash, Lg.loX, Lg.accS, Lg.inertX, Lg.idOf, Lg.isSomeTrue, Lg.noclB, Lg.apart, Lg.rdS, Lg.rdX, Lg.rdO, Lg.rdOs, Lg.rdM, Lg.kept, Lg.sameBx, Lg.eqD, Lg.eqDs, Lg.eqSc, Lg.resDs, Lg.resD, Lg.foldR, Lg.foldM, Lg.foldL, Lg.unfL, Lg.canon, Lg.outs, Lg.one, binD_add, binD_sub, binD_lss, binD_leq, binD_gtr, binD_geq, binD_eql, binD_neq, binD_or, binD_and, binD_andn, binD_shl, binD_shr, binK_eql, binK_neq, binK_lss, binK_leq, binK_gtr, binK_geq, wq, hmn, hT, lP, tP, b1, b2, cw174, cw132, cr132, cw133, cr133, cw260, cr260, cr134, cw134, sp134, sp132n, sp132s, sp133n, sp133s, sp260n, sp260s, cw202, sp202, eqDs_I, finM]
    repeat' (split <;> try simp -implicitDefEqProofs [*, Lg.finK_nrm, Lg.finK_ret, Lg.seqK_nrm, Lg.seqK_ret, Lg.seqK_exit, Lg.blkK_nrm, Lg.blkK_ret, Lg.blkK_exit, Lg.evB_seq, Lg.evB_reg, Lg.evB_dregQ, Lg.quietReg, Lg.quietOp, Lg.qB_nil, Lg.qB_bar, Lg.qB_free, Lg.qbarK_ap, Lg.qfreeK_ap, Lg.evB_ret, Lg.evB_skip, Lg.evB_exit, Lg.evB_block, Lg.evB_cond, Lg.stB_cons, Lg.stB_nil, Lg.nrmK_ap, Lg.tailK_ap, Lg.drB_nil, Lg.drB_bar, Lg.drB_free, Lg.barK_ap, Lg.freeK_ap, Lg.freeC_ap, Lg.loopF_eq, Lg.foldK_ap, Lg.condK_B, Lg.isCall, Lg.wanted, Lg.evX, Lg.ov, Lg.ovs, Lg.lk, Lg.putE, Lg.putH, Lg.envFrom, Lg.eats, Lg.D.int, Lg.D.bool, Lg.D.str, Lg.D.cells, Lg.noTree, Lg.noTrees, Lg.isRO, Lg.isROs, Lg.isCellD, Lg.cellsAt, Lg.part, Lg.slD, Lg.lenD, Lg.isStr, Lg.natOf, Lg.bnds, Lg.storeD, Lg.appendD, Lg.appendY, Lg.slcD, Lg.putCells, Lg.buildD, Lg.fillD, Lg.chunks, Lg.elemOf, Lg.frz1, Lg.idsD, Lg.idsDs, Lg.rof, Lg.rofs, Lg.roD, Lg.roDs, Lg.unf, Lg.unfs, Lg.thr, Lg.fld, Lg.depth, Lg.isNil, Lg.eqaD, Lg.eqLeaves, Lg.eqLeaf, Lg.unaD, Lg.cviD, Lg.binbD, Lg.binB, Lg.stepO_0, Lg.stepO_g, Lg.stepX_0, Lg.stepX_g, Lg.putX_ap, Lg.putS_none, Lg.putS_some, Lg.putC_ap, Lg.gdK_B, Lg.gdK_tup, Lg.evCall, Lg.callM, Lg.callQ, Lg.callO, Lg.argF, Lg.plain, Lg.plains, Lg.idsRO, Lg.restore, Lg.isAlive, Lg.settle, Lg.accX, Lg.clash, Lg.loX, Lg.accS, Lg.inertX, Lg.idOf, Lg.isSomeTrue, Lg.noclB, Lg.apart, Lg.rdS, Lg.rdX, Lg.rdO, Lg.rdOs, Lg.rdM, Lg.kept, Lg.sameBx, Lg.eqD, Lg.eqDs, Lg.eqSc, Lg.resDs, Lg.resD, Lg.foldR, Lg.foldM, Lg.foldL, Lg.unfL, Lg.canon, Lg.outs, Lg.one, binD_add, binD_sub, binD_lss, binD_leq, binD_gtr, binD_geq, binD_eql, binD_neq, binD_or, binD_and, binD_andn, binD_shl, binD_shr, binK_eql, binK_neq, binK_lss, binK_leq, binK_gtr, binK_geq, cw174, cw132, cr132, cw133, cr133, cw260, cr260, cr134, cw134, sp134, sp132n, sp132s, sp133n, sp133s, sp260n, sp260s, cw202, sp202, eqDs_I, finM])
    all_goals first | (have hk2 := hk (by omega); simp_all; done) | (intro hz; have hk2 := hk (by omega); simp_all; done)
  | true =>
    obtain ⟨⟨kind', rune', priv', inter', fin', par', text'⟩, he, hp⟩ := sp63 (k + 3) kd rn fn ps tx htx
    have hk := knows_ref q ⟨kind', rune', priv', inter', fin', .sn, text'⟩ bq
    simp only [gap] at hk
    simp only at hp
    simp only [encE, D.str] at he
    rcases hp with rfl | ⟨l', rfl⟩
    all_goals (simp -implicitDefEqProofs [Lg.finK_nrm, Lg.finK_ret, Lg.seqK_nrm, Lg.seqK_ret, Lg.seqK_exit, Lg.blkK_nrm, Lg.blkK_ret, Lg.blkK_exit, Lg.evB_seq, Lg.evB_reg, Lg.evB_dregQ, Lg.quietReg, Lg.quietOp, Lg.qB_nil, Lg.qB_bar, Lg.qB_free, Lg.qbarK_ap, Lg.qfreeK_ap, Lg.evB_ret, Lg.evB_skip, Lg.evB_exit, Lg.evB_block, Lg.evB_cond, Lg.stB_cons, Lg.stB_nil, Lg.nrmK_ap, Lg.tailK_ap, Lg.drB_nil, Lg.drB_bar, Lg.drB_free, Lg.barK_ap, Lg.freeK_ap, Lg.freeC_ap, Lg.loopF_eq, Lg.foldK_ap, Lg.condK_B, Lg.isCall, Lg.wanted, Lg.evX, Lg.ov, Lg.ovs, Lg.lk, Lg.putE, Lg.putH, Lg.envFrom, Lg.eats, Lg.D.int, Lg.D.bool, Lg.D.str, Lg.D.cells, Lg.noTree, Lg.noTrees, Lg.isRO, Lg.isROs, Lg.isCellD, Lg.cellsAt, Lg.part, Lg.slD, Lg.lenD, Lg.isStr, Lg.natOf, Lg.bnds, Lg.storeD, Lg.appendD, Lg.appendY, Lg.slcD, Lg.putCells, Lg.buildD, Lg.fillD, Lg.chunks, Lg.elemOf, Lg.frz1, Lg.idsD, Lg.idsDs, Lg.rof, Lg.rofs, Lg.roD, Lg.roDs, Lg.unf, Lg.unfs, Lg.thr, Lg.fld, Lg.depth, Lg.isNil, Lg.eqaD, Lg.eqLeaves, Lg.eqLeaf, Lg.unaD, Lg.cviD, Lg.binbD, Lg.binB, Lg.stepO_0, Lg.stepO_g, Lg.stepX_0, Lg.stepX_g, Lg.putX_ap, Lg.putS_none, Lg.putS_some, Lg.putC_ap, Lg.gdK_B, Lg.gdK_tup, Lg.evCall, Lg.callM, Lg.callQ, Lg.callO, Lg.argF, Lg.plain, Lg.plains, Lg.idsRO, Lg.restore, Lg.isAlive, Lg.settle, Lg.accX, Lg.clash, Lg.loX, Lg.accS, Lg.inertX, Lg.idOf, Lg.isSomeTrue, Lg.noclB, Lg.apart, Lg.rdS, Lg.rdX, Lg.rdO, Lg.rdOs, Lg.rdM, Lg.kept, Lg.sameBx, Lg.eqD, Lg.eqDs, Lg.eqSc, Lg.resDs, Lg.resD, Lg.foldR, Lg.foldM, Lg.foldL, Lg.unfL, Lg.canon, Lg.outs, Lg.one, binD_add, binD_sub, binD_lss, binD_leq, binD_gtr, binD_geq, binD_eql, binD_neq, binD_or, binD_and, binD_andn, binD_shl, binD_shr, binK_eql, binK_neq, binK_lss, binK_leq, binK_gtr, binK_geq, wq, hmn, hT, lP, tP, b1, b2, cw63, he, cw174, cw132, cr132, cw133, cr133, cw260, cr260, cr134, cw134, sp134, sp132n, sp132s, sp133n, sp133s, sp260n, sp260s, cw202, sp202, eqDs_I, finM])
    all_goals (repeat' (split <;> try simp -implicitDefEqProofs [*, Lg.finK_nrm, Lg.finK_ret, Lg.seqK_nrm, Lg.seqK_ret, Lg.seqK_exit, Lg.blkK_nrm, Lg.blkK_ret, Lg.blkK_exit, Lg.evB_seq, Lg.evB_reg, Lg.evB_dregQ, Lg.quietReg, Lg.quietOp, Lg.qB_nil, Lg.qB_bar, Lg.qB_free, Lg.qbarK_ap, Lg.qfreeK_ap, Lg.evB_ret, Lg.evB_skip, Lg.evB_exit, Lg.evB_block, Lg.evB_cond, Lg.stB_cons, Lg.stB_nil, Lg.nrmK_ap, Lg.tailK_ap, Lg.drB_nil, Lg.drB_bar, Lg.drB_free, Lg.barK_ap, Lg.freeK_ap, Lg.freeC_ap, Lg.loopF_eq, Lg.foldK_ap, Lg.condK_B, Lg.isCall, Lg.wanted, Lg.evX, Lg.ov, Lg.ovs, Lg.lk, Lg.putE, Lg.putH, Lg.envFrom, Lg.eats, Lg.D.int, Lg.D.bool, Lg.D.str, Lg.D.cells, Lg.noTree, Lg.noTrees, Lg.isRO, Lg.isROs, Lg.isCellD, Lg.cellsAt, Lg.part, Lg.slD, Lg.lenD, Lg.isStr, Lg.natOf, Lg.bnds, Lg.storeD, Lg.appendD, Lg.appendY, Lg.slcD, Lg.putCells, Lg.buildD, Lg.fillD, Lg.chunks, Lg.elemOf, Lg.frz1, Lg.idsD, Lg.idsDs, Lg.rof, Lg.rofs, Lg.roD, Lg.roDs, Lg.unf, Lg.unfs, Lg.thr, Lg.fld, Lg.depth, Lg.isNil, Lg.eqaD, Lg.eqLeaves, Lg.eqLeaf, Lg.unaD, Lg.cviD, Lg.binbD, Lg.binB, Lg.stepO_0, Lg.stepO_g, Lg.stepX_0, Lg.stepX_g, Lg.putX_ap, Lg.putS_none, Lg.putS_some, Lg.putC_ap, Lg.gdK_B, Lg.gdK_tup, Lg.evCall, Lg.callM, Lg.callQ, Lg.callO, Lg.argF, Lg.plain, Lg.plains, Lg.idsRO, Lg.restore, Lg.isAlive, Lg.settle, Lg.accX, Lg.clash, Lg.loX, Lg.accS, Lg.inertX, Lg.idOf, Lg.isSomeTrue, Lg.noclB, Lg.apart, Lg.rdS, Lg.rdX, Lg.rdO, Lg.rdOs, Lg.rdM, Lg.kept, Lg.sameBx, Lg.eqD, Lg.eqDs, Lg.eqSc, Lg.resDs, Lg.resD, Lg.foldR, Lg.foldM, Lg.foldL, Lg.unfL, Lg.canon, Lg.outs, Lg.one, binD_add, binD_sub, binD_lss, binD_leq, binD_gtr, binD_geq, binD_eql, binD_neq, binD_or, binD_and, binD_andn, binD_shl, binD_shr, binK_eql, binK_neq, binK_lss, binK_leq, binK_gtr, binK_geq, cw174, cw132, cr132, cw133, cr133, cw260, cr260, cr134, cw134, sp134, sp132n, sp132s, sp133n, sp133s, sp260n, sp260s, cw202, sp202, eqDs_I, finM]))
    all_goals first | (have hk2 := hk (by omega); simp_all; done) | (intro hz; have hk2 := hk (by omega); simp_all; done)
end Go.Proofs.Ytflnllohghgpdaa.LgTab
