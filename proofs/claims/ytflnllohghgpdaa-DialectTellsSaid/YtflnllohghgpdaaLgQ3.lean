import Derived.Test.YtflnllohghgpdaaLgQ2
/-
  DialectEvents: its law.
-/
namespace Go.Proofs.Ytflnllohghgpdaa.LgTab
open Go Lg
set_option linter.unusedVariables false
set_option linter.unusedSimpArgs false
set_option maxRecDepth 8000
theorem wrap_i32 (n : Int) (h0 : -2147483648 ≤ n) (h1 : n ≤ 2147483647) : IntKind.i32.wrap n = n := by
  have e1 : IntKind.i32.wrap n = if decide (n % 4294967296 ≥ 2147483648) = true then n % 4294967296 - 4294967296 else n % 4294967296 := rfl
  rw [e1]
  simp only [decide_eq_true_eq]
  split <;> omega
theorem wrap_u8 (n : Int) (h0 : 0 ≤ n) (h1 : n ≤ 255) : IntKind.u8.wrap n = n := by
  have e1 : IntKind.u8.wrap n = n % 256 := rfl
  rw [e1]
  omega
theorem tmod_neg {n d : Int} (hd : 0 < d) (h : n.tmod d < 0) : n.tmod d + d = n % d := by
  have h0 := Int.emod_nonneg n (b := d) (by omega)
  rw [Int.tmod_eq_emod] at h ⊢
  split <;> rename_i h1
  · rw [if_pos h1] at h; omega
  · omega
theorem tmod_pos {n d : Int} (hd : 0 < d) (h : ¬ n.tmod d < 0) : n.tmod d = n % d := by
  have h0 := Int.emod_lt_of_pos n hd
  rw [Int.tmod_eq_emod] at h ⊢
  split <;> rename_i h1
  · omega
  · rw [if_neg h1] at h; omega
theorem sp174 (k : Nat) (n lo hi : Int) (h1 : -1099511627776 ≤ lo) (h2 : lo ≤ hi) (h3 : hi ≤ 1099511627776) : evFun (clOf (modsR tab k) 3) s174 [I n, I lo, I hi] = some (I (lo + n % (hi - lo + 1)), []) := by
  rw [evFun_evB rfl]
  unfold s174
  have e1 : wr (hi - lo) = hi - lo := wr_id _ (by omega) (by omega)
  have e2 : wr (hi - lo + 1) = hi - lo + 1 := wr_id _ (by omega) (by omega)
  have hd : 0 < hi - lo + 1 := by omega
  have hz : ¬ (hi - lo + 1 = 0) := by omega
  have b0 := Int.emod_nonneg n (b := hi - lo + 1) (by omega)
  have b1 := Int.emod_lt_of_pos n hd
  by_cases hn : n.tmod (hi - lo + 1) < 0
  · have t := tmod_neg hd hn
    have e3 : wr (n.tmod (hi - lo + 1) + hi) = n.tmod (hi - lo + 1) + hi := wr_id _ (by omega) (by omega)
    have e4 : wr (n.tmod (hi - lo + 1) + hi - lo) = n.tmod (hi - lo + 1) + hi - lo := wr_id _ (by omega) (by omega)
    have e5 : wr (n.tmod (hi - lo + 1) + hi - lo + 1) = n % (hi - lo + 1) := by rw [wr_id _ (by omega) (by omega)]; omega
    have e6 : wr (lo + n % (hi - lo + 1)) = lo + n % (hi - lo + 1) := wr_id _ (by omega) (by omega)
    simp -implicitDefEqProofs [Lg.finK_nrm, Lg.finK_ret, Lg.seqK_nrm, Lg.seqK_ret, Lg.seqK_exit, Lg.blkK_nrm, Lg.blkK_ret, Lg.blkK_exit, Lg.evB_seq, Lg.evB_reg, Lg.evB_dregQ, Lg.quietReg, Lg.quietOp, Lg.qB_nil, Lg.qB_bar, Lg.qB_free, Lg.qbarK_ap, Lg.qfreeK_ap, Lg.evB_ret, Lg.evB_skip, Lg.evB_exit, Lg.evB_block, Lg.evB_cond, Lg.condK_true, Lg.condK_false, Lg.condK_ite, Lg.stB_cons, Lg.stB_nil, Lg.nrmK_ap, Lg.tailK_ap, Lg.drB_nil, Lg.drB_bar, Lg.drB_free, Lg.barK_ap, Lg.freeK_ap, Lg.freeC_ap, Lg.loopF_eq, Lg.foldK_ap, Lg.stepO, Lg.stepX, Lg.isCall, Lg.wanted, Lg.evX, Lg.ov, Lg.ovs, Lg.lk, Lg.putE, Lg.putH, Lg.envFrom, Lg.eats, Lg.D.int, Lg.D.bool, Lg.D.str, Lg.D.cells, Lg.noTree, Lg.noTrees, Lg.isRO, Lg.isROs, Lg.isCellD, Lg.cellsAt, Lg.part, Lg.slD, Lg.lenD, Lg.isStr, Lg.natOf, Lg.bnds, Lg.storeD, Lg.appendD, Lg.appendY, Lg.slcD, Lg.putCells, Lg.buildD, Lg.fillD, Lg.chunks, Lg.elemOf, Lg.frz1, Lg.idsD, Lg.idsDs, Lg.rof, Lg.rofs, Lg.roD, Lg.roDs, Lg.unf, Lg.unfs, Lg.thr, Lg.fld, Lg.depth, Lg.isNil, Lg.eqaD, Lg.eqLeaves, Lg.eqLeaf, Lg.unaD, Lg.cviD, Lg.binbD, Lg.binB, Lg.evCall, Lg.callM, Lg.callQ, Lg.callO, Lg.argF, Lg.plain, Lg.plains, Lg.idsRO, Lg.restore, Lg.isAlive, Lg.settle, Lg.accX, Lg.clash, Lg.loX, Lg.accS, Lg.inertX, Lg.idOf, Lg.isSomeTrue, Lg.noclB, Lg.apart, Lg.rdS, Lg.rdX, Lg.rdO, Lg.rdOs, Lg.rdM, Lg.kept, Lg.sameBx, Lg.eqD, Lg.eqDs, Lg.eqSc, Lg.resDs, Lg.resD, Lg.foldR, Lg.foldM, Lg.foldL, Lg.unfL, Lg.canon, Lg.outs, Lg.one, binD_add, binD_sub, binD_lss, binD_leq, binD_gtr, binD_geq, binD_eql, binD_neq, binD_or, binD_and, binD_andn, binD_shl, binD_shr, binD_rem, e1, e2, e3, e4, e5, e6, hz, hn]
  · have t := tmod_pos hd hn
    rw [t] at hn
    have e6 : wr (lo + n % (hi - lo + 1)) = lo + n % (hi - lo + 1) := wr_id _ (by omega) (by omega)
    simp -implicitDefEqProofs [Lg.finK_nrm, Lg.finK_ret, Lg.seqK_nrm, Lg.seqK_ret, Lg.seqK_exit, Lg.blkK_nrm, Lg.blkK_ret, Lg.blkK_exit, Lg.evB_seq, Lg.evB_reg, Lg.evB_dregQ, Lg.quietReg, Lg.quietOp, Lg.qB_nil, Lg.qB_bar, Lg.qB_free, Lg.qbarK_ap, Lg.qfreeK_ap, Lg.evB_ret, Lg.evB_skip, Lg.evB_exit, Lg.evB_block, Lg.evB_cond, Lg.condK_true, Lg.condK_false, Lg.condK_ite, Lg.stB_cons, Lg.stB_nil, Lg.nrmK_ap, Lg.tailK_ap, Lg.drB_nil, Lg.drB_bar, Lg.drB_free, Lg.barK_ap, Lg.freeK_ap, Lg.freeC_ap, Lg.loopF_eq, Lg.foldK_ap, Lg.stepO, Lg.stepX, Lg.isCall, Lg.wanted, Lg.evX, Lg.ov, Lg.ovs, Lg.lk, Lg.putE, Lg.putH, Lg.envFrom, Lg.eats, Lg.D.int, Lg.D.bool, Lg.D.str, Lg.D.cells, Lg.noTree, Lg.noTrees, Lg.isRO, Lg.isROs, Lg.isCellD, Lg.cellsAt, Lg.part, Lg.slD, Lg.lenD, Lg.isStr, Lg.natOf, Lg.bnds, Lg.storeD, Lg.appendD, Lg.appendY, Lg.slcD, Lg.putCells, Lg.buildD, Lg.fillD, Lg.chunks, Lg.elemOf, Lg.frz1, Lg.idsD, Lg.idsDs, Lg.rof, Lg.rofs, Lg.roD, Lg.roDs, Lg.unf, Lg.unfs, Lg.thr, Lg.fld, Lg.depth, Lg.isNil, Lg.eqaD, Lg.eqLeaves, Lg.eqLeaf, Lg.unaD, Lg.cviD, Lg.binbD, Lg.binB, Lg.evCall, Lg.callM, Lg.callQ, Lg.callO, Lg.argF, Lg.plain, Lg.plains, Lg.idsRO, Lg.restore, Lg.isAlive, Lg.settle, Lg.accX, Lg.clash, Lg.loX, Lg.accS, Lg.inertX, Lg.idOf, Lg.isSomeTrue, Lg.noclB, Lg.apart, Lg.rdS, Lg.rdX, Lg.rdO, Lg.rdOs, Lg.rdM, Lg.kept, Lg.sameBx, Lg.eqD, Lg.eqDs, Lg.eqSc, Lg.resDs, Lg.resD, Lg.foldR, Lg.foldM, Lg.foldL, Lg.unfL, Lg.canon, Lg.outs, Lg.one, binD_add, binD_sub, binD_lss, binD_leq, binD_gtr, binD_geq, binD_eql, binD_neq, binD_or, binD_and, binD_andn, binD_shl, binD_shr, binD_rem, e1, e2, e6, hz, hn, t]
/-- Within, of bounds that are known. -/
theorem sp174c (k : Nat) (n lo hi : Int) (h1 : -1099511627776 ≤ lo) (h2 : lo ≤ hi) (h3 : hi ≤ 1099511627776) (w : Int) (hw : w = lo + n % (hi - lo + 1)) : evFun (clOf (modsR tab k) 3) s174 [I n, I lo, I hi] = some (I w, []) := by rw [hw]; exact sp174 k n lo hi h1 h2 h3
theorem sp202 (k : Nat) : evFun (clOf (modsR tab (k + 4)) 3) s202 [] = some (B true, []) := by kernel_rfl
theorem sp132n (k : Nat) (d kind rune priv inter fin : Int) (text : List UInt8) : evFun (clOf (modsR tab (k + 2)) 3) s132 [I d, .agg [I kind, R rune, U priv, U inter, U fin, .sn, .sc (.string ⟨⟨text⟩⟩)]] = some (B (knowsM d ⟨kind, rune, priv, inter, fin, .sn, text⟩), []) :=
  sp132 k d ⟨kind, rune, priv, inter, fin, .sn, text⟩ (.inl rfl)
theorem sp132s (k : Nat) (d kind rune priv inter fin : Int) (text : List UInt8) (l : List Int) : evFun (clOf (modsR tab (k + 2)) 3) s132 [I d, .agg [I kind, R rune, U priv, U inter, U fin, .sl 1 (l.map I), .sc (.string ⟨⟨text⟩⟩)]] = some (B (knowsM d ⟨kind, rune, priv, inter, fin, .sn, text⟩), []) :=
  sp132 k d ⟨kind, rune, priv, inter, fin, .sl 1 (l.map I), text⟩ (.inr ⟨l, rfl⟩)
theorem of_three {n : Int} (h : 1 ≤ n ∧ n ≤ 3) : n = 1 ∨ n = 2 ∨ n = 3 := by omega
theorem sp201 (k : Nat) (d r fin : Int) (l : List Int) (hr : -2147483648 ≤ r ∧ r ≤ 2147483647) (hf : 0 ≤ fin ∧ fin ≤ 255) : evFun (clOf (modsR tab (k + 5)) 3) s201 [I d, R r, .sl 1 (l.map I), U fin] = some (B true, []) := by
  rw [evFun_evB rfl]
  unfold s201
  obtain ⟨n, hn⟩ : ∃ n, n = 1 + d % (3 - 1 + 1) := ⟨_, rfl⟩
  obtain ⟨c, hc⟩ : ∃ c, c = 32 + r % (126 - 32 + 1) := ⟨_, rfl⟩
  obtain ⟨m, hm⟩ : ∃ m, m = 64 + fin.tmod 63 := ⟨_, rfl⟩
  have w1 := sp174c (k + 4) d 1 3 (by omega) (by omega) (by omega) n hn
  have w2 := sp174c (k + 4) r 32 126 (by omega) (by omega) (by omega) c hc
  have bn : 1 ≤ n ∧ n ≤ 3 := by omega
  have bc : 32 ≤ c ∧ c ≤ 126 := by omega
  have bm : 64 ≤ m ∧ m ≤ 126 := by
    have : ¬ fin.tmod 63 < 0 := Int.not_lt.2 (Int.tmod_nonneg 63 hf.1)
    have := tmod_pos (by omega) this
    omega
  have e1 : IntKind.i64.wrap r = r := wrap_id _ (by omega) (by omega)
  have e2 : IntKind.i32.wrap c = c := wrap_i32 _ (by omega) (by omega)
  have e3 : IntKind.i64.wrap fin = fin := wrap_id _ (by omega) (by omega)
  have e4 : wr (64 + fin.tmod 63) = m := by rw [← hm]; exact wr_id _ (by omega) (by omega)
  have e5 : IntKind.u8.wrap m = m := wrap_u8 _ (by omega) (by omega)
  clear hn hc hm
  have kA : knowsM n ⟨1, c, 0, 0, 0, .sn, []⟩ = true := by rcases of_three bn with rfl | rfl | rfl <;> simp [knowsM, tblM, rowsM, keyM, bc]
  have kB : knowsM n ⟨1, 9472, 0, 0, 0, .sn, []⟩ = false := by rcases of_three bn with rfl | rfl | rfl <;> simp [knowsM, tblM, rowsM, keyM]
  have kO : knowsM n ⟨4, 0, 62, 0, m, .sn, []⟩ = false := by rcases of_three bn with rfl | rfl | rfl <;> simp [knowsM, tblM, rowsM, keyM]
  have kD : knowsM n ⟨4, 0, 0, 36, m, .sn, []⟩ = false := by rcases of_three bn with rfl | rfl | rfl <;> simp [knowsM, tblM, rowsM, keyM]
  have k5 : knowsM n ⟨5, 0, 0, 0, 0, .sn, []⟩ = false := by rcases of_three bn with rfl | rfl | rfl <;> simp [knowsM, tblM, rowsM, keyM]
  have k0 : knowsM n ⟨0, 0, 0, 0, 0, .sn, []⟩ = false := by rcases of_three bn with rfl | rfl | rfl <;> simp [knowsM, tblM, rowsM, keyM]
  have k3 : n = 3 → knowsM n ⟨4, 0, 0, 0, m, .sn, []⟩ = false := by rintro rfl; simp [knowsM, tblM, rowsM, keyM]
  by_cases h3 : n = 3
  · have k3 := k3 h3
    subst h3
    simp -implicitDefEqProofs [Lg.finK_nrm, Lg.finK_ret, Lg.seqK_nrm, Lg.seqK_ret, Lg.seqK_exit, Lg.blkK_nrm, Lg.blkK_ret, Lg.blkK_exit, Lg.evB_seq, Lg.evB_reg, Lg.evB_dregQ, Lg.quietReg, Lg.quietOp, Lg.qB_nil, Lg.qB_bar, Lg.qB_free, Lg.qbarK_ap, Lg.qfreeK_ap, Lg.evB_ret, Lg.evB_skip, Lg.evB_exit, Lg.evB_block, Lg.evB_cond, Lg.stB_cons, Lg.stB_nil, Lg.nrmK_ap, Lg.tailK_ap, Lg.drB_nil, Lg.drB_bar, Lg.drB_free, Lg.barK_ap, Lg.freeK_ap, Lg.freeC_ap, Lg.loopF_eq, Lg.foldK_ap, Lg.condK_B, Lg.isCall, Lg.wanted, Lg.evX, Lg.ov, Lg.ovs, Lg.lk, Lg.putE, Lg.putH, Lg.envFrom, Lg.eats, Lg.D.int, Lg.D.bool, Lg.D.str, Lg.D.cells, Lg.noTree, Lg.noTrees, Lg.isRO, Lg.isROs, Lg.isCellD, Lg.cellsAt, Lg.part, Lg.slD, Lg.lenD, Lg.isStr, Lg.natOf, Lg.bnds, Lg.storeD, Lg.appendD, Lg.appendY, Lg.slcD, Lg.putCells, Lg.buildD, Lg.fillD, Lg.chunks, Lg.elemOf, Lg.frz1, Lg.idsD, Lg.idsDs, Lg.rof, Lg.rofs, Lg.roD, Lg.roDs, Lg.unf, Lg.unfs, Lg.thr, Lg.fld, Lg.depth, Lg.isNil, Lg.eqaD, Lg.eqLeaves, Lg.eqLeaf, Lg.unaD, Lg.cviD, Lg.binbD, Lg.binB, Lg.stepO_0, Lg.stepO_g, Lg.stepX_0, Lg.stepX_g, Lg.putX_ap, Lg.putS_none, Lg.putS_some, Lg.putC_ap, Lg.gdK_B, Lg.gdK_tup, Lg.evCall, Lg.callM, Lg.callQ, Lg.callO, Lg.argF, Lg.plain, Lg.plains, Lg.idsRO, Lg.restore, Lg.isAlive, Lg.settle, Lg.accX, Lg.clash, Lg.loX, Lg.accS, Lg.inertX, Lg.idOf, Lg.isSomeTrue, Lg.noclB, Lg.apart, Lg.rdS, Lg.rdX, Lg.rdO, Lg.rdOs, Lg.rdM, Lg.kept, Lg.sameBx, Lg.eqD, Lg.eqDs, Lg.eqSc, Lg.resDs, Lg.resD, Lg.foldR, Lg.foldM, Lg.foldL, Lg.unfL, Lg.canon, Lg.outs, Lg.one, binD_add, binD_sub, binD_lss, binD_leq, binD_gtr, binD_geq, binD_eql, binD_neq, binD_or, binD_and, binD_andn, binD_shl, binD_shr, binK_eql, binK_neq, binK_lss, binK_leq, binK_gtr, binK_geq, binD_rem, cw174, w1, w2, cw132, cr132, sp132n, sp132s, cw202, sp202, eqDs_I, kA, kB, kO, kD, k5, k0, k3, e1, e2, e3, e4, e5]
  · simp -implicitDefEqProofs [Lg.finK_nrm, Lg.finK_ret, Lg.seqK_nrm, Lg.seqK_ret, Lg.seqK_exit, Lg.blkK_nrm, Lg.blkK_ret, Lg.blkK_exit, Lg.evB_seq, Lg.evB_reg, Lg.evB_dregQ, Lg.quietReg, Lg.quietOp, Lg.qB_nil, Lg.qB_bar, Lg.qB_free, Lg.qbarK_ap, Lg.qfreeK_ap, Lg.evB_ret, Lg.evB_skip, Lg.evB_exit, Lg.evB_block, Lg.evB_cond, Lg.stB_cons, Lg.stB_nil, Lg.nrmK_ap, Lg.tailK_ap, Lg.drB_nil, Lg.drB_bar, Lg.drB_free, Lg.barK_ap, Lg.freeK_ap, Lg.freeC_ap, Lg.loopF_eq, Lg.foldK_ap, Lg.condK_B, Lg.isCall, Lg.wanted, Lg.evX, Lg.ov, Lg.ovs, Lg.lk, Lg.putE, Lg.putH, Lg.envFrom, Lg.eats, Lg.D.int, Lg.D.bool, Lg.D.str, Lg.D.cells, Lg.noTree, Lg.noTrees, Lg.isRO, Lg.isROs, Lg.isCellD, Lg.cellsAt, Lg.part, Lg.slD, Lg.lenD, Lg.isStr, Lg.natOf, Lg.bnds, Lg.storeD, Lg.appendD, Lg.appendY, Lg.slcD, Lg.putCells, Lg.buildD, Lg.fillD, Lg.chunks, Lg.elemOf, Lg.frz1, Lg.idsD, Lg.idsDs, Lg.rof, Lg.rofs, Lg.roD, Lg.roDs, Lg.unf, Lg.unfs, Lg.thr, Lg.fld, Lg.depth, Lg.isNil, Lg.eqaD, Lg.eqLeaves, Lg.eqLeaf, Lg.unaD, Lg.cviD, Lg.binbD, Lg.binB, Lg.stepO_0, Lg.stepO_g, Lg.stepX_0, Lg.stepX_g, Lg.putX_ap, Lg.putS_none, Lg.putS_some, Lg.putC_ap, Lg.gdK_B, Lg.gdK_tup, Lg.evCall, Lg.callM, Lg.callQ, Lg.callO, Lg.argF, Lg.plain, Lg.plains, Lg.idsRO, Lg.restore, Lg.isAlive, Lg.settle, Lg.accX, Lg.clash, Lg.loX, Lg.accS, Lg.inertX, Lg.idOf, Lg.isSomeTrue, Lg.noclB, Lg.apart, Lg.rdS, Lg.rdX, Lg.rdO, Lg.rdOs, Lg.rdM, Lg.kept, Lg.sameBx, Lg.eqD, Lg.eqDs, Lg.eqSc, Lg.resDs, Lg.resD, Lg.foldR, Lg.foldM, Lg.foldL, Lg.unfL, Lg.canon, Lg.outs, Lg.one, binD_add, binD_sub, binD_lss, binD_leq, binD_gtr, binD_geq, binD_eql, binD_neq, binD_or, binD_and, binD_andn, binD_shl, binD_shr, binK_eql, binK_neq, binK_lss, binK_leq, binK_gtr, binK_geq, binD_rem, cw174, w1, w2, cw132, cr132, sp132n, sp132s, cw202, sp202, eqDs_I, kA, kB, kO, kD, k5, k0, h3, e1, e2, e3, e4, e5]
end Go.Proofs.Ytflnllohghgpdaa.LgTab
