import Derived.Test.YtjbdijfibllddaaDoorLgV5
import Derived.Test.YtjbdijfibllddaaDoorLgV2
/-
  SayTells: its law, of one dialect.
-/
namespace Go.Proofs.YtjbdijfibllddaaDoor.LgTab
open Go Lg
set_option linter.unusedVariables false
set_option linter.unusedSimpArgs false
set_option maxRecDepth 8000
theorem pk3t (L : List UInt8) : ∃ T, T = bytesD L ∧ plains T = true ∧ bytesOfD T = some L := ⟨_, rfl, plains_u8 L, bytesOf_u8 L⟩
/-- What is told of a rune. -/
theorem rune_case3t (k : Nat) (x : Int) (hx : -2147483648 ≤ x ∧ x ≤ 2147483647) : ∃ (q : Int) (TR : List D) (Ru : List UInt8), plains TR = true ∧ bytesOfD TR = some Ru ∧
    evFun (clOf (modsR tab (k + 12)) 3) s266 [I 3, R x] = some (R q, []) ∧ evFun (clOf (modsR tab (k + 12)) 3) s367 [I 3, R x] = some (.osl true 1 TR, []) ∧
    ((q ≠ x ∧ Ru = []) ∨ (q = x ∧ evFun (clOf (modsR tab (k + 12)) 3) s117 [R x] = some (.tup [U 0, B false], []) ∧ ∃ v B8, IntKind.u8.wrap x = v ∧ bytesOfD [U v] = some [B8] ∧ Ru = [B8]) ∨
      (q = x ∧ ∃ b B8 v X8, evFun (clOf (modsR tab (k + 12)) 3) s117 [R x] = some (.tup [U b, B true], []) ∧ IntKind.u8.wrap x = v ∧ bytesOfD [U v] = some [X8] ∧ bytesOfD [U b] = some [B8] ∧ Ru = [27, 40, 48, B8, 27, 40, 66])) := by
  have b1 : ∀ v : Int, 0 ≤ v ∧ v ≤ 255 → bytesOfD [U v] = some [UInt8.ofNat v.toNat] := by
    intro v hv
    have h2 : v < 256 := by omega
    simp [bytesOfD, u8OfD, hv.1, h2]
  have ew : IntKind.u8.wrap x = x % 256 := rfl
  by_cases hd : x ∈ drawnL
  · obtain ⟨b, c, hc, hb, f1, f2, f3, f4⟩ := drawn_facts (k + 7) x hd
    exact ⟨c, [], [], by rfl, by rfl, f4.1, f4.2, .inl ⟨hc, rfl⟩⟩
  · have hn : ∀ y, y ∈ drawnL → y ≠ x := fun y hy e => hd (e ▸ hy)
    by_cases hp : 32 ≤ x ∧ x ≤ 126
    · refine ⟨x, [U x], [UInt8.ofNat x.toNat], by rfl, b1 x (by omega), sp266_no (k + 10) 3 x x (by omega) hn (sp248_p (k + 10) x hp), sp367_p (k + 8) 3 x (by omega) hp hn, .inr (.inl ⟨rfl, sp117_no (k + 11) x hn, x, _, wrap_u8 _ (by omega) (by omega), b1 x (by omega), rfl⟩)⟩
    · exact ⟨63, [], [], by rfl, by rfl, sp266_no (k + 10) 3 x 63 (by omega) hn (sp248_n (k + 10) x hp hn), sp367_n (k + 8) 3 x (by omega) hp hn, .inl ⟨by omega, rfl⟩⟩
set_option maxHeartbeats 8000000 in
theorem sp214_3t (k : Nat) (d0 r0 c0 n0 x : Int) (hx : -2147483648 ≤ x ∧ x ≤ 2147483647) (wd : evFun (clOf (modsR tab (k + 12)) 3) s174 [I d0, I 0, I 4] = some (I 3, [])) : evFun (clOf (modsR tab (k + 13)) 3) s214 [I d0, I r0, I c0, I n0, R x, B true] = some (B true, []) := by
  rw [evFun_evB rfl]
  unfold s214
  obtain ⟨y, hy⟩ : ∃ y, y = 0 + r0 % (90 - 0 + 1) := ⟨_, rfl⟩
  have wy := sp174c (k + 12) r0 0 90 (by omega) (by omega) (by omega) y hy
  have by' : 0 ≤ y ∧ y ≤ 90 := by omega
  obtain ⟨z, hz⟩ : ∃ z, z = 0 + c0 % (90 - 0 + 1) := ⟨_, rfl⟩
  have wz := sp174c (k + 12) c0 0 90 (by omega) (by omega) (by omega) z hz
  have bz : 0 ≤ z ∧ z ≤ 90 := by omega
  obtain ⟨u, hu⟩ : ∃ u, u = 0 + n0 % (3 - 0 + 1) := ⟨_, rfl⟩
  have wu := sp174c (k + 12) n0 0 3 (by omega) (by omega) (by omega) u hu
  have bu : 0 ≤ u ∧ u ≤ 3 := by omega
  obtain ⟨w, hw⟩ : ∃ w, w = -1 + n0 % (3 - -1 + 1) := ⟨_, rfl⟩
  have ww := sp174c (k + 12) n0 (-1) 3 (by omega) (by omega) (by omega) w hw
  have bw : -1 ≤ w ∧ w ≤ 3 := by
    rw [show (3 - -1 + 1 : Int) = 5 from rfl] at hw
    omega
  clear hy hz hw
  obtain ⟨m, gm, hm⟩ : ∃ m : Int, ([I 7, I 25, I 6, I 1] : List D)[u.toNat]? = some (I m) ∧ (m = 7 ∨ m = 25 ∨ m = 6 ∨ m = 1) := by
    have hc : u = 0 ∨ u = 1 ∨ u = 2 ∨ u = 3 := by omega
    rcases hc with h | h | h | h <;> rw [h]
    · exact ⟨7, rfl, by omega⟩
    · exact ⟨25, rfl, by omega⟩
    · exact ⟨6, rfl, by omega⟩
    · exact ⟨1, rfl, by omega⟩
  clear hu
  have gm' := get_of gm
  have bu1 := bu.1
  have e1 : wr (y + 1) = y + 1 := wr_id _ (by omega) (by omega)
  have e2 : wr (z + 1) = z + 1 := wr_id _ (by omega) (by omega)
  have e3 : wr (32 + y) = 32 + y := wr_id _ (by omega) (by omega)
  have e4 : wr (32 + z) = 32 + z := wr_id _ (by omega) (by omega)
  have e5 : IntKind.u8.wrap (32 + y) = 32 + y := wrap_u8 _ (by omega) (by omega)
  have e6 : IntKind.u8.wrap (32 + z) = 32 + z := wrap_u8 _ (by omega) (by omega)
  have bs0 : bytesOfD [] = some [] := rfl
  have q0 := same_str [] [] rfl
  have w364 := sp364_3 (k + 4) y z by' bz
  have w362 := sp362_3 (k + 4) y z
  have by1 : ∀ v : Int, 0 ≤ v ∧ v ≤ 255 → u8OfD (U v) = some (UInt8.ofNat v.toNat) := by
    intro v hv
    have h2 : v < 256 := by omega
    simp [u8OfD, hv.1, h2]
  obtain ⟨Y8, hY8⟩ : ∃ Y8, u8OfD (U (32 + y)) = some Y8 := ⟨_, by1 _ (by omega)⟩
  obtain ⟨Z8, hZ8⟩ : ∃ Z8, u8OfD (U (32 + z)) = some Z8 := ⟨_, by1 _ (by omega)⟩
  have bM : bytesOfD [U 27, U 89, U (32 + y), U (32 + z)] = some [27, 89, Y8, Z8] := by
    have u27 : u8OfD (U 27) = some 27 := rfl
    have u89 : u8OfD (U 89) = some 89 := rfl
    simp only [bytesOfD, hY8, hZ8, u27, u89, Option.bind_some, Option.map_some]
  have q1 := same_str [27, 89, Y8, Z8] _ rfl
  clear by1
  have w359 : evFun (clOf (modsR tab (k + 12)) 3) s359 [I 3] = some (.osl true 1 [U 27, U 73], []) := sp359 (k + 3) 3 (by omega)
  have w361 : evFun (clOf (modsR tab (k + 12)) 3) s361 [I 3] = some (.osl true 1 [U 10], []) := sp361 (k + 3) 3 (by omega)
  have bsB : bytesOfD [U 27, U 73] = some [27, 73] := rfl
  have bsF : bytesOfD [U 10] = some [10] := rfl
  have qB := same_str [27, 73] _ rfl
  have qF := same_str [10] _ rfl
  have w363 : evFun (clOf (modsR tab (k + 12)) 3) s363 [I 3, I m, B true] = some (.osl true 1 [], []) := by
    have := sp363 (k + 3) 3 m true (by omega) hm
    rw [show modeM 3 m true = [] by simp [modeM]] at this
    exact this
  have w360 := sp360 (k + 3) 3 w true (by omega) bw
  have d5 := cat_ok [27] [75] [27, 75] (by simp) rfl
  have q4 := same_str [27, 75] _ rfl
  have b0 : 0 ≤ y := by'.1
  obtain ⟨q, TR, Ru, pR, bR, w266, w367, hR⟩ := rune_case3t k x hx
  rcases hR with ⟨hq, rfl⟩ | ⟨rfl, f1, v, B8, ew, bv, rfl⟩ | ⟨rfl, b, B8, v, X8, f1, ew, bv, bb, rfl⟩
  · by_cases hw0 : w = 0
    · subst hw0
      have w360 : evFun (clOf (modsR tab (k + 12)) 3) s360 [I 3, I 0, B true] = some (.osl true 1 [U 27, U 75], []) := w360
      have bE : bytesOfD [U 27, U 75] = some [27, 75] := rfl
      simp -implicitDefEqProofs [Lg.finK_nrm, Lg.finK_ret, Lg.seqK_nrm, Lg.seqK_ret, Lg.seqK_exit, Lg.blkK_nrm, Lg.blkK_ret, Lg.blkK_exit, Lg.evB_seq, Lg.evB_reg, Lg.evB_dregQ, Lg.quietReg, Lg.quietOp, Lg.qB_nil, Lg.qB_bar, Lg.qB_free, Lg.qbarK_ap, Lg.qfreeK_ap, Lg.evB_ret, Lg.evB_skip, Lg.evB_exit, Lg.evB_block, Lg.evB_cond, Lg.stB_cons, Lg.stB_nil, Lg.nrmK_ap, Lg.tailK_ap, Lg.drB_nil, Lg.drB_bar, Lg.drB_free, Lg.barK_ap, Lg.freeK_ap, Lg.freeC_ap, Lg.loopF_eq, Lg.foldK_ap, Lg.condK_B, Lg.isCall, Lg.wanted, Lg.evX, Lg.ov, Lg.ovs, Lg.lk, Lg.putE, Lg.putH, Lg.envFrom, Lg.eats, Lg.D.int, Lg.D.bool, Lg.D.str, Lg.D.cells, Lg.noTree, Lg.noTrees, Lg.isRO, Lg.isROs, Lg.isCellD, Lg.cellsAt, Lg.part, Lg.slD, Lg.lenD, Lg.isStr, Lg.natOf, Lg.bnds, Lg.storeD, Lg.appendD, Lg.appendY, Lg.slcD, Lg.putCells, Lg.buildD, Lg.fillD, Lg.chunks, Lg.elemOf, Lg.frz1, Lg.idsD, Lg.idsDs, Lg.rof, Lg.rofs, Lg.roD, Lg.roDs, Lg.unf, Lg.unfs, Lg.thr, Lg.fld, Lg.depth, Lg.isNil, Lg.eqaD, Lg.eqLeaves, Lg.eqLeaf, Lg.unaD, Lg.cviD, Lg.binbD, Lg.binB, Lg.stepO_0, Lg.stepO_g, Lg.stepX_0, Lg.stepX_g, Lg.putX_ap, Lg.putS_none, Lg.putS_some, Lg.putC_ap, Lg.gdK_B, Lg.gdK_tup, Lg.evCall, Lg.callM, Lg.callQ, Lg.callO, Lg.argF, Lg.plain, Lg.plains, Lg.idsRO, Lg.restore, Lg.isAlive, Lg.settle, Lg.accX, Lg.clash, Lg.loX, Lg.accS, Lg.inertX, Lg.idOf, Lg.isSomeTrue, Lg.noclB, Lg.apart, Lg.rdS, Lg.rdX, Lg.rdO, Lg.rdOs, Lg.rdM, Lg.kept, Lg.sameBx, Lg.eqD, Lg.eqDs, Lg.eqSc, Lg.resDs, Lg.resD, Lg.foldR, Lg.foldM, Lg.foldL, Lg.unfL, Lg.canon, Lg.outs, Lg.one, binD_add, binD_sub, binD_lss, binD_leq, binD_gtr, binD_geq, binD_eql, binD_neq, binD_or, binD_and, binD_andn, binD_shl, binD_shr, binK_eql, binK_neq, binK_lss, binK_leq, binK_gtr, binK_geq, cw174, wd, wy, wz, wu, ww, gm, gm', bu1, e3, e4, e5, e6, cw364, w364, bM, q1, cw362, w362, cw359, w359, bsB, qB, cw361, w361, bsF, qF, cw363, w363, cw360, w360, d5, q4, cw266, w266, cw367, w367, pR, bR, bs0, q0, cw213, sp213, hq, bE]
    · rw [show eraseM 3 w true = [] by simp [eraseM, hw0]] at w360
      have w360 : evFun (clOf (modsR tab (k + 12)) 3) s360 [I 3, I w, B true] = some (.osl true 1 [], []) := w360
      simp -implicitDefEqProofs [Lg.finK_nrm, Lg.finK_ret, Lg.seqK_nrm, Lg.seqK_ret, Lg.seqK_exit, Lg.blkK_nrm, Lg.blkK_ret, Lg.blkK_exit, Lg.evB_seq, Lg.evB_reg, Lg.evB_dregQ, Lg.quietReg, Lg.quietOp, Lg.qB_nil, Lg.qB_bar, Lg.qB_free, Lg.qbarK_ap, Lg.qfreeK_ap, Lg.evB_ret, Lg.evB_skip, Lg.evB_exit, Lg.evB_block, Lg.evB_cond, Lg.stB_cons, Lg.stB_nil, Lg.nrmK_ap, Lg.tailK_ap, Lg.drB_nil, Lg.drB_bar, Lg.drB_free, Lg.barK_ap, Lg.freeK_ap, Lg.freeC_ap, Lg.loopF_eq, Lg.foldK_ap, Lg.condK_B, Lg.isCall, Lg.wanted, Lg.evX, Lg.ov, Lg.ovs, Lg.lk, Lg.putE, Lg.putH, Lg.envFrom, Lg.eats, Lg.D.int, Lg.D.bool, Lg.D.str, Lg.D.cells, Lg.noTree, Lg.noTrees, Lg.isRO, Lg.isROs, Lg.isCellD, Lg.cellsAt, Lg.part, Lg.slD, Lg.lenD, Lg.isStr, Lg.natOf, Lg.bnds, Lg.storeD, Lg.appendD, Lg.appendY, Lg.slcD, Lg.putCells, Lg.buildD, Lg.fillD, Lg.chunks, Lg.elemOf, Lg.frz1, Lg.idsD, Lg.idsDs, Lg.rof, Lg.rofs, Lg.roD, Lg.roDs, Lg.unf, Lg.unfs, Lg.thr, Lg.fld, Lg.depth, Lg.isNil, Lg.eqaD, Lg.eqLeaves, Lg.eqLeaf, Lg.unaD, Lg.cviD, Lg.binbD, Lg.binB, Lg.stepO_0, Lg.stepO_g, Lg.stepX_0, Lg.stepX_g, Lg.putX_ap, Lg.putS_none, Lg.putS_some, Lg.putC_ap, Lg.gdK_B, Lg.gdK_tup, Lg.evCall, Lg.callM, Lg.callQ, Lg.callO, Lg.argF, Lg.plain, Lg.plains, Lg.idsRO, Lg.restore, Lg.isAlive, Lg.settle, Lg.accX, Lg.clash, Lg.loX, Lg.accS, Lg.inertX, Lg.idOf, Lg.isSomeTrue, Lg.noclB, Lg.apart, Lg.rdS, Lg.rdX, Lg.rdO, Lg.rdOs, Lg.rdM, Lg.kept, Lg.sameBx, Lg.eqD, Lg.eqDs, Lg.eqSc, Lg.resDs, Lg.resD, Lg.foldR, Lg.foldM, Lg.foldL, Lg.unfL, Lg.canon, Lg.outs, Lg.one, binD_add, binD_sub, binD_lss, binD_leq, binD_gtr, binD_geq, binD_eql, binD_neq, binD_or, binD_and, binD_andn, binD_shl, binD_shr, binK_eql, binK_neq, binK_lss, binK_leq, binK_gtr, binK_geq, cw174, wd, wy, wz, wu, ww, gm, gm', bu1, e3, e4, e5, e6, cw364, w364, bM, q1, cw362, w362, cw359, w359, bsB, qB, cw361, w361, bsF, qF, cw363, w363, cw360, w360, d5, q4, cw266, w266, cw367, w367, pR, bR, bs0, q0, cw213, sp213, hq, hw0]
  · have qR := same_str [B8] _ rfl
    by_cases hw0 : w = 0
    · subst hw0
      have w360 : evFun (clOf (modsR tab (k + 12)) 3) s360 [I 3, I 0, B true] = some (.osl true 1 [U 27, U 75], []) := w360
      have bE : bytesOfD [U 27, U 75] = some [27, 75] := rfl
      simp -implicitDefEqProofs [Lg.finK_nrm, Lg.finK_ret, Lg.seqK_nrm, Lg.seqK_ret, Lg.seqK_exit, Lg.blkK_nrm, Lg.blkK_ret, Lg.blkK_exit, Lg.evB_seq, Lg.evB_reg, Lg.evB_dregQ, Lg.quietReg, Lg.quietOp, Lg.qB_nil, Lg.qB_bar, Lg.qB_free, Lg.qbarK_ap, Lg.qfreeK_ap, Lg.evB_ret, Lg.evB_skip, Lg.evB_exit, Lg.evB_block, Lg.evB_cond, Lg.stB_cons, Lg.stB_nil, Lg.nrmK_ap, Lg.tailK_ap, Lg.drB_nil, Lg.drB_bar, Lg.drB_free, Lg.barK_ap, Lg.freeK_ap, Lg.freeC_ap, Lg.loopF_eq, Lg.foldK_ap, Lg.condK_B, Lg.isCall, Lg.wanted, Lg.evX, Lg.ov, Lg.ovs, Lg.lk, Lg.putE, Lg.putH, Lg.envFrom, Lg.eats, Lg.D.int, Lg.D.bool, Lg.D.str, Lg.D.cells, Lg.noTree, Lg.noTrees, Lg.isRO, Lg.isROs, Lg.isCellD, Lg.cellsAt, Lg.part, Lg.slD, Lg.lenD, Lg.isStr, Lg.natOf, Lg.bnds, Lg.storeD, Lg.appendD, Lg.appendY, Lg.slcD, Lg.putCells, Lg.buildD, Lg.fillD, Lg.chunks, Lg.elemOf, Lg.frz1, Lg.idsD, Lg.idsDs, Lg.rof, Lg.rofs, Lg.roD, Lg.roDs, Lg.unf, Lg.unfs, Lg.thr, Lg.fld, Lg.depth, Lg.isNil, Lg.eqaD, Lg.eqLeaves, Lg.eqLeaf, Lg.unaD, Lg.cviD, Lg.binbD, Lg.binB, Lg.stepO_0, Lg.stepO_g, Lg.stepX_0, Lg.stepX_g, Lg.putX_ap, Lg.putS_none, Lg.putS_some, Lg.putC_ap, Lg.gdK_B, Lg.gdK_tup, Lg.evCall, Lg.callM, Lg.callQ, Lg.callO, Lg.argF, Lg.plain, Lg.plains, Lg.idsRO, Lg.restore, Lg.isAlive, Lg.settle, Lg.accX, Lg.clash, Lg.loX, Lg.accS, Lg.inertX, Lg.idOf, Lg.isSomeTrue, Lg.noclB, Lg.apart, Lg.rdS, Lg.rdX, Lg.rdO, Lg.rdOs, Lg.rdM, Lg.kept, Lg.sameBx, Lg.eqD, Lg.eqDs, Lg.eqSc, Lg.resDs, Lg.resD, Lg.foldR, Lg.foldM, Lg.foldL, Lg.unfL, Lg.canon, Lg.outs, Lg.one, binD_add, binD_sub, binD_lss, binD_leq, binD_gtr, binD_geq, binD_eql, binD_neq, binD_or, binD_and, binD_andn, binD_shl, binD_shr, binK_eql, binK_neq, binK_lss, binK_leq, binK_gtr, binK_geq, cw174, wd, wy, wz, wu, ww, gm, gm', bu1, e3, e4, e5, e6, cw364, w364, bM, q1, cw362, w362, cw359, w359, bsB, qB, cw361, w361, bsF, qF, cw363, w363, cw360, w360, d5, q4, cw266, w266, cw367, w367, pR, bR, bs0, q0, cw213, sp213, cw117, f1, ew, bv, qR, bE]
    · rw [show eraseM 3 w true = [] by simp [eraseM, hw0]] at w360
      have w360 : evFun (clOf (modsR tab (k + 12)) 3) s360 [I 3, I w, B true] = some (.osl true 1 [], []) := w360
      simp -implicitDefEqProofs [Lg.finK_nrm, Lg.finK_ret, Lg.seqK_nrm, Lg.seqK_ret, Lg.seqK_exit, Lg.blkK_nrm, Lg.blkK_ret, Lg.blkK_exit, Lg.evB_seq, Lg.evB_reg, Lg.evB_dregQ, Lg.quietReg, Lg.quietOp, Lg.qB_nil, Lg.qB_bar, Lg.qB_free, Lg.qbarK_ap, Lg.qfreeK_ap, Lg.evB_ret, Lg.evB_skip, Lg.evB_exit, Lg.evB_block, Lg.evB_cond, Lg.stB_cons, Lg.stB_nil, Lg.nrmK_ap, Lg.tailK_ap, Lg.drB_nil, Lg.drB_bar, Lg.drB_free, Lg.barK_ap, Lg.freeK_ap, Lg.freeC_ap, Lg.loopF_eq, Lg.foldK_ap, Lg.condK_B, Lg.isCall, Lg.wanted, Lg.evX, Lg.ov, Lg.ovs, Lg.lk, Lg.putE, Lg.putH, Lg.envFrom, Lg.eats, Lg.D.int, Lg.D.bool, Lg.D.str, Lg.D.cells, Lg.noTree, Lg.noTrees, Lg.isRO, Lg.isROs, Lg.isCellD, Lg.cellsAt, Lg.part, Lg.slD, Lg.lenD, Lg.isStr, Lg.natOf, Lg.bnds, Lg.storeD, Lg.appendD, Lg.appendY, Lg.slcD, Lg.putCells, Lg.buildD, Lg.fillD, Lg.chunks, Lg.elemOf, Lg.frz1, Lg.idsD, Lg.idsDs, Lg.rof, Lg.rofs, Lg.roD, Lg.roDs, Lg.unf, Lg.unfs, Lg.thr, Lg.fld, Lg.depth, Lg.isNil, Lg.eqaD, Lg.eqLeaves, Lg.eqLeaf, Lg.unaD, Lg.cviD, Lg.binbD, Lg.binB, Lg.stepO_0, Lg.stepO_g, Lg.stepX_0, Lg.stepX_g, Lg.putX_ap, Lg.putS_none, Lg.putS_some, Lg.putC_ap, Lg.gdK_B, Lg.gdK_tup, Lg.evCall, Lg.callM, Lg.callQ, Lg.callO, Lg.argF, Lg.plain, Lg.plains, Lg.idsRO, Lg.restore, Lg.isAlive, Lg.settle, Lg.accX, Lg.clash, Lg.loX, Lg.accS, Lg.inertX, Lg.idOf, Lg.isSomeTrue, Lg.noclB, Lg.apart, Lg.rdS, Lg.rdX, Lg.rdO, Lg.rdOs, Lg.rdM, Lg.kept, Lg.sameBx, Lg.eqD, Lg.eqDs, Lg.eqSc, Lg.resDs, Lg.resD, Lg.foldR, Lg.foldM, Lg.foldL, Lg.unfL, Lg.canon, Lg.outs, Lg.one, binD_add, binD_sub, binD_lss, binD_leq, binD_gtr, binD_geq, binD_eql, binD_neq, binD_or, binD_and, binD_andn, binD_shl, binD_shr, binK_eql, binK_neq, binK_lss, binK_leq, binK_gtr, binK_geq, cw174, wd, wy, wz, wu, ww, gm, gm', bu1, e3, e4, e5, e6, cw364, w364, bM, q1, cw362, w362, cw359, w359, bsB, qB, cw361, w361, bsF, qF, cw363, w363, cw360, w360, d5, q4, cw266, w266, cw367, w367, pR, bR, bs0, q0, cw213, sp213, cw117, f1, ew, bv, qR, hw0]
  · have h1 := cat_ok [27, 40, 48] [B8] [27, 40, 48, B8] (by simp) rfl
    have h2 := cat_ok [27, 40, 48, B8] [27, 40, 66] [27, 40, 48, B8, 27, 40, 66] (by simp) rfl
    have qR := same_str [27, 40, 48, B8, 27, 40, 66] _ rfl
    by_cases hw0 : w = 0
    · subst hw0
      have w360 : evFun (clOf (modsR tab (k + 12)) 3) s360 [I 3, I 0, B true] = some (.osl true 1 [U 27, U 75], []) := w360
      have bE : bytesOfD [U 27, U 75] = some [27, 75] := rfl
      simp -implicitDefEqProofs [Lg.finK_nrm, Lg.finK_ret, Lg.seqK_nrm, Lg.seqK_ret, Lg.seqK_exit, Lg.blkK_nrm, Lg.blkK_ret, Lg.blkK_exit, Lg.evB_seq, Lg.evB_reg, Lg.evB_dregQ, Lg.quietReg, Lg.quietOp, Lg.qB_nil, Lg.qB_bar, Lg.qB_free, Lg.qbarK_ap, Lg.qfreeK_ap, Lg.evB_ret, Lg.evB_skip, Lg.evB_exit, Lg.evB_block, Lg.evB_cond, Lg.stB_cons, Lg.stB_nil, Lg.nrmK_ap, Lg.tailK_ap, Lg.drB_nil, Lg.drB_bar, Lg.drB_free, Lg.barK_ap, Lg.freeK_ap, Lg.freeC_ap, Lg.loopF_eq, Lg.foldK_ap, Lg.condK_B, Lg.isCall, Lg.wanted, Lg.evX, Lg.ov, Lg.ovs, Lg.lk, Lg.putE, Lg.putH, Lg.envFrom, Lg.eats, Lg.D.int, Lg.D.bool, Lg.D.str, Lg.D.cells, Lg.noTree, Lg.noTrees, Lg.isRO, Lg.isROs, Lg.isCellD, Lg.cellsAt, Lg.part, Lg.slD, Lg.lenD, Lg.isStr, Lg.natOf, Lg.bnds, Lg.storeD, Lg.appendD, Lg.appendY, Lg.slcD, Lg.putCells, Lg.buildD, Lg.fillD, Lg.chunks, Lg.elemOf, Lg.frz1, Lg.idsD, Lg.idsDs, Lg.rof, Lg.rofs, Lg.roD, Lg.roDs, Lg.unf, Lg.unfs, Lg.thr, Lg.fld, Lg.depth, Lg.isNil, Lg.eqaD, Lg.eqLeaves, Lg.eqLeaf, Lg.unaD, Lg.cviD, Lg.binbD, Lg.binB, Lg.stepO_0, Lg.stepO_g, Lg.stepX_0, Lg.stepX_g, Lg.putX_ap, Lg.putS_none, Lg.putS_some, Lg.putC_ap, Lg.gdK_B, Lg.gdK_tup, Lg.evCall, Lg.callM, Lg.callQ, Lg.callO, Lg.argF, Lg.plain, Lg.plains, Lg.idsRO, Lg.restore, Lg.isAlive, Lg.settle, Lg.accX, Lg.clash, Lg.loX, Lg.accS, Lg.inertX, Lg.idOf, Lg.isSomeTrue, Lg.noclB, Lg.apart, Lg.rdS, Lg.rdX, Lg.rdO, Lg.rdOs, Lg.rdM, Lg.kept, Lg.sameBx, Lg.eqD, Lg.eqDs, Lg.eqSc, Lg.resDs, Lg.resD, Lg.foldR, Lg.foldM, Lg.foldL, Lg.unfL, Lg.canon, Lg.outs, Lg.one, binD_add, binD_sub, binD_lss, binD_leq, binD_gtr, binD_geq, binD_eql, binD_neq, binD_or, binD_and, binD_andn, binD_shl, binD_shr, binK_eql, binK_neq, binK_lss, binK_leq, binK_gtr, binK_geq, cw174, wd, wy, wz, wu, ww, gm, gm', bu1, e3, e4, e5, e6, cw364, w364, bM, q1, cw362, w362, cw359, w359, bsB, qB, cw361, w361, bsF, qF, cw363, w363, cw360, w360, d5, q4, cw266, w266, cw367, w367, pR, bR, bs0, q0, cw213, sp213, cw117, f1, ew, bv, bb, h1, h2, qR, bE]
    · rw [show eraseM 3 w true = [] by simp [eraseM, hw0]] at w360
      have w360 : evFun (clOf (modsR tab (k + 12)) 3) s360 [I 3, I w, B true] = some (.osl true 1 [], []) := w360
      simp -implicitDefEqProofs [Lg.finK_nrm, Lg.finK_ret, Lg.seqK_nrm, Lg.seqK_ret, Lg.seqK_exit, Lg.blkK_nrm, Lg.blkK_ret, Lg.blkK_exit, Lg.evB_seq, Lg.evB_reg, Lg.evB_dregQ, Lg.quietReg, Lg.quietOp, Lg.qB_nil, Lg.qB_bar, Lg.qB_free, Lg.qbarK_ap, Lg.qfreeK_ap, Lg.evB_ret, Lg.evB_skip, Lg.evB_exit, Lg.evB_block, Lg.evB_cond, Lg.stB_cons, Lg.stB_nil, Lg.nrmK_ap, Lg.tailK_ap, Lg.drB_nil, Lg.drB_bar, Lg.drB_free, Lg.barK_ap, Lg.freeK_ap, Lg.freeC_ap, Lg.loopF_eq, Lg.foldK_ap, Lg.condK_B, Lg.isCall, Lg.wanted, Lg.evX, Lg.ov, Lg.ovs, Lg.lk, Lg.putE, Lg.putH, Lg.envFrom, Lg.eats, Lg.D.int, Lg.D.bool, Lg.D.str, Lg.D.cells, Lg.noTree, Lg.noTrees, Lg.isRO, Lg.isROs, Lg.isCellD, Lg.cellsAt, Lg.part, Lg.slD, Lg.lenD, Lg.isStr, Lg.natOf, Lg.bnds, Lg.storeD, Lg.appendD, Lg.appendY, Lg.slcD, Lg.putCells, Lg.buildD, Lg.fillD, Lg.chunks, Lg.elemOf, Lg.frz1, Lg.idsD, Lg.idsDs, Lg.rof, Lg.rofs, Lg.roD, Lg.roDs, Lg.unf, Lg.unfs, Lg.thr, Lg.fld, Lg.depth, Lg.isNil, Lg.eqaD, Lg.eqLeaves, Lg.eqLeaf, Lg.unaD, Lg.cviD, Lg.binbD, Lg.binB, Lg.stepO_0, Lg.stepO_g, Lg.stepX_0, Lg.stepX_g, Lg.putX_ap, Lg.putS_none, Lg.putS_some, Lg.putC_ap, Lg.gdK_B, Lg.gdK_tup, Lg.evCall, Lg.callM, Lg.callQ, Lg.callO, Lg.argF, Lg.plain, Lg.plains, Lg.idsRO, Lg.restore, Lg.isAlive, Lg.settle, Lg.accX, Lg.clash, Lg.loX, Lg.accS, Lg.inertX, Lg.idOf, Lg.isSomeTrue, Lg.noclB, Lg.apart, Lg.rdS, Lg.rdX, Lg.rdO, Lg.rdOs, Lg.rdM, Lg.kept, Lg.sameBx, Lg.eqD, Lg.eqDs, Lg.eqSc, Lg.resDs, Lg.resD, Lg.foldR, Lg.foldM, Lg.foldL, Lg.unfL, Lg.canon, Lg.outs, Lg.one, binD_add, binD_sub, binD_lss, binD_leq, binD_gtr, binD_geq, binD_eql, binD_neq, binD_or, binD_and, binD_andn, binD_shl, binD_shr, binK_eql, binK_neq, binK_lss, binK_leq, binK_gtr, binK_geq, cw174, wd, wy, wz, wu, ww, gm, gm', bu1, e3, e4, e5, e6, cw364, w364, bM, q1, cw362, w362, cw359, w359, bsB, qB, cw361, w361, bsF, qF, cw363, w363, cw360, w360, d5, q4, cw266, w266, cw367, w367, pR, bR, bs0, q0, cw213, sp213, cw117, f1, ew, bv, bb, h1, h2, qR, hw0]
theorem pk3f (L : List UInt8) : ∃ T, T = bytesD L ∧ plains T = true ∧ bytesOfD T = some L := ⟨_, rfl, plains_u8 L, bytesOf_u8 L⟩
/-- What is told of a rune. -/
theorem rune_case3f (k : Nat) (x : Int) (hx : -2147483648 ≤ x ∧ x ≤ 2147483647) : ∃ (q : Int) (TR : List D) (Ru : List UInt8), plains TR = true ∧ bytesOfD TR = some Ru ∧
    evFun (clOf (modsR tab (k + 12)) 3) s266 [I 3, R x] = some (R q, []) ∧ evFun (clOf (modsR tab (k + 12)) 3) s367 [I 3, R x] = some (.osl true 1 TR, []) ∧
    ((q ≠ x ∧ Ru = []) ∨ (q = x ∧ evFun (clOf (modsR tab (k + 12)) 3) s117 [R x] = some (.tup [U 0, B false], []) ∧ ∃ v B8, IntKind.u8.wrap x = v ∧ bytesOfD [U v] = some [B8] ∧ Ru = [B8]) ∨
      (q = x ∧ ∃ b B8 v X8, evFun (clOf (modsR tab (k + 12)) 3) s117 [R x] = some (.tup [U b, B true], []) ∧ IntKind.u8.wrap x = v ∧ bytesOfD [U v] = some [X8] ∧ bytesOfD [U b] = some [B8] ∧ Ru = [27, 40, 48, B8, 27, 40, 66])) := by
  have b1 : ∀ v : Int, 0 ≤ v ∧ v ≤ 255 → bytesOfD [U v] = some [UInt8.ofNat v.toNat] := by
    intro v hv
    have h2 : v < 256 := by omega
    simp [bytesOfD, u8OfD, hv.1, h2]
  have ew : IntKind.u8.wrap x = x % 256 := rfl
  by_cases hd : x ∈ drawnL
  · obtain ⟨b, c, hc, hb, f1, f2, f3, f4⟩ := drawn_facts (k + 7) x hd
    exact ⟨c, [], [], by rfl, by rfl, f4.1, f4.2, .inl ⟨hc, rfl⟩⟩
  · have hn : ∀ y, y ∈ drawnL → y ≠ x := fun y hy e => hd (e ▸ hy)
    by_cases hp : 32 ≤ x ∧ x ≤ 126
    · refine ⟨x, [U x], [UInt8.ofNat x.toNat], by rfl, b1 x (by omega), sp266_no (k + 10) 3 x x (by omega) hn (sp248_p (k + 10) x hp), sp367_p (k + 8) 3 x (by omega) hp hn, .inr (.inl ⟨rfl, sp117_no (k + 11) x hn, x, _, wrap_u8 _ (by omega) (by omega), b1 x (by omega), rfl⟩)⟩
    · exact ⟨63, [], [], by rfl, by rfl, sp266_no (k + 10) 3 x 63 (by omega) hn (sp248_n (k + 10) x hp hn), sp367_n (k + 8) 3 x (by omega) hp hn, .inl ⟨by omega, rfl⟩⟩
set_option maxHeartbeats 8000000 in
theorem sp214_3f (k : Nat) (d0 r0 c0 n0 x : Int) (hx : -2147483648 ≤ x ∧ x ≤ 2147483647) (wd : evFun (clOf (modsR tab (k + 12)) 3) s174 [I d0, I 0, I 4] = some (I 3, [])) : evFun (clOf (modsR tab (k + 13)) 3) s214 [I d0, I r0, I c0, I n0, R x, B false] = some (B true, []) := by
  rw [evFun_evB rfl]
  unfold s214
  obtain ⟨y, hy⟩ : ∃ y, y = 0 + r0 % (90 - 0 + 1) := ⟨_, rfl⟩
  have wy := sp174c (k + 12) r0 0 90 (by omega) (by omega) (by omega) y hy
  have by' : 0 ≤ y ∧ y ≤ 90 := by omega
  obtain ⟨z, hz⟩ : ∃ z, z = 0 + c0 % (90 - 0 + 1) := ⟨_, rfl⟩
  have wz := sp174c (k + 12) c0 0 90 (by omega) (by omega) (by omega) z hz
  have bz : 0 ≤ z ∧ z ≤ 90 := by omega
  obtain ⟨u, hu⟩ : ∃ u, u = 0 + n0 % (3 - 0 + 1) := ⟨_, rfl⟩
  have wu := sp174c (k + 12) n0 0 3 (by omega) (by omega) (by omega) u hu
  have bu : 0 ≤ u ∧ u ≤ 3 := by omega
  obtain ⟨w, hw⟩ : ∃ w, w = -1 + n0 % (3 - -1 + 1) := ⟨_, rfl⟩
  have ww := sp174c (k + 12) n0 (-1) 3 (by omega) (by omega) (by omega) w hw
  have bw : -1 ≤ w ∧ w ≤ 3 := by
    rw [show (3 - -1 + 1 : Int) = 5 from rfl] at hw
    omega
  clear hy hz hw
  obtain ⟨m, gm, hm⟩ : ∃ m : Int, ([I 7, I 25, I 6, I 1] : List D)[u.toNat]? = some (I m) ∧ (m = 7 ∨ m = 25 ∨ m = 6 ∨ m = 1) := by
    have hc : u = 0 ∨ u = 1 ∨ u = 2 ∨ u = 3 := by omega
    rcases hc with h | h | h | h <;> rw [h]
    · exact ⟨7, rfl, by omega⟩
    · exact ⟨25, rfl, by omega⟩
    · exact ⟨6, rfl, by omega⟩
    · exact ⟨1, rfl, by omega⟩
  clear hu
  have gm' := get_of gm
  have bu1 := bu.1
  have e1 : wr (y + 1) = y + 1 := wr_id _ (by omega) (by omega)
  have e2 : wr (z + 1) = z + 1 := wr_id _ (by omega) (by omega)
  have e3 : wr (32 + y) = 32 + y := wr_id _ (by omega) (by omega)
  have e4 : wr (32 + z) = 32 + z := wr_id _ (by omega) (by omega)
  have e5 : IntKind.u8.wrap (32 + y) = 32 + y := wrap_u8 _ (by omega) (by omega)
  have e6 : IntKind.u8.wrap (32 + z) = 32 + z := wrap_u8 _ (by omega) (by omega)
  have bs0 : bytesOfD [] = some [] := rfl
  have q0 := same_str [] [] rfl
  have w364 := sp364_3 (k + 4) y z by' bz
  have w362 := sp362_3 (k + 4) y z
  have by1 : ∀ v : Int, 0 ≤ v ∧ v ≤ 255 → u8OfD (U v) = some (UInt8.ofNat v.toNat) := by
    intro v hv
    have h2 : v < 256 := by omega
    simp [u8OfD, hv.1, h2]
  obtain ⟨Y8, hY8⟩ : ∃ Y8, u8OfD (U (32 + y)) = some Y8 := ⟨_, by1 _ (by omega)⟩
  obtain ⟨Z8, hZ8⟩ : ∃ Z8, u8OfD (U (32 + z)) = some Z8 := ⟨_, by1 _ (by omega)⟩
  have bM : bytesOfD [U 27, U 89, U (32 + y), U (32 + z)] = some [27, 89, Y8, Z8] := by
    have u27 : u8OfD (U 27) = some 27 := rfl
    have u89 : u8OfD (U 89) = some 89 := rfl
    simp only [bytesOfD, hY8, hZ8, u27, u89, Option.bind_some, Option.map_some]
  have q1 := same_str [27, 89, Y8, Z8] _ rfl
  clear by1
  have w359 : evFun (clOf (modsR tab (k + 12)) 3) s359 [I 3] = some (.osl true 1 [U 27, U 73], []) := sp359 (k + 3) 3 (by omega)
  have w361 : evFun (clOf (modsR tab (k + 12)) 3) s361 [I 3] = some (.osl true 1 [U 10], []) := sp361 (k + 3) 3 (by omega)
  have bsB : bytesOfD [U 27, U 73] = some [27, 73] := rfl
  have bsF : bytesOfD [U 10] = some [10] := rfl
  have qB := same_str [27, 73] _ rfl
  have qF := same_str [10] _ rfl
  have w363 : evFun (clOf (modsR tab (k + 12)) 3) s363 [I 3, I m, B false] = some (.osl true 1 [], []) := by
    have := sp363 (k + 3) 3 m false (by omega) hm
    rw [show modeM 3 m false = [] by simp [modeM]] at this
    exact this
  have w360 := sp360 (k + 3) 3 w false (by omega) bw
  have d5 := cat_ok [27] [74] [27, 74] (by simp) rfl
  have q4 := same_str [27, 74] _ rfl
  have b0 : 0 ≤ y := by'.1
  obtain ⟨q, TR, Ru, pR, bR, w266, w367, hR⟩ := rune_case3f k x hx
  rcases hR with ⟨hq, rfl⟩ | ⟨rfl, f1, v, B8, ew, bv, rfl⟩ | ⟨rfl, b, B8, v, X8, f1, ew, bv, bb, rfl⟩
  · by_cases hw0 : w = 0
    · subst hw0
      have w360 : evFun (clOf (modsR tab (k + 12)) 3) s360 [I 3, I 0, B false] = some (.osl true 1 [U 27, U 74], []) := w360
      have bE : bytesOfD [U 27, U 74] = some [27, 74] := rfl
      simp -implicitDefEqProofs [Lg.finK_nrm, Lg.finK_ret, Lg.seqK_nrm, Lg.seqK_ret, Lg.seqK_exit, Lg.blkK_nrm, Lg.blkK_ret, Lg.blkK_exit, Lg.evB_seq, Lg.evB_reg, Lg.evB_dregQ, Lg.quietReg, Lg.quietOp, Lg.qB_nil, Lg.qB_bar, Lg.qB_free, Lg.qbarK_ap, Lg.qfreeK_ap, Lg.evB_ret, Lg.evB_skip, Lg.evB_exit, Lg.evB_block, Lg.evB_cond, Lg.stB_cons, Lg.stB_nil, Lg.nrmK_ap, Lg.tailK_ap, Lg.drB_nil, Lg.drB_bar, Lg.drB_free, Lg.barK_ap, Lg.freeK_ap, Lg.freeC_ap, Lg.loopF_eq, Lg.foldK_ap, Lg.condK_B, Lg.isCall, Lg.wanted, Lg.evX, Lg.ov, Lg.ovs, Lg.lk, Lg.putE, Lg.putH, Lg.envFrom, Lg.eats, Lg.D.int, Lg.D.bool, Lg.D.str, Lg.D.cells, Lg.noTree, Lg.noTrees, Lg.isRO, Lg.isROs, Lg.isCellD, Lg.cellsAt, Lg.part, Lg.slD, Lg.lenD, Lg.isStr, Lg.natOf, Lg.bnds, Lg.storeD, Lg.appendD, Lg.appendY, Lg.slcD, Lg.putCells, Lg.buildD, Lg.fillD, Lg.chunks, Lg.elemOf, Lg.frz1, Lg.idsD, Lg.idsDs, Lg.rof, Lg.rofs, Lg.roD, Lg.roDs, Lg.unf, Lg.unfs, Lg.thr, Lg.fld, Lg.depth, Lg.isNil, Lg.eqaD, Lg.eqLeaves, Lg.eqLeaf, Lg.unaD, Lg.cviD, Lg.binbD, Lg.binB, Lg.stepO_0, Lg.stepO_g, Lg.stepX_0, Lg.stepX_g, Lg.putX_ap, Lg.putS_none, Lg.putS_some, Lg.putC_ap, Lg.gdK_B, Lg.gdK_tup, Lg.evCall, Lg.callM, Lg.callQ, Lg.callO, Lg.argF, Lg.plain, Lg.plains, Lg.idsRO, Lg.restore, Lg.isAlive, Lg.settle, Lg.accX, Lg.clash, Lg.loX, Lg.accS, Lg.inertX, Lg.idOf, Lg.isSomeTrue, Lg.noclB, Lg.apart, Lg.rdS, Lg.rdX, Lg.rdO, Lg.rdOs, Lg.rdM, Lg.kept, Lg.sameBx, Lg.eqD, Lg.eqDs, Lg.eqSc, Lg.resDs, Lg.resD, Lg.foldR, Lg.foldM, Lg.foldL, Lg.unfL, Lg.canon, Lg.outs, Lg.one, binD_add, binD_sub, binD_lss, binD_leq, binD_gtr, binD_geq, binD_eql, binD_neq, binD_or, binD_and, binD_andn, binD_shl, binD_shr, binK_eql, binK_neq, binK_lss, binK_leq, binK_gtr, binK_geq, cw174, wd, wy, wz, wu, ww, gm, gm', bu1, e3, e4, e5, e6, cw364, w364, bM, q1, cw362, w362, cw359, w359, bsB, qB, cw361, w361, bsF, qF, cw363, w363, cw360, w360, d5, q4, cw266, w266, cw367, w367, pR, bR, bs0, q0, cw213, sp213, hq, bE]
    · rw [show eraseM 3 w false = [] by simp [eraseM, hw0]] at w360
      have w360 : evFun (clOf (modsR tab (k + 12)) 3) s360 [I 3, I w, B false] = some (.osl true 1 [], []) := w360
      simp -implicitDefEqProofs [Lg.finK_nrm, Lg.finK_ret, Lg.seqK_nrm, Lg.seqK_ret, Lg.seqK_exit, Lg.blkK_nrm, Lg.blkK_ret, Lg.blkK_exit, Lg.evB_seq, Lg.evB_reg, Lg.evB_dregQ, Lg.quietReg, Lg.quietOp, Lg.qB_nil, Lg.qB_bar, Lg.qB_free, Lg.qbarK_ap, Lg.qfreeK_ap, Lg.evB_ret, Lg.evB_skip, Lg.evB_exit, Lg.evB_block, Lg.evB_cond, Lg.stB_cons, Lg.stB_nil, Lg.nrmK_ap, Lg.tailK_ap, Lg.drB_nil, Lg.drB_bar, Lg.drB_free, Lg.barK_ap, Lg.freeK_ap, Lg.freeC_ap, Lg.loopF_eq, Lg.foldK_ap, Lg.condK_B, Lg.isCall, Lg.wanted, Lg.evX, Lg.ov, Lg.ovs, Lg.lk, Lg.putE, Lg.putH, Lg.envFrom, Lg.eats, Lg.D.int, Lg.D.bool, Lg.D.str, Lg.D.cells, Lg.noTree, Lg.noTrees, Lg.isRO, Lg.isROs, Lg.isCellD, Lg.cellsAt, Lg.part, Lg.slD, Lg.lenD, Lg.isStr, Lg.natOf, Lg.bnds, Lg.storeD, Lg.appendD, Lg.appendY, Lg.slcD, Lg.putCells, Lg.buildD, Lg.fillD, Lg.chunks, Lg.elemOf, Lg.frz1, Lg.idsD, Lg.idsDs, Lg.rof, Lg.rofs, Lg.roD, Lg.roDs, Lg.unf, Lg.unfs, Lg.thr, Lg.fld, Lg.depth, Lg.isNil, Lg.eqaD, Lg.eqLeaves, Lg.eqLeaf, Lg.unaD, Lg.cviD, Lg.binbD, Lg.binB, Lg.stepO_0, Lg.stepO_g, Lg.stepX_0, Lg.stepX_g, Lg.putX_ap, Lg.putS_none, Lg.putS_some, Lg.putC_ap, Lg.gdK_B, Lg.gdK_tup, Lg.evCall, Lg.callM, Lg.callQ, Lg.callO, Lg.argF, Lg.plain, Lg.plains, Lg.idsRO, Lg.restore, Lg.isAlive, Lg.settle, Lg.accX, Lg.clash, Lg.loX, Lg.accS, Lg.inertX, Lg.idOf, Lg.isSomeTrue, Lg.noclB, Lg.apart, Lg.rdS, Lg.rdX, Lg.rdO, Lg.rdOs, Lg.rdM, Lg.kept, Lg.sameBx, Lg.eqD, Lg.eqDs, Lg.eqSc, Lg.resDs, Lg.resD, Lg.foldR, Lg.foldM, Lg.foldL, Lg.unfL, Lg.canon, Lg.outs, Lg.one, binD_add, binD_sub, binD_lss, binD_leq, binD_gtr, binD_geq, binD_eql, binD_neq, binD_or, binD_and, binD_andn, binD_shl, binD_shr, binK_eql, binK_neq, binK_lss, binK_leq, binK_gtr, binK_geq, cw174, wd, wy, wz, wu, ww, gm, gm', bu1, e3, e4, e5, e6, cw364, w364, bM, q1, cw362, w362, cw359, w359, bsB, qB, cw361, w361, bsF, qF, cw363, w363, cw360, w360, d5, q4, cw266, w266, cw367, w367, pR, bR, bs0, q0, cw213, sp213, hq, hw0]
  · have qR := same_str [B8] _ rfl
    by_cases hw0 : w = 0
    · subst hw0
      have w360 : evFun (clOf (modsR tab (k + 12)) 3) s360 [I 3, I 0, B false] = some (.osl true 1 [U 27, U 74], []) := w360
      have bE : bytesOfD [U 27, U 74] = some [27, 74] := rfl
      simp -implicitDefEqProofs [Lg.finK_nrm, Lg.finK_ret, Lg.seqK_nrm, Lg.seqK_ret, Lg.seqK_exit, Lg.blkK_nrm, Lg.blkK_ret, Lg.blkK_exit, Lg.evB_seq, Lg.evB_reg, Lg.evB_dregQ, Lg.quietReg, Lg.quietOp, Lg.qB_nil, Lg.qB_bar, Lg.qB_free, Lg.qbarK_ap, Lg.qfreeK_ap, Lg.evB_ret, Lg.evB_skip, Lg.evB_exit, Lg.evB_block, Lg.evB_cond, Lg.stB_cons, Lg.stB_nil, Lg.nrmK_ap, Lg.tailK_ap, Lg.drB_nil, Lg.drB_bar, Lg.drB_free, Lg.barK_ap, Lg.freeK_ap, Lg.freeC_ap, Lg.loopF_eq, Lg.foldK_ap, Lg.condK_B, Lg.isCall, Lg.wanted, Lg.evX, Lg.ov, Lg.ovs, Lg.lk, Lg.putE, Lg.putH, Lg.envFrom, Lg.eats, Lg.D.int, Lg.D.bool, Lg.D.str, Lg.D.cells, Lg.noTree, Lg.noTrees, Lg.isRO, Lg.isROs, Lg.isCellD, Lg.cellsAt, Lg.part, Lg.slD, Lg.lenD, Lg.isStr, Lg.natOf, Lg.bnds, Lg.storeD, Lg.appendD, Lg.appendY, Lg.slcD, Lg.putCells, Lg.buildD, Lg.fillD, Lg.chunks, Lg.elemOf, Lg.frz1, Lg.idsD, Lg.idsDs, Lg.rof, Lg.rofs, Lg.roD, Lg.roDs, Lg.unf, Lg.unfs, Lg.thr, Lg.fld, Lg.depth, Lg.isNil, Lg.eqaD, Lg.eqLeaves, Lg.eqLeaf, Lg.unaD, Lg.cviD, Lg.binbD, Lg.binB, Lg.stepO_0, Lg.stepO_g, Lg.stepX_0, Lg.stepX_g, Lg.putX_ap, Lg.putS_none, Lg.putS_some, Lg.putC_ap, Lg.gdK_B, Lg.gdK_tup, Lg.evCall, Lg.callM, Lg.callQ, Lg.callO, Lg.argF, Lg.plain, Lg.plains, Lg.idsRO, Lg.restore, Lg.isAlive, Lg.settle, Lg.accX, Lg.clash, Lg.loX, Lg.accS, Lg.inertX, Lg.idOf, Lg.isSomeTrue, Lg.noclB, Lg.apart, Lg.rdS, Lg.rdX, Lg.rdO, Lg.rdOs, Lg.rdM, Lg.kept, Lg.sameBx, Lg.eqD, Lg.eqDs, Lg.eqSc, Lg.resDs, Lg.resD, Lg.foldR, Lg.foldM, Lg.foldL, Lg.unfL, Lg.canon, Lg.outs, Lg.one, binD_add, binD_sub, binD_lss, binD_leq, binD_gtr, binD_geq, binD_eql, binD_neq, binD_or, binD_and, binD_andn, binD_shl, binD_shr, binK_eql, binK_neq, binK_lss, binK_leq, binK_gtr, binK_geq, cw174, wd, wy, wz, wu, ww, gm, gm', bu1, e3, e4, e5, e6, cw364, w364, bM, q1, cw362, w362, cw359, w359, bsB, qB, cw361, w361, bsF, qF, cw363, w363, cw360, w360, d5, q4, cw266, w266, cw367, w367, pR, bR, bs0, q0, cw213, sp213, cw117, f1, ew, bv, qR, bE]
    · rw [show eraseM 3 w false = [] by simp [eraseM, hw0]] at w360
      have w360 : evFun (clOf (modsR tab (k + 12)) 3) s360 [I 3, I w, B false] = some (.osl true 1 [], []) := w360
      simp -implicitDefEqProofs [Lg.finK_nrm, Lg.finK_ret, Lg.seqK_nrm, Lg.seqK_ret, Lg.seqK_exit, Lg.blkK_nrm, Lg.blkK_ret, Lg.blkK_exit, Lg.evB_seq, Lg.evB_reg, Lg.evB_dregQ, Lg.quietReg, Lg.quietOp, Lg.qB_nil, Lg.qB_bar, Lg.qB_free, Lg.qbarK_ap, Lg.qfreeK_ap, Lg.evB_ret, Lg.evB_skip, Lg.evB_exit, Lg.evB_block, Lg.evB_cond, Lg.stB_cons, Lg.stB_nil, Lg.nrmK_ap, Lg.tailK_ap, Lg.drB_nil, Lg.drB_bar, Lg.drB_free, Lg.barK_ap, Lg.freeK_ap, Lg.freeC_ap, Lg.loopF_eq, Lg.foldK_ap, Lg.condK_B, Lg.isCall, Lg.wanted, Lg.evX, Lg.ov, Lg.ovs, Lg.lk, Lg.putE, Lg.putH, Lg.envFrom, Lg.eats, Lg.D.int, Lg.D.bool, Lg.D.str, Lg.D.cells, Lg.noTree, Lg.noTrees, Lg.isRO, Lg.isROs, Lg.isCellD, Lg.cellsAt, Lg.part, Lg.slD, Lg.lenD, Lg.isStr, Lg.natOf, Lg.bnds, Lg.storeD, Lg.appendD, Lg.appendY, Lg.slcD, Lg.putCells, Lg.buildD, Lg.fillD, Lg.chunks, Lg.elemOf, Lg.frz1, Lg.idsD, Lg.idsDs, Lg.rof, Lg.rofs, Lg.roD, Lg.roDs, Lg.unf, Lg.unfs, Lg.thr, Lg.fld, Lg.depth, Lg.isNil, Lg.eqaD, Lg.eqLeaves, Lg.eqLeaf, Lg.unaD, Lg.cviD, Lg.binbD, Lg.binB, Lg.stepO_0, Lg.stepO_g, Lg.stepX_0, Lg.stepX_g, Lg.putX_ap, Lg.putS_none, Lg.putS_some, Lg.putC_ap, Lg.gdK_B, Lg.gdK_tup, Lg.evCall, Lg.callM, Lg.callQ, Lg.callO, Lg.argF, Lg.plain, Lg.plains, Lg.idsRO, Lg.restore, Lg.isAlive, Lg.settle, Lg.accX, Lg.clash, Lg.loX, Lg.accS, Lg.inertX, Lg.idOf, Lg.isSomeTrue, Lg.noclB, Lg.apart, Lg.rdS, Lg.rdX, Lg.rdO, Lg.rdOs, Lg.rdM, Lg.kept, Lg.sameBx, Lg.eqD, Lg.eqDs, Lg.eqSc, Lg.resDs, Lg.resD, Lg.foldR, Lg.foldM, Lg.foldL, Lg.unfL, Lg.canon, Lg.outs, Lg.one, binD_add, binD_sub, binD_lss, binD_leq, binD_gtr, binD_geq, binD_eql, binD_neq, binD_or, binD_and, binD_andn, binD_shl, binD_shr, binK_eql, binK_neq, binK_lss, binK_leq, binK_gtr, binK_geq, cw174, wd, wy, wz, wu, ww, gm, gm', bu1, e3, e4, e5, e6, cw364, w364, bM, q1, cw362, w362, cw359, w359, bsB, qB, cw361, w361, bsF, qF, cw363, w363, cw360, w360, d5, q4, cw266, w266, cw367, w367, pR, bR, bs0, q0, cw213, sp213, cw117, f1, ew, bv, qR, hw0]
  · have h1 := cat_ok [27, 40, 48] [B8] [27, 40, 48, B8] (by simp) rfl
    have h2 := cat_ok [27, 40, 48, B8] [27, 40, 66] [27, 40, 48, B8, 27, 40, 66] (by simp) rfl
    have qR := same_str [27, 40, 48, B8, 27, 40, 66] _ rfl
    by_cases hw0 : w = 0
    · subst hw0
      have w360 : evFun (clOf (modsR tab (k + 12)) 3) s360 [I 3, I 0, B false] = some (.osl true 1 [U 27, U 74], []) := w360
      have bE : bytesOfD [U 27, U 74] = some [27, 74] := rfl
      simp -implicitDefEqProofs [Lg.finK_nrm, Lg.finK_ret, Lg.seqK_nrm, Lg.seqK_ret, Lg.seqK_exit, Lg.blkK_nrm, Lg.blkK_ret, Lg.blkK_exit, Lg.evB_seq, Lg.evB_reg, Lg.evB_dregQ, Lg.quietReg, Lg.quietOp, Lg.qB_nil, Lg.qB_bar, Lg.qB_free, Lg.qbarK_ap, Lg.qfreeK_ap, Lg.evB_ret, Lg.evB_skip, Lg.evB_exit, Lg.evB_block, Lg.evB_cond, Lg.stB_cons, Lg.stB_nil, Lg.nrmK_ap, Lg.tailK_ap, Lg.drB_nil, Lg.drB_bar, Lg.drB_free, Lg.barK_ap, Lg.freeK_ap, Lg.freeC_ap, Lg.loopF_eq, Lg.foldK_ap, Lg.condK_B, Lg.isCall, Lg.wanted, Lg.evX, Lg.ov, Lg.ovs, Lg.lk, Lg.putE, Lg.putH, Lg.envFrom, Lg.eats, Lg.D.int, Lg.D.bool, Lg.D.str, Lg.D.cells, Lg.noTree, Lg.noTrees, Lg.isRO, Lg.isROs, Lg.isCellD, Lg.cellsAt, Lg.part, Lg.slD, Lg.lenD, Lg.isStr, Lg.natOf, Lg.bnds, Lg.storeD, Lg.appendD, Lg.appendY, Lg.slcD, Lg.putCells, Lg.buildD, Lg.fillD, Lg.chunks, Lg.elemOf, Lg.frz1, Lg.idsD, Lg.idsDs, Lg.rof, Lg.rofs, Lg.roD, Lg.roDs, Lg.unf, Lg.unfs, Lg.thr, Lg.fld, Lg.depth, Lg.isNil, Lg.eqaD, Lg.eqLeaves, Lg.eqLeaf, Lg.unaD, Lg.cviD, Lg.binbD, Lg.binB, Lg.stepO_0, Lg.stepO_g, Lg.stepX_0, Lg.stepX_g, Lg.putX_ap, Lg.putS_none, Lg.putS_some, Lg.putC_ap, Lg.gdK_B, Lg.gdK_tup, Lg.evCall, Lg.callM, Lg.callQ, Lg.callO, Lg.argF, Lg.plain, Lg.plains, Lg.idsRO, Lg.restore, Lg.isAlive, Lg.settle, Lg.accX, Lg.clash, Lg.loX, Lg.accS, Lg.inertX, Lg.idOf, Lg.isSomeTrue, Lg.noclB, Lg.apart, Lg.rdS, Lg.rdX, Lg.rdO, Lg.rdOs, Lg.rdM, Lg.kept, Lg.sameBx, Lg.eqD, Lg.eqDs, Lg.eqSc, Lg.resDs, Lg.resD, Lg.foldR, Lg.foldM, Lg.foldL, Lg.unfL, Lg.canon, Lg.outs, Lg.one, binD_add, binD_sub, binD_lss, binD_leq, binD_gtr, binD_geq, binD_eql, binD_neq, binD_or, binD_and, binD_andn, binD_shl, binD_shr, binK_eql, binK_neq, binK_lss, binK_leq, binK_gtr, binK_geq, cw174, wd, wy, wz, wu, ww, gm, gm', bu1, e3, e4, e5, e6, cw364, w364, bM, q1, cw362, w362, cw359, w359, bsB, qB, cw361, w361, bsF, qF, cw363, w363, cw360, w360, d5, q4, cw266, w266, cw367, w367, pR, bR, bs0, q0, cw213, sp213, cw117, f1, ew, bv, bb, h1, h2, qR, bE]
    · rw [show eraseM 3 w false = [] by simp [eraseM, hw0]] at w360
      have w360 : evFun (clOf (modsR tab (k + 12)) 3) s360 [I 3, I w, B false] = some (.osl true 1 [], []) := w360
      simp -implicitDefEqProofs [Lg.finK_nrm, Lg.finK_ret, Lg.seqK_nrm, Lg.seqK_ret, Lg.seqK_exit, Lg.blkK_nrm, Lg.blkK_ret, Lg.blkK_exit, Lg.evB_seq, Lg.evB_reg, Lg.evB_dregQ, Lg.quietReg, Lg.quietOp, Lg.qB_nil, Lg.qB_bar, Lg.qB_free, Lg.qbarK_ap, Lg.qfreeK_ap, Lg.evB_ret, Lg.evB_skip, Lg.evB_exit, Lg.evB_block, Lg.evB_cond, Lg.stB_cons, Lg.stB_nil, Lg.nrmK_ap, Lg.tailK_ap, Lg.drB_nil, Lg.drB_bar, Lg.drB_free, Lg.barK_ap, Lg.freeK_ap, Lg.freeC_ap, Lg.loopF_eq, Lg.foldK_ap, Lg.condK_B, Lg.isCall, Lg.wanted, Lg.evX, Lg.ov, Lg.ovs, Lg.lk, Lg.putE, Lg.putH, Lg.envFrom, Lg.eats, Lg.D.int, Lg.D.bool, Lg.D.str, Lg.D.cells, Lg.noTree, Lg.noTrees, Lg.isRO, Lg.isROs, Lg.isCellD, Lg.cellsAt, Lg.part, Lg.slD, Lg.lenD, Lg.isStr, Lg.natOf, Lg.bnds, Lg.storeD, Lg.appendD, Lg.appendY, Lg.slcD, Lg.putCells, Lg.buildD, Lg.fillD, Lg.chunks, Lg.elemOf, Lg.frz1, Lg.idsD, Lg.idsDs, Lg.rof, Lg.rofs, Lg.roD, Lg.roDs, Lg.unf, Lg.unfs, Lg.thr, Lg.fld, Lg.depth, Lg.isNil, Lg.eqaD, Lg.eqLeaves, Lg.eqLeaf, Lg.unaD, Lg.cviD, Lg.binbD, Lg.binB, Lg.stepO_0, Lg.stepO_g, Lg.stepX_0, Lg.stepX_g, Lg.putX_ap, Lg.putS_none, Lg.putS_some, Lg.putC_ap, Lg.gdK_B, Lg.gdK_tup, Lg.evCall, Lg.callM, Lg.callQ, Lg.callO, Lg.argF, Lg.plain, Lg.plains, Lg.idsRO, Lg.restore, Lg.isAlive, Lg.settle, Lg.accX, Lg.clash, Lg.loX, Lg.accS, Lg.inertX, Lg.idOf, Lg.isSomeTrue, Lg.noclB, Lg.apart, Lg.rdS, Lg.rdX, Lg.rdO, Lg.rdOs, Lg.rdM, Lg.kept, Lg.sameBx, Lg.eqD, Lg.eqDs, Lg.eqSc, Lg.resDs, Lg.resD, Lg.foldR, Lg.foldM, Lg.foldL, Lg.unfL, Lg.canon, Lg.outs, Lg.one, binD_add, binD_sub, binD_lss, binD_leq, binD_gtr, binD_geq, binD_eql, binD_neq, binD_or, binD_and, binD_andn, binD_shl, binD_shr, binK_eql, binK_neq, binK_lss, binK_leq, binK_gtr, binK_geq, cw174, wd, wy, wz, wu, ww, gm, gm', bu1, e3, e4, e5, e6, cw364, w364, bM, q1, cw362, w362, cw359, w359, bsB, qB, cw361, w361, bsF, qF, cw363, w363, cw360, w360, d5, q4, cw266, w266, cw367, w367, pR, bR, bs0, q0, cw213, sp213, cw117, f1, ew, bv, bb, h1, h2, qR, hw0]
set_option maxHeartbeats 8000000 in
theorem sp214_0t (k : Nat) (d0 r0 c0 n0 x : Int) (hx : -2147483648 ≤ x ∧ x ≤ 2147483647) (wd : evFun (clOf (modsR tab (k + 12)) 3) s174 [I d0, I 0, I 4] = some (I 0, [])) : evFun (clOf (modsR tab (k + 13)) 3) s214 [I d0, I r0, I c0, I n0, R x, B true] = some (B true, []) := by
  rw [evFun_evB rfl]
  unfold s214
  obtain ⟨y, hy⟩ : ∃ y, y = 0 + r0 % (90 - 0 + 1) := ⟨_, rfl⟩
  have wy := sp174c (k + 12) r0 0 90 (by omega) (by omega) (by omega) y hy
  have by' : 0 ≤ y ∧ y ≤ 90 := by omega
  obtain ⟨z, hz⟩ : ∃ z, z = 0 + c0 % (90 - 0 + 1) := ⟨_, rfl⟩
  have wz := sp174c (k + 12) c0 0 90 (by omega) (by omega) (by omega) z hz
  have bz : 0 ≤ z ∧ z ≤ 90 := by omega
  obtain ⟨u, hu⟩ : ∃ u, u = 0 + n0 % (3 - 0 + 1) := ⟨_, rfl⟩
  have wu := sp174c (k + 12) n0 0 3 (by omega) (by omega) (by omega) u hu
  have bu : 0 ≤ u ∧ u ≤ 3 := by omega
  obtain ⟨w, hw⟩ : ∃ w, w = -1 + n0 % (3 - -1 + 1) := ⟨_, rfl⟩
  have ww := sp174c (k + 12) n0 (-1) 3 (by omega) (by omega) (by omega) w hw
  have bw : -1 ≤ w ∧ w ≤ 3 := by
    rw [show (3 - -1 + 1 : Int) = 5 from rfl] at hw
    omega
  clear hy hz hw
  obtain ⟨m, gm, hm⟩ : ∃ m : Int, ([I 7, I 25, I 6, I 1] : List D)[u.toNat]? = some (I m) ∧ (m = 7 ∨ m = 25 ∨ m = 6 ∨ m = 1) := by
    have hc : u = 0 ∨ u = 1 ∨ u = 2 ∨ u = 3 := by omega
    rcases hc with h | h | h | h <;> rw [h]
    · exact ⟨7, rfl, by omega⟩
    · exact ⟨25, rfl, by omega⟩
    · exact ⟨6, rfl, by omega⟩
    · exact ⟨1, rfl, by omega⟩
  clear hu
  have gm' := get_of gm
  have bu1 := bu.1
  have e1 : wr (y + 1) = y + 1 := wr_id _ (by omega) (by omega)
  have e2 : wr (z + 1) = z + 1 := wr_id _ (by omega) (by omega)
  have e3 : wr (32 + y) = 32 + y := wr_id _ (by omega) (by omega)
  have e4 : wr (32 + z) = 32 + z := wr_id _ (by omega) (by omega)
  have e5 : IntKind.u8.wrap (32 + y) = 32 + y := wrap_u8 _ (by omega) (by omega)
  have e6 : IntKind.u8.wrap (32 + z) = 32 + z := wrap_u8 _ (by omega) (by omega)
  have bs0 : bytesOfD [] = some [] := rfl
  have q0 := same_str [] [] rfl
  have w364 := sp364_0 (k + 4) 0 y z (by omega)
  have w362 := sp362_0 (k + 4) 0 y z (by omega)
  have w359 : evFun (clOf (modsR tab (k + 12)) 3) s359 [I 0] = some (.osl true 1 [], []) := sp359 (k + 3) 0 (by omega)
  have w361 : evFun (clOf (modsR tab (k + 12)) 3) s361 [I 0] = some (.osl true 1 [], []) := sp361 (k + 3) 0 (by omega)
  have w363 : evFun (clOf (modsR tab (k + 12)) 3) s363 [I 0, I m, B true] = some (.osl true 1 [], []) := by
    have := sp363 (k + 3) 0 m true (by omega) hm
    rw [show modeM 0 m true = [] by simp [modeM]] at this
    exact this
  have w360 : evFun (clOf (modsR tab (k + 12)) 3) s360 [I 0, I w, B true] = some (.osl true 1 [], []) := by
    have := sp360 (k + 3) 0 w true (by omega) bw
    rw [show eraseM 0 w true = [] by simp [eraseM]] at this
    exact this
  have w367 := sp367_0 (k + 8) 0 x (by omega)
  simp -implicitDefEqProofs [Lg.finK_nrm, Lg.finK_ret, Lg.seqK_nrm, Lg.seqK_ret, Lg.seqK_exit, Lg.blkK_nrm, Lg.blkK_ret, Lg.blkK_exit, Lg.evB_seq, Lg.evB_reg, Lg.evB_dregQ, Lg.quietReg, Lg.quietOp, Lg.qB_nil, Lg.qB_bar, Lg.qB_free, Lg.qbarK_ap, Lg.qfreeK_ap, Lg.evB_ret, Lg.evB_skip, Lg.evB_exit, Lg.evB_block, Lg.evB_cond, Lg.stB_cons, Lg.stB_nil, Lg.nrmK_ap, Lg.tailK_ap, Lg.drB_nil, Lg.drB_bar, Lg.drB_free, Lg.barK_ap, Lg.freeK_ap, Lg.freeC_ap, Lg.loopF_eq, Lg.foldK_ap, Lg.condK_B, Lg.isCall, Lg.wanted, Lg.evX, Lg.ov, Lg.ovs, Lg.lk, Lg.putE, Lg.putH, Lg.envFrom, Lg.eats, Lg.D.int, Lg.D.bool, Lg.D.str, Lg.D.cells, Lg.noTree, Lg.noTrees, Lg.isRO, Lg.isROs, Lg.isCellD, Lg.cellsAt, Lg.part, Lg.slD, Lg.lenD, Lg.isStr, Lg.natOf, Lg.bnds, Lg.storeD, Lg.appendD, Lg.appendY, Lg.slcD, Lg.putCells, Lg.buildD, Lg.fillD, Lg.chunks, Lg.elemOf, Lg.frz1, Lg.idsD, Lg.idsDs, Lg.rof, Lg.rofs, Lg.roD, Lg.roDs, Lg.unf, Lg.unfs, Lg.thr, Lg.fld, Lg.depth, Lg.isNil, Lg.eqaD, Lg.eqLeaves, Lg.eqLeaf, Lg.unaD, Lg.cviD, Lg.binbD, Lg.binB, Lg.stepO_0, Lg.stepO_g, Lg.stepX_0, Lg.stepX_g, Lg.putX_ap, Lg.putS_none, Lg.putS_some, Lg.putC_ap, Lg.gdK_B, Lg.gdK_tup, Lg.evCall, Lg.callM, Lg.callQ, Lg.callO, Lg.argF, Lg.plain, Lg.plains, Lg.idsRO, Lg.restore, Lg.isAlive, Lg.settle, Lg.accX, Lg.clash, Lg.loX, Lg.accS, Lg.inertX, Lg.idOf, Lg.isSomeTrue, Lg.noclB, Lg.apart, Lg.rdS, Lg.rdX, Lg.rdO, Lg.rdOs, Lg.rdM, Lg.kept, Lg.sameBx, Lg.eqD, Lg.eqDs, Lg.eqSc, Lg.resDs, Lg.resD, Lg.foldR, Lg.foldM, Lg.foldL, Lg.unfL, Lg.canon, Lg.outs, Lg.one, binD_add, binD_sub, binD_lss, binD_leq, binD_gtr, binD_geq, binD_eql, binD_neq, binD_or, binD_and, binD_andn, binD_shl, binD_shr, binK_eql, binK_neq, binK_lss, binK_leq, binK_gtr, binK_geq, cw174, wd, wy, wz, wu, ww, gm, gm', bu1, cw364, w364, cw362, w362, cw359, w359, cw361, w361, cw363, w363, cw360, w360, cw367, w367, bs0, q0, cw213, sp213]
set_option maxHeartbeats 8000000 in
theorem sp214_0f (k : Nat) (d0 r0 c0 n0 x : Int) (hx : -2147483648 ≤ x ∧ x ≤ 2147483647) (wd : evFun (clOf (modsR tab (k + 12)) 3) s174 [I d0, I 0, I 4] = some (I 0, [])) : evFun (clOf (modsR tab (k + 13)) 3) s214 [I d0, I r0, I c0, I n0, R x, B false] = some (B true, []) := by
  rw [evFun_evB rfl]
  unfold s214
  obtain ⟨y, hy⟩ : ∃ y, y = 0 + r0 % (90 - 0 + 1) := ⟨_, rfl⟩
  have wy := sp174c (k + 12) r0 0 90 (by omega) (by omega) (by omega) y hy
  have by' : 0 ≤ y ∧ y ≤ 90 := by omega
  obtain ⟨z, hz⟩ : ∃ z, z = 0 + c0 % (90 - 0 + 1) := ⟨_, rfl⟩
  have wz := sp174c (k + 12) c0 0 90 (by omega) (by omega) (by omega) z hz
  have bz : 0 ≤ z ∧ z ≤ 90 := by omega
  obtain ⟨u, hu⟩ : ∃ u, u = 0 + n0 % (3 - 0 + 1) := ⟨_, rfl⟩
  have wu := sp174c (k + 12) n0 0 3 (by omega) (by omega) (by omega) u hu
  have bu : 0 ≤ u ∧ u ≤ 3 := by omega
  obtain ⟨w, hw⟩ : ∃ w, w = -1 + n0 % (3 - -1 + 1) := ⟨_, rfl⟩
  have ww := sp174c (k + 12) n0 (-1) 3 (by omega) (by omega) (by omega) w hw
  have bw : -1 ≤ w ∧ w ≤ 3 := by
    rw [show (3 - -1 + 1 : Int) = 5 from rfl] at hw
    omega
  clear hy hz hw
  obtain ⟨m, gm, hm⟩ : ∃ m : Int, ([I 7, I 25, I 6, I 1] : List D)[u.toNat]? = some (I m) ∧ (m = 7 ∨ m = 25 ∨ m = 6 ∨ m = 1) := by
    have hc : u = 0 ∨ u = 1 ∨ u = 2 ∨ u = 3 := by omega
    rcases hc with h | h | h | h <;> rw [h]
    · exact ⟨7, rfl, by omega⟩
    · exact ⟨25, rfl, by omega⟩
    · exact ⟨6, rfl, by omega⟩
    · exact ⟨1, rfl, by omega⟩
  clear hu
  have gm' := get_of gm
  have bu1 := bu.1
  have e1 : wr (y + 1) = y + 1 := wr_id _ (by omega) (by omega)
  have e2 : wr (z + 1) = z + 1 := wr_id _ (by omega) (by omega)
  have e3 : wr (32 + y) = 32 + y := wr_id _ (by omega) (by omega)
  have e4 : wr (32 + z) = 32 + z := wr_id _ (by omega) (by omega)
  have e5 : IntKind.u8.wrap (32 + y) = 32 + y := wrap_u8 _ (by omega) (by omega)
  have e6 : IntKind.u8.wrap (32 + z) = 32 + z := wrap_u8 _ (by omega) (by omega)
  have bs0 : bytesOfD [] = some [] := rfl
  have q0 := same_str [] [] rfl
  have w364 := sp364_0 (k + 4) 0 y z (by omega)
  have w362 := sp362_0 (k + 4) 0 y z (by omega)
  have w359 : evFun (clOf (modsR tab (k + 12)) 3) s359 [I 0] = some (.osl true 1 [], []) := sp359 (k + 3) 0 (by omega)
  have w361 : evFun (clOf (modsR tab (k + 12)) 3) s361 [I 0] = some (.osl true 1 [], []) := sp361 (k + 3) 0 (by omega)
  have w363 : evFun (clOf (modsR tab (k + 12)) 3) s363 [I 0, I m, B false] = some (.osl true 1 [], []) := by
    have := sp363 (k + 3) 0 m false (by omega) hm
    rw [show modeM 0 m false = [] by simp [modeM]] at this
    exact this
  have w360 : evFun (clOf (modsR tab (k + 12)) 3) s360 [I 0, I w, B false] = some (.osl true 1 [], []) := by
    have := sp360 (k + 3) 0 w false (by omega) bw
    rw [show eraseM 0 w false = [] by simp [eraseM]] at this
    exact this
  have w367 := sp367_0 (k + 8) 0 x (by omega)
  simp -implicitDefEqProofs [Lg.finK_nrm, Lg.finK_ret, Lg.seqK_nrm, Lg.seqK_ret, Lg.seqK_exit, Lg.blkK_nrm, Lg.blkK_ret, Lg.blkK_exit, Lg.evB_seq, Lg.evB_reg, Lg.evB_dregQ, Lg.quietReg, Lg.quietOp, Lg.qB_nil, Lg.qB_bar, Lg.qB_free, Lg.qbarK_ap, Lg.qfreeK_ap, Lg.evB_ret, Lg.evB_skip, Lg.evB_exit, Lg.evB_block, Lg.evB_cond, Lg.stB_cons, Lg.stB_nil, Lg.nrmK_ap, Lg.tailK_ap, Lg.drB_nil, Lg.drB_bar, Lg.drB_free, Lg.barK_ap, Lg.freeK_ap, Lg.freeC_ap, Lg.loopF_eq, Lg.foldK_ap, Lg.condK_B, Lg.isCall, Lg.wanted, Lg.evX, Lg.ov, Lg.ovs, Lg.lk, Lg.putE, Lg.putH, Lg.envFrom, Lg.eats, Lg.D.int, Lg.D.bool, Lg.D.str, Lg.D.cells, Lg.noTree, Lg.noTrees, Lg.isRO, Lg.isROs, Lg.isCellD, Lg.cellsAt, Lg.part, Lg.slD, Lg.lenD, Lg.isStr, Lg.natOf, Lg.bnds, Lg.storeD, Lg.appendD, Lg.appendY, Lg.slcD, Lg.putCells, Lg.buildD, Lg.fillD, Lg.chunks, Lg.elemOf, Lg.frz1, Lg.idsD, Lg.idsDs, Lg.rof, Lg.rofs, Lg.roD, Lg.roDs, Lg.unf, Lg.unfs, Lg.thr, Lg.fld, Lg.depth, Lg.isNil, Lg.eqaD, Lg.eqLeaves, Lg.eqLeaf, Lg.unaD, Lg.cviD, Lg.binbD, Lg.binB, Lg.stepO_0, Lg.stepO_g, Lg.stepX_0, Lg.stepX_g, Lg.putX_ap, Lg.putS_none, Lg.putS_some, Lg.putC_ap, Lg.gdK_B, Lg.gdK_tup, Lg.evCall, Lg.callM, Lg.callQ, Lg.callO, Lg.argF, Lg.plain, Lg.plains, Lg.idsRO, Lg.restore, Lg.isAlive, Lg.settle, Lg.accX, Lg.clash, Lg.loX, Lg.accS, Lg.inertX, Lg.idOf, Lg.isSomeTrue, Lg.noclB, Lg.apart, Lg.rdS, Lg.rdX, Lg.rdO, Lg.rdOs, Lg.rdM, Lg.kept, Lg.sameBx, Lg.eqD, Lg.eqDs, Lg.eqSc, Lg.resDs, Lg.resD, Lg.foldR, Lg.foldM, Lg.foldL, Lg.unfL, Lg.canon, Lg.outs, Lg.one, binD_add, binD_sub, binD_lss, binD_leq, binD_gtr, binD_geq, binD_eql, binD_neq, binD_or, binD_and, binD_andn, binD_shl, binD_shr, binK_eql, binK_neq, binK_lss, binK_leq, binK_gtr, binK_geq, cw174, wd, wy, wz, wu, ww, gm, gm', bu1, cw364, w364, cw362, w362, cw359, w359, cw361, w361, cw363, w363, cw360, w360, cw367, w367, bs0, q0, cw213, sp213]
set_option maxHeartbeats 8000000 in
theorem sp214_4t (k : Nat) (d0 r0 c0 n0 x : Int) (hx : -2147483648 ≤ x ∧ x ≤ 2147483647) (wd : evFun (clOf (modsR tab (k + 12)) 3) s174 [I d0, I 0, I 4] = some (I 4, [])) : evFun (clOf (modsR tab (k + 13)) 3) s214 [I d0, I r0, I c0, I n0, R x, B true] = some (B true, []) := by
  rw [evFun_evB rfl]
  unfold s214
  obtain ⟨y, hy⟩ : ∃ y, y = 0 + r0 % (90 - 0 + 1) := ⟨_, rfl⟩
  have wy := sp174c (k + 12) r0 0 90 (by omega) (by omega) (by omega) y hy
  have by' : 0 ≤ y ∧ y ≤ 90 := by omega
  obtain ⟨z, hz⟩ : ∃ z, z = 0 + c0 % (90 - 0 + 1) := ⟨_, rfl⟩
  have wz := sp174c (k + 12) c0 0 90 (by omega) (by omega) (by omega) z hz
  have bz : 0 ≤ z ∧ z ≤ 90 := by omega
  obtain ⟨u, hu⟩ : ∃ u, u = 0 + n0 % (3 - 0 + 1) := ⟨_, rfl⟩
  have wu := sp174c (k + 12) n0 0 3 (by omega) (by omega) (by omega) u hu
  have bu : 0 ≤ u ∧ u ≤ 3 := by omega
  obtain ⟨w, hw⟩ : ∃ w, w = -1 + n0 % (3 - -1 + 1) := ⟨_, rfl⟩
  have ww := sp174c (k + 12) n0 (-1) 3 (by omega) (by omega) (by omega) w hw
  have bw : -1 ≤ w ∧ w ≤ 3 := by
    rw [show (3 - -1 + 1 : Int) = 5 from rfl] at hw
    omega
  clear hy hz hw
  obtain ⟨m, gm, hm⟩ : ∃ m : Int, ([I 7, I 25, I 6, I 1] : List D)[u.toNat]? = some (I m) ∧ (m = 7 ∨ m = 25 ∨ m = 6 ∨ m = 1) := by
    have hc : u = 0 ∨ u = 1 ∨ u = 2 ∨ u = 3 := by omega
    rcases hc with h | h | h | h <;> rw [h]
    · exact ⟨7, rfl, by omega⟩
    · exact ⟨25, rfl, by omega⟩
    · exact ⟨6, rfl, by omega⟩
    · exact ⟨1, rfl, by omega⟩
  clear hu
  have gm' := get_of gm
  have bu1 := bu.1
  have e1 : wr (y + 1) = y + 1 := wr_id _ (by omega) (by omega)
  have e2 : wr (z + 1) = z + 1 := wr_id _ (by omega) (by omega)
  have e3 : wr (32 + y) = 32 + y := wr_id _ (by omega) (by omega)
  have e4 : wr (32 + z) = 32 + z := wr_id _ (by omega) (by omega)
  have e5 : IntKind.u8.wrap (32 + y) = 32 + y := wrap_u8 _ (by omega) (by omega)
  have e6 : IntKind.u8.wrap (32 + z) = 32 + z := wrap_u8 _ (by omega) (by omega)
  have bs0 : bytesOfD [] = some [] := rfl
  have q0 := same_str [] [] rfl
  have w364 := sp364_0 (k + 4) 4 y z (by omega)
  have w362 := sp362_0 (k + 4) 4 y z (by omega)
  have w359 : evFun (clOf (modsR tab (k + 12)) 3) s359 [I 4] = some (.osl true 1 [], []) := sp359 (k + 3) 4 (by omega)
  have w361 : evFun (clOf (modsR tab (k + 12)) 3) s361 [I 4] = some (.osl true 1 [], []) := sp361 (k + 3) 4 (by omega)
  have w363 : evFun (clOf (modsR tab (k + 12)) 3) s363 [I 4, I m, B true] = some (.osl true 1 [], []) := by
    have := sp363 (k + 3) 4 m true (by omega) hm
    rw [show modeM 4 m true = [] by simp [modeM]] at this
    exact this
  have w360 : evFun (clOf (modsR tab (k + 12)) 3) s360 [I 4, I w, B true] = some (.osl true 1 [], []) := by
    have := sp360 (k + 3) 4 w true (by omega) bw
    rw [show eraseM 4 w true = [] by simp [eraseM]] at this
    exact this
  have w367 := sp367_0 (k + 8) 4 x (by omega)
  simp -implicitDefEqProofs [Lg.finK_nrm, Lg.finK_ret, Lg.seqK_nrm, Lg.seqK_ret, Lg.seqK_exit, Lg.blkK_nrm, Lg.blkK_ret, Lg.blkK_exit, Lg.evB_seq, Lg.evB_reg, Lg.evB_dregQ, Lg.quietReg, Lg.quietOp, Lg.qB_nil, Lg.qB_bar, Lg.qB_free, Lg.qbarK_ap, Lg.qfreeK_ap, Lg.evB_ret, Lg.evB_skip, Lg.evB_exit, Lg.evB_block, Lg.evB_cond, Lg.stB_cons, Lg.stB_nil, Lg.nrmK_ap, Lg.tailK_ap, Lg.drB_nil, Lg.drB_bar, Lg.drB_free, Lg.barK_ap, Lg.freeK_ap, Lg.freeC_ap, Lg.loopF_eq, Lg.foldK_ap, Lg.condK_B, Lg.isCall, Lg.wanted, Lg.evX, Lg.ov, Lg.ovs, Lg.lk, Lg.putE, Lg.putH, Lg.envFrom, Lg.eats, Lg.D.int, Lg.D.bool, Lg.D.str, Lg.D.cells, Lg.noTree, Lg.noTrees, Lg.isRO, Lg.isROs, Lg.isCellD, Lg.cellsAt, Lg.part, Lg.slD, Lg.lenD, Lg.isStr, Lg.natOf, Lg.bnds, Lg.storeD, Lg.appendD, Lg.appendY, Lg.slcD, Lg.putCells, Lg.buildD, Lg.fillD, Lg.chunks, Lg.elemOf, Lg.frz1, Lg.idsD, Lg.idsDs, Lg.rof, Lg.rofs, Lg.roD, Lg.roDs, Lg.unf, Lg.unfs, Lg.thr, Lg.fld, Lg.depth, Lg.isNil, Lg.eqaD, Lg.eqLeaves, Lg.eqLeaf, Lg.unaD, Lg.cviD, Lg.binbD, Lg.binB, Lg.stepO_0, Lg.stepO_g, Lg.stepX_0, Lg.stepX_g, Lg.putX_ap, Lg.putS_none, Lg.putS_some, Lg.putC_ap, Lg.gdK_B, Lg.gdK_tup, Lg.evCall, Lg.callM, Lg.callQ, Lg.callO, Lg.argF, Lg.plain, Lg.plains, Lg.idsRO, Lg.restore, Lg.isAlive, Lg.settle, Lg.accX, Lg.clash, Lg.loX, Lg.accS, Lg.inertX, Lg.idOf, Lg.isSomeTrue, Lg.noclB, Lg.apart, Lg.rdS, Lg.rdX, Lg.rdO, Lg.rdOs, Lg.rdM, Lg.kept, Lg.sameBx, Lg.eqD, Lg.eqDs, Lg.eqSc, Lg.resDs, Lg.resD, Lg.foldR, Lg.foldM, Lg.foldL, Lg.unfL, Lg.canon, Lg.outs, Lg.one, binD_add, binD_sub, binD_lss, binD_leq, binD_gtr, binD_geq, binD_eql, binD_neq, binD_or, binD_and, binD_andn, binD_shl, binD_shr, binK_eql, binK_neq, binK_lss, binK_leq, binK_gtr, binK_geq, cw174, wd, wy, wz, wu, ww, gm, gm', bu1, cw364, w364, cw362, w362, cw359, w359, cw361, w361, cw363, w363, cw360, w360, cw367, w367, bs0, q0, cw213, sp213]
set_option maxHeartbeats 8000000 in
theorem sp214_4f (k : Nat) (d0 r0 c0 n0 x : Int) (hx : -2147483648 ≤ x ∧ x ≤ 2147483647) (wd : evFun (clOf (modsR tab (k + 12)) 3) s174 [I d0, I 0, I 4] = some (I 4, [])) : evFun (clOf (modsR tab (k + 13)) 3) s214 [I d0, I r0, I c0, I n0, R x, B false] = some (B true, []) := by
  rw [evFun_evB rfl]
  unfold s214
  obtain ⟨y, hy⟩ : ∃ y, y = 0 + r0 % (90 - 0 + 1) := ⟨_, rfl⟩
  have wy := sp174c (k + 12) r0 0 90 (by omega) (by omega) (by omega) y hy
  have by' : 0 ≤ y ∧ y ≤ 90 := by omega
  obtain ⟨z, hz⟩ : ∃ z, z = 0 + c0 % (90 - 0 + 1) := ⟨_, rfl⟩
  have wz := sp174c (k + 12) c0 0 90 (by omega) (by omega) (by omega) z hz
  have bz : 0 ≤ z ∧ z ≤ 90 := by omega
  obtain ⟨u, hu⟩ : ∃ u, u = 0 + n0 % (3 - 0 + 1) := ⟨_, rfl⟩
  have wu := sp174c (k + 12) n0 0 3 (by omega) (by omega) (by omega) u hu
  have bu : 0 ≤ u ∧ u ≤ 3 := by omega
  obtain ⟨w, hw⟩ : ∃ w, w = -1 + n0 % (3 - -1 + 1) := ⟨_, rfl⟩
  have ww := sp174c (k + 12) n0 (-1) 3 (by omega) (by omega) (by omega) w hw
  have bw : -1 ≤ w ∧ w ≤ 3 := by
    rw [show (3 - -1 + 1 : Int) = 5 from rfl] at hw
    omega
  clear hy hz hw
  obtain ⟨m, gm, hm⟩ : ∃ m : Int, ([I 7, I 25, I 6, I 1] : List D)[u.toNat]? = some (I m) ∧ (m = 7 ∨ m = 25 ∨ m = 6 ∨ m = 1) := by
    have hc : u = 0 ∨ u = 1 ∨ u = 2 ∨ u = 3 := by omega
    rcases hc with h | h | h | h <;> rw [h]
    · exact ⟨7, rfl, by omega⟩
    · exact ⟨25, rfl, by omega⟩
    · exact ⟨6, rfl, by omega⟩
    · exact ⟨1, rfl, by omega⟩
  clear hu
  have gm' := get_of gm
  have bu1 := bu.1
  have e1 : wr (y + 1) = y + 1 := wr_id _ (by omega) (by omega)
  have e2 : wr (z + 1) = z + 1 := wr_id _ (by omega) (by omega)
  have e3 : wr (32 + y) = 32 + y := wr_id _ (by omega) (by omega)
  have e4 : wr (32 + z) = 32 + z := wr_id _ (by omega) (by omega)
  have e5 : IntKind.u8.wrap (32 + y) = 32 + y := wrap_u8 _ (by omega) (by omega)
  have e6 : IntKind.u8.wrap (32 + z) = 32 + z := wrap_u8 _ (by omega) (by omega)
  have bs0 : bytesOfD [] = some [] := rfl
  have q0 := same_str [] [] rfl
  have w364 := sp364_0 (k + 4) 4 y z (by omega)
  have w362 := sp362_0 (k + 4) 4 y z (by omega)
  have w359 : evFun (clOf (modsR tab (k + 12)) 3) s359 [I 4] = some (.osl true 1 [], []) := sp359 (k + 3) 4 (by omega)
  have w361 : evFun (clOf (modsR tab (k + 12)) 3) s361 [I 4] = some (.osl true 1 [], []) := sp361 (k + 3) 4 (by omega)
  have w363 : evFun (clOf (modsR tab (k + 12)) 3) s363 [I 4, I m, B false] = some (.osl true 1 [], []) := by
    have := sp363 (k + 3) 4 m false (by omega) hm
    rw [show modeM 4 m false = [] by simp [modeM]] at this
    exact this
  have w360 : evFun (clOf (modsR tab (k + 12)) 3) s360 [I 4, I w, B false] = some (.osl true 1 [], []) := by
    have := sp360 (k + 3) 4 w false (by omega) bw
    rw [show eraseM 4 w false = [] by simp [eraseM]] at this
    exact this
  have w367 := sp367_0 (k + 8) 4 x (by omega)
  simp -implicitDefEqProofs [Lg.finK_nrm, Lg.finK_ret, Lg.seqK_nrm, Lg.seqK_ret, Lg.seqK_exit, Lg.blkK_nrm, Lg.blkK_ret, Lg.blkK_exit, Lg.evB_seq, Lg.evB_reg, Lg.evB_dregQ, Lg.quietReg, Lg.quietOp, Lg.qB_nil, Lg.qB_bar, Lg.qB_free, Lg.qbarK_ap, Lg.qfreeK_ap, Lg.evB_ret, Lg.evB_skip, Lg.evB_exit, Lg.evB_block, Lg.evB_cond, Lg.stB_cons, Lg.stB_nil, Lg.nrmK_ap, Lg.tailK_ap, Lg.drB_nil, Lg.drB_bar, Lg.drB_free, Lg.barK_ap, Lg.freeK_ap, Lg.freeC_ap, Lg.loopF_eq, Lg.foldK_ap, Lg.condK_B, Lg.isCall, Lg.wanted, Lg.evX, Lg.ov, Lg.ovs, Lg.lk, Lg.putE, Lg.putH, Lg.envFrom, Lg.eats, Lg.D.int, Lg.D.bool, Lg.D.str, Lg.D.cells, Lg.noTree, Lg.noTrees, Lg.isRO, Lg.isROs, Lg.isCellD, Lg.cellsAt, Lg.part, Lg.slD, Lg.lenD, Lg.isStr, Lg.natOf, Lg.bnds, Lg.storeD, Lg.appendD, Lg.appendY, Lg.slcD, Lg.putCells, Lg.buildD, Lg.fillD, Lg.chunks, Lg.elemOf, Lg.frz1, Lg.idsD, Lg.idsDs, Lg.rof, Lg.rofs, Lg.roD, Lg.roDs, Lg.unf, Lg.unfs, Lg.thr, Lg.fld, Lg.depth, Lg.isNil, Lg.eqaD, Lg.eqLeaves, Lg.eqLeaf, Lg.unaD, Lg.cviD, Lg.binbD, Lg.binB, Lg.stepO_0, Lg.stepO_g, Lg.stepX_0, Lg.stepX_g, Lg.putX_ap, Lg.putS_none, Lg.putS_some, Lg.putC_ap, Lg.gdK_B, Lg.gdK_tup, Lg.evCall, Lg.callM, Lg.callQ, Lg.callO, Lg.argF, Lg.plain, Lg.plains, Lg.idsRO, Lg.restore, Lg.isAlive, Lg.settle, Lg.accX, Lg.clash, Lg.loX, Lg.accS, Lg.inertX, Lg.idOf, Lg.isSomeTrue, Lg.noclB, Lg.apart, Lg.rdS, Lg.rdX, Lg.rdO, Lg.rdOs, Lg.rdM, Lg.kept, Lg.sameBx, Lg.eqD, Lg.eqDs, Lg.eqSc, Lg.resDs, Lg.resD, Lg.foldR, Lg.foldM, Lg.foldL, Lg.unfL, Lg.canon, Lg.outs, Lg.one, binD_add, binD_sub, binD_lss, binD_leq, binD_gtr, binD_geq, binD_eql, binD_neq, binD_or, binD_and, binD_andn, binD_shl, binD_shr, binK_eql, binK_neq, binK_lss, binK_leq, binK_gtr, binK_geq, cw174, wd, wy, wz, wu, ww, gm, gm', bu1, cw364, w364, cw362, w362, cw359, w359, cw361, w361, cw363, w363, cw360, w360, cw367, w367, bs0, q0, cw213, sp213]
end Go.Proofs.YtjbdijfibllddaaDoor.LgTab
