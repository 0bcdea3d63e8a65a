import Derived.Test.YtadipapkdjcnbaaGreatLgRh
/-
  A VT52's terminal: bytes fed.
-/
namespace Go.Proofs.YtadipapkdjcnbaaGreat.LgTab
open Go Lg
set_option linter.unusedVariables false
set_option linter.unusedSimpArgs false
set_option maxRecDepth 8000
abbrev p0L : List D := [I 0, I 0, I 0, I 0, .sn, B false, U 0, .sn, B false, B false, .sn, B false]
/-- A VT52's terminal. -/
abbrev tmL (s : Sc) (st at_ n : Int) : List D := [I 3, I s.g.h, I s.g.w, .sl 5 (celsD s.g.cells), I s.row, I s.col, B s.pend, I s.top, I s.bot, I s.p.f, I s.p.b, I s.p.g, T64 s.tabs, U s.s0, U s.s1, I s.sh, B s.wrap, B s.orig, B s.shown, B s.keys, B s.pad, I s.sv.r, I s.sv.c, I s.sv.p.f, I s.sv.p.b, I s.sv.p.g, U s.sv.u0, U s.sv.u1, I s.sv.sh, B s.sv.o, .obx p0L, I st, I at_, I n]
abbrev tmD (s : Sc) (st at_ n : Int) : D := .obx (tmL s st at_ n)
/-- The screen of a VT52 that is new, its cursor anywhere. -/
def oldS (r c : Int) : Sc := { newS 5 9 with wrap := false, row := r, col := c }
theorem oldS_ok {r c : Int} (hr : 0 ≤ r ∧ r ≤ 4) (hc : 0 ≤ c ∧ c ≤ 8) : OkS (oldS r c) := by
  have o := newS_ok 5 9 (by omega) (by omega)
  refine ⟨o.g, o.h, o.w, ?_, ?_, o.top, o.bot, o.tabs, o.sh, o.ssh, o.srow, o.scol⟩
  · show 0 ≤ r ∧ r < (5 : Int)
    omega
  · show 0 ≤ c ∧ c < (9 : Int)
    omega
theorem sp338 (k : Nat) : evFun (clOf (modsR tab k) 3) s338 [] = some (.obx p0L, []) := by
  rw [evFun_evB rfl]
  unfold s338
  simp -implicitDefEqProofs []
theorem sp134 (k : Nat) (d : Int) : evFun (clOf (modsR tab k) 3) s134 [I d] = some (B (decide (1 ≤ d) && decide (d ≤ 3)), []) := by
  rw [evFun_evB rfl]
  unfold s134
  by_cases h : 1 ≤ d <;> simp -implicitDefEqProofs [h]
theorem sp424 (k : Nat) : evFun (clOf (modsR tab (k + 5)) 3) s424 [I 3, I 5, I 9] = some (tmD (oldS 0 0) 0 0 0, []) := by
  have w372 : ∀ q, evFun (clOf (modsR tab (q + 4)) 3) s372 [I 5, I 9] = some (scD (newS 5 9), []) := fun q => sp372 q 5 9 (by omega) (by omega)
  have e : oldS 0 0 = { newS 5 9 with wrap := false } := rfl
  rw [e]
  generalize newS 5 9 = s at *
  rw [evFun_evB rfl]
  unfold s424
  simp -implicitDefEqProofs [cw134, cr134, cw338, cr338, sp338, sp134, cw372, cr372, w372]
/-- What is known. -/
def knownE (e : Ev) : Prop := ∀ q, evFun (clOf (modsR tab (q + 2)) 3) s132 [I 3, evD e] = some (B true, [])
theorem sp426 (k : Nat) (b : Int) : evFun (clOf (modsR tab k) 3) s426 [U b] = some (.agg [I 4, R 0, U 0, U 0, U b, .sn, S []], []) := by
  rw [evFun_evB rfl]
  unfold s426
  simp -implicitDefEqProofs []
theorem sp429 (k : Nat) (s : Sc) (o : OkS s) (b : Int) (h1 : b ≠ 73) (h2 : b ≠ 89) : evFun (clOf (modsR tab (k + 9)) 3) s429 [scD s, U b] = some (scD (doS s (csiN b)), []) := by
  have w := fun q => sp426 q b
  have v := fun q => sp400 q s o (csiN b) (by simp [Ev.par])
  simp only [evD, evL, parD] at v
  generalize doS s (csiN b) = S' at *
  rw [evFun_evB rfl]
  unfold s429
  simp -implicitDefEqProofs [h1, h2, cw426, cr426, w, cw400, v]
set_option maxHeartbeats 2000000 in
theorem sp423e (k : Nat) (s : Sc) (o : OkS s) (b : Int) (h1 : b ≠ 73) (h2 : b ≠ 89) (hk : knownE (escE b)) : evFun (clOf (modsR tab (k + 10)) 3) s423 [I 3, scD s, evD (escE b)] = some (scD (doS s (csiN b)), []) := by
  have w := fun q => sp429 q s o b h1 h2
  have w1 := fun q => sp370 q s o.g (by have := o.len; omega)
  unfold knownE at hk
  simp only [evD, evL, parD] at hk ⊢
  generalize doS s (csiN b) = S' at *
  rw [evFun_evB rfl]
  unfold s423
  simp -implicitDefEqProofs [cw370, cr370, w1, cw132, cr132, hk, cw429, cr429, w]
/-- A rune printed. -/
abbrev runeE (x : Int) : Ev := ⟨1, x, 0, 0, 0, none, []⟩
set_option maxHeartbeats 2000000 in
theorem sp423p (k : Nat) (s : Sc) (o : OkS s) (x : Int) (hk : knownE (runeE x)) : evFun (clOf (modsR tab (k + 10)) 3) s423 [I 3, scD s, evD (runeE x)] = some (scD (doS s (runeE x)), []) := by
  have w1 := fun q => sp370 q s o.g (by have := o.len; omega)
  have v := fun q => sp400 q s o (runeE x) (by simp [Ev.par])
  unfold knownE at hk
  simp only [evD, evL, parD] at hk v ⊢
  generalize doS s (runeE x) = S' at *
  rw [evFun_evB rfl]
  unfold s423
  simp -implicitDefEqProofs [cw370, cr370, w1, cw132, cr132, hk, cw400, cr400, v]
set_option maxHeartbeats 4000000 in
theorem sp35 (k : Nat) (s S' : Sc) (st at_ n : Int) (e : Ev) (hp : e.ps = none) (hk : knownE e) (w : ∀ q, evFun (clOf (modsR tab (q + 10)) 3) s423 [I 3, scD s, evD e] = some (scD S', [])) : evFun (clOf (modsR tab (k + 11)) 3) s35 [tmD s st at_ n, evD e] = some (.tup [], [tmD S' st at_ n]) := by
  obtain ⟨ek, er, ep, ei, ef, ps, et⟩ := e
  simp only at hp
  subst hp
  unfold knownE at hk
  simp only [evD, evL, parD] at hk w ⊢
  rw [evFun_evB rfl]
  unfold s35
  simp -implicitDefEqProofs [cw132, cr132, hk]
  refine evB_for (fun i => [.sn, I 0, I 0, .obx (tmL s st at_ n), .obx [I ek, R er, U ep, U ei, U ef, .sn, S et]]) 0 (.exit 0) [.sn, I 0, I 0, .obx (tmL s st at_ n), .obx [I ek, R er, U ep, U ei, U ef, .sn, S et]] ?_ (fun i hi => by omega) ?_ (by simp) (by simp [rounds]) ?_
  · simp -implicitDefEqProofs []
  · simp -implicitDefEqProofs []
  · simp -implicitDefEqProofs [cw423, cr423, w]
theorem push_a (k : Nat) (s : Sc) (at_ n : Int) : evFun (clOf (modsR tab (k + 12)) 3) s36 [tmD s 0 at_ n, U 27] = some (.tup [], [tmD s 1 at_ n]) := by
  rw [evFun_evB rfl]
  unfold s36
  simp -implicitDefEqProofs []
theorem push_b (k : Nat) (s : Sc) (at_ n : Int) : evFun (clOf (modsR tab (k + 12)) 3) s36 [tmD s 1 at_ n, U 89] = some (.tup [], [tmD s 2 at_ n]) := by
  rw [evFun_evB rfl]
  unfold s36
  simp -implicitDefEqProofs []
theorem push_c (k : Nat) (s : Sc) (at_ n b : Int) (hb : 0 ≤ b ∧ b ≤ 255) : evFun (clOf (modsR tab (k + 12)) 3) s36 [tmD s 2 at_ n, U b] = some (.tup [], [tmD s 3 (b - 32) n]) := by
  have e1 : IntKind.i64.wrap b = b := wrap_id _ (by omega) (by omega)
  rw [evFun_evB rfl]
  unfold s36
  simp -implicitDefEqProofs [e1, wr_id (b - 32) (by omega) (by omega)]
theorem push_d (k : Nat) (s : Sc) (o : OkS s) (at_ n b : Int) (hb : 0 ≤ b ∧ b ≤ 255) : evFun (clOf (modsR tab (k + 12)) 3) s36 [tmD s 3 at_ n, U b] = some (.tup [], [tmD (atS s at_ (b - 32)) 0 at_ n]) := by
  have e1 : IntKind.i64.wrap b = b := wrap_id _ (by omega) (by omega)
  have w := fun q => sp122 q s o at_ (b - 32)
  generalize atS s at_ (b - 32) = S' at *
  rw [evFun_evB rfl]
  unfold s36
  simp -implicitDefEqProofs [e1, wr_id (b - 32) (by omega) (by omega), cw122, cr122, w]
theorem push_e (k : Nat) (s : Sc) (o : OkS s) (at_ n b : Int) (h1 : b ≠ 73) (h2 : b ≠ 89) (hk : knownE (escE b)) : evFun (clOf (modsR tab (k + 12)) 3) s36 [tmD s 1 at_ n, U b] = some (.tup [], [tmD (doS s (csiN b)) 0 at_ n]) := by
  have w := fun q => sp35 q s (doS s (csiN b)) 0 at_ n (escE b) rfl hk (fun q => sp423e q s o b h1 h2 hk)
  simp only [evD, evL, parD] at w
  generalize doS s (csiN b) = S' at *
  rw [evFun_evB rfl]
  unfold s36
  simp -implicitDefEqProofs [h2, cw35, cr35, w]
theorem push_f (k : Nat) (s : Sc) (o : OkS s) (at_ n b : Int) (hb : 32 ≤ b ∧ b ≤ 126) (hk : knownE (runeE b)) : evFun (clOf (modsR tab (k + 12)) 3) s36 [tmD s 0 at_ n, U b] = some (.tup [], [tmD (doS s (runeE b)) 0 at_ n]) := by
  have w := fun q => sp35 q s (doS s (runeE b)) 0 at_ n (runeE b) rfl hk (fun q => sp423p q s o b hk)
  simp only [evD, evL, parD] at w
  have e1 : IntKind.i32.wrap b = b := wrap_i32 _ (by omega) (by omega)
  have h2 : ¬ b = 27 := by omega
  have h3 : ¬ b < 32 := by omega
  generalize doS s (runeE b) = S' at *
  rw [evFun_evB rfl]
  unfold s36
  simp -implicitDefEqProofs [e1, h2, h3, cw35, cr35, w]
/-- Bytes fed, one by one. -/
theorem feed (k : Nat) (m : Nat) (hm : m ≤ 1000) (bs : List D) (hb : bs.length = m) (s : Nat → Sc) (st at_ : Nat → Int) (n : Int) (h : ∀ i, i < m → ∃ b, bs[i]? = some (U b) ∧ ∀ q, evFun (clOf (modsR tab (q + 12)) 3) s36 [tmD (s i) (st i) (at_ i) n, U b] = some (.tup [], [tmD (s (i + 1)) (st (i + 1)) (at_ (i + 1)) n])) :
    evFun (clOf (modsR tab (k + 13)) 3) s30 [tmD (s 0) (st 0) (at_ 0) n, .sl 1 bs] = some (.tup [], [tmD (s m) (st m) (at_ m) n]) := by
  rw [evFun_evB rfl]
  unfold s30
  simp -implicitDefEqProofs [hb]
  refine evB_for (fun i => [.sl 1 bs, I m, I i, .obx (tmL (s i) (st i) (at_ i) n)]) m (.exit 2) [.sl 1 bs, I m, I m, .obx (tmL (s m) (st m) (at_ m) n)] ?_ (fun i hi => ?_) ?_ (by simp) (by simp [rounds]; omega) ?_
  · simp -implicitDefEqProofs []
  · obtain ⟨b, hx, v⟩ := h i hi
    have hg := get_of hx
    have hlt : (i : Int) < m := by omega
    generalize s (i + 1) = S1 at *
    generalize st (i + 1) = t1 at *
    generalize at_ (i + 1) = a1 at *
    generalize s i = S0 at *
    generalize st i = t0 at *
    generalize at_ i = a0 at *
    simp -implicitDefEqProofs [hlt, hi, hb, hg, cw36, cr36, v, wr_id ((i : Int) + 1) (by omega) (by omega)]
  · simp -implicitDefEqProofs []
  · generalize s m = S1 at *
    generalize st m = t1 at *
    generalize at_ m = a1 at *
    simp -implicitDefEqProofs []
theorem sp31 (k : Nat) (s : Sc) (o : OkS s) (st at_ n : Int) : evFun (clOf (modsR tab (k + 2)) 3) s31 [tmD s st at_ n] = some (scD s, [tmD s st at_ n]) := by
  have w1 := fun q => sp370 q s o.g (by have := o.len; omega)
  rw [evFun_evB rfl]
  unfold s31
  simp -implicitDefEqProofs [cw370, cr370, w1]
theorem sp34 (k : Nat) (s : Sc) (o : OkS s) (st at_ n : Int) : evFun (clOf (modsR tab (k + 3)) 3) s34 [tmD s st at_ n] = some (.agg [I s.g.h, I s.g.w, .sl 5 (celsD s.g.cells), I s.row, I s.col, B s.shown], [tmD s st at_ n]) := by
  have w1 := fun q => sp31 q s o st at_ n
  rw [evFun_evB rfl]
  unfold s34
  simp -implicitDefEqProofs [cw31, cr31, w1]
theorem sp33 (k : Nat) (s : Sc) (st at_ n : Int) : evFun (clOf (modsR tab k) 3) s33 [tmD s st at_ n] = some (I n, [tmD s st at_ n]) := by
  rw [evFun_evB rfl]
  unfold s33
  simp -implicitDefEqProofs []
end Go.Proofs.YtadipapkdjcnbaaGreat.LgTab
