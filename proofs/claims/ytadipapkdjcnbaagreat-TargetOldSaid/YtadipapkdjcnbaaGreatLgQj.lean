import Derived.Test.YtadipapkdjcnbaaGreatLgQi
/-
  Screens: copies, new ones; the cursor.
-/
namespace Go.Proofs.YtadipapkdjcnbaaGreat.LgTab
open Go Lg
set_option linter.unusedVariables false
set_option linter.unusedSimpArgs false
set_option maxRecDepth 8000
/-- What a screen's numbers keep to. -/
structure OkS (s : Sc) : Prop where
  g : OkG s.g
  h : s.g.h ≤ 40
  w : s.g.w ≤ 60
  row : 0 ≤ s.row ∧ s.row < s.g.h
  col : 0 ≤ s.col ∧ s.col < s.g.w
  top : 0 ≤ s.top ∧ s.top ≤ s.bot
  bot : s.bot < s.g.h
  tabs : s.tabs < 2 ^ 64
  sh : s.sh = 0 ∨ s.sh = 1
  ssh : s.sv.sh = 0 ∨ s.sv.sh = 1
  srow : 0 ≤ s.sv.r ∧ s.sv.r < s.g.h
  scol : 0 ≤ s.sv.c ∧ s.sv.c < s.g.w
theorem OkS.len {s : Sc} (o : OkS s) : s.g.cells.length ≤ 2400 := by
  rw [o.g.2.2.2.2]
  exact Nat.mul_le_mul o.h o.w
theorem sp370 (k : Nat) (s : Sc) (o : OkG s.g) (hl : s.g.cells.length ≤ 100000) : evFun (clOf (modsR tab (k + 1)) 3) s370 [scD s] = some (scD s, []) := by
  have w := fun q => sp451 q s.g.cells o.ne hl
  have h0 := o.ne
  have tk : s.g.cells.take s.g.cells.length = s.g.cells := List.take_of_length_le (by omega)
  rw [evFun_evB rfl]
  unfold s370
  simp -implicitDefEqProofs [cw451, w, h0, tk]
def fillP (s : Sc) : Pn := ⟨-1, s.p.b, 0⟩
theorem sp371 (k : Nat) (s : Sc) : evFun (clOf (modsR tab k) 3) s371 [scD s] = some (pnD (fillP s), []) := by
  rw [evFun_evB rfl]
  unfold s371
  simp -implicitDefEqProofs [fillP]
def newS (h w : Nat) : Sc := ⟨newG h w plainP, 0, 0, false, 0, (h : Int) - 1, plainP, newT w, 66, 66, 0, true, false, true, false, false, ⟨0, 0, plainP, 66, 66, 0, false⟩⟩
set_option maxHeartbeats 2000000 in
theorem sp372 (k : Nat) (h w : Nat) (h0 : 1 ≤ h ∧ h ≤ 40) (h1 : 1 ≤ w ∧ w ≤ 60) : evFun (clOf (modsR tab (k + 4)) 3) s372 [I h, I w] = some (scD (newS h w), []) := by
  have w1 := fun q => sp151 q h w h0 h1 plainP
  have w2 := fun q => sp107 q
  have w3 := fun q => sp419 q w (by omega)
  have hc : (newG h w plainP).h = h := rfl
  have hd : (newG h w plainP).w = w := rfl
  have tk : (newG h w plainP).cells.take (newG h w plainP).cells.length = (newG h w plainP).cells := List.take_of_length_le (by omega)
  unfold newS
  generalize newT w = t at *
  generalize newG h w plainP = G at *
  simp only [plainP] at w1 w2 ⊢
  rw [evFun_evB rfl]
  unfold s372
  simp -implicitDefEqProofs [cw151, cw107, cr107, cr419, w1, w2, w3, hc, hd, tk, wr_id ((h : Int) - 1) (by omega) (by omega)]
def nearI (n all : Int) : Int := mxI 0 (mnI n (all - 1))
theorem nearI_b (n : Int) {all : Int} (h : 1 ≤ all) : 0 ≤ nearI n all ∧ nearI n all < all := by
  unfold nearI mxI mnI
  repeat' split
  all_goals omega
theorem nearI_id {n all : Int} (h0 : 0 ≤ n) (h : n < all) : nearI n all = n := by
  unfold nearI mxI mnI
  repeat' split
  all_goals omega
def atS (s : Sc) (r c : Int) : Sc := { s with row := nearI r s.g.h, col := nearI c s.g.w, pend := false }
theorem atS_ok {s : Sc} (o : OkS s) (r c : Int) : OkS (atS s r c) :=
  ⟨o.g, o.h, o.w, nearI_b r (by have := o.g.1; omega), nearI_b c (by have := o.g.2.2.1; omega), o.top, o.bot, o.tabs, o.sh, o.ssh, o.srow, o.scol⟩
theorem sp122 (k : Nat) (s : Sc) (o : OkS s) (r c : Int) : evFun (clOf (modsR tab (k + 2)) 3) s122 [scD s, I r, I c] = some (scD (atS s r c), []) := by
  have w := fun q => sp370 q s o.g (by have := o.len; omega)
  have h1 := o.h
  have h2 := o.w
  have h3 := o.g.1
  have h4 := o.g.2.2.1
  rw [evFun_evB rfl]
  unfold s122
  simp -implicitDefEqProofs [cw370, w, atS, nearI, wr_id ((s.g.h : Int) - 1) (by omega) (by omega), wr_id ((s.g.w : Int) - 1) (by omega) (by omega)]
/-- Rows go up or down between two. -/
def moveG (s : Sc) (t b : Int) (n : Int) : Sc := { s with g := shG s.g t.toNat b.toNat n (fillP s) }
theorem moveG_dim {s : Sc} (o : OkS s) {t b : Int} (ht : 0 ≤ t) (hb : t ≤ b) (hb2 : b < s.g.h) (n : Int) (p : Pn) : OkG (shG s.g t.toNat b.toNat n p) ∧ (shG s.g t.toNat b.toNat n p).h = s.g.h ∧ (shG s.g t.toNat b.toNat n p).w = s.g.w :=
  have := shTo_ok (top := t.toNat) (bot := b.toNat) o.g (by omega) n p (b.toNat + 1 - t.toNat) (by omega)
  ⟨this.1, this.2.1, this.2.2.1⟩
theorem moveG_ok {s : Sc} (o : OkS s) {t b : Int} (ht : 0 ≤ t) (hb : t ≤ b) (hb2 : b < s.g.h) (n : Int) : OkS (moveG s t b n) := by
  obtain ⟨a, e1, e2⟩ := moveG_dim o ht hb hb2 n (fillP s)
  exact ⟨a, by rw [show (moveG s t b n).g.h = _ from e1]; exact o.h, by rw [show (moveG s t b n).g.w = _ from e2]; exact o.w, by rw [show (moveG s t b n).g.h = _ from e1]; exact o.row, by rw [show (moveG s t b n).g.w = _ from e2]; exact o.col, o.top, by rw [show (moveG s t b n).g.h = _ from e1]; exact o.bot, o.tabs, o.sh, o.ssh, by rw [show (moveG s t b n).g.h = _ from e1]; exact o.srow, by rw [show (moveG s t b n).g.w = _ from e2]; exact o.scol⟩
theorem pend_ok {s : Sc} (o : OkS s) : OkS { s with pend := false } := ⟨o.g, o.h, o.w, o.row, o.col, o.top, o.bot, o.tabs, o.sh, o.ssh, o.srow, o.scol⟩
def feedS (s : Sc) : Sc := if s.row = s.bot then { moveG s s.top s.bot 1 with pend := false } else atS s (s.row + 1) s.col
def backS (s : Sc) : Sc := if s.row = s.top then { moveG s s.top s.bot (-1) with pend := false } else atS s (s.row - 1) s.col
theorem feedS_ok {s : Sc} (o : OkS s) : OkS (feedS s) := by
  unfold feedS
  split
  · exact pend_ok (moveG_ok o o.top.1 o.top.2 o.bot 1)
  · exact atS_ok o _ _
theorem backS_ok {s : Sc} (o : OkS s) : OkS (backS s) := by
  unfold backS
  split
  · exact pend_ok (moveG_ok o o.top.1 o.top.2 o.bot (-1))
  · exact atS_ok o _ _
theorem far1 : farI 1 = 1 := by unfold farI mxI mnI; repeat' split
                                all_goals omega
set_option maxHeartbeats 2000000 in
theorem sp125 (k : Nat) (s : Sc) (o : OkS s) : evFun (clOf (modsR tab (k + 6)) 3) s125 [scD s] = some (scD (feedS s), []) := by
  have w := fun q => sp371 q s
  have hl := o.len
  have ht := o.top
  have hb := o.bot
  have hh := o.h
  have hr := o.row
  by_cases h : s.row = s.bot
  · have e : feedS s = { s with g := shG s.g s.top.toNat s.bot.toNat 1 (fillP s), pend := false } := by unfold feedS; rw [if_pos h]; rfl
    rw [e]
    have w1 := fun q => sp142 q s.g o.g (by omega) s.top.toNat s.bot.toNat (by omega) (by omega) 1 (fillP s)
    rw [far1, Int.toNat_of_nonneg (by omega), Int.toNat_of_nonneg (by omega)] at w1
    generalize shG s.g s.top.toNat s.bot.toNat 1 (fillP s) = G at *
    rw [evFun_evB rfl]
    unfold s125
    simp -implicitDefEqProofs [eq_true h, cw371, cr371, w, cw142, w1]
  · have e : feedS s = atS s (s.row + 1) s.col := by unfold feedS; rw [if_neg h]
    rw [e]
    have w1 := fun q => sp122 q s o (s.row + 1) s.col
    generalize atS s (s.row + 1) s.col = S' at *
    rw [evFun_evB rfl]
    unfold s125
    simp -implicitDefEqProofs [h, cw122, w1, wr_id (s.row + 1) (by omega) (by omega)]
set_option maxHeartbeats 2000000 in
theorem sp123 (k : Nat) (s : Sc) (o : OkS s) : evFun (clOf (modsR tab (k + 6)) 3) s123 [scD s] = some (scD (backS s), []) := by
  have w := fun q => sp371 q s
  have hl := o.len
  have ht := o.top
  have hb := o.bot
  have hh := o.h
  have hr := o.row
  by_cases h : s.row = s.top
  · have e : backS s = { s with g := shG s.g s.top.toNat s.bot.toNat (-1) (fillP s), pend := false } := by unfold backS; rw [if_pos h]; rfl
    rw [e]
    have w1 := fun q => sp138 q s.g o.g (by omega) s.top.toNat s.bot.toNat (by omega) (by omega) 1 (fillP s)
    rw [far1, Int.toNat_of_nonneg (by omega), Int.toNat_of_nonneg (by omega)] at w1
    generalize shG s.g s.top.toNat s.bot.toNat (-1) (fillP s) = G at *
    rw [evFun_evB rfl]
    unfold s123
    simp -implicitDefEqProofs [eq_true h, cw371, cr371, w, cw138, w1]
  · have e : backS s = atS s (s.row - 1) s.col := by unfold backS; rw [if_neg h]
    rw [e]
    have w1 := fun q => sp122 q s o (s.row - 1) s.col
    generalize atS s (s.row - 1) s.col = S' at *
    rw [evFun_evB rfl]
    unfold s123
    simp -implicitDefEqProofs [h, cw122, w1, wr_id (s.row - 1) (by omega) (by omega)]
def upS (s : Sc) (n : Int) : Sc := atS s (if s.top ≤ s.row then mxI (s.row - n) s.top else s.row - n) s.col
def downS (s : Sc) (n : Int) : Sc := atS s (if s.row ≤ s.bot then mnI (s.row + n) s.bot else s.row + n) s.col
def goS (s : Sc) (r c : Int) : Sc := atS s (if s.orig then mnI (s.top + r) s.bot else r) c
def homeS (s : Sc) : Sc := atS s (if s.orig then s.top else 0) 0
def saveS (s : Sc) : Sc := { s with sv := ⟨s.row, s.col, s.p, s.s0, s.s1, s.sh, s.orig⟩ }
def restS (s : Sc) : Sc := atS { s with p := s.sv.p, s0 := s.sv.u0, s1 := s.sv.u1, sh := s.sv.sh, orig := s.sv.o } s.sv.r s.sv.c
theorem saveS_ok {s : Sc} (o : OkS s) : OkS (saveS s) := ⟨o.g, o.h, o.w, o.row, o.col, o.top, o.bot, o.tabs, o.sh, o.sh, o.row, o.col⟩
theorem restS_ok {s : Sc} (o : OkS s) : OkS (restS s) :=
  have o2 : OkS { s with p := s.sv.p, s0 := s.sv.u0, s1 := s.sv.u1, sh := s.sv.sh, orig := s.sv.o } := ⟨o.g, o.h, o.w, o.row, o.col, o.top, o.bot, o.tabs, o.ssh, o.ssh, o.srow, o.scol⟩
  atS_ok o2 _ _
section
variable (k : Nat) (s : Sc) (o : OkS s)
include o
theorem sp130 (n : Int) (hn : -100000 ≤ n ∧ n ≤ 100000) : evFun (clOf (modsR tab (k + 3)) 3) s130 [scD s, I n] = some (scD (upS s n), []) := by
  have hh := o.h
  have hr := o.row
  have ht := o.top
  have hb := o.bot
  have w := fun q => sp122 q s o (if s.top ≤ s.row then mxI (s.row - n) s.top else s.row - n) s.col
  have e : upS s n = atS s (if s.top ≤ s.row then mxI (s.row - n) s.top else s.row - n) s.col := rfl
  rw [e]
  clear e
  by_cases h : s.top ≤ s.row
  · rw [if_pos h] at w ⊢
    generalize atS s (mxI (s.row - n) s.top) s.col = S' at *
    rw [evFun_evB rfl]
    unfold s130
    simp -implicitDefEqProofs [h, cw122, w, wr_id (s.row - n) (by omega) (by omega)]
  · rw [if_neg h] at w ⊢
    generalize atS s (s.row - n) s.col = S' at *
    rw [evFun_evB rfl]
    unfold s130
    simp -implicitDefEqProofs [h, cw122, w, wr_id (s.row - n) (by omega) (by omega)]
theorem sp124 (n : Int) (hn : -100000 ≤ n ∧ n ≤ 100000) : evFun (clOf (modsR tab (k + 3)) 3) s124 [scD s, I n] = some (scD (downS s n), []) := by
  have hh := o.h
  have hr := o.row
  have ht := o.top
  have hb := o.bot
  have w := fun q => sp122 q s o (if s.row ≤ s.bot then mnI (s.row + n) s.bot else s.row + n) s.col
  have e : downS s n = atS s (if s.row ≤ s.bot then mnI (s.row + n) s.bot else s.row + n) s.col := rfl
  rw [e]
  clear e
  by_cases h : s.row ≤ s.bot
  · rw [if_pos h] at w ⊢
    generalize atS s (mnI (s.row + n) s.bot) s.col = S' at *
    rw [evFun_evB rfl]
    unfold s124
    simp -implicitDefEqProofs [h, cw122, w, wr_id (s.row + n) (by omega) (by omega)]
  · rw [if_neg h] at w ⊢
    generalize atS s (s.row + n) s.col = S' at *
    rw [evFun_evB rfl]
    unfold s124
    simp -implicitDefEqProofs [h, cw122, w, wr_id (s.row + n) (by omega) (by omega)]
theorem sp126 (r c : Int) (hn : -100000 ≤ r ∧ r ≤ 100000) : evFun (clOf (modsR tab (k + 3)) 3) s126 [scD s, I r, I c] = some (scD (goS s r c), []) := by
  have hh := o.h
  have ht := o.top
  have hb := o.bot
  have w := fun q => sp122 q s o (if s.orig then mnI (s.top + r) s.bot else r) c
  have e : goS s r c = atS s (if s.orig then mnI (s.top + r) s.bot else r) c := rfl
  rw [e]
  clear e
  by_cases h : s.orig = true
  · rw [if_pos h] at w ⊢
    generalize atS s (mnI (s.top + r) s.bot) c = S' at *
    rw [evFun_evB rfl]
    unfold s126
    simp only [scD, scL, h] at w ⊢
    simp -implicitDefEqProofs [cw122, w, wr_id (s.top + r) (by omega) (by omega)]
  · rw [if_neg h] at w ⊢
    rw [Bool.not_eq_true] at h
    generalize atS s r c = S' at *
    rw [evFun_evB rfl]
    unfold s126
    simp only [scD, scL, h] at w ⊢
    simp -implicitDefEqProofs [cw122, w]
theorem sp127 : evFun (clOf (modsR tab (k + 3)) 3) s127 [scD s] = some (scD (homeS s), []) := by
  have w := fun q => sp122 q s o (if s.orig then s.top else 0) 0
  have e : homeS s = atS s (if s.orig then s.top else 0) 0 := rfl
  rw [e]
  clear e
  by_cases h : s.orig = true
  · rw [if_pos h] at w ⊢
    generalize atS s s.top 0 = S' at *
    rw [evFun_evB rfl]
    unfold s127
    simp only [scD, scL, h] at w ⊢
    simp -implicitDefEqProofs [cw122, w]
  · rw [if_neg h] at w ⊢
    rw [Bool.not_eq_true] at h
    generalize atS s 0 0 = S' at *
    rw [evFun_evB rfl]
    unfold s127
    simp only [scD, scL, h] at w ⊢
    simp -implicitDefEqProofs [cw122, w]
theorem sp129 : evFun (clOf (modsR tab (k + 2)) 3) s129 [scD s] = some (scD (saveS s), []) := by
  have w := fun q => sp370 q s o.g (by have := o.len; omega)
  rw [evFun_evB rfl]
  unfold s129
  simp -implicitDefEqProofs [cw370, w, saveS]
theorem sp128 : evFun (clOf (modsR tab (k + 3)) 3) s128 [scD s] = some (scD (restS s), []) := by
  have o2 : OkS { s with p := s.sv.p, s0 := s.sv.u0, s1 := s.sv.u1, sh := s.sv.sh, orig := s.sv.o } := ⟨o.g, o.h, o.w, o.row, o.col, o.top, o.bot, o.tabs, o.ssh, o.ssh, o.srow, o.scol⟩
  have w := fun q => sp122 q _ o2 s.sv.r s.sv.c
  have e : restS s = atS { s with p := s.sv.p, s0 := s.sv.u0, s1 := s.sv.u1, sh := s.sv.sh, orig := s.sv.o } s.sv.r s.sv.c := rfl
  rw [e]
  generalize atS { s with p := s.sv.p, s0 := s.sv.u0, s1 := s.sv.u1, sh := s.sv.sh, orig := s.sv.o } s.sv.r s.sv.c = S' at *
  rw [evFun_evB rfl]
  unfold s128
  simp -implicitDefEqProofs [cw122, w]
end
end Go.Proofs.YtadipapkdjcnbaaGreat.LgTab
