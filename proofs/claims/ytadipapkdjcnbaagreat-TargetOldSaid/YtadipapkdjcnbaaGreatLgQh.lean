import Derived.Test.YtadipapkdjcnbaaGreatLgQg
/-
  Rows moved; cells erased.
-/
namespace Go.Proofs.YtadipapkdjcnbaaGreat.LgTab
open Go Lg
set_option linter.unusedVariables false
set_option linter.unusedSimpArgs false
set_option maxRecDepth 8000
def shRow (g : Gd) (top bot : Nat) (n : Int) (p : Pn) (r : Nat) : List Cel := if (top : Int) ≤ r + n ∧ r + n ≤ bot then rowL g ((r : Int) + n).toNat else List.replicate g.w (blankC p)
def shTo (g : Gd) (top bot : Nat) (n : Int) (p : Pn) : Nat → Gd
  | 0 => g
  | i + 1 => setRow (shTo g top bot n p i) (top + i) (shRow g top bot n p (top + i))
def shG (g : Gd) (top bot : Nat) (n : Int) (p : Pn) : Gd := shTo g top bot n p (bot + 1 - top)
theorem shRow_len {g : Gd} (o : OkG g) {top bot : Nat} (hb : bot < g.h) (n : Int) (p : Pn) (r : Nat) : (shRow g top bot n p r).length = g.w := by
  unfold shRow
  split
  · exact rowL_len o (by omega)
  · simp
theorem shTo_ok {g : Gd} (o : OkG g) {top bot : Nat} (hb : bot < g.h) (n : Int) (p : Pn) : ∀ i, top + i ≤ bot + 1 → OkG (shTo g top bot n p i) ∧ (shTo g top bot n p i).h = g.h ∧ (shTo g top bot n p i).w = g.w ∧ (shTo g top bot n p i).cells.length = g.cells.length
  | 0, _ => ⟨o, rfl, rfl, rfl⟩
  | i + 1, hi => by
    obtain ⟨o1, e1, e2, e3⟩ := shTo_ok (top := top) o hb n p i (by omega)
    have hr : top + i < (shTo g top bot n p i).h := by rw [e1]; omega
    have o' := o1.setRow hr (shRow g top bot n p (top + i)) (by rw [shRow_len (top := top) o hb, e2])
    refine ⟨o', e1, e2, ?_⟩
    have := o'.2.2.2.2
    show (setRow _ _ _).cells.length = _
    rw [this]
    show (shTo g top bot n p i).h * (shTo g top bot n p i).w = _
    rw [e1, e2, o.2.2.2.2]
theorem rowOff_w {g G : Gd} (h : G.w = g.w) (r : Nat) : rowOff G r = rowOff g r := by rw [rowOff_def, rowOff_def, h]
set_option maxHeartbeats 4000000 in
theorem sp147 (k : Nat) (g : Gd) (o : OkG g) (hl : g.cells.length ≤ 100000) (top bot : Nat) (ht : top ≤ bot) (hb : bot < g.h) (n : Int) (hn : -1000 ≤ n ∧ n ≤ 1000) (p : Pn) : evFun (clOf (modsR tab (k + 4)) 3) s147 [gdD g, I top, I bot, I n, pnD p] = some (gdD (shG g top bot n p), []) := by
  have w1 := fun q => sp144 q g o hl
  have hh := o.2.1
  have c0 : ¬ (top : Int) < 0 := by omega
  have c1 : ¬ (g.h : Int) ≤ bot := by omega
  have c2 : ¬ (bot : Int) < top := by omega
  have hN : bot + 1 - top < rounds := by simp [rounds]; omega
  obtain ⟨N, hNe⟩ : ∃ N, N = bot + 1 - top := ⟨_, rfl⟩
  have hG : shG g top bot n p = shTo g top bot n p N := by rw [hNe]; rfl
  have h0 : shTo g top bot n p 0 = g := rfl
  rw [hG]
  rw [evFun_evB rfl]
  unfold s147
  simp -implicitDefEqProofs [cw144, w1, c0, c1, c2]
  refine evB_for (fun i => [I top, I bot, I n, I ((top + i : Nat) : Int), .obx [I g.h, I g.w, .sl 5 (celsD g.cells)], .obx [I p.f, I p.b, I p.g], .obx [I 0, I 0, .sn], .obx [I g.h, I g.w, .osl true 5 (celsD (shTo g top bot n p i).cells)]]) N (.exit 0)
    [I top, I bot, I n, I ((top + N : Nat) : Int), .obx [I g.h, I g.w, .sl 5 (celsD g.cells)], .obx [I p.f, I p.b, I p.g], .obx [I 0, I 0, .sn], .obx [I g.h, I g.w, .osl true 5 (celsD (shTo g top bot n p N).cells)]] ?_ (fun i hi => ?_) ?_ (by simp) (by rw [hNe]; exact hN) ?_
  · simp -implicitDefEqProofs [h0]
  · obtain ⟨oi, i1, i2, i3⟩ := shTo_ok (top := top) o hb n p i (by omega)
    obtain ⟨oj, j1, j2, j3⟩ := shTo_ok (top := top) o hb n p (i + 1) (by omega)
    have ei : shTo g top bot n p (i + 1) = setRow (shTo g top bot n p i) (top + i) (shRow g top bot n p (top + i)) := rfl
    have et : top + (i + 1) = top + i + 1 := rfl
    have hri : top + i < (shTo g top bot n p i).h := by rw [i1]; omega
    obtain ⟨r, hr⟩ : ∃ r, r = top + i := ⟨_, rfl⟩
    rw [et]
    simp only [← hr] at ei hri ⊢
    have hrg : r < g.h := by omega
    have ri := row_in o hrg
    obtain ⟨q1, q2, q3, q5, q6⟩ := row_nums o hrg
    have hsl := shRow_len o (top := top) hb n p r
    have hc : (shTo g top bot n p (i + 1)).cells = (shTo g top bot n p i).cells.take (rowOff g r) ++ ((shRow g top bot n p r) ++ (shTo g top bot n p i).cells.drop (rowOff g r + g.w)) := by
      rw [ei]
      unfold setRow
      simp only
      rw [rowOff_w i2, i2, List.append_assoc]
    have w143 := fun q => sp143 q g.w (by have := o.2.2.1; omega) (by have := o.2.2.2.1; omega) p
    have e1 : wr ((r : Int) + 1) = ((r + 1 : Nat) : Int) := by rw [wr_id _ (by omega) (by omega)]; simp
    have hle : (r : Int) ≤ bot := by omega
    have hrl : rowOff g r ≤ g.cells.length := by omega
    have hmn : min g.w (g.cells.length - rowOff g r) = g.w := by omega
    have a1 : wr ((r : Int) + n) = (r : Int) + n := wr_id _ (by omega) (by omega)
    have hne : ¬ g.w = 0 := by have := o.2.2.1; omega
    by_cases hk : (top : Int) ≤ r + n ∧ r + n ≤ bot
    · obtain ⟨kk, hkk⟩ : ∃ kk : Nat, (r : Int) + n = kk := ⟨((r : Int) + n).toNat, by omega⟩
      have hkg : kk < g.h := by omega
      obtain ⟨p1, p2, p3, p5, p6⟩ := row_nums o hkg
      have rk := row_in o hkg
      have hS : shRow g top bot n p r = rowL g kk := by unfold shRow; rw [if_pos hk, hkk, Int.toNat_natCast]
      have e7 : (g.cells.drop (rowOff g kk)).take g.w = rowL g kk := rfl
      rw [hS] at hc hsl
      have k1 : (top : Int) ≤ kk := by omega
      have k2 : (kk : Int) ≤ bot := by omega
      have tk : (rowL g kk).take g.w = rowL g kk := List.take_of_length_le (by omega)
      generalize shTo g top bot n p (i + 1) = G' at *
      generalize shTo g top bot n p i = G at *
      clear hr
      simp -implicitDefEqProofs [hle, hne, cw143, w143, a1, hkk, wr_id ((kk : Int)) (by omega) (by omega), k1, k2, p1, p2, p3, p5, p6, rk, q1, hrl, i3, e7, hsl, hmn, ← hc, j3, e1, tk]
    · have hS : shRow g top bot n p r = List.replicate g.w (blankC p) := by unfold shRow; rw [if_neg hk]
      rw [hS] at hc hsl
      have tk : (List.replicate g.w (blankC p)).take g.w = List.replicate g.w (blankC p) := List.take_of_length_le (by simp)
      generalize shTo g top bot n p (i + 1) = G' at *
      generalize shTo g top bot n p i = G at *
      generalize List.replicate g.w (blankC p) = BL at *
      clear hr
      by_cases k1 : (top : Int) ≤ r + n
      · have k2 : ¬ (r : Int) + n ≤ bot := by omega
        simp -implicitDefEqProofs [hle, hne, cw143, w143, a1, k1, k2, q1, hrl, i3, hsl, hmn, ← hc, j3, e1, tk]
      · simp -implicitDefEqProofs [hle, hne, cw143, w143, a1, k1, q1, hrl, i3, hsl, hmn, ← hc, j3, e1, tk]
  · obtain ⟨oi, i1, i2, i3⟩ := shTo_ok (top := top) o hb n p N (by omega)
    have hge : ¬ ((top : Int) + (N : Int) ≤ (bot : Int)) := by omega
    simp -implicitDefEqProofs [hge, i3]
  · obtain ⟨oi, i1, i2, i3⟩ := shTo_ok (top := top) o hb n p N (by omega)
    have tk : (shTo g top bot n p N).cells.take g.cells.length = (shTo g top bot n p N).cells := List.take_of_length_le (by omega)
    simp -implicitDefEqProofs [i1, i2, i3, tk]
def farI (n : Int) : Int := mxI 0 (mnI n 40)
theorem farI_b (n : Int) : 0 ≤ farI n ∧ farI n ≤ 40 := by
  unfold farI mxI mnI
  repeat' split
  all_goals omega
theorem sp142 (k : Nat) (g : Gd) (o : OkG g) (hl : g.cells.length ≤ 100000) (top bot : Nat) (ht : top ≤ bot) (hb : bot < g.h) (n : Int) (p : Pn) : evFun (clOf (modsR tab (k + 5)) 3) s142 [gdD g, I top, I bot, I n, pnD p] = some (gdD (shG g top bot (farI n) p), []) := by
  have b := farI_b n
  have w := fun q => sp147 q g o hl top bot ht hb (farI n) (by omega) p
  have w2 : ∀ q, evFun (clOf (modsR tab q) 3) s145 [I n] = some (I (farI n), []) := fun q => sp145 q n
  generalize shG g top bot (farI n) p = G at *
  rw [evFun_evB rfl]
  unfold s142
  simp -implicitDefEqProofs [cr145, w2, cw147, w]
theorem sp138 (k : Nat) (g : Gd) (o : OkG g) (hl : g.cells.length ≤ 100000) (top bot : Nat) (ht : top ≤ bot) (hb : bot < g.h) (n : Int) (p : Pn) : evFun (clOf (modsR tab (k + 5)) 3) s138 [gdD g, I top, I bot, I n, pnD p] = some (gdD (shG g top bot (-farI n) p), []) := by
  have b := farI_b n
  have w := fun q => sp147 q g o hl top bot ht hb (-farI n) (by omega) p
  have w2 : ∀ q, evFun (clOf (modsR tab q) 3) s145 [I n] = some (I (farI n), []) := fun q => sp145 q n
  have e : IntKind.i64.wrap (-farI n) = -farI n := wrap_id _ (by omega) (by omega)
  generalize shG g top bot (-farI n) p = G at *
  rw [evFun_evB rfl]
  unfold s138
  simp -implicitDefEqProofs [cr145, w2, cw147, w, e]
def lineG (g : Gd) (r c : Nat) (what : Int) (p : Pn) : Gd := if what = 0 then wipeG g r c g.w p else if what = 1 then wipeG g r 0 ((c : Int) + 1) p else if what = 2 then wipeG g r 0 g.w p else g
theorem wipeG_ok {g : Gd} (o : OkG g) {r : Nat} (hr : r < g.h) (a b : Int) (p : Pn) : OkG (wipeG g r a b p) ∧ (wipeG g r a b p).h = g.h ∧ (wipeG g r a b p).w = g.w ∧ (wipeG g r a b p).cells.length = g.cells.length := by
  have o' := o.setRow hr (mendL (wipeRow (rowL g r) (mxI a 0).toNat (max (mxI a 0) (mnI b g.w)).toNat p)) (by simp [rowL_len o hr])
  refine ⟨o', rfl, rfl, ?_⟩
  have h := o'.2.2.2.2
  rw [o.2.2.2.2]
  exact h
theorem lineG_ok {g : Gd} (o : OkG g) {r : Nat} (hr : r < g.h) (c : Nat) (what : Int) (p : Pn) : OkG (lineG g r c what p) ∧ (lineG g r c what p).h = g.h ∧ (lineG g r c what p).w = g.w ∧ (lineG g r c what p).cells.length = g.cells.length := by
  unfold lineG
  repeat' split
  · exact wipeG_ok o hr _ _ _
  · exact wipeG_ok o hr _ _ _
  · exact wipeG_ok o hr _ _ _
  · exact ⟨o, rfl, rfl, rfl⟩
theorem sp141 (k : Nat) (g : Gd) (o : OkG g) (hl : g.cells.length ≤ 100000) (r c : Nat) (hr : r < g.h) (hc : c < g.w) (what : Int) (p : Pn) : evFun (clOf (modsR tab (k + 3)) 3) s141 [gdD g, I r, I c, I what, pnD p] = some (gdD (lineG g r c what p), []) := by
  have hw := rowL_len o hr
  have hw2 := o.2.2.2.1
  obtain ⟨x, hx⟩ := get_ex (l := rowL g r) (i := c) (by omega)
  have w149 := fun q => sp149 q g o r c hr hc x hx
  have w144 := fun q => sp144 q g o hl
  have w1 := fun q => sp157 q g o hl r hr c g.w p (by omega) (by omega)
  have w2 := fun q => sp157 q g o hl r hr 0 ((c : Int) + 1) p (by omega) (by omega)
  have w3 := fun q => sp157 q g o hl r hr 0 g.w p (by omega) (by omega)
  have e : lineG g r c what p = if what = 0 then wipeG g r c g.w p else if what = 1 then wipeG g r 0 ((c : Int) + 1) p else if what = 2 then wipeG g r 0 g.w p else g := rfl
  rw [e]
  generalize wipeG g r c g.w p = G1 at *
  generalize wipeG g r 0 ((c : Int) + 1) p = G2 at *
  generalize wipeG g r 0 g.w p = G3 at *
  have tk : g.cells.take g.cells.length = g.cells := List.take_of_length_le (by omega)
  rw [evFun_evB rfl]
  unfold s141
  by_cases h0 : what = 0
  · simp -implicitDefEqProofs [cw149, w149, h0, cw157, w1]
  by_cases h1 : what = 1
  · simp -implicitDefEqProofs [cw149, w149, h0, h1, cw157, w2, wr_id ((c : Int) + 1) (by omega) (by omega)]
  by_cases h2 : what = 2
  · simp -implicitDefEqProofs [cw149, w149, h0, h1, h2, cw157, w3]
  simp -implicitDefEqProofs [cw149, w149, h0, h1, h2, cw144, w144, tk]
def erIn (what : Int) (r i : Nat) : Bool := (decide (r < i) && !decide (what = 1)) || (decide (i < r) && !decide (what = 0))
def erTo (g : Gd) (r c : Nat) (what : Int) (p : Pn) : Nat → Gd
  | 0 => lineG g r c what p
  | i + 1 => if erIn what r i then wipeG (erTo g r c what p i) i 0 g.w p else erTo g r c what p i
def eraseG (g : Gd) (r c : Nat) (what : Int) (p : Pn) : Gd := if what < 0 ∨ 2 < what then g else erTo g r c what p g.h
theorem erTo_ok {g : Gd} (o : OkG g) {r : Nat} (hr : r < g.h) (c : Nat) (what : Int) (p : Pn) : ∀ i, i ≤ g.h → OkG (erTo g r c what p i) ∧ (erTo g r c what p i).h = g.h ∧ (erTo g r c what p i).w = g.w ∧ (erTo g r c what p i).cells.length = g.cells.length
  | 0, _ => lineG_ok o hr c what p
  | i + 1, hi => by
    obtain ⟨o1, e1, e2, e3⟩ := erTo_ok o hr c what p i (by omega)
    unfold erTo
    split
    · obtain ⟨o2, f1, f2, f3⟩ := wipeG_ok o1 (r := i) (by omega) 0 g.w p
      exact ⟨o2, f1.trans e1, f2.trans e2, f3.trans e3⟩
    · exact ⟨o1, e1, e2, e3⟩
set_option maxHeartbeats 4000000 in
theorem sp139 (k : Nat) (g : Gd) (o : OkG g) (hl : g.cells.length ≤ 100000) (r c : Nat) (hr : r < g.h) (hc : c < g.w) (what : Int) (p : Pn) : evFun (clOf (modsR tab (k + 4)) 3) s139 [gdD g, I r, I c, I what, pnD p] = some (gdD (eraseG g r c what p), []) := by
  have hw := rowL_len o hr
  have hw2 := o.2.2.2.1
  obtain ⟨x, hx⟩ := get_ex (l := rowL g r) (i := c) (by omega)
  have w149 := fun q => sp149 q g o r c hr hc x hx
  have w144 := fun q => sp144 q g o hl
  have tk : g.cells.take g.cells.length = g.cells := List.take_of_length_le (by omega)
  by_cases hb : what < 0 ∨ 2 < what
  · have e : eraseG g r c what p = g := by unfold eraseG; rw [if_pos hb]
    rw [e, evFun_evB rfl]
    unfold s139
    by_cases h1 : what < 0
    · simp -implicitDefEqProofs [cw149, w149, h1, cw144, w144, tk]
    · have h2 : 2 < what := by omega
      simp -implicitDefEqProofs [cw149, w149, h1, h2, cw144, w144, tk]
  · have e : eraseG g r c what p = erTo g r c what p g.h := by unfold eraseG; rw [if_neg hb]
    have h1 : ¬ what < 0 := by omega
    have h2 : ¬ 2 < what := by omega
    have w141 := fun q => sp141 q g o hl r c hr hc what p
    have h0 : lineG g r c what p = erTo g r c what p 0 := rfl
    rw [h0] at w141
    rw [e]
    obtain ⟨oz, z1, z2, z3⟩ := erTo_ok o hr c what p 0 (by omega)
    have hh := o.2.1
    rw [evFun_evB rfl]
    unfold s139
    simp -implicitDefEqProofs [cw149, w149, h1, h2, cw141, w141, z1, z2]
    refine evB_for (fun i => [I r, I what, I g.h, I i, .obx [I g.h, I g.w, .sl 5 (celsD g.cells)], .obx [I p.f, I p.b, I p.g], .obx [I 0, I 0, .sn], .obx [I g.h, I g.w, .sl 5 (celsD (erTo g r c what p i).cells)]]) g.h (.exit 0)
      [I r, I what, I g.h, I g.h, .obx [I g.h, I g.w, .sl 5 (celsD g.cells)], .obx [I p.f, I p.b, I p.g], .obx [I 0, I 0, .sn], .obx [I g.h, I g.w, .sl 5 (celsD (erTo g r c what p g.h).cells)]] ?_ (fun i hi => ?_) ?_ (by simp) (by simp [rounds]; omega) ?_
    · simp -implicitDefEqProofs []
    · obtain ⟨oi, i1, i2, i3⟩ := erTo_ok o hr c what p i (by omega)
      have w157 := fun q => sp157 q (erTo g r c what p i) oi (by omega) i (by omega) 0 g.w p (by omega) (by omega)
      have hlt : (i : Int) < g.h := by omega
      have ee : erTo g r c what p (i + 1) = if erIn what r i then wipeG (erTo g r c what p i) i 0 g.w p else erTo g r c what p i := rfl
      have hin : erIn what r i = ((decide (r < i) && !decide (what = 1)) || (decide (i < r) && !decide (what = 0))) := rfl
      obtain ⟨_, f1, f2, f3⟩ := wipeG_ok oi (r := i) (by omega) 0 g.w p
      generalize erTo g r c what p (i + 1) = G' at *
      generalize wipeG (erTo g r c what p i) i 0 g.w p = W at *
      generalize erTo g r c what p i = G at *
      simp only [gdD, f1, f2, i1, i2] at w157
      by_cases c1 : r < i
      · have c1' : (r : Int) < i := by omega
        have c2 : ¬ (i : Int) < r := by omega
        have c2' : ¬ i < r := by omega
        by_cases c3 : what = 1
        · have : erIn what r i = false := by rw [hin]; simp [c1, c2', c3]
          rw [this] at ee
          simp only [Bool.false_eq_true, if_false] at ee
          simp -implicitDefEqProofs [hlt, c1', c2, c3, ee, wr_id ((i : Int) + 1) (by omega) (by omega)]
        · have : erIn what r i = true := by rw [hin]; simp [c1, c2', c3]
          rw [this] at ee
          simp only [if_true] at ee
          simp -implicitDefEqProofs [hlt, c1', c2, c3, ee, cw157, w157, wr_id ((i : Int) + 1) (by omega) (by omega)]
      · have c1' : ¬ (r : Int) < i := by omega
        by_cases c2 : i < r
        · have c2' : (i : Int) < r := by omega
          by_cases c3 : what = 0
          · have : erIn what r i = false := by rw [hin]; simp [c1, c2, c3]
            rw [this] at ee
            simp only [Bool.false_eq_true, if_false] at ee
            simp -implicitDefEqProofs [hlt, c1', c2', c3, ee, wr_id ((i : Int) + 1) (by omega) (by omega)]
          · have : erIn what r i = true := by rw [hin]; simp [c1, c2, c3]
            rw [this] at ee
            simp only [if_true] at ee
            simp -implicitDefEqProofs [hlt, c1', c2', c3, ee, cw157, w157, wr_id ((i : Int) + 1) (by omega) (by omega)]
        · have c2' : ¬ (i : Int) < r := by omega
          have : erIn what r i = false := by rw [hin]; simp [c1, c2]
          rw [this] at ee
          simp only [Bool.false_eq_true, if_false] at ee
          simp -implicitDefEqProofs [hlt, c1', c2', ee, wr_id ((i : Int) + 1) (by omega) (by omega)]
    · simp -implicitDefEqProofs []
    · obtain ⟨oi, i1, i2, i3⟩ := erTo_ok o hr c what p g.h (by omega)
      simp -implicitDefEqProofs [i1, i2]
end Go.Proofs.YtadipapkdjcnbaaGreat.LgTab
