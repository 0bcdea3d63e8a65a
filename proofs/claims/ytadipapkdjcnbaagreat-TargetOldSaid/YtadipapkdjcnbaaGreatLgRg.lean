import Derived.Test.YtadipapkdjcnbaaGreatLgRc
/-
  Plain text printed: rows fill from left to right, from above; more of it scrolls.
-/
namespace Go.Proofs.YtadipapkdjcnbaaGreat.LgTab
open Go Lg
set_option linter.unusedVariables false
set_option linter.unusedSimpArgs false
set_option maxRecDepth 8000
theorem width_letter {x : Int} (h : 97 ≤ x ∧ x ≤ 122) : widthR x = 1 := by
  have hn : narrowR x = false := by
    unfold narrowR
    simp
    omega
  have hw : wideR x = false := by
    unfold wideR wideL
    simp
    omega
  unfold widthR
  rw [hn, hw]
  rfl
theorem mendL_plain {l : List Cel} (h : ∀ (i : Nat) (x : Cel), l[i]? = some x → x.k = 0) : mendL l = l := by
  apply List.ext_getElem?
  intro i
  cases hx : l[i]? with
  | none => simp [mendL, hx]
  | some x =>
    rw [mendL_get hx]
    have e : kAt l i = 0 := by rw [kAt_some hx]; exact h i x hx
    simp [halfB, e]
/-- Rows moved up by one: what a row is then. -/
theorem rowL_shTo_up {g : Gd} (o : OkG g) {top bot : Nat} (hb : bot < g.h) (n : Int) (p : Pn) {y : Nat} (hy : y < g.h) (ht : top ≤ y) : ∀ i, top + i ≤ bot + 1 → y < top + i → rowL (shTo g top bot n p i) y = shRow g top bot n p y
  | 0, _, h => by omega
  | i + 1, hi, h => by
    obtain ⟨o1, e1, e2, e3⟩ := shTo_ok (top := top) o hb n p i (by omega)
    have hr : top + i < (shTo g top bot n p i).h := by rw [e1]; omega
    have hl : (shRow g top bot n p (top + i)).length = (shTo g top bot n p i).w := by rw [shRow_len (top := top) o hb, e2]
    show rowL (setRow (shTo g top bot n p i) (top + i) (shRow g top bot n p (top + i))) y = _
    by_cases he : y = top + i
    · subst he
      rw [rowL_setRow o1 hr hl]
    · rw [rowL_setRow_ne o1 hr (by omega) (by omega) _ hl, rowL_shTo_up o hb n p hy ht i (by omega) (by omega)]
theorem rowL_shG_in {g : Gd} (o : OkG g) {top bot : Nat} (hb : bot < g.h) (n : Int) (p : Pn) {y : Nat} (hy : y < g.h) (ht : top ≤ y) (hyb : y ≤ bot) : rowL (shG g top bot n p) y = shRow g top bot n p y :=
  rowL_shTo_up o hb n p hy ht _ (by omega) (by omega)
/-- The cell of the i-th of k letters. -/
def letC (k i : Nat) : Cel := ⟨if i < k then 97 + ((i % 26 : Nat) : Int) else 32, 0, plainP⟩
def fullN (w k : Nat) : Nat := (k - 1) / w
def firstN (h w k : Nat) : Nat := fullN w k + 1 - h
/-- The screen behind k letters. -/
structure TextS (h w k : Nat) (s : Sc) : Prop where
  ok : OkS s
  gh : s.g.h = h
  gw : s.g.w = w
  top : s.top = 0
  bot : s.bot = (h : Int) - 1
  wrap : s.wrap = true
  sh : s.sh = 0
  s0 : s.s0 = 66
  p : s.p = plainP
  row : s.row = ((fullN w k - firstN h w k : Nat) : Int)
  col : s.col = if 0 < k ∧ k % w = 0 then (w : Int) - 1 else ((k % w : Nat) : Int)
  pend : s.pend = decide (0 < k ∧ k % w = 0)
  cells : ∀ r, r < h → rowL s.g r = (List.range w).map fun c => letC k ((firstN h w k + r) * w + c)
/-- The same, made ready for the next one. -/
structure TextP (h w k : Nat) (s : Sc) : Prop where
  ok : OkS s
  gh : s.g.h = h
  gw : s.g.w = w
  top : s.top = 0
  bot : s.bot = (h : Int) - 1
  wrap : s.wrap = true
  sh : s.sh = 0
  s0 : s.s0 = 66
  p : s.p = plainP
  row : s.row = ((k / w - firstN h w (k + 1) : Nat) : Int)
  col : s.col = ((k % w : Nat) : Int)
  cells : ∀ r, r < h → rowL s.g r = (List.range w).map fun c => letC k ((firstN h w (k + 1) + r) * w + c)
theorem full_succ (w k : Nat) : fullN w (k + 1) = k / w := rfl
theorem full_mid {w k : Nat} (hw : 1 ≤ w) (h : ¬ (0 < k ∧ k % w = 0)) : fullN w k = k / w := by
  unfold fullN
  by_cases h0 : k = 0
  · subst h0; rfl
  · have hm : 0 < k % w := Nat.pos_of_ne_zero fun e => h ⟨by omega, e⟩
    have hlt := Nat.mod_lt k (show 0 < w by omega)
    have hk := Nat.div_add_mod k w
    generalize k / w = q at *
    generalize k % w = m at *
    have e : k - 1 = w * q + (m - 1) := by omega
    rw [e, Nat.mul_add_div (by omega), Nat.div_eq_of_lt (by omega)]
    omega
theorem full_end {w k : Nat} (hw : 1 ≤ w) (h0 : 0 < k) (h : k % w = 0) : k / w = fullN w k + 1 ∧ k = (k / w) * w := by
  have hk := Nat.div_add_mod k w
  rw [h] at hk
  have hk2 : k = (k / w) * w := by rw [Nat.mul_comm]; omega
  refine ⟨?_, hk2⟩
  have hq : 1 ≤ k / w := by
    rcases Nat.eq_zero_or_pos (k / w) with e | e
    · rw [e] at hk2; omega
    · exact e
  unfold fullN
  generalize k / w = q at *
  obtain ⟨q', rfl⟩ : ∃ q', q = q' + 1 := ⟨q - 1, by omega⟩
  have e : k - 1 = w * q' + (w - 1) := by
    rw [Nat.add_mul, Nat.mul_comm q' w] at hk2
    omega
  rw [e, Nat.mul_add_div (by omega), Nat.div_eq_of_lt (by omega)]
theorem divmod_of {w a c k : Nat} (hc : c < w) (h : a * w + c = k) : k / w = a ∧ k % w = c := by
  subst h
  constructor
  · rw [Nat.mul_comm, Nat.mul_add_div (by omega), Nat.div_eq_of_lt hc]; omega
  · rw [Nat.mul_comm, Nat.mul_add_mod, Nat.mod_eq_of_lt hc]
theorem letC_blank {k i : Nat} (h : k ≤ i) : letC k i = blankC plainP := by
  unfold letC blankC
  rw [if_neg (by omega)]
theorem letC_succ {k i : Nat} (h : i ≠ k) : letC (k + 1) i = letC k i := by
  unfold letC
  congr 1
  by_cases h2 : i < k
  · rw [if_pos h2, if_pos (by omega)]
  · rw [if_neg h2, if_neg (by omega)]
theorem map_set_range {f f' : Nat → Cel} {w c : Nat} (hc : c < w) (y : Cel) (h1 : f' c = y) (h2 : ∀ i, i < w → i ≠ c → f' i = f i) : ((List.range w).map f).set c y = (List.range w).map f' := by
  apply List.ext_getElem?
  intro i
  rw [List.getElem?_set]
  by_cases hi : i < w
  · by_cases e : c = i
    · subst e
      simp [hi, h1]
    · rw [if_neg e]
      simp [hi, h2 i hi (fun h => e h.symm)]
  · have e : ¬ c = i := by omega
    rw [if_neg e]
    simp [hi]
theorem text_prep {h w k : Nat} (hh : 1 ≤ h) (hw : 1 ≤ w) {s : Sc} (t : TextS h w k s) : TextP h w k (prep s 1) := by
  have hlt := Nat.mod_lt k (show 0 < w by omega)
  by_cases hp : 0 < k ∧ k % w = 0
  · have hpend : s.pend = true := by rw [t.pend]; exact decide_eq_true hp
    have e : prep s 1 = feedS (atS s s.row 0) := by unfold prep; rw [if_pos ⟨t.wrap, .inl hpend⟩]
    obtain ⟨f1, f2⟩ := full_end hw hp.1 hp.2
    have hr := t.row
    have rr : nearI s.row s.g.h = s.row := nearI_id t.ok.row.1 t.ok.row.2
    have r0 : nearI 0 s.g.w = 0 := nearI_id (by omega) (by have := t.ok.g.2.2.1; omega)
    have hf1 : firstN h w (k + 1) = k / w + 1 - h := rfl
    have hf0 : firstN h w k = k / w - h := by unfold firstN; omega
    rw [hf0] at hr
    have hfull : fullN w k = k / w - 1 := by omega
    rw [hfull] at hr
    have oa := atS_ok t.ok s.row 0
    rw [e]
    by_cases hb : s.row = s.bot
    · have hqh : h ≤ k / w := by
        rw [t.bot] at hb
        omega
      have e2 : feedS (atS s s.row 0) = { moveG (atS s s.row 0) s.top s.bot 1 with pend := false } := by
        unfold feedS
        rw [if_pos]
        · rfl
        · show nearI s.row s.g.h = s.bot
          rw [rr, hb]
      have o2 := feedS_ok oa
      rw [e2] at o2 ⊢
      obtain ⟨_, d1, d2⟩ := moveG_dim t.ok t.ok.top.1 t.ok.top.2 t.ok.bot 1 (fillP s)
      have hfill : fillP s = plainP := by unfold fillP; rw [t.p]; rfl
      refine ⟨o2, d1.trans t.gh, d2.trans t.gw, t.top, t.bot, t.wrap, t.sh, t.s0, t.p, ?_, ?_, ?_⟩
      · show nearI s.row s.g.h = _
        rw [rr, hr, hf1]
        congr 1
        omega
      · show nearI 0 s.g.w = _
        rw [r0, hp.2]
        rfl
      · intro r hrh
        show rowL (shG s.g s.top.toNat s.bot.toNat 1 (fillP s)) r = _
        have et : s.top.toNat = 0 := by rw [t.top]; rfl
        have eb : s.bot.toNat = h - 1 := by rw [t.bot]; omega
        rw [et, eb, rowL_shG_in t.ok.g (by have := t.gh; omega) 1 _ (by have := t.gh; omega) (by omega) (by omega), hfill]
        unfold shRow
        by_cases hlast : r + 1 ≤ h - 1
        · rw [if_pos ⟨by omega, by omega⟩]
          have er : ((r : Int) + 1).toNat = r + 1 := by omega
          rw [er, t.cells (r + 1) (by omega)]
          have ea : firstN h w k + (r + 1) = firstN h w (k + 1) + r := by rw [hf0, hf1]; omega
          rw [ea]
        · rw [if_neg (by omega), t.gw]
          apply List.ext_getElem?
          intro i
          by_cases hi : i < w
          · have ea : firstN h w (k + 1) + r = k / w := by rw [hf1]; omega
            simp only [List.getElem?_replicate, hi, if_true, List.getElem?_map, List.getElem?_range hi, Option.map_some]
            rw [ea, letC_blank (by omega)]
          · simp [hi]
    · have hqh : k / w < h := by
        rw [t.bot] at hb
        have := t.ok.row.2
        rw [t.gh] at this
        omega
      have e2 : feedS (atS s s.row 0) = atS (atS s s.row 0) (s.row + 1) 0 := by
        unfold feedS
        rw [if_neg]
        · show atS (atS s s.row 0) (nearI s.row s.g.h + 1) (nearI 0 s.g.w) = _
          rw [rr, r0]
        · show ¬ nearI s.row s.g.h = s.bot
          rw [rr]
          exact hb
      have o2 := feedS_ok oa
      rw [e2] at o2 ⊢
      have hf01 : firstN h w k = firstN h w (k + 1) := by rw [hf0, hf1]; omega
      refine ⟨o2, t.gh, t.gw, t.top, t.bot, t.wrap, t.sh, t.s0, t.p, ?_, ?_, ?_⟩
      · show nearI (s.row + 1) s.g.h = _
        rw [nearI_id (by have := t.ok.row.1; omega) (by rw [t.gh]; omega), hr, hf1]
        omega
      · show nearI 0 s.g.w = _
        rw [r0, hp.2]
        rfl
      · intro r hrh
        show rowL s.g r = _
        rw [t.cells r hrh, hf01]
  · have hpend : s.pend = false := by rw [t.pend]; exact decide_eq_false hp
    have hcol : s.col = ((k % w : Nat) : Int) := by rw [t.col, if_neg hp]
    have hf := full_mid hw hp
    have hf01 : firstN h w k = firstN h w (k + 1) := by unfold firstN; rw [hf, full_succ]
    have gw := t.gw
    have e : prep s 1 = s := by
      unfold prep
      rw [if_neg, if_neg]
      · omega
      · rintro ⟨_, h | h⟩
        · rw [hpend] at h; cases h
        · omega
    rw [e]
    refine ⟨t.ok, t.gh, t.gw, t.top, t.bot, t.wrap, t.sh, t.s0, t.p, ?_, hcol, ?_⟩
    · rw [t.row, hf, hf01]
    · intro r hrh
      rw [t.cells r hrh, hf01]
/-- The letter that is printed as the k-th (from nought). -/
def letX (k : Nat) : Int := 97 + ((k % 26 : Nat) : Int)
theorem letX_b (k : Nat) : 97 ≤ letX k ∧ letX k ≤ 122 := by
  have := Nat.mod_lt k (show 0 < 26 by omega)
  unfold letX
  omega
theorem drawn_letter {s : Sc} (h0 : s.sh = 0) (h1 : s.s0 = 66) (x : Int) : drawnI s x = x := by
  unfold drawnI setOf
  rw [if_pos h0, h1, if_neg]
  intro h
  exact absurd h.1 (by decide)
theorem text_step {h w k : Nat} (hh : 1 ≤ h) (hw : 1 ≤ w) {s : Sc} (t : TextS h w k s) : TextS h w (k + 1) (printS s (letX k)) := by
  have hx := width_letter (letX_b k)
  have hd := drawn_letter t.sh t.s0 (letX k)
  have e : printS s (letX k) = inked (prep s 1) (letX k) := by
    unfold printS
    have h1 := t.ok.g.2.2.1
    rw [hd, hx, if_neg (by omega)]
  have o2 := printS_ok t.ok (letX k)
  rw [e] at o2 ⊢
  have q := text_prep hh hw t
  generalize prep s 1 = S at *
  have hlt := Nat.mod_lt k (show 0 < w by omega)
  have hk := Nat.div_add_mod k w
  have hrow : S.row.toNat = k / w - firstN h w (k + 1) := by rw [q.row]; omega
  have hcol : S.col.toNat = k % w := by rw [q.col]; omega
  have hrg : S.row.toNat < S.g.h := by have := q.ok.row; omega
  have gh := q.gh
  have gw := q.gw
  have hrl := q.cells (S.row.toNat) (by omega)
  have hfl : firstN h w (k + 1) ≤ k / w := by unfold firstN; rw [full_succ]; generalize k / w = Q; omega
  have hfr : firstN h w (k + 1) + S.row.toNat = k / w := by rw [hrow]; exact Nat.add_sub_cancel' hfl
  have hput : putRow (rowL S.g S.row.toNat) S.col.toNat (letX k) 1 S.p = (List.range w).map fun c => letC (k + 1) ((firstN h w (k + 1) + S.row.toNat) * w + c) := by
    unfold putRow
    rw [if_neg (by decide), hrl, q.p, hcol]
    refine map_set_range hlt _ ?_ ?_
    · rw [hfr]
      have ek : k / w * w + k % w = k := by rw [Nat.mul_comm]; exact hk
      rw [ek]
      unfold letC letX
      rw [if_pos (by omega)]
    · intro i hi hne
      rw [hfr]
      refine letC_succ fun ee => hne ?_
      exact (divmod_of hi ee).2.symm
  have hmend : mendL ((List.range w).map fun c => letC (k + 1) ((firstN h w (k + 1) + S.row.toNat) * w + c)) = (List.range w).map fun c => letC (k + 1) ((firstN h w (k + 1) + S.row.toNat) * w + c) := by
    refine mendL_plain fun i x hx => ?_
    rw [List.getElem?_map] at hx
    cases hi : (List.range w)[i]? with
    | none => rw [hi] at hx; cases hx
    | some j => rw [hi] at hx; injection hx with hx; subst hx; rfl
  have hcell : ∀ r, r < h → rowL (putG S.g S.row.toNat S.col.toNat (letX k) S.p) r = (List.range w).map fun c => letC (k + 1) ((firstN h w (k + 1) + r) * w + c) := by
    intro r hrh
    unfold putG
    rw [hx, hput, hmend]
    have hlen : ((List.range w).map fun c => letC (k + 1) ((firstN h w (k + 1) + S.row.toNat) * w + c)).length = S.g.w := by simp [gw]
    by_cases er : r = S.row.toNat
    · subst er
      exact rowL_setRow q.ok.g hrg hlen
    · rw [rowL_setRow_ne q.ok.g hrg (by omega) er _ hlen, q.cells r hrh]
      apply List.map_congr_left
      intro i hi
      rw [List.mem_range] at hi
      refine (letC_succ fun ee => er ?_).symm
      exact Nat.add_left_cancel ((divmod_of hi ee).1.symm.trans hfr.symm)
  have hcw : ∀ n : Nat, n = k % w → (k + 1) % w = if n + 1 = w then 0 else n + 1 := by
    intro n hn
    have ek : k + 1 = w * (k / w) + (n + 1) := by omega
    by_cases h1 : n + 1 = w
    · rw [if_pos h1, ek, h1, Nat.mul_add_mod, Nat.mod_self]
    · rw [if_neg h1, ek, Nat.mul_add_mod, Nat.mod_eq_of_lt (by omega)]
  have hm := hcw _ rfl
  refine ⟨o2, gh, gw, q.top, q.bot, q.wrap, q.sh, q.s0, q.p, ?_, ?_, ?_, hcell⟩
  · show S.row = _
    rw [q.row, full_succ]
  · show mnI (S.col + widthR (letX k)) ((S.g.w : Int) - 1) = _
    rw [hx, q.col, gw, hm]
    unfold mnI
    by_cases h1 : k % w + 1 = w
    · have hz : 0 < k + 1 ∧ (0 : Nat) = 0 := ⟨by omega, rfl⟩
      rw [if_pos h1, if_pos hz]
      split <;> omega
    · rw [if_neg h1, if_neg (by omega)]
      split <;> omega
  · show (decide ((S.g.w : Int) ≤ S.col + widthR (letX k)) && S.wrap) = _
    rw [hx, q.col, gw, hm, q.wrap, Bool.and_true]
    by_cases h1 : k % w + 1 = w
    · rw [if_pos h1, decide_eq_true (by omega : (w : Int) ≤ ((k % w : Nat) : Int) + 1), decide_eq_true ⟨by omega, rfl⟩]
    · rw [if_neg h1, decide_eq_false (by omega : ¬ (w : Int) ≤ ((k % w : Nat) : Int) + 1), decide_eq_false (by omega)]
theorem text_new {h w : Nat} (hh : 1 ≤ h ∧ h ≤ 40) (hw : 1 ≤ w ∧ w ≤ 60) : TextS h w 0 (newS h w) := by
  have o := newS_ok h w hh hw
  have hf : fullN w 0 = 0 := by unfold fullN; simp
  have hf1 : firstN h w 0 = 0 := by unfold firstN; rw [hf]; omega
  refine ⟨o, rfl, rfl, rfl, rfl, rfl, rfl, rfl, rfl, ?_, ?_, rfl, ?_⟩
  · rw [hf]; simp [newS]
  · simp [newS]
  · intro r hr
    have hlen := rowL_len o.g hr
    apply List.ext_getElem?
    intro i
    have hin := row_in o.g hr
    by_cases hi : i < w
    · have e1 : (rowL (newS h w).g r)[i]? = some (blankC plainP) := by
        show ((((newS h w).g.cells).drop (rowOff (newS h w).g r)).take (newS h w).g.w)[i]? = _
        rw [List.getElem?_take_of_lt (show i < (newS h w).g.w from hi), List.getElem?_drop]
        have hl : (newS h w).g.cells = List.replicate (h * w) (blankC plainP) := rfl
        have hgw : (newS h w).g.w = w := rfl
        rw [hgw] at hin
        rw [hl, List.length_replicate] at hin
        rw [hl, List.getElem?_replicate, if_pos (by omega)]
      rw [e1]
      simp [hi, letC_blank]
    · rw [List.getElem?_eq_none (by rw [hlen]; exact Nat.le_of_not_lt hi)]
      simp [hi]
/-- The screen behind k letters, from a new one on. -/
def textN (s : Sc) : Nat → Sc
  | 0 => s
  | k + 1 => printS (textN s k) (letX k)
theorem text_all {h w : Nat} (hh : 1 ≤ h ∧ h ≤ 40) (hw : 1 ≤ w ∧ w ≤ 60) : ∀ k, TextS h w k (textN (newS h w) k)
  | 0 => text_new hh hw
  | k + 1 => text_step hh.1 hw.1 (text_all hh hw k)
/-- Without wrap: the last column has the last letter. -/
structure FlatS (h w k : Nat) (s : Sc) : Prop where
  ok : OkS s
  gh : s.g.h = h
  gw : s.g.w = w
  wrap : s.wrap = false
  sh : s.sh = 0
  s0 : s.s0 = 66
  row : s.row = 0
  col : s.col = ((min k (w - 1) : Nat) : Int)
  cell : 0 < k → ∃ x, (rowL s.g 0)[min k w - 1]? = some x ∧ x.r = letX (k - 1)
  flat : ∀ (i : Nat) (x : Cel), (rowL s.g 0)[i]? = some x → x.k = 0
theorem flat_step {h w k : Nat} (hh : 1 ≤ h) (hw : 1 ≤ w) {s : Sc} (t : FlatS h w k s) : FlatS h w (k + 1) (printS s (letX k)) := by
  have hx := width_letter (letX_b k)
  have hd := drawn_letter t.sh t.s0 (letX k)
  have gh := t.gh
  have gw := t.gw
  have hc := t.col
  have hp : prep s 1 = s := by
    unfold prep
    rw [if_neg, if_neg (by omega)]
    rintro ⟨h, _⟩
    rw [t.wrap] at h
    cases h
  have e : printS s (letX k) = inked s (letX k) := by
    unfold printS
    have h1 := t.ok.g.2.2.1
    rw [hd, hx, if_neg (by omega), hp]
  have o2 := printS_ok t.ok (letX k)
  rw [e] at o2 ⊢
  have hrow : s.row.toNat = 0 := by rw [t.row]; rfl
  have hcol : s.col.toNat = min k (w - 1) := by rw [t.col]; omega
  have hl := rowL_len t.ok.g (r := 0) (by omega)
  have hk0 : ∀ (i : Nat) (x : Cel), ((rowL s.g 0).set (min k (w - 1)) ⟨letX k, 0, s.p⟩)[i]? = some x → x.k = 0 := by
    intro i x hi
    rw [List.getElem?_set] at hi
    split at hi
    · split at hi
      · injection hi with hi; subst hi; rfl
      · cases hi
    · exact t.flat i x hi
  have er : rowL (putG s.g s.row.toNat s.col.toNat (letX k) s.p) 0 = (rowL s.g 0).set (min k (w - 1)) ⟨letX k, 0, s.p⟩ := by
    unfold putG
    rw [hx, hrow, hcol]
    unfold putRow
    rw [if_neg (by decide), mendL_plain hk0]
    exact rowL_setRow t.ok.g (by omega) (by rw [List.length_set, hl])
  refine ⟨o2, gh, gw, t.wrap, t.sh, t.s0, t.row, ?_, ?_, ?_⟩
  · show mnI (s.col + widthR (letX k)) ((s.g.w : Int) - 1) = _
    rw [hx, hc, gw]
    unfold mnI
    split <;> omega
  · intro _
    refine ⟨⟨letX k, 0, s.p⟩, ?_, rfl⟩
    show (rowL (putG s.g s.row.toNat s.col.toNat (letX k) s.p) 0)[min (k + 1) w - 1]? = _
    have em : min (k + 1) w - 1 = min k (w - 1) := by omega
    rw [er, em, List.getElem?_set, if_pos rfl, if_pos (by omega)]
  · intro i x hi
    have hi' : (rowL (putG s.g s.row.toNat s.col.toNat (letX k) s.p) 0)[i]? = some x := hi
    rw [er] at hi'
    exact hk0 i x hi'
theorem flat_new {h w : Nat} (hh : 1 ≤ h ∧ h ≤ 40) (hw : 1 ≤ w ∧ w ≤ 60) : FlatS h w 0 { newS h w with wrap := false } := by
  have o := newS_ok h w hh hw
  have t := text_new hh hw
  have o2 : OkS { newS h w with wrap := false } := ⟨o.g, o.h, o.w, o.row, o.col, o.top, o.bot, o.tabs, o.sh, o.ssh, o.srow, o.scol⟩
  refine ⟨o2, rfl, rfl, rfl, rfl, rfl, rfl, ?_, fun h => by omega, ?_⟩
  · simp [newS]
  · intro i x hx
    have hc : rowL ({ newS h w with wrap := false } : Sc).g 0 = rowL (newS h w).g 0 := rfl
    rw [hc, t.cells 0 (by omega), List.getElem?_map] at hx
    cases hi : (List.range w)[i]? with
    | none => rw [hi] at hx; cases hx
    | some j => rw [hi] at hx; injection hx with hx; subst hx; rfl
theorem flat_all {h w : Nat} (hh : 1 ≤ h ∧ h ≤ 40) (hw : 1 ≤ w ∧ w ≤ 60) : ∀ k, FlatS h w k (textN { newS h w with wrap := false } k)
  | 0 => flat_new hh hw
  | k + 1 => flat_step hh.1 hw.1 (flat_all hh hw k)
end Go.Proofs.YtadipapkdjcnbaaGreat.LgTab
