import Derived.Test.YtadipapkdjcnbaaGreatLgQr
/-
  The source keeps a screen's bounds.
-/
namespace Go.Proofs.YtadipapkdjcnbaaGreat.LgTab
open Go Lg
set_option linter.unusedVariables false
set_option linter.unusedSimpArgs false
set_option maxRecDepth 8000
theorem grid_ok {s : Sc} (o : OkS s) (G : Gd) (h : OkG G) (e1 : G.h = s.g.h) (e2 : G.w = s.g.w) : OkS { s with g := G } :=
  ⟨h, by show G.h ≤ 40; rw [e1]; exact o.h, by show G.w ≤ 60; rw [e2]; exact o.w, by show 0 ≤ s.row ∧ s.row < (G.h : Int); rw [e1]; exact o.row, by show 0 ≤ s.col ∧ s.col < (G.w : Int); rw [e2]; exact o.col, o.top, by show s.bot < (G.h : Int); rw [e1]; exact o.bot, o.tabs, o.sh, o.ssh, by show 0 ≤ s.sv.r ∧ s.sv.r < (G.h : Int); rw [e1]; exact o.srow, by show 0 ≤ s.sv.c ∧ s.sv.c < (G.w : Int); rw [e2]; exact o.scol⟩
theorem row_ok {g : Gd} (o : OkG g) {r : Nat} (hr : r < g.h) (l : List Cel) (hl : l.length = g.w) : OkG (setRow g r l) ∧ (setRow g r l).h = g.h ∧ (setRow g r l).w = g.w := ⟨o.setRow hr l hl, rfl, rfl⟩
theorem desig_ok {s : Sc} (o : OkS s) (a b : Int) : OkS (desigS s a b) := by
  unfold desigS
  repeat' split
  all_goals first | exact o | exact ⟨o.g, o.h, o.w, o.row, o.col, o.top, o.bot, o.tabs, o.sh, o.ssh, o.srow, o.scol⟩
theorem newS_ok (h w : Nat) (h0 : 1 ≤ h ∧ h ≤ 40) (h1 : 1 ≤ w ∧ w ≤ 60) : OkS (newS h w) := by
  refine ⟨newG_ok h w h0 h1 _, h0.2, h1.2, ?_, ?_, ?_, ?_, newTo_lt _, .inl rfl, .inl rfl, ?_, ?_⟩
  · show (0 : Int) ≤ 0 ∧ (0 : Int) < (h : Int); omega
  · show (0 : Int) ≤ 0 ∧ (0 : Int) < (w : Int); omega
  · show (0 : Int) ≤ 0 ∧ (0 : Int) ≤ (h : Int) - 1; omega
  · show (h : Int) - 1 < (h : Int); omega
  · show (0 : Int) ≤ 0 ∧ (0 : Int) < (h : Int); omega
  · show (0 : Int) ≤ 0 ∧ (0 : Int) < (w : Int); omega
theorem tabs_ok {s : Sc} (o : OkS s) {t : Nat} (h : t < 2 ^ 64) : OkS { s with tabs := t } := ⟨o.g, o.h, o.w, o.row, o.col, o.top, o.bot, h, o.sh, o.ssh, o.srow, o.scol⟩
theorem execS_ok {s : Sc} (o : OkS s) (b : Int) : OkS (execS s b) := by
  unfold execS
  repeat' split
  · exact atS_ok o _ _
  · exact atS_ok o _ _
  · exact feedS_ok o
  · exact atS_ok o _ _
  · exact ⟨o.g, o.h, o.w, o.row, o.col, o.top, o.bot, o.tabs, .inr rfl, o.ssh, o.srow, o.scol⟩
  · exact ⟨o.g, o.h, o.w, o.row, o.col, o.top, o.bot, o.tabs, .inl rfl, o.ssh, o.srow, o.scol⟩
  · exact o
theorem escS_ok {s : Sc} (o : OkS s) (e : Ev) : OkS (escS s e) := by
  unfold escS
  repeat' split
  · exact desig_ok o _ _
  · exact saveS_ok o
  · exact restS_ok o
  · exact feedS_ok o
  · exact feedS_ok (atS_ok o _ _)
  · exact backS_ok o
  · exact tabs_ok o (Nat.or_lt_two_pow o.tabs (bitN_lt _))
  · exact newS_ok _ _ ⟨o.g.1, o.h⟩ ⟨o.g.2.2.1, o.w⟩
  · exact ⟨o.g, o.h, o.w, o.row, o.col, o.top, o.bot, o.tabs, o.sh, o.ssh, o.srow, o.scol⟩
  · exact ⟨o.g, o.h, o.w, o.row, o.col, o.top, o.bot, o.tabs, o.sh, o.ssh, o.srow, o.scol⟩
  · exact o
theorem moveS_ok {s : Sc} (o : OkS s) (e : Ev) : OkS (moveS s e) := by
  unfold moveS
  simp only
  repeat' split
  all_goals first | exact atS_ok o _ _ | exact atS_ok (atS_ok o _ _) _ _
theorem rowsS_ok {s : Sc} (o : OkS s) (e : Ev) : OkS (rowsS s e) := by
  unfold rowsS
  simp only
  split
  · exact moveG_ok o o.top.1 o.top.2 o.bot _
  split
  · exact moveG_ok o o.top.1 o.top.2 o.bot _
  split
  · exact o
  rename_i h
  have hb := o.bot
  split
  · exact atS_ok (moveG_ok o o.row.1 (by omega) hb _) _ _
  · exact atS_ok (moveG_ok o o.row.1 (by omega) hb _) _ _
theorem margS_ok {s : Sc} (o : OkS s) (e : Ev) : OkS (margS s e) := by
  unfold margS
  simp only
  split
  · exact o
  · rename_i h
    have hn := from1I_b e.par 0
    have hg := o.g.1
    have hm := argI_b e.par 1 s.g.h 1 s.g.h (by omega)
    exact atS_ok (marg_ok o (by omega) (by omega) (by omega)) _ _
theorem chgG_ok {s : Sc} (o : OkS s) (e : Ev) : OkG (chgG s e) ∧ (chgG s e).h = s.g.h ∧ (chgG s e).w = s.g.w := by
  have hr := o.row
  have hc := o.col
  have hrn : s.row.toNat < s.g.h := by omega
  have hcn : s.col.toNat < s.g.w := by omega
  unfold chgG
  simp only
  split
  · unfold eraseG
    split
    · exact ⟨o.g, rfl, rfl⟩
    · have := erTo_ok o.g hrn s.col.toNat (argI e.par 0 0 0 65535) (fillP s) s.g.h (Nat.le_refl _)
      exact ⟨this.1, this.2.1, this.2.2.1⟩
  split
  · have := lineG_ok o.g hrn s.col.toNat (argI e.par 0 0 0 65535) (fillP s)
    exact ⟨this.1, this.2.1, this.2.2.1⟩
  split
  · refine row_ok o.g hrn _ ?_
    obtain ⟨_, m1, m2⟩ := many_eq s.g s.col.toNat hcn (from1I e.par 0) (from1I_b e.par 0).1
    rw [mendL_len', inRow_len _ _ _ _ (by rw [rowL_len o.g hrn]; exact m2), rowL_len o.g hrn]
  split
  · refine row_ok o.g hrn _ ?_
    obtain ⟨_, m1, m2⟩ := many_eq s.g s.col.toNat hcn (from1I e.par 0) (from1I_b e.par 0).1
    rw [mendL_len', deRow_len _ _ _ _ (by rw [rowL_len o.g hrn]; exact m2), rowL_len o.g hrn]
  split
  · have := wipeG_ok o.g hrn s.col (s.col + from1I e.par 0) (fillP s)
    exact ⟨this.1, this.2.1, this.2.2.1⟩
  · exact ⟨o.g, rfl, rfl⟩
theorem chgS_ok {s : Sc} (o : OkS s) (e : Ev) : OkS (chgS s e) := by
  obtain ⟨a, e1, e2⟩ := chgG_ok o e
  exact pend_ok (grid_ok o _ a e1 e2)
theorem csiS_ok {s : Sc} (o : OkS s) (e : Ev) : OkS (csiS s e) := by
  unfold csiS
  split
  · exact o
  split
  · unfold setS
    split
    · exact setTo_ok o _ _ _
    · exact o
  split
  · exact o
  split
  · exact moveS_ok o e
  split
  · exact chgS_ok o e
  split
  · exact rowsS_ok o e
  split
  · exact ⟨o.g, o.h, o.w, o.row, o.col, o.top, o.bot, o.tabs, o.sh, o.ssh, o.srow, o.scol⟩
  split
  · exact margS_ok o e
  split
  · unfold dropS
    split
    · exact tabs_ok o (dropN_lt o.tabs)
    split
    · exact tabs_ok o (by omega)
    · exact o
  split
  · exact saveS_ok o
  split
  · exact restS_ok o
  · exact o
theorem printS_ok {s : Sc} (o : OkS s) (x : Int) : OkS (printS s x) := by
  unfold printS
  split
  · exact o
  · rename_i h
    have hw := widthR_cases (drawnI s x)
    generalize drawnI s x = y at *
    obtain ⟨po, pw, p0, p1⟩ := prep_ok o (w := widthR y) (by omega) (by omega)
    have hr := po.row
    have hrn : (prep s (widthR y)).row.toNat < (prep s (widthR y)).g.h := by omega
    have hg : OkG (putG (prep s (widthR y)).g (prep s (widthR y)).row.toNat (prep s (widthR y)).col.toNat y (prep s (widthR y)).p) := by
      refine (row_ok po.g hrn _ ?_).1
      rw [mendL_len', putRow_len', rowL_len po.g hrn]
    have o2 := grid_ok po _ hg rfl rfl
    refine ⟨o2.g, o2.h, o2.w, o2.row, ?_, o2.top, o2.bot, o2.tabs, o2.sh, o2.ssh, o2.srow, o2.scol⟩
    show 0 ≤ mnI ((prep s (widthR y)).col + widthR y) (((prep s (widthR y)).g.w : Int) - 1) ∧ mnI ((prep s (widthR y)).col + widthR y) (((prep s (widthR y)).g.w : Int) - 1) < ((prep s (widthR y)).g.w : Int)
    have hw1 := po.g.2.2.1
    unfold mnI
    split <;> omega
theorem doS_ok {s : Sc} (o : OkS s) (e : Ev) : OkS (doS s e) := by
  unfold doS
  split
  · exact printS_ok o _
  split
  · exact execS_ok o _
  split
  · exact escS_ok o e
  split
  · exact csiS_ok o e
  · exact o
end Go.Proofs.YtadipapkdjcnbaaGreat.LgTab
