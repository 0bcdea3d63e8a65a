import Derived.Test.YtflnllohghgpdaaLgX1
import Derived.Lib.Strings
/-
  Operations that touch no memory: addresses, cuts.
-/
namespace Lg
open Go
set_option linter.unusedVariables false
set_option linter.unusedSimpArgs false
set_option linter.unusedSectionVars false

theorem addr_add (b o k : Nat) : (⟨b, o, none⟩ : Addr).add k = ⟨b, o + k, none⟩ := by unfold Addr.add; split <;> simp_all
theorem addr_add_add (a : Addr) (i j : Nat) : (a.add i).add j = a.add (i + j) := by
  unfold Addr.add
  by_cases hi : i = 0
  · subst hi; simp
  · by_cases hj : j = 0
    · subst hj; simp
    · rw [if_neg hi, if_neg hj, if_neg (by omega)]; simp; omega
theorem addr_off (a : Addr) (i : Nat) : (a.add i).off = a.off + i := by unfold Addr.add; split <;> simp_all
theorem flat_cons (d : D) (ds : List D) : flat (d :: ds) = d.cells ++ flat ds := by simp [flat]
theorem flat_len {ds : List D} {sz : Nat} (hu : ∀ d, d ∈ ds → d.cells.length = sz) : (flat ds).length = ds.length * sz := by
  induction ds with
  | nil => simp [flat]
  | cons d ds ih =>
    rw [flat_cons, List.length_append, ih (fun x hx => hu x (by simp [hx])), hu d (by simp), List.length_cons, Nat.add_mul]; omega
theorem flat_drop {ds : List D} {sz : Nat} (hu : ∀ d, d ∈ ds → d.cells.length = sz) (j : Nat) : (flat ds).drop (j * sz) = flat (ds.drop j) := by
  induction ds generalizing j with
  | nil => simp [flat]
  | cons d ds ih =>
    cases j with
    | zero => simp
    | succ j =>
      rw [flat_cons, show (j + 1) * sz = d.cells.length + j * sz by rw [hu d (by simp), Nat.add_mul]; omega, List.drop_append, List.drop_of_length_le (by omega)]
      simp [ih (fun x hx => hu x (by simp [hx]))]
theorem flat_take {ds : List D} {sz : Nat} (hu : ∀ d, d ∈ ds → d.cells.length = sz) (j : Nat) : (flat ds).take (j * sz) = flat (ds.take j) := by
  induction ds generalizing j with
  | nil => simp [flat]
  | cons d ds ih =>
    cases j with
    | zero => simp [flat]
    | succ j =>
      rw [flat_cons, show (j + 1) * sz = d.cells.length + j * sz by rw [hu d (by simp), Nat.add_mul]; omega, List.take_append, List.take_of_length_le (by omega)]
      simp [ih (fun x hx => hu x (by simp [hx])), flat_cons]
theorem flat_get {ds : List D} {sz : Nat} (hu : ∀ d, d ∈ ds → d.cells.length = sz) {j : Nat} {d : D} (h : ds[j]? = some d) : ((flat ds).drop (j * sz)).take sz = d.cells := by
  rw [flat_drop hu]
  have hl : j < ds.length := by
    rcases Nat.lt_or_ge j ds.length with h' | h'
    · exact h'
    · rw [List.getElem?_eq_none h'] at h; cases h
  have : ds.drop j = d :: ds.drop (j + 1) := by
    rw [List.drop_eq_getElem_cons hl]; congr 1
    rw [List.getElem?_eq_getElem hl] at h; injection h
  rw [this, flat_cons, List.take_append, List.take_of_length_le (by rw [hu d (List.mem_of_getElem? h)]; omega), hu d (List.mem_of_getElem? h)]
  simp
theorem drop_get {α : Type} (l : List α) (i k : Nat) : (l.drop i)[k]? = l[i + k]? := by rw [List.getElem?_drop]
theorem take_get {α : Type} {l : List α} {n k : Nat} {v : α} (h : (l.take n)[k]? = some v) : l[k]? = some v := by
  rw [List.getElem?_take] at h
  split at h
  · exact h
  · cases h

section
variable {P : Program} {num : FuncId → Option Nat} {fid : Nat → FuncId} (hnum : ∀ f g, num f = some g → fid g = f)
  {w : World} {A : Av} {ι : Io} {a : Act} {E : Env} {own : Nat → List Nat} (hl : ∀ t, LV fid w A ι true (a.tmps.getD t undef) (lk E t) (own t)) {o : Oper} {d : D}
/-- A pointer further on. -/
theorem LV.ep_drop {ad : Addr} {ds : List D} {vs : List Value} (h : LVs fid w A ι false vs ds []) (h1 : ∀ v, v ∈ vs → v.oneCell' = true)
    (hr : ∀ (k : Nat) (v : Value), vs[k]? = some v → ¬ A ad.block (ad.off + k) ∧ w.cell? (ad.add k) = some v) (n : Nat) : LV fid w A ι true (.pointer (some (ad.add n))) (.ep (ds.drop n)) [] := by
  refine .ep _ _ (vs.drop n) (h.drop n) (fun v hv => h1 v (List.mem_of_mem_drop hv)) fun k v hk => ?_
  rw [drop_get] at hk
  have := hr (n + k) v hk
  rw [add_block, addr_off, addr_add_add]
  exact ⟨by rw [Nat.add_assoc]; exact this.1, this.2⟩
theorem LV.ep_take {ad : Addr} {ds : List D} {vs : List Value} (h : LVs fid w A ι false vs ds []) (h1 : ∀ v, v ∈ vs → v.oneCell' = true)
    (hr : ∀ (k : Nat) (v : Value), vs[k]? = some v → ¬ A ad.block (ad.off + k) ∧ w.cell? (ad.add k) = some v) (n : Nat) : LV fid w A ι true (.pointer (some ad)) (.ep (ds.take n)) [] :=
  .ep _ _ (vs.take n) (h.take n) (fun v hv => h1 v (List.mem_of_mem_take hv)) fun k v hk => hr k v (take_get hk)
include hnum hl
theorem x_nilc {x : Operand} (ho : o.op = .nilCheck x) (hx : okOpd x = true) (h : (∃ id sz e off, ov E (opd num x) = .pt id sz e off) ∨ ∃ ds, ov E (opd num x) = .ep ds) : Pure1 P fid w A ι a o (ov E (opd num x)) := by
  have kx := lv_opd hnum hl x hx
  rcases h with ⟨id, sz, e, off, h⟩ | ⟨ds, h⟩
  · rw [h] at kx ⊢
    obtain ⟨b, hi, e1, e2, _⟩ := kx.inv_pt
    rw [e2] at kx
    refine ⟨_, ?_, kx⟩
    simp [execOp, ho, e1]
  · rw [h] at kx ⊢
    obtain ⟨ad, vs, e1, e2, _⟩ := kx.inv_ep
    rw [e2] at kx
    refine ⟨_, ?_, kx⟩
    simp [execOp, ho, e1]
omit hnum hl in
theorem run_equal_ptr_nil {t e : TypeId} (ht : P.underlying t = some (.pointer e)) (p : Option Addr) : (Op.equal t (.pointer p) (.pointer none)).run P w = .ok p.isNone w := by
  have : ∀ n, (Op.equalIn (n + 1) t (.pointer p) (.pointer none)).run P w = .ok p.isNone w := by
    intro n
    cases p <;> simp only [Op.equalIn, Sem.run_bind, run_underlying ht, Result.andThen_ok, Sem.run_pure, Option.isNone]
  exact this 9999
theorem x_eqn {neg : Bool} {t e t' : TypeId} {x y : Operand} (ho : o.op = .binOp (if neg then .neq else .eql) t x y t') (hy : y = .const (.pointer none)) (ht : P.underlying t = some (.pointer e)) (hx : okOpd x = true)
    {b : Bool} (h : (ov E (opd num x) = .nl ∧ b = !neg) ∨ ((∃ id sz e off, ov E (opd num x) = .pt id sz e off) ∧ b = neg)) : Pure1 P fid w A ι a o (.sc (.bool b)) := by
  have kx := lv_opd hnum hl x hx
  refine ⟨.bool b, ?_, .sc _ rfl⟩
  simp only [execOp, ho]
  subst hy
  refine run_v ?_
  have hp : ∃ p, a.eval x = .pointer p ∧ (p.isNone != neg) = b := by
    rcases h with ⟨h, rfl⟩ | ⟨⟨id, sz, e, off, h⟩, rfl⟩
    · rw [h] at kx; exact ⟨none, kx.inv_nl.1, by cases neg <;> rfl⟩
    · rw [h] at kx; obtain ⟨b', hi, e1, _⟩ := kx.inv_pt; exact ⟨_, e1, by cases b <;> rfl⟩
  obtain ⟨p, hp, hb⟩ := hp
  rw [hp, Sem.run_bind, run_guard_plain _ t _ _ _ _ ⟨by simp, by simp⟩]
  simp only [Result.andThen_ok, Act.eval]
  cases neg
  · simp only [Bool.false_eq_true, if_false, binOp, Sem.run_bind, run_equal_ptr_nil ht, Result.andThen_ok, Sem.run_pure]
    rw [← hb]; cases p <;> rfl
  · simp only [if_true, binOp, Sem.run_bind, run_equal_ptr_nil ht, Result.andThen_ok, Sem.run_pure]
    rw [← hb]; cases p <;> rfl
theorem x_fad {t : TypeId} {x : Operand} {i n : Nat} {fs : Array Field} {f : Field} (ho : o.op = .fieldAddr t x i) (ht : P.underlying t = some (.struct fs)) (hf : fs[i]? = some f) (hs : sizeT P f.type = some n) (hn : n ≠ 0) (hx : okOpd x = true)
    (h : (∃ ds, ov E (opd num x) = .ep ds ∧ d = .ep (ds.drop f.offset)) ∨ ∃ id sz e off, ov E (opd num x) = .pt id sz e off ∧ d = .pt id sz e (off + f.offset)) : Pure1 P fid w A ι a o d := by
  have kx := lv_opd hnum hl x hx
  obtain ⟨ti, hti, hsz⟩ := Option.map_eq_some_iff.1 hs
  have key : ∀ ad, a.eval x = .pointer (some ad) → (execOp a.eval o).run P w = .ok (.value (.pointer (some (ad.add f.offset)))) w := by
    intro ad e
    simp only [execOp, ho]
    refine run_v ?_
    rw [e]
    simp [Instr.fieldAt, run_underlying ht, Sem.run_bind, hf, Instr.sureAddr, fieldPlace, Go.sizeOf, typeInfo, hti, hsz, hn]
  rcases h with ⟨ds, h, rfl⟩ | ⟨id, sz, e, off, h, rfl⟩
  · rw [h] at kx
    obtain ⟨ad, vs, e1, e2, h2, h3, h4⟩ := kx.inv_ep
    exact ⟨_, key ad e1, LV.ep_drop h2.weak h3 h4 _⟩
  · rw [h] at kx
    obtain ⟨b, hi, e1, e2, _⟩ := kx.inv_pt
    refine ⟨_, key _ e1, ?_⟩
    rw [addr_add, Nat.add_assoc]
    exact .pt id sz e (off + f.offset) b hi
omit hnum hl in
theorem natOf_inv {r : Bool} {v : Value} {O : List Nat} {d : D} {j : Nat} (h : LV fid w A ι r v d O) (hj : natOf d = some j) : ∃ k, v = .int k (j : Int) := by
  unfold natOf at hj
  split at hj
  · rename_i k n
    split at hj
    · rename_i hn
      injection hj with hj
      refine ⟨k, ?_⟩
      rw [h.inv_int.1]; congr 1; omega
    · cases hj
  · cases hj
theorem x_ixs {t e : TypeId} {x i : Operand} {sz j : Nat} (ho : o.op = .indexAddr t x i) (ht : P.underlying t = some (.slice e)) (hs : sizeT P e = some sz) (hsz0 : 0 < sz) (hx : okOpd x = true) (hi : okOpd i = true) (hj : natOf (ov E (opd num i)) = some j)
    (h : (∃ ds d0, ov E (opd num x) = .sl sz ds ∧ ds[j]? = some d0 ∧ d = .ep d0.cells) ∨ ∃ id off len, ov E (opd num x) = .rf id sz off len ∧ j < len ∧ d = .pt id sz (off + j) 0) : Pure1 P fid w A ι a o d := by
  have kx := lv_opd hnum hl x hx
  obtain ⟨k, hk⟩ := natOf_inv (lv_opd hnum hl i hi) hj
  obtain ⟨ti, hti, hsz⟩ := Option.map_eq_some_iff.1 hs
  have key : ∀ ad n c, a.eval x = .slice (some ad) n c → j < n → (execOp a.eval o).run P w = .ok (.value (.pointer (some (ad.add (j * sz))))) w := by
    intro ad n c e1 hlt
    simp only [execOp, ho]
    refine run_v ?_
    rw [e1, hk]
    have : (j : Int) < (n : Int) := by omega
    simp [Instr.indexAt, run_underlying ht, Sem.run_bind, asIntOf, Go.sizeOf, typeInfo, hti, hsz, this]
    intro hge; omega
  rcases h with ⟨ds, d0, h, hd, rfl⟩ | ⟨id, off, len, h, hlt, rfl⟩
  · rw [h] at kx
    obtain ⟨ad, cap, vs, e1, e2, hc, hu, h2, h3, h4⟩ := kx.inv_sl
    have hlt : j < ds.length := by
      rcases Nat.lt_or_ge j ds.length with h' | h'
      · exact h'
      · rw [List.getElem?_eq_none h'] at hd; cases hd
    have hg := flat_get hu hd
    have hm : LVs fid w A ι false ((vs.drop (j * sz)).take sz) d0.cells [] := by
      have := (h2.drop (j * sz)).take sz
      rw [hg] at this
      exact this.weak
    have hlen : vs.length = ds.length * sz := by rw [h2.length_eq, flat_len hu]
    have hin : j * sz < vs.length := by rw [hlen]; exact (Nat.mul_lt_mul_right hsz0).2 hlt
    obtain ⟨ad', rfl, _, _⟩ := h4 (j * sz) _ (List.getElem?_eq_getElem hin)
    refine ⟨_, key ad' _ _ e1 hlt, .ep _ _ _ hm (fun v hv => h3 v (List.mem_of_mem_drop (List.mem_of_mem_take hv))) fun k v hk => ?_⟩
    have hk' := take_get hk
    rw [drop_get] at hk'
    obtain ⟨ad2, e3, h5, h6⟩ := h4 _ v hk'
    injection e3 with e3
    subst e3
    rw [add_block, addr_off, addr_add_add]
    exact ⟨by rw [Nat.add_assoc]; exact h5, h6⟩
  · rw [h] at kx
    obtain ⟨ad, cap, q, e1, e2, _, hi, h0, h1⟩ := kx.inv_rf
    cases q with
    | none => have := h0 rfl; omega
    | some b =>
      obtain ⟨h2, h3, _⟩ := h1 b rfl
      rcases h2 with rfl | h2
      · refine ⟨_, key _ _ _ e1 hlt, ?_⟩
        rw [addr_add, ← Nat.add_mul]
        exact .pt id sz (off + j) 0 b hi
      · omega
theorem x_ixa {t e : TypeId} {x i : Operand} {len sz j : Nat} (ho : o.op = .indexAddr t x i) (ht : P.underlying t = some (.array len e)) (hs : sizeT P e = some sz) (hx : okOpd x = true) (hi : okOpd i = true) (hj : natOf (ov E (opd num i)) = some j) (hlt : j < len)
    (h : (∃ ds, ov E (opd num x) = .ep ds ∧ d = .ep (ds.drop (j * sz))) ∨ ∃ id s e off, ov E (opd num x) = .pt id s e off ∧ d = .pt id s e (off + j * sz)) : Pure1 P fid w A ι a o d := by
  have kx := lv_opd hnum hl x hx
  obtain ⟨k, hk⟩ := natOf_inv (lv_opd hnum hl i hi) hj
  obtain ⟨ti, hti, hsz⟩ := Option.map_eq_some_iff.1 hs
  have key : ∀ ad, a.eval x = .pointer (some ad) → (execOp a.eval o).run P w = .ok (.value (.pointer (some (ad.add (j * sz))))) w := by
    intro ad e1
    simp only [execOp, ho]
    refine run_v ?_
    rw [e1, hk]
    have : (j : Int) < (len : Int) := by omega
    simp [Instr.indexAt, run_underlying ht, Sem.run_bind, asIntOf, Go.sizeOf, typeInfo, hti, hsz, this, Instr.sureAddr]
    intro hge; omega
  rcases h with ⟨ds, h, rfl⟩ | ⟨id, s, e', off, h, rfl⟩
  · rw [h] at kx
    obtain ⟨ad, vs, e1, e2, h2, h3, h4⟩ := kx.inv_ep
    exact ⟨_, key ad e1, LV.ep_drop h2.weak h3 h4 _⟩
  · rw [h] at kx
    obtain ⟨b, hi, e1, e2, _⟩ := kx.inv_pt
    refine ⟨_, key _ e1, ?_⟩
    rw [addr_add, Nat.add_assoc]
    exact .pt id s e' (off + j * sz) b hi
omit hnum hl in
/-- Bounds as Go asks them. -/
theorem bnds_run {lo hi : Option Operand} {n c l h : Nat} {isS : Bool} (hn : n ≤ c) (hlv : ∀ x, LV fid w A ι true (a.eval x) (ov E (opd num x)) (ownX own x) ∨ okOpd x = false)
    (ho : ∀ x, lo = some x → okOpd x = true) (hh : ∀ x, hi = some x → okOpd x = true)
    (hb : bnds n (lo.map fun x => ov E (opd num x)) (hi.map fun x => ov E (opd num x)) = some (l, h)) :
    (Instr.sliceBounds isS n c (lo.map a.eval) (hi.map a.eval) none).run P w = .ok (l, h, c) w ∧ l ≤ h ∧ h ≤ n := by
  have one : ∀ x j, okOpd x = true → natOf (ov E (opd num x)) = some j → ∃ k, a.eval x = .int k (j : Int) := by
    intro x j h1 h2
    rcases hlv x with h3 | h3
    · exact natOf_inv h3 h2
    · rw [h1] at h3; cases h3
  unfold bnds at hb
  split at hb
  · rename_i h' l' e1 e2
    split at hb
    · rename_i hle
      simp only [Option.some.injEq, Prod.mk.injEq] at hb
      obtain ⟨rfl, rfl⟩ := hb
      refine ⟨?_, hle.1, hle.2⟩
      have hH : (match (hi.map a.eval : Option Value) with | some v => Instr.sliceBound v c (if isS then .sliceAcap else .sliceAlen) | none => pure n : Sem Nat).run P w = .ok h' w := by
        cases hi with
        | none => simp at e1; subst e1; rfl
        | some x =>
          simp at e1
          obtain ⟨k, hk⟩ := one x h' (hh x rfl) e1
          have : (h' : Int) ≤ (c : Int) := by omega
          simp [hk, Instr.sliceBound, asIntOf, Sem.run_bind, this]
      have hL : (match (lo.map a.eval : Option Value) with | some v => Instr.sliceBound v h' .sliceB | none => pure 0 : Sem Nat).run P w = .ok l' w := by
        cases lo with
        | none => simp at e2; subst e2; rfl
        | some x =>
          simp at e2
          obtain ⟨k, hk⟩ := one x l' (ho x rfl) e2
          have : (l' : Int) ≤ (h' : Int) := by omega
          simp [hk, Instr.sliceBound, asIntOf, Sem.run_bind, this]
      unfold Instr.sliceBounds
      cases hi with
      | none =>
        cases lo with
        | none => simp at hH hL ⊢; simp [Sem.run_bind, hH, hL]
        | some y => simp at hH hL ⊢; simp [Sem.run_bind, hH, hL]
      | some x =>
        cases lo with
        | none => simp at hH hL ⊢; simp [Sem.run_bind, hH, hL]
        | some y => simp at hH hL ⊢; simp [Sem.run_bind, hH, hL]
    · cases hb
  · cases hb
omit hnum hl in
theorem extract_str (s : ByteArray) (l h : Nat) : s.extract l h = ⟨⟨(s.data.toList.drop l).take (h - l)⟩⟩ := by
  apply ByteArray.ext
  apply Array.ext'
  simp [List.extract_eq_take_drop]
theorem x_sls {t : TypeId} {x : Operand} {lo hi : Option Operand} {str : ByteArray} {l h : Nat} (ho : o.op = .slice t x lo hi none) (ht : P.underlying t = some .string) (hx : okOpd x = true) (hlo : ∀ x, lo = some x → okOpd x = true) (hhi : ∀ x, hi = some x → okOpd x = true)
    (h1 : ov E (opd num x) = .sc (.string str)) (hb : bnds str.data.toList.length (lo.map fun x => ov E (opd num x)) (hi.map fun x => ov E (opd num x)) = some (l, h)) :
    Pure1 P fid w A ι a o (.sc (.string ⟨⟨(str.data.toList.drop l).take (h - l)⟩⟩)) := by
  have kx := lv_opd hnum hl x hx
  rw [h1] at kx
  have hlv : ∀ x, LV fid w A ι true (a.eval x) (ov E (opd num x)) (ownX own x) ∨ okOpd x = false := by
    intro x; by_cases h : okOpd x = true
    · exact .inl (lv_opd hnum hl x h)
    · exact .inr (by simpa using h)
  have hsz : str.data.toList.length = str.size := by simp
  rw [hsz] at hb
  have hr := bnds_run (P := P) (isS := false) (Nat.le_refl str.size) hlv hlo hhi hb
  refine ⟨_, ?_, .sc _ rfl⟩
  simp only [execOp, ho]
  refine run_v ?_
  rw [kx.inv_str.1]
  simp only [Instr.sliceAt, Sem.run_bind, run_underlying ht, Result.andThen_ok, Instr.slice, Option.map_none, Option.isSome_none, Bool.false_eq_true, if_false, Sem.run_pure, hr.1, extract_str]
theorem x_slz {t e : TypeId} {x : Operand} {lo hi mx : Option Operand} {n : Nat} {sz : Nat} (ho : o.op = .slice t x lo hi mx) (hz : (lo.isNone || isZero lo) = true ∧ isZero hi = true ∧ isZero mx = true) (ht : P.underlying t = some (.slice e)) (hs : sizeT P e = some sz) (hx : okOpd x = true)
    (h1 : isStr (ov E (opd num x)) = false) (h2 : lenD (ov E (opd num x)) = some n) : Pure1 P fid w A ι a o .sn := by
  have kx := lv_opd hnum hl x hx
  obtain ⟨ti, hti, hsz⟩ := Option.map_eq_some_iff.1 hs
  have z : ∀ y : Option Operand, isZero y = true → ∃ k, y = some (.const (.int k 0)) := by
    intro y hy
    unfold isZero at hy
    split at hy
    · exact ⟨_, rfl⟩
    · cases hy
  have hlo : lo = none ∨ ∃ k, lo = some (.const (.int k 0)) := by
    cases lo with
    | none => exact .inl rfl
    | some y => exact .inr (z (some y) (by simpa using hz.1))
  obtain ⟨k2, rfl⟩ := z hi hz.2.1
  obtain ⟨k3, rfl⟩ := z mx hz.2.2
  rcases kx.inv_len h2 with ⟨ad, cap, e1⟩ | ⟨s, e1, _⟩
  · refine ⟨.slice ad 0 0, ?_, .sn ad⟩
    simp only [execOp, ho]
    refine run_v ?_
    rw [e1]
    rcases hlo with rfl | ⟨k1, rfl⟩ <;> simp [Instr.sliceAt, Instr.slice, Instr.sliceBounds, Instr.sliceBound, Sem.run_bind, run_underlying ht, Act.eval, asIntOf, Go.sizeOf, typeInfo, hti]
  · exfalso
    generalize ov E (opd num x) = dx at kx h1 h2
    generalize ownX own x = Ox at kx
    rw [e1] at kx
    cases dx <;> simp [lenD] at h2 <;> cases kx
    simp [isStr] at h1
theorem x_slc {t e : TypeId} {x : Operand} {lo hi : Option Operand} {sz : Nat} (ho : o.op = .slice t x lo hi none) (ht : P.underlying t = some (.slice e)) (hs : sizeT P e = some sz) (hsz0 : 0 < sz) (hx : okOpd x = true)
    (hlo : ∀ x, lo = some x → okOpd x = true) (hhi : ∀ x, hi = some x → okOpd x = true)
    (h : slcD sz (lo.map fun x => ov E (opd num x)) (hi.map fun x => ov E (opd num x)) (ov E (opd num x)) = some d) : Pure1 P fid w A ι a o d := by
  have kx := lv_opd hnum hl x hx
  obtain ⟨ti, hti, hsz⟩ := Option.map_eq_some_iff.1 hs
  have hlv : ∀ x, LV fid w A ι true (a.eval x) (ov E (opd num x)) (ownX own x) ∨ okOpd x = false := by
    intro x; by_cases h : okOpd x = true
    · exact .inl (lv_opd hnum hl x h)
    · exact .inr (by simpa using h)
  have key : ∀ ad n c l h, a.eval x = .slice ad n c → n ≤ c → bnds n (lo.map fun x => ov E (opd num x)) (hi.map fun x => ov E (opd num x)) = some (l, h) →
      (execOp a.eval o).run P w = .ok (.value (.slice (if c = l then ad else ad.map (·.add (l * sz))) (h - l) (c - l))) w ∧ l ≤ h ∧ h ≤ n := by
    intro ad n c l h e1 hle hb
    have hr := bnds_run (P := P) (isS := true) hle hlv hlo hhi hb
    refine ⟨?_, hr.2⟩
    simp only [execOp, ho]
    refine run_v ?_
    rw [e1]
    simp only [Instr.sliceAt, Sem.run_bind, run_underlying ht, Result.andThen_ok, Instr.slice, Option.map_none, hr.1]
    simp [Go.sizeOf, typeInfo, hti, hsz, Sem.run_bind]
  unfold slcD at h
  split at h
  · rename_i sz' ds hd
    split at h
    · rename_i es; subst es
      obtain ⟨p, hp, rfl⟩ := Option.map_eq_some_iff.1 h
      obtain ⟨l, hh⟩ := p
      rw [hd] at kx
      obtain ⟨ad, cap, vs, e1, e2, hc, hu, h2, h3, h4⟩ := kx.inv_sl
      obtain ⟨hr, hl1, hl2⟩ := key ad ds.length cap l hh e1 hc hp
      refine ⟨_, hr, ?_⟩
      have hlen : vs.length = ds.length * sz' := by rw [h2.length_eq, flat_len hu]
      have hu' : ∀ d, d ∈ (ds.drop l).take (hh - l) → d.cells.length = sz' := fun d hd => hu d (List.mem_of_mem_drop (List.mem_of_mem_take hd))
      have hm : LVs fid w A ι false ((vs.drop (l * sz')).take ((hh - l) * sz')) (flat ((ds.drop l).take (hh - l))) [] := by
        have := (h2.drop (l * sz')).take ((hh - l) * sz')
        rw [flat_drop hu, flat_take (fun d hd => hu d (List.mem_of_mem_drop hd))] at this
        exact this.weak
      refine .sl _ _ _ sz' _ _ ?_ (by omega) hu' hm (fun v hv => h3 v (List.mem_of_mem_drop (List.mem_of_mem_take hv))) ?_
      · rw [List.length_take, List.length_drop]; omega
      · intro k v hk
        have hk' := take_get hk
        rw [drop_get] at hk'
        obtain ⟨ad2, e3, h5, h6⟩ := h4 _ v hk'
        subst e3
        split
        · exfalso
          rename_i hcl
          have hkl : k < (hh - l) * sz' := by
            rw [List.getElem?_take] at hk
            split at hk
            · assumption
            · cases hk
          have : hh - l = 0 := by omega
          rw [this] at hkl; omega
        · refine ⟨ad2.add (l * sz'), rfl, ?_⟩
          rw [add_block, addr_off, addr_add_add]
          exact ⟨by rw [Nat.add_assoc]; exact h5, h6⟩
    · cases h
  · rename_i hd
    obtain ⟨p, hp, rfl⟩ := Option.map_eq_some_iff.1 h
    obtain ⟨l, hh⟩ := p
    rw [hd] at kx
    obtain ⟨ad, e1, e2⟩ := kx.inv_sn
    obtain ⟨hr, hl1, hl2⟩ := key ad 0 0 l hh e1 (Nat.le_refl _) hp
    refine ⟨_, hr, ?_⟩
    have h0 : hh = 0 := by omega
    have h1 : l = 0 := by omega
    subst h0; subst h1
    exact .sn _
  · rename_i id sz' off len hd
    split at h
    · rename_i es; subst es
      obtain ⟨p, hp, rfl⟩ := Option.map_eq_some_iff.1 h
      obtain ⟨l, hh⟩ := p
      rw [hd] at kx
      obtain ⟨ad, cap, q, e1, e2, _, hi', h0, h1⟩ := kx.inv_rf
      have hlc : len ≤ cap := by
        cases q with
        | none => have := h0 rfl; omega
        | some b => exact (h1 b rfl).2.1
      obtain ⟨hr, hl1, hl2⟩ := key ad len cap l hh e1 hlc hp
      refine ⟨_, hr, .rf _ id sz' (off + l) (hh - l) (cap - l) q hi' ?_ ?_⟩
      · intro e; have := h0 e; omega
      · intro b e
        obtain ⟨h2, h3, cs, T, fr, hb, hs'⟩ := h1 b e
        refine ⟨?_, by omega, cs, T, fr, hb, ?_⟩
        · by_cases hcl : cap = l
          · exact .inr (by omega)
          · rw [if_neg hcl]
            rcases h2 with rfl | h2
            · left; simp only [Option.map_some]; rw [addr_add, Nat.add_mul]
            · omega
        · rw [show off + l + (cap - l) = off + cap by omega]; exact hs'
    · cases h
  · cases h
omit hnum hl in
theorem run_isAgg {t : TypeId} {ag : Bool} (h : aggT P t = some ag) : (isAgg t).run P w = .ok ag w := by
  obtain ⟨d, hd, rfl⟩ := Option.map_eq_some_iff.1 h
  simp only [isAgg, Sem.run_bind, run_underlying hd, Result.andThen_ok]
  cases d <;> rfl
omit hnum hl in
theorem run_sizeT {t : TypeId} {n : Nat} (h : sizeT P t = some n) : (Go.sizeOf t).run P w = .ok n w := by
  obtain ⟨ti, hti, hsz⟩ := Option.map_eq_some_iff.1 h
  simp [Go.sizeOf, typeInfo, hti, hsz, Sem.run_bind]
omit hnum hl in
/-- A part of a value's cells. -/
theorem run_part {t : TypeId} {ag : Bool} {n off : Nat} {vs : List Value} {ds : List D} {r : Bool} (h1 : aggT P t = some ag) (h2 : sizeT P t = some n) (hv : LVs fid w A ι r vs ds []) (h : part ag n (ds.drop off) = some d) :
    ∃ v, (Go.part t ⟨vs⟩ off).run P w = .ok v w ∧ LV fid w A ι r v d [] := by
  unfold Go.part
  simp only [Sem.run_bind, run_isAgg h1, Result.andThen_ok]
  unfold part at h
  cases ag with
  | true =>
    simp only [if_true] at h ⊢
    split at h
    · injection h with h; subst h
      refine ⟨.agg ⟨(vs.drop off).take n⟩, ?_, .agg _ _ [] ((hv.drop off).take n)⟩
      simp only [Sem.run_bind, run_sizeT h2, Result.andThen_ok, Sem.run_pure]
      congr 2
      apply Array.ext'
      simp [List.extract_eq_take_drop]
    · cases h
  | false =>
    simp only [Bool.false_eq_true, if_false] at h ⊢
    split at h
    · rename_i c cs hc
      injection h with h; subst h
      have : ds[off]? = some c := by
        have := drop_get ds off 0
        rw [hc] at this; simpa using this.symm
      obtain ⟨v, hv1, hv2⟩ := hv.get this
      refine ⟨v, ?_, hv2⟩
      have : (⟨vs⟩ : Array Value)[off]? = some v := by simpa using hv1
      rw [this]; rfl
    · cases h
theorem x_fld {t : TypeId} {x : Operand} {i n : Nat} {ag : Bool} {fs : Array Field} {f : Field} {ds : List D} (ho : o.op = .field t x i) (ht : P.underlying t = some (.struct fs)) (hf : fs[i]? = some f) (hs : sizeT P f.type = some n) (ha : aggT P f.type = some ag)
    (hx : okOpd x = true) (h : ov E (opd num x) = .agg ds) (hn : noTrees ds = true) (hp : part ag n (ds.drop f.offset) = some d) : Pure1 P fid w A ι a o d := by
  have kx := lv_opd hnum hl x hx
  rw [h] at kx
  obtain ⟨vs, e1, hv⟩ := kx.inv_agg
  rw [hv.noTree hn] at hv
  obtain ⟨v, hr, hlv⟩ := run_part ha hs hv hp
  refine ⟨v, ?_, hlv⟩
  simp only [execOp, ho]
  refine run_v ?_
  rw [e1]
  simp only [Instr.field, Sem.run_bind, run_underlying ht, Result.andThen_ok, hf, asAgg, Sem.run_pure, hr]
theorem x_ixg {t e : TypeId} {x i : Operand} {len n j : Nat} {ag : Bool} {ds : List D} (ho : o.op = .index t x i) (ht : P.underlying t = some (.array len e)) (hs : sizeT P e = some n) (ha : aggT P e = some ag)
    (hx : okOpd x = true) (hi : okOpd i = true) (hj : natOf (ov E (opd num i)) = some j) (hlt : j < len) (h : ov E (opd num x) = .agg ds) (hn : noTrees ds = true) (hp : part ag n (ds.drop (j * n)) = some d) : Pure1 P fid w A ι a o d := by
  have kx := lv_opd hnum hl x hx
  obtain ⟨k, hk⟩ := natOf_inv (lv_opd hnum hl i hi) hj
  rw [h] at kx
  obtain ⟨vs, e1, hv⟩ := kx.inv_agg
  rw [hv.noTree hn] at hv
  obtain ⟨v, hr, hlv⟩ := run_part ha hs hv hp
  refine ⟨v, ?_, hlv⟩
  simp only [execOp, ho]
  refine run_v ?_
  rw [e1, hk]
  have h0 : (0 : Int) ≤ (j : Int) ∧ (j : Int) < (len : Int) := by omega
  simp only [Instr.index, asIntOf, Sem.run_bind, Sem.run_pure, Result.andThen_ok, run_underlying ht, if_pos h0, Int.toNat_natCast, run_sizeT hs, hr]
theorem x_ixt {t : TypeId} {x i : Operand} {j : Nat} {s : ByteArray} {b : UInt8} (ho : o.op = .index t x i) (ht : P.underlying t = some .string) (hx : okOpd x = true) (hi : okOpd i = true) (hj : natOf (ov E (opd num i)) = some j)
    (h : ov E (opd num x) = .sc (.string s)) (hb : s.data.toList[j]? = some b) : Pure1 P fid w A ι a o (.sc (.int .u8 b.toNat)) := by
  have kx := lv_opd hnum hl x hx
  obtain ⟨k, hk⟩ := natOf_inv (lv_opd hnum hl i hi) hj
  rw [h] at kx
  refine ⟨_, ?_, .sc _ rfl⟩
  simp only [execOp, ho]
  refine run_v ?_
  rw [kx.inv_str.1, hk]
  have hg : s[j]? = some b := by
    have hlt : j < s.size := by
      rcases Nat.lt_or_ge j s.data.toList.length with h' | h'
      · simpa using h'
      · rw [List.getElem?_eq_none h'] at hb; cases hb
    have : s.data.toList[j]? = some (s[j]'hlt) := by
      rw [List.getElem?_eq_getElem (by simpa using hlt)]; simp; rfl
    rw [this] at hb
    rw [getElem?_pos s j hlt]; exact hb
  simp only [Instr.index, asIntOf, Sem.run_bind, Sem.run_pure, Result.andThen_ok, run_underlying ht]
  have h0 : (0 : Int) ≤ (j : Int) := by omega
  simp only [if_pos h0, Int.toNat_natCast, hg, Sem.run_pure]
theorem x_opds {xs : List Operand} (h : ∀ x, x ∈ xs → okOpd x = true) (hn : noTrees (xs.map fun x => ov E (opd num x)) = true) : LVs fid w A ι true (xs.map a.eval) (xs.map fun x => ov E (opd num x)) [] := by
  induction xs with
  | nil => exact .nil
  | cons x xs ih =>
    simp only [List.map_cons, noTrees, Bool.and_eq_true] at hn
    have kx := lv_opd hnum hl x (h x (by simp))
    rw [kx.noTree hn.1] at kx
    exact LVs.cons' kx (ih (fun y hy => h y (by simp [hy])) hn.2)
theorem x_mkf {f g : Nat} {caps : Array Operand} (ho : o.op = .makeFunc (.func f) #[] caps) (hg : num f = some g) (hc : ∀ x, x ∈ caps.toList → okOpd x = true) (hn : noTrees (caps.toList.map fun x => ov E (opd num x)) = true) :
    Pure1 P fid w A ι a o (.fn g (caps.toList.map fun x => ov E (opd num x))) := by
  have hv := x_opds hnum hl hc hn
  have := hnum f g hg
  subst this
  refine ⟨_, ?_, .fn g _ _ [] hv⟩
  simp only [execOp, ho]
  refine run_v ?_
  have hm : caps.map a.eval = ⟨caps.toList.map a.eval⟩ := by apply Array.ext'; simp
  simp [Instr.makeFunc, hm]
theorem x_mx {ts : Array TypeId} {x y : Operand} (ho : o.op = .call { callee := .builtin .max, args := #[x, y], argTypes := ts }) (hx : okOpd x = true) (hy : okOpd y = true) (h : mxD [ov E (opd num x), ov E (opd num y)] = some d) : Pure1 P fid w A ι a o d := by
  have kx := lv_opd hnum hl x hx
  have ky := lv_opd hnum hl y hy
  generalize ov E (opd num x) = dx at kx h
  generalize ov E (opd num y) = dy at ky h
  unfold mxD at h
  split at h
  · rename_i k m k' n heq
    simp only [List.cons.injEq, and_true] at heq
    obtain ⟨rfl, rfl⟩ := heq
    injection h with h; subst h
    refine ⟨_, ?_, .sc _ rfl⟩
    simp only [execOp, ho, resolve, invoke, builtin, Sem.run_bind, Sem.run_pure, Result.andThen_ok, List.map_toArray, List.map_cons, List.map_nil, kx.inv_int.1, ky.inv_int.1]
    simp [Builtin.max_, Builtin.max2, Sem.run_bind, mxI]
  · cases h
theorem x_mn {ts : Array TypeId} {x y : Operand} (ho : o.op = .call { callee := .builtin .min, args := #[x, y], argTypes := ts }) (hx : okOpd x = true) (hy : okOpd y = true) (h : mnD [ov E (opd num x), ov E (opd num y)] = some d) : Pure1 P fid w A ι a o d := by
  have kx := lv_opd hnum hl x hx
  have ky := lv_opd hnum hl y hy
  generalize ov E (opd num x) = dx at kx h
  generalize ov E (opd num y) = dy at ky h
  unfold mnD at h
  split at h
  · rename_i k m k' n heq
    simp only [List.cons.injEq, and_true] at heq
    obtain ⟨rfl, rfl⟩ := heq
    injection h with h; subst h
    refine ⟨_, ?_, .sc _ rfl⟩
    simp only [execOp, ho, resolve, invoke, builtin, Sem.run_bind, Sem.run_pure, Result.andThen_ok, List.map_toArray, List.map_cons, List.map_nil, kx.inv_int.1, ky.inv_int.1]
    simp [Builtin.min_, Builtin.min2, Sem.run_bind, mnI]
  · cases h
end
end Lg
