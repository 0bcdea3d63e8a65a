import Derived.Test.YtflnllohghgpdaaLgX
import Derived.Laws.Strings
/-
  Operations that touch no memory.
-/
namespace Lg
open Go
set_option linter.unusedVariables false
set_option linter.unusedSimpArgs false
set_option linter.unusedSectionVars false

section
variable {P : Program} {num : FuncId → Option Nat} {fid : Nat → FuncId} (hnum : ∀ f g, num f = some g → fid g = f)
  {w : World} {A : Av} {ι : Io} {a : Act} {E : Env} {own : Nat → List Nat} (hl : ∀ t, LV fid w A ι true (a.tmps.getD t undef) (lk E t) (own t)) {o : Oper} {d : D}

def Pure1 (P : Program) (fid : Nat → FuncId) (w : World) (A : Av) (ι : Io) (a : Act) (o : Oper) (d : D) : Prop :=
  ∃ v, (execOp a.eval o).run P w = .ok (.value v) w ∧ LV fid w A ι true v d []
include hnum hl
theorem x_mv {x : Operand} (ho : o.op = .move x ∨ o.op = .assign x) (hx : okOpd x = true) (hn : noTree (ov E (opd num x)) = true) : Pure1 P fid w A ι a o (ov E (opd num x)) := by
  have h := lv_opd hnum hl x hx
  have e := h.noTree hn
  rw [e] at h
  refine ⟨a.eval x, ?_, h⟩
  rcases ho with ho | ho <;> simp [execOp, ho]
theorem x_pick {c x y : Operand} (ho : o.op = .pick c x y) (hc : okOpd c = true) (hx : okOpd x = true) (hy : okOpd y = true) {b : Bool} (hb : ov E (opd num c) = .sc (.bool b))
    (h1 : noTree (if b then ov E (opd num x) else ov E (opd num y)) = true) : Pure1 P fid w A ι a o (if b then ov E (opd num x) else ov E (opd num y)) := by
  have hcv := lv_opd hnum hl c hc
  rw [hb] at hcv
  have e := hcv.inv_bool.1
  have kx := lv_opd hnum hl x hx
  have ky := lv_opd hnum hl y hy
  cases b
  · simp only [Bool.false_eq_true, if_false] at h1
    rw [ky.noTree h1] at ky
    refine ⟨a.eval y, ?_, by simpa using ky⟩
    simp [execOp, ho, e, asBool, Sem.run_bind]
  · simp only [if_true] at h1
    rw [kx.noTree h1] at kx
    refine ⟨a.eval x, ?_, by simpa using kx⟩
    simp [execOp, ho, e, asBool, Sem.run_bind]
omit hnum hl in
theorem i64max : IntKind.i64.max = 9223372036854775807 := rfl
omit hnum hl in
theorem run_equal_bool {t : TypeId} (ht : P.underlying t = some .bool) (b1 b2 : Bool) : (Op.equal t (.bool b1) (.bool b2)).run P w = .ok (b1 == b2) w := by
  have : ∀ n, (Op.equalIn (n + 1) t (.bool b1) (.bool b2)).run P w = .ok (b1 == b2) w := by
    intro n
    simp only [Op.equalIn, Sem.run_bind, run_underlying ht, Result.andThen_ok, Sem.run_pure]
  exact this 9999
omit hnum hl in
theorem run_guard_plain (op : BinOp) (t : TypeId) (x y : Operand) (u v : Value) (h : (∀ cs, u ≠ .agg cs) ∧ u ≠ .nilIface) : (eqGuard op t x y u v).run P w = .ok () w := by
  obtain ⟨h1, h2⟩ := h
  unfold eqGuard
  cases u <;> simp at h1 h2 ⊢ <;> (split <;> rfl)
omit hnum hl in
theorem run_bin_int (op : BinOp) (t : TypeId) (x y : Operand) (k k' : IntKind) (m n : Int) (v : Value)
    (h : (match op with | .shl => shI .shl k m n | .shr => shI .shr k m n | op => if k = k' then binI op k m n else none) = some v) :
    (do eqGuard op t x y (.int k m) (.int k' n); binOp op t (.int k m) (.int k' n)).run P w = .ok v w := by
  rw [Sem.run_bind, run_guard_plain op t x y _ _ ⟨by simp, by simp⟩]
  simp only [Result.andThen_ok]
  cases op <;> simp only [binOp] at h ⊢ <;> simp_all [Op.intArith, Op.intDiv, Op.intBits, Op.intCmp, Op.shift, binI, shI] <;>
    first
      | (obtain ⟨h1, h2⟩ := h; subst h1; simp [← h2]; done)
      | (obtain ⟨h1, h2, h3⟩ := h; subst h1; simp [h2, ← h3]; done)
      | (intro hh; omega)
theorem x_bin {op : BinOp} {t t' : TypeId} {x y : Operand} (ho : o.op = .binOp op t x y t') (hx : okOpd x = true) (hy : okOpd y = true) (h : binD op (ov E (opd num x)) (ov E (opd num y)) = some d) : Pure1 P fid w A ι a o d := by
  have kx := lv_opd hnum hl x hx
  have ky := lv_opd hnum hl y hy
  generalize ov E (opd num x) = dx at kx h
  generalize ov E (opd num y) = dy at ky h
  have key : ∃ v, (do eqGuard op t x y (a.eval x) (a.eval y); binOp op t (a.eval x) (a.eval y)).run P w = .ok v w ∧ d = .sc v ∧ isSc v = true := by
    unfold binD at h
    split at h
    · rename_i k m k' n
      rw [kx.inv_int.1, ky.inv_int.1]
      obtain ⟨v, hv, rfl⟩ := Option.map_eq_some_iff.1 h
      refine ⟨v, run_bin_int .shl t x y k k' m n v hv, rfl, ?_⟩
      simp only [shI] at hv; split at hv <;> simp at hv; subst hv; rfl
    · rename_i k m k' n
      rw [kx.inv_int.1, ky.inv_int.1]
      obtain ⟨v, hv, rfl⟩ := Option.map_eq_some_iff.1 h
      refine ⟨v, run_bin_int .shr t x y k k' m n v hv, rfl, ?_⟩
      simp only [shI] at hv; split at hv <;> simp at hv; subst hv; rfl
    · rename_i k m k' n n1 n2
      rw [kx.inv_int.1, ky.inv_int.1]
      split at h
      · rename_i e
        obtain ⟨v, hv, rfl⟩ := Option.map_eq_some_iff.1 h
        refine ⟨v, run_bin_int op t x y k k' m n v ?_, rfl, ?_⟩
        · split
          · exact (n1 rfl).elim
          · exact (n2 rfl).elim
          · rw [if_pos e]; exact hv
        · cases op <;> simp [binI] at hv <;> first | (subst hv; rfl) | (obtain ⟨_, hv⟩ := hv; subst hv; rfl)
      · cases h
    · rename_i s1 s2
      rw [kx.inv_str.1, ky.inv_str.1]
      obtain ⟨v, hv, rfl⟩ := Option.map_eq_some_iff.1 h
      refine ⟨v, ?_, rfl, ?_⟩
      · rw [Sem.run_bind, run_guard_plain op t x y _ _ ⟨by simp, by simp⟩]
        simp only [Result.andThen_ok]
        cases op <;> simp only [binS] at hv <;> try (cases hv; done)
        · split at hv
          · rename_i hb
            injection hv with hv; subst hv
            have e1 : s1.size = s1.data.toList.length := by simp
            have e2 : s2.size = s2.data.toList.length := by simp
            simp only [binOp, Op.stringOp]
            rw [if_neg (by rw [e1, e2, i64max]; unfold strMax at hb; omega)]
            simp only [Sem.run_pure]
            congr 2
          · cases hv
        · injection hv with hv; subst hv
          simp [binOp, Op.stringOp, ByteArray.toList_eq]
        · injection hv with hv; subst hv
          simp only [binOp, Op.stringOp, ByteArray.toList_eq, Sem.run_pure, bne]
      · cases op <;> simp only [binS] at hv <;> try (cases hv; done)
        · split at hv <;> simp at hv; subst hv; rfl
        · injection hv with hv; subst hv; rfl
        · injection hv with hv; subst hv; rfl
    · cases h
  obtain ⟨v, hr, rfl, hs⟩ := key
  refine ⟨v, ?_, .sc v hs⟩
  simp only [execOp, ho]
  exact run_v hr
theorem x_binb {op : BinOp} {t t' : TypeId} {x y : Operand} (ho : o.op = .binOp op t x y t') (ht : P.underlying t = some .bool) (hx : okOpd x = true) (hy : okOpd y = true)
    (h : binbD op (ov E (opd num x)) (ov E (opd num y)) = some d) : Pure1 P fid w A ι a o d := by
  have kx := lv_opd hnum hl x hx
  have ky := lv_opd hnum hl y hy
  generalize ov E (opd num x) = dx at kx h
  generalize ov E (opd num y) = dy at ky h
  unfold binbD at h
  split at h
  · rename_i b1 b2
    obtain ⟨v, hv, rfl⟩ := Option.map_eq_some_iff.1 h
    have hr : (do eqGuard op t x y (a.eval x) (a.eval y); binOp op t (a.eval x) (a.eval y)).run P w = .ok v w ∧ isSc v = true := by
      rw [kx.inv_bool.1, ky.inv_bool.1, Sem.run_bind, run_guard_plain op t x y _ _ ⟨by simp, by simp⟩]
      simp only [Result.andThen_ok]
      cases op <;> simp only [binB] at hv <;> try (cases hv; done)
      all_goals (injection hv with hv; subst hv)
      all_goals simp only [binOp, Sem.run_bind, run_equal_bool ht, Result.andThen_ok, Sem.run_pure, isSc, and_self, and_true]
      all_goals cases b1 <;> cases b2 <;> rfl
    refine ⟨v, ?_, .sc v hr.2⟩
    simp only [execOp, ho]
    exact run_v hr.1
  · cases h
theorem x_una {op : UnOp} {t : TypeId} {x : Operand} (ho : o.op = .unOp op t x) (hx : okOpd x = true) (h : unaD op (ov E (opd num x)) = some d) : Pure1 P fid w A ι a o d := by
  have kx := lv_opd hnum hl x hx
  generalize ov E (opd num x) = dx at kx h
  unfold unaD at h
  split at h
  · rename_i k n
    injection h with h; subst h
    refine ⟨_, ?_, .sc _ rfl⟩
    simp only [execOp, ho]
    refine run_v ?_
    rw [kx.inv_int.1]; simp [Op.unary, Op.intArith]
  · rename_i b
    injection h with h; subst h
    refine ⟨_, ?_, .sc _ rfl⟩
    simp only [execOp, ho]
    refine run_v ?_
    rw [kx.inv_bool.1]; simp [Op.unary]
  · cases h
theorem x_cvi {s t : TypeId} {x : Operand} {k0 k : IntKind} (ho : o.op = .convert s t x) (h1 : P.underlying s = some (.int k0)) (h2 : P.underlying t = some (.int k)) (hx : okOpd x = true) (h : cviD k (ov E (opd num x)) = some d) : Pure1 P fid w A ι a o d := by
  have kx := lv_opd hnum hl x hx
  generalize ov E (opd num x) = dx at kx h
  unfold cviD at h
  split at h
  · rename_i k' n
    injection h with h; subst h
    refine ⟨_, ?_, .sc _ rfl⟩
    simp only [execOp, ho]
    refine run_v ?_
    rw [kx.inv_int.1]; simp [convert, run_underlying h1, run_underlying h2, Sem.run_bind, Conv.intToInt]
  · cases h
theorem x_cvs {s t : TypeId} {x : Operand} {str : ByteArray} (ho : o.op = .convert s t x) (h1 : P.underlying s = some .string) (h2 : P.underlying t = some .string) (hx : okOpd x = true) (h : ov E (opd num x) = .sc (.string str)) : Pure1 P fid w A ι a o (.sc (.string str)) := by
  have kx := lv_opd hnum hl x hx
  rw [h] at kx
  refine ⟨_, ?_, .sc _ rfl⟩
  simp only [execOp, ho]
  refine run_v ?_
  rw [kx.inv_str.1]; simp [convert, run_underlying h1, run_underlying h2, Sem.run_bind]
theorem x_ext {x : Operand} {i : Nat} {ds : List D} (ho : o.op = .extract x i) (hx : okOpd x = true) (h : ov E (opd num x) = .tup ds) (hd : ds[i]? = some d) (hn : noTree d = true) : Pure1 P fid w A ι a o d := by
  have kx := lv_opd hnum hl x hx
  rw [h] at kx
  obtain ⟨vs, e, hv⟩ := kx.inv_tup
  have key : ∀ (vs : List Value) (ds : List D) (O : List Nat) (i : Nat), LVs fid w A ι true vs ds O → ds[i]? = some d → ∃ v O', vs[i]? = some v ∧ LV fid w A ι true v d O' := by
    intro vs
    induction vs with
    | nil => intro ds O i h hd; cases h; simp at hd
    | cons v vs ih =>
      intro ds O i h hd
      cases h with
      | cons _ d' O1 _ ds O2 h hs =>
        cases i with
        | zero => simp at hd; subst hd; exact ⟨v, O1, rfl, h⟩
        | succ i => simp at hd; simpa using ih ds O2 i hs hd
  obtain ⟨v, O', hv1, hv2⟩ := key vs ds _ i hv hd
  rw [hv2.noTree hn] at hv2
  refine ⟨v, ?_, hv2⟩
  simp only [execOp, ho]
  refine run_v ?_
  rw [e]
  simp [Instr.extract, hv1]
theorem x_len {t t' : TypeId} {x : Operand} {n : Nat} (ho : o.op = .call { callee := .builtin .len, args := #[x], argTypes := #[t] }) (ht : (∃ e, P.underlying t = some (.slice e)) ∨ P.underlying t = some .string)
    (hx : okOpd x = true) (h : lenD (ov E (opd num x)) = some n) (hs : (∃ e, P.underlying t = some (.slice e)) ↔ ∀ s, ov E (opd num x) ≠ .sc (.string s)) : Pure1 P fid w A ι a o (.sc (.int .i64 n)) := by
  have kx := lv_opd hnum hl x hx
  refine ⟨.int .i64 n, ?_, .sc _ rfl⟩
  simp only [execOp, ho, resolve, invoke, builtin, Sem.run_bind, Sem.run_pure, Result.andThen_ok, List.map_toArray, List.map_cons, List.map_nil]
  rcases kx.inv_len h with ⟨ad, cap, e⟩ | ⟨s, e, hn⟩
  · rw [e]
    obtain ⟨el, he⟩ : ∃ e, P.underlying t = some (.slice e) := by
      rw [hs]; intro s hh; rw [hh] at kx; rw [kx.inv_str.1] at e; cases e
    simp [Builtin.len_, run_underlying he, goInt, Sem.run_bind]
  · rw [e]
    have he : P.underlying t = some .string := by
      rcases ht with ht | ht
      · exfalso
        have := hs.1 ht
        generalize ov E (opd num x) = dx at kx h this
        rw [e] at kx
        cases dx <;> simp [lenD] at h <;> cases kx
      · exact ht
    have : s.size = n := by rw [← hn]; simp
    simp [Builtin.len_, run_underlying he, goInt, Sem.run_bind, this]
end
end Lg
