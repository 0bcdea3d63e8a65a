import Derived.Test.YtflnllohghgpdaaLgS
import Derived.WalkKit
/-
  Operations, one by one: values.
-/
namespace Lg
open Go
set_option linter.unusedSectionVars false
set_option linter.unusedVariables false
set_option linter.unusedSimpArgs false

section
variable {P : Program} {o : Oper} {a : Act} {K : Act → World → Prop} {Q : Exit → Act → World → Prop} {w w' : World}
theorem wp_value {v : Value} (h : (execOp a.eval o).run P w = .ok (.value v) w') (k : K (a.put o.dst v) w') : o.wp P a w K Q := by
  unfold Oper.wp; rw [h]; exact k
theorem wp_skipped (h : (execOp a.eval o).run P w = .ok .skip w') (k : K (a.put o.dst undef) w') : o.wp P a w K Q := by
  unfold Oper.wp; rw [h]; exact k
theorem run_v {s : Sem Value} {v : Value} (h : s.run P w = .ok v w') : (do pure (Next.value (← s)) : Sem Next).run P w = .ok (.value v) w' := by
  simp [Sem.run_bind, h]
theorem run_u {s : Sem Unit} (h : s.run P w = .ok () w') : (do s; pure Next.skip : Sem Next).run P w = .ok .skip w' := by
  simp [Sem.run_bind, h]
end

section
variable {fid : Nat → FuncId} {w w' : World} {A A' : Av} {ι : Io} {H : List Ob} {eo : List Nat} {r : Bool} {v : Value} {d : D} {O : List Nat}
theorem XR.val (h : LV fid w A ι true v d []) : XR fid w w A A ι H eo v d none [] :=
  ⟨Keep.refl _ _ _, h, (by intro i o e; cases e), List.nodup_nil, by simp⟩
theorem XR.new (K : Keep w w' A A' (fun _ => False)) (h : LV fid w' A' ι true v d O) (hn : O.Nodup) (hO : ∀ b, b ∈ O → w.heap.size ≤ b) : XR fid w w' A A' ι H eo v d none O :=
  ⟨K.mono (fun _ h => h.elim), h, (by intro i o e; cases e), hn, fun b hb => .inr (.inr (hO b hb))⟩

theorem LV.inv_sc {x : Value} (h : LV fid w A ι r v (.sc x) O) : v = x ∧ isSc x = true ∧ O = [] := by
  cases h with | sc _ h => exact ⟨rfl, h, rfl⟩
theorem LV.inv_int {k : IntKind} {n : Int} (h : LV fid w A ι r v (.sc (.int k n)) O) : v = .int k n ∧ O = [] := ⟨h.inv_sc.1, h.inv_sc.2.2⟩
theorem LV.inv_bool {x : Bool} (h : LV fid w A ι r v (.sc (.bool x)) O) : v = .bool x ∧ O = [] := ⟨h.inv_sc.1, h.inv_sc.2.2⟩
theorem LV.inv_str {s : ByteArray} (h : LV fid w A ι r v (.sc (.string s)) O) : v = .string s ∧ O = [] := ⟨h.inv_sc.1, h.inv_sc.2.2⟩
theorem LV.inv_agg {ds : List D} (h : LV fid w A ι r v (.agg ds) O) : ∃ vs, v = .agg ⟨vs⟩ ∧ LVs fid w A ι r vs ds O := by
  cases h with | agg vs _ _ h => exact ⟨vs, rfl, h⟩
theorem LV.inv_tup {ds : List D} (h : LV fid w A ι r v (.tup ds) O) : ∃ vs, v = .tuple ⟨vs⟩ ∧ LVs fid w A ι r vs ds O := by
  cases h with | tup vs _ _ h => exact ⟨vs, rfl, h⟩
theorem LV.inv_fn {f : Nat} {ds : List D} (h : LV fid w A ι r v (.fn f ds) O) : ∃ vs, v = .func (.func (fid f)) #[] ⟨vs⟩ ∧ LVs fid w A ι r vs ds O := by
  cases h with | fn _ vs _ _ h => exact ⟨vs, rfl, h⟩
theorem LV.inv_nl (h : LV fid w A ι r v .nl O) : v = .pointer none ∧ O = [] := by cases h; exact ⟨rfl, rfl⟩
theorem LV.inv_sn (h : LV fid w A ι r v .sn O) : ∃ a, v = .slice a 0 0 ∧ O = [] := by cases h; exact ⟨_, rfl, rfl⟩
theorem LV.inv_pt {id sz e off : Nat} (h : LV fid w A ι r v (.pt id sz e off) O) : ∃ b, ι id = some (some b) ∧ v = .pointer (some ⟨b, e * sz + off, none⟩) ∧ O = [] ∧ r = true := by
  cases h with | pt _ _ _ _ b hi => exact ⟨b, hi, rfl, rfl, rfl⟩
theorem LV.inv_ep {ds : List D} (h : LV fid w A ι r v (.ep ds) O) : ∃ ad vs, v = .pointer (some ad) ∧ O = [] ∧ LVs fid w A ι false vs ds [] ∧ (∀ v, v ∈ vs → v.oneCell' = true) ∧
    ∀ (k : Nat) (v : Value), vs[k]? = some v → ¬ A ad.block (ad.off + k) ∧ w.cell? (ad.add k) = some v := by
  cases h with | ep ad _ vs h h1 hr => exact ⟨ad, vs, rfl, rfl, h, h1, hr⟩
theorem LV.inv_sl {sz : Nat} {ds : List D} (h : LV fid w A ι r v (.sl sz ds) O) : ∃ a cap vs, v = .slice a ds.length cap ∧ O = [] ∧ ds.length ≤ cap ∧ (∀ d, d ∈ ds → d.cells.length = sz) ∧ LVs fid w A ι false vs (flat ds) [] ∧
    (∀ v, v ∈ vs → v.oneCell' = true) ∧ ∀ (k : Nat) (v : Value), vs[k]? = some v → ∃ ad, a = some ad ∧ ¬ A ad.block (ad.off + k) ∧ w.cell? (ad.add k) = some v := by
  cases h with | sl a n cap _ _ vs hn hc hu h h1 hr => subst hn; exact ⟨a, cap, vs, rfl, rfl, hc, hu, h, h1, hr⟩
theorem LV.inv_rf {id sz off len : Nat} (h : LV fid w A ι r v (.rf id sz off len) O) : ∃ a cap q, v = .slice a len cap ∧ O = [] ∧ r = true ∧ ι id = some q ∧ (q = none → len = 0 ∧ cap = 0 ∧ off = 0) ∧
    ∀ b, q = some b → (a = some ⟨b, off * sz, none⟩ ∨ cap = 0) ∧ len ≤ cap ∧ ∃ (cs : Array Value) (T : TypeId) (fr : Nat × Nat), w.heap[b]? = some (Obj.cells cs T fr) ∧ (off + cap) * sz ≤ cs.size := by
  cases h with | rf a _ _ _ _ cap q hi h0 h1 => exact ⟨a, cap, q, rfl, rfl, rfl, hi, h0, h1⟩

/-- A slice, whatever it is told as: its length. -/
theorem LV.inv_len {n : Nat} (h : LV fid w A ι r v d O) (hl : lenD d = some n) : (∃ a cap, v = .slice a n cap) ∨ ∃ s, v = .string s ∧ s.data.toList.length = n := by
  cases d <;> simp [lenD] at hl
  case sl sz ds => obtain ⟨a, cap, vs, rfl, _⟩ := h.inv_sl; exact .inl ⟨a, cap, by rw [hl]⟩
  case osl wr sz ds =>
    cases h with
    | osln a => exact .inl ⟨a, 0, by simp at hl; rw [← hl]⟩
    | osl b cap _ _ _ vs => exact .inl ⟨_, cap, by rw [hl]⟩
  case sn => obtain ⟨a, rfl, _⟩ := h.inv_sn; exact .inl ⟨a, 0, by rw [← hl]⟩
  case rf id sz off len => obtain ⟨a, cap, q, rfl, _⟩ := h.inv_rf; exact .inl ⟨a, cap, by rw [hl]⟩
  case sc x =>
    obtain ⟨rfl, hx, _⟩ := h.inv_sc
    cases v <;> simp at hl
    exact .inr ⟨_, rfl, by simpa using hl⟩
end

/-! ### operands -/
section
variable {num : FuncId → Option Nat} {fid : Nat → FuncId} (hnum : ∀ f g, num f = some g → fid g = f)
include hnum
theorem lv_leaf {w : World} {A : Av} {ι : Io} {r : Bool} (v : Value) (h : notAgg v = true) : LV fid w A ι r v (dLeaf v) [] := by
  unfold dLeaf
  split
  · exact .sc _ rfl
  · exact .sc _ rfl
  · exact .sc _ rfl
  · exact .nl
  · exact .sn _
  · simp [notAgg] at h
  · exact .un _
  · rename_i h1 h2 h3 h4 h5 h6 h7
    refine .uk _ ?_
    cases v <;> simp_all [Value.oneCell']
theorem lv_leaves {w : World} {A : Av} {ι : Io} {r : Bool} (vs : List Value) (h : vs.all notAgg = true) : LVs fid w A ι r vs (vs.map dLeaf) [] := by
  induction vs with
  | nil => exact .nil
  | cons v vs ih =>
    simp only [List.all_cons, Bool.and_eq_true] at h
    exact LVs.cons' (lv_leaf hnum v h.1) (ih h.2)
theorem lv_const {w : World} {A : Av} {ι : Io} {r : Bool} (v : Value) (h : okOpd (.const v) = true) : LV fid w A ι r v (dVal v) [] := by
  unfold dVal
  split
  · rename_i cs
    refine .agg cs.toList _ [] (lv_leaves hnum _ ?_)
    simp only [okOpd] at h
    rw [List.all_eq_true] at h ⊢
    intro x hx
    have := h x hx
    cases x <;> simp_all [notAgg]
  · refine lv_leaf hnum v ?_
    cases v <;> simp_all [notAgg]
def ownX (own : Nat → List Nat) : Operand → List Nat
  | .tmp t => own t
  | _ => []
theorem lv_opd {w : World} {A : Av} {ι : Io} {a : Act} {E : Env} {own : Nat → List Nat} (hl : ∀ t, LV fid w A ι true (a.tmps.getD t undef) (lk E t) (own t)) (x : Operand) (hx : okOpd x = true) :
    LV fid w A ι true (a.eval x) (ov E (opd num x)) (ownX own x) := by
  cases x with
  | tmp t => exact hl t
  | const v => exact lv_const hnum v hx
  | global g => exact .un _
  | func f =>
    simp only [opd, Act.eval, ownX]
    split
    · rename_i g hg
      have := hnum f g hg
      subst this
      exact .fn g [] [] [] .nil
    · exact .un _
end
end Lg
