import Derived.Test.YtflnllohghgpdaaLgO2
import Derived.Carry
import Derived.ChangeOld
import Derived.ChangeCalls
/-
  An open law's row: its arguments taken apart, and what stands behind the call.
-/
namespace Lg
open Go Go.RowKit
set_option linter.unusedVariables false
set_option linter.unusedSimpArgs false
set_option linter.unusedSectionVars false

theorem len1 {α : Type _} {l : List α} (h : l.length = 1) : ∃ a, l = [a] := by
  match l, h with
  | [a], _ => exact ⟨a, rfl⟩
theorem len2 {α : Type _} {l : List α} (h : l.length = 2) : ∃ a b, l = [a, b] := by
  match l, h with
  | [a, b], _ => exact ⟨a, b, rfl⟩
theorem len3 {α : Type _} {l : List α} (h : l.length = 3) : ∃ a b c, l = [a, b, c] := by
  match l, h with
  | [a, b, c], _ => exact ⟨a, b, c, rfl⟩
theorem len4 {α : Type _} {l : List α} (h : l.length = 4) : ∃ a b c d, l = [a, b, c, d] := by
  match l, h with
  | [a, b, c, d], _ => exact ⟨a, b, c, d, rfl⟩
theorem len5 {α : Type _} {l : List α} (h : l.length = 5) : ∃ a b c d e, l = [a, b, c, d, e] := by
  match l, h with
  | [a, b, c, d, e], _ => exact ⟨a, b, c, d, e, rfl⟩
theorem len6 {α : Type _} {l : List α} (h : l.length = 6) : ∃ a b c d e f, l = [a, b, c, d, e, f] := by
  match l, h with
  | [a, b, c, d, e, f], _ => exact ⟨a, b, c, d, e, f, rfl⟩
section
variable {H : Type} {enc : TypeId × Value → H} {P : Program}
theorem trodAll_stays (hl : laidOutB P = true) {W W' : World} (hb : Below W.heap.size W W') : ∀ (ts : List TypeId) (vs : List Value) (ds : List (DataW H)) (ps : List MemPlace),
    (ts.all fun t => P.readableRec t && decide (t < P.types.size)) = true → DataW.TrodAll enc P W 0 (fun _ => true) true ts vs ds ps → (∀ x ∈ ps, x.block < W.heap.size) →
    DataW.TrodAll enc P W' 0 (fun b => decide (b < W.heap.size)) true ts vs ds ps
  | [], [], ds, ps, ht, h, hp => by cases ds <;> simp [DataW.TrodAll] at h ⊢; exact h
  | [], _ :: _, ds, ps, ht, h, hp => by cases ds <;> simp [DataW.TrodAll] at h
  | t :: ts, [], ds, ps, ht, h, hp => by cases ds <;> simp [DataW.TrodAll] at h
  | t :: ts, v :: vs, [], ps, ht, h, hp => by simp [DataW.TrodAll] at h
  | t :: ts, v :: vs, d :: ds, ps, ht, h, hp => by
    rw [List.all_cons, Bool.and_eq_true, Bool.and_eq_true, decide_eq_true_eq] at ht
    obtain ⟨p1, p2, h1, h2, rfl⟩ := h
    exact ⟨p1, p2, Below.trod hl ht.1.1 ht.1.2 h1 hb (fun x hx => hp x (by simp [hx])), trodAll_stays hl hb ts vs ds p2 ht.2 h2 (fun x hx => hp x (by simp [hx])), rfl⟩
theorem FitsA.cons_inv {s : Sh} {ss : List Sh} {es : List D} (h : FitsA (s :: ss) es) : ∃ d ds, es = d :: ds ∧ FitsV s d ∧ FitsA ss ds := by
  cases h with
  | cons _ _ d ds h hs => exact ⟨d, ds, rfl, h, hs⟩
theorem FitsA.nil_inv {es : List D} (h : FitsA [] es) : es = [] := by cases h; rfl
theorem FitsV.int_inv {k : IntKind} {d : D} (h : FitsV (.int k) d) : ∃ n, d = .sc (.int k n) ∧ (Lit.int k n).wf = true := by
  have e := h.2.2 (by simp)
  have f := h.1
  rw [e] at f
  cases f with
  | int _ n hw => exact ⟨n, rfl, hw⟩
theorem FitsV.bool_inv {d : D} (h : FitsV .bool d) : ∃ b, d = .sc (.bool b) := by
  have e := h.2.2 (by simp)
  have f := h.1
  rw [e] at f
  cases f with
  | bool b => exact ⟨b, rfl⟩
theorem FitsV.str_inv {d : D} (h : FitsV .str d) : ∃ l : List UInt8, d = .sc (.string ⟨⟨l⟩⟩) ∧ l.length ≤ maxLen := by
  have e := h.2.2 (by simp)
  have f := h.1
  rw [e] at f
  cases f with
  | str s hs => obtain ⟨⟨l⟩⟩ := s; exact ⟨l, rfl, hs⟩
theorem ints_inv {k : IntKind} : ∀ (ds : List D), (∀ d, d ∈ ds → Fits (.int k) d.cells) → (∀ d, d ∈ ds → isAgD d = false ∧ d.cells.length = 1) → ∃ l : List Int, ds = l.map (fun n => .sc (.int k n)) ∧ ∀ n, n ∈ l → (Lit.int k n).wf = true
  | [], _, _ => ⟨[], rfl, by simp⟩
  | d :: ds, h, h2 => by
    obtain ⟨l, rfl, hl⟩ := ints_inv ds (fun x hx => h x (by simp [hx])) (fun x hx => h2 x (by simp [hx]))
    have f := h d (by simp)
    have g := (h2 d (by simp)).1
    have e : d.cells = [d] := by cases d <;> first | rfl | (simp [isAgD] at g)
    rw [e] at f
    cases f with
    | int _ n hw => exact ⟨n :: l, rfl, by intro x hx; rcases List.mem_cons.1 hx with rfl | hx; exact hw; exact hl x hx⟩
theorem Fits.ints {k : IntKind} {ds : List D} (h : Fits (.sl 1 false (.int k)) ds) : ∃ l : List Int, ds = [.sl 1 (l.map fun n => .sc (.int k n))] ∧ l.length ≤ maxLen ∧ ∀ n, n ∈ l → (Lit.int k n).wf = true := by
  cases h with
  | sl _ _ _ ds hl h h2 =>
    obtain ⟨l, rfl, hw⟩ := ints_inv ds h h2
    exact ⟨l, rfl, by simpa using hl, hw⟩
theorem FitsV.ints_inv {k : IntKind} {d : D} (h : FitsV (.sl 1 false (.int k)) d) : ∃ l : List Int, d = .sl 1 (l.map fun n => .sc (.int k n)) ∧ l.length ≤ maxLen ∧ ∀ n, n ∈ l → (Lit.int k n).wf = true := by
  have e := h.2.2 (by simp)
  have f := h.1
  rw [e] at f
  obtain ⟨l, h1, h2⟩ := f.ints
  injection h1 with h1 _
  exact ⟨l, h1, h2⟩
theorem FitsV.st_inv {fs : List Sh} {d : D} (h : FitsV (.st fs) d) : ∃ cs, d = .agg cs ∧ FitsL fs cs := by
  obtain ⟨cs, rfl⟩ := h.2.1 ⟨fs, rfl⟩
  have f := h.1
  cases f with
  | st _ _ h => exact ⟨cs, rfl, h⟩
theorem Fits.st_inv {fs : List Sh} {cs : List D} (h : Fits (.st fs) cs) : FitsL fs cs := by
  cases h with
  | st _ _ h => exact h
theorem FitsL.cons_inv {s : Sh} {ss : List Sh} {cs : List D} (h : FitsL (s :: ss) cs) : ∃ a b, cs = a ++ b ∧ Fits s a ∧ FitsL ss b := by
  cases h with
  | cons _ _ a b h hs => exact ⟨a, b, rfl, h, hs⟩
theorem FitsL.nil_inv {cs : List D} (h : FitsL [] cs) : cs = [] := by cases h; rfl
theorem Fits.int_inv {k : IntKind} {ds : List D} (h : Fits (.int k) ds) : ∃ n, ds = [.sc (.int k n)] ∧ (Lit.int k n).wf = true := by
  cases h with
  | int _ n hw => exact ⟨n, rfl, hw⟩
theorem Fits.bool_inv {ds : List D} (h : Fits .bool ds) : ∃ b, ds = [.sc (.bool b)] := by
  cases h with
  | bool b => exact ⟨b, rfl⟩
theorem Fits.str_inv {ds : List D} (h : Fits .str ds) : ∃ l : List UInt8, ds = [.sc (.string ⟨⟨l⟩⟩)] ∧ l.length ≤ maxLen := by
  cases h with
  | str s hs => obtain ⟨⟨l⟩⟩ := s; exact ⟨l, rfl, hs⟩
theorem wf_i64 {n : Int} (h : (Lit.int .i64 n).wf = true) : -9223372036854775808 ≤ n ∧ n ≤ 9223372036854775807 := by
  have e : (Lit.int .i64 n).wf = (decide (-9223372036854775808 ≤ n) && decide (n ≤ 9223372036854775807)) := rfl
  rw [e] at h; simpa using h
theorem wf_i32 {n : Int} (h : (Lit.int .i32 n).wf = true) : -2147483648 ≤ n ∧ n ≤ 2147483647 := by
  have e : (Lit.int .i32 n).wf = (decide (-2147483648 ≤ n) && decide (n ≤ 2147483647)) := rfl
  rw [e] at h; simpa using h
theorem wf_u8 {n : Int} (h : (Lit.int .u8 n).wf = true) : 0 ≤ n ∧ n ≤ 255 := by
  have e : (Lit.int .u8 n).wf = (decide (0 ≤ n) && decide (n ≤ 255)) := rfl
  rw [e] at h; simpa using h
end
end Lg
