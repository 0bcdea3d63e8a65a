import Derived.Test.YtflnllohghgpdaaLgX14
import Derived.Lib.AppendZeros
/-
  Zeros appended to nil.
-/
namespace Lg
open Go
set_option linter.unusedVariables false
set_option linter.unusedSimpArgs false
set_option linter.unusedSectionVars false

theorem run_append_nil_zeros' {P : Program} (w : World) (t tn ty e : TypeId) (i : TypeInfo) (z : Value) (k kn : IntKind) (ad : Option Addr) (ht : P.underlying t = some (.slice e)) (htn : P.underlying tn = some (.int kn)) (hi : P.info? e = some i) (hz : i.zero = some z)
    (n : Nat) (h0 : 0 < n) (hs : 0 < i.size) (h63 : (n : Int) ≤ 9223372036854775807) (h48 : n * i.bytes ≤ 281474976710656) :
    (Builtin.append_ #[t, tn] ty #[.slice ad 0 0, .int k n]).run P w =
      .ok (.slice (some ⟨w.heap.size, 0, none⟩) n (grownCap w n 0 e)) (w.drew.alloc (.cells (Builtin.zeroCells z.cells n ++ Builtin.zeroCells z.cells (grownCap w n 0 e - n)) e)) := by
  have hn : n ≠ 0 := by omega
  have hw : IntKind.i64.wrap (n : Int) = n := by rw [IntKind.wrap_i64]; omega
  have h63' : ¬ (9223372036854775807 < (n : Int)) := by omega
  have h48' : ¬ (281474976710656 < Builtin.nextslicecap n 0 * i.bytes) := by rw [nextslicecap_zero h0]; omega
  have h48i : ¬ (281474976710656 < (n : Int) * (i.bytes : Int)) := by
    rw [← Int.natCast_mul]
    omega
  have hneg : ¬ ((n : Int) < 0) := by omega
  have hns : ¬ (n * i.size = 0) := Nat.mul_ne_zero hn (by omega)
  have hfc : ∀ w : World, (Builtin.firstCells i.size 0 (.slice ad 0 0)).run P w = .ok #[] w := by
    intro w; cases ad <;> simp [Builtin.firstCells, loadCells, loadCellsFrom]
  simp [Builtin.append_, run_underlying ht, run_underlying htn, Go.sizeOf, typeInfo, zeroValue, hi, hz, asInt, asIntOf, hw, hn, hneg, hns, h63', h48', h48i, Question.forced, hfc, newRow, grownCap]
theorem zeroCells_rep (z : Array Value) (n : Nat) (h : 0 < z.size) : (Builtin.zeroCells z n).toList = (List.replicate n z.toList).flatten := by
  have := madeCells_rep z n h
  unfold madeCells at this
  exact this
section
variable {P : Program} {num : FuncId → Option Nat} {fid : Nat → FuncId} (hnum : ∀ f g, num f = some g → fid g = f)
  {w : World} {A : Av} {ι : Io} {H : List Ob} {eo : List Nat} {a : Act} {E : Env} {own : Nat → List Nat} (hl : ∀ t, LV fid w A ι true (a.tmps.getD t undef) (lk E t) (own t)) {o : Oper} {d : D}
include hnum hl
theorem x_appz {t tn e : TypeId} {x y : Operand} {kn : IntKind} {sz by_ n : Nat} {z : List D} (ho : o.op = .call { callee := .builtin .append, args := #[x, y], argTypes := #[t, tn] }) (ht : P.underlying t = some (.slice e)) (htn : P.underlying tn = some (.int kn)) (hs : sizeT P e = some sz) (hby : bytesT P e = some by_) (hz : zeroT P e = some z)
    (h0 : 0 < sz) (hb0 : 0 < by_) (hx : okOpd x = true) (hy : okOpd y = true) (hsn : ov E (opd num x) = .sn) (hj : natOf (ov E (opd num y)) = some n) (hn0 : 0 < n) (hbd : n * by_ ≤ 140737488355328) (hro : isROs z = true) (hzl : z.length = sz) (hzc : z.all isCellD = true) :
    Does P fid w A ι H eo a o (.osl true sz (List.replicate n (elemOf z))) none := by
  have kx := lv_opd hnum hl x hx
  rw [hsn] at kx
  obtain ⟨ad, ex, _⟩ := kx.inv_sn
  obtain ⟨k, hk⟩ := natOf_inv (lv_opd hnum hl y hy) hj
  obtain ⟨ti, zv, hti, hzv, hlz, h1⟩ := lv_zero (fid := fid) (w := w) (A := A) (ι := ι) hnum hz (r := true)
  obtain ⟨ti2, hti2, hsz⟩ := Option.map_eq_some_iff.1 hs
  obtain ⟨ti3, hti3, hbb⟩ := Option.map_eq_some_iff.1 hby
  rw [hti] at hti2 hti3
  injection hti2 with e1; subst e1
  injection hti3 with e1; subst e1
  have hzs : zv.cells.size = sz := by rw [← Array.length_toList, hlz.length_eq, hzl]
  have hn47 : n ≤ 140737488355328 := Nat.le_trans (Nat.le_mul_of_pos_right n hb0) hbd
  have hrun := run_append_nil_zeros' (P := P) w t tn o.type e ti zv k kn ad ht htn hti hzv n hn0 (by omega) (by omega) (by rw [hbb]; omega)
  have hc : n ≤ grownCap w n 0 e := grownCap_ge w n 0 e
  have hcells : (Builtin.zeroCells zv.cells n ++ Builtin.zeroCells zv.cells (grownCap w n 0 e - n)) = ⟨(List.replicate n zv.cells.toList).flatten ++ (List.replicate (grownCap w n 0 e - n) zv.cells.toList).flatten⟩ := by
    apply Array.ext'
    rw [Array.toList_append, zeroCells_rep _ _ (by omega), zeroCells_rep _ _ (by omega)]
  rw [hcells] at hrun
  have hfr := flat_replicate n z hzc
  have hlv : LVs fid w A (fun _ => none) false (List.replicate n zv.cells.toList).flatten (flat (List.replicate n (elemOf z))) [] := by
    rw [hfr.1]; exact ((hlz.ro hro).weak (ι' := fun _ => none)).reps n
  have h1' : ∀ v, v ∈ (List.replicate n zv.cells.toList).flatten → v.oneCell' = true := by
    intro v hv
    obtain ⟨l, hl1, hl2⟩ := List.mem_flatten.1 hv
    have := (List.mem_replicate.1 hl1).2
    subst this
    exact h1 v hl2
  have hln : ((List.replicate n zv.cells.toList).flatten ++ (List.replicate (grownCap w n 0 e - n) zv.cells.toList).flatten).length = grownCap w n 0 e * sz := by
    simp only [List.length_append, List.length_flatten, List.map_replicate, List.sum_replicate_nat, Array.length_toList, hzs]
    rw [← Nat.add_mul]; congr 1; omega
  have K : Keep w w.drew A A (fun _ => False) := Keep.drew w A _
  have K2 := Keep.alloc w.drew A (.cells ⟨(List.replicate n zv.cells.toList).flatten ++ (List.replicate (grownCap w n 0 e - n) zv.cells.toList).flatten⟩ e)
  refine ⟨_, _, _, newA A w.heap.size, [w.heap.size], ?_, .inl rfl, XR.new (K.trans K2 (C := fun _ => False) (fun _ h => .inl h) (fun _ h => .inl h)) (LV.newRow (e := e) K hlv h1' (fun d hd => ?_) (by simp) hc hln) (by simp) (by simp)⟩
  · simp only [execOp, ho, resolve, invoke, builtin, Sem.run_bind, Sem.run_pure, Result.andThen_ok, List.map_toArray, List.map_cons, List.map_nil]
    rw [ex, hk]
    simp only [hrun, Result.andThen_ok, Sem.run_pure]
    rfl
  · have := (List.mem_replicate.1 hd).2
    subst this
    rw [hfr.2, hzl]
end
end Lg
