import Derived.Test.YtflnllohghgpdaaLgX9
import Derived.Lib.ConvBytes
import Derived.Laws.MakeOwn
import Derived.Laws.StructEq
/-
  Texts from bytes, bytes from texts; rows made; rows built.
-/
namespace Lg
open Go
set_option linter.unusedVariables false
set_option linter.unusedSimpArgs false
set_option linter.unusedSectionVars false

theorem rep_get {α : Type} (l : List α) (hl : 0 < l.length) : ∀ (n k : Nat), (List.replicate n l).flatten[k]? = if k < n * l.length then l[k % l.length]? else none
  | 0, k => by simp
  | n + 1, k => by
    rw [List.replicate_succ, List.flatten_cons, List.getElem?_append]
    split
    · rename_i h
      rw [if_pos (by rw [Nat.add_mul]; omega), Nat.mod_eq_of_lt h]
    · rename_i h
      rw [rep_get l hl n, Nat.mod_eq_sub_mod (Nat.le_of_not_lt h), Nat.add_mul]
      have e : (k - l.length < n * l.length) ↔ (k < n * l.length + 1 * l.length) := by omega
      simp only [e]
theorem madeCells_rep (zs : Array Value) (n : Nat) (h : 0 < zs.size) : (madeCells zs (n * zs.size)).toList = (List.replicate n zs.toList).flatten := by
  apply List.ext_getElem?
  intro k
  rw [rep_get zs.toList (by simpa using h)]
  unfold madeCells
  simp only [Array.toList_map, Array.toList_range, List.getElem?_map, Array.length_toList]
  split
  · rename_i hk
    rw [List.getElem?_range hk]
    have hm : k % zs.size < zs.size := Nat.mod_lt _ h
    simp [getElem!_pos, hm]
  · rename_i hk
    rw [List.getElem?_eq_none (by simpa using hk)]; rfl
theorem flat_replicate (n : Nat) (z : List D) (hz : z.all isCellD = true) : flat (List.replicate n (elemOf z)) = (List.replicate n z).flatten ∧ (elemOf z).cells = z := by
  have : (elemOf z).cells = z := by
    unfold elemOf
    split
    · rename_i d
      simp at hz
      cases d <;> simp [isCellD] at hz <;> rfl
    · rfl
  refine ⟨?_, this⟩
  induction n with
  | zero => rfl
  | succ n ih => rw [List.replicate_succ, flat_cons, ih, this, List.replicate_succ, List.flatten_cons]
theorem LVs.reps {fid : Nat → FuncId} {w : World} {A : Av} {ι : Io} {r : Bool} {vs : List Value} {ds : List D} (h : LVs fid w A ι r vs ds []) : ∀ n, LVs fid w A ι r (List.replicate n vs).flatten (List.replicate n ds).flatten []
  | 0 => .nil
  | n + 1 => by rw [List.replicate_succ, List.replicate_succ, List.flatten_cons, List.flatten_cons]; exact h.append (LVs.reps h n)
theorem isROs_all {ds : List D} : isROs ds = true ↔ ∀ d, d ∈ ds → isRO d = true := by
  induction ds with
  | nil => simp [isROs]
  | cons d ds ih => simp [isROs, ih]
theorem fillD_build (sz : Nat) : ∀ (ps : List (Nat × D)) (cs : List D), fillD sz cs ps = buildD cs (ps.map fun p => (p.1 * sz, sz, p.2))
  | [], cs => rfl
  | (i, v) :: r, cs => by
    simp only [fillD, buildD, List.map_cons]
    split
    · congr 1; funext cs'; exact fillD_build sz r cs'
    · rfl
theorem putCells_len {cs vs ds : List D} {off : Nat} (h : putCells cs off vs = some ds) : ds.length = cs.length := by
  obtain ⟨h1, rfl⟩ := putCells_some h
  simp; omega
theorem fillD_len {sz : Nat} : ∀ {ps : List (Nat × D)} {cs ds : List D}, fillD sz cs ps = some ds → ds.length = cs.length
  | [], cs, ds, h => by simp [fillD] at h; rw [h]
  | (i, v) :: r, cs, ds, h => by
    simp only [fillD] at h
    split at h
    · obtain ⟨cs', h1, h2⟩ := Option.bind_eq_some_iff.1 h
      rw [fillD_len h2, putCells_len h1]
    · cases h
theorem chunks_spec (sz : Nat) (hsz : 0 < sz) : ∀ (n : Nat) (cs : List D), cs.length = n * sz → cs.all isCellD = true →
    flat (chunks (sz != 1) sz n cs) = cs ∧ (chunks (sz != 1) sz n cs).length = n ∧ ∀ d, d ∈ chunks (sz != 1) sz n cs → d.cells.length = sz
  | 0, cs, h, _ => by
    have : cs = [] := by simpa using h
    subst this; exact ⟨rfl, rfl, by simp [chunks]⟩
  | n + 1, cs, h, hc => by
    have hle : sz ≤ cs.length := by rw [h, Nat.add_mul]; omega
    obtain ⟨h1, h2, h3⟩ := chunks_spec sz hsz n (cs.drop sz) (by rw [List.length_drop, h, Nat.add_mul]; omega) (by
      rw [List.all_eq_true] at hc ⊢; exact fun x hx => hc x (List.mem_of_mem_drop hx))
    have key : (if (sz != 1) = true then D.agg (cs.take sz) else cs.headD .un).cells = cs.take sz := by
      by_cases e : sz = 1
      · subst e
        cases cs with
        | nil => simp at hle
        | cons c cs =>
          simp only [List.all_cons, Bool.and_eq_true] at hc
          have := hc.1
          cases c <;> simp [isCellD] at this <;> rfl
      · simp [e, D.cells]
    refine ⟨?_, ?_, ?_⟩
    · simp only [chunks, flat_cons, key, h1, List.take_append_drop]
    · simp only [chunks, List.length_cons, h2]
    · intro d hd
      simp only [chunks, List.mem_cons] at hd
      rcases hd with hd | hd
      · rw [hd, key, List.length_take]; omega
      · exact h3 d hd
section
variable {P : Program} {num : FuncId → Option Nat} {fid : Nat → FuncId} (hnum : ∀ f g, num f = some g → fid g = f)
  {w : World} {A : Av} {ι : Io} {H : List Ob} {eo : List Nat} {a : Act} {E : Env} {own : Nat → List Nat} (hl : ∀ t, LV fid w A ι true (a.tmps.getD t undef) (lk E t) (own t))
  (hob : ∀ i, ObjOK fid w A ι (ι i) (obAt H i)) {o : Oper} {d : D}
include hnum hl
theorem x_mksl {t e : TypeId} {x : Nat} {sz by_ n : Nat} {z : List D} (ho : o.op = .makeSlice t (.tmp x) (.tmp x)) (ht : P.underlying t = some (.slice e)) (hs : sizeT P e = some sz) (hby : bytesT P e = some by_) (hz : zeroT P e = some z)
    (h0 : 0 < sz) (hb0 : 0 < by_) (hj : natOf (lk E x) = some n) (hbd : n * by_ ≤ 140737488355328) (hro : isROs z = true) (hzl : z.length = sz) (hzc : z.all isCellD = true) :
    Does P fid w A ι H eo a o (.osl true sz (List.replicate n (elemOf z))) none := by
  obtain ⟨k, hk⟩ := natOf_inv (hl x) hj
  obtain ⟨ti, zv, hti, hzv, hlz, h1⟩ := lv_zero (fid := fid) (w := w) (A := A) (ι := ι) hnum hz (r := true)
  obtain ⟨ti2, hti2, hsz⟩ := Option.map_eq_some_iff.1 hs
  obtain ⟨ti3, hti3, hbb⟩ := Option.map_eq_some_iff.1 hby
  rw [hti] at hti2 hti3
  injection hti2 with e1; subst e1
  injection hti3 with e1; subst e1
  have hzs : zv.cells.size = sz := by rw [← Array.length_toList, hlz.length_eq, hzl]
  have hn47 : n ≤ 140737488355328 := Nat.le_trans (Nat.le_mul_of_pos_right n hb0) hbd
  have hbi : (ti.bytes : Int) * (n : Int) ≤ 281474976710656 := by
    rw [hbb, Int.mul_comm]
    have : ((n * by_ : Nat) : Int) ≤ 140737488355328 := by omega
    rw [Int.natCast_mul] at this; omega
  have hrun := run_make (P := P) w t e ti zv ht hti hzv k k n n (by omega) (Int.le_refl _) hbi (by omega)
  simp only [Int.toNat_natCast, hsz] at hrun
  have hmk : (madeCells zv.cells (n * sz)) = ⟨(List.replicate n zv.cells.toList).flatten ++ []⟩ := by
    apply Array.ext'
    have := madeCells_rep zv.cells n (by omega)
    rw [hzs] at this
    simpa using this
  rw [hmk] at hrun
  have hfr := flat_replicate n z hzc
  have hlv : LVs fid w A (fun _ => none) false (List.replicate n zv.cells.toList).flatten (flat (List.replicate n (elemOf z))) [] := by
    rw [hfr.1]; exact ((hlz.ro hro).weak (ι' := fun _ => none)).reps n
  have h1' : ∀ v, v ∈ (List.replicate n zv.cells.toList).flatten → v.oneCell' = true := by
    intro v hv
    obtain ⟨l, hl1, hl2⟩ := List.mem_flatten.1 hv
    have := (List.mem_replicate.1 hl1).2
    subst this
    exact h1 v hl2
  have hln : ((List.replicate n zv.cells.toList).flatten ++ []).length = n * sz := by
    simp [List.length_flatten, hzs]
  refine ⟨_, _, _, newA A w.heap.size, [w.heap.size], ?_, .inl rfl, XR.new (Keep.alloc w A _) (LV.newRow (e := e) (Keep.refl w A _) hlv h1' (fun d hd => ?_) (by simp) (Nat.le_refl n) hln) (by simp) (by simp)⟩
  · simp only [execOp, ho]
    refine run_v ?_
    have hk' : a.eval (.tmp x) = .int k n := hk
    rw [hk']
    exact hrun
  · have := (List.mem_replicate.1 hd).2
    subst this
    rw [hfr.2, hzl]
end
end Lg
