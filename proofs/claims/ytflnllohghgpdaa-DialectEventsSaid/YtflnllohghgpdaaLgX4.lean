import Derived.Test.YtflnllohghgpdaaLgX3
/-
  Operations on memory: what is made, read, stored.
-/
namespace Lg
open Go
set_option linter.unusedVariables false
set_option linter.unusedSimpArgs false
set_option linter.unusedSectionVars false

def Does (P : Program) (fid : Nat → FuncId) (w : World) (A : Av) (ι : Io) (H : List Ob) (eo : List Nat) (a : Act) (o : Oper) (d : D) (u : Option (Nat × Ob)) : Prop :=
  ∃ nx v w' A' O, (execOp a.eval o).run P w = .ok nx w' ∧ (nx = .value v ∨ (nx = .skip ∧ v = undef)) ∧ XR fid w w' A A' ι H eo v d u O
theorem Pure1.does {P : Program} {fid : Nat → FuncId} {w : World} {A : Av} {ι : Io} {H : List Ob} {eo : List Nat} {a : Act} {o : Oper} {d : D} (h : Pure1 P fid w A ι a o d) : Does P fid w A ι H eo a o d none := by
  obtain ⟨v, h1, h2⟩ := h
  exact ⟨_, v, w, A, [], h1, .inl rfl, XR.val h2⟩
theorem okfr0 (n : Nat) : okfr n (0, 0) := .inl rfl
theorem LV.one {fid : Nat → FuncId} {w : World} {A : Av} {ι : Io} {r : Bool} {v : Value} {d : D} {O : List Nat} (h : LV fid w A ι r v d O) (hc : isCellD d = true) : v.oneCell' = true := by
  cases h <;> simp [isCellD] at hc <;> try rfl
  · rename_i h; cases v <;> simp [isSc] at h <;> rfl
  · assumption
theorem LVs.ones {fid : Nat → FuncId} {w : World} {A : Av} {ι : Io} {r : Bool} {vs : List Value} {ds : List D} {O : List Nat} (h : LVs fid w A ι r vs ds O) (hc : ds.all isCellD = true) : ∀ v, v ∈ vs → v.oneCell' = true := by
  induction vs generalizing ds O with
  | nil => intro v hv; cases hv
  | cons u vs ih =>
    cases h with
    | cons _ d O1 _ ds O2 h hs =>
      simp only [List.all_cons, Bool.and_eq_true] at hc
      intro v hv
      rcases List.mem_cons.1 hv with e | e
      · subst e; exact h.one hc.1
      · exact ih hs hc.2 v e

theorem run_newRow (P : Program) (w : World) (t : TypeId) (cs : Array Value) : (newRow t cs).run P w = .ok ⟨w.heap.size, 0, none⟩ (w.alloc (.cells cs t)) := rfl
section
variable {P : Program} {num : FuncId → Option Nat} {fid : Nat → FuncId} (hnum : ∀ f g, num f = some g → fid g = f)
  {w : World} {A : Av} {ι : Io} {H : List Ob} {eo : List Nat} {a : Act} {E : Env} {own : Nat → List Nat} (hl : ∀ t, LV fid w A ι true (a.tmps.getD t undef) (lk E t) (own t))
  (hob : ∀ i, ObjOK fid w A ι (ι i) (obAt H i)) {o : Oper} {d : D}
/-- A new box. -/
theorem XR.box {vs : List Value} {ds : List D} {T : TypeId} {r : Bool} (h : LVs fid w A ι true vs ds []) (h1 : ∀ v, v ∈ vs → v.oneCell' = true) :
    XR fid w (w.alloc (.cells ⟨vs⟩ T)) A (newA A w.heap.size) ι H eo (.pointer (some ⟨w.heap.size, 0, none⟩)) (.obx ds) none [w.heap.size] := by
  have K := Keep.alloc w A (.cells ⟨vs⟩ T)
  refine XR.new K ?_ (by simp) (by simp)
  exact .obx w.heap.size vs ds [] T (0, 0) (alloc_heap_new w _) (okfr0 _) (LVs.keep K (fun _ _ e => e) h (by simp)) h1 (fun off => .inr rfl)
include hnum
theorem x_alloc {t : TypeId} {z : List D} (ho : o.op = .alloc t) (hz : zeroT P t = some z) : Does P fid w A ι H eo a o (.obx z) none := by
  obtain ⟨ti, zv, hti, hzv, hlz, h1⟩ := lv_zero (fid := fid) (w := w) (A := A) (ι := ι) hnum hz (r := true)
  refine ⟨_, _, _, _, _, ?_, .inl rfl, XR.box (T := t) (r := true) hlz h1⟩
  simp only [execOp, ho]
  refine run_v ?_
  have hz0 : (zeroValue t).run P w = .ok zv w := by simp [zeroValue, typeInfo, hti, hzv, Sem.run_bind]
  simp only [Instr.alloc, Sem.run_bind, hz0, Result.andThen_ok, newVar, run_newRow, Sem.run_pure]

include hl
theorem x_box {t : TypeId} {x : Operand} {n : Nat} (ho : o.op = .box t x) (hx : okOpd x = true) (hn : noTrees (ov E (opd num x)).cells = true) (hc : (ov E (opd num x)).cells.all isCellD = true) : Does P fid w A ι H eo a o (.obx (ov E (opd num x)).cells) none := by
  have kx := (lv_opd hnum hl x hx).cells (cells_ne hc)
  rw [kx.noTree hn] at kx
  refine ⟨_, _, _, _, _, ?_, .inl rfl, XR.box (T := t) (r := true) kx (kx.ones hc)⟩
  simp only [execOp, ho]
  refine run_v ?_
  simp only [Instr.box, Sem.run_bind, Result.andThen_ok, newVar, run_newRow, Sem.run_pure]

include hob
omit hnum hl in
/-- What a pointer leads to. -/
theorem cellsAt_lv {v : Value} {O : List Nat} {cs : List D} (h : LV fid w A ι true v d O) (hc : cellsAt H d = some cs) :
    ∃ ad vs, v = .pointer (some ad) ∧ LVs fid w A ι true vs cs [] ∧ ∀ (k : Nat) (u : Value), vs[k]? = some u → w.cell? (ad.add k) = some u := by
  unfold cellsAt at hc
  split at hc
  · injection hc with hc; subst hc
    obtain ⟨ad, vs, e1, e2, h2, h3, h4⟩ := h.inv_ep
    exact ⟨ad, vs, e1, h2.weak, fun k u hk => (h4 k u hk).2⟩
  · rename_i id sz e off
    obtain ⟨b, hi, e1, e2, _⟩ := h.inv_pt
    split at hc
    · rename_i ds hH
      split at hc
      · rename_i he; subst he
        injection hc with hc; subst hc
        have ho := hob id
        rw [obAt_of hH, hi] at ho
        obtain ⟨b', vs, T, fr, eb, h1, h2, h3, h4, h5⟩ := ho
        injection eb with eb; injection eb with eb; subst eb
        refine ⟨_, vs.drop off, e1, h3.drop off, fun k u hk => ?_⟩
        rw [drop_get] at hk
        rw [addr_add]
        refine cell_of h1 ?_
        simpa using hk
      · cases hc
    · rename_i wr sz' ds hH
      split at hc
      · rename_i es; subst es
        split at hc
        · rename_i d0 hd
          injection hc with hc; subst hc
          have ho := hob id
          rw [obAt_of hH, hi] at ho
          rcases ho with ⟨eb, _⟩ | ⟨b', eb, cs, T, fr, vs, h1, h2, hu, h4, h5, h6, h7, h8⟩
          · cases eb
          · injection eb with eb; injection eb with eb; subst eb
            have hg := flat_get hu hd
            have hm : LVs fid w A ι true ((vs.drop (e * sz)).take sz) d0.cells [] := by
              have := (h4.drop (e * sz)).take sz
              rw [hg] at this
              exact this.weak
            refine ⟨_, ((vs.drop (e * sz)).take sz).drop off, e1, hm.drop off, fun k u hk => ?_⟩
            rw [drop_get] at hk
            have hk' := take_get hk
            rw [drop_get] at hk'
            rw [addr_add]
            refine cell_of h1 ?_
            have := h6 _ _ hk'
            rwa [show e * sz + off + k = e * sz + (off + k) by omega]
        · cases hc
      · cases hc
    · cases hc
  · cases hc
include hnum hl
theorem x_load {t : TypeId} {x : Operand} {n : Nat} {ag : Bool} (ho : o.op = .load t x) (h1 : aggT P t = some ag) (h2 : sizeT P t = some n) (hx : okOpd x = true) (h : (cellsAt H (ov E (opd num x))).bind (part ag n) = some d) : Pure1 P fid w A ι a o d := by
  obtain ⟨cs, hc, hp⟩ := Option.bind_eq_some_iff.1 h
  obtain ⟨ad, vs, e1, hv, hr⟩ := cellsAt_lv hob (lv_opd hnum hl x hx) hc
  have key : ∃ v, (loadVar t ad).run P w = .ok v w ∧ LV fid w A ι true v d [] := by
    unfold loadVar
    simp only [Sem.run_bind, run_isAgg h1, Result.andThen_ok]
    unfold part at hp
    cases ag with
    | true =>
      simp only [if_true] at hp ⊢
      split at hp
      · rename_i hle
        injection hp with hp; subst hp
        refine ⟨.agg ⟨vs.take n⟩, ?_, .agg _ _ [] (hv.take n)⟩
        have hlen : (vs.take n).length = n := by rw [List.length_take, hv.length_eq]; omega
        have := run_loadCells_list (P := P) w ad (vs.take n) (fun j v hj => hr j v (take_get hj))
        rw [hlen] at this
        simp only [Sem.run_bind, run_sizeT h2, Result.andThen_ok, this, Sem.run_pure]
      · cases hp
    | false =>
      simp only [Bool.false_eq_true, if_false] at hp ⊢
      split at hp
      · rename_i c cs'
        injection hp with hp; subst hp
        obtain ⟨v, hv1, hv2⟩ := hv.get (k := 0) (d := c) rfl
        refine ⟨v, ?_, hv2⟩
        have := hr 0 v hv1
        have ha : ad.add 0 = ad := by unfold Addr.add; simp
        rw [ha] at this
        simp [run_load, this]
      · cases hp
  obtain ⟨v, hrun, hlv⟩ := key
  refine ⟨v, ?_, hlv⟩
  simp only [execOp, ho]
  refine run_v ?_
  rw [e1]
  simp only [Instr.loadAt, Instr.sureAddr, Sem.run_bind, Sem.run_pure, Result.andThen_ok, hrun]
end
end Lg
