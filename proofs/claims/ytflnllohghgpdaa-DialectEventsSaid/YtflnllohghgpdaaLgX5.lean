import Derived.Test.YtflnllohghgpdaaLgX4
/-
  Operations on memory: stores.
-/
namespace Lg
open Go
set_option linter.unusedVariables false
set_option linter.unusedSimpArgs false
set_option linter.unusedSectionVars false

theorem flat_split {ds : List D} {sz : Nat} (hu : ∀ d, d ∈ ds → d.cells.length = sz) {e : Nat} {d : D} (h : ds[e]? = some d) : flat ds = (flat ds).take (e * sz) ++ (d.cells ++ (flat ds).drop (e * sz + sz)) := by
  have := flat_get hu h
  conv => lhs; rw [← List.take_append_drop (e * sz) (flat ds)]
  congr 1
  rw [← List.drop_drop]
  conv => lhs; rw [← List.take_append_drop sz ((flat ds).drop (e * sz))]
  rw [this]
theorem flat_set {ds : List D} {sz : Nat} (hu : ∀ d, d ∈ ds → d.cells.length = sz) {e : Nat} {d d' : D} (h : ds[e]? = some d) : flat (ds.set e d') = (flat ds).take (e * sz) ++ (d'.cells ++ (flat ds).drop (e * sz + sz)) := by
  have hlt : e < ds.length := by
    rcases Nat.lt_or_ge e ds.length with h' | h'
    · exact h'
    · rw [List.getElem?_eq_none h'] at h; cases h
  have happ : ∀ l1 l2 : List D, flat (l1 ++ l2) = flat l1 ++ flat l2 := fun l1 l2 => by simp [flat]
  rw [List.set_eq_take_append_cons_drop, if_pos hlt, happ, flat_cons, ← flat_take hu, ← flat_drop hu, Nat.add_mul, Nat.one_mul]
/-- One element's cells turned are cells of the row turned. -/
theorem flat_put {ds : List D} {sz : Nat} (hu : ∀ d, d ∈ ds → d.cells.length = sz) {e off : Nat} {d d' : D} {es : List D} (h : ds[e]? = some d) (hp : putCells d.cells off es = some d'.cells) :
    putCells (flat ds) (e * sz + off) es = some (flat (ds.set e d')) := by
  obtain ⟨h1, h2⟩ := putCells_some hp
  have hd := hu d (List.mem_of_getElem? h)
  have hs := flat_split hu h
  have hfl := flat_len hu
  have hlt : e < ds.length := by
    rcases Nat.lt_or_ge e ds.length with h' | h'
    · exact h'
    · rw [List.getElem?_eq_none h'] at h; cases h
  have hle : e * sz + sz ≤ (flat ds).length := by
    rw [hfl]
    have : (e + 1) * sz ≤ ds.length * sz := Nat.mul_le_mul_right _ hlt
    rw [Nat.add_mul] at this; omega
  unfold putCells
  rw [if_pos (by omega)]
  congr 1
  rw [flat_set hu h, h2]
  generalize hF : flat ds = F at *
  have hpl : (F.take (e * sz)).length = e * sz := by simp; omega
  have e1 : F.take (e * sz + off) = F.take (e * sz) ++ d.cells.take off := by
    conv => lhs; rw [hs]
    rw [List.take_append, hpl, List.take_of_length_le (by omega), show e * sz + off - e * sz = off by omega, List.take_append]
    rw [show off - d.cells.length = 0 by omega]; simp
  have e2 : F.drop (e * sz + off + es.length) = d.cells.drop (off + es.length) ++ F.drop (e * sz + sz) := by
    conv => lhs; rw [hs]
    rw [List.drop_append, hpl, List.drop_of_length_le (by omega), show e * sz + off + es.length - e * sz = off + es.length by omega, List.drop_append]
    rw [show off + es.length - d.cells.length = 0 by omega]; simp
  rw [e1, e2]
  simp
theorem setRow_lv {fid : Nat → FuncId} {w : World} {A : Av} {b : Nat} {cs : Array Value} {T : TypeId} {fr : Nat × Nat} {us : List Value} {o : Nat} (hb : w.heap[b]? = some (.cells cs T fr)) (hle : o + us.length ≤ cs.size)
    (hA : ∀ k, k < us.length → A b (o + k)) : Keep w (w.setRow b ⟨cs.toList.take o ++ us ++ cs.toList.drop (o + us.length)⟩) A A (fun x => x = b) := by
  refine Keep.setRow hb (by simp; omega) fun off hn => ?_
  have := splice_get cs.toList us o (by simpa using hle) off
  simp only [List.getElem?_toArray] at this ⊢
  have h2 : (⟨cs.toList.take o ++ us ++ cs.toList.drop (o + us.length)⟩ : Array Value)[off]? = (cs.toList.take o ++ us ++ cs.toList.drop (o + us.length))[off]? := by simp
  rw [this]
  split
  · simp
  · split
    · rename_i h3 h4
      exfalso
      exact hn (by have := hA (off - o) (by omega); rwa [show o + (off - o) = off by omega] at this)
    · simp

section
variable {P : Program} {num : FuncId → Option Nat} {fid : Nat → FuncId} (hnum : ∀ f g, num f = some g → fid g = f)
  {w : World} {A : Av} {ι : Io} {H : List Ob} {eo : List Nat} {a : Act} {E : Env} {own : Nat → List Nat} (hl : ∀ t, LV fid w A ι true (a.tmps.getD t undef) (lk E t) (own t))
  (hob : ∀ i, ObjOK fid w A ι (ι i) (obAt H i)) {o : Oper} {d : D}
include hob
theorem store_lv {v : Value} {dv dx : D} {n : Nat} {xv : Value} {O : List Nat} {u : Option (Nat × Ob)} (hv : LV fid w A ι true v dv []) (hc : dv.cells.all isCellD = true) (hx : LV fid w A ι true xv dx O) (h : storeD H n dv dx = some (d, u)) :
    ∃ b off w', xv = .pointer (some ⟨b, off, none⟩) ∧ (storeCells ⟨b, off, none⟩ v.cells.toList 0).run P w = .ok () w' ∧ v.cells.size = n ∧ XR fid w w' A A ι H eo undef d u [] := by
  unfold storeD at h
  split at h
  · rename_i id sz e off
    obtain ⟨b, hi, e1, e2, _⟩ := hx.inv_pt
    have hvc := hv.cells (cells_ne hc)
    have hlen := hvc.length_eq
    have hones := hvc.ones hc
    have hus : v.cells.toList.length = v.cells.size := by simp
    split at h
    · rename_i ds hH
      have hob1 := hob id
      rw [obAt_of hH, hi] at hob1
      obtain ⟨b', vs, T, fr, eb, h1, h2, h3, h4, h5⟩ := hob1
      injection eb with eb; injection eb with eb; subst eb
      split at h
      · rename_i hh
        obtain ⟨rfl, hn⟩ := hh
        obtain ⟨ds', hp, he⟩ := Option.map_eq_some_iff.1 h
        simp only [Prod.mk.injEq] at he
        obtain ⟨rfl, rfl⟩ := he
        obtain ⟨hle, rfl⟩ := putCells_some hp
        have hle' : off + v.cells.toList.length ≤ vs.length := by rw [h3.length_eq]; omega
        have hrun := run_storeCells_okfr P b off T fr v.cells.toList 0 ⟨vs⟩ w h1 (by simpa using h2) (by simpa using hle') hones
        have K := setRow_lv (fid := fid) (A := A) (us := v.cells.toList) (o := off) h1 (by simpa using hle') (fun k _ => h5 _)
        refine ⟨b, off, _, by simpa using e1, hrun, by rw [← hn, ← hlen, hus], ?_⟩
        simp only [Nat.add_zero] at K ⊢
        refine ⟨K.mono (by rintro x rfl; exact .inr ⟨id, _, rfl, hi⟩), .un _, ?_, List.nodup_nil, by simp⟩
        intro i ob hu
        injection hu with hu
        simp only [Prod.mk.injEq] at hu
        obtain ⟨rfl, rfl⟩ := hu
        refine ⟨⟨b, _, T, fr, hi, setRow_heap w b _ _ T fr h1, by simp only [splice_size _ _ _ hle']; exact h2, LVs.keep K (fun _ _ e => e) (h3.splice hvc) (by simp), ?_, h5⟩, lt_of_get hH, by rw [obAt_of hH]; rfl⟩
        intro x hx
        simp only [List.mem_append] at hx
        rcases hx with (hx | hx) | hx
        · exact h4 x (List.mem_of_mem_take hx)
        · exact hones x hx
        · exact h4 x (List.mem_of_mem_drop hx)
      · cases h
    · rename_i sz' ds hH
      have hob1 := hob id
      rw [obAt_of hH, hi] at hob1
      split at h
      · rename_i hh
        obtain ⟨rfl, hn, hro⟩ := hh
        obtain ⟨d0, hd, h⟩ := Option.bind_eq_some_iff.1 h
        obtain ⟨d', hd', he⟩ := Option.map_eq_some_iff.1 h
        simp only [Prod.mk.injEq] at he
        obtain ⟨rfl, rfl⟩ := he
        rcases hob1 with ⟨eb, _⟩ | ⟨b', eb, cs, T, fr, vs, h1, h2, hu, h4, h5, h6, h7, h8⟩
        · cases eb
        · injection eb with eb; injection eb with eb; subst eb
          have hd0 := hu d0 (List.mem_of_getElem? hd)
          have hput : putCells d0.cells off dv.cells = some d'.cells := by
            split at hd'
            · rename_i hz
              obtain ⟨rfl, rfl⟩ := hz
              injection hd' with hd'; subst hd'
              unfold putCells
              rw [if_pos (by omega)]
              simp; omega
            · try rw [if_pos hd0] at hd'
              obtain ⟨x, hx1, hx2⟩ := Option.map_eq_some_iff.1 hd'
              subst hx2; exact hx1
          have hfp := flat_put hu hd hput
          obtain ⟨hle, hfe⟩ := putCells_some hfp
          have hvl := h4.length_eq
          have hvcs : vs.length ≤ cs.size := by
            rcases Nat.lt_or_ge cs.size vs.length with h' | h'
            · exfalso
              have := h6 cs.size _ (List.getElem?_eq_getElem h')
              simp at this
            · exact h'
          have hle' : e * sz + off + v.cells.toList.length ≤ cs.size := by omega
          have hrun := run_storeCells_okfr P b (e * sz + off) T fr v.cells.toList 0 cs w h1 h2 (by simpa using hle') hones
          have K := setRow_lv (fid := fid) (A := A) (us := v.cells.toList) (o := e * sz + off) h1 hle' (fun k _ => h7 rfl _)
          refine ⟨b, e * sz + off, _, e1, hrun, by rw [← hn, ← hlen, hus], ?_⟩
          simp only [Nat.add_zero] at K ⊢
          refine ⟨K.mono (by rintro x rfl; exact .inr ⟨id, _, rfl, hi⟩), .un _, ?_, List.nodup_nil, by simp⟩
          intro i ob hu'
          injection hu' with hu'
          simp only [Prod.mk.injEq] at hu'
          obtain ⟨rfl, rfl⟩ := hu'
          have hvro := (hv.ro hro).cells (cells_ne hc)
          have hlv' : LVs fid w A (fun _ => none) false (vs.take (e * sz + off) ++ v.cells.toList ++ vs.drop (e * sz + off + v.cells.toList.length)) (flat (ds.set e d')) [] := by
            rw [hfe]; exact LVs.weak (h4.splice hvro.weak)
          have hvle : e * sz + off + v.cells.toList.length ≤ vs.length := by omega
          have hd'l : d'.cells.length = sz := by
            obtain ⟨q1, q2⟩ := putCells_some hput
            rw [q2]; simp; omega
          refine ⟨.inr ⟨b, hi, _, T, fr, _, setRow_heap w b _ _ T fr h1, ?_, ?_, LVs.keep K (fun _ _ e => e) hlv' (by simp), ?_, ?_, fun _ => h7 rfl, ?_⟩, lt_of_get hH, by rw [obAt_of hH]; rfl⟩
          · have : (⟨cs.toList.take (e * sz + off) ++ v.cells.toList ++ cs.toList.drop (e * sz + off + v.cells.toList.length)⟩ : Array Value).size = cs.size := by simp; omega
            rw [this]; exact h2
          · intro x hx
            rcases List.mem_or_eq_of_mem_set hx with hx | hx
            · exact hu x hx
            · rw [hx]; exact hd'l
          · intro x hx
            simp only [List.mem_append] at hx
            rcases hx with (hx | hx) | hx
            · exact h5 x (List.mem_of_mem_take hx)
            · exact hones x hx
            · exact h5 x (List.mem_of_mem_drop hx)
          · intro k x hk
            rw [splice_get vs _ _ hvle] at hk
            have h2' : (⟨cs.toList.take (e * sz + off) ++ v.cells.toList ++ cs.toList.drop (e * sz + off + v.cells.toList.length)⟩ : Array Value)[k]? = (cs.toList.take (e * sz + off) ++ v.cells.toList ++ cs.toList.drop (e * sz + off + v.cells.toList.length))[k]? := by simp
            rw [h2', splice_get cs.toList _ _ (by simpa using hle')]
            split at hk
            · rename_i hk1; rw [if_pos hk1]; simpa using h6 k x hk
            · rename_i hk1
              rw [if_neg hk1]
              split at hk
              · rename_i hk2; rw [if_pos hk2]; exact hk
              · rename_i hk2; rw [if_neg hk2]; simpa using h6 k x hk
          · intro off' ho; exact h7 rfl off'
      · cases h
    · cases h
  · cases h
include hnum hl
theorem x_store {t : TypeId} {x v : Operand} {n : Nat} {u : Option (Nat × Ob)} (ho : o.op = .store t x v) (hs : sizeT P t = some n) (hx : okOpd x = true) (hv : okOpd v = true) (hn : noTree (ov E (opd num v)) = true) (hc : (ov E (opd num v)).cells.all isCellD = true)
    (h : storeD H n (ov E (opd num v)) (ov E (opd num x)) = some (d, u)) : Does P fid w A ι H eo a o d u := by
  have kv := lv_opd hnum hl v hv
  rw [kv.noTree hn] at kv
  obtain ⟨b, off, w', e1, hrun, hsz, X⟩ := store_lv (P := P) (eo := eo) hob kv hc (lv_opd hnum hl x hx) h
  refine ⟨_, undef, w', A, [], ?_, .inr ⟨rfl, rfl⟩, X⟩
  simp only [execOp, ho]
  refine run_u ?_
  rw [e1]
  simp only [Instr.storeAt, Instr.sureAddr, Sem.run_bind, Sem.run_pure, Result.andThen_ok, storeVar, run_sizeT hs, hsz]
  simp [hrun]
end
end Lg
