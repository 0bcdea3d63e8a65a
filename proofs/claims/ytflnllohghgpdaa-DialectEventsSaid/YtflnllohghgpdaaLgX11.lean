import Derived.Test.YtflnllohghgpdaaLgX10
/-
  Texts from bytes, bytes from texts.
-/
namespace Lg
open Go
set_option linter.unusedVariables false
set_option linter.unusedSimpArgs false
set_option linter.unusedSectionVars false

theorem u8OfD_inv {d : D} {b : UInt8} (h : u8OfD d = some b) : ∃ n : Int, d = .sc (.int .u8 n) ∧ UInt8.ofNat n.toNat = b := by
  unfold u8OfD at h
  split at h
  · rename_i n
    split at h
    · injection h with h; exact ⟨n, rfl, h⟩
    · cases h
  · cases h
theorem bytesOfD_inv {fid : Nat → FuncId} {w : World} {A : Av} {ι : Io} {r : Bool} : ∀ {ds : List D} {l : List UInt8} {vs : List Value}, bytesOfD ds = some l → LVs fid w A ι r vs ds [] →
    ∃ ns : List Int, vs = ns.map (Value.int .u8) ∧ ns.map (fun n => UInt8.ofNat n.toNat) = l ∧ flat ds = ds
  | [], l, vs, h, hv => by
    simp [bytesOfD] at h; subst h
    exact ⟨[], by simpa using hv.nil_of, rfl, rfl⟩
  | d :: ds, l, vs, h, hv => by
    simp only [bytesOfD] at h
    obtain ⟨b, hb, h⟩ := Option.bind_eq_some_iff.1 h
    obtain ⟨l', hl', rfl⟩ := Option.map_eq_some_iff.1 h
    obtain ⟨n, rfl, hn⟩ := u8OfD_inv hb
    cases vs with
    | nil => cases hv
    | cons v vs =>
      obtain ⟨ns, e1, e2, e3⟩ := bytesOfD_inv hl' hv.uncons.2
      have e0 := hv.uncons.1.inv_int.1
      exact ⟨n :: ns, by rw [e0, e1]; rfl, by simp [hn, e2], by rw [flat_cons, e3]; rfl⟩
theorem bytesOfD_flat : ∀ {ds : List D} {l : List UInt8}, bytesOfD ds = some l → flat ds = ds
  | [], l, h => rfl
  | d :: ds, l, h => by
    simp only [bytesOfD] at h
    obtain ⟨b, hb, h⟩ := Option.bind_eq_some_iff.1 h
    obtain ⟨l', hl', rfl⟩ := Option.map_eq_some_iff.1 h
    obtain ⟨n, rfl, hn⟩ := u8OfD_inv hb
    rw [flat_cons, bytesOfD_flat hl']; rfl
section
variable {P : Program} {num : FuncId → Option Nat} {fid : Nat → FuncId} (hnum : ∀ f g, num f = some g → fid g = f)
  {w : World} {A : Av} {ι : Io} {H : List Ob} {eo : List Nat} {a : Act} {E : Env} {own : Nat → List Nat} (hl : ∀ t, LV fid w A ι true (a.tmps.getD t undef) (lk E t) (own t))
  (hob : ∀ i, ObjOK fid w A ι (ι i) (obAt H i)) {o : Oper} {d : D}
include hnum hl hob
theorem x_b2s {s t e : TypeId} {x : Operand} {sz : Nat} {ds : List D} {l : List UInt8} (ho : o.op = .convert s t x) (h1 : P.underlying s = some (.slice e)) (h2 : P.underlying t = some .string) (h3 : P.underlying e = some (.int .u8)) (hx : okOpd x = true)
    (hs : slD H (ov E (opd num x)) = some (sz, ds)) (h : bytesOfD ds = some l) : Pure1 P fid w A ι a o (.sc (.string ⟨⟨l⟩⟩)) := by
  obtain ⟨ad, cap, vs, e1, hv, hv1, hu, hr⟩ := slD_lv hob (lv_opd hnum hl x hx) hs
  rw [bytesOfD_flat h] at hv
  obtain ⟨ns, rfl, rfl, _⟩ := bytesOfD_inv h hv
  have hlen := hv.length_eq
  refine ⟨_, ?_, .sc _ rfl⟩
  simp only [execOp, ho]
  refine run_v ?_
  rw [e1, run_convert_bytes_string w s t e ad _ cap h1 h3 h2]
  cases ad with
  | none =>
    have : ns = [] := by
      cases ns with
      | nil => rfl
      | cons n ns => obtain ⟨x, e, _⟩ := hr 0 _ rfl; cases e
    subst this
    rfl
  | some ad =>
    have := run_loadCells_list (P := P) w ad (ns.map (Value.int .u8)) (fun j v hj => by obtain ⟨x', e, hx⟩ := hr j v hj; injection e with e; subst e; exact hx)
    rw [hlen] at this
    rw [run_bytesToString w ad ds.length cap ns this, foldl_push_bytes]
    congr 2
    apply ByteArray.ext
    apply Array.ext'
    simp [ByteArray.empty, ByteArray.emptyWithCapacity]
    rfl
omit hob in
theorem x_s2b {s t e : TypeId} {x : Operand} {str : ByteArray} (ho : o.op = .convert s t x) (h1 : P.underlying s = some .string) (h2 : P.underlying t = some (.slice e)) (h3 : P.underlying e = some (.int .u8)) (hx : okOpd x = true)
    (hs : ov E (opd num x) = .sc (.string str)) : Does P fid w A ι H eo a o (.osl true 1 (str.data.toList.map fun b => .sc (.int .u8 b.toNat))) none := by
  have kx := lv_opd hnum hl x hx
  rw [hs] at kx
  have e1 := kx.inv_str.1
  have hrun := Lib.run_convert_string_bytes (P := P) w s t e str h1 h2 h3
  have hcap : str.size ≤ grownCap w str.size 0 e := by
    have : grownCap w str.size 0 e = str.size + (w.tape w.drawn (.appendCap str.size 0 e)) % (2 ^ 63 - str.size) := rfl
    omega
  have hsz : (Lib.bytesCells w e str).size = grownCap w str.size 0 e := by
    unfold Lib.bytesCells
    simp only [Array.size_append, Array.size_map, Array.size_replicate]
    have : str.data.size = str.size := rfl
    omega
  have K : Keep w (Lib.bytesWorld w e str) A (newA A w.heap.size) (fun _ => False) := by
    refine ⟨rfl, rfl, rfl, by rw [Lib.bytesWorld_size]; omega, fun b _ hb => Lib.bytesWorld_at_old w e str b hb, ?_, ?_, ?_, fun b off _ _ h => .inl h⟩
    · intro b off v _ h
      rw [Lib.bytesWorld_old w e str _ (World.block_lt_of_cell? w ⟨b, off, none⟩ h)]; exact h
    · intro b cs T fr h
      exact ⟨cs, fr, by rw [Lib.bytesWorld_at_old w e str b (lt_of_heap h)]; exact h, rfl⟩
    · rintro b off (h | h)
      · exact .inl h
      · exact .inr (by rw [Lib.bytesWorld_size]; omega)
  have hfl : flat (str.data.toList.map fun b => D.sc (.int .u8 b.toNat)) = str.data.toList.map fun b => D.sc (.int .u8 b.toNat) := by
    induction str.data.toList with
    | nil => rfl
    | cons b l ih => simp only [List.map_cons, flat_cons, D.cells, ih]; rfl
  have hlv : LV fid (Lib.bytesWorld w e str) (newA A w.heap.size) ι true (.slice (some ⟨w.heap.size, 0, none⟩) str.size (grownCap w str.size 0 e)) (.osl true 1 (str.data.toList.map fun b => .sc (.int .u8 b.toNat))) [w.heap.size] := by
    have hln : (str.data.toList.map fun b => D.sc (.int .u8 b.toNat)).length = str.size := by simp
    rw [← hln]
    refine .osl w.heap.size _ 1 true _ (str.data.toList.map fun b => .int .u8 b.toNat) _ e _ (Lib.bytesWorld_at_new w e str) (.inr (Nat.le_refl _)) (fun d hd => ?_) ?_ (fun v hv => ?_) (fun k v hk => ?_) (by rw [hln]; exact hcap) (by rw [hln, hsz]; omega) (fun _ _ => .inr rfl) (fun _ _ => .inr rfl)
    · obtain ⟨b, _, rfl⟩ := List.mem_map.1 hd; rfl
    · rw [hfl]
      induction str.data.toList with
      | nil => exact .nil
      | cons b l ih => exact LVs.cons' (.sc _ rfl) ih
    · obtain ⟨b, _, rfl⟩ := List.mem_map.1 hv; rfl
    · unfold Lib.bytesCells
      rw [Array.getElem?_append]
      have hlt : k < str.data.size := by
        rcases Nat.lt_or_ge k str.data.size with h' | h'
        · exact h'
        · rw [List.getElem?_eq_none (by simpa using h')] at hk; cases hk
      rw [if_pos (by simpa using hlt)]
      simpa using hk
  refine ⟨_, _, _, _, _, ?_, .inl rfl, XR.new K hlv (by simp) (by simp)⟩
  simp only [execOp, ho]
  refine run_v ?_
  rw [e1]
  exact hrun
/-- A row that is marked. -/
theorem x_cvb {t e : TypeId} {x : Operand} {id sz off len : Nat} {wr : Bool} {sz' : Nat} {ds : List D} (ho : o.op = .convert t t x) (h1 : P.underlying t = some (.slice e)) (h2 : P.underlying e = some (.int .u8)) (hx : okOpd x = true)
    (hs : ov E (opd num x) = .rf id sz off len) (hH : H[id]? = some (.ow wr sz' ds)) (hlen : 0 < len) : Does P fid w A ι H eo a o (.rf id sz off len) (some (id, .ow wr sz' ds)) := by
  have kx := lv_opd hnum hl x hx
  rw [hs] at kx
  obtain ⟨ad, cap, q, e1, e2, _, hi, g0, g1⟩ := kx.inv_rf
  have hobi := hob id
  rw [obAt_of hH, hi] at hobi
  rcases hobi with ⟨eb, rfl⟩ | ⟨b, eb, cs, T, fr, vs, k1, k2, ku, k4, k5, k6, k7, k8⟩
  · injection eb with eb
    have := (g0 eb).1; omega
  · injection eb with eb
    obtain ⟨m1, m2, cs', T', fr', m3, m4⟩ := g1 b eb
    rcases m1 with rfl | m1
    · -- the marked row
      let fr2 : Nat × Nat := if fr.1 == fr.2 then (cs.size, cs.size + 1) else (min fr.1 cs.size, max fr.2 (cs.size + 1))
      let w' : World := w.freeze ⟨b, cs.size, none⟩ 1
      have hw' : ∀ c, w'.heap[c]? = if c = b then some (.cells cs T fr2) else w.heap[c]? := by
        intro c
        show (w.heap.modify b _)[c]? = _
        rw [Array.getElem?_modify]
        by_cases hc : c = b
        · subst hc; simp [k1, fr2]
        · rw [if_neg (by omega), if_neg hc]
      have hwb : w'.heap[b]? = some (.cells cs T fr2) := by rw [hw', if_pos rfl]
      have hok : okfr cs.size fr2 := by
        by_cases he : fr.1 = fr.2
        · have : fr2 = (cs.size, cs.size + 1) := by show (if _ then _ else _) = _; rw [if_pos (by simpa using he)]
          rw [this]; exact .inr (Nat.le_refl _)
        · have h3 : cs.size ≤ fr.1 := by
            rcases k2 with h | h
            · exact (he h).elim
            · exact h
          have : fr2 = (min fr.1 cs.size, max fr.2 (cs.size + 1)) := by show (if _ then _ else _) = _; rw [if_neg (by simpa using he)]
          rw [this]
          exact .inr (by show cs.size ≤ min fr.1 cs.size; omega)
      have hcell : ∀ c off, w'.cell? ⟨c, off, none⟩ = w.cell? ⟨c, off, none⟩ := by
        intro c off
        by_cases hc : c = b
        · subst hc; simp [World.cell?, hwb, k1]
        · exact cell_of_heap (by rw [hw', if_neg hc]) off
      have hsz : w'.heap.size = w.heap.size := by show (w.heap.modify b _).size = _; simp
      have K : Keep w w' A A (fun c => c = b) := by
        refine ⟨rfl, rfl, rfl, by rw [hsz]; exact Nat.le_refl _, fun c hc _ => by rw [hw', if_neg hc], fun c off v _ h => by rw [hcell]; exact h, ?_, fun _ _ h => .inl h, fun _ _ _ _ h => h⟩
        intro c cs2 T2 fr3 h
        by_cases hc : c = b
        · subst hc
          rw [k1] at h
          injection h with h; injection h with h1 h2 h3
          subst h1; subst h2
          exact ⟨cs, fr2, hwb, rfl⟩
        · exact ⟨cs2, fr3, by rw [hw', if_neg hc]; exact h, rfl⟩
      have hrun : (convert t t (.slice (some ⟨b, off * sz, none⟩) len cap)).run P w = .ok (.slice (some ⟨b, off * sz, none⟩) len cap) w' := by
        have hsh : w.shape? b = some (T, cs.size) := by simp [World.shape?, k1]
        simp [convert, run_underlying h1, run_underlying h2, markStringish, hsh]
        rfl
      refine ⟨_, .slice (some ⟨b, off * sz, none⟩) len cap, w', A, [], ?_, .inl rfl, K.mono (by rintro c rfl; exact .inr ⟨id, _, rfl, by rw [hi, eb]⟩), ?_, ?_, List.nodup_nil, by simp⟩
      · simp only [execOp, ho]
        refine run_v ?_
        rw [e1]
        exact hrun
      · rw [← hs]
        have := LV.keep (ι' := ι) K (fun _ _ e => e) kx (by
          have : ownX own x = [] := by rw [e2]
          rw [this]; simp)
        rw [e2, e1] at this
        rw [hs]; exact this
      · intro i ob hu
        simp only [Option.some.injEq, Prod.mk.injEq] at hu
        obtain ⟨rfl, rfl⟩ := hu
        refine ⟨?_, lt_of_get hH, by rw [obAt_of hH]; rfl⟩
        rw [hi, eb]
        exact .inr ⟨b, rfl, cs, T, fr2, vs, hwb, hok, ku, LVs.keep K (fun _ _ e => e) k4 (by simp), k5, k6, k7, k8⟩
    · omega
end
end Lg
