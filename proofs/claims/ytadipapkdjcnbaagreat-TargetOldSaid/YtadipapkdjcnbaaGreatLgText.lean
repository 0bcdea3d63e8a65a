import Derived.Shelf.Strings.BuilderK
import Derived.Shelf.Strings.BuilderRune
import Derived.Test.YtadipapkdjcnbaaGreatRows
import Derived.WalkKit
import Derived.BigCall
import Derived.Test.YtadipapkdjcnbaaGreatLgE3
/-
  strings.Builder's writer, and grid.Text: the runes of a row's cells that are no right halves.
-/
namespace Go.Proofs.YtadipapkdjcnbaaGreat.LgText
open Go.Shelf Go.RowKit Go.Proofs
set_option linter.unusedVariables false
set_option linter.unusedSimpArgs false
def ren169 : Go.Shelf.Ren := ⟨fun | 169 => 21 | n => n, fun | 70 => 60 | 9 => 9 | 0 => 0 | 72 => 62 | 37 => 22 | 127 => 87 | 3 => 3 | 5 => 5 | n => n, fun | n => n⟩
theorem lays169 : Go.Proofs.Lays.n169 Tryz.prog ren169 := {
  mixed := by kernel_rfl
  f169 := Tryz.func21.trans (congrArg some (by kernel_rfl))
  t0 := Tryz.underlying0
  a0 := Tryz.isAgg0
  z0 := Tryz.sizeOf0
  v0 := Tryz.zeroValue0
  t3 := Tryz.underlying3
  a3 := Tryz.isAgg3
  z3 := Tryz.sizeOf3
  v3 := Tryz.zeroValue3
  t9 := Tryz.underlying9
  a9 := Tryz.isAgg9
  z9 := Tryz.sizeOf9
  v9 := Tryz.zeroValue9
  t37 := Tryz.underlying22
  a37 := Tryz.isAgg22
  z37 := Tryz.sizeOf22
  v37 := Tryz.zeroValue22
  t70 := Tryz.underlying60
  a70 := Tryz.isAgg60
  z70 := Tryz.sizeOf60
  v70 := Tryz.zeroValue60
  t72 := Tryz.underlying62
  a72 := Tryz.isAgg62
  z72 := Tryz.sizeOf62
  v72 := Tryz.zeroValue62
  t127 := Tryz.underlying87
  a127 := Tryz.isAgg87
  z127 := Tryz.sizeOf87
  v127 := Tryz.zeroValue87 }
theorem extra169 : Builder.Extra Tryz.prog ren169 := {
  sizeBuilder := by kernel_rfl
  liesBuilder := by kernel_rfl
  t5 := Tryz.underlying5
  a5 := Tryz.isAgg5
  z5 := Tryz.sizeOf5
  v5 := Tryz.zeroValue5
  infoByte := by kernel_rfl
  cellsByte := by kernel_rfl
  sizeByte := by kernel_rfl
  neB5 := by decide }
def ren242 : Go.Shelf.Ren := ⟨fun | 242 => 33 | 278 => 52 | n => n, fun | 37 => 22 | 21 => 21 | 51 => 105 | 4 => 4 | 72 => 62 | 5 => 5 | 46 => 106 | n => n, fun | n => n⟩
theorem lays242 : Go.Proofs.Lays.n242 Tryz.prog ren242 := {
  mixed := by kernel_rfl
  f242 := Tryz.func33.trans (congrArg some (by kernel_rfl))
  f278 := Tryz.func52.trans (congrArg some (by kernel_rfl))
  t4 := Tryz.underlying4
  a4 := Tryz.isAgg4
  z4 := Tryz.sizeOf4
  v4 := Tryz.zeroValue4
  t5 := Tryz.underlying5
  a5 := Tryz.isAgg5
  z5 := Tryz.sizeOf5
  v5 := Tryz.zeroValue5
  t21 := Tryz.underlying21
  a21 := Tryz.isAgg21
  z21 := Tryz.sizeOf21
  v21 := Tryz.zeroValue21
  t37 := Tryz.underlying22
  a37 := Tryz.isAgg22
  z37 := Tryz.sizeOf22
  v37 := Tryz.zeroValue22
  t46 := Tryz.underlying106
  a46 := Tryz.isAgg106
  z46 := Tryz.sizeOf106
  v46 := Tryz.zeroValue106
  t51 := Tryz.underlying105
  a51 := Tryz.isAgg105
  z51 := Tryz.sizeOf105
  v51 := Tryz.zeroValue105 }
theorem extra242 : Builder.Extra Tryz.prog ren242 := {
  sizeBuilder := by kernel_rfl
  liesBuilder := by kernel_rfl
  t5 := Tryz.underlying5
  a5 := Tryz.isAgg5
  z5 := Tryz.sizeOf5
  v5 := Tryz.zeroValue5
  infoByte := by kernel_rfl
  cellsByte := by kernel_rfl
  sizeByte := by kernel_rfl
  neB5 := by decide }
set_option maxHeartbeats 1000000 in
set_option maxRecDepth 100000 in
theorem cc_used (b : Nat) (w : World) (h0 : w.cell? ⟨b, 0, none⟩ = some (.pointer (some ⟨b, 0, none⟩))) :
    Calls Tryz.prog 32 #[.pointer (some ⟨b, 0, none⟩)] w fun e w' => e = .returned (.tuple #[]) ∧ w' = w := by
  obtain ⟨j, hj, _⟩ := Option.map_eq_some_iff.1 extra169.sizeBuilder
  go_enter Tryz.func32, Tryz.ntmps32
  go_wp2
  rw [Lib.run_neq_ptr_same w _ Tryz.underlying60 hj]
  go_wp2
  go_end0
  exact ⟨rfl, rfl⟩
set_option maxHeartbeats 1000000 in
set_option maxRecDepth 100000 in
theorem cc_fresh (b : Nat) (w : World) (h0 : w.cell? ⟨b, 0, none⟩ = some (.pointer none)) (hsh : w.shape? b = some (62, 2)) (hfz : w.frozen? ⟨b, 0, none⟩ = false) :
    Calls Tryz.prog 32 #[.pointer (some ⟨b, 0, none⟩)] w fun e w' => e = .returned (.tuple #[]) ∧ w' = w.setCell ⟨b, 0, none⟩ (.pointer (some ⟨b, 0, none⟩)) := by
  obtain ⟨j, hj, hjs⟩ := Option.map_eq_some_iff.1 extra169.sizeBuilder
  go_enter Tryz.func32, Tryz.ntmps32
  go_wp2
  rw [Lib.run_to_unsafe w ⟨b, 0, none⟩ Tryz.underlying60 Tryz.underlying103 hj (by rw [hjs]; decide) hsh (Nat.zero_lt_succ 1)]
  simp only [Result.andThen]
  rw [Oper.upon_value]
  go_wp2
  rw [run_callFunc_extern Tryz.func51 (by kernel_rfl) (by kernel_rfl) (by kernel_rfl) (e := Extern.AbiNoEscape.same) (by kernel_rfl)]
  rw [Lib.run_noEscape]
  simp only [Result.andThen]
  rw [Oper.upon_value]
  go_wp2
  rw [Lib.run_from_unsafe w ⟨b, 0, none⟩ Tryz.underlying103 Tryz.underlying60 hj hsh extra169.liesBuilder]
  simp only [Result.andThen]
  rw [Oper.upon_value]
  go_wp2
  go_end0
  exact ⟨rfl, rfl⟩
theorem copyCheck (B b : Nat) (bs : List Value) (w : World) (h : Lib.IsBuilderF 62 5 B b bs w) :
    Calls Tryz.prog 32 #[.pointer (some ⟨b, 0, none⟩)] w fun e w' => e = .returned (.tuple #[]) ∧ (Lib.BuilderAtF 62 5 B b (.pointer (some ⟨b, 0, none⟩)) bs w' ∧ Below B w w' ∧ Lib.OthersKept 5 (some b) w w') := by
  rcases h with h | h
  · refine (cc_fresh b w h.cell0 h.shape h.frozen0).mono ?_
    rintro e w' ⟨rfl, rfl⟩
    exact ⟨rfl, h.used _, (Below.refl _ w).setCell (p := ⟨b, 0, none⟩) h.1 _, (Lib.OthersKept.refl _ _ w).setCell ⟨b, 0, none⟩ rfl _⟩
  · refine (cc_used b w h.cell0).mono ?_
    rintro e w' ⟨rfl, rfl⟩
    exact ⟨rfl, h, Below.refl _ _, Lib.OthersKept.refl _ _ _⟩
set_option maxHeartbeats 4000000 in
set_option maxRecDepth 100000 in
theorem writeRune (B b : Nat) (bs : List Value) (r : Int) (hr0 : -2147483648 ≤ r) (hr1 : r ≤ 2147483647) (w : World) (h : Lib.IsBuilderF 62 5 B b bs w) (hlen : bs.length + 4 ≤ 140737488355328) (hBw : B ≤ w.heap.size) :
    Calls Tryz.prog 20 #[.pointer (some ⟨b, 0, none⟩), .int .i32 r] w fun e w' => e = .returned (.tuple #[.int .i64 (Lib.runeCells r).length, .nilIface]) ∧ (Lib.BuilderAtF 62 5 B b (.pointer (some ⟨b, 0, none⟩)) (bs ++ Lib.runeCells r) w' ∧ Below B w w' ∧ Lib.OthersKept 5 (some b) w w') := by
  have hk4 := Lib.runeCells_le r
  go_enter Tryz.func20, Tryz.ntmps20
  go_wp2_with (go_at_call 32; refine (copyCheck B b bs _ h).mono ?_)
  rintro e w1 ⟨rfl, h1, hb1, hk1⟩
  obtain ⟨hB, v, hbk, hown, hne⟩ := h1
  obtain ⟨ao, cap, rfl⟩ : ∃ ao cap, v = .slice ao bs.length cap := by
    rcases hown.2 with ⟨hv, h0⟩ | ⟨g, cap, cur, fz, hv, _⟩
    · exact ⟨none, 0, by rw [hv, h0]⟩
    · exact ⟨_, _, hv⟩
  have c0 : w1.cell? ⟨b, 0, none⟩ = some (.pointer (some ⟨b, 0, none⟩)) := by rw [Lib.cell_of_heap hbk]; rfl
  have c1 : w1.cell? ⟨b, 1, none⟩ = some (.slice ao bs.length cap) := by rw [Lib.cell_of_heap hbk]; rfl
  go_wp2_with (go_at_call 33; refine (Any.utf8_AppendRune_own lays242 extra242 B _ bs.length bs r hr0 hr1 _ hown hlen (by have := hb1.size; omega)).mono ?_)
  rintro e w2 ⟨v', rfl, hown', o, hgrow⟩
  have hlt : b < w1.heap.size := by
    rcases Nat.lt_or_ge b w1.heap.size with h' | h'
    · exact h'
    · simp [Array.getElem?_eq_none h'] at hbk
  have hb2 : w2.heap[b]? = some (.cells #[.pointer (some ⟨b, 0, none⟩), .slice ao bs.length cap] 62 (0, 0)) := by
    rw [hgrow.block b (by simp; omega) (fun e => hne e.symm), Lib.alloc_old w1 _ b hlt]
    exact hbk
  have d0 : w2.cell? ⟨b, 0, none⟩ = some (.pointer (some ⟨b, 0, none⟩)) := by rw [Lib.cell_of_heap hb2]; rfl
  have d1 : w2.cell? ⟨b, 1, none⟩ = some (.slice ao bs.length cap) := by rw [Lib.cell_of_heap hb2]; rfl
  have f1 : w2.frozen? ⟨b, 1, none⟩ = false := Lib.frozen_of_heap hb2 1
  obtain ⟨g, cap', rfl⟩ : ∃ g cap', v' = .slice (some ⟨g, 0, none⟩) (bs.length + (Lib.runeCells r).length) cap' := by
    rcases hown'.2 with ⟨_, h0⟩ | ⟨g, cap', cur, fz, hv, _⟩
    · omega
    · exact ⟨g, cap', hv⟩
  go_wp2
  go_ret2
  refine ⟨?_, ?_, ?_, ((hk1.alloc _).grown hgrow (Lib.ownsRowF_kind (hown.alloc _))).setCell ⟨b, 1, none⟩ rfl _⟩
  · have e : ((bs.length : Int) + ((Lib.runeCells r).length : Int) - (bs.length : Int)) = ((Lib.runeCells r).length : Int) := by omega
    simp [e]
  · exact Lib.BuilderAtF.put (T := 62) (e := 5) hB hb2 (bs' := bs ++ Lib.runeCells r) (by rw [List.length_append]; exact hown') (by decide)
  · exact ((hb1.alloc (by have := hb1.size; omega) _).grown hgrow (by have := hb1.size; simp; omega) (fun k hk => (hown.lt k hk).1)).setCell (p := ⟨b, 1, none⟩) hB _
set_option maxHeartbeats 2000000 in
set_option maxRecDepth 100000 in
theorem place_walk (rows cols r : Int) (v : Value) (w : World) (h0 : 0 ≤ r) (h1 : r < rows) (h2 : 0 < cols) :
    Calls Tryz.prog 18 #[.agg #[.int .i64 rows, .int .i64 cols, v], .int .i64 r, .int .i64 0] w fun e w' => e = .returned (.bool true) ∧ w' = w.alloc (.cells #[.int .i64 rows, .int .i64 cols, v] 29) := by
  go_enter Tryz.func18, Tryz.ntmps18
  go_wp2
  go_ret
  exact ⟨rfl, rfl⟩
set_option maxHeartbeats 2000000 in
set_option maxRecDepth 100000 in
theorem row_walk (rows cols r A Z : Int) (b o n cap A' L K : Nat) (w : World) (h0 : wrap64 (r * cols) = A) (h1 : wrap64 (wrap64 (r + 1) * cols) = Z) (h2 : 0 ≤ A) (h3 : A ≤ Z) (h4 : Z ≤ cap) (h5 : A < cap) (hA' : A.toNat = A') (hL : Z.toNat - A.toNat = L) (hK : cap - A.toNat = K) :
    Calls Tryz.prog 19 #[.agg #[.int .i64 rows, .int .i64 cols, .slice (some ⟨b, o, none⟩) n cap], .int .i64 r] w fun e w' => e = .returned (.slice (some ⟨b, o + A' * 5, none⟩) L K) ∧ w' = w.alloc (.cells #[.int .i64 rows, .int .i64 cols, .slice (some ⟨b, o, none⟩) n cap] 29) := by
  go_enter Tryz.func19, Tryz.ntmps19
  go_wp2
  go_ret
  subst hA' hL hK
  exact ⟨rfl, rfl⟩
open Lg in
set_option maxHeartbeats 4000000 in
set_option maxRecDepth 100000 in
theorem text_walk (rows cols r : Nat) (b o n cap : Nat) (l : List Cel) (w : World) (hr : r < rows) (hc : 0 < cols) (hl : l.length = cols) (hn : (r + 1) * cols ≤ n) (hcap : n ≤ cap) (hb : n ≤ 100000) (hrow : rows ≤ 10000) (hcol : cols ≤ 10000)
    (hcell : CelsAt w b (o + r * cols * 5) l) :
    Calls Tryz.prog 8 #[.agg #[.int .i64 rows, .int .i64 cols, .slice (some ⟨b, o, none⟩) n cap], .int .i64 r] w fun e w' => e = .returned (.string ⟨(textL l).toArray⟩) ∧ Below w.heap.size w w' := by
  obtain ⟨A, hA⟩ : ∃ A, A = r * cols := ⟨_, rfl⟩
  have hA1 : (r + 1) * cols = A + cols := by rw [hA, Nat.add_mul]; omega
  have eA : (r : Int) * (cols : Int) = (A : Int) := by rw [hA]; simp
  have eA1 : ((r : Int) + 1) * (cols : Int) = ((A + cols : Nat) : Int) := by rw [← hA1]; simp
  rw [hA1] at hn
  rw [← hA] at hcell
  have w1 : wrap64 ((r : Int) * (cols : Int)) = (A : Int) := by rw [eA]; unfold wrap64; omega
  have w0 : wrap64 ((r : Int) + 1) = (r : Int) + 1 := by unfold wrap64; omega
  have w2 : wrap64 (wrap64 ((r : Int) + 1) * (cols : Int)) = ((A + cols : Nat) : Int) := by rw [w0, eA1]; unfold wrap64; omega
  clear eA eA1 hA1 w0 hA
  go_enter Tryz.func8, Tryz.ntmps8
  go_wp2_with (go_at_call 18; refine (place_walk rows cols r _ _ (by omega) (by omega) (by omega)).mono ?_)
  rintro e wa ⟨rfl, rfl⟩
  go_wp2_with (go_at_call 19; refine (row_walk rows cols r A (A + cols : Nat) b o n cap A cols (cap - A) _ w1 w2 (by omega) (by omega) (by omega) (by omega) (by omega) (by omega) (by omega)).mono ?_)
  rintro e wb ⟨rfl, rfl⟩
  go_wp2
  go_loopw [16] (fun i wr => ∃ (k : Nat) (acc : List UInt8), i = .int .i64 k ∧ k ≤ cols ∧ Lib.IsBuilderF 62 5 (w.heap.size + 1 + 1) (w.heap.size + 1 + 1) (Lib.byteCells acc) wr ∧ Below w.heap.size w wr ∧ acc = textL (l.take k) ∧ acc.length ≤ 4 * k) (fun i _ => cols - (intOf i).toNat)
  case atStart =>
    have h0 := (Lib.IsBuilderF.of (Lib.fresh_isBuilder 62 5 ((w.alloc (.cells #[.int .i64 rows, .int .i64 cols, .slice (some ⟨b, o, none⟩) n cap] 29)).alloc (.cells #[.int .i64 rows, .int .i64 cols, .slice (some ⟨b, o, none⟩) n cap] 29)))).alloc (.cells #[.int .i64 rows, .int .i64 cols, .slice (some ⟨b, o, none⟩) n cap] 29)
    have h1 := (((Below.refl w.heap.size w).alloc (Nat.le_refl _) (.cells #[.int .i64 rows, .int .i64 cols, .slice (some ⟨b, o, none⟩) n cap] 29)).alloc (by simp) (.cells #[.int .i64 rows, .int .i64 cols, .slice (some ⟨b, o, none⟩) n cap] 29)).alloc (by simp; omega) (.cells #[.pointer none, .slice none 0 0] 62)
    exact ⟨0, [], rfl, Nat.zero_le _, by simpa [Lib.byteCells] using h0, h1.alloc (by simp; omega) _, rfl, by simp⟩
  case round =>
    obtain ⟨k, acc, rfl, hk, hI, hbw, hacc, hal⟩ := hrel
    by_cases hlt : k < cols
    · obtain ⟨c, hc⟩ : ∃ c, l[k]? = some c := ⟨_, List.getElem?_eq_getElem (by omega)⟩
      obtain ⟨⟨q0, q1⟩, d0, d1, d2, d3, d4⟩ := hcell k c hc
      have hbs : b < w.heap.size := World.block_lt_of_cell? w _ d0
      have m : ∀ i, wr.cell? ⟨b, i, none⟩ = w.cell? ⟨b, i, none⟩ := fun i => hbw.cell (p := ⟨b, i, none⟩) hbs
      rw [← m] at d0 d1 d2 d3 d4
      clear m
      have hlt' : (k : Int) < cols := by omega
      have htk : l.take (k + 1) = l.take k ++ [c] := take_snoc hc
      have hsz := hbw.size
      have hB : w.heap.size + 1 + 1 ≤ wr.heap.size := by
        have : w.heap.size + 1 + 1 < wr.heap.size := by rcases hI with h | h <;> exact h.lt
        omega
      by_cases h2 : c.k = 2
      · go_wp2
        go_roundw
        case rel => exact ⟨k + 1, acc, by simp, by omega, hI.alloc _, hbw.alloc hsz _, by rw [htk, hacc]; simp [textL, h2], by omega⟩
        case measure =>
          simp [intOf]
          omega
      · go_wp2_with (go_at_call 20; refine (writeRune (w.heap.size + 1 + 1) (w.heap.size + 1 + 1) (Lib.byteCells acc) c.r q0 q1 _ (hI.alloc _) (by rw [Lib.byteCells_length]; omega) (by simp; omega)).mono ?_)
        rintro e W1 ⟨rfl, h1, b1, k1⟩
        go_wp2
        go_roundw
        case rel =>
          have hl4 := (Lib.runeCells_le c.r).2
          rw [Lib.runeCells_length] at hl4
          exact ⟨k + 1, acc ++ Lib.encodeRune c.r, by simp, by omega, by rw [Lib.byteCells_append, Lib.byteCells_encodeRune]; exact Or.inr h1, (hbw.alloc hsz _).trans (b1.mono (by omega)), by rw [htk, hacc]; simp [textL, h2], by simp; omega⟩
        case measure =>
          simp [intOf]
          omega
    · have hkc : k = cols := by omega
      subst hkc
      have hB : w.heap.size + 1 + 1 ≤ wr.heap.size := by
        have : w.heap.size + 1 + 1 < wr.heap.size := by rcases hI with h | h <;> exact h.lt
        omega
      go_wp2_with (go_at_call 21; refine (Any.Builder_String_any_k lays169 extra169 (w.heap.size + 1 + 1) (w.heap.size + 1 + 1) acc _ hI (by omega)).mono ?_)
      rintro e W1 ⟨rfl, _, b1, _⟩
      go_wp2
      go_ret
      rw [List.take_of_length_le (by omega)] at hacc
      subst hacc
      refine ⟨?_, hbw.trans (b1.mono (by omega))⟩
      rw [List.take_of_length_le (by omega)]
      rfl
theorem text_ok (fid : Nat → FuncId) : Lg.SoundFn Tryz.prog fid 8 Lg.textM :=
  Lg.text_sound fun rows cols r b o n cap l w h1 h2 h3 h4 h5 h6 h7 h8 h9 => text_walk rows cols r b o n cap l w h1 h2 h3 h4 h5 h6 h7 h8 h9
end Go.Proofs.YtadipapkdjcnbaaGreat.LgText
