import Derived.Test.YtadipapkdjcnbaaGreatLgW1
import Derived.Lib.Join
import Derived.Lib.Bytealg
/-
  strings.Join: its contract on the shelf, told over data.
-/
namespace Lg
open Go Go.RowKit
set_option linter.unusedVariables false
set_option linter.unusedSimpArgs false
set_option linter.unusedSectionVars false

def strsD : List D → Option (List ByteArray)
  | [] => some []
  | .sc (.string s) :: ds => (strsD ds).map fun l => s :: l
  | _ => none
def joinM : List D → Option (D × List D)
  | [.sl sz ds, .sc (.string sep)] => if sz = 1 then (strsD ds).bind fun xs =>
      if (Lib.join (xs.map (·.data.toList)) sep.data.toList).length ≤ 140737488355328 ∧ xs.length ≤ 140737488355328 then some (.sc (.string ⟨(Lib.join (xs.map (·.data.toList)) sep.data.toList).toArray⟩), []) else none else none
  | _ => none
theorem strsD_cells : ∀ {ds : List D} {xs : List ByteArray}, strsD ds = some xs → ds = xs.map fun s => .sc (.string s)
  | [], xs, h => by simp [strsD] at h; subst h; rfl
  | d :: ds, xs, h => by
    unfold strsD at h
    split at h
    · rename_i e; simp at e
    · rename_i s ds' e
      obtain ⟨l, hl, rfl⟩ := Option.map_eq_some_iff.1 h
      injection e with e1 e2
      subst e1; subst e2
      rw [strsD_cells hl]; rfl
    · cases h
theorem flat_strs (xs : List ByteArray) : flat (xs.map fun s => D.sc (.string s)) = xs.map fun s => .sc (.string s) := by
  induction xs with
  | nil => rfl
  | cons x xs ih => unfold flat at ih ⊢; simp only [List.map_cons, List.flatMap_cons, ih]; rfl
theorem keep_below {w w' : World} (A : Av) (C : Nat → Prop) (h : Below w.heap.size w w') (hA : ∀ b off, A b off → b < w.heap.size) : Keep w w' A A C := by
  obtain ⟨h1, h2, h3, h4, h5⟩ := h
  refine ⟨h1, h2, h3, h4, fun b _ hb => h5 b hb, ?_, ?_, fun _ _ h => .inl h, fun _ _ _ _ h => h⟩
  · intro b off v _ hc
    have hlt : b < w.heap.size := World.block_lt_of_cell? w ⟨b, off, none⟩ hc
    rw [cell_of_heap (h5 b hlt)]; exact hc
  · intro b cs T fr hb
    exact ⟨cs, fr, by rw [h5 b (lt_of_heap hb)]; exact hb, rfl⟩
theorem join_sound {P : Program} {fid : Nat → FuncId} {f : FuncId}
    (h0 : ∀ (a : Option Addr) (c : Nat) (sep : ByteArray) (w : World), Calls P f #[.slice a 0 c, .string sep] w fun e w' => e = .returned (.string ⟨#[]⟩) ∧ w' = w)
    (h1 : ∀ (bk o c : Nat) (xs : List ByteArray) (sep : ByteArray) (w : World), (∀ (j : Nat) x, xs[j]? = some x → w.cell? ⟨bk, o + j, none⟩ = some (.string x)) → bk < w.heap.size → xs.length ≤ 140737488355328 → xs.length ≤ c →
      (Lib.join (xs.map (·.data.toList)) sep.data.toList).length ≤ 140737488355328 →
      Calls P f #[.slice (some ⟨bk, o, none⟩) xs.length c, .string sep] w fun e w' => e = .returned (.string ⟨(Lib.join (xs.map (·.data.toList)) sep.data.toList).toArray⟩) ∧ Below w.heap.size w w') :
    SoundFn P fid f joinM := by
  intro ds r outs hm w A vs O l nd hal
  unfold joinM at hm
  split at hm
  case h_2 => cases hm
  rename_i sz es sep
  split at hm
  case isFalse => cases hm
  rename_i hsz
  subst hsz
  obtain ⟨xs, hxs, hm⟩ := Option.bind_eq_some_iff.1 hm
  split at hm
  case isFalse => cases hm
  rename_i hlen
  simp only [Option.some.injEq, Prod.mk.injEq] at hm
  obtain ⟨rfl, rfl⟩ := hm
  cases l with
  | cons v _ O1 vs _ O2 lv l2 =>
    cases l2 with
    | cons v2 _ O3 vs2 _ O4 lv2 l3 =>
      cases l3
      obtain ⟨rfl, rfl⟩ := lv2.inv_str
      obtain ⟨a, cap, us, rfl, rfl, hc, hu, hv, h1', hr⟩ := lv.inv_sl
      have he := strsD_cells hxs
      subst he
      rw [flat_strs] at hv
      have hlen0 : (xs.map fun s => D.sc (.string s)).length = xs.length := by simp
      rw [hlen0] at hc ⊢
      have hcell : ∀ (j : Nat) x, xs[j]? = some x → us[j]? = some (.string x) := by
        intro j x hj
        obtain ⟨v, hv1, hv2⟩ := hv.get (k := j) (d := .sc (.string x)) (by rw [List.getElem?_map, hj]; rfl)
        rw [hv1, hv2.inv_str.1]
      have fin : ∀ (w' : World) (s : ByteArray), Below w.heap.size w w' → ∃ v A' O', Ending.returned (.string s) = .returned v ∧ Keep w w' A A' (fun b => b ∈ ([] ++ ([] ++ []) : List Nat)) ∧
          LVs fid w' A' (fun _ => none) false (v :: ptVals (.slice a xs.length cap :: [.string sep]) [.sl 1 (xs.map fun s => D.sc (.string s)), .sc (.string sep)]) [.sc (.string s)] O' ∧ O'.Nodup ∧ ∀ b, b ∈ O' → b ∈ ([] ++ ([] ++ []) : List Nat) ∨ w.heap.size ≤ b := by
        intro w' s hb
        exact ⟨_, A, [], rfl, keep_below A _ hb hal, LVs.cons' (.sc _ rfl) .nil, List.nodup_nil, by simp⟩
      cases xs with
      | nil =>
        refine Calls.mono (h0 a cap sep w) fun e w' he => ?_
        obtain ⟨rfl, rfl⟩ := he
        exact fin w' _ (Below.refl _ _)
      | cons x xs =>
        obtain ⟨⟨b, off, sp⟩, rfl, hnA, hcx⟩ := hr 0 (.string x) (hcell 0 x rfl)
        have hsp : sp = none := by
          cases sp with
          | none => rfl
          | some s =>
            exfalso
            unfold Addr.add at hcx
            simp only [if_true] at hcx
            unfold World.cell? at hcx
            split at hcx <;> simp at hcx
        subst hsp
        have hblk : b < w.heap.size := by
          have := World.block_lt_of_cell? w _ hcx
          rwa [add_block] at this
        refine Calls.mono (h1 b off cap (x :: xs) sep w (fun j y hj => ?_) hblk hlen.2 hc hlen.1) fun e w' he => ?_
        · obtain ⟨ad, e1, _, hc1⟩ := hr j (.string y) (hcell j y hj)
          injection e1 with e1
          subst e1
          rwa [addr_add] at hc1
        · obtain ⟨rfl, hb⟩ := he
          exact fin w' _ hb
end Lg
/-
  strings.IndexByte: its contract on the shelf, told over data.
-/
namespace Lg
open Go Go.RowKit
set_option linter.unusedVariables false
set_option linter.unusedSimpArgs false
set_option linter.unusedSectionVars false

def ixbM : List D → Option (D × List D)
  | [.sc (.string s), .sc (.int .u8 c)] => some (.sc (.int .i64 (Lib.indexByte s.data.toList c.toNat.toUInt8)), [])
  | _ => none
theorem ixb_sound {P : Program} {fid : Nat → FuncId} {f : FuncId}
    (h : ∀ (s : ByteArray) (c : Int) (w : World), Calls P f #[.string s, .int .u8 c] w fun e w' => e = .returned (.int .i64 (Lib.indexByte s.data.toList c.toNat.toUInt8)) ∧ w' = w) :
    SoundFn P fid f ixbM := by
  intro ds r outs hm w A vs O l nd hal
  unfold ixbM at hm
  split at hm
  case h_2 => cases hm
  rename_i s c
  simp only [Option.some.injEq, Prod.mk.injEq] at hm
  obtain ⟨rfl, rfl⟩ := hm
  cases l with
  | cons v _ O1 vs _ O2 lv l2 =>
    cases l2 with
    | cons v2 _ O3 vs2 _ O4 lv2 l3 =>
      cases l3
      obtain ⟨rfl, rfl⟩ := lv2.inv_int
      obtain ⟨rfl, rfl⟩ := lv.inv_str
      refine Calls.mono (h s c w) fun e w' he => ?_
      obtain ⟨rfl, rfl⟩ := he
      exact ⟨_, A, [], rfl, keep_below A _ (Below.refl _ _) hal, LVs.cons' (.sc _ rfl) .nil, List.nodup_nil, by simp⟩
end Lg
