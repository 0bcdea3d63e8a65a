import Derived.Test.YtjbdijfibllddaaDoorLgE1
import Derived.Lib.Bytealg
/-
  strings.IndexByte: its contract on the shelf, told over data.
-/
namespace Lg
open Go Go.RowKit
set_option linter.unusedVariables false
set_option linter.unusedSimpArgs false
set_option linter.unusedSectionVars false

def ixbM : List D → Option (D × List D)
  | [.sc (.string s), .sc (.int .u8 c)] => some (.sc (.int .i64 (Lib.indexByte s.data.toList c.toNat.toUInt8)), [])
  | _ => none
theorem ixb_sound {P : Program} {fid : Nat → FuncId} {f : FuncId}
    (h : ∀ (s : ByteArray) (c : Int) (w : World), Calls P f #[.string s, .int .u8 c] w fun e w' => e = .returned (.int .i64 (Lib.indexByte s.data.toList c.toNat.toUInt8)) ∧ w' = w) :
    SoundFn P fid f ixbM := by
  intro ds r outs hm w A vs O l nd hal
  unfold ixbM at hm
  split at hm
  case h_2 => cases hm
  rename_i s c
  simp only [Option.some.injEq, Prod.mk.injEq] at hm
  obtain ⟨rfl, rfl⟩ := hm
  cases l with
  | cons v _ O1 vs _ O2 lv l2 =>
    cases l2 with
    | cons v2 _ O3 vs2 _ O4 lv2 l3 =>
      cases l3
      obtain ⟨rfl, rfl⟩ := lv2.inv_int
      obtain ⟨rfl, rfl⟩ := lv.inv_str
      refine Calls.mono (h s c w) fun e w' he => ?_
      obtain ⟨rfl, rfl⟩ := he
      exact ⟨_, A, [], rfl, keep_below A _ (Below.refl _ _) hal, LVs.cons' (.sc _ rfl) .nil, List.nodup_nil, by simp⟩
end Lg
