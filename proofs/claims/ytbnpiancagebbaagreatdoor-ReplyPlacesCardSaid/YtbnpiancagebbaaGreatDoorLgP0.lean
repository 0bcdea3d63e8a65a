import Derived.Test.YtbnpiancagebbaaGreatDoorLgTab
import Derived.Test.YtbnpiancagebbaaGreatDoorLgB3
/-
  Facts of numbers, for the rewriting of walks. The models are sealed: the kernel can't look into them.
-/
namespace Go.Proofs.YtbnpiancagebbaaGreatDoor.LgTab
open Go Lg
set_option linter.unusedVariables false
set_option linter.unusedSimpArgs false
abbrev I (n : Int) : D := .sc (.int .i64 n)
abbrev B (b : Bool) : D := .sc (.bool b)
/-- A thing, sealed. -/
noncomputable def hid {α : Type} (x : α) : α := Classical.choose (⟨x, rfl⟩ : ∃ y, y = x)
theorem hid_eq {α : Type} (x : α) : hid x = x := Classical.choose_spec (⟨x, rfl⟩ : ∃ y, y = x)
noncomputable def wr : Int → Int := hid IntKind.i64.wrap
theorem wr_def (n : Int) : wr n = IntKind.i64.wrap n := by unfold wr; rw [hid_eq]
theorem wr_id (n : Int) (h0 : -9223372036854775808 ≤ n) (h1 : n ≤ 9223372036854775807) : wr n = n := by rw [wr_def, wrap_id n h0 h1]
theorem binD_add (a b : Int) : binD .add (I a) (I b) = some (I (wr (a + b))) := by simp [binD, binI, wr_def]
theorem binD_sub (a b : Int) : binD .sub (I a) (I b) = some (I (wr (a - b))) := by simp [binD, binI, wr_def]
theorem binD_mul (a b : Int) : binD .mul (I a) (I b) = some (I (wr (a * b))) := by simp [binD, binI, wr_def]
theorem binD_rem (a b : Int) : binD .rem (I a) (I b) = if b = 0 then none else some (I (a.tmod b)) := by simp [binD, binI]; split <;> rfl
theorem binD_quo (a b : Int) : binD .quo (I a) (I b) = if b = 0 then none else some (I (wr (a.tdiv b))) := by simp [binD, binI, wr_def]; split <;> rfl
theorem binD_lss (a b : Int) : binD .lss (I a) (I b) = some (B (decide (a < b))) := by simp [binD, binI]
theorem binD_leq (a b : Int) : binD .leq (I a) (I b) = some (B (decide (a ≤ b))) := by simp [binD, binI]
theorem binD_gtr (a b : Int) : binD .gtr (I a) (I b) = some (B (decide (b < a))) := by simp [binD, binI]
theorem binD_geq (a b : Int) : binD .geq (I a) (I b) = some (B (decide (b ≤ a))) := by simp [binD, binI]
theorem binD_eql (a b : Int) : binD .eql (I a) (I b) = some (B (decide (a = b))) := by simp only [binD, binI, Option.map]; rfl
theorem binD_neq (a b : Int) : binD .neq (I a) (I b) = some (B (!decide (a = b))) := by simp only [binD, binI, Option.map]; rfl
theorem binK_eql (k : IntKind) (a b : Int) : binD .eql (.sc (.int k a)) (.sc (.int k b)) = some (B (decide (a = b))) := by simp only [binD, binI, if_true, Option.map]; rfl
theorem binK_neq (k : IntKind) (a b : Int) : binD .neq (.sc (.int k a)) (.sc (.int k b)) = some (B (!decide (a = b))) := by simp only [binD, binI, if_true, Option.map]; rfl
theorem binK_lss (k : IntKind) (a b : Int) : binD .lss (.sc (.int k a)) (.sc (.int k b)) = some (B (decide (a < b))) := by simp [binD, binI]
theorem binK_leq (k : IntKind) (a b : Int) : binD .leq (.sc (.int k a)) (.sc (.int k b)) = some (B (decide (a ≤ b))) := by simp [binD, binI]
theorem binK_gtr (k : IntKind) (a b : Int) : binD .gtr (.sc (.int k a)) (.sc (.int k b)) = some (B (decide (b < a))) := by simp [binD, binI]
theorem binK_geq (k : IntKind) (a b : Int) : binD .geq (.sc (.int k a)) (.sc (.int k b)) = some (B (decide (b ≤ a))) := by simp [binD, binI]
noncomputable def orI : Int → Int → Int := hid fun a b => IntKind.i64.wrap ((a % 18446744073709551616).toNat ||| (b % 18446744073709551616).toNat : Nat)
noncomputable def andI : Int → Int → Int := hid fun a b => IntKind.i64.wrap ((a % 18446744073709551616).toNat &&& (b % 18446744073709551616).toNat : Nat)
noncomputable def andnI : Int → Int → Int := hid fun a b => IntKind.i64.wrap ((a % 18446744073709551616).toNat &&& (18446744073709551615 - (b % 18446744073709551616).toNat) : Nat)
theorem orI_def (a b : Int) : orI a b = IntKind.i64.wrap ((a % 18446744073709551616).toNat ||| (b % 18446744073709551616).toNat : Nat) := by unfold orI; rw [hid_eq]
theorem andI_def (a b : Int) : andI a b = IntKind.i64.wrap ((a % 18446744073709551616).toNat &&& (b % 18446744073709551616).toNat : Nat) := by unfold andI; rw [hid_eq]
theorem andnI_def (a b : Int) : andnI a b = IntKind.i64.wrap ((a % 18446744073709551616).toNat &&& (18446744073709551615 - (b % 18446744073709551616).toNat) : Nat) := by unfold andnI; rw [hid_eq]
theorem binD_or (a b : Int) : binD .or (I a) (I b) = some (I (orI a b)) := by
  show some (I (IntKind.i64.wrap ((BitVec.ofInt 64 a ||| BitVec.ofInt 64 b).toNat : Int))) = _
  simp [orI_def, BitVec.toNat_or, BitVec.toNat_ofInt]
theorem binD_and (a b : Int) : binD .and (I a) (I b) = some (I (andI a b)) := by
  show some (I (IntKind.i64.wrap ((BitVec.ofInt 64 a &&& BitVec.ofInt 64 b).toNat : Int))) = _
  simp [andI_def, BitVec.toNat_and, BitVec.toNat_ofInt]
theorem binD_andn (a b : Int) : binD .andNot (I a) (I b) = some (I (andnI a b)) := by
  show some (I (IntKind.i64.wrap ((BitVec.ofInt 64 a &&& ~~~ BitVec.ofInt 64 b).toNat : Int))) = _
  simp [andnI_def, BitVec.toNat_and, BitVec.toNat_not, BitVec.toNat_ofInt]
noncomputable def shlI : Int → Int → Int := hid fun a b => IntKind.i64.wrap (a * 2 ^ (min b.toNat 64))
noncomputable def shrI : Int → Int → Int := hid fun a b => a.fdiv (2 ^ (min b.toNat 64))
theorem shlI_def (a b : Int) : shlI a b = IntKind.i64.wrap (a * 2 ^ (min b.toNat 64)) := by unfold shlI; rw [hid_eq]
theorem shrI_def (a b : Int) : shrI a b = a.fdiv (2 ^ (min b.toNat 64)) := by unfold shrI; rw [hid_eq]
theorem binD_shl (k : IntKind) (a b : Int) (h : 0 ≤ b) : binD .shl (I a) (.sc (.int k b)) = some (I (shlI a b)) := by simp [binD, shI, shlI_def, IntKind.bits, Int.not_lt.2 h]
theorem binD_shr (k : IntKind) (a b : Int) (h : 0 ≤ b) : binD .shr (I a) (.sc (.int k b)) = some (I (shrI a b)) := by simp [binD, shI, shrI_def, IntKind.bits, Int.not_lt.2 h]
end Go.Proofs.YtbnpiancagebbaaGreatDoor.LgTab
