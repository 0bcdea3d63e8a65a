/- The open sentence PenTells is true: whatever the arguments, its call returns true, and each argument reads behind the call as it read before; no condition. -/
import Derived.Test.YtohjgdaogcliiaaRows
import Derived.Test.YtohjgdaogcliiaaLgT2
import Derived.Test.YtohjgdaogcliiaaLgO3
import Derived.WalkKit
import Derived.ProofKit
import Derived.OpenShut
import Derived.ShutString
import Derived.ChangeOld
import Derived.Below
import Derived.SizedLaws
namespace Go.Proofs.Ytohjgdaogcliiaa.penTells
open Go.ChangeShapes Go.WideShapes Go.ChangeAt Go.RowKit
set_option linter.unusedVariables false
set_option linter.unusedSimpArgs false
def shs : List Lg.Sh := [.st [.int .i64, .int .i64, .int .i64], .sl 1 false (.int .i64), .sl 1 false (.int .i64), .bool]
open Go.Proofs.Ytohjgdaogcliiaa.LgTab in
theorem law (es : List Lg.D) (f : Lg.FitsA shs es) : Lg.evFun (Lg.clOf (Lg.modsR LgTab.tab 14) 3) LgTab.s186 es = some (.sc (.bool true), []) := by
  obtain ⟨G1, G2, rfl, G3, G4⟩ := f.cons_inv
  obtain ⟨G6, rfl, G5⟩ := G3.st_inv
  obtain ⟨G7, G8, rfl, G9, G10⟩ := G5.cons_inv
  obtain ⟨a, rfl, w_a⟩ := G9.int_inv
  obtain ⟨G11, G12, rfl, G13, G14⟩ := G10.cons_inv
  obtain ⟨b, rfl, w_b⟩ := G13.int_inv
  obtain ⟨G15, G16, rfl, G17, G18⟩ := G14.cons_inv
  obtain ⟨c, rfl, w_c⟩ := G17.int_inv
  obtain rfl := G18.nil_inv
  obtain ⟨G19, G20, rfl, G21, G22⟩ := G4.cons_inv
  obtain ⟨ps, rfl, n_ps, w_ps⟩ := G21.ints_inv
  obtain ⟨G23, G24, rfl, G25, G26⟩ := G22.cons_inv
  obtain ⟨rs, rfl, n_rs, w_rs⟩ := G25.ints_inv
  obtain ⟨G27, G28, rfl, G29, G30⟩ := G26.cons_inv
  obtain ⟨own, rfl⟩ := G29.bool_inv
  obtain rfl := G30.nil_inv
  exact sp186 8 a b c ps rs own
theorem own : ownKnob Try.prog.godebug = none := by kernel_rfl
theorem laid : laidOutB Try.prog = true := by kernel_rfl
set_option maxRecDepth 100000 in
theorem lifted (os : Os) (started : os.Started) (H : Type) (enc : TypeId × Value → H) :
    ReturnsInHanded {} Try.checked os 4 .any (Rows.penTellsSpec.pre6 enc Try.prog Try.f4 Rows.penTellsRow.domain false) (Rows.penTellsSpec.post enc Try.prog Try.f4 false true false false) := by
  refine returnsInHanded_of_change_sized (C := Try.checked) own started (by kernel_rfl) Try.func4
    (ChangeSpec.witness6 (enc := enc) (C := Try.checked) false ⟨#[], #[.agg #[.int .i64 0, .int .i64 0, .int .i64 0], .slice none 0 0, .slice none 0 0, .bool false], []⟩ 8 (by kernel_rfl) (by kernel_rfl) (by kernel_rfl) (by kernel_rfl)) ?_
  intro W base args ds gs before hval0 hW hcnd hsz0 _
  have hval : ∀ (j : Nat) t v, Try.f4.params[j]? = some t → args[j]? = some v → Value.okWide Try.prog W .any base t v := hval0
  have hW' := hW
  obtain ⟨p, q, hA0, hV, rfl, hfz, hnd⟩ := hW
  have hA : DataW.TrodAll enc Try.prog W 0 (fun _ => true) true Try.f4.params.toList args.toList ds p := hA0
  obtain ⟨rfl, rfl⟩ := trodVars_none hV
  have hlt : ∀ x ∈ p, x.block < W.heap.size := hA.lt
  have hsh : Try.f4.params.toList.mapM (Lg.shapeT Try.prog 8) = some shs := by kernel_rfl
  obtain ⟨es, l, f⟩ := Lg.args_fit (fid := Lg.fidOf LgTab.ns) (r := .any) (base := base) Try.f4.params.toList args.toList ds p shs hsh hA (fun j t v h1 h2 => hval j t v (by simpa using h1) (by simpa using h2))
  have hst := fun W' (bel : Below W.heap.size W W') => Lg.trodAll_stays (enc := enc) laid bel Try.f4.params.toList args.toList ds p (by kernel_rfl) hA hlt
  have hln : Try.f4.params.toList.length = 4 := by kernel_rfl
  obtain ⟨d1, d2, d3, d4, rfl⟩ := Lg.len4 ((trodAll_length hA).2.trans hln)
  clear hA0 hval0
  refine (Lg.open_walk LgTab.sound186 l (law es f)).mono fun e W' ⟨he, bel⟩ => ?_
  subst he
  exact ⟨_, rfl, _, _, _, [], _, [], hW', trodAll_mk1 (shut_bool Try.underlying4 _), hst W' bel, rfl, bel.frame _, fun h => by cases h⟩
theorem over : Rows.penTellsRow.holds Try.pinned (OpenSpec.ofChange Rows.penTellsSpec) :=
  OpenClaim.holds_of_wide 4 Try.f4 rfl rfl rfl rfl rfl rfl rfl ⟨rfl, rfl, rfl, rfl, rfl⟩ rfl rfl rfl rfl rfl (by kernel_rfl) Try.func4 (by kernel_rfl)
    (of_decide_eq_true (by kernel_rfl)) (by unfold Func.isWrapper; first | (rw [if_pos (by decide +kernel)]; kernel_rfl) | (rw [if_neg (by decide +kernel)]; exact ⟨rfl, rfl⟩))
    (fun os started H enc _ => lifted os started H enc)
theorem proved : Rows.PenTellsSaid := over
#print axioms proved
end Go.Proofs.Ytohjgdaogcliiaa.penTells
namespace Go.Proofs.Ytohjgdaogcliiaa
/-- The row, under a short name, for the claim. -/
theorem penTells_holds : Rows.PenTellsSaid := penTells.proved
end Go.Proofs.Ytohjgdaogcliiaa
