/- The open sentence PenParts is true: whatever the arguments, its call returns true, and each argument reads behind the call as it read before; no condition. -/
import Derived.Test.YtohjgdaogcliiaaRows
import Derived.Test.YtohjgdaogcliiaaLgR4
import Derived.Test.YtohjgdaogcliiaaLgO3
import Derived.WalkKit
import Derived.ProofKit
import Derived.OpenShut
import Derived.ShutString
import Derived.ChangeOld
import Derived.Below
import Derived.SizedLaws
namespace Go.Proofs.Ytohjgdaogcliiaa.penParts
open Go.ChangeShapes Go.WideShapes Go.ChangeAt Go.RowKit
set_option linter.unusedVariables false
set_option linter.unusedSimpArgs false
def shs : List Lg.Sh := [.st [.int .i64, .int .i64, .int .i64], .sl 1 false (.int .i64), .int .i64, .int .i64]
open Go.Proofs.Ytohjgdaogcliiaa.LgTab in
theorem law (es : List Lg.D) (f : Lg.FitsA shs es) : Lg.evFun (Lg.clOf (Lg.modsR LgTab.tab 14) 3) LgTab.s183 es = some (.sc (.bool true), []) := by
  obtain ⟨G1, G2, rfl, G3, G4⟩ := f.cons_inv
  obtain ⟨G6, rfl, G5⟩ := G3.st_inv
  obtain ⟨G7, G8, rfl, G9, G10⟩ := G5.cons_inv
  obtain ⟨a, rfl, w_a⟩ := G9.int_inv
  obtain ⟨G11, G12, rfl, G13, G14⟩ := G10.cons_inv
  obtain ⟨b, rfl, w_b⟩ := G13.int_inv
  obtain ⟨G15, G16, rfl, G17, G18⟩ := G14.cons_inv
  obtain ⟨c, rfl, w_c⟩ := G17.int_inv
  obtain rfl := G18.nil_inv
  obtain ⟨G19, G20, rfl, G21, G22⟩ := G4.cons_inv
  obtain ⟨ps, rfl, n_ps, w_ps⟩ := G21.ints_inv
  obtain ⟨G23, G24, rfl, G25, G26⟩ := G22.cons_inv
  obtain ⟨cut, rfl, w_cut⟩ := G25.int_inv
  obtain ⟨G27, G28, rfl, G29, G30⟩ := G26.cons_inv
  obtain ⟨f0, rfl, w_f0⟩ := G29.int_inv
  obtain rfl := G30.nil_inv
  exact sp183 8 a b c cut f0 ps
theorem own : ownKnob Try.prog.godebug = none := by kernel_rfl
theorem laid : laidOutB Try.prog = true := by kernel_rfl
set_option maxRecDepth 100000 in
theorem lifted (os : Os) (started : os.Started) (H : Type) (enc : TypeId × Value → H) :
    ReturnsInHanded {} Try.checked os 6 .any (Rows.penPartsSpec.pre6 enc Try.prog Try.f6 Rows.penPartsRow.domain false) (Rows.penPartsSpec.post enc Try.prog Try.f6 false true false false) := by
  refine returnsInHanded_of_change_sized (C := Try.checked) own started (by kernel_rfl) Try.func6
    (ChangeSpec.witness6 (enc := enc) (C := Try.checked) false ⟨#[], #[.agg #[.int .i64 0, .int .i64 0, .int .i64 0], .slice none 0 0, .int .i64 0, .int .i64 0], []⟩ 8 (by kernel_rfl) (by kernel_rfl) (by kernel_rfl) (by kernel_rfl)) ?_
  intro W base args ds gs before hval0 hW hcnd hsz0 _
  have hval : ∀ (j : Nat) t v, Try.f6.params[j]? = some t → args[j]? = some v → Value.okWide Try.prog W .any base t v := hval0
  have hW' := hW
  obtain ⟨p, q, hA0, hV, rfl, hfz, hnd⟩ := hW
  have hA : DataW.TrodAll enc Try.prog W 0 (fun _ => true) true Try.f6.params.toList args.toList ds p := hA0
  obtain ⟨rfl, rfl⟩ := trodVars_none hV
  have hlt : ∀ x ∈ p, x.block < W.heap.size := hA.lt
  have hsh : Try.f6.params.toList.mapM (Lg.shapeT Try.prog 8) = some shs := by kernel_rfl
  obtain ⟨es, l, f⟩ := Lg.args_fit (fid := Lg.fidOf LgTab.ns) (r := .any) (base := base) Try.f6.params.toList args.toList ds p shs hsh hA (fun j t v h1 h2 => hval j t v (by simpa using h1) (by simpa using h2))
  have hst := fun W' (bel : Below W.heap.size W W') => Lg.trodAll_stays (enc := enc) laid bel Try.f6.params.toList args.toList ds p (by kernel_rfl) hA hlt
  have hln : Try.f6.params.toList.length = 4 := by kernel_rfl
  obtain ⟨d1, d2, d3, d4, rfl⟩ := Lg.len4 ((trodAll_length hA).2.trans hln)
  clear hA0 hval0
  refine (Lg.open_walk LgTab.sound183 l (law es f)).mono fun e W' ⟨he, bel⟩ => ?_
  subst he
  exact ⟨_, rfl, _, _, _, [], _, [], hW', trodAll_mk1 (shut_bool Try.underlying4 _), hst W' bel, rfl, bel.frame _, fun h => by cases h⟩
theorem over : Rows.penPartsRow.holds Try.pinned (OpenSpec.ofChange Rows.penPartsSpec) :=
  OpenClaim.holds_of_wide 6 Try.f6 rfl rfl rfl rfl rfl rfl rfl ⟨rfl, rfl, rfl, rfl, rfl⟩ rfl rfl rfl rfl rfl (by kernel_rfl) Try.func6 (by kernel_rfl)
    (of_decide_eq_true (by kernel_rfl)) (by unfold Func.isWrapper; first | (rw [if_pos (by decide +kernel)]; kernel_rfl) | (rw [if_neg (by decide +kernel)]; exact ⟨rfl, rfl⟩))
    (fun os started H enc _ => lifted os started H enc)
theorem proved : Rows.PenPartsSaid := over
#print axioms proved
end Go.Proofs.Ytohjgdaogcliiaa.penParts
namespace Go.Proofs.Ytohjgdaogcliiaa
/-- The row, under a short name, for the claim. -/
theorem penParts_holds : Rows.PenPartsSaid := penParts.proved
end Go.Proofs.Ytohjgdaogcliiaa
