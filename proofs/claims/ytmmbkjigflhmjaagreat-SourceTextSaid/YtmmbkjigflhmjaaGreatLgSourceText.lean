/- The open sentence SourceText is true: whatever the arguments, its call returns true, and each argument reads behind the call as it read before; no condition. -/
import Derived.Test.YtmmbkjigflhmjaaGreatRows
import Derived.Test.YtmmbkjigflhmjaaGreatLgKe
import Derived.Test.YtmmbkjigflhmjaaGreatLgSg
import Derived.Test.YtmmbkjigflhmjaaGreatLgO3
import Derived.WalkKit
import Derived.ProofKit
import Derived.OpenShut
import Derived.ShutString
import Derived.ChangeOld
import Derived.Below
import Derived.SizedLaws
namespace Go.Proofs.YtmmbkjigflhmjaaGreat.sourceText
open Go.ChangeShapes Go.WideShapes Go.ChangeAt Go.RowKit
set_option linter.unusedVariables false
set_option linter.unusedSimpArgs false
def shs : List Lg.Sh := [.int .i64, .int .i64, .int .i64, .bool]
open Go.Proofs.YtmmbkjigflhmjaaGreat.LgTab in
theorem law (es : List Lg.D) (f : Lg.FitsA shs es) : Lg.evFun (Lg.clOf (Lg.modsR LgTab.tab 14) 3) LgTab.s196 es = some (.sc (.bool true), []) := by
  obtain ⟨G1, G2, rfl, G3, G4⟩ := f.cons_inv
  obtain ⟨r0, rfl, w_r0⟩ := G3.int_inv
  obtain ⟨G5, G6, rfl, G7, G8⟩ := G4.cons_inv
  obtain ⟨c0, rfl, w_c0⟩ := G7.int_inv
  obtain ⟨G9, G10, rfl, G11, G12⟩ := G8.cons_inv
  obtain ⟨n0, rfl, w_n0⟩ := G11.int_inv
  obtain ⟨G13, G14, rfl, G15, G16⟩ := G12.cons_inv
  obtain ⟨wrap, rfl⟩ := G15.bool_inv
  obtain rfl := G16.nil_inv
  exact sp196 2 r0 c0 n0 wrap
theorem own : ownKnob Tryz.prog.godebug = none := by kernel_rfl
theorem laidOut : laidOutB Tryz.prog = true := by kernel_rfl
set_option maxRecDepth 100000 in
theorem lifted (os : Os) (started : os.Started) (H : Type) (enc : TypeId × Value → H) :
    ReturnsInHanded {} Tryz.checked os 3 .any (Rows.sourceTextSpec.pre6 enc Tryz.prog Tryz.f3 Rows.sourceTextRow.domain false) (Rows.sourceTextSpec.post enc Tryz.prog Tryz.f3 false true false false) := by
  refine returnsInHanded_of_change_sized (C := Tryz.checked) own started (by kernel_rfl) Tryz.func3
    (ChangeSpec.witness6 (enc := enc) (C := Tryz.checked) false ⟨#[], #[.int .i64 0, .int .i64 0, .int .i64 0, .bool false], []⟩ 8 (by kernel_rfl) (by kernel_rfl) (by kernel_rfl) (by kernel_rfl)) ?_
  intro W base args ds gs before hval0 hW hcnd hsz0 _
  have hval : ∀ (j : Nat) t v, Tryz.f3.params[j]? = some t → args[j]? = some v → Value.okWide Tryz.prog W .any base t v := hval0
  have hW' := hW
  obtain ⟨p, q, hA0, hV, rfl, hfz, hnd⟩ := hW
  have hA : DataW.TrodAll enc Tryz.prog W 0 (fun _ => true) true Tryz.f3.params.toList args.toList ds p := hA0
  obtain ⟨rfl, rfl⟩ := trodVars_none hV
  have hlt : ∀ x ∈ p, x.block < W.heap.size := hA.lt
  have hsh : Tryz.f3.params.toList.mapM (Lg.shapeT Tryz.prog 8) = some shs := by kernel_rfl
  obtain ⟨es, l, f⟩ := Lg.args_fit (fid := Lg.fidOf LgTab.ns) (r := .any) (base := base) Tryz.f3.params.toList args.toList ds p shs hsh hA (fun j t v h1 h2 => hval j t v (by simpa using h1) (by simpa using h2))
  have hst := fun W' (bel : Below W.heap.size W W') => Lg.trodAll_stays (enc := enc) laidOut bel Tryz.f3.params.toList args.toList ds p (by kernel_rfl) hA hlt
  have hln : Tryz.f3.params.toList.length = 4 := by kernel_rfl
  obtain ⟨d1, d2, d3, d4, rfl⟩ := Lg.len4 ((trodAll_length hA).2.trans hln)
  clear hA0 hval0
  refine (Lg.open_walk (LgTab.sound196 14) l (law es f)).mono fun e W' ⟨he, bel⟩ => ?_
  subst he
  exact ⟨_, rfl, _, _, _, [], _, [], hW', trodAll_mk1 (shut_bool Tryz.underlying4 _), hst W' bel, rfl, bel.frame _, fun h => by cases h⟩
theorem over : Rows.sourceTextRow.holds Tryz.pinned (OpenSpec.ofChange Rows.sourceTextSpec) :=
  OpenClaim.holds_of_wide 3 Tryz.f3 rfl rfl rfl rfl rfl rfl rfl ⟨rfl, rfl, rfl, rfl, rfl⟩ rfl rfl rfl rfl rfl (by kernel_rfl) Tryz.func3 (by kernel_rfl)
    (of_decide_eq_true (by kernel_rfl)) (by unfold Func.isWrapper; first | (rw [if_pos (by decide +kernel)]; kernel_rfl) | (rw [if_neg (by decide +kernel)]; exact ⟨rfl, rfl⟩))
    (fun os started H enc _ => lifted os started H enc)
theorem proved : Rows.SourceTextSaid := over
#print axioms proved
end Go.Proofs.YtmmbkjigflhmjaaGreat.sourceText
namespace Go.Proofs.YtmmbkjigflhmjaaGreat
/-- The row, under a short name, for the claim. -/
theorem sourceText_holds : Rows.SourceTextSaid := sourceText.proved
end Go.Proofs.YtmmbkjigflhmjaaGreat
