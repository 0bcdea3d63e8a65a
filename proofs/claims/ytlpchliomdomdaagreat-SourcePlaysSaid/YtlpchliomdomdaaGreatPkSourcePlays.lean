/- The open sentence SourcePlays is true: whatever the arguments, its call returns true, and each argument reads behind the call as it read before; no condition. -/
import Derived.Test.YtlpchliomdomdaaGreatRows
import Derived.Test.YtlpchliomdomdaaGreatPk21
import Derived.Test.YtlpchliomdomdaaGreatPk40
import Derived.WalkKit
import Derived.ProofKit
import Derived.OpenShut
import Derived.ShutString
import Derived.ChangeOld
import Derived.Below
import Derived.SizedLaws
namespace Go.Proofs.YtlpchliomdomdaaGreat.sourcePlays
open Go.ChangeShapes Go.WideShapes Go.ChangeAt Go.RowKit
set_option linter.unusedVariables false
set_option linter.unusedSimpArgs false
def shs : List Lg.Sh := [.int .i64, .int .i64, .sl 5 true (.st [.int .i64, .int .i64, .int .i64, .sl 1 false (.int .i64), .sl 1 false (.int .u8)])]
open Go.Proofs.YtlpchliomdomdaaGreat.LgTab in
theorem law (es : List Lg.D) (f : Lg.FitsA shs es) : Lg.evFun (Lg.clOf (Lg.modsR LgTab.tab 14) 3) LgTab.s191 es = some (.sc (.bool true), []) := by
  obtain ⟨G1, G2, rfl, G3, G4⟩ := f.cons_inv
  obtain ⟨a, rfl, w_a⟩ := G3.int_inv
  obtain ⟨G5, G6, rfl, G7, G8⟩ := G4.cons_inv
  obtain ⟨b, rfl, w_b⟩ := G7.int_inv
  obtain ⟨G9, G10, rfl, G11, G12⟩ := G8.cons_inv
  obtain ⟨l, rfl, w_l⟩ := G11.kevs_inv
  obtain rfl := G12.nil_inv
  exact sp191 2 a b l w_l
theorem own : ownKnob Tryz.prog.godebug = none := by kernel_rfl
theorem laidOut : laidOutB Tryz.prog = true := by kernel_rfl
set_option maxRecDepth 100000 in
theorem lifted (os : Os) (started : os.Started) (H : Type) (enc : TypeId × Value → H) :
    ReturnsInHanded {} Tryz.checked os 4 .any (Rows.sourcePlaysSpec.pre6 enc Tryz.prog Tryz.f4 Rows.sourcePlaysRow.domain false) (Rows.sourcePlaysSpec.post enc Tryz.prog Tryz.f4 false true false false) := by
  refine returnsInHanded_of_change_sized (C := Tryz.checked) own started (by kernel_rfl) Tryz.func4
    (ChangeSpec.witness6 (enc := enc) (C := Tryz.checked) false ⟨#[], #[.int .i64 0, .int .i64 0, .slice none 0 0], []⟩ 8 (by kernel_rfl) (by kernel_rfl) (by kernel_rfl) (by kernel_rfl)) ?_
  intro W base args ds gs before hval0 hW hcnd hsz0 _
  have hval : ∀ (j : Nat) t v, Tryz.f4.params[j]? = some t → args[j]? = some v → Value.okWide Tryz.prog W .any base t v := hval0
  have hW' := hW
  obtain ⟨p, q, hA0, hV, rfl, hfz, hnd⟩ := hW
  have hA : DataW.TrodAll enc Tryz.prog W 0 (fun _ => true) true Tryz.f4.params.toList args.toList ds p := hA0
  obtain ⟨rfl, rfl⟩ := trodVars_none hV
  have hlt : ∀ x ∈ p, x.block < W.heap.size := hA.lt
  have hsh : Tryz.f4.params.toList.mapM (Lg.shapeT Tryz.prog 8) = some shs := by kernel_rfl
  obtain ⟨es, l, f⟩ := Lg.args_fit (fid := Lg.fidOf LgTab.ns) (r := .any) (base := base) Tryz.f4.params.toList args.toList ds p shs hsh hA (fun j t v h1 h2 => hval j t v (by simpa using h1) (by simpa using h2))
  have hst := fun W' (bel : Below W.heap.size W W') => Lg.trodAll_stays (enc := enc) laidOut bel Tryz.f4.params.toList args.toList ds p (by kernel_rfl) hA hlt
  have hln : Tryz.f4.params.toList.length = 3 := by kernel_rfl
  obtain ⟨d1, d2, d3, rfl⟩ := Lg.len3 ((trodAll_length hA).2.trans hln)
  clear hA0 hval0
  refine (Lg.open_walk (LgTab.sound191 14) l (law es f)).mono fun e W' ⟨he, bel⟩ => ?_
  subst he
  exact ⟨_, rfl, _, _, _, [], _, [], hW', trodAll_mk1 (shut_bool Tryz.underlying4 _), hst W' bel, rfl, bel.frame _, fun h => by cases h⟩
theorem over : Rows.sourcePlaysRow.holds Tryz.pinned (OpenSpec.ofChange Rows.sourcePlaysSpec) :=
  OpenClaim.holds_of_wide 4 Tryz.f4 rfl rfl rfl rfl rfl rfl rfl ⟨rfl, rfl, rfl, rfl, rfl⟩ rfl rfl rfl rfl rfl (by kernel_rfl) Tryz.func4 (by kernel_rfl)
    (of_decide_eq_true (by kernel_rfl)) (by unfold Func.isWrapper; first | (rw [if_pos (by decide +kernel)]; kernel_rfl) | (rw [if_neg (by decide +kernel)]; exact ⟨rfl, rfl⟩))
    (fun os started H enc _ => lifted os started H enc)
theorem proved : Rows.SourcePlaysSaid := over
#print axioms proved
end Go.Proofs.YtlpchliomdomdaaGreat.sourcePlays
namespace Go.Proofs.YtlpchliomdomdaaGreat
/-- The row, under a short name, for the claim. -/
theorem sourcePlays_holds : Rows.SourcePlaysSaid := sourcePlays.proved
end Go.Proofs.YtlpchliomdomdaaGreat
