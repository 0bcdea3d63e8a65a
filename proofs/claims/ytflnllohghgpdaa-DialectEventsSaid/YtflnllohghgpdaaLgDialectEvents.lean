/- The open sentence DialectEvents is true: whatever the arguments, its call returns true, and each argument reads behind the call as it read before; no condition. -/
import Derived.Test.YtflnllohghgpdaaRows
import Derived.Test.YtflnllohghgpdaaLgQ3
import Derived.Test.YtflnllohghgpdaaLgO3
import Derived.WalkKit
import Derived.ProofKit
import Derived.OpenShut
import Derived.ShutString
import Derived.ChangeOld
import Derived.Below
import Derived.SizedLaws
namespace Go.Proofs.Ytflnllohghgpdaa.dialectEvents
open Go.ChangeShapes Go.WideShapes Go.ChangeAt Go.RowKit
set_option linter.unusedVariables false
set_option linter.unusedSimpArgs false
def shs : List Lg.Sh := [.int .i64, .int .i32, .sl 1 false (.int .i64), .int .u8]
open Go.Proofs.Ytflnllohghgpdaa.LgTab in
theorem law (es : List Lg.D) (f : Lg.FitsA shs es) : Lg.evFun (Lg.clOf (Lg.modsR LgTab.tab 14) 3) LgTab.s201 es = some (.sc (.bool true), []) := by
  obtain ⟨d1, es, rfl, f1, f⟩ := f.cons_inv
  obtain ⟨d2, es, rfl, f2, f⟩ := f.cons_inv
  obtain ⟨d3, es, rfl, f3, f⟩ := f.cons_inv
  obtain ⟨d4, es, rfl, f4, f⟩ := f.cons_inv
  obtain rfl := f.nil_inv
  obtain ⟨d, rfl, w1⟩ := f1.int_inv
  obtain ⟨r, rfl, w2⟩ := f2.int_inv
  obtain ⟨l, rfl, _, _⟩ := f3.ints_inv
  obtain ⟨c, rfl, w4⟩ := f4.int_inv
  exact sp201 9 d r c l (Lg.wf_i32 w2) (Lg.wf_u8 w4)
theorem own : ownKnob Try.prog.godebug = none := by kernel_rfl
theorem laid : laidOutB Try.prog = true := by kernel_rfl
set_option maxRecDepth 100000 in
theorem lifted (os : Os) (started : os.Started) (H : Type) (enc : TypeId × Value → H) :
    ReturnsInHanded {} Try.checked os 5 .any (Rows.dialectEventsSpec.pre6 enc Try.prog Try.f5 Rows.dialectEventsRow.domain false) (Rows.dialectEventsSpec.post enc Try.prog Try.f5 false true false false) := by
  refine returnsInHanded_of_change_sized (C := Try.checked) own started (by kernel_rfl) Try.func5
    (ChangeSpec.witness6 (enc := enc) (C := Try.checked) false ⟨#[], #[.int .i64 0, .int .i32 0, .slice none 0 0, .int .u8 0], []⟩ 8 (by kernel_rfl) (by kernel_rfl) (by kernel_rfl) (by kernel_rfl)) ?_
  intro W base args ds gs before hval0 hW hcnd hsz0 _
  have hval : ∀ (j : Nat) t v, Try.f5.params[j]? = some t → args[j]? = some v → Value.okWide Try.prog W .any base t v := hval0
  have hW' := hW
  obtain ⟨p, q, hA0, hV, rfl, hfz, hnd⟩ := hW
  have hA : DataW.TrodAll enc Try.prog W 0 (fun _ => true) true Try.f5.params.toList args.toList ds p := hA0
  obtain ⟨rfl, rfl⟩ := trodVars_none hV
  have hlt : ∀ x ∈ p, x.block < W.heap.size := hA.lt
  have hsh : Try.f5.params.toList.mapM (Lg.shapeT Try.prog 8) = some shs := by kernel_rfl
  obtain ⟨es, l, f⟩ := Lg.args_fit (fid := Lg.fidOf LgTab.ns) (r := .any) (base := base) Try.f5.params.toList args.toList ds p shs hsh hA (fun j t v h1 h2 => hval j t v (by simpa using h1) (by simpa using h2))
  have hst := fun W' (bel : Below W.heap.size W W') => Lg.trodAll_stays (enc := enc) laid bel Try.f5.params.toList args.toList ds p (by kernel_rfl) hA hlt
  have hln : Try.f5.params.toList.length = 4 := by kernel_rfl
  obtain ⟨d1, d2, d3, d4, rfl⟩ := Lg.len4 ((trodAll_length hA).2.trans hln)
  clear hA0 hval0
  refine (Lg.open_walk LgTab.sound201 l (law es f)).mono fun e W' ⟨he, bel⟩ => ?_
  subst he
  exact ⟨_, rfl, _, _, _, [], _, [], hW', trodAll_mk1 (shut_bool Try.underlying4 _), hst W' bel, rfl, bel.frame _, fun h => by cases h⟩
theorem over : Rows.dialectEventsRow.holds Try.pinned (OpenSpec.ofChange Rows.dialectEventsSpec) :=
  OpenClaim.holds_of_wide 5 Try.f5 rfl rfl rfl rfl rfl rfl rfl ⟨rfl, rfl, rfl, rfl, rfl⟩ rfl rfl rfl rfl rfl (by kernel_rfl) Try.func5 (by kernel_rfl)
    (of_decide_eq_true (by kernel_rfl)) (by unfold Func.isWrapper; first | (rw [if_pos (by decide +kernel)]; kernel_rfl) | (rw [if_neg (by decide +kernel)]; exact ⟨rfl, rfl⟩))
    (fun os started H enc _ => lifted os started H enc)
theorem proved : Rows.DialectEventsSaid := over
#print axioms proved
end Go.Proofs.Ytflnllohghgpdaa.dialectEvents
namespace Go.Proofs.Ytflnllohghgpdaa
/-- The row, under a short name, for the claim. -/
theorem dialectEvents_holds : Rows.DialectEventsSaid := dialectEvents.proved
end Go.Proofs.Ytflnllohghgpdaa
