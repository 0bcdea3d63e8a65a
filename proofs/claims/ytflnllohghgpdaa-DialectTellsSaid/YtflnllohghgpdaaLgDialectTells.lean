/- The open sentence DialectTells is true: whatever the arguments, its call returns true, and each argument reads behind the call as it read before; no condition. -/
import Derived.Test.YtflnllohghgpdaaRows
import Derived.Test.YtflnllohghgpdaaLgQ6
import Derived.Test.YtflnllohghgpdaaLgO3
import Derived.WalkKit
import Derived.ProofKit
import Derived.OpenShut
import Derived.ShutString
import Derived.ChangeOld
import Derived.Below
import Derived.SizedLaws
namespace Go.Proofs.Ytflnllohghgpdaa.dialectTells
open Go.ChangeShapes Go.WideShapes Go.ChangeAt Go.RowKit
set_option linter.unusedVariables false
set_option linter.unusedSimpArgs false
def shs : List Lg.Sh := [.int .i64, .st [.int .i64, .int .i64, .int .i64, .sl 1 false (.int .i64), .sl 1 false (.int .u8)], .st [.int .i64, .int .i32, .int .u8, .int .u8, .int .u8, .sl 1 false (.int .i64), .str], .bool]
open Go.Proofs.Ytflnllohghgpdaa.LgTab in
theorem law (es : List Lg.D) (f : Lg.FitsA shs es) : Lg.evFun (Lg.clOf (Lg.modsR LgTab.tab 14) 3) LgTab.s204 es = some (.sc (.bool true), []) := by
  obtain ⟨G1, G2, rfl, G3, G4⟩ := f.cons_inv
  obtain ⟨d, rfl, w_d⟩ := G3.int_inv
  obtain ⟨G5, G6, rfl, G7, G8⟩ := G4.cons_inv
  obtain ⟨G10, rfl, G9⟩ := G7.st_inv
  obtain ⟨G11, G12, rfl, G13, G14⟩ := G9.cons_inv
  obtain ⟨kd, rfl, w_kd⟩ := G13.int_inv
  obtain ⟨G15, G16, rfl, G17, G18⟩ := G14.cons_inv
  obtain ⟨rn, rfl, w_rn⟩ := G17.int_inv
  obtain ⟨G19, G20, rfl, G21, G22⟩ := G18.cons_inv
  obtain ⟨fn, rfl, w_fn⟩ := G21.int_inv
  obtain ⟨G23, G24, rfl, G25, G26⟩ := G22.cons_inv
  obtain ⟨ps, rfl, n_ps, w_ps⟩ := G25.ints
  obtain ⟨G27, G28, rfl, G29, G30⟩ := G26.cons_inv
  obtain ⟨tx, rfl, n_tx, w_tx⟩ := G29.ints
  obtain rfl := G30.nil_inv
  obtain ⟨G31, G32, rfl, G33, G34⟩ := G8.cons_inv
  obtain ⟨G36, rfl, G35⟩ := G33.st_inv
  obtain ⟨G37, G38, rfl, G39, G40⟩ := G35.cons_inv
  obtain ⟨kind, rfl, w_kind⟩ := G39.int_inv
  obtain ⟨G41, G42, rfl, G43, G44⟩ := G40.cons_inv
  obtain ⟨rune, rfl, w_rune⟩ := G43.int_inv
  obtain ⟨G45, G46, rfl, G47, G48⟩ := G44.cons_inv
  obtain ⟨priv, rfl, w_priv⟩ := G47.int_inv
  obtain ⟨G49, G50, rfl, G51, G52⟩ := G48.cons_inv
  obtain ⟨inter, rfl, w_inter⟩ := G51.int_inv
  obtain ⟨G53, G54, rfl, G55, G56⟩ := G52.cons_inv
  obtain ⟨fin, rfl, w_fin⟩ := G55.int_inv
  obtain ⟨G57, G58, rfl, G59, G60⟩ := G56.cons_inv
  obtain ⟨l, rfl, n_l, w_l⟩ := G59.ints
  obtain ⟨G61, G62, rfl, G63, G64⟩ := G60.cons_inv
  obtain ⟨text, rfl, w_text⟩ := G63.str_inv
  obtain rfl := G64.nil_inv
  obtain ⟨G65, G66, rfl, G67, G68⟩ := G34.cons_inv
  obtain ⟨own, rfl⟩ := G67.bool_inv
  obtain rfl := G68.nil_inv
  exact sp204 9 d kd rn fn ps tx (fun c hc => Lg.wf_u8 (w_tx c hc)) kind rune priv inter fin l text own
theorem own : ownKnob Try.prog.godebug = none := by kernel_rfl
theorem laid : laidOutB Try.prog = true := by kernel_rfl
set_option maxRecDepth 100000 in
theorem lifted (os : Os) (started : os.Started) (H : Type) (enc : TypeId × Value → H) :
    ReturnsInHanded {} Try.checked os 3 .any (Rows.dialectTellsSpec.pre6 enc Try.prog Try.f3 Rows.dialectTellsRow.domain false) (Rows.dialectTellsSpec.post enc Try.prog Try.f3 false true false false) := by
  refine returnsInHanded_of_change_sized (C := Try.checked) own started (by kernel_rfl) Try.func3
    (ChangeSpec.witness6 (enc := enc) (C := Try.checked) false ⟨#[], #[.int .i64 0, .agg #[.int .i64 0, .int .i64 0, .int .i64 0, .slice none 0 0, .slice none 0 0], .agg #[.int .i64 0, .int .i32 0, .int .u8 0, .int .u8 0, .int .u8 0, .slice none 0 0, .string ⟨#[]⟩], .bool false], []⟩ 8 (by kernel_rfl) (by kernel_rfl) (by kernel_rfl) (by kernel_rfl)) ?_
  intro W base args ds gs before hval0 hW hcnd hsz0 _
  have hval : ∀ (j : Nat) t v, Try.f3.params[j]? = some t → args[j]? = some v → Value.okWide Try.prog W .any base t v := hval0
  have hW' := hW
  obtain ⟨p, q, hA0, hV, rfl, hfz, hnd⟩ := hW
  have hA : DataW.TrodAll enc Try.prog W 0 (fun _ => true) true Try.f3.params.toList args.toList ds p := hA0
  obtain ⟨rfl, rfl⟩ := trodVars_none hV
  have hlt : ∀ x ∈ p, x.block < W.heap.size := hA.lt
  have hsh : Try.f3.params.toList.mapM (Lg.shapeT Try.prog 8) = some shs := by kernel_rfl
  obtain ⟨es, l, f⟩ := Lg.args_fit (fid := Lg.fidOf LgTab.ns) (r := .any) (base := base) Try.f3.params.toList args.toList ds p shs hsh hA (fun j t v h1 h2 => hval j t v (by simpa using h1) (by simpa using h2))
  have hst := fun W' (bel : Below W.heap.size W W') => Lg.trodAll_stays (enc := enc) laid bel Try.f3.params.toList args.toList ds p (by kernel_rfl) hA hlt
  have hln : Try.f3.params.toList.length = 4 := by kernel_rfl
  obtain ⟨d1, d2, d3, d4, rfl⟩ := Lg.len4 ((trodAll_length hA).2.trans hln)
  clear hA0 hval0
  refine (Lg.open_walk LgTab.sound204 l (law es f)).mono fun e W' ⟨he, bel⟩ => ?_
  subst he
  exact ⟨_, rfl, _, _, _, [], _, [], hW', trodAll_mk1 (shut_bool Try.underlying4 _), hst W' bel, rfl, bel.frame _, fun h => by cases h⟩
theorem over : Rows.dialectTellsRow.holds Try.pinned (OpenSpec.ofChange Rows.dialectTellsSpec) :=
  OpenClaim.holds_of_wide 3 Try.f3 rfl rfl rfl rfl rfl rfl rfl ⟨rfl, rfl, rfl, rfl, rfl⟩ rfl rfl rfl rfl rfl (by kernel_rfl) Try.func3 (by kernel_rfl)
    (of_decide_eq_true (by kernel_rfl)) (by unfold Func.isWrapper; first | (rw [if_pos (by decide +kernel)]; kernel_rfl) | (rw [if_neg (by decide +kernel)]; exact ⟨rfl, rfl⟩))
    (fun os started H enc _ => lifted os started H enc)
theorem proved : Rows.DialectTellsSaid := over
#print axioms proved
end Go.Proofs.Ytflnllohghgpdaa.dialectTells
namespace Go.Proofs.Ytflnllohghgpdaa
/-- The row, under a short name, for the claim. -/
theorem dialectTells_holds : Rows.DialectTellsSaid := dialectTells.proved
end Go.Proofs.Ytflnllohghgpdaa
