/- The open sentence TargetDoes is true: whatever the arguments, its call returns true, and each argument reads behind the call as it read before; no condition. -/
import Derived.Test.YtlpchliomdomdaaGreatRows
import Derived.Test.YtlpchliomdomdaaGreatPt20
import Derived.Test.YtlpchliomdomdaaGreatPt39
import Derived.Test.YtlpchliomdomdaaGreatPt19
import Derived.WalkKit
import Derived.ProofKit
import Derived.OpenShut
import Derived.ShutString
import Derived.ChangeOld
import Derived.Below
import Derived.SizedLaws
namespace Go.Proofs.YtlpchliomdomdaaGreat.targetDoes
open Go.ChangeShapes Go.WideShapes Go.ChangeAt Go.RowKit
set_option linter.unusedVariables false
set_option linter.unusedSimpArgs false
def shs : List Lg.Sh := [.int .i64, .st [.st [.int .i64, .int .i64, .sl 1 false (.int .i64), .sl 1 false (.int .i64)], .int .i64, .int .i64, .int .i64, .int .i64, .int .i64, .st [.int .i64, .int .i64, .int .i64], .int .u64], .st [.int .i64, .int .i64, .int .i64, .sl 1 false (.int .i64), .sl 1 false (.int .u8)]]
open Go.Proofs.YtlpchliomdomdaaGreat.LgTab in
theorem law (es : List Lg.D) (f : Lg.FitsA shs es) : Lg.evFun (Lg.clOf (Lg.modsR LgTab.tab 16) 3) LgTab.s205 es = some (.sc (.bool true), []) := by
  obtain ⟨G1, G2, rfl, G3, G4⟩ := f.cons_inv
  obtain ⟨d0, rfl, w_d0⟩ := G3.int_inv
  obtain ⟨G5, G6, rfl, G7, G8⟩ := G4.cons_inv
  obtain ⟨G10, rfl, G9⟩ := G7.st_inv
  obtain ⟨G11, G12, rfl, G13, G14⟩ := G9.cons_inv
  have G15 := G13.st_inv
  obtain ⟨G17, G18, rfl, G19, G20⟩ := G15.cons_inv
  obtain ⟨a, rfl, w_a⟩ := G19.int_inv
  obtain ⟨G21, G22, rfl, G23, G24⟩ := G20.cons_inv
  obtain ⟨b, rfl, w_b⟩ := G23.int_inv
  obtain ⟨G25, G26, rfl, G27, G28⟩ := G24.cons_inv
  obtain ⟨rs, rfl, n_rs, w_rs⟩ := G27.ints
  obtain ⟨G29, G30, rfl, G31, G32⟩ := G28.cons_inv
  obtain ⟨ps, rfl, n_ps, w_ps⟩ := G31.ints
  obtain rfl := G32.nil_inv
  obtain ⟨G33, G34, rfl, G35, G36⟩ := G14.cons_inv
  obtain ⟨kr, rfl, w_kr⟩ := G35.int_inv
  obtain ⟨G37, G38, rfl, G39, G40⟩ := G36.cons_inv
  obtain ⟨kc, rfl, w_kc⟩ := G39.int_inv
  obtain ⟨G41, G42, rfl, G43, G44⟩ := G40.cons_inv
  obtain ⟨kt, rfl, w_kt⟩ := G43.int_inv
  obtain ⟨G45, G46, rfl, G47, G48⟩ := G44.cons_inv
  obtain ⟨kb, rfl, w_kb⟩ := G47.int_inv
  obtain ⟨G49, G50, rfl, G51, G52⟩ := G48.cons_inv
  obtain ⟨kf, rfl, w_kf⟩ := G51.int_inv
  obtain ⟨G53, G54, rfl, G55, G56⟩ := G52.cons_inv
  have G57 := G55.st_inv
  obtain ⟨G59, G60, rfl, G61, G62⟩ := G57.cons_inv
  obtain ⟨p1, rfl, w_p1⟩ := G61.int_inv
  obtain ⟨G63, G64, rfl, G65, G66⟩ := G62.cons_inv
  obtain ⟨p2, rfl, w_p2⟩ := G65.int_inv
  obtain ⟨G67, G68, rfl, G69, G70⟩ := G66.cons_inv
  obtain ⟨p3, rfl, w_p3⟩ := G69.int_inv
  obtain rfl := G70.nil_inv
  obtain ⟨G71, G72, rfl, G73, G74⟩ := G56.cons_inv
  obtain ⟨tabs0, rfl, w0_tabs⟩ := G73.int_inv
  obtain ⟨tabs, rfl, w_tabs⟩ := u64_nat w0_tabs
  obtain rfl := G74.nil_inv
  obtain ⟨G75, G76, rfl, G77, G78⟩ := G8.cons_inv
  obtain ⟨G80, rfl, G79⟩ := G77.st_inv
  obtain ⟨G81, G82, rfl, G83, G84⟩ := G79.cons_inv
  obtain ⟨kd, rfl, w_kd⟩ := G83.int_inv
  obtain ⟨G85, G86, rfl, G87, G88⟩ := G84.cons_inv
  obtain ⟨rn, rfl, w_rn⟩ := G87.int_inv
  obtain ⟨G89, G90, rfl, G91, G92⟩ := G88.cons_inv
  obtain ⟨fn, rfl, w_fn⟩ := G91.int_inv
  obtain ⟨G93, G94, rfl, G95, G96⟩ := G92.cons_inv
  obtain ⟨es, rfl, n_es, w_es⟩ := G95.ints
  obtain ⟨G97, G98, rfl, G99, G100⟩ := G96.cons_inv
  obtain ⟨tx, rfl, n_tx, w_tx⟩ := G99.ints
  obtain rfl := G100.nil_inv
  obtain rfl := G78.nil_inv
  exact sp205 1 d0 a b rs ps (Nat.le_trans n_rs (by decide)) (Nat.le_trans n_ps (by decide)) kr kc kt kb kf p1 p2 p3 tabs w_tabs kd rn fn es tx (fun c hc => Lg.wf_u8 (w_tx c hc)) sp209_15
theorem own : ownKnob Tryz.prog.godebug = none := by kernel_rfl
theorem laidOut : laidOutB Tryz.prog = true := by kernel_rfl
set_option maxRecDepth 100000 in
theorem lifted (os : Os) (started : os.Started) (H : Type) (enc : TypeId × Value → H) :
    ReturnsInHanded {} Tryz.checked os 6 .any (Rows.targetDoesSpec.pre6 enc Tryz.prog Tryz.f6 Rows.targetDoesRow.domain false) (Rows.targetDoesSpec.post enc Tryz.prog Tryz.f6 false true false false) := by
  refine returnsInHanded_of_change_sized (C := Tryz.checked) own started (by kernel_rfl) Tryz.func6
    (ChangeSpec.witness6 (enc := enc) (C := Tryz.checked) false ⟨#[], #[.int .i64 0, .agg #[.int .i64 0, .int .i64 0, .slice none 0 0, .slice none 0 0, .int .i64 0, .int .i64 0, .int .i64 0, .int .i64 0, .int .i64 0, .int .i64 0, .int .i64 0, .int .i64 0, .int .u64 0], .agg #[.int .i64 0, .int .i64 0, .int .i64 0, .slice none 0 0, .slice none 0 0]], []⟩ 8 (by kernel_rfl) (by kernel_rfl) (by kernel_rfl) (by kernel_rfl)) ?_
  intro W base args ds gs before hval0 hW hcnd hsz0 _
  have hval : ∀ (j : Nat) t v, Tryz.f6.params[j]? = some t → args[j]? = some v → Value.okWide Tryz.prog W .any base t v := hval0
  have hW' := hW
  obtain ⟨p, q, hA0, hV, rfl, hfz, hnd⟩ := hW
  have hA : DataW.TrodAll enc Tryz.prog W 0 (fun _ => true) true Tryz.f6.params.toList args.toList ds p := hA0
  obtain ⟨rfl, rfl⟩ := trodVars_none hV
  have hlt : ∀ x ∈ p, x.block < W.heap.size := hA.lt
  have hsh : Tryz.f6.params.toList.mapM (Lg.shapeT Tryz.prog 8) = some shs := by kernel_rfl
  obtain ⟨es, l, f⟩ := Lg.args_fit (fid := Lg.fidOf LgTab.ns) (r := .any) (base := base) Tryz.f6.params.toList args.toList ds p shs hsh hA (fun j t v h1 h2 => hval j t v (by simpa using h1) (by simpa using h2))
  have hst := fun W' (bel : Below W.heap.size W W') => Lg.trodAll_stays (enc := enc) laidOut bel Tryz.f6.params.toList args.toList ds p (by kernel_rfl) hA hlt
  have hln : Tryz.f6.params.toList.length = 3 := by kernel_rfl
  obtain ⟨d1, d2, d3, rfl⟩ := Lg.len3 ((trodAll_length hA).2.trans hln)
  clear hA0 hval0
  refine (Lg.open_walk (LgTab.sound205 16) l (law es f)).mono fun e W' ⟨he, bel⟩ => ?_
  subst he
  exact ⟨_, rfl, _, _, _, [], _, [], hW', trodAll_mk1 (shut_bool Tryz.underlying4 _), hst W' bel, rfl, bel.frame _, fun h => by cases h⟩
theorem over : Rows.targetDoesRow.holds Tryz.pinned (OpenSpec.ofChange Rows.targetDoesSpec) :=
  OpenClaim.holds_of_wide 6 Tryz.f6 rfl rfl rfl rfl rfl rfl rfl ⟨rfl, rfl, rfl, rfl, rfl⟩ rfl rfl rfl rfl rfl (by kernel_rfl) Tryz.func6 (by kernel_rfl)
    (of_decide_eq_true (by kernel_rfl)) (by unfold Func.isWrapper; first | (rw [if_pos (by decide +kernel)]; kernel_rfl) | (rw [if_neg (by decide +kernel)]; exact ⟨rfl, rfl⟩))
    (fun os started H enc _ => lifted os started H enc)
theorem proved : Rows.TargetDoesSaid := over
#print axioms proved
end Go.Proofs.YtlpchliomdomdaaGreat.targetDoes
namespace Go.Proofs.YtlpchliomdomdaaGreat
/-- The row, under a short name, for the claim. -/
theorem targetDoes_holds : Rows.TargetDoesSaid := targetDoes.proved
end Go.Proofs.YtlpchliomdomdaaGreat
