/- The open sentence SourceMargins is true: whatever the arguments, its call returns true, and each argument reads behind the call as it read before; no condition. -/
import Derived.Test.YtmmbkjigflhmjaaGreatRows
import Derived.Test.YtmmbkjigflhmjaaGreatLgKe
import Derived.Test.YtmmbkjigflhmjaaGreatLgSe
import Derived.Test.YtmmbkjigflhmjaaGreatLgO3
import Derived.WalkKit
import Derived.ProofKit
import Derived.OpenShut
import Derived.ShutString
import Derived.ChangeOld
import Derived.Below
import Derived.SizedLaws
namespace Go.Proofs.YtmmbkjigflhmjaaGreat.sourceMargins
open Go.ChangeShapes Go.WideShapes Go.ChangeAt Go.RowKit
set_option linter.unusedVariables false
set_option linter.unusedSimpArgs false
def shs : List Lg.Sh := [.st [.st [.int .i64, .int .i64, .sl 1 false (.int .i64), .sl 1 false (.int .i64)], .int .i64, .int .i64, .int .i64, .int .i64, .int .i64, .st [.int .i64, .int .i64, .int .i64], .int .u64], .int .i64, .int .i64, .int .i64]
open Go.Proofs.YtmmbkjigflhmjaaGreat.LgTab in
theorem law (es : List Lg.D) (f : Lg.FitsA shs es) : Lg.evFun (Lg.clOf (Lg.modsR LgTab.tab 14) 3) LgTab.s189 es = some (.sc (.bool true), []) := by
  obtain ⟨G1, G2, rfl, G3, G4⟩ := f.cons_inv
  obtain ⟨G6, rfl, G5⟩ := G3.st_inv
  obtain ⟨G7, G8, rfl, G9, G10⟩ := G5.cons_inv
  have G11 := G9.st_inv
  obtain ⟨G13, G14, rfl, G15, G16⟩ := G11.cons_inv
  obtain ⟨a, rfl, w_a⟩ := G15.int_inv
  obtain ⟨G17, G18, rfl, G19, G20⟩ := G16.cons_inv
  obtain ⟨b, rfl, w_b⟩ := G19.int_inv
  obtain ⟨G21, G22, rfl, G23, G24⟩ := G20.cons_inv
  obtain ⟨rs, rfl, n_rs, w_rs⟩ := G23.ints
  obtain ⟨G25, G26, rfl, G27, G28⟩ := G24.cons_inv
  obtain ⟨ps, rfl, n_ps, w_ps⟩ := G27.ints
  obtain rfl := G28.nil_inv
  obtain ⟨G29, G30, rfl, G31, G32⟩ := G10.cons_inv
  obtain ⟨kr, rfl, w_kr⟩ := G31.int_inv
  obtain ⟨G33, G34, rfl, G35, G36⟩ := G32.cons_inv
  obtain ⟨kc, rfl, w_kc⟩ := G35.int_inv
  obtain ⟨G37, G38, rfl, G39, G40⟩ := G36.cons_inv
  obtain ⟨kt, rfl, w_kt⟩ := G39.int_inv
  obtain ⟨G41, G42, rfl, G43, G44⟩ := G40.cons_inv
  obtain ⟨kb, rfl, w_kb⟩ := G43.int_inv
  obtain ⟨G45, G46, rfl, G47, G48⟩ := G44.cons_inv
  obtain ⟨kf, rfl, w_kf⟩ := G47.int_inv
  obtain ⟨G49, G50, rfl, G51, G52⟩ := G48.cons_inv
  have G53 := G51.st_inv
  obtain ⟨G55, G56, rfl, G57, G58⟩ := G53.cons_inv
  obtain ⟨p1, rfl, w_p1⟩ := G57.int_inv
  obtain ⟨G59, G60, rfl, G61, G62⟩ := G58.cons_inv
  obtain ⟨p2, rfl, w_p2⟩ := G61.int_inv
  obtain ⟨G63, G64, rfl, G65, G66⟩ := G62.cons_inv
  obtain ⟨p3, rfl, w_p3⟩ := G65.int_inv
  obtain rfl := G66.nil_inv
  obtain ⟨G67, G68, rfl, G69, G70⟩ := G52.cons_inv
  obtain ⟨tabs0, rfl, w0_tabs⟩ := G69.int_inv
  obtain ⟨tabs, rfl, w_tabs⟩ := u64_nat w0_tabs
  obtain rfl := G70.nil_inv
  obtain ⟨G71, G72, rfl, G73, G74⟩ := G4.cons_inv
  obtain ⟨a0, rfl, w_a0⟩ := G73.int_inv
  obtain ⟨G75, G76, rfl, G77, G78⟩ := G74.cons_inv
  obtain ⟨b0, rfl, w_b0⟩ := G77.int_inv
  obtain ⟨G79, G80, rfl, G81, G82⟩ := G78.cons_inv
  obtain ⟨n0, rfl, w_n0⟩ := G81.int_inv
  obtain rfl := G82.nil_inv
  exact sp189 2 a b rs ps (Nat.le_trans n_rs (by decide)) (Nat.le_trans n_ps (by decide)) kr kc kt kb kf p1 p2 p3 tabs w_tabs a0 b0 n0
theorem own : ownKnob Tryz.prog.godebug = none := by kernel_rfl
theorem laidOut : laidOutB Tryz.prog = true := by kernel_rfl
set_option maxRecDepth 100000 in
theorem lifted (os : Os) (started : os.Started) (H : Type) (enc : TypeId × Value → H) :
    ReturnsInHanded {} Tryz.checked os 8 .any (Rows.sourceMarginsSpec.pre6 enc Tryz.prog Tryz.f8 Rows.sourceMarginsRow.domain false) (Rows.sourceMarginsSpec.post enc Tryz.prog Tryz.f8 false true false false) := by
  refine returnsInHanded_of_change_sized (C := Tryz.checked) own started (by kernel_rfl) Tryz.func8
    (ChangeSpec.witness6 (enc := enc) (C := Tryz.checked) false ⟨#[], #[.agg #[.int .i64 0, .int .i64 0, .slice none 0 0, .slice none 0 0, .int .i64 0, .int .i64 0, .int .i64 0, .int .i64 0, .int .i64 0, .int .i64 0, .int .i64 0, .int .i64 0, .int .u64 0], .int .i64 0, .int .i64 0, .int .i64 0], []⟩ 8 (by kernel_rfl) (by kernel_rfl) (by kernel_rfl) (by kernel_rfl)) ?_
  intro W base args ds gs before hval0 hW hcnd hsz0 _
  have hval : ∀ (j : Nat) t v, Tryz.f8.params[j]? = some t → args[j]? = some v → Value.okWide Tryz.prog W .any base t v := hval0
  have hW' := hW
  obtain ⟨p, q, hA0, hV, rfl, hfz, hnd⟩ := hW
  have hA : DataW.TrodAll enc Tryz.prog W 0 (fun _ => true) true Tryz.f8.params.toList args.toList ds p := hA0
  obtain ⟨rfl, rfl⟩ := trodVars_none hV
  have hlt : ∀ x ∈ p, x.block < W.heap.size := hA.lt
  have hsh : Tryz.f8.params.toList.mapM (Lg.shapeT Tryz.prog 8) = some shs := by kernel_rfl
  obtain ⟨es, l, f⟩ := Lg.args_fit (fid := Lg.fidOf LgTab.ns) (r := .any) (base := base) Tryz.f8.params.toList args.toList ds p shs hsh hA (fun j t v h1 h2 => hval j t v (by simpa using h1) (by simpa using h2))
  have hst := fun W' (bel : Below W.heap.size W W') => Lg.trodAll_stays (enc := enc) laidOut bel Tryz.f8.params.toList args.toList ds p (by kernel_rfl) hA hlt
  have hln : Tryz.f8.params.toList.length = 4 := by kernel_rfl
  obtain ⟨d1, d2, d3, d4, rfl⟩ := Lg.len4 ((trodAll_length hA).2.trans hln)
  clear hA0 hval0
  refine (Lg.open_walk (LgTab.sound189 14) l (law es f)).mono fun e W' ⟨he, bel⟩ => ?_
  subst he
  exact ⟨_, rfl, _, _, _, [], _, [], hW', trodAll_mk1 (shut_bool Tryz.underlying4 _), hst W' bel, rfl, bel.frame _, fun h => by cases h⟩
theorem over : Rows.sourceMarginsRow.holds Tryz.pinned (OpenSpec.ofChange Rows.sourceMarginsSpec) :=
  OpenClaim.holds_of_wide 8 Tryz.f8 rfl rfl rfl rfl rfl rfl rfl ⟨rfl, rfl, rfl, rfl, rfl⟩ rfl rfl rfl rfl rfl (by kernel_rfl) Tryz.func8 (by kernel_rfl)
    (of_decide_eq_true (by kernel_rfl)) (by unfold Func.isWrapper; first | (rw [if_pos (by decide +kernel)]; kernel_rfl) | (rw [if_neg (by decide +kernel)]; exact ⟨rfl, rfl⟩))
    (fun os started H enc _ => lifted os started H enc)
theorem proved : Rows.SourceMarginsSaid := over
#print axioms proved
end Go.Proofs.YtmmbkjigflhmjaaGreat.sourceMargins
namespace Go.Proofs.YtmmbkjigflhmjaaGreat
/-- The row, under a short name, for the claim. -/
theorem sourceMargins_holds : Rows.SourceMarginsSaid := sourceMargins.proved
end Go.Proofs.YtmmbkjigflhmjaaGreat
