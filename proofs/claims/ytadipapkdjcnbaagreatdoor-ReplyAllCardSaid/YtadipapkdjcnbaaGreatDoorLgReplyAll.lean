/- The open sentence ReplyAll is true: whatever the arguments, its call returns true, and each argument reads behind the call as it read before; no condition. -/
import Derived.Test.YtadipapkdjcnbaaGreatDoorRows
import Derived.Test.YtadipapkdjcnbaaGreatDoorLgKe
import Derived.Test.YtadipapkdjcnbaaGreatDoorLgTc
import Derived.Test.YtadipapkdjcnbaaGreatDoorLgO3
import Derived.WalkKit
import Derived.ProofKit
import Derived.OpenShut
import Derived.ShutString
import Derived.ChangeOld
import Derived.Below
import Derived.SizedLaws
import Derived.LaidMore
import Derived.SevenTiedAt
import Derived.Test.YtadipapkdjcnbaaGreatDoorCards
import Derived.Test.YtadipapkdjcnbaaGreatDoorTie
namespace Go.Proofs.YtadipapkdjcnbaaGreatDoor.replyAll
open Go.ChangeShapes Go.WideShapes Go.ChangeAt Go.RowKit
set_option linter.unusedVariables false
set_option linter.unusedSimpArgs false
def shs : List Lg.Sh := [.st [.st [.int .i64, .int .i64, .sl 1 false (.int .i64), .sl 1 false (.int .i64)], .int .i64, .int .i64, .int .i64, .int .i64, .int .i64, .st [.int .i64, .int .i64, .int .i64], .int .u64], .sl 5 true (.st [.int .i64, .int .i64, .int .i64, .sl 1 false (.int .i64), .sl 1 false (.int .u8)]), .int .i64]
open Go.Proofs.YtadipapkdjcnbaaGreatDoor.LgTab in
theorem law (es : List Lg.D) (f : Lg.FitsA shs es) : Lg.evFun (Lg.clOf (Lg.modsR LgTab.tab 14) 3) LgTab.s197 es = some (.sc (.bool true), []) := by
  obtain ⟨G1, G2, rfl, G3, G4⟩ := f.cons_inv
  obtain ⟨G6, rfl, G5⟩ := G3.st_inv
  obtain ⟨G7, G8, rfl, G9, G10⟩ := G5.cons_inv
  have G11 := G9.st_inv
  obtain ⟨G13, G14, rfl, G15, G16⟩ := G11.cons_inv
  obtain ⟨a, rfl, w_a⟩ := G15.int_inv
  obtain ⟨G17, G18, rfl, G19, G20⟩ := G16.cons_inv
  obtain ⟨b, rfl, w_b⟩ := G19.int_inv
  obtain ⟨G21, G22, rfl, G23, G24⟩ := G20.cons_inv
  obtain ⟨rs, rfl, n_rs, w_rs⟩ := G23.ints
  obtain ⟨G25, G26, rfl, G27, G28⟩ := G24.cons_inv
  obtain ⟨ps, rfl, n_ps, w_ps⟩ := G27.ints
  obtain rfl := G28.nil_inv
  obtain ⟨G29, G30, rfl, G31, G32⟩ := G10.cons_inv
  obtain ⟨kr, rfl, w_kr⟩ := G31.int_inv
  obtain ⟨G33, G34, rfl, G35, G36⟩ := G32.cons_inv
  obtain ⟨kc, rfl, w_kc⟩ := G35.int_inv
  obtain ⟨G37, G38, rfl, G39, G40⟩ := G36.cons_inv
  obtain ⟨kt, rfl, w_kt⟩ := G39.int_inv
  obtain ⟨G41, G42, rfl, G43, G44⟩ := G40.cons_inv
  obtain ⟨kb, rfl, w_kb⟩ := G43.int_inv
  obtain ⟨G45, G46, rfl, G47, G48⟩ := G44.cons_inv
  obtain ⟨kf, rfl, w_kf⟩ := G47.int_inv
  obtain ⟨G49, G50, rfl, G51, G52⟩ := G48.cons_inv
  have G53 := G51.st_inv
  obtain ⟨G55, G56, rfl, G57, G58⟩ := G53.cons_inv
  obtain ⟨p1, rfl, w_p1⟩ := G57.int_inv
  obtain ⟨G59, G60, rfl, G61, G62⟩ := G58.cons_inv
  obtain ⟨p2, rfl, w_p2⟩ := G61.int_inv
  obtain ⟨G63, G64, rfl, G65, G66⟩ := G62.cons_inv
  obtain ⟨p3, rfl, w_p3⟩ := G65.int_inv
  obtain rfl := G66.nil_inv
  obtain ⟨G67, G68, rfl, G69, G70⟩ := G52.cons_inv
  obtain ⟨tabs0, rfl, w0_tabs⟩ := G69.int_inv
  obtain ⟨tabs, rfl, w_tabs⟩ := u64_nat w0_tabs
  obtain rfl := G70.nil_inv
  obtain ⟨G71, G72, rfl, G73, G74⟩ := G4.cons_inv
  obtain ⟨l, rfl, w_l⟩ := G73.kevs_inv
  obtain ⟨G75, G76, rfl, G77, G78⟩ := G74.cons_inv
  obtain ⟨ask, rfl, w_ask⟩ := G77.int_inv
  obtain rfl := G78.nil_inv
  exact sp197 3 a b rs ps (Nat.le_trans n_rs (by decide)) (Nat.le_trans n_ps (by decide)) kr kc kt kb kf p1 p2 p3 tabs w_tabs l w_l ask
theorem own : ownKnob Tryz.prog.godebug = none := by kernel_rfl
theorem laidOut : laidOutB Tryz.prog = true := by kernel_rfl
def laid : List (String × DataW Unit) := [("math/bits.deBruijn32tab", Rows.laid_math_bits_deBruijn32tab), ("math/bits.deBruijn64tab", Rows.laid_math_bits_deBruijn64tab), ("internal/strconv.uint64pow10", Rows.laid_internal_strconv_uint64pow10)]
theorem door_met (os : Os) (args : Array Value) : laidMetH Tryz.prog laid ((World.doorLaid Tryz.prog 24 os).forCall (fun _ _ => 0) ⟨#[], args, []⟩).memory :=
  laidMetH_of_parts3 (fuel := 8) (laidMet_of_run' 8 (by kernel_rfl) (by kernel_rfl)) (by kernel_rfl) (by kernel_rfl)
theorem no_stand {ps : Array TypeId} (h : (ps.toList.all fun t => !Tryz.prog.wantsStandIn t) = true) : ∀ (j : Nat) t, ps[j]? = some t → Tryz.prog.wantsStandIn t = false := by
  intro j t hj
  have := List.all_eq_true.1 h t (List.mem_of_getElem? (by simpa using hj))
  simpa using this
set_option maxRecDepth 100000 in
theorem lifted (os : Os) (started : os.Started) (H : Type) (enc : TypeId × Value → H) :
    ReturnsInHanded {} Tryz.checked os 3 .any (fun w args => (Rows.replyAllSpec.pre enc Tryz.prog Tryz.f3 [] false w args ∧ laidMetH Tryz.prog laid w) ∧ sizedMet enc Tryz.prog Tryz.f3 (OpenSpec.ofChange Rows.replyAllSpec) false w args)
      (Rows.replyAllSpec.post enc Tryz.prog Tryz.f3 false true false false) := by
  refine returnsInHanded_of_change_and (C := Tryz.checked) (X := fun w _ => laidMetH Tryz.prog laid w) (fun _ _ _ hh h => h.of_heap hh) own started (by kernel_rfl) Tryz.func3
    (ChangeSpec.witness_shaped (enc := enc) (C := Tryz.checked) (os := os) (X := fun w _ => laidMetH Tryz.prog laid w) false (World.doorLaid Tryz.prog 24 os) #[.agg #[.int .i64 0, .int .i64 0, .slice none 0 0, .slice none 0 0, .int .i64 0, .int .i64 0, .int .i64 0, .int .i64 0, .int .i64 0, .int .i64 0, .int .i64 0, .int .i64 0, .int .u64 0], .slice none 0 0, .int .i64 0] 8 rfl (World.shaped_of_RefB (by kernel_rfl) (by kernel_rfl)) (by kernel_rfl) (by kernel_rfl) (by kernel_rfl) (door_met os _)) ?_
  intro W base args ds gs before hval0 hW _ _ hL _
  have hval : ∀ (j : Nat) t v, Tryz.f3.params[j]? = some t → args[j]? = some v → Value.okWide Tryz.prog W .any base t v := hval0
  have hW' := hW
  obtain ⟨p, q, hA0, hV, rfl, hfz, hnd⟩ := hW
  have hA : DataW.TrodAll enc Tryz.prog W 0 (fun _ => true) true Tryz.f3.params.toList args.toList ds p := hA0
  obtain ⟨rfl, rfl⟩ := trodVars_none hV
  have hlt : ∀ x ∈ p, x.block < W.heap.size := hA.lt
  have hsh : Tryz.f3.params.toList.mapM (Lg.shapeT Tryz.prog 8) = some shs := by kernel_rfl
  obtain ⟨es, l, f⟩ := Lg.args_fit (fid := Lg.fidOf LgTab.ns) (r := .any) (base := base) Tryz.f3.params.toList args.toList ds p shs hsh hA (fun j t v h1 h2 => hval j t v (by simpa using h1) (by simpa using h2))
  have hst := fun W' (bel : Below W.heap.size W W') => Lg.trodAll_stays (enc := enc) laidOut bel Tryz.f3.params.toList args.toList ds p (by kernel_rfl) hA hlt
  have hln : Tryz.f3.params.toList.length = 3 := by kernel_rfl
  obtain ⟨d1, d2, d3, rfl⟩ := Lg.len3 ((trodAll_length hA).2.trans hln)
  clear hA0 hval0
  refine (Lg.open_walk (LgTab.sound197 14) l (law es f)).mono fun e W' ⟨he, bel⟩ => ?_
  subst he
  exact ⟨_, rfl, _, _, _, [], _, [], hW', trodAll_mk1 (shut_bool Tryz.underlying4 _), hst W' bel, rfl, bel.frame _, fun h => by cases h⟩
theorem over : Rows.replyAllRow.holds Tryz.pinned (OpenSpec.ofChange Rows.replyAllSpec) :=
  OpenClaim.holds_of_wide 3 Tryz.f3 rfl rfl rfl rfl rfl rfl rfl ⟨rfl, rfl, rfl, rfl, rfl⟩ rfl rfl rfl rfl rfl (by kernel_rfl) Tryz.func3 (by kernel_rfl)
    (of_decide_eq_true (by kernel_rfl)) (by unfold Func.isWrapper; first | (rw [if_pos (by decide +kernel)]; kernel_rfl) | (rw [if_neg (by decide +kernel)]; exact ⟨rfl, rfl⟩))
    (fun os started H enc _ => lifted os started H enc)
theorem proved : Rows.ReplyAllSaid := over
theorem card_holds : Rows.ReplyAllCardSaid :=
  Claim7.holds_tied_plain_at .later [] [.data, .data, .data] true (true, "cb3f957ee3298cd70d81f325e41d16f9fe6fcc6f70e8187b95a597f1e16c8145") false
    over (fun _ h => by cases h) (by kernel_rfl) (fun _ h => by cases h) replyAll_row_tie rfl ⟨rfl, rfl⟩ (by kernel_rfl) rfl
    (fun f fn hf hfn => by
      obtain rfl : f = 3 := (Option.some.inj ((show Tryz.prog.funcNamed Rows.replyAllRow.func = some 3 by kernel_rfl).symm.trans hf)).symm
      obtain rfl : fn = Tryz.f3 := (Option.some.inj (Tryz.func3.symm.trans hfn)).symm
      exact ⟨by kernel_rfl, no_stand (by kernel_rfl)⟩)
    (by kernel_rfl)
#print axioms card_holds
end Go.Proofs.YtadipapkdjcnbaaGreatDoor.replyAll
namespace Go.Proofs.YtadipapkdjcnbaaGreatDoor
/-- The row, under a short name, for the claim. -/
theorem replyAll_holds : Rows.ReplyAllCardSaid := replyAll.card_holds
end Go.Proofs.YtadipapkdjcnbaaGreatDoor
