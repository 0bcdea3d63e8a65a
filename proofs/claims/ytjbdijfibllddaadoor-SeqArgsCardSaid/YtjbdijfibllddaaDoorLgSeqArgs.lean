/- The open sentence SeqArgs is true: whatever the arguments, its call returns true, and each argument reads behind the call as it read before; no condition. -/
import Derived.Test.YtjbdijfibllddaaDoorRows
import Derived.Test.YtjbdijfibllddaaDoorLgU3
import Derived.Test.YtjbdijfibllddaaDoorLgO3
import Derived.WalkKit
import Derived.ProofKit
import Derived.OpenShut
import Derived.ShutString
import Derived.ChangeOld
import Derived.Below
import Derived.SizedLaws
import Derived.LaidMore
import Derived.SevenTiedAt
import Derived.Test.YtjbdijfibllddaaDoorCards
import Derived.Test.YtjbdijfibllddaaDoorTie
namespace Go.Proofs.YtjbdijfibllddaaDoor.seqArgs
open Go.ChangeShapes Go.WideShapes Go.ChangeAt Go.RowKit
set_option linter.unusedVariables false
set_option linter.unusedSimpArgs false
def shs : List Lg.Sh := [.sl 1 false (.int .i64), .int .i64, .int .i64, .int .i64, .int .i64, .int .u8]
open Go.Proofs.YtjbdijfibllddaaDoor.LgTab in
theorem law (es : List Lg.D) (f : Lg.FitsA shs es) : Lg.evFun (Lg.clOf (Lg.modsR LgTab.tab 14) 3) LgTab.s237 es = some (.sc (.bool true), []) := by
  obtain ⟨G1, G2, rfl, G3, G4⟩ := f.cons_inv
  obtain ⟨ps, rfl, n_ps, w_ps⟩ := G3.ints_inv
  obtain ⟨G5, G6, rfl, G7, G8⟩ := G4.cons_inv
  obtain ⟨i, rfl, w_i⟩ := G7.int_inv
  obtain ⟨G9, G10, rfl, G11, G12⟩ := G8.cons_inv
  obtain ⟨no, rfl, w_no⟩ := G11.int_inv
  obtain ⟨G13, G14, rfl, G15, G16⟩ := G12.cons_inv
  obtain ⟨lo, rfl, w_lo⟩ := G15.int_inv
  obtain ⟨G17, G18, rfl, G19, G20⟩ := G16.cons_inv
  obtain ⟨hi, rfl, w_hi⟩ := G19.int_inv
  obtain ⟨G21, G22, rfl, G23, G24⟩ := G20.cons_inv
  obtain ⟨fin, rfl, w_fin⟩ := G23.int_inv
  obtain rfl := G24.nil_inv
  exact sp237 3 ps i no lo hi fin (Lg.wf_u8 w_fin)
theorem own : ownKnob Tryd.prog.godebug = none := by kernel_rfl
theorem laidOut : laidOutB Tryd.prog = true := by kernel_rfl
def laid : List (String × DataW Unit) := [("math/bits.deBruijn32tab", Rows.laid_math_bits_deBruijn32tab), ("math/bits.deBruijn64tab", Rows.laid_math_bits_deBruijn64tab), ("internal/strconv.uint64pow10", Rows.laid_internal_strconv_uint64pow10)]
theorem door_met (os : Os) (args : Array Value) : laidMetH Tryd.prog laid ((World.doorLaid Tryd.prog 24 os).forCall (fun _ _ => 0) ⟨#[], args, []⟩).memory :=
  laidMetH_of_parts3 (fuel := 8) (laidMet_of_run' 8 (by kernel_rfl) (by kernel_rfl)) (by kernel_rfl) (by kernel_rfl)
theorem no_stand {ps : Array TypeId} (h : (ps.toList.all fun t => !Tryd.prog.wantsStandIn t) = true) : ∀ (j : Nat) t, ps[j]? = some t → Tryd.prog.wantsStandIn t = false := by
  intro j t hj
  have := List.all_eq_true.1 h t (List.mem_of_getElem? (by simpa using hj))
  simpa using this
set_option maxRecDepth 100000 in
theorem lifted (os : Os) (started : os.Started) (H : Type) (enc : TypeId × Value → H) :
    ReturnsInHanded {} Tryd.checked os 4 .any (fun w args => (Rows.seqArgsSpec.pre enc Tryd.prog Tryd.f4 [] false w args ∧ laidMetH Tryd.prog laid w) ∧ sizedMet enc Tryd.prog Tryd.f4 (OpenSpec.ofChange Rows.seqArgsSpec) false w args)
      (Rows.seqArgsSpec.post enc Tryd.prog Tryd.f4 false true false false) := by
  refine returnsInHanded_of_change_and (C := Tryd.checked) (X := fun w _ => laidMetH Tryd.prog laid w) (fun _ _ _ hh h => h.of_heap hh) own started (by kernel_rfl) Tryd.func4
    (ChangeSpec.witness_shaped (enc := enc) (C := Tryd.checked) (os := os) (X := fun w _ => laidMetH Tryd.prog laid w) false (World.doorLaid Tryd.prog 24 os) #[.slice none 0 0, .int .i64 0, .int .i64 0, .int .i64 0, .int .i64 0, .int .u8 0] 8 rfl (World.shaped_of_RefB (by kernel_rfl) (by kernel_rfl)) (by kernel_rfl) (by kernel_rfl) (by kernel_rfl) (door_met os _)) ?_
  intro W base args ds gs before hval0 hW _ _ hL _
  have hval : ∀ (j : Nat) t v, Tryd.f4.params[j]? = some t → args[j]? = some v → Value.okWide Tryd.prog W .any base t v := hval0
  have hW' := hW
  obtain ⟨p, q, hA0, hV, rfl, hfz, hnd⟩ := hW
  have hA : DataW.TrodAll enc Tryd.prog W 0 (fun _ => true) true Tryd.f4.params.toList args.toList ds p := hA0
  obtain ⟨rfl, rfl⟩ := trodVars_none hV
  have hlt : ∀ x ∈ p, x.block < W.heap.size := hA.lt
  have hsh : Tryd.f4.params.toList.mapM (Lg.shapeT Tryd.prog 8) = some shs := by kernel_rfl
  obtain ⟨es, l, f⟩ := Lg.args_fit (fid := Lg.fidOf LgTab.ns) (r := .any) (base := base) Tryd.f4.params.toList args.toList ds p shs hsh hA (fun j t v h1 h2 => hval j t v (by simpa using h1) (by simpa using h2))
  have hst := fun W' (bel : Below W.heap.size W W') => Lg.trodAll_stays (enc := enc) laidOut bel Tryd.f4.params.toList args.toList ds p (by kernel_rfl) hA hlt
  have hln : Tryd.f4.params.toList.length = 6 := by kernel_rfl
  obtain ⟨d1, d2, d3, d4, d5, d6, rfl⟩ := Lg.len6 ((trodAll_length hA).2.trans hln)
  clear hA0 hval0
  refine (Lg.open_walk LgTab.sound237 l (law es f)).mono fun e W' ⟨he, bel⟩ => ?_
  subst he
  exact ⟨_, rfl, _, _, _, [], _, [], hW', trodAll_mk1 (shut_bool Tryd.underlying4 _), hst W' bel, rfl, bel.frame _, fun h => by cases h⟩
theorem over : Rows.seqArgsRow.holds Tryd.pinned (OpenSpec.ofChange Rows.seqArgsSpec) :=
  OpenClaim.holds_of_wide 4 Tryd.f4 rfl rfl rfl rfl rfl rfl rfl ⟨rfl, rfl, rfl, rfl, rfl⟩ rfl rfl rfl rfl rfl (by kernel_rfl) Tryd.func4 (by kernel_rfl)
    (of_decide_eq_true (by kernel_rfl)) (by unfold Func.isWrapper; first | (rw [if_pos (by decide +kernel)]; kernel_rfl) | (rw [if_neg (by decide +kernel)]; exact ⟨rfl, rfl⟩))
    (fun os started H enc _ => lifted os started H enc)
theorem proved : Rows.SeqArgsSaid := over
theorem card_holds : Rows.SeqArgsCardSaid :=
  Claim7.holds_tied_plain_at .later [] [.data, .data, .data] true (true, "1f3e8dfc5bf17a726abee5ac3471606a6aa96368054d6a41c4bce8de254a1168") false
    over (fun _ h => by cases h) (by kernel_rfl) (fun _ h => by cases h) seqArgs_row_tie rfl ⟨rfl, rfl⟩ (by kernel_rfl) rfl
    (fun f fn hf hfn => by
      obtain rfl : f = 4 := (Option.some.inj ((show Tryd.prog.funcNamed Rows.seqArgsRow.func = some 4 by kernel_rfl).symm.trans hf)).symm
      obtain rfl : fn = Tryd.f4 := (Option.some.inj (Tryd.func4.symm.trans hfn)).symm
      exact ⟨by kernel_rfl, no_stand (by kernel_rfl)⟩)
    (by kernel_rfl)
#print axioms card_holds
end Go.Proofs.YtjbdijfibllddaaDoor.seqArgs
namespace Go.Proofs.YtjbdijfibllddaaDoor
/-- The row, under a short name, for the claim. -/
theorem seqArgs_holds : Rows.SeqArgsCardSaid := seqArgs.card_holds
end Go.Proofs.YtjbdijfibllddaaDoor
