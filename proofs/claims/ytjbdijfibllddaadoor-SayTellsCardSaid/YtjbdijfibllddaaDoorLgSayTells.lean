/- The open sentence SayTells is true: whatever the arguments, its call returns true, and each argument reads behind the call as it read before; no condition. -/
import Derived.Test.YtjbdijfibllddaaDoorRows
import Derived.Test.YtjbdijfibllddaaDoorLgW5
import Derived.Test.YtjbdijfibllddaaDoorLgO3
import Derived.WalkKit
import Derived.ProofKit
import Derived.OpenShut
import Derived.ShutString
import Derived.ChangeOld
import Derived.Below
import Derived.SizedLaws
import Derived.LaidMore
import Derived.SevenTiedAt
import Derived.Test.YtjbdijfibllddaaDoorCards
import Derived.Test.YtjbdijfibllddaaDoorTie
namespace Go.Proofs.YtjbdijfibllddaaDoor.sayTells
open Go.ChangeShapes Go.WideShapes Go.ChangeAt Go.RowKit
set_option linter.unusedVariables false
set_option linter.unusedSimpArgs false
def shs : List Lg.Sh := [.int .i64, .int .i64, .int .i64, .int .i64, .int .i32, .bool]
open Go.Proofs.YtjbdijfibllddaaDoor.LgTab in
theorem law (es : List Lg.D) (f : Lg.FitsA shs es) : Lg.evFun (Lg.clOf (Lg.modsR LgTab.tab 14) 3) LgTab.s214 es = some (.sc (.bool true), []) := by
  obtain ⟨G1, G2, rfl, G3, G4⟩ := f.cons_inv
  obtain ⟨d, rfl, w_d⟩ := G3.int_inv
  obtain ⟨G5, G6, rfl, G7, G8⟩ := G4.cons_inv
  obtain ⟨r, rfl, w_r⟩ := G7.int_inv
  obtain ⟨G9, G10, rfl, G11, G12⟩ := G8.cons_inv
  obtain ⟨c, rfl, w_c⟩ := G11.int_inv
  obtain ⟨G13, G14, rfl, G15, G16⟩ := G12.cons_inv
  obtain ⟨n, rfl, w_n⟩ := G15.int_inv
  obtain ⟨G17, G18, rfl, G19, G20⟩ := G16.cons_inv
  obtain ⟨x, rfl, w_x⟩ := G19.int_inv
  obtain ⟨G21, G22, rfl, G23, G24⟩ := G20.cons_inv
  obtain ⟨on, rfl⟩ := G23.bool_inv
  obtain rfl := G24.nil_inv
  exact sp214 1 d r c n x on (Lg.wf_i32 w_x)
theorem own : ownKnob Tryd.prog.godebug = none := by kernel_rfl
theorem laidOut : laidOutB Tryd.prog = true := by kernel_rfl
def laid : List (String × DataW Unit) := [("math/bits.deBruijn32tab", Rows.laid_math_bits_deBruijn32tab), ("math/bits.deBruijn64tab", Rows.laid_math_bits_deBruijn64tab), ("internal/strconv.uint64pow10", Rows.laid_internal_strconv_uint64pow10)]
theorem door_met (os : Os) (args : Array Value) : laidMetH Tryd.prog laid ((World.doorLaid Tryd.prog 24 os).forCall (fun _ _ => 0) ⟨#[], args, []⟩).memory :=
  laidMetH_of_parts3 (fuel := 8) (laidMet_of_run' 8 (by kernel_rfl) (by kernel_rfl)) (by kernel_rfl) (by kernel_rfl)
theorem no_stand {ps : Array TypeId} (h : (ps.toList.all fun t => !Tryd.prog.wantsStandIn t) = true) : ∀ (j : Nat) t, ps[j]? = some t → Tryd.prog.wantsStandIn t = false := by
  intro j t hj
  have := List.all_eq_true.1 h t (List.mem_of_getElem? (by simpa using hj))
  simpa using this
set_option maxRecDepth 100000 in
theorem lifted (os : Os) (started : os.Started) (H : Type) (enc : TypeId × Value → H) :
    ReturnsInHanded {} Tryd.checked os 5 .any (fun w args => (Rows.sayTellsSpec.pre enc Tryd.prog Tryd.f5 [] false w args ∧ laidMetH Tryd.prog laid w) ∧ sizedMet enc Tryd.prog Tryd.f5 (OpenSpec.ofChange Rows.sayTellsSpec) false w args)
      (Rows.sayTellsSpec.post enc Tryd.prog Tryd.f5 false true false false) := by
  refine returnsInHanded_of_change_and (C := Tryd.checked) (X := fun w _ => laidMetH Tryd.prog laid w) (fun _ _ _ hh h => h.of_heap hh) own started (by kernel_rfl) Tryd.func5
    (ChangeSpec.witness_shaped (enc := enc) (C := Tryd.checked) (os := os) (X := fun w _ => laidMetH Tryd.prog laid w) false (World.doorLaid Tryd.prog 24 os) #[.int .i64 0, .int .i64 0, .int .i64 0, .int .i64 0, .int .i32 0, .bool false] 8 rfl (World.shaped_of_RefB (by kernel_rfl) (by kernel_rfl)) (by kernel_rfl) (by kernel_rfl) (by kernel_rfl) (door_met os _)) ?_
  intro W base args ds gs before hval0 hW _ _ hL _
  have hval : ∀ (j : Nat) t v, Tryd.f5.params[j]? = some t → args[j]? = some v → Value.okWide Tryd.prog W .any base t v := hval0
  have hW' := hW
  obtain ⟨p, q, hA0, hV, rfl, hfz, hnd⟩ := hW
  have hA : DataW.TrodAll enc Tryd.prog W 0 (fun _ => true) true Tryd.f5.params.toList args.toList ds p := hA0
  obtain ⟨rfl, rfl⟩ := trodVars_none hV
  have hlt : ∀ x ∈ p, x.block < W.heap.size := hA.lt
  have hsh : Tryd.f5.params.toList.mapM (Lg.shapeT Tryd.prog 8) = some shs := by kernel_rfl
  obtain ⟨es, l, f⟩ := Lg.args_fit (fid := Lg.fidOf LgTab.ns) (r := .any) (base := base) Tryd.f5.params.toList args.toList ds p shs hsh hA (fun j t v h1 h2 => hval j t v (by simpa using h1) (by simpa using h2))
  have hst := fun W' (bel : Below W.heap.size W W') => Lg.trodAll_stays (enc := enc) laidOut bel Tryd.f5.params.toList args.toList ds p (by kernel_rfl) hA hlt
  have hln : Tryd.f5.params.toList.length = 6 := by kernel_rfl
  obtain ⟨d1, d2, d3, d4, d5, d6, rfl⟩ := Lg.len6 ((trodAll_length hA).2.trans hln)
  clear hA0 hval0
  refine (Lg.open_walk LgTab.sound214 l (law es f)).mono fun e W' ⟨he, bel⟩ => ?_
  subst he
  exact ⟨_, rfl, _, _, _, [], _, [], hW', trodAll_mk1 (shut_bool Tryd.underlying4 _), hst W' bel, rfl, bel.frame _, fun h => by cases h⟩
theorem over : Rows.sayTellsRow.holds Tryd.pinned (OpenSpec.ofChange Rows.sayTellsSpec) :=
  OpenClaim.holds_of_wide 5 Tryd.f5 rfl rfl rfl rfl rfl rfl rfl ⟨rfl, rfl, rfl, rfl, rfl⟩ rfl rfl rfl rfl rfl (by kernel_rfl) Tryd.func5 (by kernel_rfl)
    (of_decide_eq_true (by kernel_rfl)) (by unfold Func.isWrapper; first | (rw [if_pos (by decide +kernel)]; kernel_rfl) | (rw [if_neg (by decide +kernel)]; exact ⟨rfl, rfl⟩))
    (fun os started H enc _ => lifted os started H enc)
theorem proved : Rows.SayTellsSaid := over
theorem card_holds : Rows.SayTellsCardSaid :=
  Claim7.holds_tied_plain_at .later [] [.data, .data, .data] true (true, "1f3e8dfc5bf17a726abee5ac3471606a6aa96368054d6a41c4bce8de254a1168") false
    over (fun _ h => by cases h) (by kernel_rfl) (fun _ h => by cases h) sayTells_row_tie rfl ⟨rfl, rfl⟩ (by kernel_rfl) rfl
    (fun f fn hf hfn => by
      obtain rfl : f = 5 := (Option.some.inj ((show Tryd.prog.funcNamed Rows.sayTellsRow.func = some 5 by kernel_rfl).symm.trans hf)).symm
      obtain rfl : fn = Tryd.f5 := (Option.some.inj (Tryd.func5.symm.trans hfn)).symm
      exact ⟨by kernel_rfl, no_stand (by kernel_rfl)⟩)
    (by kernel_rfl)
#print axioms card_holds
end Go.Proofs.YtjbdijfibllddaaDoor.sayTells
namespace Go.Proofs.YtjbdijfibllddaaDoor
/-- The row, under a short name, for the claim. -/
theorem sayTells_holds : Rows.SayTellsCardSaid := sayTells.card_holds
end Go.Proofs.YtjbdijfibllddaaDoor
