import Derived.Test.YtflnllohghgpdaaLgZ1
/-
  Regions in the text's order.
-/
namespace Lg
open Go
set_option linter.unusedVariables false
set_option linter.unusedSimpArgs false
set_option linter.unusedSectionVars false

section
variable {P : Program} {num : FuncId → Option Nat} {fid : Nat → FuncId}
  {w0 : World} {A0 : Av} {Cb : Nat → Prop} {nt : Nt} {w w' : World} {A A' : Av} {ι ι' : Io} {a : Act} {E E' : Env} {H H' : List Ob} {own : Nat → List Nat}
theorem wpOp_of {ops : Array Oper} {Q : Exit → Act → World → Prop} {i : Nat} {o : Oper} (h : ops[i]? = some o) {K : Act → World → Prop} (hw : wpO P ops o K Q a w) : wpOp P ops Q i K a w := by
  unfold wpOp; rw [h]; exact hw
theorem regO_sound {cl : Cl} (hnum : ∀ f g, num f = some g → fid g = f) (hr : ClR P fid cl.r) (hcw : ClW P fid cl.w) {ops : Array Oper} {Q : Exit → Act → World → Prop} : ∀ (os : List Oper) (k : Nat) (l : List SOper) {w : World} {A : Av} {ι : Io} {a : Act} {E : Env} {H : List Ob},
    ops.toList.drop k = os → os.mapM (fun o => compOper P num nt.1 ops false o) = some l → stepsO cl l E H = some (E', H') → St fid w0 A0 Cb nt w A ι a E H no →
    (∀ a' w' A' ι', St fid w0 A0 Cb nt w' A' ι' a' E' H' no → Ext ι ι' → Q .normal a' w') → wpOps P ops Q (List.range' k os.length) a w
  | [], k, l, w, A, ι, a, E, H, hd, hl, he, S, hQ => by
    simp only [List.mapM_nil] at hl
    injection hl with hl; subst hl
    simp only [stepsO, Option.some.injEq, Prod.mk.injEq] at he
    obtain ⟨rfl, rfl⟩ := he
    simp only [List.length_nil, List.range'_zero, wpOps]
    exact hQ a w A ι S (Ext.refl _)
  | o :: os, k, l, w, A, ι, a, E, H, hd, hl, he, S, hQ => by
    rw [List.mapM_cons] at hl
    obtain ⟨s, hs, hl⟩ := Option.bind_eq_some_iff.1 hl
    obtain ⟨l', hl', hl⟩ := Option.bind_eq_some_iff.1 hl
    simp only [pure, Option.some.injEq] at hl
    subst hl
    simp only [stepsO] at he
    obtain ⟨⟨E1, H1⟩, he1, he2⟩ := Option.bind_eq_some_iff.1 he
    have hget : ops[k]? = some o := by
      have : (ops.toList.drop k)[0]? = some o := by rw [hd]; rfl
      rw [List.getElem?_drop] at this
      simpa using this
    have hd' : ops.toList.drop (k + 1) = os := by rw [← List.drop_drop, hd]; rfl
    rw [List.length_cons, List.range'_succ, wpOps_cons]
    refine wpOp_of hget (stepO_sound hr hcw hs S he1 hnum fun a1 w1 A1 ι1 S1 x1 => ?_)
    exact regO_sound hnum hr hcw os (k + 1) l' hd' hl' he2 S1 fun a' w' A' ι' S' x' => hQ a' w' A' ι' S' (x1.trans x')
end
end Lg
