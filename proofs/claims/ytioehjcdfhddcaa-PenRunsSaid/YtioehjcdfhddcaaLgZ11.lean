import Derived.Test.YtioehjcdfhddcaaLgZ10
/-
  All calls of a table are so.
-/
namespace Lg
open Go
set_option linter.unusedVariables false
set_option linter.unusedSimpArgs false
set_option linter.unusedSectionVars false

section
variable {P : Program} {num : FuncId → Option Nat} {fid : Nat → FuncId}
/-- What a table of calls must keep. -/
def TabOK (P : Program) (num : FuncId → Option Nat) (fid : Nat → FuncId) (Γ : Nat → Option Sem1) : Prop :=
  ∀ f, (∀ fz m, Γ f = some (.model fz m) → Entered P (fid f) ∧ SoundFn P fid (fid f) m) ∧ (∀ s, Γ f = some (.inl s) → Entered P (fid f) ∧ ∃ ann, compF P num ann (fid f) = some s)
theorem Obs.st {Cb : Nat → Prop} {w : World} {A : Av} {ι : Io} {H : List Ob} (B : Obs fid Cb w A ι H) (a : Act) (dk : Nat → Bool) (hd : a.defers = []) (hdk : ∀ d, dk d = true → d < a.tmps.size) : St fid w A Cb (dk, fun t => a.tmps.getD t undef) w A ι a [] H no :=
  ⟨Keep.refl _ _ _, B.al, B.cb, hdk, fun _ _ => rfl, hd, fun t => .un _, B.ob, B.sp⟩
theorem clOf_sound (hnum : ∀ f g, num f = some g → fid g = f) (hmix : P.follows .mixedOrders = true) {Γ : Nat → Option Sem1} (hΓ : TabOK P num fid Γ) : ∀ n, ClR P fid (clOf Γ n).r ∧ ClW P fid (clOf Γ n).w := by
  have R : ∀ n, ClR P fid (clOf Γ n).r := by
    intro n f as H d h
    have e : (clOf Γ n).r f as H = match Γ f with | some (.model fz m) => callQ fz m as H | _ => none := by cases n <;> rfl
    rw [e] at h
    split at h
    · rename_i fz m hm
      obtain ⟨h1, h2⟩ := (hΓ f).1 fz m hm
      exact ⟨h1, fun w A ι vs O eo l hob hal => callQ_sound h2 l hob hal h⟩
    · cases h
  have M : ∀ f fz m as H d H', Γ f = some (.model fz m) → callM fz m as H = some (d, H') → Entered P (fid f) ∧ ∀ (w : World) (A : Av) (ι : Io) (Cb : Nat → Prop) (vs : List Value), Obs fid Cb w A ι H → LVs fid w A ι true vs as [] →
      Calls P (fid f) ⟨vs⟩ w (fun e w' => ∃ v A' ι', e = .returned v ∧ Keep w w' A A' Cb ∧ Ext ι ι' ∧ Obs fid Cb w' A' ι' H' ∧ LV fid w' A' ι' true v d []) := by
    intro f fz m as H d H' hm h
    obtain ⟨h1, h2⟩ := (hΓ f).1 fz m hm
    refine ⟨h1, fun w A ι Cb vs B l => ?_⟩
    have S := B.st { tmps := #[], defers := [] } (fun _ => false) rfl (by simp)
    refine Calls.mono (callM_sound h2 S l h) fun e w' he => ?_
    obtain ⟨v, A', ι', rfl, S', lv, x⟩ := he
    exact ⟨v, A', ι', rfl, S'.kp, x, S'.obs rfl, lv⟩
  intro n
  refine ⟨R n, ?_⟩
  induction n with
  | zero =>
    intro f as H d H' h
    simp only [clOf] at h
    split at h
    · rename_i fz m hm
      exact M f fz m as H d H' hm h
    · cases h
  | succ n ih =>
    intro f as H d H' h
    simp only [clOf] at h
    split at h
    · rename_i fz m hm
      exact M f fz m as H d H' hm h
    · rename_i s hs
      obtain ⟨h1, ann, hc⟩ := (hΓ f).2 s hs
      refine ⟨h1, fun w A ι Cb vs B l => ?_⟩
      unfold compF at hc
      obtain ⟨fn, hf, hc⟩ := Option.bind_eq_some_iff.1 hc
      obtain ⟨c, hb, hc⟩ := Option.bind_eq_some_iff.1 hc
      split at hc
      · rename_i hle
        obtain ⟨body, hbody, hc⟩ := Option.bind_eq_some_iff.1 hc
        obtain ⟨res, hres, hse⟩ := Option.map_eq_some_iff.1 hc
        subst hse
        unfold evInl at h
        split at h
        · rename_i hh
          obtain ⟨hlen, hnl⟩ := hh
          simp only at hlen hnl h
          obtain ⟨⟨E1, H1⟩, he, h⟩ := Option.bind_eq_some_iff.1 h
          obtain ⟨rd, hrd, h⟩ := Option.map_eq_some_iff.1 h
          simp only [Prod.mk.injEq] at h
          obtain ⟨rfl, rfl⟩ := h
          obtain ⟨ex, hev, hex⟩ := ended_some he
          have hvl : vs.length = as.length := l.length_eq
          refine calls_of_wp hf hb ?_
          let a0 : Act := { tmps := (⟨vs⟩ : Array Value) ++ Array.replicate (fn.ntmps - vs.length) undef, defers := [] }
          let dk : Nat → Bool := fun d => decide (d < fn.ntmps) && !(ann.fx.contains d)
          have S0 := B.st a0 dk rfl (fun d hd => by
            have : d < fn.ntmps := by
              simp only [dk, Bool.and_eq_true, decide_eq_true_eq] at hd
              exact hd.1
            show d < ((⟨vs⟩ : Array Value) ++ Array.replicate (fn.ntmps - vs.length) undef).size
            simp; omega)
          have S2 : St fid w A Cb (dk, fun t => a0.tmps.getD t undef) w A ι a0 (envFrom 0 as) H no := by
            refine S0.env fun p hp => ?_
            obtain ⟨i, e1, e2⟩ := envFrom_mem 0 _ p hp
            obtain ⟨v, hv, lv⟩ := l.get e2
            have : a0.tmps.getD p.1 undef = v := by rw [e1, Nat.zero_add]; exact getD_args hv
            rw [this]; exact lv
          refine evC_sound (nt := (dk, fun t => a0.tmps.getD t undef)) hnum (R n) (fun f as H H' => clOf_congr) ih hmix c hbody S2 hev fun a' w' A' ι' S' hx => ?_
          have main : a'.defers = [] ∧ ∃ v, (results fn a'.tmps).run P w' = .ok v w' ∧ ∃ v' A' ι', Ending.returned v = .returned v' ∧ Keep w w' A A' Cb ∧ Ext ι ι' ∧ Obs fid Cb w' A' ι' H1 ∧ LV fid w' A' ι' true v' (one rd) [] := by
            obtain ⟨rv, hrv, lrv⟩ := res_sound S' _ _ _ _ hres hrd
            exact ⟨S'.df, oneV rv, run_results hrv, oneV rv, A', ι', rfl, S'.kp, hx hnl, S'.obs rfl, one_lv lrv⟩
          rcases hex with rfl | rfl
          · exact main
          · exact main
        · cases h
      · cases hc
    · cases h
/-- A function's contract, from its code, where its calls have theirs. -/
theorem fun_sound (hnum : ∀ f g, num f = some g → fid g = f) (hmix : P.follows .mixedOrders = true) {Γ : Nat → Option Sem1} (hΓ : TabOK P num fid Γ) (n : Nat) {ann : Ann} {f : FuncId} {s : SFun} (hc : compF P num ann f = some s) :
    SoundFn P fid f (evFun (clOf Γ n) s) :=
  evFun_sound hnum (clOf_sound hnum hmix hΓ n).1 (fun f as H H' => clOf_congr) (clOf_sound hnum hmix hΓ n).2 hmix hc
theorem SoundFn.congr {f : FuncId} {m m' : List D → Option (D × List D)} (h : SoundFn P fid f m) (e : ∀ ds r, m' ds = some r → m ds = some r) : SoundFn P fid f m' :=
  fun ds r os hm => h ds r os (e ds (r, os) hm)
end
end Lg
