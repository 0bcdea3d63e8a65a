import Derived.Test.YtflnllohghgpdaaLgN0
/-
  All calls of a table are so.
-/
namespace Lg
open Go
set_option linter.unusedVariables false
set_option linter.unusedSimpArgs false
set_option linter.unusedSectionVars false

section
variable {P : Program} {num : FuncId → Option Nat} {fid : Nat → FuncId}
/-- What a table of calls must keep. -/
def TabOK (P : Program) (num : FuncId → Option Nat) (fid : Nat → FuncId) (Γ : Nat → Option Sem1) : Prop :=
  ∀ f, (∀ m, (∃ fz, Γ f = some (.model fz m)) ∨ Γ f = some (.modelO m) → Entered P (fid f) ∧ SoundFn P fid (fid f) m) ∧ (∀ s, Γ f = some (.inl s) → Entered P (fid f) ∧ ∃ ann, compF P num ann (fid f) = some s)
theorem Obs.st {Cb : Nat → Prop} {w : World} {A : Av} {ι : Io} {H : List Ob} (B : Obs fid Cb w A ι H) (a : Act) (dk : Nat → Bool) (hd : a.defers = []) (hdk : ∀ d, dk d = true → d < a.tmps.size) : St fid w A Cb (dk, fun t => a.tmps.getD t undef) w A ι a [] H no :=
  ⟨Keep.refl _ _ _, B.al, B.cb, hdk, fun _ _ => rfl, hd, fun t => .un _, B.ob, B.sp⟩
/-- A function that is walked into. -/
theorem inl_sound {cl : Cl} (hnum : ∀ f g, num f = some g → fid g = f) (hr : ClR P fid cl.r) (hcg : CongrR cl.r) (hcw : ClW P fid cl.w) (hmix : P.follows .mixedOrders = true) {ann : Ann} {f : FuncId} {s : SFun} (hc : compF P num ann f = some s)
    {as : List D} {H : List Ob} {d : D} {H' : List Ob} (h : evInl cl s as H = some (d, H')) {w : World} {A : Av} {ι : Io} {Cb : Nat → Prop} {vs : List Value} (B : Obs fid Cb w A ι H) (l : LVs fid w A ι true vs as []) :
    Calls P f ⟨vs⟩ w (fun e w' => ∃ v A' ι', e = .returned v ∧ Keep w w' A A' Cb ∧ Ext ι ι' ∧ Obs fid Cb w' A' ι' H' ∧ LV fid w' A' ι' true v d []) := by
  unfold compF at hc
  obtain ⟨fn, hf, hc⟩ := Option.bind_eq_some_iff.1 hc
  obtain ⟨c, hb, hc⟩ := Option.bind_eq_some_iff.1 hc
  split at hc
  · rename_i hle
    obtain ⟨body, hbody, hc⟩ := Option.bind_eq_some_iff.1 hc
    obtain ⟨res, hres, hse⟩ := Option.map_eq_some_iff.1 hc
    subst hse
    unfold evInl at h
    split at h
    · rename_i hh
      obtain ⟨hlen, hnl⟩ := hh
      simp only at hlen hnl h
      obtain ⟨⟨E1, H1⟩, he, h⟩ := Option.bind_eq_some_iff.1 h
      obtain ⟨rd, hrd, h⟩ := Option.map_eq_some_iff.1 h
      simp only [Prod.mk.injEq] at h
      obtain ⟨rfl, rfl⟩ := h
      obtain ⟨ex, hev, hex⟩ := ended_some he
      have hvl : vs.length = as.length := l.length_eq
      refine calls_of_wp hf hb ?_
      let a0 : Act := { tmps := (⟨vs⟩ : Array Value) ++ Array.replicate (fn.ntmps - vs.length) undef, defers := [] }
      let dk : Nat → Bool := fun d => decide (d < fn.ntmps) && !(ann.fx.contains d)
      have S0 := B.st a0 dk rfl (fun d hd => by
        have : d < fn.ntmps := by
          simp only [dk, Bool.and_eq_true, decide_eq_true_eq] at hd
          exact hd.1
        show d < ((⟨vs⟩ : Array Value) ++ Array.replicate (fn.ntmps - vs.length) undef).size
        simp; omega)
      have S2 : St fid w A Cb (dk, fun t => a0.tmps.getD t undef) w A ι a0 (envFrom 0 as) H no := by
        refine S0.env fun p hp => ?_
        obtain ⟨i, e1, e2⟩ := envFrom_mem 0 _ p hp
        obtain ⟨v, hv, lv⟩ := l.get e2
        have : a0.tmps.getD p.1 undef = v := by rw [e1, Nat.zero_add]; exact getD_args hv
        rw [this]; exact lv
      refine evC_sound (nt := (dk, fun t => a0.tmps.getD t undef)) hnum hr hcg hcw hmix c hbody S2 hev fun a' w' A' ι' S' hx => ?_
      have main : a'.defers = [] ∧ ∃ v, (results fn a'.tmps).run P w' = .ok v w' ∧ ∃ v' A' ι', Ending.returned v = .returned v' ∧ Keep w w' A A' Cb ∧ Ext ι ι' ∧ Obs fid Cb w' A' ι' H1 ∧ LV fid w' A' ι' true v' (one rd) [] := by
        obtain ⟨rv, hrv, lrv⟩ := res_sound S' _ _ _ _ hres hrd
        exact ⟨S'.df, oneV rv, run_results hrv, oneV rv, A', ι', rfl, S'.kp, hx hnl, S'.obs rfl, one_lv lrv⟩
      rcases hex with rfl | rfl
      · exact main
      · exact main
    · cases h
  · cases hc

/-- One that looks into nothing of its caller's. -/
theorem inlQ_sound {cl : Cl} (hnum : ∀ f g, num f = some g → fid g = f) (hr : ClR P fid cl.r) (hcg : CongrR cl.r) (hcw : ClW P fid cl.w) (hmix : P.follows .mixedOrders = true) {ann : Ann} {f : FuncId} {s : SFun} (hc : compF P num ann f = some s)
    {as : List D} {H : List Ob} {d : D} (h : evInlQ cl s as = some d) {w : World} {A : Av} {ι : Io} {vs : List Value} {O eo : List Nat} (l : LVs fid w A ι true vs as O) (hal : ∀ b off, A b off → b < w.heap.size) :
    Calls P f ⟨vs⟩ w (fun e w' => ∃ v A' O', e = .returned v ∧ XR fid w w' A A' ι H eo v d none O') := by
  unfold evInlQ at h
  split at h
  case isFalse => cases h
  rename_i hnt
  obtain ⟨⟨d', H1⟩, h1, h2⟩ := Option.bind_eq_some_iff.1 h
  simp only at h2
  split at h2
  case isFalse => cases h2
  rename_i hq
  injection h2 with h2; subst h2
  simp only [Bool.and_eq_true, List.all_eq_true] at hq
  obtain ⟨hids, hntd⟩ := hq
  have hO := l.noTree hnt
  subst hO
  let ι0 : Io := fun i => if i < bound (idsDs as) then ι i else none
  have l0 : LVs fid w A ι0 true vs as [] := LV.turn_both.2 l hnt fun i q hi e => by
    show (if i < bound (idsDs as) then ι i else none) = some q
    rw [if_pos (lt_bound hi)]; exact e
  have B : Obs fid (fun b => w.heap.size ≤ b) w A ι0 (deads (bound (idsDs as))) := by
    refine ⟨hal, fun b h => h, fun i => by rw [obAt_deads]; trivial, ⟨fun i hi => ?_, fun i b ha => ?_, fun i j b ha => ?_, by simp, by simp, by simp, by simp⟩⟩
    · simp only [deads, List.length_replicate] at hi
      show (if i < bound (idsDs as) then ι i else none) = none
      rw [if_neg (by omega)]
    · rw [obAt_deads] at ha; cases ha
    · rw [obAt_deads] at ha; cases ha
  refine Calls.mono (inl_sound hnum hr hcg hcw hmix hc h1 B l0) fun e w' he => ?_
  obtain ⟨v, A', ι', rfl, K, x, B', lv⟩ := he
  refine ⟨v, A', [], rfl, ⟨?_, ?_, (by intro i o e; cases e), List.nodup_nil, by simp⟩⟩
  · exact ⟨K.os, K.tape, K.output, K.size, fun b _ hlt => K.blk b (by omega) hlt, K.cel, K.siz, K.a1, fun b off _ hlt hA => K.a2 b off (by omega) hlt hA⟩
  · refine LV.turn_both.1 lv hntd fun i q hi e => ?_
    have hm : i ∈ idsDs as := by
      have := hids i hi
      simpa using this
    obtain ⟨q', hq'⟩ := LV.has_both.2 l i hm
    have h0 : ι0 i = some q' := by
      show (if i < bound (idsDs as) then ι i else none) = some q'
      rw [if_pos (lt_bound hm)]; exact hq'
    rw [x i q' h0] at e
    rw [hq', e]
theorem clOf_sound (hnum : ∀ f g, num f = some g → fid g = f) (hmix : P.follows .mixedOrders = true) {Γ : Nat → Option Sem1} (hΓ : TabOK P num fid Γ) : ∀ n, ClR P fid (clOf Γ n).r ∧ ClW P fid (clOf Γ n).w := by
  have RQ : ∀ f fz m as H d, Γ f = some (.model fz m) → callQ fz m as H = some d → Entered P (fid f) ∧ ∀ (w : World) (A : Av) (ι : Io) (vs : List Value) (O eo : List Nat), LVs fid w A ι true vs as O → (∀ i, ObjOK fid w A ι (ι i) (obAt H i)) → (∀ b off, A b off → b < w.heap.size) →
      Calls P (fid f) ⟨vs⟩ w (fun e w' => ∃ v A' O', e = .returned v ∧ XR fid w w' A A' ι H eo v d none O') := by
    intro f fz m as H d hm h
    obtain ⟨h1, h2⟩ := (hΓ f).1 m (.inl ⟨fz, hm⟩)
    exact ⟨h1, fun w A ι vs O eo l hob hal => callQ_sound h2 l hob hal h⟩
  have M : ∀ f fz m as H d H', Γ f = some (.model fz m) → callM fz m as H = some (d, H') → Entered P (fid f) ∧ ∀ (w : World) (A : Av) (ι : Io) (Cb : Nat → Prop) (vs : List Value), Obs fid Cb w A ι H → LVs fid w A ι true vs as [] →
      Calls P (fid f) ⟨vs⟩ w (fun e w' => ∃ v A' ι', e = .returned v ∧ Keep w w' A A' Cb ∧ Ext ι ι' ∧ Obs fid Cb w' A' ι' H' ∧ LV fid w' A' ι' true v d []) := by
    intro f fz m as H d H' hm h
    obtain ⟨h1, h2⟩ := (hΓ f).1 m (.inl ⟨fz, hm⟩)
    refine ⟨h1, fun w A ι Cb vs B l => ?_⟩
    have S := B.st { tmps := #[], defers := [] } (fun _ => false) rfl (by simp)
    refine Calls.mono (callM_sound h2 S l h) fun e w' he => ?_
    obtain ⟨v, A', ι', rfl, S', lv, x⟩ := he
    exact ⟨v, A', ι', rfl, S'.kp, x, S'.obs rfl, lv⟩
  have MO : ∀ f m as H d H', Γ f = some (.modelO m) → callO m as H = some (d, H') → Entered P (fid f) ∧ ∀ (w : World) (A : Av) (ι : Io) (Cb : Nat → Prop) (vs : List Value), Obs fid Cb w A ι H → LVs fid w A ι true vs as [] →
      Calls P (fid f) ⟨vs⟩ w (fun e w' => ∃ v A' ι', e = .returned v ∧ Keep w w' A A' Cb ∧ Ext ι ι' ∧ Obs fid Cb w' A' ι' H' ∧ LV fid w' A' ι' true v d []) := by
    intro f m as H d H' hm h
    obtain ⟨h1, h2⟩ := (hΓ f).1 m (.inr hm)
    refine ⟨h1, fun w A ι Cb vs B l => ?_⟩
    have S := B.st { tmps := #[], defers := [] } (fun _ => false) rfl (by simp)
    refine Calls.mono (callO_sound h2 S l h) fun e w' he => ?_
    obtain ⟨v, A', ι', rfl, S', lv, x⟩ := he
    exact ⟨v, A', ι', rfl, S'.kp, x, S'.obs rfl, lv⟩
  intro n
  induction n with
  | zero =>
    constructor
    · intro f as H d h
      simp only [clOf] at h
      split at h
      · rename_i fz m hm
        exact RQ f fz m as H d hm h
      · cases h
    · intro f as H d H' h
      simp only [clOf] at h
      split at h
      · rename_i fz m hm
        exact M f fz m as H d H' hm h
      · rename_i m hm
        exact MO f m as H d H' hm h
      · cases h
  | succ n ih =>
    constructor
    · intro f as H d h
      simp only [clOf] at h
      split at h
      · rename_i fz m hm
        exact RQ f fz m as H d hm h
      · rename_i s hs
        obtain ⟨h1, ann, hc⟩ := (hΓ f).2 s hs
        exact ⟨h1, fun w A ι vs O eo l hob hal => inlQ_sound hnum ih.1 (fun f as H H' => clOf_congr) ih.2 hmix hc h l hal⟩
      · cases h
    · intro f as H d H' h
      simp only [clOf] at h
      split at h
      · rename_i fz m hm
        exact M f fz m as H d H' hm h
      · rename_i m hm
        exact MO f m as H d H' hm h
      · rename_i s hs
        obtain ⟨h1, ann, hc⟩ := (hΓ f).2 s hs
        exact ⟨h1, fun w A ι Cb vs B l => inl_sound hnum ih.1 (fun f as H H' => clOf_congr) ih.2 hmix hc h B l⟩
      · cases h
/-- A function's contract, from its code, where its calls have theirs. -/
theorem fun_sound (hnum : ∀ f g, num f = some g → fid g = f) (hmix : P.follows .mixedOrders = true) {Γ : Nat → Option Sem1} (hΓ : TabOK P num fid Γ) (n : Nat) {ann : Ann} {f : FuncId} {s : SFun} (hc : compF P num ann f = some s) :
    SoundFn P fid f (evFun (clOf Γ n) s) :=
  evFun_sound hnum (clOf_sound hnum hmix hΓ n).1 (fun f as H H' => clOf_congr) (clOf_sound hnum hmix hΓ n).2 hmix hc
theorem SoundFn.congr {f : FuncId} {m m' : List D → Option (D × List D)} (h : SoundFn P fid f m) (e : ∀ ds r, m' ds = some r → m ds = some r) : SoundFn P fid f m' :=
  fun ds r os hm => h ds r os (e ds (r, os) hm)
end
end Lg
