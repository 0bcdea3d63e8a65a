import Derived.Test.YtflnllohghgpdaaLgZ9
/-
  Functions, and calls: contracts from code.
-/
namespace Lg
open Go
set_option linter.unusedVariables false
set_option linter.unusedSimpArgs false
set_option linter.unusedSectionVars false

section
variable {P : Program} {num : FuncId → Option Nat} {fid : Nat → FuncId}
theorem ended_some {o : Option (Ex × Env × List Ob)} {r : Env × List Ob} (h : ended o = some r) : ∃ ex, o = some (ex, r.1, r.2) ∧ (ex = .nrm ∨ ex = .ret) := by
  unfold ended at h
  split at h
  · injection h with h; subst h; exact ⟨_, rfl, .inl rfl⟩
  · injection h with h; subst h; exact ⟨_, rfl, .inr rfl⟩
  · cases h
theorem getD_args {vs : List Value} {n i : Nat} {v : Value} (h : vs[i]? = some v) : ((⟨vs⟩ : Array Value) ++ Array.replicate n undef).getD i undef = v := by
  have hlt : i < vs.length := by
    rcases Nat.lt_or_ge i vs.length with h' | h'
    · exact h'
    · rw [List.getElem?_eq_none h'] at h; cases h
  rw [Array.getD_eq_getD_getElem?, Array.getElem?_append_left (by simpa using hlt)]
  simp [h]
theorem one_lv {w : World} {A : Av} {ι : Io} {r : Bool} {vs : List Value} {ds : List D} {O : List Nat} (h : LVs fid w A ι r vs ds O) : LV fid w A ι r (oneV vs) (one ds) O := by
  cases h with
  | nil => exact .tup [] [] [] .nil
  | cons v d O1 vs ds O2 h hs =>
    cases hs with
    | nil => simpa [oneV, one] using h
    | cons v2 d2 O3 vs ds O4 h2 hs2 => exact .tup _ _ _ (.cons v d O1 _ _ _ h (.cons v2 d2 O3 vs ds O4 h2 hs2))
/-- What a function's code comes to is what it does. -/
theorem evFun_sound {cl : Cl} (hnum : ∀ f g, num f = some g → fid g = f) (hr : ClR P fid cl.r) (hcg : CongrR cl.r) (hcw : ClW P fid cl.w) (hmix : P.follows .mixedOrders = true) {ann : Ann} {f : FuncId} {s : SFun}
    (hc : compF P num ann f = some s) : SoundFn P fid f (evFun cl s) := by
  unfold compF at hc
  obtain ⟨fn, hf, hc⟩ := Option.bind_eq_some_iff.1 hc
  obtain ⟨c, hb, hc⟩ := Option.bind_eq_some_iff.1 hc
  split at hc
  · rename_i hle
    obtain ⟨body, hbody, hc⟩ := Option.bind_eq_some_iff.1 hc
    obtain ⟨res, hres, hs⟩ := Option.map_eq_some_iff.1 hc
    subst hs
    intro ds r outs' h w A vs O l nd hal
    unfold evFun at h
    split at h
    · rename_i hlen
      simp only at hlen h
      obtain ⟨⟨E1, H1⟩, he, h⟩ := Option.bind_eq_some_iff.1 h
      obtain ⟨rd, hrd, h⟩ := Option.bind_eq_some_iff.1 h
      obtain ⟨⟨fr, H2⟩, hfr, h⟩ := Option.bind_eq_some_iff.1 h
      obtain ⟨⟨os, H3⟩, hos, h⟩ := Option.map_eq_some_iff.1 h
      simp only [Prod.mk.injEq] at h
      obtain ⟨rfl, rfl⟩ := h
      obtain ⟨ex, hev, hex⟩ := ended_some he
      have hvl : vs.length = ds.length := l.length_eq
      refine calls_of_wp hf hb ?_
      let a0 : Act := { tmps := (⟨vs⟩ : Array Value) ++ Array.replicate (fn.ntmps - vs.length) undef, defers := [] }
      let dk : Nat → Bool := fun d => decide (d < fn.ntmps) && !(ann.fx.contains d)
      let nt : Nt := (dk, fun t => a0.tmps.getD t undef)
      let Cb : Nat → Prop := fun b => b ∈ O ∨ w.heap.size ≤ b
      have S0 : St fid w A Cb nt w A (fun _ => none) a0 [] [] no := by
        refine ⟨Keep.refl _ _ _, hal, fun b h => .inr h, fun d hd => ?_, fun t _ => rfl, rfl, fun t => .un _, fun i => by rw [obAt_ge (by simp)]; trivial, ⟨fun _ _ => rfl, by simp, by simp, by simp [no], by simp, by simp [no], by simp [no]⟩⟩
        have : d < fn.ntmps := by
          have : dk d = true := hd
          simp only [dk, Bool.and_eq_true, decide_eq_true_eq] at this
          exact this.1
        show d < ((⟨vs⟩ : Array Value) ++ Array.replicate (fn.ntmps - vs.length) undef).size
        simp; omega
      have F0 : Free Cb (fun _ => none) [] no O := ⟨nd, fun b hb => .inl hb, by simp [no], by intro b hb i ha; rw [obAt_ge (by simp)] at ha; cases ha⟩
      obtain ⟨ι1, N, l1, S1⟩ := S0.absorb (r := true) F0 (LV.agg vs ds O l.weak)
      have l1' : LV fid w A ι1 true (.agg ⟨vs⟩) (.agg (unfs ds []).1) [] := l1
      have S1' : St fid w A Cb nt w A ι1 a0 [] (unfs ds []).2 no := S1
      obtain ⟨vs', e0, l2⟩ := l1'.inv_agg
      simp only [Value.agg.injEq, Array.mk.injEq] at e0
      subst e0
      have S2 : St fid w A Cb nt w A ι1 a0 (envFrom 0 (unfs ds []).1) (unfs ds []).2 no := by
        refine S1'.env fun p hp => ?_
        obtain ⟨i, e1, e2⟩ := envFrom_mem 0 _ p hp
        obtain ⟨v, hv, lv⟩ := l2.get e2
        have : a0.tmps.getD p.1 undef = v := by rw [e1, Nat.zero_add]; exact getD_args hv
        rw [this]; exact lv
      refine evC_sound (nt := nt) hnum hr hcg hcw hmix c hbody S2 hev fun a' w' A' ι' S' _ => ?_
      have main : a'.defers = [] ∧ ∃ v, (results fn a'.tmps).run P w' = .ok v w' ∧ ∃ v' A' O', Ending.returned v = .returned v' ∧ Keep w w' A A' (fun b => b ∈ O) ∧ LVs fid w' A' (fun _ => none) false (v' :: ptVals vs ds) (one fr :: os) O' ∧ O'.Nodup ∧ ∀ b, b ∈ O' → b ∈ O ∨ w.heap.size ≤ b := by
        obtain ⟨rv, hrv, lrv⟩ := res_sound S' _ _ _ _ hres hrd
        obtain ⟨A2, O1, a2, s2, lf, n1, ⟨I, M⟩, t1, S3⟩ := foldR_sound res rv rd S' lrv hfr
        have hlv3 : ∀ t, lk E1 t = lk E1 t ∧ LV fid w' A2 ι' true (a'.tmps.getD t undef) (lk E1 t) [] := fun t => ⟨rfl, S3.lv t⟩
        have hfix : ∀ i v, vs[i]? = some v → ann.fx.contains (0 + i) = true → a'.tmps.getD (0 + i) undef = v := by
          intro i v hv hc
          rw [Nat.zero_add] at hc ⊢
          have := S3.fx i (by show (decide (i < fn.ntmps) && !(ann.fx.contains i)) = false; rw [hc]; simp)
          rw [this]
          exact getD_args hv
        obtain ⟨O2, lo, n2, g2, t2⟩ := outs_sound (fx := ann.fx) 0 ds vs hvl hlv3 S3.ob S3.inj hfix hos
        have hdead : ∀ b, b ∈ O1 → b ∉ O2 := by
          intro b h1 h2
          obtain ⟨i, e1, e2, e3⟩ := t1 b h1
          obtain ⟨j, f1, f2, f3⟩ := t2 b h2
          have := S'.inj i j b e2 (M.alive f2) e1 f1
          subst this
          rw [e3] at f2; cases f2
        refine ⟨S'.df, oneV rv, run_results hrv, oneV rv, A2, O1 ++ O2, rfl, ?_, .cons _ _ O1 _ _ O2 (one_lv lf) lo, List.nodup_append.2 ⟨n1, n2, fun x hx y hy e => hdead x hx (e ▸ hy)⟩, ?_⟩
        · have K := S3.kp
          refine ⟨K.os, K.tape, K.output, K.size, fun b hb hlt => K.blk b (fun hx => ?_) hlt, K.cel, K.siz, K.a1, fun b off hb hlt hA => K.a2 b off (fun hx => ?_) hlt hA⟩
          · rcases hx with hx | hx
            · exact hb hx
            · omega
          · rcases hx with hx | hx
            · exact hb hx
            · omega
        · intro b hb
          rcases List.mem_append.1 hb with hb | hb
          · obtain ⟨i, e1, e2, _⟩ := t1 b hb
            exact S'.sp.ib i b e2 e1
          · obtain ⟨i, e1, e2, _⟩ := t2 b hb
            exact S3.sp.ib i b e2 e1
      rcases hex with rfl | rfl
      · exact main
      · exact main
    · cases h
  · cases hc
end
end Lg
