import Derived.Test.YtflnllohghgpdaaLgZ11
/-
  A function that asks whether a slice is nil: both answers are told, where the data leave it open (slices.Clone).
-/
namespace Lg
open Go
set_option linter.unusedVariables false
set_option linter.unusedSimpArgs false
set_option linter.unusedSectionVars false

/-- A slice that is not nil, whatever the world. -/
def nnD : D → Bool
  | .sl _ (d :: _) => !(isNil d.cells)
  | _ => false
/-- A function whose text asks once, at its beginning, whether a slice is nil. -/
structure NFun where
  nargs : Nat
  ntmps : Nat
  fx : List Nat
  res : List (SRes × Mode)
  c1 : SCode
  pre : SOper
  t : Nat
  x : SOpd
  rest : SCode
  u : SCode
  deriving Inhabited
def NFun.body (s : NFun) (b : Bool) : SCode := .seq s.c1 (.seq (.seq (.reg [s.pre, ⟨some s.t, .mv (.k (.sc (.bool b))), none⟩]) s.rest) s.u)
def NFun.fn (s : NFun) (b : Bool) : SFun := { nargs := s.nargs, ntmps := s.ntmps, fx := s.fx, res := s.res, body := s.body b }
def isSlD : D → Bool
  | .sl .. | .osl .. | .sn | .rf .. => true
  | _ => false
def atN (cl : Cl) (s : NFun) (E : Env) (H : List Ob) : Option D :=
  match evC cl s.c1 E H with
  | some (.nrm, E1, H1) => (stepsO cl [s.pre] E1 H1).map fun r => ov r.1 s.x
  | _ => none
/-- The empty results alone are compared. -/
def emptyR (r : D × List D) : Option (Bool × Nat) := match r with
  | (.osl w sz [], []) => some (w, sz)
  | _ => none
def evNil (cl : Cl) (s : NFun) (args : List D) : Option (D × List D) :=
  let u := unfs args []
  match atN cl s (envFrom 0 u.1) u.2, evFun cl (s.fn false) args with
  | some d, some r => if isSlD d then (if nnD d then some r else
      match evFun cl (s.fn true) args with
      | some r' => match emptyR r, emptyR r' with
        | some a, some b => if a.1 = b.1 ∧ a.2 = b.2 then some r else none
        | _, _ => none
      | none => none) else none
  | _, _ => none
section
variable {P : Program} {num : FuncId → Option Nat} {fid : Nat → FuncId}
theorem evFun_soundG {cl : Cl} {f : FuncId} {fn : Func} {c : Code} {ann : Ann} {res : List (SRes × Mode)} (sb : Bool → SFun) (poss : Bool → Env → List Ob → Prop) (hf : P.funcs[f]? = some fn) (hb : fn.body = some c) (hle : fn.params.size + fn.nfree ≤ fn.ntmps)
    (hres : compRes P fn.results.toList ann.res = some res)
    (hsb : ∀ b, (sb b).nargs = fn.params.size + fn.nfree ∧ (sb b).fx = ann.fx ∧ (sb b).res = res)
    (HB : ∀ {w0 : World} {A0 : Av} {Cb : Nat → Prop} {nt : Nt} {w : World} {A : Av} {ι : Io} {a : Act} {E : Env} {H : List Ob} {Q : Exit → Act → World → Prop}, nt.1 = (fun d => decide (d < fn.ntmps) && !(ann.fx.contains d)) → St fid w0 A0 Cb nt w A ι a E H no →
      (∃ b, poss b E H) → (∀ b, poss b E H → ∃ ex E' H', evC cl (sb b).body E H = some (ex, E', H') ∧ ∀ a' w' A' ι', St fid w0 A0 Cb nt w' A' ι' a' E' H' no → Q (exOf ex) a' w') → c.wp P Q a w)
    {ds : List D} {r : D} {outs' : List D} (hex : ∃ b, poss b (envFrom 0 (unfs ds []).1) (unfs ds []).2) (hall : ∀ b, poss b (envFrom 0 (unfs ds []).1) (unfs ds []).2 → evFun cl (sb b) ds = some (r, outs'))
    (w : World) (A : Av) (vs : List Value) (O : List Nat) (l : LVs fid w A (fun _ => none) false vs ds O) (nd : O.Nodup) (hal : ∀ b off, A b off → b < w.heap.size) :
    Calls P f ⟨vs⟩ w (fun e w' => ∃ v A' O', e = .returned v ∧ Keep w w' A A' (fun b => b ∈ O) ∧ LVs fid w' A' (fun _ => none) false (v :: ptVals vs ds) (r :: outs') O' ∧ O'.Nodup ∧ ∀ b, b ∈ O' → b ∈ O ∨ w.heap.size ≤ b) := by
  have hvl : vs.length = ds.length := l.length_eq
  refine calls_of_wp hf hb ?_
  let a0 : Act := { tmps := (⟨vs⟩ : Array Value) ++ Array.replicate (fn.ntmps - vs.length) undef, defers := [] }
  let dk : Nat → Bool := fun d => decide (d < fn.ntmps) && !(ann.fx.contains d)
  let nt : Nt := (dk, fun t => a0.tmps.getD t undef)
  let Cb : Nat → Prop := fun b => b ∈ O ∨ w.heap.size ≤ b
  have hlen : ds.length = fn.params.size + fn.nfree := by
    obtain ⟨b, hb⟩ := hex
    have h := hall b hb
    unfold evFun at h
    split at h
    · rename_i h'; rw [h', (hsb b).1]
    · cases h
  have S0 : St fid w A Cb nt w A (fun _ => none) a0 [] [] no := by
    refine ⟨Keep.refl _ _ _, hal, fun b h => .inr h, fun d hd => ?_, fun t _ => rfl, rfl, fun t => .un _, fun i => by rw [obAt_ge (by simp)]; trivial, ⟨fun _ _ => rfl, by simp, by simp, by simp [no], by simp, by simp [no], by simp [no]⟩⟩
    have : d < fn.ntmps := by
      have : dk d = true := hd
      simp only [dk, Bool.and_eq_true, decide_eq_true_eq] at this
      exact this.1
    show d < ((⟨vs⟩ : Array Value) ++ Array.replicate (fn.ntmps - vs.length) undef).size
    simp; omega
  have F0 : Free Cb (fun _ => none) [] no O := ⟨nd, fun b hb => .inl hb, by simp [no], by intro b hb i ha; rw [obAt_ge (by simp)] at ha; cases ha⟩
  obtain ⟨ι1, N, l1, S1⟩ := S0.absorb (r := true) F0 (LV.agg vs ds O l.weak)
  have l1' : LV fid w A ι1 true (.agg ⟨vs⟩) (.agg (unfs ds []).1) [] := l1
  have S1' : St fid w A Cb nt w A ι1 a0 [] (unfs ds []).2 no := S1
  obtain ⟨vs', e0, l2⟩ := l1'.inv_agg
  simp only [Value.agg.injEq, Array.mk.injEq] at e0
  subst e0
  have S2 : St fid w A Cb nt w A ι1 a0 (envFrom 0 (unfs ds []).1) (unfs ds []).2 no := by
    refine S1'.env fun p hp => ?_
    obtain ⟨i, e1, e2⟩ := envFrom_mem 0 _ p hp
    obtain ⟨v, hv, lv⟩ := l2.get e2
    have : a0.tmps.getD p.1 undef = v := by rw [e1, Nat.zero_add]; exact getD_args hv
    rw [this]; exact lv
  refine HB (nt := nt) rfl S2 hex fun b hb => ?_
  have h := hall b hb
  obtain ⟨h1, h2, h3⟩ := hsb b
  unfold evFun at h
  split at h
  case isFalse => cases h
  simp only at h
  obtain ⟨⟨E1, H1⟩, he, h⟩ := Option.bind_eq_some_iff.1 h
  obtain ⟨rd, hrd, h⟩ := Option.bind_eq_some_iff.1 h
  obtain ⟨⟨fr, H2⟩, hfr, h⟩ := Option.bind_eq_some_iff.1 h
  obtain ⟨⟨os, H3⟩, hos, h⟩ := Option.map_eq_some_iff.1 h
  simp only [Prod.mk.injEq] at h
  obtain ⟨rfl, rfl⟩ := h
  obtain ⟨ex, hev, hex⟩ := ended_some he
  rw [h3] at hrd hfr
  rw [h2] at hos
  refine ⟨ex, _, _, hev, fun a' w' A' ι' S' => ?_⟩
  have main : a'.defers = [] ∧ ∃ v, (results fn a'.tmps).run P w' = .ok v w' ∧ ∃ v' A' O', Ending.returned v = .returned v' ∧ Keep w w' A A' (fun b => b ∈ O) ∧ LVs fid w' A' (fun _ => none) false (v' :: ptVals vs ds) (one fr :: os) O' ∧ O'.Nodup ∧ ∀ b, b ∈ O' → b ∈ O ∨ w.heap.size ≤ b := by
    obtain ⟨rv, hrv, lrv⟩ := res_sound S' _ _ _ _ hres hrd
    obtain ⟨A2, O1, a2, s2, lf, n1, ⟨I, M⟩, t1, S3⟩ := foldR_sound res rv rd S' lrv hfr
    have hlv3 : ∀ t, lk E1 t = lk E1 t ∧ LV fid w' A2 ι' true (a'.tmps.getD t undef) (lk E1 t) [] := fun t => ⟨rfl, S3.lv t⟩
    have hfix : ∀ i v, vs[i]? = some v → ann.fx.contains (0 + i) = true → a'.tmps.getD (0 + i) undef = v := by
      intro i v hv hc
      rw [Nat.zero_add] at hc ⊢
      have := S3.fx i (by show (decide (i < fn.ntmps) && !(ann.fx.contains i)) = false; rw [hc]; simp)
      rw [this]
      exact getD_args hv
    obtain ⟨O2, lo, n2, g2, t2⟩ := outs_sound (fx := ann.fx) 0 ds vs hvl hlv3 S3.ob S3.inj hfix hos
    have hdead : ∀ b, b ∈ O1 → b ∉ O2 := by
      intro b h1 h2
      obtain ⟨i, e1, e2, e3⟩ := t1 b h1
      obtain ⟨j, f1, f2, f3⟩ := t2 b h2
      have := S'.inj i j b e2 (M.alive f2) e1 f1
      subst this
      rw [e3] at f2; cases f2
    refine ⟨S'.df, oneV rv, run_results hrv, oneV rv, A2, O1 ++ O2, rfl, ?_, .cons _ _ O1 _ _ O2 (one_lv lf) lo, List.nodup_append.2 ⟨n1, n2, fun x hx y hy e => hdead x hx (e ▸ hy)⟩, ?_⟩
    · have K := S3.kp
      refine ⟨K.os, K.tape, K.output, K.size, fun b hb hlt => K.blk b (fun hx => ?_) hlt, K.cel, K.siz, K.a1, fun b off hb hlt hA => K.a2 b off (fun hx => ?_) hlt hA⟩
      · rcases hx with hx | hx
        · exact hb hx
        · omega
      · rcases hx with hx | hx
        · exact hb hx
        · omega
    · intro b hb
      rcases List.mem_append.1 hb with hb | hb
      · obtain ⟨i, e1, e2, _⟩ := t1 b hb
        exact S'.sp.ib i b e2 e1
      · obtain ⟨i, e1, e2, _⟩ := t2 b hb
        exact S3.sp.ib i b e2 e1
  rcases hex with rfl | rfl
  · exact main
  · exact main
/-- The question, in a program's text. -/
def nilAsk (P : Program) (num : FuncId → Option Nat) (nt : Nat → Bool) (ops : Array Oper) : Option (SOper × Nat × SOpd) :=
  match ops.toList with
  | [o1, o2] => match o2.op, o2.dst, o2.guard with
    | .binOp .eql T (.tmp x) (.const (.slice none 0 0)) _, some t, none => match P.underlying T with
      | some (.slice _) => if nt t then (compOper P num nt ops false o1).map fun s => (s, t, .t x) else none
      | _ => none
    | _, _, _ => none
  | _ => none
def compN (P : Program) (num : FuncId → Option Nat) (ann : Ann) (f : FuncId) : Option NFun :=
  (P.funcs[f]?).bind fun fn => fn.body.bind fun c => if fn.params.size + fn.nfree ≤ fn.ntmps then
      let nt : Nat → Bool := fun d => decide (d < fn.ntmps) && !(ann.fx.contains d)
      match c with
      | .seq x (.seq (.seq (.region _ ops false) y) z) => (compC P num nt ann x).bind fun x' => (nilAsk P num nt ops).bind fun q => (compC P num nt ann y).bind fun y' => (compC P num nt ann z).bind fun z' =>
          (compRes P fn.results.toList ann.res).map fun res => { nargs := fn.params.size + fn.nfree, ntmps := fn.ntmps, fx := ann.fx, res := res, c1 := x', pre := q.1, t := q.2.1, x := q.2.2, rest := y', u := z' }
      | _ => none
    else none
theorem slice_val {w : World} {A : Av} {ι : Io} {r : Bool} {v : Value} {d : D} {O : List Nat} (l : LV fid w A ι r v d O) (h : isSlD d = true) : ∃ a n cap, v = .slice a n cap ∧ (nnD d = true → a ≠ none) := by
  cases d <;> simp [isSlD] at h
  case sl sz ds =>
    obtain ⟨a, cap, vs, rfl, _, hc, hu, lv, h1, hr⟩ := l.inv_sl
    refine ⟨a, _, cap, rfl, fun hn => ?_⟩
    cases ds with
    | nil => simp [nnD] at hn
    | cons d ds =>
      have hlen := lv.length_eq
      have : d.cells ≠ [] := by
        intro e; simp [nnD, e, isNil] at hn
      have : vs ≠ [] := by
        rintro rfl
        simp only [flat, List.flatMap_cons, List.length_nil, List.length_append] at hlen
        have := List.length_pos_iff.2 this
        omega
      obtain ⟨v, vs, rfl⟩ := List.exists_cons_of_ne_nil this
      obtain ⟨ad, e, _⟩ := hr 0 v rfl
      rw [e]; simp
  case osl wr sz ds =>
    cases l with
    | osln a => exact ⟨a, 0, 0, rfl, by simp [nnD]⟩
    | osl b cap _ _ _ vs => exact ⟨_, _, cap, rfl, by simp [nnD]⟩
  case sn => obtain ⟨a, rfl, _⟩ := l.inv_sn; exact ⟨a, 0, 0, rfl, by simp [nnD]⟩
  case rf id sz off len => obtain ⟨a, cap, q, rfl, _⟩ := l.inv_rf; exact ⟨a, _, cap, rfl, by simp [nnD]⟩
theorem run_eql_nil {t : TypeId} {e : TypeId} {w : World} (ht : P.underlying t = some (.slice e)) (a : Option Addr) (n cap : Nat) : (Op.equal t (.slice a n cap) (.slice none 0 0)).run P w = .ok a.isNone w := by
  have key : ∀ k, (Op.equalIn (k + 1) t (.slice a n cap) (.slice none 0 0)).run P w = .ok a.isNone w := by
    intro k
    cases a with
    | none => simp only [Op.equalIn, Sem.run_bind, run_underlying ht, Result.andThen_ok, Sem.run_pure]
    | some a => simp only [Op.equalIn, Sem.run_bind, run_underlying ht, Result.andThen_ok, Sem.run_pure]; rfl
  exact key 9999
theorem evNil_sound (hnum : ∀ f g, num f = some g → fid g = f) (hmix : P.follows .mixedOrders = true) {Γ : Nat → Option Sem1} (hΓ : TabOK P num fid Γ) (n : Nat) {ann : Ann} {f : FuncId} {s : NFun}
    (hc : compN P num ann f = some s) : SoundFn P fid f (evNil (clOf Γ n) s) := by
  have hr := (clOf_sound hnum hmix hΓ n).1
  have hcw := (clOf_sound hnum hmix hΓ n).2
  have hcg : CongrR (clOf Γ n).r := fun f as H H' => clOf_congr
  generalize clOf Γ n = cl at hr hcw hcg
  unfold compN at hc
  obtain ⟨fn, hf, hc⟩ := Option.bind_eq_some_iff.1 hc
  obtain ⟨c, hb, hc⟩ := Option.bind_eq_some_iff.1 hc
  split at hc
  case isFalse => cases hc
  rename_i hle
  simp only at hc
  split at hc
  case h_2 => cases hc
  rename_i x id ops y z
  obtain ⟨x', hx, hc⟩ := Option.bind_eq_some_iff.1 hc
  obtain ⟨⟨pre, t, xo⟩, hq, hc⟩ := Option.bind_eq_some_iff.1 hc
  obtain ⟨y', hy, hc⟩ := Option.bind_eq_some_iff.1 hc
  obtain ⟨z', hz, hc⟩ := Option.bind_eq_some_iff.1 hc
  obtain ⟨res, hres, hs⟩ := Option.map_eq_some_iff.1 hc
  subst hs
  unfold nilAsk at hq
  split at hq
  case h_2 => cases hq
  rename_i o1 o2 hops
  split at hq
  case h_2 => cases hq
  rename_i T xt ty t' hop2 hdst hgu
  split at hq
  case h_2 => cases hq
  rename_i e hT
  split at hq
  case isFalse => cases hq
  rename_i hnt
  obtain ⟨s1, hs1, hq⟩ := Option.map_eq_some_iff.1 hq
  simp only [Prod.mk.injEq] at hq
  obtain ⟨rfl, rfl, rfl⟩ := hq
  intro ds r outs' h w A vs O l nd hal
  unfold evNil at h
  simp only at h
  split at h
  case h_2 => cases h
  rename_i d r0 hat hev0
  split at h
  case isFalse => cases h
  rename_i hsl
  let sN : NFun := ⟨fn.params.size + fn.nfree, fn.ntmps, ann.fx, res, x', s1, t', .t xt, y', z'⟩
  let poss : Bool → Env → List Ob → Prop := fun b E H => ∃ d, atN cl sN E H = some d ∧ isSlD d = true ∧ (b = true → nnD d = false)
  refine evFun_soundG (fid := fid) (cl := cl) (ann := ann) (res := res) (NFun.fn sN) poss hf hb hle hres (fun b => ⟨rfl, rfl, rfl⟩) ?_ ⟨false, d, hat, hsl, by simp⟩ ?_ w A vs O l nd hal
  · intro w0 A0 Cb nt w A ι a E H Q hnt' S hposs hall
    obtain ⟨b0, d, hat, hsl, _⟩ := hposs
    unfold atN at hat
    split at hat
    case h_2 => cases hat
    rename_i E1 H1 h1
    obtain ⟨⟨E2, H2⟩, h2, hd⟩ := Option.map_eq_some_iff.1 hat
    simp only [stepsO] at h2
    obtain ⟨⟨E3, H3⟩, h3, h4⟩ := Option.bind_eq_some_iff.1 h2
    simp only [Option.some.injEq, Prod.mk.injEq] at h4
    obtain ⟨rfl, rfl⟩ := h4
    simp only at hd
    refine wp_seq ?_
    rw [← hnt'] at hx hs1 hy hz hnt
    refine evC_sound hnum hr hcg hcw hmix x hx S h1 fun a1 w1 A1 ι1 S1 _ => ?_
    refine wp_seq (wp_seq (wp_region ?_))
    have hsz : ops.size = 2 := by have := congrArg List.length hops; simpa using this
    have hg0 : ops[0]? = some o1 := by have : ops.toList[0]? = some o1 := by rw [hops]; rfl
                                       simpa using this
    have hg1 : ops[1]? = some o2 := by have : ops.toList[1]? = some o2 := by rw [hops]; rfl
                                       simpa using this
    rw [hsz, show List.range 2 = [0, 1] from rfl, wpOps_cons]
    refine wpOp_of hg0 (stepO_sound hr hcw hs1 S1 h3 hnum fun a2 w2 A2 ι2 S2 _ => ?_)
    rw [wpOps_cons]
    refine wpOp_of hg1 ?_
    unfold wpO
    have hwanted : Region.wanted o2 (yielded ops a2.tmps) = true := by simp [Region.wanted, hgu]
    rw [hwanted, if_pos rfl]
    refine .inl ?_
    have lx := S2.lv xt
    have hd' : lk E3 xt = d := hd
    rw [hd'] at lx
    obtain ⟨ad, n, cap, hv, hnn⟩ := slice_val lx hsl
    have hrun : (execOp a2.eval o2).run P w2 = .ok (.value (.bool ad.isNone)) w2 := by
      simp only [execOp, hop2]
      refine run_v ?_
      have hve : a2.eval (.tmp xt) = .slice ad n cap := hv
      rw [hve]
      rw [Sem.run_bind, run_guard_plain .eql T (.tmp xt) (.const (.slice none 0 0)) _ _ ⟨by simp, by simp⟩]
      simp only [Result.andThen_ok, Act.eval, binOp]
      rw [Sem.run_bind, run_eql_nil hT]; rfl
    refine wp_value hrun ?_
    have X : XR fid w2 w2 A2 A2 ι2 H3 (eaten no none) (.bool ad.isNone) (.sc (.bool ad.isNone)) none [] := XR.val (.sc _ rfl)
    have S3 := S2.step X (dst := o2.dst) (fun t ht => by rw [hdst] at ht; injection ht with ht; subst ht; exact hnt)
    have hno : put1 (put1 no none []) o2.dst [] = no := by
      funext t; unfold put1 no; split <;> rfl
    rw [hno] at S3
    simp only [putH] at S3
    have hp : poss ad.isNone E H := by
      refine ⟨d, ?_, hsl, fun hb => ?_⟩
      · unfold atN; simp only [h1, stepsO, h3, Option.bind_some, Option.map_some]; exact congrArg some hd
      · cases hh : nnD d with
        | false => rfl
        | true => have := hnn hh; simp at hb; exact absurd hb this
    obtain ⟨ex, E', H', hev, hQ⟩ := hall _ hp
    simp only [NFun.fn, NFun.body, evC, h1] at hev
    have hreg : stepsO cl [s1, ⟨some t', .mv (.k (.sc (.bool ad.isNone))), none⟩] E1 H1 = some ((t', .sc (.bool ad.isNone)) :: E3, H3) := by
      show (stepO cl s1 E1 H1).bind _ = _
      rw [h3]
      rfl
    rw [hreg] at hev
    simp only [Option.map_some] at hev
    rw [hdst] at S3
    have hE : putE (some t') (.sc (.bool ad.isNone)) (putE none .un E3) = (t', .sc (.bool ad.isNone)) :: E3 := rfl
    rw [hE] at S3
    show wpOps P ops _ [] _ _
    simp only [wpOps]
    show Exit.then _ _ .normal _ _
    simp only [Exit.then]
    cases hh : evC cl y' ((t', .sc (.bool ad.isNone)) :: E3) H3 with
    | none => rw [hh] at hev; simp at hev
    | some q =>
      obtain ⟨ex1, E4, H4⟩ := q
      rw [hh] at hev
      rw [hdst]
      refine evC_sound hnum hr hcg hcw hmix y hy S3 hh fun a4 w4 A4 ι4 S4 _ => ?_
      cases ex1 with
      | nrm =>
        simp only [exOf, Exit.then]
        refine evC_sound hnum hr hcg hcw hmix z hz S4 hev fun a5 w5 A5 ι5 S5 _ => hQ a5 w5 A5 ι5 S5
      | exit id =>
        simp only [Option.some.injEq, Prod.mk.injEq] at hev
        obtain ⟨rfl, rfl, rfl⟩ := hev
        exact hQ a4 w4 A4 ι4 S4
      | ret =>
        simp only [Option.some.injEq, Prod.mk.injEq] at hev
        obtain ⟨rfl, rfl, rfl⟩ := hev
        exact hQ a4 w4 A4 ι4 S4
  · rintro b ⟨d', hat', _, hnn⟩
    rw [hat] at hat'
    injection hat' with hat'; subst hat'
    split at h
    · rename_i hn
      injection h with h
      have : b = false := by
        cases b with
        | false => rfl
        | true => have := hnn rfl; rw [hn] at this; cases this
      rw [this, hev0, h]
    · split at h
      case h_2 => cases h
      rename_i r1 hev1
      split at h
      case h_2 => cases h
      rename_i p q hp hq
      split at h
      case isFalse => cases h
      rename_i hpq
      injection h with h
      cases b with
      | false => rw [hev0, h]
      | true =>
        rw [hev1, ← h]
        unfold emptyR at hp hq
        split at hp
        case h_2 => cases hp
        split at hq
        case h_2 => cases hq
        injection hp with hp; injection hq with hq
        subst hp; subst hq
        obtain ⟨e1, e2⟩ := hpq
        simp only at e1 e2
        rw [e1, e2]
end
end Lg
