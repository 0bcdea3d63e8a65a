import Derived.Test.YtflnllohghgpdaaLgY5
/-
  Contracts, and calls of what has one.
-/
namespace Lg
open Go
set_option linter.unusedVariables false
set_option linter.unusedSimpArgs false
set_option linter.unusedSectionVars false

def isPt : D → Bool
  | .pt .. => true
  | _ => false
/-- The pointers that came in with a tree. -/
def ptVals : List Value → List D → List Value
  | v :: vs, d :: ds => if isBx d then v :: ptVals vs ds else ptVals vs ds
  | _, _ => []
/-- What a function does, told over trees. -/
def SoundFn (P : Program) (fid : Nat → FuncId) (f : FuncId) (m : List D → Option (D × List D)) : Prop :=
  ∀ (ds : List D) (r : D) (outs : List D), m ds = some (r, outs) → ∀ (w : World) (A : Av) (vs : List Value) (O : List Nat), LVs fid w A (fun _ => none) false vs ds O → O.Nodup → (∀ b off, A b off → b < w.heap.size) →
    Calls P f ⟨vs⟩ w (fun e w' => ∃ v A' O', e = .returned v ∧ Keep w w' A A' (fun b => b ∈ O) ∧ LVs fid w' A' (fun _ => none) false (v :: ptVals vs ds) (r :: outs) O' ∧ O'.Nodup ∧ ∀ b, b ∈ O' → b ∈ O ∨ w.heap.size ≤ b)

section
variable {fid : Nat → FuncId} {w : World} {A Ac : Av} {ι ι' : Io}
theorem LV.narrowO (hA : ∀ b off, Ac b off → A b off) : ∀ {r : Bool} {v : Value} {d : D} {O : List Nat}, LV fid w A ι r v d O → (∀ b, b ∈ O → ∀ off, A b off → Ac b off) → LV fid w Ac ι r v d O := by
  intro r v d O h
  refine LV.rec (motive_1 := fun r v d O _ => (∀ b, b ∈ O → ∀ off, A b off → Ac b off) → LV fid w Ac ι r v d O) (motive_2 := fun r vs ds O _ => (∀ b, b ∈ O → ∀ off, A b off → Ac b off) → LVs fid w Ac ι r vs ds O)
    ?_ ?_ ?_ ?_ ?_ ?_ ?_ ?_ ?_ ?_ ?_ ?_ ?_ ?_ ?_ ?_ ?_ ?_ ?_ h
  · intro r v h _; exact .sc v h
  · intro r v _; exact .un v
  · intro r v h _; exact .uk v h
  · intro r _; exact .nl
  · intro r a _; exact .sn a
  · intro r f vs ds O _ ih e; exact .fn f vs ds O (ih e)
  · intro r vs ds O _ ih e; exact .agg vs ds O (ih e)
  · intro r vs ds O _ ih e; exact .tup vs ds O (ih e)
  · intro r a n cap sz ds vs hn hc hu h h1 hr ih _
    exact .sl a n cap sz ds vs hn hc hu (ih (by simp)) h1 (fun k v hk => by obtain ⟨ad, e, n, c⟩ := hr k v hk; exact ⟨ad, e, fun x => n (hA _ _ x), c⟩)
  · intro r ad ds vs h h1 hr ih _
    exact .ep ad ds vs (ih (by simp)) h1 (fun k v hk => ⟨fun x => (hr k v hk).1 (hA _ _ x), (hr k v hk).2⟩)
  · intro r a wr sz _; exact .osln a wr sz
  · intro r b cap sz wr ds vs cs T fr hb hf hu h h1 hr hc hs ha hA' ih e
    exact .osl b cap sz wr ds vs cs T fr hb hf hu (ih (by simp)) h1 hr hc hs (fun x off => e b (by simp) off (ha x off)) (fun off ho => e b (by simp) off (hA' off ho))
  · intro r b vs ds O T fr hb hf _ h1 hA' ih e; exact .obx b vs ds O T fr hb hf (ih (fun x hx => e x (by simp [hx]))) h1 (fun off => e b (by simp) off (hA' off))
  · intro r b es c ks xs hb _ _ hA' ih1 ih2 e; exact .omp b es c ks xs hb (ih1 (by simp)) (ih2 (by simp)) (fun off => e b (by simp) off (hA' off))
  · intro a id sz off len cap q hi h0 h1 e; exact .rf a id sz off len cap q hi h0 h1
  · intro id sz e off b hi e'; exact .pt id sz e off b hi
  · intro id b hi e; exact .mp id b hi
  · intro r _; exact .nil
  · intro r v d O vs ds Os _ _ ih1 ih2 e
    exact .cons v d O vs ds Os (ih1 fun b hb => e b (by simp [hb])) (ih2 fun b hb => e b (by simp [hb]))
theorem isBx_rof {fz : Bool} {d d' : D} {H H' : List Ob} (h : rof fz d H = some (d', H')) : isBx d' = false := by
  cases d <;> simp only [rof] at h
  case rf =>
    split at h
    · split at h
      · injection h with h; simp only [Prod.mk.injEq] at h; rw [← h.1]; rfl
      · cases h
    · cases h
  case osl =>
    split at h
    · cases h
    · injection h with h; simp only [Prod.mk.injEq] at h; rw [← h.1]; rfl
  case agg => obtain ⟨p, _, e⟩ := Option.map_eq_some_iff.1 h; simp only [Prod.mk.injEq] at e; rw [← e.1]; rfl
  case tup => obtain ⟨p, _, e⟩ := Option.map_eq_some_iff.1 h; simp only [Prod.mk.injEq] at e; rw [← e.1]; rfl
  case fn => obtain ⟨p, _, e⟩ := Option.map_eq_some_iff.1 h; simp only [Prod.mk.injEq] at e; rw [← e.1]; rfl
  all_goals first | (cases h; done) | (injection h with h; simp only [Prod.mk.injEq] at h; rw [← h.1]; rfl)
theorem isBx_fld_pt {n : Nat} {id sz e off : Nat} {d' : D} {H H' : List Ob} (h : fld n (.pt id sz e off) H = some (d', H')) : isBx d' = true := by
  cases n with
  | zero => simp [fld] at h
  | succ n =>
    simp only [fld] at h
    split at h
    · split at h
      · obtain ⟨p, _, e⟩ := Option.map_eq_some_iff.1 h; simp only [Prod.mk.injEq] at e; rw [← e.1]; rfl
      · cases h
    · cases h
/-- The arguments of a call, told as trees. -/
theorem args_sound {fz : Bool} : ∀ (as : List D) (vs : List Value) (ts : List D) (H H1 : List Ob), LVs fid w A ι true vs as [] → (∀ i, ObjOK fid w A ι (ι i) (obAt H i)) → Inj ι H → thr (argF fz) as H = some (ts, H1) →
    ts.map isBx = as.map isPt ∧ ∃ O, Mix H H1 (if fz then idsRO as else []) ∧ Taken ι H H1 O ∧ O.Nodup ∧
      ∀ Ac : Av, (∀ b off, Ac b off → A b off) → RowsOut Ac ι H (idsRO as) → (∀ b, b ∈ O → ∀ off, A b off → Ac b off) → LVs fid w Ac (fun _ => none) false vs ts O
  | [], [], ts, H, H1, h, _, _, e => by
    simp [thr] at e
    obtain ⟨rfl, rfl⟩ := e
    exact ⟨rfl, [], (Frz.nil (by simp [idsRO])).mix, by intro b hb; simp at hb, List.nodup_nil, fun _ _ _ _ => .nil⟩
  | [], _ :: _, ts, H, H', h, _, _, e => by cases h
  | _ :: _, [], ts, H, H', h, _, _, e => by cases h
  | d :: as, v :: vs, ts, H, H2, h, hob, hi, e => by
    simp only [thr] at e
    obtain ⟨⟨d1, H1⟩, e1, e⟩ := Option.bind_eq_some_iff.1 e
    obtain ⟨⟨ds2, H2'⟩, e2, e⟩ := Option.map_eq_some_iff.1 e
    simp only [Prod.mk.injEq] at e
    obtain ⟨rfl, rfl⟩ := e
    have one : isBx d1 = isPt d ∧ ∃ O, Mix H H1 (if fz then idsRO [d] else []) ∧ Taken ι H H1 O ∧ O.Nodup ∧
        ∀ Ac : Av, (∀ b off, Ac b off → A b off) → RowsOut Ac ι H (idsRO [d]) → (∀ b, b ∈ O → ∀ off, A b off → Ac b off) → LV fid w Ac (fun _ => none) false v d1 O := by
      have rest : isPt d = false → idsRO [d] = idsD d → argF fz d H = rof fz d H → _ := fun hp hids he => by
        rw [he] at e1
        have hb := isBx_rof e1
        refine (⟨by rw [hb, hp], [], ?_, by intro b hb; simp at hb, List.nodup_nil, fun Ac hA hR _ => ?_⟩ : isBx d1 = isPt d ∧ ∃ O, Mix H H1 (if fz then idsRO [d] else []) ∧ Taken ι H H1 O ∧ O.Nodup ∧
          ∀ Ac : Av, (∀ b off, Ac b off → A b off) → RowsOut Ac ι H (idsRO [d]) → (∀ b, b ∈ O → ∀ off, A b off → Ac b off) → LV fid w Ac (fun _ => none) false v d1 O)
        · have := (rof_sound (fid := fid) (w := w) (A := A) (Ac := fun _ _ => False) (ι := ι) (ι' := fun _ => none) (fz := fz) (by simp) h.uncons.1 H H1 d1 (owOK hob) (by intro _ _ _ _ _ _ _ _ _ _ x; exact x) (by simp) e1).2
          rw [hids]; exact this.mix
        · rw [hids] at hR
          exact (rof_sound hA h.uncons.1 H H1 d1 (owOK hob) hR (by simp) e1).1
      cases d with
      | pt id sz e' off =>
        have hb := isBx_fld_pt e1
        obtain ⟨O, l, n1, g1, t1⟩ := fld_sound (ι' := fun _ => none) depth v _ d1 H H1 h.uncons.1 hob hi e1
        refine ⟨hb, O, ?_, t1, n1, fun Ac hA _ hO => l.narrowO hA hO⟩
        have := g1.mix
        simpa [idsRO] using this
      | _ => exact rest rfl (by simp [idsRO]) rfl
    obtain ⟨k1, O1, m1, t1, n1, l1⟩ := one
    obtain ⟨k2, O2, m2, t2, n2, l2⟩ := args_sound as vs ds2 H1 H2' h.uncons.2 (m1.ob hob) (m1.inj hi) e2
    have hap : ∀ b, b ∈ O1 → b ∉ O2 := by
      intro b hb1 hb2
      obtain ⟨i, f1, f2, f3⟩ := t1 b hb1
      obtain ⟨j, g1, g2, g3⟩ := t2 b hb2
      have := hi i j b f2 (m1.alive g2) f1 g1
      subst this
      rw [f3] at g2; cases g2
    have hids : idsRO (d :: as) = idsRO [d] ++ idsRO as := by cases d <;> simp [idsRO]
    refine ⟨by simp [k1, k2], O1 ++ O2, ?_, ?_, List.nodup_append.2 ⟨n1, n2, fun a ha b hb e => hap a ha (e ▸ hb)⟩, fun Ac hA hR hO => ?_⟩
    · have := m1.trans m2
      rw [hids]
      cases fz <;> simpa using this
    · intro b hb
      rcases List.mem_append.1 hb with hb | hb
      · obtain ⟨i, f1, f2, f3⟩ := t1 b hb
        refine ⟨i, f1, f2, ?_⟩
        rcases m2.2 i with e | e
        · exact e
        · rw [e, f3]; by_cases hq : i ∈ (if fz = true then idsRO as else []) <;> simp [hq, frz]
      · obtain ⟨i, f1, f2, f3⟩ := t2 b hb
        exact ⟨i, f1, m1.alive f2, f3⟩
    · refine .cons v d1 O1 vs ds2 O2 (l1 Ac hA (fun i b wr sz ds off hi => hR i b wr sz ds off (by rw [hids]; simp [hi])) fun b hb => hO b (by simp [hb])) (l2 Ac hA ?_ fun b hb => hO b (by simp [hb]))
      intro i b wr sz ds off hi hb ho hlt
      obtain ⟨wr', ho'⟩ := m1.ow ho
      exact hR i b wr' sz ds off (by rw [hids]; simp [hi]) hb ho' hlt
end
end Lg
