import Derived.Test.YtflnllohghgpdaaLgZ2
/-
  What an operation's doing hangs on: the slots that it reads, the objects that it looks into.
-/
namespace Lg
open Go
set_option linter.unusedVariables false
set_option linter.unusedSimpArgs false
set_option linter.unusedSectionVars false

def SameAt (I : List Nat) (H H' : List Ob) : Prop := ∀ i, i ∈ I → H[i]? = H'[i]?
theorem SameAt.left {I J : List Nat} {H H' : List Ob} (h : SameAt (I ++ J) H H') : SameAt I H H' := fun i hi => h i (List.mem_append_left _ hi)
theorem SameAt.right {I J : List Nat} {H H' : List Ob} (h : SameAt (I ++ J) H H') : SameAt J H H' := fun i hi => h i (List.mem_append_right _ hi)
mutual
theorem rof_congr : ∀ (d : D) (H H' : List Ob), SameAt (idsD d) H H' → (rof false d H = none ∧ rof false d H' = none) ∨ ∃ d', rof false d H = some (d', H) ∧ rof false d H' = some (d', H')
  | .rf id sz off len, H, H', h => by
    have e := h id (by simp [idsD])
    simp only [rof, e]
    cases hh : H'[id]? with
    | none => exact .inl ⟨rfl, rfl⟩
    | some o =>
      cases o with
      | ow wr sz' ds =>
        by_cases c : (off = 0 ∨ sz = sz') ∧ off + len ≤ ds.length
        · right; exact ⟨.sl sz' ((ds.drop off).take len), by simp only [if_pos c]; rfl, by simp only [if_pos c]; rfl⟩
        · left; simp only [if_neg c]; exact ⟨trivial, trivial⟩
      | _ => exact .inl ⟨rfl, rfl⟩
  | .agg ds, H, H', h => by
    rcases rofs_congr ds H H' h with ⟨e1, e2⟩ | ⟨ds', e1, e2⟩
    · left; simp [rof, e1, e2]
    · right; exact ⟨.agg ds', by simp [rof, e1], by simp [rof, e2]⟩
  | .tup ds, H, H', h => by
    rcases rofs_congr ds H H' h with ⟨e1, e2⟩ | ⟨ds', e1, e2⟩
    · left; simp [rof, e1, e2]
    · right; exact ⟨.tup ds', by simp [rof, e1], by simp [rof, e2]⟩
  | .fn f ds, H, H', h => by
    rcases rofs_congr ds H H' h with ⟨e1, e2⟩ | ⟨ds', e1, e2⟩
    · left; simp [rof, e1, e2]
    · right; exact ⟨.fn f ds', by simp [rof, e1], by simp [rof, e2]⟩
  | .osl wr sz ds, H, H', h => .inr ⟨.sl sz ds, by simp [rof], by simp [rof]⟩
  | .pt .., H, H', h => .inl ⟨by simp [rof], by simp [rof]⟩
  | .mp .., H, H', h => .inl ⟨by simp [rof], by simp [rof]⟩
  | .obx _, H, H', h => .inl ⟨by simp [rof], by simp [rof]⟩
  | .omp .., H, H', h => .inl ⟨by simp [rof], by simp [rof]⟩
  | .sc v, H, H', h => .inr ⟨.sc v, by simp [rof], by simp [rof]⟩
  | .sl a b, H, H', h => .inr ⟨.sl a b, by simp [rof], by simp [rof]⟩
  | .ep a, H, H', h => .inr ⟨.ep a, by simp [rof], by simp [rof]⟩
  | .nl, H, H', h => .inr ⟨.nl, by simp [rof], by simp [rof]⟩
  | .sn, H, H', h => .inr ⟨.sn, by simp [rof], by simp [rof]⟩
  | .uk, H, H', h => .inr ⟨.uk, by simp [rof], by simp [rof]⟩
  | .un, H, H', h => .inr ⟨.un, by simp [rof], by simp [rof]⟩
theorem rofs_congr : ∀ (ds : List D) (H H' : List Ob), SameAt (idsDs ds) H H' → (rofs false ds H = none ∧ rofs false ds H' = none) ∨ ∃ ds', rofs false ds H = some (ds', H) ∧ rofs false ds H' = some (ds', H')
  | [], H, H', h => .inr ⟨[], rfl, rfl⟩
  | d :: ds, H, H', h => by
    simp only [idsDs] at h
    rcases rof_congr d H H' h.left with ⟨e1, e2⟩ | ⟨d', e1, e2⟩
    · left; simp [rofs, e1, e2]
    · rcases rofs_congr ds H H' h.right with ⟨f1, f2⟩ | ⟨ds', f1, f2⟩
      · left; simp [rofs, e1, e2, f1, f2]
      · right; exact ⟨d' :: ds', by simp [rofs, e1, f1], by simp [rofs, e2, f2]⟩
end
theorem callQ_congr {fz : Bool} {m : List D → Option (D × List D)} {as : List D} {H H' : List Ob} (h : SameAt (idsDs as) H H') : callQ fz m as H = callQ fz m as H' := by
  unfold callQ
  cases fz with
  | true => rfl
  | false =>
    simp only [Bool.false_eq_true, if_false]
    rcases rofs_congr as H H' h with ⟨e1, e2⟩ | ⟨ds', e1, e2⟩ <;> rw [e1, e2] <;> rfl
theorem clOf_congr {Γ : Nat → Option Sem1} {n f : Nat} {as : List D} {H H' : List Ob} (h : SameAt (idsDs as) H H') : (clOf Γ n).r f as H = (clOf Γ n).r f as H' := by
  cases n <;> simp only [clOf] <;> split <;> first | exact callQ_congr h | rfl
theorem cellsAt_congr {d : D} {H H' : List Ob} (h : SameAt (idsD d) H H') : cellsAt H d = cellsAt H' d := by
  cases d <;> simp only [cellsAt]
  rename_i id sz e off
  rw [h id (by simp [idsD])]
theorem slD_congr {d : D} {H H' : List Ob} (h : SameAt (idsD d) H H') : slD H d = slD H' d := by
  cases d <;> simp only [slD]
  rename_i id sz off len
  rw [h id (by simp [idsD])]
theorem appendY_congr {d : D} {sz : Nat} {H H' : List Ob} (h : SameAt (idsD d) H H') : appendY H sz d = appendY H' sz d := by
  unfold appendY
  split
  · rfl
  · rw [slD_congr h]
theorem storeD_congr {d v : D} {n : Nat} {H H' : List Ob} (h : SameAt (idsD d) H H') : storeD H n v d = storeD H' n v d := by
  cases d <;> simp only [storeD]
  rename_i id sz e off
  rw [h id (by simp [idsD])]
theorem appendD_congr {d : D} {sz by_ : Nat} {ys : List D} {H H' : List Ob} (h : SameAt (idsD d) H H') : appendD H sz by_ ys d = appendD H' sz by_ ys d := by
  cases d <;> simp only [appendD]
  rename_i id sz off len
  rw [h id (by simp [idsD])]
theorem copyD_congr {d : D} {sz : Nat} {ys : List D} {H H' : List Ob} (h : SameAt (idsD d) H H') : copyD H sz ys d = copyD H' sz ys d := by
  cases d <;> simp only [copyD]
  rename_i id sz off len
  rw [h id (by simp [idsD])]

def EnvAt (I : List Nat) (E E' : Env) : Prop := ∀ t, t ∈ I → lk E t = lk E' t
theorem EnvAt.left {I J : List Nat} {E E' : Env} (h : EnvAt (I ++ J) E E') : EnvAt I E E' := fun i hi => h i (List.mem_append_left _ hi)
theorem EnvAt.right {I J : List Nat} {E E' : Env} (h : EnvAt (I ++ J) E E') : EnvAt J E E' := fun i hi => h i (List.mem_append_right _ hi)
section
variable {E E' : Env} {H H' : List Ob}
theorem ov_congr {x : SOpd} (h : EnvAt (rdO x) E E') : ov E x = ov E' x := by
  cases x with
  | t n => exact h n (by simp [rdO])
  | k d => rfl
theorem ovs_congr {xs : List SOpd} (h : EnvAt (rdOs xs) E E') : ovs E xs = ovs E' xs := by
  induction xs with
  | nil => rfl
  | cons x xs ih =>
    simp only [rdOs, List.flatMap_cons] at h
    simp only [ovs, List.map_cons] at ih ⊢
    rw [ov_congr h.left, ih h.right]
theorem ovM_congr {x : Option SOpd} (h : EnvAt (rdM x) E E') : x.map (ov E) = x.map (ov E') := by
  cases x with
  | none => rfl
  | some x => simp [ov_congr (x := x) h]
theorem ovp_congr {α : Type} {ps : List α} {f : α → SOpd} (h : EnvAt (rdOs (ps.map f)) E E') : ∀ p, p ∈ ps → ov E (f p) = ov E' (f p) := by
  induction ps with
  | nil => intro p hp; cases hp
  | cons q ps ih =>
    simp only [rdOs, List.map_cons, List.flatMap_cons] at h
    intro p hp
    rcases List.mem_cons.1 hp with e | e
    · subst e; exact ov_congr h.left
    · exact ih h.right p e
theorem frz1_congr {cs : List D} {H H' : List Ob} (h : SameAt (idsDs cs) H H') : frz1 cs H = frz1 cs H' := by
  unfold frz1
  split
  · rfl
  · split
    · rename_i id ids e
      rw [h id (by rw [e]; simp)]
      have e2 : (rofs false cs H).map (·.1) = (rofs false cs H').map (·.1) := by
        rcases rofs_congr cs H H' h with ⟨a, b⟩ | ⟨ds', a, b⟩
        · rw [a, b]
        · rw [a, b]; rfl
      split
      case isFalse => rfl
      split
      · rename_i wr sz ds _
        have : ∀ (o : Option (List D × List Ob)), (o.map fun r => (r.1, some (id, Ob.ow false sz ds))) = (o.map (·.1)).map fun x => (x, some (id, Ob.ow false sz ds)) := by intro o; cases o <;> rfl
        rw [this, this, e2]
      · rfl
    · rfl
theorem clrD_congr {d z : D} {H H' : List Ob} (h : SameAt (idsD d) H H') : clrD H z d = clrD H' z d := by
  cases d <;> simp only [clrD]
  rename_i id sz off len
  rw [h id (by simp [idsD])]
def CongrR (r : Nat → List D → List Ob → Option D) : Prop := ∀ f as H H', SameAt (idsDs as) H H' → r f as H = r f as H'
theorem accX_congr {op : SOp} (h : EnvAt (rdX op) E E') : accX E op = accX E' op := by
  cases op <;> simp only [rdX] at h <;> simp only [accX]
  case load ag n x => rw [ov_congr h]
  case store n x v => rw [ov_congr h.left]
  case b2s x => rw [ov_congr h]
  case cvb x => rw [ov_congr h]
  case call q f xs => rw [ovs_congr h]
  case callr f xs => rw [ovs_congr h]
  case bsl own sz len z ps =>
    have := ovp_congr h
    have e2 : (ps.map fun p => (p.1, ov E p.2)) = ps.map fun p => (p.1, ov E' p.2) := List.map_congr_left fun p hp => by rw [this p hp]
    rw [e2]
  case callv q f xs => rw [ov_congr h.left, ovs_congr h.right]
  case append sz by_ x y => rw [ov_congr h.left, ov_congr h.right]
  case copy sz x y => rw [ov_congr h.left, ov_congr h.right]
  case clr z x => rw [ov_congr h]
  case mup ag ks m k v => rw [ov_congr h.left]
  case lkp ok ag ks z m k => rw [ov_congr h.left]
theorem idsDs_app (a b : List D) : idsDs (a ++ b) = idsDs a ++ idsDs b := by
  induction a with
  | nil => rfl
  | cons d ds ih => simp only [List.cons_append, idsDs, ih, List.append_assoc]
theorem evX_congr {r : Nat → List D → List Ob → Option D} (hr : CongrR r) {op : SOp} (h : EnvAt (rdX op) E E') (k : SameAt (accX E op) H H') : evX r E H op = evX r E' H' op := by
  cases op <;> simp only [rdX] at h <;> simp only [evX]
  case mv x => rw [ov_congr h]
  case pick c a b => rw [ov_congr h.left, ov_congr h.right.left, ov_congr h.right.right]
  case box n x => rw [ov_congr h]
  case build z ps =>
    have := ovp_congr h
    have e1 : (ps.map fun p => ov E p.2.2) = ps.map fun p => ov E' p.2.2 := List.map_congr_left fun p hp => this p hp
    have e2 : (ps.map fun p => (p.1, p.2.1, ov E p.2.2)) = ps.map fun p => (p.1, p.2.1, ov E' p.2.2) := List.map_congr_left fun p hp => by rw [this p hp]
    rw [e1, e2]
  case bsl own sz len z ps =>
    have := ovp_congr h
    have e1 : (ps.map fun p => ov E p.2) = ps.map fun p => ov E' p.2 := List.map_congr_left fun p hp => this p hp
    have e2 : (ps.map fun p => (p.1, ov E p.2)) = ps.map fun p => (p.1, ov E' p.2) := List.map_congr_left fun p hp => by rw [this p hp]
    rw [e1, e2]
    simp only [accX, e2] at k
    cases hf : fillD sz (List.replicate len z).flatten (ps.map fun p => (p.1, ov E' p.2)) with
    | none => rfl
    | some cs =>
      rw [hf] at k
      simp only [Option.bind_some]
      rw [frz1_congr k]
  case callr f xs =>
    simp only [accX] at k
    rw [hr f _ H H' k, ovs_congr h]
  case load ag n x =>
    simp only [accX] at k
    rw [cellsAt_congr k, ov_congr h]
  case store n x v =>
    simp only [accX] at k
    rw [storeD_congr k, ov_congr h.left, ov_congr h.right]
  case nilc x => rw [ov_congr h]
  case bin op x y => rw [ov_congr h.left, ov_congr h.right]
  case binb op x y => rw [ov_congr h.left, ov_congr h.right]
  case eqa neg ks x y => rw [ov_congr h.left, ov_congr h.right]
  case eqn neg x => rw [ov_congr h]
  case una op x => rw [ov_congr h]
  case cvi kk x => rw [ov_congr h]
  case cvs x => rw [ov_congr h]
  case s2b x => rw [ov_congr h]
  case b2s x =>
    simp only [accX] at k
    rw [slD_congr k, ov_congr h]
  case cvb x =>
    simp only [accX] at k
    rw [ov_congr h] at k ⊢
    split
    · rename_i id sz off len e
      rw [e] at k
      rw [k id (by simp [idsD])]
    · rfl
  case mkf f caps => rw [ovs_congr h]
  case mksl sz by_ z l => rw [ov_congr h]
  case slc sz x lo hi => rw [ov_congr h.left, ovM_congr h.right.left, ovM_congr h.right.right]
  case sls x lo hi => rw [ov_congr h.left, ovM_congr h.right.left, ovM_congr h.right.right]
  case slz x => rw [ov_congr h]
  case fad off x => rw [ov_congr h]
  case fld ag off n x => rw [ov_congr h]
  case ixs sz x i => rw [ov_congr h.left, ov_congr h.right]
  case ixa len sz x i => rw [ov_congr h.left, ov_congr h.right]
  case ixt x i => rw [ov_congr h.left, ov_congr h.right]
  case ixg ag len n x i => rw [ov_congr h.left, ov_congr h.right]
  case ext x i => rw [ov_congr h]
  case call q f xs =>
    simp only [accX] at k
    cases q with
    | false => rfl
    | true => simp only [evX]; rw [hr f _ H H' k, ovs_congr h]
  case callv q f xs =>
    simp only [accX] at k
    cases q with
    | false => rfl
    | true =>
      simp only [evX]
      rw [ov_congr h.left, ovs_congr h.right] at k ⊢
      split
      · rename_i g caps e
        rw [e] at k
        simp only [idsD] at k
        rw [hr g _ H H' (fun i hi => k i (by rw [idsDs_app] at hi; rcases List.mem_append.1 hi with x | x; exact List.mem_append_right _ x; exact List.mem_append_left _ x))]
      · rfl
  case len x => rw [ov_congr h]
  case lens x => rw [ov_congr h]
  case append sz by_ x y =>
    simp only [accX] at k
    rw [appendY_congr k.right, ov_congr h.right]
    congr 1
    funext ys
    rw [appendD_congr k.left, ov_congr h.left]
  case copy sz x y =>
    simp only [accX] at k
    rw [appendY_congr k.right, ov_congr h.right]
    congr 1
    funext ys
    rw [copyD_congr k.left, ov_congr h.left]
  case mx xs => rw [ovs_congr h]
  case mn xs => rw [ovs_congr h]
  case capn x => rw [ov_congr h]
  case appz sz by_ z x n => rw [ov_congr h.left, ov_congr h.right]
  case clr z x =>
    simp only [accX] at k
    rw [clrD_congr k, ov_congr h]
  case mup ag ks m kk v =>
    simp only [accX] at k
    rw [ov_congr h.left] at k ⊢
    rw [ov_congr h.right.left, ov_congr h.right.right]
    split
    · rename_i id e
      rw [e] at k
      rw [k id (by simp [idsD])]
    · rfl
  case lkp ok ag ks z m kk =>
    simp only [accX] at k
    rw [ov_congr h.left] at k ⊢
    rw [ov_congr h.right]
    split
    · rename_i id e
      rw [e] at k
      rw [k id (by simp [idsD])]
    · rfl
theorem wanted_congr {g : Option (Nat × Bool)} (h : EnvAt (match g with | some (t, _) => [t] | none => []) E E') : wanted E g = wanted E' g := by
  cases g with
  | none => rfl
  | some p => obtain ⟨t, b⟩ := p; simp only [wanted]; rw [h t (by simp)]
theorem eats_congr {op : SOp} (h : EnvAt (rdX op) E E') : eats E op = eats E' op := by
  cases op <;> simp only [rdX] at h <;> simp only [eats]
  rename_i sz by_ x y
  cases x with
  | t n => simp only [eats]; rw [h n (by simp [rdO])]
  | k d => rfl
theorem accS_congr {s : SOper} (h : EnvAt (rdS s) E E') : accS E s = accS E' s := by
  unfold accS
  unfold rdS at h
  rw [wanted_congr h.right, accX_congr h.left]
theorem stepX_congr {cl : Cl} (hr : CongrR cl.r) {s : SOper} (h : EnvAt (rdS s) E E') (k : SameAt (accS E s) H H') : stepX cl s E H = stepX cl s E' H' := by
  unfold stepX
  have h' := h
  unfold rdS at h'
  rw [wanted_congr h'.right]
  split
  · rename_i hw
    have k' : SameAt (accX E s.op) H H' := by
      unfold accS at k
      rw [wanted_congr h'.right, hw] at k
      exact k
    rw [evX_congr hr h'.left k', eats_congr h'.left]
  · rfl
  · rfl
/-- What is turned was looked into. -/
theorem storeD_id {H : List Ob} {n : Nat} {v x d : D} {i : Nat} {o : Ob} (h : storeD H n v x = some (d, some (i, o))) : i ∈ idsD x := by
  unfold storeD at h
  repeat' split at h
  all_goals try cases h
  all_goals simp only [Option.map_eq_some_iff, Option.bind_eq_some_iff, Prod.mk.injEq, Option.some.injEq] at h
  all_goals first
    | (obtain ⟨_, _, _, e, _⟩ := h; rw [← e]; simp [idsD]; done)
    | (obtain ⟨_, _, _, _, _, e, _⟩ := h; rw [← e]; simp [idsD]; done)
theorem appendD_id {H : List Ob} {sz by_ : Nat} {ys : List D} {x d : D} {i : Nat} {o : Ob} (h : appendD H sz by_ ys x = some (d, some (i, o))) : i ∈ idsD x := by
  unfold appendD at h
  repeat' split at h
  all_goals try cases h
  all_goals simp [idsD]
theorem copyD_id {H : List Ob} {sz : Nat} {ys : List D} {x d : D} {i : Nat} {o : Ob} (h : copyD H sz ys x = some (d, some (i, o))) : i ∈ idsD x := by
  unfold copyD at h
  repeat' split at h
  all_goals try cases h
  all_goals simp [idsD]
def NU (x : Option (D × Option (Nat × Ob))) : Prop := ∀ d u, x = some (d, u) → u = none
theorem NU.none : NU none := by intro d u h; cases h
theorem NU.some {d : D} : NU (some (d, .none)) := by intro d' u e; injection e with e; simp only [Prod.mk.injEq] at e; exact e.2.symm
theorem NU.bind {α : Type} {o : Option α} {f : α → Option (D × Option (Nat × Ob))} (h : ∀ a, NU (f a)) : NU (o.bind f) := by
  intro d u e; obtain ⟨a, _, e⟩ := Option.bind_eq_some_iff.1 e; exact h a d u e
theorem NU.map {α : Type} {o : Option α} {f : α → D × Option (Nat × Ob)} (h : ∀ a, (f a).2 = .none) : NU (o.map f) := by
  intro d u e; obtain ⟨a, _, e⟩ := Option.map_eq_some_iff.1 e; have := h a; rw [e] at this; exact this
theorem evX_id {r : Nat → List D → List Ob → Option D} {op : SOp} {d : D} {i : Nat} {o : Ob} (h : evX r E H op = some (d, some (i, o))) : i ∈ accX E op := by
  cases op <;> simp only [evX] at h
  case store n x v =>
    split at h
    · exact storeD_id h
    · cases h
  case append sz by_ x y =>
    obtain ⟨ys, _, h⟩ := Option.bind_eq_some_iff.1 h
    exact List.mem_append_left _ (appendD_id h)
  case copy sz x y =>
    obtain ⟨ys, _, h⟩ := Option.bind_eq_some_iff.1 h
    exact List.mem_append_left _ (copyD_id h)
  case cvb x =>
    simp only [accX]
    split at h
    · rename_i id sz off len e
      split at h
      · split at h
        · simp only [Option.some.injEq, Prod.mk.injEq] at h; rw [e]; simp [idsD, h.2.1]
        · cases h
      · cases h
    · cases h
  case bsl own sz len z ps =>
    simp only [accX]
    obtain ⟨cs, hf, h⟩ := Option.bind_eq_some_iff.1 h
    obtain ⟨⟨cs', u⟩, hfz, h⟩ := Option.bind_eq_some_iff.1 h
    split at h
    · simp only [Option.some.injEq, Prod.mk.injEq] at h
      rw [hf]
      simp only
      obtain ⟨_, rfl⟩ := h
      unfold frz1 at hfz
      split at hfz
      · cases hfz
      · split at hfz
        · rename_i id ids e
          split at hfz
          case isFalse => cases hfz
          split at hfz
          · obtain ⟨r', _, e3⟩ := Option.map_eq_some_iff.1 hfz
            simp only [Prod.mk.injEq, Option.some.injEq] at e3
            rw [e, ← e3.2.1]; simp
          · cases hfz
        · cases hfz
    · cases h
  case clr z x =>
    simp only [accX]
    unfold clrD at h
    split at h
    · cases h
    · rename_i id sz off len e
      split at h
      · split at h
        · simp only [Option.some.injEq, Prod.mk.injEq] at h; rw [e]; simp [idsD, h.2.1]
        · cases h
      · cases h
    · cases h
  case mup ag ks m k v =>
    simp only [accX]
    split at h
    · rename_i id e
      split at h
      · split at h
        · obtain ⟨r, _, h⟩ := Option.map_eq_some_iff.1 h
          simp only [Option.some.injEq, Prod.mk.injEq] at h; rw [e]; simp [idsD, h.2.1]
        · cases h
      · cases h
    · cases h
  case call q f xs =>
    exfalso
    cases q <;> simp only [evX] at h
    · cases h
    · exact absurd (NU.map (fun _ => rfl) : NU _) (fun hh => by have := hh _ _ h; cases this)
  case callv q f xs =>
    exfalso
    cases q <;> simp only [evX] at h
    · cases h
    · split at h
      · exact absurd (NU.map (fun _ => rfl) : NU _) (fun hh => by have := hh _ _ h; cases this)
      · cases h
  all_goals exfalso
  all_goals refine absurd (?_ : NU _) (fun hh => by have := hh _ _ h; cases this)
  all_goals repeat' first
    | exact NU.none
    | exact NU.some
    | exact NU.map fun _ => rfl
    | refine NU.bind fun _ => ?_
    | split
theorem stepX_id {cl : Cl} {s : SOper} {d : D} {eat : Option Nat} {i : Nat} {o : Ob} (h : stepX cl s E H = some (d, eat, some (i, o))) : i ∈ accS E s := by
  unfold stepX at h
  unfold accS
  split at h
  · rename_i hw
    obtain ⟨⟨d1, u1⟩, h1, h2⟩ := Option.map_eq_some_iff.1 h
    simp only [Prod.mk.injEq] at h2
    obtain ⟨rfl, rfl, rfl⟩ := h2
    rw [hw]
    exact evX_id h1
  · simp at h
  · cases h
theorem stepX_eats {cl : Cl} {s : SOper} {d : D} {eat : Option Nat} {u : Option (Nat × Ob)} (h : stepX cl s E H = some (d, eat, u)) : ∀ t, eat = some t → t ∈ wrS s := by
  unfold stepX at h
  split at h
  · obtain ⟨⟨d1, u1⟩, h1, h2⟩ := Option.map_eq_some_iff.1 h
    simp only [Prod.mk.injEq] at h2
    obtain ⟨rfl, rfl, rfl⟩ := h2
    intro t ht
    unfold eats at ht
    split at ht
    · rename_i hop
      split at ht
      · injection ht with ht; subst ht
        unfold wrS; rw [hop]; simp
      · cases ht
    · cases ht
  · simp only [Option.some.injEq, Prod.mk.injEq] at h
    intro t ht; rw [← h.2.1] at ht; cases ht
  · cases h
theorem eqSc_eq {a b : Value} (h : eqSc a b = true) : a = b := by
  unfold eqSc at h
  split at h
  · simp at h; rw [h]
  · simp at h; rw [h.1, h.2]
  · rename_i a b
    obtain ⟨⟨a⟩⟩ := a; obtain ⟨⟨b⟩⟩ := b
    simp at h; rw [h]
  · cases h
mutual
theorem eqD_eq : ∀ {a b : D}, eqD a b = true → a = b := by
  intro a b h
  cases a <;> cases b <;> simp only [eqD, Bool.and_eq_true, decide_eq_true_eq, Bool.false_eq_true] at h
  case sc.sc => rw [eqSc_eq h]
  case agg.agg => rw [eqDs_eq h]
  case tup.tup => rw [eqDs_eq h]
  case sl.sl => rw [h.1, eqDs_eq h.2]
  case osl.osl => rw [h.1, h.2.1, eqDs_eq h.2.2]
  case obx.obx => rw [eqDs_eq h]
  case ep.ep => rw [eqDs_eq h]
  case rf.rf => rw [h.1, h.2.1, h.2.2.1, h.2.2.2]
  case pt.pt => rw [h.1, h.2.1, h.2.2.1, h.2.2.2]
  case fn.fn => rw [h.1, eqDs_eq h.2]
  case mp.mp => rw [h]
  all_goals rfl
theorem eqDs_eq : ∀ {a b : List D}, eqDs a b = true → a = b := by
  intro a b h
  cases a <;> cases b <;> simp only [eqDs, Bool.and_eq_true, Bool.false_eq_true] at h
  · rfl
  · rw [eqD_eq h.1, eqDs_eq h.2]
end
theorem kept_same {H H' : List Ob} {i : Nat} (h : i ∈ kept H H') : H'[i]? = H[i]? := by
  unfold kept at h
  rw [List.mem_filter] at h
  have := h.2
  unfold sameBx at this
  split at this
  · rename_i a b e1 e2
    rw [e1, e2, eqDs_eq this]
  · cases this
theorem stepO_call_congr {cl : Cl} {s : SOper} {E E' : Env} {H : List Ob} (hc : isCall s.op = true) (h : EnvAt (rdS s) E E') : (stepO cl s E H = none ∧ stepO cl s E' H = none) ∨ ∃ d H1, stepO cl s E H = some (putE s.dst d E, H1) ∧ stepO cl s E' H = some (putE s.dst d E', H1) := by
  have hw : wanted E s.guard = wanted E' s.guard := wanted_congr h.right
  have he : evCall cl.w E H s.op = evCall cl.w E' H s.op := by
    have hx : EnvAt (rdX s.op) E E' := h.left
    rcases isCall_cases hc with ⟨f, xs, e⟩ | ⟨f, xs, e⟩
    · rw [e] at hx ⊢
      simp only [rdX] at hx
      simp only [evCall, ovs_congr hx]
    · rw [e] at hx ⊢
      simp only [rdX] at hx
      simp only [evCall, ov_congr hx.left, ovs_congr hx.right]
  unfold stepO
  rw [if_pos hc, if_pos hc, ← hw, ← he]
  cases hh : wanted E s.guard with
  | none => exact .inl ⟨rfl, rfl⟩
  | some b =>
    cases b with
    | false => exact .inr ⟨_, H, rfl, rfl⟩
    | true =>
      cases h2 : evCall cl.w E H s.op with
      | none => exact .inl ⟨rfl, rfl⟩
      | some r => exact .inr ⟨r.1, r.2, rfl, rfl⟩
end
end Lg
