import Derived.Test.YtflnllohghgpdaaLgX11
/-
  Structs and arrays compared.
-/
namespace Lg
open Go
set_option linter.unusedVariables false
set_option linter.unusedSimpArgs false
set_option linter.unusedSectionVars false

theorem eqLeaves_app : ∀ {ks ls : List Nat} {as bs : List D} {b : Bool}, eqLeaves (ks ++ ls) as bs = some b →
    ∃ x y, eqLeaves ks (as.take ks.length) (bs.take ks.length) = some x ∧ eqLeaves ls (as.drop ks.length) (bs.drop ks.length) = some y ∧ b = (x && y)
  | [], ls, as, bs, b, h => ⟨true, b, rfl, h, by simp⟩
  | k :: ks, ls, [], bs, b, h => by simp [eqLeaves] at h
  | k :: ks, ls, _ :: _, [], b, h => by simp [eqLeaves] at h
  | k :: ks, ls, a :: as, c :: bs, b, h => by
    simp only [List.cons_append, eqLeaves] at h
    obtain ⟨z, h1, h⟩ := Option.bind_eq_some_iff.1 h
    obtain ⟨b', h2, rfl⟩ := Option.map_eq_some_iff.1 h
    obtain ⟨x, y, e1, e2, rfl⟩ := eqLeaves_app h2
    exact ⟨z && x, y, by simp [eqLeaves, h1, e1], by simpa using e2, by simp [Bool.and_assoc]⟩
theorem eqLeaves_len : ∀ {ks : List Nat} {as bs : List D} {b : Bool}, eqLeaves ks as bs = some b → as.length = ks.length ∧ bs.length = ks.length
  | [], [], [], b, h => ⟨rfl, rfl⟩
  | [], [], _ :: _, b, h => by simp [eqLeaves] at h
  | [], _ :: _, _, b, h => by simp [eqLeaves] at h
  | k :: ks, [], bs, b, h => by simp [eqLeaves] at h
  | k :: ks, _ :: _, [], b, h => by simp [eqLeaves] at h
  | k :: ks, a :: as, c :: bs, b, h => by
    simp only [eqLeaves] at h
    obtain ⟨z, h1, h⟩ := Option.bind_eq_some_iff.1 h
    obtain ⟨b', h2, rfl⟩ := Option.map_eq_some_iff.1 h
    obtain ⟨e1, e2⟩ := eqLeaves_len h2
    simp [e1, e2]
section
variable {P : Program}
def Op.eqArr (d : Nat) (xs ys : Array Value) (e : TypeId) (n : Nat) : List Nat → Sem Bool
  | [] => pure true
  | i :: is => do
    let a ← Go.part e xs (i * n)
    let b ← Go.part e ys (i * n)
    let r ← Go.Op.equalIn d e a b
    if (!r) = true then pure false else Op.eqArr d xs ys e n is
theorem run_equalIn_array (w : World) (d : Nat) (t e : TypeId) (len n : Nat) (xs ys : Array Value) (ht : P.underlying t = some (.array len e)) (hs : sizeT P e = some n) :
    (Go.Op.equalIn (d + 1) t (.agg xs) (.agg ys)).run P w = (Op.eqArr d xs ys e n (List.range len)).run P w := by
  simp only [Go.Op.equalIn, Sem.run_bind, run_underlying ht, Result.andThen_ok, run_sizeT hs, Std.Legacy.Range.forIn_eq_forIn_range', Std.Legacy.Range.size, Nat.sub_zero, Nat.add_sub_cancel, Nat.div_one]
  rw [List.range_eq_range']
  generalize List.range' 0 len = is
  induction is generalizing w with
  | nil => simp [Op.eqArr]
  | cons f fs ih =>
    simp only [List.forIn_cons, Op.eqArr, Sem.run_bind, Sem.run_ite]
    generalize (Go.part e xs (f * n)).run P w = r1
    cases r1 with
    | ok a w1 =>
      simp only [Result.andThen_ok]
      generalize (Go.part e ys (f * n)).run P w1 = r2
      cases r2 with
      | ok b w2 =>
        simp only [Result.andThen_ok]
        generalize (Go.Op.equalIn d e a b).run P w2 = r3
        cases r3 with
        | ok r w3 =>
          cases r
          · simp only [Result.andThen_ok, Bool.not_false, if_true, Sem.run_pure]
          · simp only [Result.andThen_ok, Bool.not_true, Bool.false_eq_true, if_false, Sem.run_pure]
            exact ih w3
        | halt x w3 => simp [Result.andThen]
      | halt x w2 => simp [Result.andThen]
    | halt x w1 => simp [Result.andThen]
end
section
variable {P : Program} {fid : Nat → FuncId} {w : World} {A : Av} {ι : Io}
/-- Two values told by their leaves. -/
def Two (fid : Nat → FuncId) (w : World) (A : Av) (ι : Io) (ag : Bool) (ks : List Nat) (x y : Value) (b : Bool) : Prop :=
  if ag then ∃ vs us as bs, x = .agg ⟨vs⟩ ∧ y = .agg ⟨us⟩ ∧ LVs fid w A ι true vs as [] ∧ LVs fid w A ι true us bs [] ∧ eqLeaves ks as bs = some b
  else ∃ da db, LV fid w A ι true x da [] ∧ LV fid w A ι true y db [] ∧ eqLeaves ks [da] [db] = some b
theorem two_part {t : TypeId} {ag : Bool} {off : Nat} {ks : List Nat} {vs us : List Value} {as bs : List D} {b : Bool} (h1 : aggT P t = some ag) (h2 : sizeT P t = some ks.length) (hk : ag = false → ks.length = 1) (hv : LVs fid w A ι true vs as []) (hu : LVs fid w A ι true us bs [])
    (h : eqLeaves ks ((as.drop off).take ks.length) ((bs.drop off).take ks.length) = some b) :
    ∃ x y, (Go.part t ⟨vs⟩ off).run P w = .ok x w ∧ (Go.part t ⟨us⟩ off).run P w = .ok y w ∧ Two fid w A ι ag ks x y b := by
  obtain ⟨n1, n2⟩ := eqLeaves_len h
  rw [List.length_take, List.length_drop] at n1 n2
  cases ag with
  | true =>
    obtain ⟨x, r1, l1⟩ := run_part (P := P) (off := off) (d := .agg ((as.drop off).take ks.length)) h1 h2 hv (by unfold part; rw [if_pos rfl, if_pos (by rw [List.length_drop]; omega)])
    obtain ⟨y, r2, l2⟩ := run_part (P := P) (off := off) (d := .agg ((bs.drop off).take ks.length)) h1 h2 hu (by unfold part; rw [if_pos rfl, if_pos (by rw [List.length_drop]; omega)])
    obtain ⟨vs', e1, q1⟩ := l1.inv_agg
    obtain ⟨us', e2, q2⟩ := l2.inv_agg
    refine ⟨x, y, r1, r2, ?_⟩
    unfold Two
    rw [if_pos rfl]
    exact ⟨vs', us', _, _, e1, e2, q1, q2, h⟩
  | false =>
    have hk1 := hk rfl
    have e1 : ∃ a l, as.drop off = a :: l := by
      cases hh : as.drop off with
      | nil => have := congrArg List.length hh; rw [List.length_drop, List.length_nil] at this; omega
      | cons a l => exact ⟨a, l, rfl⟩
    have e2 : ∃ a l, bs.drop off = a :: l := by
      cases hh : bs.drop off with
      | nil => have := congrArg List.length hh; rw [List.length_drop, List.length_nil] at this; omega
      | cons a l => exact ⟨a, l, rfl⟩
    obtain ⟨da, la, e1⟩ := e1
    obtain ⟨db, lb, e2⟩ := e2
    obtain ⟨x, r1, l1⟩ := run_part (P := P) (off := off) (d := da) h1 h2 hv (by unfold part; rw [e1]; simp)
    obtain ⟨y, r2, l2⟩ := run_part (P := P) (off := off) (d := db) h1 h2 hu (by unfold part; rw [e2]; simp)
    refine ⟨x, y, r1, r2, ?_⟩
    unfold Two
    rw [if_neg (by simp)]
    rw [e1, e2, hk1] at h
    exact ⟨da, db, l1, l2, h⟩
def aggD : TypeDesc → Bool
  | .struct _ | .array _ _ => true
  | _ => false
theorem aggT_of {t : TypeId} {u : TypeDesc} (h : P.underlying t = some u) : aggT P t = some (aggD u) := by
  unfold aggT; rw [h]; cases u <;> rfl
theorem sized_some {t : TypeId} {o : Option (List Nat)} {ks : List Nat} (h : sized P t o = some ks) : o = some ks ∧ sizeT P t = some ks.length := by
  unfold sized at h
  obtain ⟨l, h1, h2⟩ := Option.bind_eq_some_iff.1 h
  split at h2
  · rename_i hs
    injection h2 with h2; subst h2
    exact ⟨h1, hs⟩
  · cases h2
theorem leavesT_size {n : Nat} {t : TypeId} {ks : List Nat} (h : leavesT P n t = some ks) : ∃ ag, aggT P t = some ag ∧ sizeT P t = some ks.length ∧ (ag = false → ks.length = 1) := by
  cases n with
  | zero => simp [leavesT] at h
  | succ n =>
    unfold leavesT at h
    obtain ⟨h1, h2⟩ := sized_some h
    split at h1
    · rename_i hu; injection h1 with h1; exact ⟨false, by rw [aggT_of hu]; rfl, h2, fun _ => by rw [← h1]; rfl⟩
    · rename_i hu; injection h1 with h1; exact ⟨false, by rw [aggT_of hu]; rfl, h2, fun _ => by rw [← h1]; rfl⟩
    · rename_i hu; injection h1 with h1; exact ⟨false, by rw [aggT_of hu]; rfl, h2, fun _ => by rw [← h1]; rfl⟩
    · rename_i hu; exact ⟨true, by rw [aggT_of hu]; rfl, h2, by simp⟩
    · rename_i hu; exact ⟨true, by rw [aggT_of hu]; rfl, h2, by simp⟩
    · cases h1
theorem eqIn_plain : ∀ (n : Nat) (t : TypeId) (ks : List Nat), leavesT P n t = some ks → ∀ d, n ≤ d → ∀ {ag : Bool} {x y : Value} {b : Bool}, aggT P t = some ag → Two fid w A ι ag ks x y b → (Go.Op.equalIn d t x y).run P w = .ok b w
  | 0, t, ks, h, d, hd, ag, x, y, b, h1, h3 => by simp [leavesT] at h
  | n + 1, t, ks, h, 0, hd, ag, x, y, b, h1, h3 => by omega
  | n + 1, t, ks, h, d + 1, hd, ag, x, y, b, h1, h3 => by
    have hd' : n ≤ d := by omega
    unfold leavesT at h
    obtain ⟨h, h2⟩ := sized_some h
    have leaf : ∀ u k, P.underlying t = some u → aggD u = false → some [k] = some ks → ∃ da db, LV fid w A ι true x da [] ∧ LV fid w A ι true y db [] ∧ eqLeaf k da db = some b := by
      intro u k hu hf hk
      have := aggT_of hu
      rw [hf, h1] at this
      injection this with this
      subst this
      injection hk with hk
      subst hk
      unfold Two at h3
      rw [if_neg (by simp)] at h3
      obtain ⟨da, db, l1, l2, he⟩ := h3
      refine ⟨da, db, l1, l2, ?_⟩
      simp only [eqLeaves, Option.map_some, Bool.and_true] at he
      obtain ⟨z, hz, he⟩ := Option.bind_eq_some_iff.1 he
      injection he with he
      subst he
      exact hz
    have big : ∀ u, P.underlying t = some u → aggD u = true → ∃ vs us as bs, x = .agg ⟨vs⟩ ∧ y = .agg ⟨us⟩ ∧ LVs fid w A ι true vs as [] ∧ LVs fid w A ι true us bs [] ∧ eqLeaves ks as bs = some b := by
      intro u hu hf
      have := aggT_of hu
      rw [hf, h1] at this
      injection this with this
      subst this
      unfold Two at h3
      rwa [if_pos rfl] at h3
    split at h
    · rename_i hu
      obtain ⟨da, db, l1, l2, he⟩ := leaf _ 0 hu rfl h
      unfold eqLeaf at he
      split at he
      · injection he with he; subst he
        rw [l1.inv_bool.1, l2.inv_bool.1]
        simp [Go.Op.equalIn, run_underlying hu]
      · rename_i e; exact absurd e (by decide)
      · rename_i e; exact absurd e (by decide)
      · cases he
    · rename_i kk hu
      obtain ⟨da, db, l1, l2, he⟩ := leaf _ 1 hu rfl h
      unfold eqLeaf at he
      split at he
      · rename_i e; exact absurd e (by decide)
      · split at he
        · rename_i hk
          subst hk
          injection he with he; subst he
          rw [l1.inv_int.1, l2.inv_int.1]
          simp [Go.Op.equalIn, run_underlying hu]
        · cases he
      · rename_i e; exact absurd e (by decide)
      · cases he
    · rename_i hu
      obtain ⟨da, db, l1, l2, he⟩ := leaf _ 2 hu rfl h
      unfold eqLeaf at he
      split at he
      · rename_i e; exact absurd e (by decide)
      · rename_i e; exact absurd e (by decide)
      · injection he with he; subst he
        rw [l1.inv_str.1, l2.inv_str.1]
        rw [run_equalIn_string w d t _ _ hu, ByteArray.toList_eq, ByteArray.toList_eq]
      · cases he
    · rename_i fs hu
      split at h
      · rename_i hst
        obtain ⟨vs, us, as, bs, rfl, rfl, lv, lu, he⟩ := big _ hu rfl
        have hfo : P.fieldsOf t = fs := by simp [Program.fieldsOf, hu]
        rw [run_equalIn_struct w d t _ _ (by rw [hfo]; exact hu) hst, hfo]
        have key : ∀ (fl : List Field) (off : Nat) (ls : List Nat) (b : Bool), leavesFs (leavesT P n) off fl = some ls → eqLeaves ls (as.drop off) (bs.drop off) = some b → (Go.Op.eqFields d ⟨vs⟩ ⟨us⟩ fl).run P w = .ok b w := by
          intro fl
          induction fl with
          | nil =>
            intro off ls b hls hb
            simp [leavesFs] at hls
            subst hls
            have : b = true := by
              obtain ⟨n1, n2⟩ := eqLeaves_len hb
              rw [List.length_eq_zero_iff.1 n1, List.length_eq_zero_iff.1 n2] at hb
              simp [eqLeaves] at hb
              exact hb
            subst this
            simp [Go.Op.eqFields]
          | cons f fl ih =>
            intro off ls b hls hb
            simp only [leavesFs] at hls
            split at hls
            · rename_i hf
              obtain ⟨hf1, hf2⟩ := hf
              obtain ⟨kf, hkf, hls⟩ := Option.bind_eq_some_iff.1 hls
              obtain ⟨l', hl', rfl⟩ := Option.map_eq_some_iff.1 hls
              obtain ⟨p, q, e1, e2, rfl⟩ := eqLeaves_app hb
              obtain ⟨ag', g1, g2, g3⟩ := leavesT_size hkf
              rw [List.drop_drop, List.drop_drop] at e2
              obtain ⟨x', y', r1, r2, two⟩ := two_part g1 g2 g3 lv lu e1
              have hr := eqIn_plain n f.type kf hkf d hd' g1 two
              subst hf2
              simp only [Go.Op.eqFields, if_pos hf1, Sem.run_bind, r1, r2, hr, Result.andThen_ok, Sem.run_ite]
              cases p with
              | true => simp only [Bool.not_true, Bool.false_eq_true, if_false, Bool.true_and]; exact ih _ l' q hl' e2
              | false => simp
            · cases hls
        exact key fs.toList 0 ks b h (by simpa using he)
      · cases h
    · rename_i len e hu
      obtain ⟨ke, hke, rfl⟩ := Option.map_eq_some_iff.1 h
      obtain ⟨vs, us, as, bs, rfl, rfl, lv, lu, he⟩ := big _ hu rfl
      obtain ⟨ag', g1, g2, g3⟩ := leavesT_size hke
      rw [run_equalIn_array w d t e len ke.length _ _ hu g2]
      have key : ∀ (m i : Nat) (b : Bool), eqLeaves (List.replicate m ke).flatten (as.drop (i * ke.length)) (bs.drop (i * ke.length)) = some b → (Op.eqArr d ⟨vs⟩ ⟨us⟩ e ke.length (List.range' i m)).run P w = .ok b w := by
        intro m
        induction m with
        | zero =>
          intro i b hb
          have : b = true := by
            obtain ⟨n1, n2⟩ := eqLeaves_len hb
            simp only [List.replicate_zero, List.flatten_nil, List.length_nil] at n1 n2
            rw [List.length_eq_zero_iff.1 n1, List.length_eq_zero_iff.1 n2] at hb
            simp [eqLeaves] at hb
            exact hb
          subst this
          simp [Op.eqArr]
        | succ m ih =>
          intro i b hb
          rw [List.replicate_succ, List.flatten_cons] at hb
          obtain ⟨p, q, e1, e2, rfl⟩ := eqLeaves_app hb
          rw [List.drop_drop, List.drop_drop] at e2
          obtain ⟨x', y', r1, r2, two⟩ := two_part g1 g2 g3 lv lu e1
          have hr := eqIn_plain n e ke hke d hd' g1 two
          rw [List.range'_succ]
          simp only [Op.eqArr, Sem.run_bind, r1, r2, hr, Result.andThen_ok, Sem.run_ite]
          cases p with
          | true =>
            simp only [Bool.not_true, Bool.false_eq_true, if_false, Bool.true_and]
            exact ih (i + 1) q (by rw [Nat.add_mul, Nat.one_mul]; exact e2)
          | false => simp
      rw [List.range_eq_range']
      exact key len 0 b (by simpa using he)
    · cases h
end
section
variable {P : Program} {num : FuncId → Option Nat} {fid : Nat → FuncId} (hnum : ∀ f g, num f = some g → fid g = f)
  {w : World} {A : Av} {ι : Io} {a : Act} {E : Env} {own : Nat → List Nat} (hl : ∀ t, LV fid w A ι true (a.tmps.getD t undef) (lk E t) (own t)) {o : Oper} {d : D}
include hnum hl
theorem x_eqa {neg : Bool} {t t' : TypeId} {x y : Operand} {ks : List Nat} {u : TypeDesc} (ho : o.op = .binOp (if neg then .neq else .eql) t x y t') (hu : P.underlying t = some u) (hag : aggD u = true) (hg : P.eqGuardType P.depth t = false) (hk : leavesT P 9 t = some ks) (hx : okOpd x = true) (hy : okOpd y = true)
    (h : eqaD neg ks (ov E (opd num x)) (ov E (opd num y)) = some d) : Pure1 P fid w A ι a o d := by
  have kx := lv_opd hnum hl x hx
  have ky := lv_opd hnum hl y hy
  generalize ov E (opd num x) = dx at kx h
  generalize ov E (opd num y) = dy at ky h
  unfold eqaD at h
  split at h
  · rename_i as bs
    obtain ⟨b, hb, rfl⟩ := Option.map_eq_some_iff.1 h
    obtain ⟨vs, e1, hv⟩ := kx.inv_agg
    obtain ⟨us, e2, hu'⟩ := ky.inv_agg
    have hat : aggT P t = some true := by rw [aggT_of hu, hag]
    have hleaf : ∀ (l : List D), (∃ b bs', eqLeaves ks l bs' = some b ∨ eqLeaves ks bs' l = some b) → noTrees l = true := by
      intro l hh
      obtain ⟨b, bs', hh⟩ := hh
      have one : ∀ (ks : List Nat) (l l' : List D) (b : Bool), eqLeaves ks l l' = some b → noTrees l = true ∧ noTrees l' = true := by
        intro ks
        induction ks with
        | nil => intro l l' b h; cases l <;> cases l' <;> simp [eqLeaves, noTrees] at h ⊢
        | cons k ks ih =>
          intro l l' b h
          cases l with
          | nil => simp [eqLeaves] at h
          | cons a l =>
            cases l' with
            | nil => simp [eqLeaves] at h
            | cons c l' =>
              simp only [eqLeaves] at h
              obtain ⟨z, h1, h⟩ := Option.bind_eq_some_iff.1 h
              obtain ⟨b', h2, rfl⟩ := Option.map_eq_some_iff.1 h
              obtain ⟨i1, i2⟩ := ih l l' b' h2
              unfold eqLeaf at h1
              split at h1 <;> simp [noTrees, noTree, i1, i2] at h1 ⊢
      rcases hh with hh | hh
      · exact (one _ _ _ _ hh).1
      · exact (one _ _ _ _ hh).2
    rw [hv.noTree (hleaf as ⟨b, bs, .inl hb⟩)] at hv
    rw [hu'.noTree (hleaf bs ⟨b, as, .inr hb⟩)] at hu'
    have two : Two fid w A ι true ks (.agg ⟨vs⟩) (.agg ⟨us⟩) b := by unfold Two; rw [if_pos rfl]; exact ⟨vs, us, as, bs, rfl, rfl, hv, hu', hb⟩
    have hr := eqIn_plain (P := P) 9 t ks hk 10000 (by omega) hat two
    refine ⟨.bool (b != neg), ?_, .sc _ rfl⟩
    simp only [execOp, ho]
    rw [e1, e2]
    cases neg with
    | false =>
      simp only [Bool.false_eq_true, if_false, Sem.run_bind, run_eqGuard_agg w .eql t x y _ _ hg, Result.andThen_ok, run_eql_struct, hr, Sem.run_pure]
      simp
    | true =>
      simp only [if_true, Sem.run_bind, run_eqGuard_agg w .neq t x y _ _ hg, Result.andThen_ok, run_neq_struct, hr, Sem.run_pure]
      simp
  · cases h
end
end Lg
