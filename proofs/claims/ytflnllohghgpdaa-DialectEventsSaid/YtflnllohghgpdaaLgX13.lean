import Derived.Test.YtflnllohghgpdaaLgX12
import Derived.MapKept
/-
  Maps: made, written, looked up.
-/
namespace Lg
open Go
set_option linter.unusedVariables false
set_option linter.unusedSimpArgs false
set_option linter.unusedSectionVars false

section
variable {P : Program} {fid : Nat → FuncId} {w : World} {A : Av} {ι : Io}
theorem eqLeaves_self : ∀ {ks : List Nat} {as bs : List D} {b : Bool}, eqLeaves ks as bs = some b → eqLeaves ks as as = some true
  | [], as, bs, b, h => by
    cases as with
    | nil => rfl
    | cons a as => cases bs <;> simp [eqLeaves] at h
  | k :: ks, as, bs, b, h => by
    cases as with
    | nil => simp [eqLeaves] at h
    | cons a as =>
      cases bs with
      | nil => simp [eqLeaves] at h
      | cons c bs =>
        simp only [eqLeaves] at h ⊢
        obtain ⟨x, h1, h⟩ := Option.bind_eq_some_iff.1 h
        obtain ⟨y, h2, _⟩ := Option.map_eq_some_iff.1 h
        have e1 : eqLeaf k a a = some true := by
          unfold eqLeaf at h1 ⊢
          split at h1 <;> simp_all
        rw [e1, eqLeaves_self h2]; rfl
theorem two_self {ag : Bool} {ks : List Nat} {x y : Value} {b : Bool} (h : Two fid w A ι ag ks x y b) : Two fid w A ι ag ks x x true := by
  unfold Two at h ⊢
  cases ag with
  | true =>
    obtain ⟨vs, us, as, bs, e1, e2, l1, l2, he⟩ := h
    exact ⟨vs, vs, as, as, e1, e1, l1, l1, eqLeaves_self he⟩
  | false =>
    obtain ⟨da, db, l1, l2, he⟩ := h
    exact ⟨da, da, l1, l1, eqLeaves_self he⟩
theorem two_of {ag : Bool} {ks : List Nat} {x y : Value} {da db : D} {b : Bool} (lx : LV fid w A ι true x da []) (ly : LV fid w A ι true y db []) (h : eqK ag ks da db = some b) : Two fid w A ι ag ks x y b := by
  unfold eqK at h
  unfold Two
  cases ag with
  | true =>
    simp only [if_true] at h ⊢
    split at h
    · rename_i as bs
      obtain ⟨vs, e1, l1⟩ := lx.inv_agg
      obtain ⟨us, e2, l2⟩ := ly.inv_agg
      exact ⟨vs, us, as, bs, e1, e2, l1, l2, h⟩
    · cases h
  | false =>
    simp only [Bool.false_eq_true, if_false] at h ⊢
    exact ⟨da, db, lx, ly, h⟩
/-- Keys of such types may be keys. -/
theorem checkKey_plain (em : Bool) : ∀ (n : Nat) (t : TypeId) (ks : List Nat), leavesT P n t = some ks → ∀ d, n ≤ d → ∀ {ag : Bool} {x : Value}, aggT P t = some ag → Two fid w A ι ag ks x x true → (Instr.checkKey em d t x).run P w = .ok () w
  | 0, t, ks, h, d, hd, ag, x, h1, h3 => by simp [leavesT] at h
  | n + 1, t, ks, h, 0, hd, ag, x, h1, h3 => by omega
  | n + 1, t, ks, h, d + 1, hd, ag, x, h1, h3 => by
    have hd' : n ≤ d := by omega
    unfold leavesT at h
    obtain ⟨h, h2⟩ := sized_some h
    have leaf : ∀ u k, P.underlying t = some u → aggD u = false → some [k] = some ks → ∃ da, LV fid w A ι true x da [] ∧ eqLeaf k da da = some true := by
      intro u k hu hf hk
      have := aggT_of hu
      rw [hf, h1] at this
      injection this with this
      subst this
      injection hk with hk
      subst hk
      unfold Two at h3
      rw [if_neg (by simp)] at h3
      obtain ⟨da, db, l1, l2, he⟩ := h3
      refine ⟨da, l1, ?_⟩
      have he := eqLeaves_self he
      simp only [eqLeaves, Option.map_some, Bool.and_true] at he
      obtain ⟨z, hz, he⟩ := Option.bind_eq_some_iff.1 he
      injection he with he
      subst he
      exact hz
    have big : ∀ u, P.underlying t = some u → aggD u = true → ∃ vs as, x = .agg ⟨vs⟩ ∧ LVs fid w A ι true vs as [] ∧ eqLeaves ks as as = some true := by
      intro u hu hf
      have := aggT_of hu
      rw [hf, h1] at this
      injection this with this
      subst this
      unfold Two at h3
      rw [if_pos rfl] at h3
      obtain ⟨vs, us, as, bs, e1, e2, l1, l2, he⟩ := h3
      exact ⟨vs, as, e1, l1, eqLeaves_self he⟩
    have lf : ∀ u k, P.underlying t = some u → aggD u = false → some [k] = some ks → (∀ ms, u ≠ .interface ms) → (Instr.checkKey em (d + 1) t x).run P w = .ok () w := by
      intro u k hu hf hk hni
      obtain ⟨da, l1, he⟩ := leaf u k hu hf hk
      have : isSc x = true := by
        unfold eqLeaf at he
        split at he
        · exact (l1.inv_sc).1 ▸ (l1.inv_sc).2.1
        · exact (l1.inv_sc).1 ▸ (l1.inv_sc).2.1
        · exact (l1.inv_sc).1 ▸ (l1.inv_sc).2.1
        · cases he
      unfold Instr.checkKey
      simp only [Sem.run_bind, run_underlying hu, Result.andThen_ok]
      cases u <;> simp [aggD] at hf <;> cases x <;> simp [isSc] at this <;> first | rfl | exact absurd rfl (hni _)
    split at h
    · rename_i hu; exact lf _ _ hu rfl h (by simp)
    · rename_i kk hu; exact lf _ _ hu rfl h (by simp)
    · rename_i hu; exact lf _ _ hu rfl h (by simp)
    · rename_i fs hu
      split at h
      · obtain ⟨vs, as, rfl, lv, he⟩ := big _ hu rfl
        unfold Instr.checkKey
        simp only [Sem.run_bind, run_underlying hu, Result.andThen_ok]
        rw [← Array.forIn_toList]
        have key : ∀ (fl : List Field) (off : Nat) (ls : List Nat), leavesFs (leavesT P n) off fl = some ls → eqLeaves ls (as.drop off) (as.drop off) = some true →
            (forIn fl PUnit.unit (fun (f : Field) (r : PUnit) => do
              if f.name ≠ "_" then
                  do let y ← Go.part f.type ⟨vs⟩ f.offset; Instr.checkKey em d f.type y; pure (ForInStep.yield PUnit.unit)
                else pure (ForInStep.yield PUnit.unit)) : Sem PUnit).run P w = .ok () w := by
          intro fl
          induction fl with
          | nil => intro off ls hls hb; rfl
          | cons f fl ih =>
            intro off ls hls hb
            simp only [leavesFs] at hls
            split at hls
            · rename_i hf
              obtain ⟨hf1, hf2⟩ := hf
              obtain ⟨kf, hkf, hls⟩ := Option.bind_eq_some_iff.1 hls
              obtain ⟨l', hl', rfl⟩ := Option.map_eq_some_iff.1 hls
              obtain ⟨p, q, e1, e2, e3⟩ := eqLeaves_app hb
              obtain ⟨ag', g1, g2, g3⟩ := leavesT_size hkf
              rw [List.drop_drop] at e2
              obtain ⟨x', y', r1, r2, two⟩ := two_part g1 g2 g3 lv lv e1
              have hr := checkKey_plain em n f.type kf hkf d hd' g1 (two_self two)
              subst hf2
              have e2' := eqLeaves_self e2
              simp only [List.forIn_cons, Sem.run_bind, hf1, ne_eq, not_false_eq_true, if_true, Result.andThen_ok, r1, hr, Sem.run_pure]
              have := ih _ l' hl' e2'
              simpa using this
            · cases hls
        have := key fs.toList 0 ks h (by simpa using he)
        simp at this ⊢
        rw [this]; rfl
      · cases h
    · rename_i len e hu
      obtain ⟨ke, hke, rfl⟩ := Option.map_eq_some_iff.1 h
      obtain ⟨vs, as, rfl, lv, he⟩ := big _ hu rfl
      obtain ⟨ag', g1, g2, g3⟩ := leavesT_size hke
      unfold Instr.checkKey
      simp only [Sem.run_bind, run_underlying hu, Result.andThen_ok]
      simp only [Std.Legacy.Range.forIn_eq_forIn_range', Std.Legacy.Range.size, Nat.sub_zero, Nat.add_one_sub_one, Nat.div_one]
      have hso : (Go.sizeOf e).run P w = .ok ke.length w := run_sizeT g2
      have key : ∀ (m i : Nat), eqLeaves (List.replicate m ke).flatten (as.drop (i * ke.length)) (as.drop (i * ke.length)) = some true →
          (forIn (List.range' i m) PUnit.unit (fun (j : Nat) (r : PUnit) => do
              let s ← Go.sizeOf e
              let y ← Go.part e ⟨vs⟩ (j * s); Instr.checkKey em d e y; pure (ForInStep.yield PUnit.unit)) : Sem PUnit).run P w = .ok () w := by
        intro m
        induction m with
        | zero => intro i hb; rfl
        | succ m ih =>
          intro i hb
          rw [List.replicate_succ, List.flatten_cons] at hb
          obtain ⟨p, q, e1, e2, e3⟩ := eqLeaves_app hb
          rw [List.drop_drop] at e2
          obtain ⟨x', y', r1, r2, two⟩ := two_part g1 g2 g3 lv lv e1
          have hr := checkKey_plain em n e ke hke d hd' g1 (two_self two)
          rw [List.range'_succ]
          simp only [List.forIn_cons, Sem.run_bind, hso, Result.andThen_ok, r1, hr, Sem.run_pure]
          refine ih (i + 1) ?_
          rw [Nat.add_mul, Nat.one_mul]; exact eqLeaves_self e2
      have := key len 0 (by simpa using he)
      rw [this]; rfl
    · cases h

theorem sameNow_equal {t : TypeId} {d : TypeDesc} {x y : Value} {b : Bool} (hd : P.underlying t = some d) (h : Instr.sameNow d x y = some b) : (Op.equal t x y).run P w = .ok b w := by
  have e : ∀ n, (Op.equalIn (n + 1) t x y).run P w = .ok b w := by
    intro n
    unfold Instr.sameNow at h
    split at h
    · split at h
      · rename_i hk
        subst hk
        injection h with h; subst h
        simp only [Op.equalIn, Sem.run_bind, run_underlying hd, Result.andThen_ok, Sem.run_pure, if_true]
      · cases h
    · injection h with h; subst h
      simp only [Op.equalIn, Sem.run_bind, run_underlying hd, Result.andThen_ok, Sem.run_pure]
    · injection h with h; subst h
      simp only [Op.equalIn, Sem.run_bind, run_underlying hd, Result.andThen_ok, Sem.run_pure]
    · cases h
  exact e 9999
theorem findNow_asking {t : TypeId} {d : TypeDesc} {k : Value} (hd : P.underlying t = some d) : ∀ (es : List MapEntry) (i : Nat) (r : Option (Nat × Value)), Instr.findNow d k es i = some r → (Instr.findAsking t k es i).run P w = .ok r w
  | [], i, r, h => by simp [Instr.findNow] at h; subst h; simp [Instr.findAsking]
  | e :: es, i, r, h => by
    simp only [Instr.findNow] at h
    split at h
    · rename_i hs; injection h with h; subst h
      simp only [Instr.findAsking, Sem.run_bind, sameNow_equal hd hs, Result.andThen_ok, if_true, Sem.run_pure]
    · rename_i hs
      simp only [Instr.findAsking, Sem.run_bind, sameNow_equal hd hs, Result.andThen_ok, Bool.false_eq_true, if_false]
      exact findNow_asking hd es (i + 1) r h
    · cases h
theorem findKey_asking {t : TypeId} {d : TypeDesc} {k : Value} {es : List MapEntry} {r : Option (Nat × Value)} (hd : P.underlying t = some d) (h : (Instr.findAsking t k es).run P w = .ok r w) : (Instr.findKey t k es).run P w = .ok r w := by
  unfold Instr.findKey
  simp only [Sem.run_bind, run_underlying hd, Result.andThen_ok]
  cases hn : Instr.findNow d k es 0 with
  | none => simpa using h
  | some q =>
    have := findNow_asking (w := w) hd es 0 q hn
    rw [h] at this
    simp only [Sem.run_pure]
    exact this.symm
theorem asking {t : TypeId} {ks : List Nat} {ag : Bool} {k : Value} {dk : D} (hks : leavesT P 9 t = some ks) (hag : aggT P t = some ag) (l : LV fid w A ι true k dk []) : ∀ (es : List MapEntry) (kk : List D) (r : Option Nat) (i : Nat),
    LVs fid w A ι true (es.map (·.key)) kk [] → findK ag ks dk kk = some r →
    ∃ q, (Instr.findAsking t k es i).run P w = .ok q w ∧ (r = none → q = none) ∧ (∀ j, r = some j → ∃ e dj, es[j]? = some e ∧ q = some (i + j, e.val) ∧ kk[j]? = some dj ∧ eqK ag ks dk dj = some true)
  | [], kk, r, i, h, hr => by
    have := h.length_eq
    simp at this
    have : kk = [] := List.length_eq_zero_iff.1 this.symm
    subst this
    simp [findK] at hr
    subst hr
    exact ⟨none, by simp [Instr.findAsking], fun _ => rfl, by simp⟩
  | e :: es, [], r, i, h, hr => by cases h
  | e :: es, dj :: kk, r, i, h, hr => by
    simp only [List.map_cons] at h
    obtain ⟨le, ls⟩ := h.uncons
    simp only [findK] at hr
    obtain ⟨b, hb, hr⟩ := Option.bind_eq_some_iff.1 hr
    have hq := eqIn_plain (P := P) 9 t ks hks 10000 (by omega) hag (two_of l le hb)
    have hq' : (Op.equal t k e.key).run P w = .ok b w := hq
    cases b with
    | true =>
      simp only [if_true, Option.some.injEq] at hr
      subst hr
      refine ⟨some (i, e.val), ?_, by simp, ?_⟩
      · simp only [Instr.findAsking, Sem.run_bind, hq', Result.andThen_ok, if_true, Sem.run_pure]
      · intro j hj; injection hj with hj; subst hj
        exact ⟨e, dj, rfl, rfl, rfl, hb⟩
    | false =>
      simp only [Bool.false_eq_true, if_false] at hr
      obtain ⟨r', hr', rfl⟩ := Option.map_eq_some_iff.1 hr
      obtain ⟨q, q1, q2, q3⟩ := asking hks hag l es kk r' (i + 1) ls hr'
      refine ⟨q, ?_, ?_, ?_⟩
      · simp only [Instr.findAsking, Sem.run_bind, hq', Result.andThen_ok, Bool.false_eq_true, if_false]
        exact q1
      · intro hn; cases r' with | none => exact q2 rfl | some j => simp at hn
      · intro j hj
        cases r' with
        | none => simp at hj
        | some j' =>
          simp at hj
          subst hj
          obtain ⟨e', dj', f1, f2, f3, f4⟩ := q3 j' rfl
          exact ⟨e', dj', by simpa using f1, by rw [f2]; simp; omega, by simpa using f3, f4⟩
theorem sameLeaf {k : Nat} {n : Nat} {x y : Value} {da db : D} (lx : LV fid w A ι true x da []) (ly : LV fid w A ι true y db []) (h : eqLeaf k da db = some true) : Instr.sameBits n x y = true ∧ x = y := by
  unfold eqLeaf at h
  split at h
  · rw [lx.inv_bool.1, ly.inv_bool.1]; injection h with h; simp at h; subst h; cases n <;> simp [Instr.sameBits]
  · rw [lx.inv_int.1, ly.inv_int.1]
    split at h
    · rename_i hk; subst hk; injection h with h; simp at h; subst h; cases n <;> simp [Instr.sameBits]
    · cases h
  · rename_i a b
    rw [lx.inv_str.1, ly.inv_str.1]
    injection h with h
    simp only [beq_iff_eq] at h
    have : a = b := by
      obtain ⟨⟨a⟩⟩ := a; obtain ⟨⟨b⟩⟩ := b
      simp at h; subst h; rfl
    subst this
    cases n <;> simp [Instr.sameBits, MapKept.bytes_beq]
  · cases h
theorem sameLeaves {n : Nat} : ∀ {ks : List Nat} {xs ys : List Value} {as bs : List D}, LVs fid w A ι true xs as [] → LVs fid w A ι true ys bs [] → eqLeaves ks as bs = some true → xs.length = ys.length ∧ (xs.zip ys).all (fun p => Instr.sameBits n p.1 p.2) = true
  | [], xs, ys, as, bs, lx, ly, h => by
    obtain ⟨n1, n2⟩ := eqLeaves_len h
    have e1 := lx.length_eq
    have e2 := ly.length_eq
    simp only [List.length_nil] at n1 n2
    have hx : xs = [] := List.length_eq_zero_iff.1 (by omega)
    have hy : ys = [] := List.length_eq_zero_iff.1 (by omega)
    subst hx; subst hy
    simp
  | k :: ks, xs, ys, as, bs, lx, ly, h => by
    cases as with
    | nil => simp [eqLeaves] at h
    | cons a as =>
      cases bs with
      | nil => simp [eqLeaves] at h
      | cons b bs =>
        cases xs with
        | nil => cases lx
        | cons x xs =>
          cases ys with
          | nil => cases ly
          | cons y ys =>
            simp only [eqLeaves] at h
            obtain ⟨p, h1, h⟩ := Option.bind_eq_some_iff.1 h
            obtain ⟨q, h2, h3⟩ := Option.map_eq_some_iff.1 h
            simp only [Bool.and_eq_true] at h3
            obtain ⟨rfl, rfl⟩ := h3
            obtain ⟨i1, i2⟩ := sameLeaves (n := n) lx.uncons.2 ly.uncons.2 h2
            refine ⟨by simp [i1], ?_⟩
            simp only [List.zip_cons_cons, List.all_cons, Bool.and_eq_true]
            exact ⟨(sameLeaf lx.uncons.1 ly.uncons.1 h1).1, i2⟩
theorem sameKey {ag : Bool} {ks : List Nat} {x y : Value} {da db : D} (lx : LV fid w A ι true x da []) (ly : LV fid w A ι true y db []) (h : eqK ag ks da db = some true) : Instr.sameBits 10000 x y = true := by
  unfold eqK at h
  cases ag with
  | true =>
    simp only [if_true] at h
    split at h
    · rename_i as bs
      obtain ⟨vs, rfl, l1⟩ := lx.inv_agg
      obtain ⟨us, rfl, l2⟩ := ly.inv_agg
      obtain ⟨i1, i2⟩ := sameLeaves (n := 9999) l1 l2 h
      show Instr.sameBits (9999 + 1) _ _ = true
      unfold Instr.sameBits
      simp only [Bool.and_eq_true]
      exact ⟨by simpa using i1, i2⟩
    · cases h
  | false =>
    simp only [Bool.false_eq_true, if_false] at h
    cases ks with
    | nil => simp [eqLeaves] at h
    | cons k ks =>
      cases ks with
      | cons => simp [eqLeaves] at h
      | nil =>
        simp [eqLeaves] at h
        exact (sameLeaf lx ly h).1
theorem eqK_swap {ag : Bool} {ks : List Nat} {a b : D} (h : eqK ag ks a b = some true) : eqK ag ks b a = some true := by
  have leaf : ∀ {k a b}, eqLeaf k a b = some true → eqLeaf k b a = some true := by
    intro k a b h
    unfold eqLeaf at h ⊢
    split at h <;> simp_all
    all_goals split at h <;> simp_all
  have lv : ∀ {ks : List Nat} {as bs : List D}, eqLeaves ks as bs = some true → eqLeaves ks bs as = some true := by
    intro ks
    induction ks with
    | nil => intro as bs h; cases as <;> cases bs <;> simp [eqLeaves] at h ⊢
    | cons k ks ih =>
      intro as bs h
      cases as with
      | nil => simp [eqLeaves] at h
      | cons a as =>
        cases bs with
        | nil => simp [eqLeaves] at h
        | cons c bs =>
          simp only [eqLeaves] at h ⊢
          obtain ⟨p, h1, h⟩ := Option.bind_eq_some_iff.1 h
          obtain ⟨q, h2, h3⟩ := Option.map_eq_some_iff.1 h
          simp only [Bool.and_eq_true] at h3
          obtain ⟨rfl, rfl⟩ := h3
          rw [leaf h1, ih h2]; rfl
  unfold eqK at h ⊢
  cases ag with
  | true =>
    simp only [if_true] at h ⊢
    split at h
    · exact lv h
    · cases h
  | false =>
    simp only [Bool.false_eq_true, if_false] at h ⊢
    exact lv h
end
section
variable {P : Program} {num : FuncId → Option Nat} {fid : Nat → FuncId} (hnum : ∀ f g, num f = some g → fid g = f)
  {w : World} {A : Av} {ι : Io} {H : List Ob} {eo : List Nat} {a : Act} {E : Env} {own : Nat → List Nat} (hl : ∀ t, LV fid w A ι true (a.tmps.getD t undef) (lk E t) (own t)) (hob : ∀ i, ObjOK fid w A ι (ι i) (obAt H i)) {o : Oper} {d : D}
theorem x_mkm {t : TypeId} (ho : o.op = .makeMap t none) : Does P fid w A ι H eo a o (.omp [] []) none := by
  have K := Keep.alloc w A (.map #[] 0)
  refine ⟨_, .map (some w.heap.size), _, _, [w.heap.size], ?_, .inl rfl, XR.new K (.omp w.heap.size #[] 0 [] [] (alloc_heap_new w _) .nil .nil (fun off => .inr rfl)) (by simp) (by simp)⟩
  simp only [execOp, ho]
  refine run_v ?_
  simp [Instr.makeMap, newObj, Sem.run, Sem.run_bind]
theorem mapT_some {t k e : TypeId} (h : mapT P t = some (k, e)) : P.underlying t = some (.map k e) := by
  unfold mapT at h
  split at h
  · injection h with h; simp only [Prod.mk.injEq] at h; rw [← h.1, ← h.2]; assumption
  · cases h
include hob in
theorem mp_lv {v : Value} {O : List Nat} {id : Nat} {kk vv : List D} (h : LV fid w A ι true v (.mp id) O) (hH : H[id]? = some (.mpo kk vv)) : ∃ (b : Nat) (es : Array MapEntry) (c : Nat), v = .map (some b) ∧ ι id = some (some b) ∧ w.heap[b]? = some (.map es c) ∧
    LVs fid w A (fun _ => none) false (es.toList.map (·.key)) kk [] ∧ LVs fid w A (fun _ => none) false (es.toList.map (·.val)) vv [] ∧ ∀ off, A b off := by
  cases h with
  | mp _ b hi =>
    have := hob id
    rw [obAt_of hH, hi] at this
    obtain ⟨b', es, c, e, h1, h2, h3, h4⟩ := this
    injection e with e; injection e with e; subst e
    exact ⟨b, es, c, rfl, hi, h1, h2, h3, h4⟩
theorem LV.ro_true {v : Value} {d : D} (h : LV fid w A ι true v d []) (e : isRO d = true) : LV fid w A (fun _ => none) false v d [] := (h.ro e).weak
theorem Keep.setMap {w : World} {A : Av} {b : Nat} {es es' : Array MapEntry} {c c' : Nat} (hb : w.heap[b]? = some (.map es c)) : Keep w { w with heap := w.heap.setIfInBounds b (.map es' c') } A A (fun x => x = b) := by
  have ne : ∀ b', b' ≠ b → (w.heap.setIfInBounds b (.map es' c'))[b']? = w.heap[b']? := fun b' h => by
    rw [Array.getElem?_setIfInBounds, if_neg (by omega)]
  refine ⟨rfl, rfl, rfl, by simp, fun b' h _ => ne b' h, ?_, ?_, fun _ _ h => .inl h, fun _ _ _ _ h => h⟩
  · intro b' off v hA h
    obtain ⟨cs, T, fr, h1, h2⟩ := cell_some h
    have : b' ≠ b := by rintro rfl; rw [hb] at h1; cases h1
    exact cell_of (w := { w with heap := w.heap.setIfInBounds b (.map es' c') }) ((ne b' this).trans h1) h2
  · intro b' cs T fr h
    have : b' ≠ b := by rintro rfl; rw [hb] at h; cases h
    exact ⟨cs, fr, (ne b' this).trans h, rfl⟩
theorem zero1T_some {t : TypeId} {z : D} (hnum : ∀ f g, num f = some g → fid g = f) (h : zero1T P t = some z) : ∃ zv, (zeroValue t).run P w = .ok zv w ∧ LV fid w A ι true zv z [] := by
  unfold zero1T at h
  obtain ⟨v, hv, h⟩ := Option.bind_eq_some_iff.1 h
  obtain ⟨ti, hti, hzv⟩ := Option.bind_eq_some_iff.1 hv
  split at h
  · rename_i hc
    injection h with h; subst h
    refine ⟨v, by simp [zeroValue, typeInfo, hti, hzv, Sem.run_bind], lv_leaf hnum v ?_⟩
    cases v <;> simp_all [cell1, notAgg]
  · cases h
theorem desc_of {t : TypeId} {ag : Bool} (hag : aggT P t = some ag) : ∃ desc, P.underlying t = some desc := by
  unfold aggT at hag
  cases hh : P.underlying t with
  | none => rw [hh] at hag; simp at hag
  | some x => exact ⟨x, rfl⟩
include hnum hl hob in
theorem x_lkp {t kt et : TypeId} {m k : Operand} {ok ag : Bool} {ks : List Nat} {z : D} {id : Nat} {kk vv : List D} {r : Option Nat} (ho : o.op = .lookup t m k ok) (ht : mapT P t = some (kt, et)) (hks : leavesT P 9 kt = some ks) (hag : aggT P kt = some ag) (hz : zero1T P et = some z)
    (hm : okOpd m = true) (hk : okOpd k = true) (e1 : ov E (opd num m) = .mp id) (hH : H[id]? = some (.mpo kk vv)) (hn : noTree (ov E (opd num k)) = true) (hs : eqK ag ks (ov E (opd num k)) (ov E (opd num k)) = some true) (hr : findK ag ks (ov E (opd num k)) kk = some r)
    (hd : getK ok z vv r = some d) : Pure1 P fid w A ι a o d := by
  have km := lv_opd hnum hl m hm
  rw [e1] at km
  obtain ⟨b, es, c, em, hi, hb, lk, lx, hA⟩ := mp_lv hob km hH
  have kk' := lv_opd hnum hl k hk
  rw [kk'.noTree hn] at kk'
  have hu := mapT_some ht
  obtain ⟨desc, hdesc⟩ := desc_of hag
  obtain ⟨q, q1, q2, q3⟩ := asking hks hag kk' es.toList kk r 0 lk.weak hr
  have hfind := findKey_asking hdesc q1
  have hck := checkKey_plain (P := P) es.isEmpty 9 kt ks hks 10000 (by omega) hag (two_of kk' kk' hs)
  obtain ⟨zv, hzv, lz⟩ := zero1T_some (w := w) (A := A) (ι := ι) hnum hz
  have lt : ∀ b, LV fid w A ι true (.bool b) (.sc (.bool b)) [] := fun b => .sc _ rfl
  cases r with
  | none =>
    have := q2 rfl; subst this
    unfold getK at hd
    injection hd with hd; subst hd
    cases ok with
    | false =>
      refine ⟨zv, ?_, by simpa using lz⟩
      simp [execOp, ho, em, Instr.lookup, run_underlying hu, MapKept.run_getObj_map hb, hck, hfind, hzv, Sem.run_bind]
    | true =>
      refine ⟨.tuple #[zv, .bool false], ?_, .tup [zv, .bool false] _ [] (LVs.cons' lz (LVs.cons' (lt false) .nil))⟩
      simp [execOp, ho, em, Instr.lookup, run_underlying hu, MapKept.run_getObj_map hb, hck, hfind, hzv, Sem.run_bind]
  | some i =>
    obtain ⟨e, dj, f1, f2, f3, f4⟩ := q3 i rfl
    subst f2
    unfold getK at hd
    obtain ⟨dv, hdv, hd⟩ := Option.map_eq_some_iff.1 hd
    obtain ⟨v', hv', lv'⟩ := lx.get hdv
    have hve : v' = e.val := by
      rw [List.getElem?_map, f1] at hv'; simpa using hv'.symm
    subst hve
    subst hd
    cases ok with
    | false =>
      refine ⟨e.val, ?_, by simpa using lv'.weak⟩
      simp [execOp, ho, em, Instr.lookup, run_underlying hu, MapKept.run_getObj_map hb, hck, hfind, Sem.run_bind]
    | true =>
      refine ⟨.tuple #[e.val, .bool true], ?_, .tup [e.val, .bool true] _ [] (LVs.cons' lv'.weak (LVs.cons' (lt true) .nil))⟩
      simp [execOp, ho, em, Instr.lookup, run_underlying hu, MapKept.run_getObj_map hb, hck, hfind, Sem.run_bind]
theorem LVs.set {r : Bool} {vs : List Value} {ds : List D} (h : LVs fid w A ι r vs ds []) (i : Nat) {v : Value} {d : D} (l : LV fid w A ι r v d []) : LVs fid w A ι r (vs.set i v) (ds.set i d) [] := by
  induction vs generalizing ds i with
  | nil => cases ds with | nil => simp; exact .nil | cons => cases h
  | cons x vs ih =>
    cases ds with
    | nil => cases h
    | cons e ds =>
      cases i with
      | zero => exact LVs.cons' l h.uncons.2
      | succ i => exact LVs.cons' h.uncons.1 (ih h.uncons.2 i)
include hnum hl hob in
theorem x_mup {t kt et : TypeId} {m k v : Operand} {ag : Bool} {ks : List Nat} {id : Nat} {kk vv : List D} {r : Option Nat} (ho : o.op = .mapUpdate t m k v ∨ o.op = .insert t m k v) (ht : mapT P t = some (kt, et)) (hks : leavesT P 9 kt = some ks) (hag : aggT P kt = some ag)
    (hm : okOpd m = true) (hk : okOpd k = true) (hv : okOpd v = true) (e1 : ov E (opd num m) = .mp id) (hH : H[id]? = some (.mpo kk vv)) (hn : noTree (ov E (opd num k)) = true) (hnv : noTree (ov E (opd num v)) = true) (hro : isRO (ov E (opd num k)) = true) (hrov : isRO (ov E (opd num v)) = true)
    (hs : eqK ag ks (ov E (opd num k)) (ov E (opd num k)) = some true) (hr : findK ag ks (ov E (opd num k)) kk = some r) :
    Does P fid w A ι H eo a o .un (some (id, putK r kk vv (ov E (opd num k)) (ov E (opd num v)))) := by
  have km := lv_opd hnum hl m hm
  rw [e1] at km
  obtain ⟨b, es, c, em, hi, hb, lk, lx, hA⟩ := mp_lv hob km hH
  have kk' := lv_opd hnum hl k hk
  rw [kk'.noTree hn] at kk'
  have kv := lv_opd hnum hl v hv
  rw [kv.noTree hnv] at kv
  have hu := mapT_some ht
  obtain ⟨desc, hdesc⟩ := desc_of hag
  obtain ⟨q, q1, q2, q3⟩ := asking hks hag kk' es.toList kk r 0 lk.weak hr
  have hfind := findKey_asking hdesc q1
  have hck := checkKey_plain (P := P) false 9 kt ks hks 10000 (by omega) hag (two_of kk' kk' hs)
  have X : ∀ (es' : Array MapEntry) (c' : Nat) (kk2 vv2 : List D), LVs fid w A (fun _ => none) false (es'.toList.map (·.key)) kk2 [] → LVs fid w A (fun _ => none) false (es'.toList.map (·.val)) vv2 [] →
      XR fid w { w with heap := w.heap.setIfInBounds b (.map es' c') } A A ι H eo undef .un (some (id, .mpo kk2 vv2)) [] := by
    intro es' c' kk2 vv2 l1 l2
    have K := Keep.setMap (A := A) (es' := es') (c' := c') hb
    refine ⟨K.mono ?_, .un _, ?_, by simp, by simp⟩
    · rintro x rfl; exact .inr ⟨id, _, rfl, hi⟩
    · intro i o he
      injection he with he
      simp only [Prod.mk.injEq] at he
      obtain ⟨rfl, rfl⟩ := he
      refine ⟨⟨b, es', c', hi, ?_, LVs.keep K (fun _ _ e => e) l1 (by simp), LVs.keep K (fun _ _ e => e) l2 (by simp), hA⟩, lt_of_get hH, by rw [obAt_of hH]; rfl⟩
      show (w.heap.setIfInBounds b (.map es' c'))[b]? = _
      rw [Array.getElem?_setIfInBounds, if_pos rfl, if_pos (lt_of_heap hb)]
  cases r with
  | none =>
    have := q2 rfl; subst this
    refine ⟨_, undef, _, A, [], ?_, .inr ⟨rfl, rfl⟩, X (es.push { key := a.eval k, val := a.eval v, born := c }) (c + 1) _ _ ?_ ?_⟩
    · have hu' : (Instr.mapUpdate t (a.eval m) (a.eval k) (a.eval v)).run P w = .ok () { w with heap := w.heap.setIfInBounds b (.map (es.push { key := a.eval k, val := a.eval v, born := c }) (c + 1)) } := by
        simp [em, Instr.mapUpdate, run_underlying hu, MapKept.run_getObj_map hb, hck, hfind, MapKept.run_setObj_map _ hb, Sem.run_bind]
      rcases ho with ho | ho <;> (simp only [execOp, ho]; exact run_u hu')
    · simpa using LVs.append lk (LVs.cons' (LV.ro_true kk' hro) .nil)
    · simpa using LVs.append lx (LVs.cons' (LV.ro_true kv hrov) .nil)
  | some i =>
    obtain ⟨e, dj, f1, f2, f3, f4⟩ := q3 i rfl
    subst f2
    obtain ⟨v', hv', lv'⟩ := lk.get f3
    have hve : v' = e.key := by
      rw [List.getElem?_map, f1] at hv'; simpa using hv'.symm
    subst hve
    have hsame := sameKey lv'.weak kk' (eqK_swap f4)
    have hst : (Instr.keyThatStays e.key (a.eval k)).run P w = .ok (a.eval k) w := by simp [Instr.keyThatStays, hsame]
    have hei : es[i]? = some e := by simpa using f1
    refine ⟨_, undef, _, A, [], ?_, .inr ⟨rfl, rfl⟩, X (es.modify i fun x => { x with key := a.eval k, val := a.eval v }) c _ _ ?_ ?_⟩
    · have hu' : (Instr.mapUpdate t (a.eval m) (a.eval k) (a.eval v)).run P w = .ok () { w with heap := w.heap.setIfInBounds b (.map (es.modify i fun x => { x with key := a.eval k, val := a.eval v }) c) } := by
        simp [em, Instr.mapUpdate, run_underlying hu, MapKept.run_getObj_map hb, hck, hfind, hei, hst, MapKept.run_setObj_map _ hb, Sem.run_bind]
      rcases ho with ho | ho <;> (simp only [execOp, ho]; exact run_u hu')
    · have : (es.modify i fun x => { x with key := a.eval k, val := a.eval v }).toList.map (·.key) = (es.toList.map (·.key)).set i (a.eval k) := by
        apply List.ext_getElem?
        intro j
        simp only [Array.toList_modify, List.getElem?_map, List.getElem?_modify, List.getElem?_set]
        by_cases hij : i = j
        · subst hij
          have : i < es.toList.length := by have := (List.getElem?_eq_some_iff.1 f1).1; exact this
          simp [f1, this]
          simpa using this
        · simp [hij]
      rw [this]
      exact lk.set i (LV.ro_true kk' hro)
    · have : (es.modify i fun x => { x with key := a.eval k, val := a.eval v }).toList.map (·.val) = (es.toList.map (·.val)).set i (a.eval v) := by
        apply List.ext_getElem?
        intro j
        simp only [Array.toList_modify, List.getElem?_map, List.getElem?_modify, List.getElem?_set]
        by_cases hij : i = j
        · subst hij
          have : i < es.toList.length := by have := (List.getElem?_eq_some_iff.1 f1).1; exact this
          simp [f1, this]
          simpa using this
        · simp [hij]
      rw [this]
      exact lx.set i (LV.ro_true kv hrov)
end
end Lg
