import Derived.Test.YtadipapkdjcnbaaGreatLgE2
import Derived.Test.YtadipapkdjcnbaaGreatLgT0
import Derived.Lib.RuneBytes
/-
  grid.Text: its contract, told over data.
-/
namespace Lg
open Go Go.RowKit
set_option linter.unusedVariables false
set_option linter.unusedSimpArgs false
set_option linter.unusedSectionVars false
def celOf : D → Option Cel
  | .agg [.sc (.int .i32 r), .sc (.int .i64 k), .sc (.int .i64 f), .sc (.int .i64 b), .sc (.int .i64 g)] => if -2147483648 ≤ r ∧ r ≤ 2147483647 then some ⟨r, k, ⟨f, b, g⟩⟩ else none
  | _ => none
def celsOf : List D → Option (List Cel)
  | [] => some []
  | d :: ds => (celOf d).bind fun c => (celsOf ds).map fun l => c :: l
def okRune (c : Cel) : Prop := -2147483648 ≤ c.r ∧ c.r ≤ 2147483647
theorem celOf_some {d : D} {c : Cel} (h : celOf d = some c) : d = celD c ∧ okRune c := by
  unfold celOf at h
  split at h
  · split at h
    · rename_i h0
      simp only [Option.some.injEq] at h
      subst h
      exact ⟨rfl, h0⟩
    · cases h
  · cases h
theorem celsOf_some : ∀ {ds : List D} {l : List Cel}, celsOf ds = some l → ds = celsD l ∧ ∀ c, c ∈ l → okRune c
  | [], l, h => by simp [celsOf] at h; subst h; exact ⟨rfl, by simp⟩
  | d :: ds, l, h => by
    unfold celsOf at h
    obtain ⟨c, hc, h⟩ := Option.bind_eq_some_iff.1 h
    obtain ⟨k, hk, rfl⟩ := Option.map_eq_some_iff.1 h
    obtain ⟨rfl, hr⟩ := celOf_some hc
    obtain ⟨rfl, hs⟩ := celsOf_some hk
    refine ⟨rfl, fun x hx => ?_⟩
    rcases List.mem_cons.1 hx with rfl | hx
    · exact hr
    · exact hs x hx
theorem celsOf_celsD : ∀ {l : List Cel}, (∀ c, c ∈ l → okRune c) → celsOf (celsD l) = some l
  | [], _ => rfl
  | c :: l, h => by
    have h1 : celOf (celD c) = some c := by simp only [celOf, if_pos (show -2147483648 ≤ c.r ∧ c.r ≤ 2147483647 from h c (by simp))]
    have h2 : celsD (c :: l) = celD c :: celsD l := rfl
    rw [h2]
    unfold celsOf
    rw [h1, celsOf_celsD (fun x hx => h x (by simp [hx]))]
    rfl
def textL (l : List Cel) : List UInt8 := l.flatMap fun c => if c.k = 2 then [] else Lib.encodeRune c.r
def textM : List D → Option (D × List D)
  | [.agg [.sc (.int .i64 rows), .sc (.int .i64 cols), .sl sz ds], .sc (.int .i64 r)] => (celsOf ds).bind fun l =>
      if sz = 5 ∧ 0 ≤ r ∧ r < rows ∧ 0 < cols ∧ (r.toNat + 1) * cols.toNat ≤ l.length ∧ l.length ≤ 100000 ∧ rows ≤ 10000 ∧ cols ≤ 10000 then some (S (textL ((l.drop (r.toNat * cols.toNat)).take cols.toNat)), []) else none
  | _ => none
def CelsAt (w : World) (b o : Nat) (l : List Cel) : Prop := ∀ (j : Nat) (c : Cel), l[j]? = some c → (-2147483648 ≤ c.r ∧ c.r ≤ 2147483647) ∧ w.cell? ⟨b, o + j * 5, none⟩ = some (.int .i32 c.r) ∧ w.cell? ⟨b, o + j * 5 + 1, none⟩ = some (.int .i64 c.k) ∧
  w.cell? ⟨b, o + j * 5 + 2, none⟩ = some (.int .i64 c.p.f) ∧ w.cell? ⟨b, o + j * 5 + 3, none⟩ = some (.int .i64 c.p.b) ∧ w.cell? ⟨b, o + j * 5 + 4, none⟩ = some (.int .i64 c.p.g)
theorem flat_cels (l : List Cel) : flat (celsD l) = l.flatMap fun c => [R c.r, I c.k, I c.p.f, I c.p.b, I c.p.g] := by
  induction l with
  | nil => rfl
  | cons c l ih => unfold flat celsD at ih ⊢; simp only [List.map_cons, List.flatMap_cons, ih]; rfl
theorem flatC_get (l : List Cel) (j i : Nat) (hi : i < 5) (c : Cel) (h : l[j]? = some c) : (l.flatMap fun c => ([R c.r, I c.k, I c.p.f, I c.p.b, I c.p.g] : List D))[j * 5 + i]? = [R c.r, I c.k, I c.p.f, I c.p.b, I c.p.g][i]? := by
  induction l generalizing j with
  | nil => simp at h
  | cons x l ih =>
    rw [List.flatMap_cons]
    cases j with
    | zero =>
      simp only [List.getElem?_cons_zero, Option.some.injEq] at h
      subst h
      rw [List.getElem?_append_left (by simpa using hi)]
      simp
    | succ j =>
      rw [List.getElem?_append_right (by simp; omega)]
      have e : (j + 1) * 5 + i - [R x.r, I x.k, I x.p.f, I x.p.b, I x.p.g].length = j * 5 + i := by simp; omega
      rw [e]
      exact ih j (by simpa using h)
theorem text_sound {P : Program} {fid : Nat → FuncId} {f : FuncId}
    (h : ∀ (rows cols r : Nat) (b o n cap : Nat) (l : List Cel) (w : World), r < rows → 0 < cols → l.length = cols → (r + 1) * cols ≤ n → n ≤ cap → n ≤ 100000 → rows ≤ 10000 → cols ≤ 10000 → CelsAt w b (o + r * cols * 5) l →
      Calls P f #[.agg #[.int .i64 rows, .int .i64 cols, .slice (some ⟨b, o, none⟩) n cap], .int .i64 r] w fun e w' => e = .returned (.string ⟨(textL l).toArray⟩) ∧ Below w.heap.size w w') :
    SoundFn P fid f textM := by
  intro ds r outs hm w A vs O l nd hal
  unfold textM at hm
  split at hm
  case h_2 => cases hm
  rename_i rows cols sz es rr
  obtain ⟨cs, hcs, hm⟩ := Option.bind_eq_some_iff.1 hm
  split at hm
  case isFalse => cases hm
  rename_i hc
  obtain ⟨hsz, h0, h1, h2, h3, h4, h5, h6⟩ := hc
  simp only [Option.some.injEq, Prod.mk.injEq] at hm
  obtain ⟨rfl, rfl⟩ := hm
  subst hsz
  obtain ⟨rfl, hok⟩ := celsOf_some hcs
  cases l with
  | cons v _ O1 vs _ O2 lv l2 =>
    cases l2 with
    | cons v2 _ O3 vs2 _ O4 lv2 l3 =>
      cases l3
      obtain ⟨rfl, rfl⟩ := lv2.inv_int
      obtain ⟨us, rfl, lu⟩ := lv.inv_agg
      cases lu with
      | cons u0 _ Oa us _ Ob lu0 lu =>
      cases lu with
      | cons u1 _ Oc us _ Od lu1 lu =>
      cases lu with
      | cons u2 _ Oe us _ Of lu2 lu =>
      cases lu
      obtain ⟨rfl, rfl⟩ := lu0.inv_int
      obtain ⟨rfl, rfl⟩ := lu1.inv_int
      obtain ⟨a, cap, us, rfl, rfl, hcap, _, hl, _, hr⟩ := lu2.inv_sl
      rw [flat_cels] at hl
      have hcell : ∀ (j i : Nat) (c : Cel) (d : D), i < 5 → cs[j]? = some c → [R c.r, I c.k, I c.p.f, I c.p.b, I c.p.g][i]? = some d → ∃ ad u, a = some ad ∧ w.cell? (ad.add (j * 5 + i)) = some u ∧ LV fid w A (fun _ => none) false u d [] := by
        intro j i c d hi hj hd
        obtain ⟨u, hu, lu⟩ := hl.get (k := j * 5 + i) (by rw [flatC_get cs j i hi c hj]; exact hd)
        obtain ⟨ad, e, _, hc⟩ := hr _ _ hu
        exact ⟨ad, u, e, hc, lu⟩
      have hpos : 0 < cs.length := by
        have : 1 * 1 ≤ (rr.toNat + 1) * cols.toNat := Nat.mul_le_mul (by omega) (by omega)
        omega
      obtain ⟨c0, hc0⟩ : ∃ c, cs[0]? = some c := ⟨_, List.getElem?_eq_getElem hpos⟩
      obtain ⟨⟨b, o, sp⟩, u, rfl, hcu, _⟩ := hcell 0 0 c0 _ (by omega) hc0 rfl
      have hsp : sp = none := by
        cases sp with
        | none => rfl
        | some s =>
          exfalso
          unfold Addr.add at hcu
          simp only [Nat.zero_mul, Nat.zero_add, if_true] at hcu
          unfold World.cell? at hcu
          split at hcu <;> simp at hcu
      subst hsp
      have hrow : ((rr.toNat : Nat) : Int) = rr := by omega
      have hrows : ((rows.toNat : Nat) : Int) = rows := by omega
      have hcols : ((cols.toNat : Nat) : Int) = cols := by omega
      have hlen : ((cs.drop (rr.toNat * cols.toNat)).take cols.toNat).length = cols.toNat := by
        have : (rr.toNat + 1) * cols.toNat = rr.toNat * cols.toNat + cols.toNat := by rw [Nat.add_mul]; omega
        rw [List.length_take, List.length_drop]
        omega
      have main := h rows.toNat cols.toNat rr.toNat b o cs.length cap ((cs.drop (rr.toNat * cols.toNat)).take cols.toNat) w (by omega) (by omega) hlen h3 (by simpa using hcap) h4 (by omega) (by omega) (by
        intro j c hj
        have hj' : cs[rr.toNat * cols.toNat + j]? = some c := by
          rw [List.getElem?_take] at hj
          split at hj
          · rw [List.getElem?_drop] at hj
            exact hj
          · cases hj
        have hmem := hok c (List.mem_of_getElem? hj')
        have g := fun i d hi hd => hcell (rr.toNat * cols.toNat + j) i c d hi hj' hd
        have e : ∀ i, o + rr.toNat * cols.toNat * 5 + j * 5 + i = o + ((rr.toNat * cols.toNat + j) * 5 + i) := by intro i; rw [Nat.add_mul]; omega
        have pick : ∀ (i : Nat) (d : D), i < 5 → [R c.r, I c.k, I c.p.f, I c.p.b, I c.p.g][i]? = some d → ∃ u, w.cell? ⟨b, o + rr.toNat * cols.toNat * 5 + j * 5 + i, none⟩ = some u ∧ LV fid w A (fun _ => none) false u d [] := by
          intro i d hi hd
          obtain ⟨ad, u, e1, e2, e3⟩ := g i d hi hd
          injection e1 with e1
          subst e1
          rw [addr_add] at e2
          exact ⟨u, by rw [e i]; exact e2, e3⟩
        obtain ⟨u0, p0, q0⟩ := pick 0 _ (by omega) rfl
        obtain ⟨u1, p1, q1⟩ := pick 1 _ (by omega) rfl
        obtain ⟨u2, p2, q2⟩ := pick 2 _ (by omega) rfl
        obtain ⟨u3, p3, q3⟩ := pick 3 _ (by omega) rfl
        obtain ⟨u4, p4, q4⟩ := pick 4 _ (by omega) rfl
        rw [q0.inv_int.1] at p0
        rw [q1.inv_int.1] at p1
        rw [q2.inv_int.1] at p2
        rw [q3.inv_int.1] at p3
        rw [q4.inv_int.1] at p4
        exact ⟨hmem, p0, p1, p2, p3, p4⟩)
      rw [hrow, hrows, hcols] at main
      have hn : (celsD cs).length = cs.length := celsD_len cs
      rw [hn]
      refine Calls.mono main fun e w' he => ?_
      obtain ⟨rfl, hb⟩ := he
      exact ⟨_, A, [], rfl, keep_below A _ hb hal, LVs.cons' (.sc _ rfl) .nil, List.nodup_nil, by simp⟩
end Lg
