import Derived.Test.YtadipapkdjcnbaaGreatLgQu
/-
  What is made of numbers: any event.
-/
namespace Go.Proofs.YtadipapkdjcnbaaGreat.LgTab
open Go Lg
set_option linter.unusedVariables false
set_option linter.unusedSimpArgs false
set_option maxRecDepth 8000
/-- What comes is an event. -/
def GoodE (o : Option (D × List D)) : Prop := ∃ e : Ev, o = some (evD e, []) ∧ (∀ n, n ∈ e.par → -1 ≤ n ∧ n ≤ 60) ∧ e.par.length ≤ 5
theorem good_sn (kind rune priv inter fin : Int) (text : List UInt8) : GoodE (some (.agg [I kind, R rune, U priv, U inter, U fin, .sn, .sc (.string ⟨⟨text⟩⟩)], [])) := ⟨⟨kind, rune, priv, inter, fin, none, text⟩, rfl, by intro n hn; exact absurd hn (List.not_mem_nil), Nat.zero_le _⟩
theorem good_sl (kind rune priv inter fin : Int) (text : List UInt8) (l : List Int) (hl : (∀ n, n ∈ l → -1 ≤ n ∧ n ≤ 60) ∧ l.length ≤ 5) : GoodE (some (.agg [I kind, R rune, U priv, U inter, U fin, .sl 1 (l.map I), .sc (.string ⟨⟨text⟩⟩)], [])) := ⟨⟨kind, rune, priv, inter, fin, some l, text⟩, rfl, hl⟩
theorem bytesOf_U : ∀ l : List Int, (∀ n, n ∈ l → 0 ≤ n ∧ n < 256) → ∃ bs, bytesOfD (l.map U) = some bs
  | [], _ => ⟨[], rfl⟩
  | n :: l, h => by
    obtain ⟨bs, hb⟩ := bytesOf_U l (fun x hx => h x (by simp [hx]))
    have h1 := h n (by simp)
    exact ⟨UInt8.ofNat n.toNat :: bs, by simp [bytesOfD, u8OfD, hb, h1]⟩
theorem lit_get {α : Type} (l : List α) (w : Int) (h : 0 ≤ w) (h2 : w.toNat < l.length) : ∃ x, l[w.toNat]? = some x := ⟨l[w.toNat], List.getElem?_eq_getElem h2⟩
end Go.Proofs.YtadipapkdjcnbaaGreat.LgTab
