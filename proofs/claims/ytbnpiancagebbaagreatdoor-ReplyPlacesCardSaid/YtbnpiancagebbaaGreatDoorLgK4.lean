import Derived.Test.YtbnpiancagebbaaGreatDoorLgK3
import Derived.Test.YtbnpiancagebbaaGreatDoorLgY2c
/-
  ReplyPlaces: its law.
-/
namespace Go.Proofs.YtbnpiancagebbaaGreatDoor.LgTab
open Go Lg
set_option linter.unusedVariables false
set_option linter.unusedSimpArgs false
set_option maxRecDepth 8000
theorem sp199 (k : Nat) : evFun (clOf (modsR tab (k + 10)) 3) s199 [] = some (B true, []) := by kernel_rfl
structure BndS (s : Sc) : Prop where
  h : 1 ≤ s.h ∧ s.h ≤ 5
  w : 1 ≤ s.w ∧ s.w ≤ 9
  row : 0 ≤ s.row ∧ s.row ≤ 4
  col : 0 ≤ s.col ∧ s.col ≤ 8
  top : 0 ≤ s.top ∧ s.top ≤ 3
theorem BndS.at {s : Sc} (b : BndS s) (r c : Int) : BndS (atM s r c) := by
  obtain ⟨h, w, b1, b2, b3⟩ := b
  refine ⟨h, w, ?_, ?_, b3⟩
  all_goals (simp only [atM, mxI, mnI]; repeat' split)
  all_goals omega
theorem BndS.home {s : Sc} (b : BndS s) : BndS (homeM s) := by
  unfold homeM
  split <;> exact b.at _ _
theorem BndS.set {s : Sc} (b : BndS s) (n : Int) (on : Bool) : BndS (setM s n on) := by
  unfold setM
  repeat' split
  · exact ⟨b.h, b.w, b.row, b.col, b.top⟩
  · exact BndS.home ⟨b.h, b.w, b.row, b.col, b.top⟩
  · exact ⟨b.h, b.w, b.row, b.col, b.top⟩
  · exact ⟨b.h, b.w, b.row, b.col, b.top⟩
  · exact b
theorem stB_set (s : Sc) (n : Int) (hn : n = 1 ∨ n = 6 ∨ n = 7 ∨ n = 25) (on : Bool) : stB8 n (setM s n on) = if on then 49 else 50 := by
  rcases hn with rfl | rfl | rfl | rfl <;> cases on <;> simp [stB8, repM, setM, homeM, atM]
theorem par_one (n : Int) (h : 0 ≤ n ∧ n ≤ 60) : ParAt (.sl 1 [I n]) n := by
  refine .inr (.inr ⟨n, [], rfl, by omega, ?_⟩)
  rw [if_neg (by omega)]
theorem place_round (k : Nat) (s : Sc) (o : OkS s) (b : BndS s) (n : Int) (hn : n = 1 ∨ n = 6 ∨ n = 7 ∨ n = 25) (on : Bool) : ∃ (t : Sc) (L N : List UInt8) (T : List D),
    evFun (clOf (modsR tab (k + 10)) 3) s400 [encS s, .agg [I 4, R 0, U 63, U 0, U (if on then 104 else 108), .sl 1 [I n], S []]] = some (encS t, []) ∧
    evFun (clOf (modsR tab (k + 10)) 3) s356 [encS t, .agg [I 4, R 0, U 63, U 36, U 112, .sl 1 [I n], S []]] = some (.osl true 1 T, []) ∧ plains T = true ∧ bytesOfD T = some L ∧
    evFun (clOf (modsR tab (k + 10)) 3) s176 [I n] = some (S N, []) ∧
    binD .add (S [27, 91, 63]) (S N) = some (S (27 :: 91 :: 63 :: N)) ∧ binD .add (S (27 :: 91 :: 63 :: N)) (S [59]) = some (S (27 :: 91 :: 63 :: (N ++ [59]))) ∧
    binD .add (S (27 :: 91 :: 63 :: (N ++ [59]))) (S [if on then 49 else 50]) = some (S (27 :: 91 :: 63 :: (N ++ [59, if on then 49 else 50]))) ∧
    binD .add (S (27 :: 91 :: 63 :: (N ++ [59, if on then 49 else 50]))) (S [36, 121]) = some (S L) ∧ binD .neq (S L) (S L) = some (B false) ∧
    evFun (clOf (modsR tab (k + 10)) 3) s400 [encS t, .agg [I 4, R 0, U 63, U 36, U 112, .sl 1 [I n], S []]] = some (encS t, []) ∧
    evFun (clOf (modsR tab (k + 10)) 3) s177 [encS t, encS t] = some (B true, []) := by
  have hb : 0 ≤ n ∧ n ≤ 60 := by omega
  have bt := b.set n on
  have ot := o.set n on
  have l1 := numU_len n.toNat
  have hst := stB_set s n hn on
  have c := sp400c (k + 3) s (setM s n on) o 0 63 0 (if on then 104 else 108) (some [n]) [] (by
    cases on
    · exact sp405f (k + 3) s o 4 0 [n] (by simp) []
    · exact sp405t (k + 3) s o 4 0 [n] (by simp) [])
  have q := sp400c (k + 3) (setM s n on) (setM s n on) ot 0 63 36 112 (some [n]) [] (sp405i (k + 3) _ 4 0 63 36 112 (some [n]) [] (by omega))
  have w := sp356 (k + 2) (setM s n on) bt.row bt.col bt.top 4 0 63 36 112 (.sl 1 [I n]) [] n (par_one n hb)
  have wh : whatI 4 63 36 112 n = 4 := rfl
  rw [wh, hst] at w
  have m := sp176 (k + 8) n.toNat (by omega)
  rw [show ((n.toNat : Nat) : Int) = n by omega] at m
  refine ⟨setM s n on, 27 :: 91 :: 63 :: (numU n.toNat ++ [59, if on then 49 else 50, 36, 121]), numU n.toNat, _, c, w, plains_u8 _, ?_, m, cat_ok _ _ _ (by simp; omega) rfl, cat_ok _ _ _ (by simp; omega) (by simp), cat_ok _ _ _ (by simp; omega) (by simp), cat_ok _ _ _ (by simp; omega) (by simp), ?_, q, sp177 (k + 9) _ ot⟩
  · exact bytesOf_u8 _
  · simp [binD, binS]
/-- What is told of the cursor's place. -/
theorem place_ask (k : Nat) (s : Sc) (b : BndS s) : ∃ T, 
    evFun (clOf (modsR tab (k + 10)) 3) s356 [encS s, .agg [I 4, R 0, U 0, U 0, U 110, .sl 1 [I 6], S []]] = some (.osl true 1 T, []) ∧ plains T = true ∧ bytesOfD T = some (27 :: 91 :: (numU ((rowM s).toNat + 1) ++ 59 :: (numU (s.col.toNat + 1) ++ [82]))) := by
  have w := sp356 (k + 2) s b.row b.col b.top 4 0 0 0 110 (.sl 1 [I 6]) [] 6 (par_one 6 (by omega))
  have wh : whatI 4 0 0 110 6 = 2 := rfl
  rw [wh] at w
  exact ⟨_, w, plains_u8 _, bytesOf_u8 _⟩
end Go.Proofs.YtbnpiancagebbaaGreatDoor.LgTab
