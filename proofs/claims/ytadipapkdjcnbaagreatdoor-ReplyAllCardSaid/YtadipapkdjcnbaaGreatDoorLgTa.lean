import Derived.Test.YtadipapkdjcnbaaGreatDoorLgTab
import Derived.Test.YtadipapkdjcnbaaGreatDoorLgT0
/-
  Numbers in decimals, parameters compared and copied.
-/
namespace Go.Proofs.YtadipapkdjcnbaaGreatDoor.LgTab
open Go Lg
set_option linter.unusedVariables false
set_option linter.unusedSimpArgs false
set_option maxRecDepth 8000
def numU (n : Nat) : List UInt8 := if n < 10 then [UInt8.ofNat (48 + n)] else [UInt8.ofNat (48 + n / 10), UInt8.ofNat (48 + n % 10)]
theorem numU_len (n : Nat) : 1 ≤ (numU n).length ∧ (numU n).length ≤ 2 := by
  unfold numU
  split <;> simp
/-- The bytes of a text. -/
def bytesD (l : List UInt8) : List D := l.map fun b => .sc (.int .u8 (b.toNat : Int))
theorem sp466 (k : Nat) (n : Nat) (h : n < 100) : evFun (clOf (modsR tab (k + 6)) 3) s466 [I (n : Int)] = some (S (numU n), []) := by
  by_cases h0 : n = 0
  · subst h0; kernel_rfl
  by_cases h1 : n = 1
  · subst h1; kernel_rfl
  by_cases h2 : n = 2
  · subst h2; kernel_rfl
  by_cases h3 : n = 3
  · subst h3; kernel_rfl
  by_cases h4 : n = 4
  · subst h4; kernel_rfl
  by_cases h5 : n = 5
  · subst h5; kernel_rfl
  by_cases h6 : n = 6
  · subst h6; kernel_rfl
  by_cases h7 : n = 7
  · subst h7; kernel_rfl
  by_cases h8 : n = 8
  · subst h8; kernel_rfl
  by_cases h9 : n = 9
  · subst h9; kernel_rfl
  by_cases h10 : n = 10
  · subst h10; kernel_rfl
  by_cases h11 : n = 11
  · subst h11; kernel_rfl
  by_cases h12 : n = 12
  · subst h12; kernel_rfl
  by_cases h13 : n = 13
  · subst h13; kernel_rfl
  by_cases h14 : n = 14
  · subst h14; kernel_rfl
  by_cases h15 : n = 15
  · subst h15; kernel_rfl
  by_cases h16 : n = 16
  · subst h16; kernel_rfl
  by_cases h17 : n = 17
  · subst h17; kernel_rfl
  by_cases h18 : n = 18
  · subst h18; kernel_rfl
  by_cases h19 : n = 19
  · subst h19; kernel_rfl
  by_cases h20 : n = 20
  · subst h20; kernel_rfl
  by_cases h21 : n = 21
  · subst h21; kernel_rfl
  by_cases h22 : n = 22
  · subst h22; kernel_rfl
  by_cases h23 : n = 23
  · subst h23; kernel_rfl
  by_cases h24 : n = 24
  · subst h24; kernel_rfl
  by_cases h25 : n = 25
  · subst h25; kernel_rfl
  by_cases h26 : n = 26
  · subst h26; kernel_rfl
  by_cases h27 : n = 27
  · subst h27; kernel_rfl
  by_cases h28 : n = 28
  · subst h28; kernel_rfl
  by_cases h29 : n = 29
  · subst h29; kernel_rfl
  by_cases h30 : n = 30
  · subst h30; kernel_rfl
  by_cases h31 : n = 31
  · subst h31; kernel_rfl
  by_cases h32 : n = 32
  · subst h32; kernel_rfl
  by_cases h33 : n = 33
  · subst h33; kernel_rfl
  by_cases h34 : n = 34
  · subst h34; kernel_rfl
  by_cases h35 : n = 35
  · subst h35; kernel_rfl
  by_cases h36 : n = 36
  · subst h36; kernel_rfl
  by_cases h37 : n = 37
  · subst h37; kernel_rfl
  by_cases h38 : n = 38
  · subst h38; kernel_rfl
  by_cases h39 : n = 39
  · subst h39; kernel_rfl
  by_cases h40 : n = 40
  · subst h40; kernel_rfl
  by_cases h41 : n = 41
  · subst h41; kernel_rfl
  by_cases h42 : n = 42
  · subst h42; kernel_rfl
  by_cases h43 : n = 43
  · subst h43; kernel_rfl
  by_cases h44 : n = 44
  · subst h44; kernel_rfl
  by_cases h45 : n = 45
  · subst h45; kernel_rfl
  by_cases h46 : n = 46
  · subst h46; kernel_rfl
  by_cases h47 : n = 47
  · subst h47; kernel_rfl
  by_cases h48 : n = 48
  · subst h48; kernel_rfl
  by_cases h49 : n = 49
  · subst h49; kernel_rfl
  by_cases h50 : n = 50
  · subst h50; kernel_rfl
  by_cases h51 : n = 51
  · subst h51; kernel_rfl
  by_cases h52 : n = 52
  · subst h52; kernel_rfl
  by_cases h53 : n = 53
  · subst h53; kernel_rfl
  by_cases h54 : n = 54
  · subst h54; kernel_rfl
  by_cases h55 : n = 55
  · subst h55; kernel_rfl
  by_cases h56 : n = 56
  · subst h56; kernel_rfl
  by_cases h57 : n = 57
  · subst h57; kernel_rfl
  by_cases h58 : n = 58
  · subst h58; kernel_rfl
  by_cases h59 : n = 59
  · subst h59; kernel_rfl
  by_cases h60 : n = 60
  · subst h60; kernel_rfl
  by_cases h61 : n = 61
  · subst h61; kernel_rfl
  by_cases h62 : n = 62
  · subst h62; kernel_rfl
  by_cases h63 : n = 63
  · subst h63; kernel_rfl
  by_cases h64 : n = 64
  · subst h64; kernel_rfl
  by_cases h65 : n = 65
  · subst h65; kernel_rfl
  by_cases h66 : n = 66
  · subst h66; kernel_rfl
  by_cases h67 : n = 67
  · subst h67; kernel_rfl
  by_cases h68 : n = 68
  · subst h68; kernel_rfl
  by_cases h69 : n = 69
  · subst h69; kernel_rfl
  by_cases h70 : n = 70
  · subst h70; kernel_rfl
  by_cases h71 : n = 71
  · subst h71; kernel_rfl
  by_cases h72 : n = 72
  · subst h72; kernel_rfl
  by_cases h73 : n = 73
  · subst h73; kernel_rfl
  by_cases h74 : n = 74
  · subst h74; kernel_rfl
  by_cases h75 : n = 75
  · subst h75; kernel_rfl
  by_cases h76 : n = 76
  · subst h76; kernel_rfl
  by_cases h77 : n = 77
  · subst h77; kernel_rfl
  by_cases h78 : n = 78
  · subst h78; kernel_rfl
  by_cases h79 : n = 79
  · subst h79; kernel_rfl
  by_cases h80 : n = 80
  · subst h80; kernel_rfl
  by_cases h81 : n = 81
  · subst h81; kernel_rfl
  by_cases h82 : n = 82
  · subst h82; kernel_rfl
  by_cases h83 : n = 83
  · subst h83; kernel_rfl
  by_cases h84 : n = 84
  · subst h84; kernel_rfl
  by_cases h85 : n = 85
  · subst h85; kernel_rfl
  by_cases h86 : n = 86
  · subst h86; kernel_rfl
  by_cases h87 : n = 87
  · subst h87; kernel_rfl
  by_cases h88 : n = 88
  · subst h88; kernel_rfl
  by_cases h89 : n = 89
  · subst h89; kernel_rfl
  by_cases h90 : n = 90
  · subst h90; kernel_rfl
  by_cases h91 : n = 91
  · subst h91; kernel_rfl
  by_cases h92 : n = 92
  · subst h92; kernel_rfl
  by_cases h93 : n = 93
  · subst h93; kernel_rfl
  by_cases h94 : n = 94
  · subst h94; kernel_rfl
  by_cases h95 : n = 95
  · subst h95; kernel_rfl
  by_cases h96 : n = 96
  · subst h96; kernel_rfl
  by_cases h97 : n = 97
  · subst h97; kernel_rfl
  by_cases h98 : n = 98
  · subst h98; kernel_rfl
  by_cases h99 : n = 99
  · subst h99; kernel_rfl
  omega
theorem sp457 (k : Nat) (l : List Int) (hl : l.length < 1000000) : evFun (clOf (modsR tab k) 3) s457 [.sl 1 (l.map I), .sl 1 [I (-1)]] = some (B (decide (l = [-1])), []) := by
  rw [evFun_evB rfl]
  unfold s457
  match l with
  | [] => simp -implicitDefEqProofs []
  | [a] =>
    by_cases h : a = -1
    · subst h
      simp -implicitDefEqProofs []
      refine evB_for (fun i => [.sl 1 [I (-1)], .sl 1 [I (-1)], B false, I 1, I i]) 1 (.exit 0) [.sl 1 [I (-1)], .sl 1 [I (-1)], B false, I 1, I 1] ?_ (fun i hi => ?_) ?_ (by simp) (by decide) ?_
      · simp -implicitDefEqProofs []
      · obtain rfl : i = 0 := by omega
        simp -implicitDefEqProofs [wr_id]
      · simp -implicitDefEqProofs []
      simp -implicitDefEqProofs []
    · simp -implicitDefEqProofs []
      refine evB_for (fun i => [.sl 1 [I a], .sl 1 [I (-1)], B false, I 1, I 0]) 0 .ret [.sl 1 [I a], .sl 1 [I (-1)], B false, I 1, I 0] ?_ (fun i hi => ?_) ?_ (by simp) (by decide) ?_
      · simp -implicitDefEqProofs []
      · omega
      · simp -implicitDefEqProofs [h]
      simp -implicitDefEqProofs [h]
  | a :: b :: t =>
    have e : ¬ ((t.length : Int) + 1 + 1 = 1) := by omega
    simp -implicitDefEqProofs [e]
theorem sp450 (k : Nat) (l : List Int) (hl : l.length ≤ 1000) : evNil (clOf (modsR tab k) 3) n450 [.sl 1 (l.map I)] = some (.osl true 1 (l.map I), []) := by
  cases l with
  | nil => kernel_rfl
  | cons a t =>
    have e : evFun (clOf (modsR tab k) 3) (n450.fn false) [.sl 1 ((a :: t).map I)] = some (.osl true 1 ((a :: t).map I), []) := by
      rw [evFun_evB rfl]
      unfold n450 NFun.fn NFun.body
      have b1 : (t.length + 1) * 8 ≤ 140737488355328 := by simp at hl; omega
      have tT : List.take t.length (t.map I) = t.map I := List.take_of_length_le (by simp)
      simp -implicitDefEqProofs [b1, tT]
    unfold evNil
    rw [e]
    simp -implicitDefEqProofs [n450, atN, isSlD, nnD, Lg.evC, Lg.stepsO]
theorem sp382_1 (k : Nat) (c : Int) : evFun (clOf (modsR tab (k + 1)) 3) s382 [U c, .sl 1 [I (-1)]] = some (.agg [I 4, R 0, U 0, U 0, U c, .sn, S []], []) := by
  rw [evFun_evB rfl]
  unfold s382
  have w1 := sp457 k [-1] (by simp)
  simp only [List.map_cons, List.map_nil] at w1
  simp -implicitDefEqProofs [cw457, w1]
theorem sp382 (k : Nat) (c : Int) (l : List Int) (hl : l.length ≤ 1000) (h : l ≠ [-1]) : evFun (clOf (modsR tab (k + 1)) 3) s382 [U c, .sl 1 (l.map I)] = some (.agg [I 4, R 0, U 0, U 0, U c, .sl 1 (l.map I), S []], []) := by
  rw [evFun_evB rfl]
  unfold s382
  have w1 := sp457 k l (by omega)
  rw [decide_eq_false h] at w1
  have w := sp450 k l hl
  have pl := plains_I l
  have tT : List.take l.length (l.map I) = l.map I := List.take_of_length_le (by simp)
  simp -implicitDefEqProofs [cw457, cw450, w, w1, pl, tT]
end Go.Proofs.YtadipapkdjcnbaaGreatDoor.LgTab
