import Derived.Test.YtbpaojgkkggcgadGreatRows
import Derived.Test.YtbpaojgkkggcgadGreatLgW1
import Derived.RowKit
/-
  The seat's functions, as this work's tool printed them.
-/
namespace Go.Proofs.YtbpaojgkkggcgadGreat.LgTTargetRuns
open Go Lg
set_option maxRecDepth 100000
def a412 : Ann := ⟨[], [⟨false, 0, false⟩], []⟩
def s412 : SFun := ⟨2, 29, [], [(.cell 4 true 29, ⟨false, 0, false⟩)],
 (.seq (.reg [⟨(some 2), .box 29 (.t 0), none⟩,
  ⟨(some 3), .box 7 (.t 1), none⟩,
  ⟨(some 4), .alloc [(D.int .i64 (0)), (D.int .i64 (0)), .sn, (D.int .i64 (0)), (D.int .i64 (0)), (D.bool false), (D.int .i64 (0)), (D.int .i64 (0)), (D.int .i64 (0)), (D.int .i64 (0)), (D.int .i64 (0)), (D.int .u64 (0)), (D.int .u8 (0)), (D.int .u8 (0)), (D.int .i64 (0)), (D.bool false), (D.bool false), (D.bool false), (D.bool false), (D.bool false), (D.int .i64 (0)), (D.int .i64 (0)), (D.int .i64 (0)), (D.int .i64 (0)), (D.int .i64 (0)), (D.int .u8 (0)), (D.int .u8 (0)), (D.int .i64 (0)), (D.bool false)], none⟩])
 (.seq (.dreg [([], false, ⟨(some 7), .load true 7 (.t 3), none⟩),
  ([], false, ⟨(some 8), .call true 411 [(.t 7), (.k (D.int .i64 (0)))], none⟩),
  ([], false, ⟨(some 9), .bin .sub (.t 8) (.k (D.int .i64 (1))), none⟩),
  ([0, 1, 2], false, ⟨(some 10), .load true 7 (.t 3), none⟩),
  ([0, 1, 2, 3], false, ⟨(some 11), .fad 0 (.t 2), none⟩),
  ([0, 1, 2, 3], false, ⟨(some 12), .fad 0 (.t 11), none⟩),
  ([0, 1, 2, 3], false, ⟨(some 13), .load false 1 (.t 12), none⟩),
  ([0, 1, 2, 3, 4, 5, 6], false, ⟨(some 14), .fad 0 (.t 2), none⟩),
  ([0, 1, 2, 3, 4, 5, 6], false, ⟨(some 15), .fad 0 (.t 14), none⟩),
  ([0, 1, 2, 3, 4, 5, 6], false, ⟨(some 16), .load false 1 (.t 15), none⟩),
  ([2], false, ⟨(some 17), .call true 381 [(.t 10), (.k (D.int .i64 (1))), (.t 13), (.k (D.int .i64 (1))), (.t 16)], none⟩),
  ([2], false, ⟨(some 18), .bin .sub (.t 17) (.k (D.int .i64 (1))), none⟩),
  ([11], false, ⟨(some 5), .mv (.t 9), none⟩),
  ([], true, ⟨(some 6), .mv (.t 18), none⟩)])
 (.seq (.seq (.reg [⟨(some 19), .mv (.t 5), none⟩,
  ⟨(some 20), .mv (.t 6), none⟩,
  ⟨(some 21), .bin .geq (.t 19) (.t 20), none⟩])
 (.cond (.t 21)
 (.seq (.reg [⟨(some 22), .load true 29 (.t 2), none⟩,
  ⟨none, .store 29 (.t 4) (.t 22), none⟩])
 .ret)
 .skip))
 (.seq (.reg [⟨(some 23), .mv (.t 5), none⟩,
  ⟨(some 24), .mv (.t 6), none⟩,
  ⟨(some 25), .fad 6 (.t 2), none⟩,
  ⟨none, .store 1 (.t 25) (.t 23), none⟩,
  ⟨(some 26), .fad 7 (.t 2), none⟩,
  ⟨none, .store 1 (.t 26) (.t 24), none⟩])
 (.seq (.reg [⟨(some 27), .load true 29 (.t 2), none⟩,
  ⟨(some 28), .call false 127 [(.t 27)], none⟩,
  ⟨none, .store 29 (.t 4) (.t 28), none⟩])
 .ret)))))⟩
def a416 : Ann := ⟨[(2, [(0, ⟨false, 0, false⟩), (7, ⟨false, 0, false⟩), (8, ⟨false, 0, false⟩), (9, ⟨false, 0, false⟩)])], [⟨false, 0, false⟩], []⟩
def s416 : SFun := ⟨2, 19, [], [(.tmp 4, ⟨false, 0, false⟩)],
 (.seq (.reg [⟨(some 4), .mv (.k (D.int .u64 (0))), none⟩])
 (.seq (.seq (.reg [⟨(some 7), .mv (.t 1), none⟩,
  ⟨(some 8), .len (.t 7), none⟩,
  ⟨(some 9), .mv (.k (D.int .i64 (0))), none⟩])
 (.block 0 (.loop [(0, ⟨false, 0, false⟩), (7, ⟨false, 0, false⟩), (8, ⟨false, 0, false⟩), (9, ⟨false, 0, false⟩)]
 (.seq (.reg [⟨(some 10), .bin .lss (.t 9) (.t 8), none⟩])
 (.seq (.cond (.t 10)
 .skip
 (.exit 0))
 (.seq (.block 1 (.seq (.reg [⟨(some 11), .ixs 1 (.t 7) (.t 9), none⟩,
  ⟨(some 12), .load false 1 (.t 11), none⟩,
  ⟨(some 6), .mv (.t 12), none⟩])
 (.reg [⟨(some 13), .mv (.t 0), none⟩,
  ⟨(some 14), .mv (.t 6), none⟩,
  ⟨(some 15), .call false 422 [(.t 14)], none⟩,
  ⟨(some 16), .bin .andNot (.t 13) (.t 15), none⟩,
  ⟨(some 0), .mv (.t 16), none⟩])))
 (.reg [⟨(some 17), .bin .add (.t 9) (.k (D.int .i64 (1))), none⟩,
  ⟨(some 9), .mv (.t 17), none⟩])))))))
 (.seq (.reg [⟨(some 18), .mv (.t 0), none⟩,
  ⟨(some 4), .mv (.t 18), none⟩])
 .ret)))⟩
def a408 : Ann := ⟨[], [⟨false, 0, false⟩], []⟩
def s408 : SFun := ⟨2, 19, [], [(.cell 4 true 29, ⟨false, 0, false⟩)],
 (.seq (.reg [⟨(some 2), .box 29 (.t 0), none⟩,
  ⟨(some 4), .alloc [(D.int .i64 (0)), (D.int .i64 (0)), .sn, (D.int .i64 (0)), (D.int .i64 (0)), (D.bool false), (D.int .i64 (0)), (D.int .i64 (0)), (D.int .i64 (0)), (D.int .i64 (0)), (D.int .i64 (0)), (D.int .u64 (0)), (D.int .u8 (0)), (D.int .u8 (0)), (D.int .i64 (0)), (D.bool false), (D.bool false), (D.bool false), (D.bool false), (D.bool false), (D.int .i64 (0)), (D.int .i64 (0)), (D.int .i64 (0)), (D.int .i64 (0)), (D.int .i64 (0)), (D.int .u8 (0)), (D.int .u8 (0)), (D.int .i64 (0)), (D.bool false)], none⟩])
 (.seq (.seq (.reg [⟨(some 5), .mv (.t 1), none⟩])
 (.block 0 (.seq (.reg [⟨(some 7), .bin .eql (.t 5) (.k (D.int .i64 (0))), none⟩,
  ⟨(some 6), .mv (.t 7), none⟩])
 (.cond (.t 6)
 (.reg [⟨(some 8), .fad 11 (.t 2), none⟩,
  ⟨(some 9), .load false 1 (.t 8), none⟩,
  ⟨(some 10), .fad 4 (.t 2), none⟩,
  ⟨(some 11), .load false 1 (.t 10), none⟩,
  ⟨(some 12), .bsl false 1 1 [(D.int .i64 (0))] [(0, (.t 11))], none⟩,
  ⟨(some 13), .call false 416 [(.t 9), (.t 12)], none⟩,
  ⟨(some 14), .fad 11 (.t 2), none⟩,
  ⟨none, .store 1 (.t 14) (.t 13), none⟩])
 (.seq (.reg [⟨(some 16), .bin .eql (.t 5) (.k (D.int .i64 (3))), none⟩,
  ⟨(some 15), .mv (.t 16), none⟩])
 (.cond (.t 15)
 (.reg [⟨(some 17), .fad 11 (.t 2), none⟩,
  ⟨none, .store 1 (.t 17) (.k (D.int .u64 (0))), none⟩])
 .skip))))))
 (.seq (.reg [⟨(some 18), .load true 29 (.t 2), none⟩,
  ⟨none, .store 29 (.t 4) (.t 18), none⟩])
 .ret)))⟩
def a405 : Ann := ⟨[], [⟨false, 0, false⟩], []⟩
def s405 : SFun := ⟨2, 84, [], [(.cell 4 true 29, ⟨false, 0, false⟩)],
 (.seq (.reg [⟨(some 2), .box 29 (.t 0), none⟩,
  ⟨(some 3), .box 7 (.t 1), none⟩,
  ⟨(some 4), .alloc [(D.int .i64 (0)), (D.int .i64 (0)), .sn, (D.int .i64 (0)), (D.int .i64 (0)), (D.bool false), (D.int .i64 (0)), (D.int .i64 (0)), (D.int .i64 (0)), (D.int .i64 (0)), (D.int .i64 (0)), (D.int .u64 (0)), (D.int .u8 (0)), (D.int .u8 (0)), (D.int .i64 (0)), (D.bool false), (D.bool false), (D.bool false), (D.bool false), (D.bool false), (D.int .i64 (0)), (D.int .i64 (0)), (D.int .i64 (0)), (D.int .i64 (0)), (D.int .i64 (0)), (D.int .u8 (0)), (D.int .u8 (0)), (D.int .i64 (0)), (D.bool false)], none⟩])
 (.seq (.block 0 (.seq (.reg [⟨(some 6), .fad 3 (.t 3), none⟩,
  ⟨(some 7), .load false 1 (.t 6), none⟩,
  ⟨(some 8), .bin .neq (.t 7) (.k (D.int .u8 (0))), none⟩,
  ⟨(some 5), .mv (.t 8), none⟩])
 (.cond (.t 5)
 (.seq (.reg [⟨(some 9), .load true 29 (.t 2), none⟩,
  ⟨none, .store 29 (.t 4) (.t 9), none⟩])
 .ret)
 (.seq (.reg [⟨(some 11), .fad 2 (.t 3), none⟩,
  ⟨(some 12), .load false 1 (.t 11), none⟩,
  ⟨(some 13), .bin .eql (.t 12) (.k (D.int .u8 (63))), none⟩,
  ⟨(some 10), .mv (.t 13), none⟩])
 (.cond (.t 10)
 (.seq (.reg [⟨(some 14), .load true 29 (.t 2), none⟩,
  ⟨(some 15), .load true 7 (.t 3), none⟩,
  ⟨(some 16), .call false 415 [(.t 14), (.t 15)], none⟩,
  ⟨none, .store 29 (.t 4) (.t 16), none⟩])
 .ret)
 (.seq (.reg [⟨(some 18), .fad 2 (.t 3), none⟩,
  ⟨(some 19), .load false 1 (.t 18), none⟩,
  ⟨(some 20), .bin .neq (.t 19) (.k (D.int .u8 (0))), none⟩,
  ⟨(some 17), .mv (.t 20), none⟩])
 (.cond (.t 17)
 (.seq (.reg [⟨(some 21), .load true 29 (.t 2), none⟩,
  ⟨none, .store 29 (.t 4) (.t 21), none⟩])
 .ret)
 .skip)))))))
 (.seq (.seq (.reg [⟨(some 22), .fad 4 (.t 3), none⟩,
  ⟨(some 23), .load false 1 (.t 22), none⟩])
 (.block 1 (.seq (.seq (.reg [⟨(some 25), .bin .eql (.t 23) (.k (D.int .u8 (65))), none⟩,
  ⟨(some 24), .mv (.t 25), none⟩])
 (.cond (.t 24)
 .skip
 (.seq (.reg [⟨(some 26), .bin .eql (.t 23) (.k (D.int .u8 (66))), none⟩,
  ⟨(some 24), .mv (.t 26), none⟩])
 (.cond (.t 24)
 .skip
 (.seq (.reg [⟨(some 27), .bin .eql (.t 23) (.k (D.int .u8 (67))), none⟩,
  ⟨(some 24), .mv (.t 27), none⟩])
 (.cond (.t 24)
 .skip
 (.seq (.reg [⟨(some 28), .bin .eql (.t 23) (.k (D.int .u8 (68))), none⟩,
  ⟨(some 24), .mv (.t 28), none⟩])
 (.cond (.t 24)
 .skip
 (.seq (.reg [⟨(some 29), .bin .eql (.t 23) (.k (D.int .u8 (69))), none⟩,
  ⟨(some 24), .mv (.t 29), none⟩])
 (.cond (.t 24)
 .skip
 (.seq (.reg [⟨(some 30), .bin .eql (.t 23) (.k (D.int .u8 (70))), none⟩,
  ⟨(some 24), .mv (.t 30), none⟩])
 (.cond (.t 24)
 .skip
 (.seq (.reg [⟨(some 31), .bin .eql (.t 23) (.k (D.int .u8 (71))), none⟩,
  ⟨(some 24), .mv (.t 31), none⟩])
 (.cond (.t 24)
 .skip
 (.seq (.reg [⟨(some 32), .bin .eql (.t 23) (.k (D.int .u8 (96))), none⟩,
  ⟨(some 24), .mv (.t 32), none⟩])
 (.cond (.t 24)
 .skip
 (.seq (.reg [⟨(some 33), .bin .eql (.t 23) (.k (D.int .u8 (100))), none⟩,
  ⟨(some 24), .mv (.t 33), none⟩])
 (.cond (.t 24)
 .skip
 (.seq (.reg [⟨(some 34), .bin .eql (.t 23) (.k (D.int .u8 (72))), none⟩,
  ⟨(some 24), .mv (.t 34), none⟩])
 (.cond (.t 24)
 .skip
 (.reg [⟨(some 35), .bin .eql (.t 23) (.k (D.int .u8 (102))), none⟩,
  ⟨(some 24), .mv (.t 35), none⟩])))))))))))))))))))))
 (.cond (.t 24)
 (.seq (.reg [⟨(some 36), .load true 29 (.t 2), none⟩,
  ⟨(some 37), .load true 7 (.t 3), none⟩,
  ⟨(some 38), .call false 413 [(.t 36), (.t 37)], none⟩,
  ⟨none, .store 29 (.t 4) (.t 38), none⟩])
 .ret)
 (.seq (.seq (.reg [⟨(some 40), .bin .eql (.t 23) (.k (D.int .u8 (74))), none⟩,
  ⟨(some 39), .mv (.t 40), none⟩])
 (.cond (.t 39)
 .skip
 (.seq (.reg [⟨(some 41), .bin .eql (.t 23) (.k (D.int .u8 (75))), none⟩,
  ⟨(some 39), .mv (.t 41), none⟩])
 (.cond (.t 39)
 .skip
 (.seq (.reg [⟨(some 42), .bin .eql (.t 23) (.k (D.int .u8 (64))), none⟩,
  ⟨(some 39), .mv (.t 42), none⟩])
 (.cond (.t 39)
 .skip
 (.seq (.reg [⟨(some 43), .bin .eql (.t 23) (.k (D.int .u8 (80))), none⟩,
  ⟨(some 39), .mv (.t 43), none⟩])
 (.cond (.t 39)
 .skip
 (.reg [⟨(some 44), .bin .eql (.t 23) (.k (D.int .u8 (88))), none⟩,
  ⟨(some 39), .mv (.t 44), none⟩])))))))))
 (.cond (.t 39)
 (.seq (.reg [⟨(some 45), .load true 29 (.t 2), none⟩,
  ⟨(some 46), .load true 7 (.t 3), none⟩,
  ⟨(some 47), .call false 403 [(.t 45), (.t 46)], none⟩,
  ⟨none, .store 29 (.t 4) (.t 47), none⟩])
 .ret)
 (.seq (.seq (.reg [⟨(some 49), .bin .eql (.t 23) (.k (D.int .u8 (76))), none⟩,
  ⟨(some 48), .mv (.t 49), none⟩])
 (.cond (.t 48)
 .skip
 (.seq (.reg [⟨(some 50), .bin .eql (.t 23) (.k (D.int .u8 (77))), none⟩,
  ⟨(some 48), .mv (.t 50), none⟩])
 (.cond (.t 48)
 .skip
 (.seq (.reg [⟨(some 51), .bin .eql (.t 23) (.k (D.int .u8 (83))), none⟩,
  ⟨(some 48), .mv (.t 51), none⟩])
 (.cond (.t 48)
 .skip
 (.reg [⟨(some 52), .bin .eql (.t 23) (.k (D.int .u8 (84))), none⟩,
  ⟨(some 48), .mv (.t 52), none⟩])))))))
 (.cond (.t 48)
 (.seq (.reg [⟨(some 53), .load true 29 (.t 2), none⟩,
  ⟨(some 54), .load true 7 (.t 3), none⟩,
  ⟨(some 55), .call false 414 [(.t 53), (.t 54)], none⟩,
  ⟨none, .store 29 (.t 4) (.t 55), none⟩])
 .ret)
 (.seq (.reg [⟨(some 57), .bin .eql (.t 23) (.k (D.int .u8 (109))), none⟩,
  ⟨(some 56), .mv (.t 57), none⟩])
 (.cond (.t 56)
 (.reg [⟨(some 58), .fad 8 (.t 2), none⟩,
  ⟨(some 59), .load true 3 (.t 58), none⟩,
  ⟨(some 60), .fad 5 (.t 3), none⟩,
  ⟨(some 61), .load false 1 (.t 60), none⟩,
  ⟨(some 62), .call false 340 [(.t 59), (.t 61)], none⟩,
  ⟨(some 63), .fad 8 (.t 2), none⟩,
  ⟨none, .store 3 (.t 63) (.t 62), none⟩])
 (.seq (.reg [⟨(some 65), .bin .eql (.t 23) (.k (D.int .u8 (114))), none⟩,
  ⟨(some 64), .mv (.t 65), none⟩])
 (.cond (.t 64)
 (.seq (.reg [⟨(some 66), .load true 29 (.t 2), none⟩,
  ⟨(some 67), .load true 7 (.t 3), none⟩,
  ⟨(some 68), .call false 412 [(.t 66), (.t 67)], none⟩,
  ⟨none, .store 29 (.t 4) (.t 68), none⟩])
 .ret)
 (.seq (.reg [⟨(some 70), .bin .eql (.t 23) (.k (D.int .u8 (103))), none⟩,
  ⟨(some 69), .mv (.t 70), none⟩])
 (.cond (.t 69)
 (.seq (.dreg [([], false, ⟨(some 71), .load true 29 (.t 2), none⟩),
  ([0], false, ⟨(some 72), .load true 7 (.t 3), none⟩),
  ([0], false, ⟨(some 73), .callr 381 [(.t 72), (.k (D.int .i64 (0))), (.k (D.int .i64 (0))), (.k (D.int .i64 (0))), (.k (D.int .i64 (65535)))], none⟩),
  ([], true, ⟨(some 74), .call false 408 [(.t 71), (.t 73)], none⟩),
  ([], true, ⟨none, .store 29 (.t 4) (.t 74), none⟩)])
 .ret)
 (.seq (.reg [⟨(some 76), .bin .eql (.t 23) (.k (D.int .u8 (115))), none⟩,
  ⟨(some 75), .mv (.t 76), none⟩])
 (.cond (.t 75)
 (.seq (.reg [⟨(some 77), .load true 29 (.t 2), none⟩,
  ⟨(some 78), .call false 129 [(.t 77)], none⟩,
  ⟨none, .store 29 (.t 4) (.t 78), none⟩])
 .ret)
 (.seq (.reg [⟨(some 80), .bin .eql (.t 23) (.k (D.int .u8 (117))), none⟩,
  ⟨(some 79), .mv (.t 80), none⟩])
 (.cond (.t 79)
 (.seq (.reg [⟨(some 81), .load true 29 (.t 2), none⟩,
  ⟨(some 82), .call false 128 [(.t 81)], none⟩,
  ⟨none, .store 29 (.t 4) (.t 82), none⟩])
 .ret)
 .skip))))))))))))))))))
 (.seq (.reg [⟨(some 83), .load true 29 (.t 2), none⟩,
  ⟨none, .store 29 (.t 4) (.t 83), none⟩])
 .ret))))⟩
def a400 : Ann := ⟨[], [⟨false, 0, false⟩], []⟩
def s400 : SFun := ⟨2, 32, [], [(.cell 4 true 29, ⟨false, 0, false⟩)],
 (.seq (.reg [⟨(some 2), .box 29 (.t 0), none⟩,
  ⟨(some 3), .box 7 (.t 1), none⟩,
  ⟨(some 4), .alloc [(D.int .i64 (0)), (D.int .i64 (0)), .sn, (D.int .i64 (0)), (D.int .i64 (0)), (D.bool false), (D.int .i64 (0)), (D.int .i64 (0)), (D.int .i64 (0)), (D.int .i64 (0)), (D.int .i64 (0)), (D.int .u64 (0)), (D.int .u8 (0)), (D.int .u8 (0)), (D.int .i64 (0)), (D.bool false), (D.bool false), (D.bool false), (D.bool false), (D.bool false), (D.int .i64 (0)), (D.int .i64 (0)), (D.int .i64 (0)), (D.int .i64 (0)), (D.int .i64 (0)), (D.int .u8 (0)), (D.int .u8 (0)), (D.int .i64 (0)), (D.bool false)], none⟩])
 (.seq (.reg [⟨(some 5), .load true 29 (.t 2), none⟩,
  ⟨(some 6), .call false 370 [(.t 5)], none⟩,
  ⟨none, .store 29 (.t 2) (.t 6), none⟩])
 (.seq (.seq (.reg [⟨(some 7), .fad 0 (.t 3), none⟩,
  ⟨(some 8), .load false 1 (.t 7), none⟩])
 (.block 0 (.seq (.reg [⟨(some 10), .bin .eql (.t 8) (.k (D.int .i64 (1))), none⟩,
  ⟨(some 9), .mv (.t 10), none⟩])
 (.cond (.t 9)
 (.seq (.reg [⟨(some 11), .load true 29 (.t 2), none⟩,
  ⟨(some 12), .fad 1 (.t 3), none⟩,
  ⟨(some 13), .load false 1 (.t 12), none⟩,
  ⟨(some 14), .call false 402 [(.t 11), (.t 13)], none⟩,
  ⟨none, .store 29 (.t 4) (.t 14), none⟩])
 .ret)
 (.seq (.reg [⟨(some 16), .bin .eql (.t 8) (.k (D.int .i64 (2))), none⟩,
  ⟨(some 15), .mv (.t 16), none⟩])
 (.cond (.t 15)
 (.seq (.reg [⟨(some 17), .load true 29 (.t 2), none⟩,
  ⟨(some 18), .fad 4 (.t 3), none⟩,
  ⟨(some 19), .load false 1 (.t 18), none⟩,
  ⟨(some 20), .call false 410 [(.t 17), (.t 19)], none⟩,
  ⟨none, .store 29 (.t 4) (.t 20), none⟩])
 .ret)
 (.seq (.reg [⟨(some 22), .bin .eql (.t 8) (.k (D.int .i64 (3))), none⟩,
  ⟨(some 21), .mv (.t 22), none⟩])
 (.cond (.t 21)
 (.seq (.reg [⟨(some 23), .load true 29 (.t 2), none⟩,
  ⟨(some 24), .load true 7 (.t 3), none⟩,
  ⟨(some 25), .call false 409 [(.t 23), (.t 24)], none⟩,
  ⟨none, .store 29 (.t 4) (.t 25), none⟩])
 .ret)
 (.seq (.reg [⟨(some 27), .bin .eql (.t 8) (.k (D.int .i64 (4))), none⟩,
  ⟨(some 26), .mv (.t 27), none⟩])
 (.cond (.t 26)
 (.seq (.reg [⟨(some 28), .load true 29 (.t 2), none⟩,
  ⟨(some 29), .load true 7 (.t 3), none⟩,
  ⟨(some 30), .call false 405 [(.t 28), (.t 29)], none⟩,
  ⟨none, .store 29 (.t 4) (.t 30), none⟩])
 .ret)
 .skip))))))))))
 (.seq (.reg [⟨(some 31), .load true 29 (.t 2), none⟩,
  ⟨none, .store 29 (.t 4) (.t 31), none⟩])
 .ret))))⟩
def a426 : Ann := ⟨[], [⟨false, 0, false⟩], []⟩
def s426 : SFun := ⟨1, 5, [], [(.cell 2 true 7, ⟨false, 0, false⟩)],
 (.seq (.reg [⟨(some 2), .alloc [(D.int .i64 (0)), (D.int .i32 (0)), (D.int .u8 (0)), (D.int .u8 (0)), (D.int .u8 (0)), .sn, (D.str [])], none⟩])
 (.seq (.reg [⟨(some 3), .mv (.t 0), none⟩,
  ⟨(some 4), .build [(D.int .i64 (0)), (D.int .i32 (0)), (D.int .u8 (0)), (D.int .u8 (0)), (D.int .u8 (0)), .sn, (D.str [])] [(0, 1, (.k (D.int .i64 (4)))), (4, 1, (.t 3))], none⟩,
  ⟨none, .store 7 (.t 2) (.t 4), none⟩])
 .ret))⟩
def a429 : Ann := ⟨[], [⟨false, 0, false⟩], []⟩
def s429 : SFun := ⟨2, 17, [], [(.cell 4 true 29, ⟨false, 0, false⟩)],
 (.seq (.reg [⟨(some 2), .box 29 (.t 0), none⟩,
  ⟨(some 4), .alloc [(D.int .i64 (0)), (D.int .i64 (0)), .sn, (D.int .i64 (0)), (D.int .i64 (0)), (D.bool false), (D.int .i64 (0)), (D.int .i64 (0)), (D.int .i64 (0)), (D.int .i64 (0)), (D.int .i64 (0)), (D.int .u64 (0)), (D.int .u8 (0)), (D.int .u8 (0)), (D.int .i64 (0)), (D.bool false), (D.bool false), (D.bool false), (D.bool false), (D.bool false), (D.int .i64 (0)), (D.int .i64 (0)), (D.int .i64 (0)), (D.int .i64 (0)), (D.int .i64 (0)), (D.int .u8 (0)), (D.int .u8 (0)), (D.int .i64 (0)), (D.bool false)], none⟩])
 (.seq (.seq (.reg [⟨(some 5), .mv (.t 1), none⟩])
 (.block 0 (.seq (.reg [⟨(some 7), .bin .eql (.t 5) (.k (D.int .u8 (73))), none⟩,
  ⟨(some 6), .mv (.t 7), none⟩])
 (.cond (.t 6)
 (.seq (.reg [⟨(some 8), .load true 29 (.t 2), none⟩,
  ⟨(some 9), .call false 123 [(.t 8)], none⟩,
  ⟨none, .store 29 (.t 4) (.t 9), none⟩])
 .ret)
 (.seq (.reg [⟨(some 11), .bin .eql (.t 5) (.k (D.int .u8 (89))), none⟩,
  ⟨(some 10), .mv (.t 11), none⟩])
 (.cond (.t 10)
 (.seq (.reg [⟨(some 12), .load true 29 (.t 2), none⟩,
  ⟨none, .store 29 (.t 4) (.t 12), none⟩])
 .ret)
 .skip))))))
 (.seq (.dreg [([], false, ⟨(some 13), .load true 29 (.t 2), none⟩),
  ([0], false, ⟨(some 14), .mv (.t 1), none⟩),
  ([0], false, ⟨(some 15), .callr 426 [(.t 14)], none⟩),
  ([], true, ⟨(some 16), .call false 400 [(.t 13), (.t 15)], none⟩),
  ([], true, ⟨none, .store 29 (.t 4) (.t 16), none⟩)])
 .ret)))⟩
def a423 : Ann := ⟨[(10, [(0, ⟨false, 0, false⟩), (39, ⟨false, 0, false⟩), (40, ⟨false, 0, false⟩), (41, ⟨false, 0, false⟩), (4, ⟨true, 0, false⟩), (5, ⟨true, 0, false⟩), (6, ⟨true, 0, false⟩), (7, ⟨true, 1, false⟩)])], [⟨false, 0, false⟩], []⟩
def s423 : SFun := ⟨3, 63, [], [(.cell 6 true 29, ⟨false, 0, false⟩)],
 (.seq (.reg [⟨(some 4), .box 29 (.t 1), none⟩,
  ⟨(some 5), .box 7 (.t 2), none⟩,
  ⟨(some 6), .alloc [(D.int .i64 (0)), (D.int .i64 (0)), .sn, (D.int .i64 (0)), (D.int .i64 (0)), (D.bool false), (D.int .i64 (0)), (D.int .i64 (0)), (D.int .i64 (0)), (D.int .i64 (0)), (D.int .i64 (0)), (D.int .u64 (0)), (D.int .u8 (0)), (D.int .u8 (0)), (D.int .i64 (0)), (D.bool false), (D.bool false), (D.bool false), (D.bool false), (D.bool false), (D.int .i64 (0)), (D.int .i64 (0)), (D.int .i64 (0)), (D.int .i64 (0)), (D.int .i64 (0)), (D.int .u8 (0)), (D.int .u8 (0)), (D.int .i64 (0)), (D.bool false)], none⟩])
 (.seq (.reg [⟨(some 10), .load true 29 (.t 4), none⟩,
  ⟨(some 11), .call false 370 [(.t 10)], none⟩,
  ⟨none, .store 29 (.t 4) (.t 11), none⟩])
 (.seq (.block 0 (.seq (.reg [⟨(some 13), .mv (.t 0), none⟩,
  ⟨(some 14), .load true 7 (.t 5), none⟩,
  ⟨(some 15), .call false 132 [(.t 13), (.t 14)], none⟩,
  ⟨(some 16), .una .not (.t 15), none⟩,
  ⟨(some 12), .mv (.t 16), none⟩])
 (.cond (.t 12)
 (.seq (.reg [⟨(some 17), .load true 29 (.t 4), none⟩,
  ⟨none, .store 29 (.t 6) (.t 17), none⟩])
 .ret)
 (.seq (.reg [⟨(some 19), .mv (.t 0), none⟩,
  ⟨(some 20), .bin .eql (.t 19) (.k (D.int .i64 (3))), none⟩,
  ⟨(some 21), .mv (.t 20), none⟩,
  ⟨(some 22), .fad 0 (.t 5), (some (21, true))⟩,
  ⟨(some 23), .load false 1 (.t 22), (some (21, true))⟩,
  ⟨(some 24), .bin .eql (.t 23) (.k (D.int .i64 (3))), (some (21, true))⟩,
  ⟨(some 25), .pick (.t 21) (.t 24) (.k (D.bool false)), none⟩,
  ⟨(some 18), .mv (.t 25), none⟩])
 (.cond (.t 18)
 (.seq (.reg [⟨(some 26), .load true 29 (.t 4), none⟩,
  ⟨(some 27), .fad 4 (.t 5), none⟩,
  ⟨(some 28), .load false 1 (.t 27), none⟩,
  ⟨(some 29), .call false 429 [(.t 26), (.t 28)], none⟩,
  ⟨none, .store 29 (.t 6) (.t 29), none⟩])
 .ret)
 (.seq (.reg [⟨(some 31), .fad 5 (.t 5), none⟩,
  ⟨(some 32), .load false 1 (.t 31), none⟩,
  ⟨(some 33), .len (.t 32), none⟩,
  ⟨(some 34), .bin .eql (.t 33) (.k (D.int .i64 (0))), none⟩,
  ⟨(some 30), .mv (.t 34), none⟩])
 (.cond (.t 30)
 (.seq (.reg [⟨(some 35), .load true 29 (.t 4), none⟩,
  ⟨(some 36), .load true 7 (.t 5), none⟩,
  ⟨(some 37), .call false 400 [(.t 35), (.t 36)], none⟩,
  ⟨none, .store 29 (.t 6) (.t 37), none⟩])
 .ret)
 .skip)))))))
 (.seq (.reg [⟨(some 7), .mv (.k .sn), none⟩])
 (.seq (.seq (.reg [⟨(some 38), .fad 5 (.t 5), none⟩,
  ⟨(some 39), .load false 1 (.t 38), none⟩,
  ⟨(some 40), .len (.t 39), none⟩,
  ⟨(some 41), .mv (.k (D.int .i64 (0))), none⟩])
 (.block 1 (.loop [(0, ⟨false, 0, false⟩), (39, ⟨false, 0, false⟩), (40, ⟨false, 0, false⟩), (41, ⟨false, 0, false⟩), (4, ⟨true, 0, false⟩), (5, ⟨true, 0, false⟩), (6, ⟨true, 0, false⟩), (7, ⟨true, 1, false⟩)]
 (.seq (.reg [⟨(some 42), .bin .lss (.t 41) (.t 40), none⟩])
 (.seq (.cond (.t 42)
 .skip
 (.exit 1))
 (.seq (.block 2 (.seq (.reg [⟨(some 43), .ixs 1 (.t 39) (.t 41), none⟩,
  ⟨(some 44), .load false 1 (.t 43), none⟩,
  ⟨(some 9), .mv (.t 44), none⟩])
 (.seq (.reg [⟨(some 45), .mv (.t 0), none⟩,
  ⟨(some 46), .load true 7 (.t 5), none⟩,
  ⟨(some 47), .mv (.t 9), none⟩,
  ⟨(some 48), .call false 425 [(.t 45), (.t 46), (.t 47)], none⟩])
 (.cond (.t 48)
 (.reg [⟨(some 49), .mv (.t 7), none⟩,
  ⟨(some 50), .mv (.t 9), none⟩,
  ⟨(some 51), .bsl false 1 1 [(D.int .i64 (0))] [(0, (.t 50))], none⟩,
  ⟨(some 52), .append 1 8 (.t 49) (.t 51), none⟩,
  ⟨(some 7), .mv (.t 52), none⟩])
 .skip))))
 (.reg [⟨(some 53), .bin .add (.t 41) (.k (D.int .i64 (1))), none⟩,
  ⟨(some 41), .mv (.t 53), none⟩])))))))
 (.seq (.seq (.reg [⟨(some 54), .mv (.t 7), none⟩,
  ⟨(some 55), .len (.t 54), none⟩,
  ⟨(some 56), .bin .eql (.t 55) (.k (D.int .i64 (0))), none⟩])
 (.cond (.t 56)
 (.seq (.reg [⟨(some 57), .load true 29 (.t 4), none⟩,
  ⟨none, .store 29 (.t 6) (.t 57), none⟩])
 .ret)
 .skip))
 (.seq (.reg [⟨(some 58), .mv (.t 7), none⟩,
  ⟨(some 59), .fad 5 (.t 5), none⟩,
  ⟨none, .store 1 (.t 59) (.t 58), none⟩])
 (.seq (.reg [⟨(some 60), .load true 29 (.t 4), none⟩,
  ⟨(some 61), .load true 7 (.t 5), none⟩,
  ⟨(some 62), .call false 400 [(.t 60), (.t 61)], none⟩,
  ⟨none, .store 29 (.t 6) (.t 62), none⟩])
 .ret))))))))⟩
def a35 : Ann := ⟨[(4, [(21, ⟨false, 0, false⟩), (22, ⟨false, 0, false⟩), (23, ⟨false, 0, false⟩), (0, ⟨true, 0, false⟩), (3, ⟨true, 0, false⟩)])], [], [0]⟩
def s35 : SFun := ⟨2, 56, [0], [],
 (.seq (.reg [⟨(some 3), .box 7 (.t 1), none⟩])
 (.seq (.seq (.dreg [([], false, ⟨(some 6), .mv (.t 0), none⟩),
  ([], false, ⟨(some 7), .nilc (.t 6), none⟩),
  ([], false, ⟨(some 8), .fad 0 (.t 7), none⟩),
  ([], false, ⟨(some 9), .load false 1 (.t 8), none⟩),
  ([0, 1, 2, 3], false, ⟨(some 10), .load true 7 (.t 3), none⟩),
  ([], true, ⟨(some 11), .call false 132 [(.t 9), (.t 10)], none⟩),
  ([], true, ⟨(some 12), .una .not (.t 11), none⟩)])
 (.cond (.t 12)
 (.seq (.reg [⟨(some 13), .mv (.t 0), none⟩,
  ⟨(some 14), .nilc (.t 13), none⟩,
  ⟨(some 15), .fad 33 (.t 14), none⟩,
  ⟨(some 16), .load false 1 (.t 15), none⟩,
  ⟨(some 17), .bin .add (.t 16) (.k (D.int .i64 (1))), none⟩,
  ⟨(some 18), .nilc (.t 13), none⟩,
  ⟨(some 19), .fad 33 (.t 18), none⟩,
  ⟨none, .store 1 (.t 19) (.t 17), none⟩])
 .ret)
 .skip))
 (.seq (.seq (.reg [⟨(some 20), .fad 5 (.t 3), none⟩,
  ⟨(some 21), .load false 1 (.t 20), none⟩,
  ⟨(some 22), .len (.t 21), none⟩,
  ⟨(some 23), .mv (.k (D.int .i64 (0))), none⟩])
 (.block 0 (.loop [(21, ⟨false, 0, false⟩), (22, ⟨false, 0, false⟩), (23, ⟨false, 0, false⟩), (0, ⟨true, 0, false⟩), (3, ⟨true, 0, false⟩)]
 (.seq (.reg [⟨(some 24), .bin .lss (.t 23) (.t 22), none⟩])
 (.seq (.cond (.t 24)
 .skip
 (.exit 0))
 (.seq (.block 1 (.seq (.reg [⟨(some 25), .ixs 1 (.t 21) (.t 23), none⟩,
  ⟨(some 26), .load false 1 (.t 25), none⟩,
  ⟨(some 5), .mv (.t 26), none⟩])
 (.seq (.dreg [([], false, ⟨(some 27), .mv (.t 0), none⟩),
  ([], false, ⟨(some 28), .nilc (.t 27), none⟩),
  ([], false, ⟨(some 29), .fad 0 (.t 28), none⟩),
  ([], false, ⟨(some 30), .load false 1 (.t 29), none⟩),
  ([0, 1, 2, 3], false, ⟨(some 31), .load true 7 (.t 3), none⟩),
  ([0, 1, 2, 3, 4], false, ⟨(some 32), .mv (.t 5), none⟩),
  ([], true, ⟨(some 33), .call false 425 [(.t 30), (.t 31), (.t 32)], none⟩),
  ([], true, ⟨(some 34), .una .not (.t 33), none⟩)])
 (.cond (.t 34)
 (.reg [⟨(some 35), .mv (.t 0), none⟩,
  ⟨(some 36), .nilc (.t 35), none⟩,
  ⟨(some 37), .fad 33 (.t 36), none⟩,
  ⟨(some 38), .load false 1 (.t 37), none⟩,
  ⟨(some 39), .bin .add (.t 38) (.k (D.int .i64 (1))), none⟩,
  ⟨(some 40), .nilc (.t 35), none⟩,
  ⟨(some 41), .fad 33 (.t 40), none⟩,
  ⟨none, .store 1 (.t 41) (.t 39), none⟩])
 .skip))))
 (.reg [⟨(some 42), .bin .add (.t 23) (.k (D.int .i64 (1))), none⟩,
  ⟨(some 23), .mv (.t 42), none⟩])))))))
 (.dreg [([], false, ⟨(some 43), .mv (.t 0), none⟩),
  ([0], false, ⟨(some 44), .mv (.t 0), none⟩),
  ([0], false, ⟨(some 45), .nilc (.t 44), none⟩),
  ([0], false, ⟨(some 46), .fad 0 (.t 45), none⟩),
  ([0], false, ⟨(some 47), .load false 1 (.t 46), none⟩),
  ([0, 1, 2, 3, 4], false, ⟨(some 48), .mv (.t 0), none⟩),
  ([0, 1, 2, 3, 4], false, ⟨(some 49), .nilc (.t 48), none⟩),
  ([0, 1, 2, 3, 4], false, ⟨(some 50), .fad 1 (.t 49), none⟩),
  ([0, 1, 2, 3, 4], false, ⟨(some 51), .load true 29 (.t 50), none⟩),
  ([0, 1, 2, 3, 4, 5, 6, 7, 8], false, ⟨(some 52), .load true 7 (.t 3), none⟩),
  ([0], false, ⟨(some 53), .call true 423 [(.t 47), (.t 51), (.t 52)], none⟩),
  ([], true, ⟨(some 54), .nilc (.t 43), none⟩),
  ([], true, ⟨(some 55), .fad 1 (.t 54), none⟩),
  ([], true, ⟨none, .store 29 (.t 55) (.t 53), none⟩)]))))⟩
def a36 : Ann := ⟨[], [], [0]⟩
def s36 : SFun := ⟨2, 77, [0], [],
 (.seq (.reg [⟨(some 5), .mv (.t 0), none⟩,
  ⟨(some 6), .nilc (.t 5), none⟩,
  ⟨(some 7), .fad 31 (.t 6), none⟩,
  ⟨(some 8), .load false 1 (.t 7), none⟩,
  ⟨(some 4), .mv (.t 8), none⟩])
 (.seq (.reg [⟨(some 9), .mv (.t 0), none⟩,
  ⟨(some 10), .nilc (.t 9), none⟩,
  ⟨(some 11), .fad 31 (.t 10), none⟩,
  ⟨none, .store 1 (.t 11) (.k (D.int .i64 (0))), none⟩])
 (.block 0 (.seq (.reg [⟨(some 18), .mv (.t 4), none⟩,
  ⟨(some 19), .bin .eql (.t 18) (.k (D.int .i64 (2))), none⟩,
  ⟨(some 17), .mv (.t 19), none⟩])
 (.cond (.t 17)
 (.reg [⟨(some 20), .mv (.t 0), none⟩,
  ⟨(some 21), .mv (.t 0), none⟩,
  ⟨(some 22), .mv (.t 1), none⟩,
  ⟨(some 23), .cvi .i64 (.t 22), none⟩,
  ⟨(some 24), .bin .sub (.t 23) (.k (D.int .i64 (32))), none⟩,
  ⟨(some 25), .nilc (.t 20), none⟩,
  ⟨(some 26), .fad 32 (.t 25), none⟩,
  ⟨none, .store 1 (.t 26) (.t 24), none⟩,
  ⟨(some 27), .nilc (.t 21), none⟩,
  ⟨(some 28), .fad 31 (.t 27), none⟩,
  ⟨none, .store 1 (.t 28) (.k (D.int .i64 (3))), none⟩])
 (.seq (.reg [⟨(some 30), .mv (.t 4), none⟩,
  ⟨(some 31), .bin .eql (.t 30) (.k (D.int .i64 (3))), none⟩,
  ⟨(some 29), .mv (.t 31), none⟩])
 (.cond (.t 29)
 (.dreg [([], false, ⟨(some 32), .mv (.t 0), none⟩),
  ([0], false, ⟨(some 33), .mv (.t 0), none⟩),
  ([0], false, ⟨(some 34), .nilc (.t 33), none⟩),
  ([0], false, ⟨(some 35), .fad 1 (.t 34), none⟩),
  ([0], false, ⟨(some 36), .load true 29 (.t 35), none⟩),
  ([0, 1, 2, 3, 4], false, ⟨(some 37), .mv (.t 0), none⟩),
  ([0, 1, 2, 3, 4], false, ⟨(some 38), .nilc (.t 37), none⟩),
  ([0, 1, 2, 3, 4], false, ⟨(some 39), .fad 32 (.t 38), none⟩),
  ([0, 1, 2, 3, 4], false, ⟨(some 40), .load false 1 (.t 39), none⟩),
  ([0, 1, 2, 3, 4, 5, 6, 7, 8], false, ⟨(some 41), .mv (.t 1), none⟩),
  ([0, 1, 2, 3, 4, 5, 6, 7, 8], false, ⟨(some 42), .cvi .i64 (.t 41), none⟩),
  ([0, 1, 2, 3, 4, 5, 6, 7, 8], false, ⟨(some 43), .bin .sub (.t 42) (.k (D.int .i64 (32))), none⟩),
  ([0], false, ⟨(some 44), .call true 122 [(.t 36), (.t 40), (.t 43)], none⟩),
  ([], true, ⟨(some 45), .nilc (.t 32), none⟩),
  ([], true, ⟨(some 46), .fad 1 (.t 45), none⟩),
  ([], true, ⟨none, .store 29 (.t 46) (.t 44), none⟩)])
 (.seq (.reg [⟨(some 48), .mv (.t 4), none⟩,
  ⟨(some 49), .bin .eql (.t 48) (.k (D.int .i64 (1))), none⟩,
  ⟨(some 50), .mv (.t 49), none⟩,
  ⟨(some 51), .mv (.t 1), (some (50, true))⟩,
  ⟨(some 52), .bin .eql (.t 51) (.k (D.int .u8 (89))), (some (50, true))⟩,
  ⟨(some 53), .pick (.t 50) (.t 52) (.k (D.bool false)), none⟩,
  ⟨(some 47), .mv (.t 53), none⟩])
 (.cond (.t 47)
 (.reg [⟨(some 54), .mv (.t 0), none⟩,
  ⟨(some 55), .nilc (.t 54), none⟩,
  ⟨(some 56), .fad 31 (.t 55), none⟩,
  ⟨none, .store 1 (.t 56) (.k (D.int .i64 (2))), none⟩])
 (.seq (.reg [⟨(some 58), .mv (.t 4), none⟩,
  ⟨(some 59), .bin .eql (.t 58) (.k (D.int .i64 (1))), none⟩,
  ⟨(some 57), .mv (.t 59), none⟩])
 (.cond (.t 57)
 (.reg [⟨(some 60), .mv (.t 0), none⟩,
  ⟨(some 61), .mv (.t 1), none⟩,
  ⟨(some 62), .build [(D.int .i64 (0)), (D.int .i32 (0)), (D.int .u8 (0)), (D.int .u8 (0)), (D.int .u8 (0)), .sn, (D.str [])] [(0, 1, (.k (D.int .i64 (3)))), (4, 1, (.t 61))], none⟩,
  ⟨(some 63), .call false 35 [(.t 60), (.t 62)], none⟩])
 (.seq (.reg [⟨(some 65), .mv (.t 1), none⟩,
  ⟨(some 66), .bin .eql (.t 65) (.k (D.int .u8 (27))), none⟩,
  ⟨(some 64), .mv (.t 66), none⟩])
 (.cond (.t 64)
 (.reg [⟨(some 67), .mv (.t 0), none⟩,
  ⟨(some 68), .nilc (.t 67), none⟩,
  ⟨(some 69), .fad 31 (.t 68), none⟩,
  ⟨none, .store 1 (.t 69) (.k (D.int .i64 (1))), none⟩])
 (.seq (.reg [⟨(some 71), .mv (.t 1), none⟩,
  ⟨(some 72), .bin .lss (.t 71) (.k (D.int .u8 (32))), none⟩,
  ⟨(some 70), .mv (.t 72), none⟩])
 (.cond (.t 70)
 (.reg [⟨(some 73), .mv (.t 0), none⟩,
  ⟨(some 74), .mv (.t 1), none⟩,
  ⟨(some 75), .build [(D.int .i64 (0)), (D.int .i32 (0)), (D.int .u8 (0)), (D.int .u8 (0)), (D.int .u8 (0)), .sn, (D.str [])] [(0, 1, (.k (D.int .i64 (2)))), (4, 1, (.t 74))], none⟩,
  ⟨(some 76), .call false 35 [(.t 73), (.t 75)], none⟩])
 (.reg [⟨(some 12), .mv (.t 0), none⟩,
  ⟨(some 13), .mv (.t 1), none⟩,
  ⟨(some 14), .cvi .i32 (.t 13), none⟩,
  ⟨(some 15), .build [(D.int .i64 (0)), (D.int .i32 (0)), (D.int .u8 (0)), (D.int .u8 (0)), (D.int .u8 (0)), .sn, (D.str [])] [(0, 1, (.k (D.int .i64 (1)))), (1, 1, (.t 14))], none⟩,
  ⟨(some 16), .call false 35 [(.t 12), (.t 15)], none⟩]))))))))))))))))⟩
def a30 : Ann := ⟨[(2, [(18, ⟨false, 0, false⟩), (19, ⟨false, 0, false⟩), (20, ⟨false, 0, false⟩), (0, ⟨true, 0, false⟩)]), (7, [(28, ⟨false, 0, false⟩), (29, ⟨false, 0, false⟩), (30, ⟨false, 0, false⟩), (0, ⟨true, 0, false⟩)])], [], [0]⟩
def s30 : SFun := ⟨2, 38, [0], [],
 (.seq (.seq (.reg [⟨(some 8), .mv (.t 0), none⟩,
  ⟨(some 9), .nilc (.t 8), none⟩,
  ⟨(some 10), .fad 0 (.t 9), none⟩,
  ⟨(some 11), .load false 1 (.t 10), none⟩,
  ⟨(some 12), .bin .neq (.t 11) (.k (D.int .i64 (3))), none⟩])
 (.cond (.t 12)
 (.seq (.seq (.reg [⟨(some 13), .mv (.t 0), none⟩,
  ⟨(some 14), .nilc (.t 13), none⟩,
  ⟨(some 15), .fad 30 (.t 14), none⟩,
  ⟨(some 16), .load false 1 (.t 15), none⟩,
  ⟨(some 17), .mv (.t 1), none⟩,
  ⟨(some 18), .call false 11 [(.t 16), (.t 17)], none⟩,
  ⟨(some 19), .len (.t 18), none⟩,
  ⟨(some 20), .mv (.k (D.int .i64 (0))), none⟩])
 (.block 0 (.loop [(18, ⟨false, 0, false⟩), (19, ⟨false, 0, false⟩), (20, ⟨false, 0, false⟩), (0, ⟨true, 0, false⟩)]
 (.seq (.reg [⟨(some 21), .bin .lss (.t 20) (.t 19), none⟩])
 (.seq (.cond (.t 21)
 .skip
 (.exit 0))
 (.seq (.block 1 (.seq (.reg [⟨(some 22), .ixs 7 (.t 18) (.t 20), none⟩,
  ⟨(some 23), .load true 7 (.t 22), none⟩,
  ⟨(some 5), .alloc [(D.int .i64 (0)), (D.int .i32 (0)), (D.int .u8 (0)), (D.int .u8 (0)), (D.int .u8 (0)), .sn, (D.str [])], none⟩,
  ⟨none, .store 7 (.t 5) (.t 23), none⟩])
 (.reg [⟨(some 24), .mv (.t 0), none⟩,
  ⟨(some 25), .load true 7 (.t 5), none⟩,
  ⟨(some 26), .call false 35 [(.t 24), (.t 25)], none⟩])))
 (.reg [⟨(some 27), .bin .add (.t 20) (.k (D.int .i64 (1))), none⟩,
  ⟨(some 20), .mv (.t 27), none⟩])))))))
 .ret)
 .skip))
 (.seq (.reg [⟨(some 28), .mv (.t 1), none⟩,
  ⟨(some 29), .len (.t 28), none⟩,
  ⟨(some 30), .mv (.k (D.int .i64 (0))), none⟩])
 (.block 2 (.loop [(28, ⟨false, 0, false⟩), (29, ⟨false, 0, false⟩), (30, ⟨false, 0, false⟩), (0, ⟨true, 0, false⟩)]
 (.seq (.reg [⟨(some 31), .bin .lss (.t 30) (.t 29), none⟩])
 (.seq (.cond (.t 31)
 .skip
 (.exit 2))
 (.seq (.block 3 (.seq (.reg [⟨(some 32), .ixs 1 (.t 28) (.t 30), none⟩,
  ⟨(some 33), .load false 1 (.t 32), none⟩,
  ⟨(some 7), .mv (.t 33), none⟩])
 (.reg [⟨(some 34), .mv (.t 0), none⟩,
  ⟨(some 35), .mv (.t 7), none⟩,
  ⟨(some 36), .call false 36 [(.t 34), (.t 35)], none⟩])))
 (.reg [⟨(some 37), .bin .add (.t 30) (.k (D.int .i64 (1))), none⟩,
  ⟨(some 30), .mv (.t 37), none⟩]))))))))⟩
def a31 : Ann := ⟨[], [⟨false, 0, false⟩], [0]⟩
def s31 : SFun := ⟨1, 8, [0], [(.cell 2 true 29, ⟨false, 0, false⟩)],
 (.seq (.reg [⟨(some 2), .alloc [(D.int .i64 (0)), (D.int .i64 (0)), .sn, (D.int .i64 (0)), (D.int .i64 (0)), (D.bool false), (D.int .i64 (0)), (D.int .i64 (0)), (D.int .i64 (0)), (D.int .i64 (0)), (D.int .i64 (0)), (D.int .u64 (0)), (D.int .u8 (0)), (D.int .u8 (0)), (D.int .i64 (0)), (D.bool false), (D.bool false), (D.bool false), (D.bool false), (D.bool false), (D.int .i64 (0)), (D.int .i64 (0)), (D.int .i64 (0)), (D.int .i64 (0)), (D.int .i64 (0)), (D.int .u8 (0)), (D.int .u8 (0)), (D.int .i64 (0)), (D.bool false)], none⟩])
 (.seq (.reg [⟨(some 3), .mv (.t 0), none⟩,
  ⟨(some 4), .nilc (.t 3), none⟩,
  ⟨(some 5), .fad 1 (.t 4), none⟩,
  ⟨(some 6), .load true 29 (.t 5), none⟩,
  ⟨(some 7), .call false 370 [(.t 6)], none⟩,
  ⟨none, .store 29 (.t 2) (.t 7), none⟩])
 .ret))⟩
def a34 : Ann := ⟨[], [⟨false, 0, false⟩], [0]⟩
def s34 : SFun := ⟨1, 15, [0], [(.cell 2 true 6, ⟨false, 0, false⟩)],
 (.seq (.reg [⟨(some 2), .alloc [(D.int .i64 (0)), (D.int .i64 (0)), .sn, (D.int .i64 (0)), (D.int .i64 (0)), (D.bool false)], none⟩])
 (.seq (.reg [⟨(some 4), .mv (.t 0), none⟩,
  ⟨(some 5), .call false 31 [(.t 4)], none⟩,
  ⟨(some 3), .alloc [(D.int .i64 (0)), (D.int .i64 (0)), .sn, (D.int .i64 (0)), (D.int .i64 (0)), (D.bool false), (D.int .i64 (0)), (D.int .i64 (0)), (D.int .i64 (0)), (D.int .i64 (0)), (D.int .i64 (0)), (D.int .u64 (0)), (D.int .u8 (0)), (D.int .u8 (0)), (D.int .i64 (0)), (D.bool false), (D.bool false), (D.bool false), (D.bool false), (D.bool false), (D.int .i64 (0)), (D.int .i64 (0)), (D.int .i64 (0)), (D.int .i64 (0)), (D.int .i64 (0)), (D.int .u8 (0)), (D.int .u8 (0)), (D.int .i64 (0)), (D.bool false)], none⟩,
  ⟨none, .store 29 (.t 3) (.t 5), none⟩])
 (.seq (.reg [⟨(some 6), .fad 0 (.t 3), none⟩,
  ⟨(some 7), .load true 3 (.t 6), none⟩,
  ⟨(some 8), .fad 3 (.t 3), none⟩,
  ⟨(some 9), .load false 1 (.t 8), none⟩,
  ⟨(some 10), .fad 4 (.t 3), none⟩,
  ⟨(some 11), .load false 1 (.t 10), none⟩,
  ⟨(some 12), .fad 17 (.t 3), none⟩,
  ⟨(some 13), .load false 1 (.t 12), none⟩,
  ⟨(some 14), .build [(D.int .i64 (0)), (D.int .i64 (0)), .sn, (D.int .i64 (0)), (D.int .i64 (0)), (D.bool false)] [(0, 3, (.t 7)), (3, 1, (.t 9)), (4, 1, (.t 11)), (5, 1, (.t 13))], none⟩,
  ⟨none, .store 6 (.t 2) (.t 14), none⟩])
 .ret)))⟩
def a33 : Ann := ⟨[], [⟨false, 0, false⟩], [0]⟩
def s33 : SFun := ⟨1, 7, [0], [(.tmp 2, ⟨false, 0, false⟩)],
 (.seq (.reg [⟨(some 2), .mv (.k (D.int .i64 (0))), none⟩])
 (.seq (.reg [⟨(some 3), .mv (.t 0), none⟩,
  ⟨(some 4), .nilc (.t 3), none⟩,
  ⟨(some 5), .fad 33 (.t 4), none⟩,
  ⟨(some 6), .load false 1 (.t 5), none⟩,
  ⟨(some 2), .mv (.t 6), none⟩])
 .ret))⟩
def a209 : Ann := ⟨[], [⟨false, 0, false⟩], []⟩
def s209 : SFun := ⟨0, 53, [], [(.tmp 0, ⟨false, 0, false⟩)],
 (.seq (.reg [⟨(some 0), .mv (.k (D.bool false)), none⟩])
 (.seq (.reg [⟨(some 5), .call false 424 [(.k (D.int .i64 (3))), (.k (D.int .i64 (5))), (.k (D.int .i64 (9)))], none⟩,
  ⟨(some 6), .call false 424 [(.k (D.int .i64 (1))), (.k (D.int .i64 (5))), (.k (D.int .i64 (9)))], none⟩,
  ⟨(some 1), .mv (.t 5), none⟩,
  ⟨(some 2), .mv (.t 6), none⟩])
 (.seq (.seq (.reg [⟨(some 7), .mv (.t 1), none⟩,
  ⟨(some 8), .eqn false (.t 7), none⟩,
  ⟨(some 9), .mv (.t 8), none⟩,
  ⟨(some 10), .mv (.t 2), (some (9, false))⟩,
  ⟨(some 11), .eqn false (.t 10), (some (9, false))⟩,
  ⟨(some 12), .pick (.t 9) (.k (D.bool true)) (.t 11), none⟩,
  ⟨(some 13), .mv (.t 12), none⟩,
  ⟨(some 14), .call false 424 [(.k (D.int .i64 (9))), (.k (D.int .i64 (5))), (.k (D.int .i64 (9)))], (some (13, false))⟩,
  ⟨(some 15), .eqn true (.t 14), (some (13, false))⟩,
  ⟨(some 16), .pick (.t 13) (.k (D.bool true)) (.t 15), none⟩])
 (.cond (.t 16)
 (.seq (.reg [⟨(some 0), .mv (.k (D.bool false)), none⟩])
 .ret)
 .skip))
 (.seq (.reg [⟨(some 17), .mv (.t 1), none⟩,
  ⟨(some 18), .bsl false 1 5 [(D.int .u8 (0))] [(0, (.k (D.int .u8 (27)))), (1, (.k (D.int .u8 (89)))), (2, (.k (D.int .u8 (34)))), (3, (.k (D.int .u8 (35)))), (4, (.k (D.int .u8 (120))))], none⟩,
  ⟨(some 19), .call false 30 [(.t 17), (.t 18)], none⟩])
 (.seq (.reg [⟨(some 20), .mv (.t 2), none⟩,
  ⟨(some 21), .bsl true 1 3 [(D.int .u8 (0))] [(0, (.k (D.int .u8 (27)))), (1, (.k (D.int .u8 (91)))), (2, (.k (D.int .u8 (80))))], none⟩,
  ⟨(some 22), .cvb (.t 21), none⟩,
  ⟨(some 23), .call false 30 [(.t 20), (.t 22)], none⟩])
 (.seq (.reg [⟨(some 25), .mv (.t 1), none⟩,
  ⟨(some 26), .call false 34 [(.t 25)], none⟩,
  ⟨(some 27), .fld true 0 3 (.t 26), none⟩,
  ⟨(some 28), .call false 149 [(.t 27), (.k (D.int .i64 (2))), (.k (D.int .i64 (3)))], none⟩,
  ⟨(some 24), .mv (.t 28), none⟩,
  ⟨(some 29), .ext (.t 24) 0, none⟩,
  ⟨(some 30), .ext (.t 24) 1, none⟩,
  ⟨(some 3), .alloc [(D.int .i32 (0)), (D.int .i64 (0)), (D.int .i64 (0)), (D.int .i64 (0)), (D.int .i64 (0))], none⟩,
  ⟨none, .store 5 (.t 3) (.t 29), none⟩,
  ⟨(some 4), .mv (.t 30), none⟩])
 (.seq (.reg [⟨(some 31), .mv (.t 4), none⟩,
  ⟨(some 32), .mv (.t 31), none⟩,
  ⟨(some 33), .fad 0 (.t 3), (some (32, true))⟩,
  ⟨(some 34), .load false 1 (.t 33), (some (32, true))⟩,
  ⟨(some 35), .bin .eql (.t 34) (.k (D.int .i32 (120))), (some (32, true))⟩,
  ⟨(some 36), .pick (.t 32) (.t 35) (.k (D.bool false)), none⟩,
  ⟨(some 37), .mv (.t 36), none⟩,
  ⟨(some 38), .mv (.t 1), (some (37, true))⟩,
  ⟨(some 39), .call false 33 [(.t 38)], (some (37, true))⟩,
  ⟨(some 40), .bin .eql (.t 39) (.k (D.int .i64 (0))), (some (37, true))⟩,
  ⟨(some 41), .pick (.t 37) (.t 40) (.k (D.bool false)), none⟩,
  ⟨(some 42), .mv (.t 41), none⟩,
  ⟨(some 43), .mv (.t 2), (some (42, true))⟩,
  ⟨(some 44), .call false 33 [(.t 43)], (some (42, true))⟩,
  ⟨(some 45), .bin .eql (.t 44) (.k (D.int .i64 (1))), (some (42, true))⟩,
  ⟨(some 46), .pick (.t 42) (.t 45) (.k (D.bool false)), none⟩,
  ⟨(some 47), .mv (.t 46), none⟩,
  ⟨(some 48), .mv (.t 1), (some (47, true))⟩,
  ⟨(some 49), .call false 34 [(.t 48)], (some (47, true))⟩,
  ⟨(some 50), .fld false 4 1 (.t 49), (some (47, true))⟩,
  ⟨(some 51), .bin .eql (.t 50) (.k (D.int .i64 (4))), (some (47, true))⟩,
  ⟨(some 52), .pick (.t 47) (.t 51) (.k (D.bool false)), none⟩,
  ⟨(some 0), .mv (.t 52), none⟩])
 .ret)))))))⟩
end Go.Proofs.YtbpaojgkkggcgadGreat.LgTTargetRuns
