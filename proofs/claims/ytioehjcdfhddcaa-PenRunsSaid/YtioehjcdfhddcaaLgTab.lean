import Derived.Test.YtioehjcdfhddcaaRows
import Derived.Test.YtioehjcdfhddcaaLgW1
import Derived.RowKit
/-
  The seat's functions, as this work's tool printed them.
-/
namespace Go.Proofs.Ytioehjcdfhddcaa.LgTab
open Go Lg
set_option maxRecDepth 100000
def a290 : Ann := ⟨[], [⟨true, 0, false⟩], []⟩
def s290 : SFun := ⟨0, 2, [], [(.cell 0 true 3, ⟨true, 0, false⟩)],
 (.seq (.reg [⟨(some 0), .alloc [(D.int .i64 (0)), (D.int .i64 (0)), (D.int .i64 (0))], none⟩])
 (.seq (.reg [⟨(some 1), .build [(D.int .i64 (0)), (D.int .i64 (0)), (D.int .i64 (0))] [(0, 1, (.k (D.int .i64 (-1)))), (1, 1, (.k (D.int .i64 (-1))))], none⟩,
  ⟨none, .store 3 (.t 0) (.t 1), none⟩])
 .ret))⟩
def a107 : Ann := ⟨[], [⟨true, 0, false⟩], []⟩
def s107 : SFun := ⟨0, 2, [], [(.cell 0 true 3, ⟨true, 0, false⟩)],
 (.seq (.reg [⟨(some 0), .alloc [(D.int .i64 (0)), (D.int .i64 (0)), (D.int .i64 (0))], none⟩])
 (.seq (.reg [⟨(some 1), .build [(D.int .i64 (0)), (D.int .i64 (0)), (D.int .i64 (0))] [(0, 1, (.k (D.int .i64 (-1)))), (1, 1, (.k (D.int .i64 (-1))))], none⟩,
  ⟨none, .store 3 (.t 0) (.t 1), none⟩])
 .ret))⟩
def a348 : Ann := ⟨[], [⟨false, 0, false⟩], []⟩
def s348 : SFun := ⟨3, 15, [], [(.tmp 6, ⟨false, 0, false⟩)],
 (.seq (.reg [⟨(some 6), .mv (.k (D.bool false)), none⟩])
 (.seq (.reg [⟨(some 7), .mv (.t 0), none⟩,
  ⟨(some 8), .mv (.t 1), none⟩,
  ⟨(some 9), .bin .geq (.t 7) (.t 8), none⟩,
  ⟨(some 10), .mv (.t 9), none⟩,
  ⟨(some 11), .mv (.t 0), (some (10, true))⟩,
  ⟨(some 12), .mv (.t 2), (some (10, true))⟩,
  ⟨(some 13), .bin .leq (.t 11) (.t 12), (some (10, true))⟩,
  ⟨(some 14), .pick (.t 10) (.t 13) (.k (D.bool false)), none⟩,
  ⟨(some 6), .mv (.t 14), none⟩])
 .ret))⟩
def a343 : Ann := ⟨[], [⟨false, 0, false⟩, ⟨false, 0, false⟩], []⟩
def s343 : SFun := ⟨2, 68, [], [(.tmp 4, ⟨false, 0, false⟩), (.tmp 5, ⟨false, 0, false⟩)],
 (.seq (.reg [⟨(some 4), .mv (.k (D.int .i64 (0))), none⟩,
  ⟨(some 5), .mv (.k (D.int .i64 (0))), none⟩])
 (.seq (.block 0 (.seq (.reg [⟨(some 7), .mv (.t 0), none⟩,
  ⟨(some 8), .len (.t 7), none⟩,
  ⟨(some 9), .bin .geq (.t 8) (.k (D.int .i64 (2))), none⟩,
  ⟨(some 10), .mv (.t 9), none⟩,
  ⟨(some 11), .mv (.t 0), (some (10, true))⟩,
  ⟨(some 12), .ixs 1 (.t 11) (.k (D.int .i64 (0))), (some (10, true))⟩,
  ⟨(some 13), .load false 1 (.t 12), (some (10, true))⟩,
  ⟨(some 14), .bin .eql (.t 13) (.k (D.int .i64 (5))), (some (10, true))⟩,
  ⟨(some 15), .pick (.t 10) (.t 14) (.k (D.bool false)), none⟩,
  ⟨(some 6), .mv (.t 15), none⟩])
 (.cond (.t 6)
 (.seq (.seq (.reg [⟨(some 16), .mv (.t 0), none⟩,
  ⟨(some 17), .ixs 1 (.t 16) (.k (D.int .i64 (1))), none⟩,
  ⟨(some 18), .load false 1 (.t 17), none⟩,
  ⟨(some 19), .call false 348 [(.t 18), (.k (D.int .i64 (0))), (.k (D.int .i64 (255)))], none⟩])
 (.cond (.t 19)
 (.reg [⟨(some 20), .mv (.t 0), none⟩,
  ⟨(some 21), .ixs 1 (.t 20) (.k (D.int .i64 (1))), none⟩,
  ⟨(some 22), .load false 1 (.t 21), none⟩,
  ⟨(some 1), .mv (.t 22), none⟩])
 .skip))
 (.seq (.reg [⟨(some 23), .mv (.t 1), none⟩,
  ⟨(some 4), .mv (.t 23), none⟩,
  ⟨(some 5), .mv (.k (D.int .i64 (2))), none⟩])
 .ret))
 (.seq (.reg [⟨(some 25), .mv (.t 0), none⟩,
  ⟨(some 26), .len (.t 25), none⟩,
  ⟨(some 27), .bin .geq (.t 26) (.k (D.int .i64 (4))), none⟩,
  ⟨(some 28), .mv (.t 27), none⟩,
  ⟨(some 29), .mv (.t 0), (some (28, true))⟩,
  ⟨(some 30), .ixs 1 (.t 29) (.k (D.int .i64 (0))), (some (28, true))⟩,
  ⟨(some 31), .load false 1 (.t 30), (some (28, true))⟩,
  ⟨(some 32), .bin .eql (.t 31) (.k (D.int .i64 (2))), (some (28, true))⟩,
  ⟨(some 33), .pick (.t 28) (.t 32) (.k (D.bool false)), none⟩,
  ⟨(some 24), .mv (.t 33), none⟩])
 (.cond (.t 24)
 (.seq (.seq (.reg [⟨(some 34), .mv (.t 0), none⟩,
  ⟨(some 35), .ixs 1 (.t 34) (.k (D.int .i64 (1))), none⟩,
  ⟨(some 36), .load false 1 (.t 35), none⟩,
  ⟨(some 37), .call false 348 [(.t 36), (.k (D.int .i64 (0))), (.k (D.int .i64 (255)))], none⟩,
  ⟨(some 38), .mv (.t 37), none⟩,
  ⟨(some 39), .mv (.t 0), (some (38, true))⟩,
  ⟨(some 40), .ixs 1 (.t 39) (.k (D.int .i64 (2))), (some (38, true))⟩,
  ⟨(some 41), .load false 1 (.t 40), (some (38, true))⟩,
  ⟨(some 42), .call false 348 [(.t 41), (.k (D.int .i64 (0))), (.k (D.int .i64 (255)))], (some (38, true))⟩,
  ⟨(some 43), .pick (.t 38) (.t 42) (.k (D.bool false)), none⟩,
  ⟨(some 44), .mv (.t 43), none⟩,
  ⟨(some 45), .mv (.t 0), (some (44, true))⟩,
  ⟨(some 46), .ixs 1 (.t 45) (.k (D.int .i64 (3))), (some (44, true))⟩,
  ⟨(some 47), .load false 1 (.t 46), (some (44, true))⟩,
  ⟨(some 48), .call false 348 [(.t 47), (.k (D.int .i64 (0))), (.k (D.int .i64 (255)))], (some (44, true))⟩,
  ⟨(some 49), .pick (.t 44) (.t 48) (.k (D.bool false)), none⟩])
 (.cond (.t 49)
 (.dreg [([], false, ⟨(some 50), .mv (.t 0), none⟩),
  ([], false, ⟨(some 51), .ixs 1 (.t 50) (.k (D.int .i64 (1))), none⟩),
  ([], false, ⟨(some 52), .load false 1 (.t 51), none⟩),
  ([], false, ⟨(some 53), .bin .shl (.t 52) (.k (D.int .u64 (16))), none⟩),
  ([], false, ⟨(some 54), .bin .or (.k (D.int .i64 (16777216))) (.t 53), none⟩),
  ([0, 1, 2, 3, 4], false, ⟨(some 55), .mv (.t 0), none⟩),
  ([0, 1, 2, 3, 4], false, ⟨(some 56), .ixs 1 (.t 55) (.k (D.int .i64 (2))), none⟩),
  ([0, 1, 2, 3, 4], false, ⟨(some 57), .load false 1 (.t 56), none⟩),
  ([0, 1, 2, 3, 4], false, ⟨(some 58), .bin .shl (.t 57) (.k (D.int .u64 (8))), none⟩),
  ([], false, ⟨(some 59), .bin .or (.t 54) (.t 58), none⟩),
  ([0, 1, 2, 3, 4, 5, 6, 7, 8, 9], false, ⟨(some 60), .mv (.t 0), none⟩),
  ([0, 1, 2, 3, 4, 5, 6, 7, 8, 9], false, ⟨(some 61), .ixs 1 (.t 60) (.k (D.int .i64 (3))), none⟩),
  ([0, 1, 2, 3, 4, 5, 6, 7, 8, 9], false, ⟨(some 62), .load false 1 (.t 61), none⟩),
  ([], true, ⟨(some 63), .bin .or (.t 59) (.t 62), none⟩),
  ([], true, ⟨(some 1), .mv (.t 63), none⟩)])
 .skip))
 (.seq (.reg [⟨(some 64), .mv (.t 1), none⟩,
  ⟨(some 4), .mv (.t 64), none⟩,
  ⟨(some 5), .mv (.k (D.int .i64 (4))), none⟩])
 .ret))
 .skip)))))
 (.seq (.reg [⟨(some 65), .mv (.t 1), none⟩,
  ⟨(some 66), .mv (.t 0), none⟩,
  ⟨(some 67), .len (.t 66), none⟩,
  ⟨(some 4), .mv (.t 65), none⟩,
  ⟨(some 5), .mv (.t 67), none⟩])
 .ret)))⟩
def a345 : Ann := ⟨[], [⟨true, 1, false⟩], []⟩
def s345 : SFun := ⟨0, 2, [], [(.tmp 0, ⟨true, 1, false⟩)],
 (.seq (.reg [⟨(some 0), .mv (.k .sn), none⟩])
 (.seq (.reg [⟨(some 1), .bsl true 1 8 [(D.int .i64 (0))] [(0, (.k (D.int .i64 (1)))), (1, (.k (D.int .i64 (2)))), (2, (.k (D.int .i64 (3)))), (3, (.k (D.int .i64 (4)))), (4, (.k (D.int .i64 (5)))), (5, (.k (D.int .i64 (7)))), (6, (.k (D.int .i64 (8)))), (7, (.k (D.int .i64 (9))))], none⟩,
  ⟨(some 0), .mv (.t 1), none⟩])
 .ret))⟩
def a344 : Ann := ⟨[(2, [(0, ⟨false, 0, false⟩), (2, ⟨false, 0, false⟩), (5, ⟨false, 0, false⟩), (6, ⟨false, 0, false⟩), (7, ⟨false, 0, false⟩)])], [⟨false, 0, false⟩], []⟩
def s344 : SFun := ⟨1, 18, [], [(.tmp 2, ⟨false, 0, false⟩)],
 (.seq (.reg [⟨(some 2), .mv (.k (D.int .i64 (0))), none⟩])
 (.seq (.seq (.reg [⟨(some 5), .call false 345 [], none⟩,
  ⟨(some 6), .len (.t 5), none⟩,
  ⟨(some 7), .mv (.k (D.int .i64 (0))), none⟩])
 (.block 0 (.loop [(0, ⟨false, 0, false⟩), (2, ⟨false, 0, false⟩), (5, ⟨false, 0, false⟩), (6, ⟨false, 0, false⟩), (7, ⟨false, 0, false⟩)]
 (.seq (.reg [⟨(some 8), .bin .lss (.t 7) (.t 6), none⟩])
 (.seq (.cond (.t 8)
 .skip
 (.exit 0))
 (.seq (.block 1 (.seq (.reg [⟨(some 9), .mv (.t 7), none⟩,
  ⟨(some 10), .ixs 1 (.t 5) (.t 7), none⟩,
  ⟨(some 11), .load false 1 (.t 10), none⟩,
  ⟨(some 3), .mv (.t 9), none⟩,
  ⟨(some 4), .mv (.t 11), none⟩])
 (.seq (.reg [⟨(some 12), .mv (.t 4), none⟩,
  ⟨(some 13), .mv (.t 0), none⟩,
  ⟨(some 14), .bin .eql (.t 12) (.t 13), none⟩])
 (.cond (.t 14)
 (.seq (.reg [⟨(some 15), .mv (.t 3), none⟩,
  ⟨(some 16), .bin .shl (.k (D.int .i64 (1))) (.t 15), none⟩,
  ⟨(some 2), .mv (.t 16), none⟩])
 .ret)
 .skip))))
 (.reg [⟨(some 17), .bin .add (.t 7) (.k (D.int .i64 (1))), none⟩,
  ⟨(some 7), .mv (.t 17), none⟩])))))))
 (.seq (.reg [⟨(some 2), .mv (.k (D.int .i64 (0))), none⟩])
 .ret)))⟩
def a346 : Ann := ⟨[], [⟨true, 0, false⟩], []⟩
def s346 : SFun := ⟨2, 67, [], [(.cell 4 true 3, ⟨true, 0, false⟩)],
 (.seq (.reg [⟨(some 2), .box 3 (.t 0), none⟩,
  ⟨(some 4), .alloc [(D.int .i64 (0)), (D.int .i64 (0)), (D.int .i64 (0))], none⟩])
 (.seq (.block 0 (.seq (.reg [⟨(some 12), .mv (.t 1), none⟩,
  ⟨(some 13), .bin .eql (.t 12) (.k (D.int .i64 (0))), none⟩,
  ⟨(some 11), .mv (.t 13), none⟩])
 (.cond (.t 11)
 (.seq (.reg [⟨(some 14), .call false 107 [], none⟩,
  ⟨none, .store 3 (.t 4) (.t 14), none⟩])
 .ret)
 (.seq (.reg [⟨(some 16), .mv (.t 1), none⟩,
  ⟨(some 17), .bin .eql (.t 16) (.k (D.int .i64 (22))), none⟩,
  ⟨(some 15), .mv (.t 17), none⟩])
 (.cond (.t 15)
 (.reg [⟨(some 18), .fad 2 (.t 2), none⟩,
  ⟨(some 19), .load false 1 (.t 18), none⟩,
  ⟨(some 20), .bin .andNot (.t 19) (.k (D.int .i64 (3))), none⟩,
  ⟨(some 21), .fad 2 (.t 2), none⟩,
  ⟨none, .store 1 (.t 21) (.t 20), none⟩])
 (.seq (.reg [⟨(some 23), .mv (.t 1), none⟩,
  ⟨(some 24), .call false 348 [(.t 23), (.k (D.int .i64 (23))), (.k (D.int .i64 (29)))], none⟩,
  ⟨(some 22), .mv (.t 24), none⟩])
 (.cond (.t 22)
 (.dreg [([], false, ⟨(some 25), .fad 2 (.t 2), none⟩),
  ([], false, ⟨(some 26), .load false 1 (.t 25), none⟩),
  ([0, 1], false, ⟨(some 27), .mv (.t 1), none⟩),
  ([0, 1], false, ⟨(some 28), .bin .sub (.t 27) (.k (D.int .i64 (20))), none⟩),
  ([0, 1], false, ⟨(some 29), .call true 344 [(.t 28)], none⟩),
  ([], true, ⟨(some 30), .bin .andNot (.t 26) (.t 29), none⟩),
  ([], true, ⟨(some 31), .fad 2 (.t 2), none⟩),
  ([], true, ⟨none, .store 1 (.t 31) (.t 30), none⟩)])
 (.seq (.reg [⟨(some 33), .mv (.t 1), none⟩,
  ⟨(some 34), .call false 348 [(.t 33), (.k (D.int .i64 (30))), (.k (D.int .i64 (37)))], none⟩,
  ⟨(some 32), .mv (.t 34), none⟩])
 (.cond (.t 32)
 (.reg [⟨(some 35), .mv (.t 1), none⟩,
  ⟨(some 36), .bin .sub (.t 35) (.k (D.int .i64 (30))), none⟩,
  ⟨(some 37), .fad 0 (.t 2), none⟩,
  ⟨none, .store 1 (.t 37) (.t 36), none⟩])
 (.seq (.reg [⟨(some 39), .mv (.t 1), none⟩,
  ⟨(some 40), .call false 348 [(.t 39), (.k (D.int .i64 (40))), (.k (D.int .i64 (47)))], none⟩,
  ⟨(some 38), .mv (.t 40), none⟩])
 (.cond (.t 38)
 (.reg [⟨(some 41), .mv (.t 1), none⟩,
  ⟨(some 42), .bin .sub (.t 41) (.k (D.int .i64 (40))), none⟩,
  ⟨(some 43), .fad 1 (.t 2), none⟩,
  ⟨none, .store 1 (.t 43) (.t 42), none⟩])
 (.seq (.reg [⟨(some 45), .mv (.t 1), none⟩,
  ⟨(some 46), .call false 348 [(.t 45), (.k (D.int .i64 (90))), (.k (D.int .i64 (97)))], none⟩,
  ⟨(some 44), .mv (.t 46), none⟩])
 (.cond (.t 44)
 (.reg [⟨(some 47), .mv (.t 1), none⟩,
  ⟨(some 48), .bin .sub (.t 47) (.k (D.int .i64 (90))), none⟩,
  ⟨(some 49), .bin .add (.t 48) (.k (D.int .i64 (8))), none⟩,
  ⟨(some 50), .fad 0 (.t 2), none⟩,
  ⟨none, .store 1 (.t 50) (.t 49), none⟩])
 (.seq (.reg [⟨(some 52), .mv (.t 1), none⟩,
  ⟨(some 53), .call false 348 [(.t 52), (.k (D.int .i64 (100))), (.k (D.int .i64 (107)))], none⟩,
  ⟨(some 51), .mv (.t 53), none⟩])
 (.cond (.t 51)
 (.reg [⟨(some 54), .mv (.t 1), none⟩,
  ⟨(some 55), .bin .sub (.t 54) (.k (D.int .i64 (100))), none⟩,
  ⟨(some 56), .bin .add (.t 55) (.k (D.int .i64 (8))), none⟩,
  ⟨(some 57), .fad 1 (.t 2), none⟩,
  ⟨none, .store 1 (.t 57) (.t 56), none⟩])
 (.seq (.reg [⟨(some 59), .mv (.t 1), none⟩,
  ⟨(some 60), .bin .eql (.t 59) (.k (D.int .i64 (39))), none⟩,
  ⟨(some 58), .mv (.t 60), none⟩])
 (.cond (.t 58)
 (.reg [⟨(some 61), .fad 0 (.t 2), none⟩,
  ⟨none, .store 1 (.t 61) (.k (D.int .i64 (-1))), none⟩])
 (.seq (.reg [⟨(some 63), .mv (.t 1), none⟩,
  ⟨(some 64), .bin .eql (.t 63) (.k (D.int .i64 (49))), none⟩,
  ⟨(some 62), .mv (.t 64), none⟩])
 (.cond (.t 62)
 (.reg [⟨(some 65), .fad 1 (.t 2), none⟩,
  ⟨none, .store 1 (.t 65) (.k (D.int .i64 (-1))), none⟩])
 (.dreg [([], false, ⟨(some 5), .fad 2 (.t 2), none⟩),
  ([], false, ⟨(some 6), .load false 1 (.t 5), none⟩),
  ([0, 1], false, ⟨(some 7), .mv (.t 1), none⟩),
  ([0, 1], false, ⟨(some 8), .call true 344 [(.t 7)], none⟩),
  ([], true, ⟨(some 9), .bin .or (.t 6) (.t 8), none⟩),
  ([], true, ⟨(some 10), .fad 2 (.t 2), none⟩),
  ([], true, ⟨none, .store 1 (.t 10) (.t 9), none⟩)]))))))))))))))))))))
 (.seq (.reg [⟨(some 66), .load true 3 (.t 2), none⟩,
  ⟨none, .store 3 (.t 4) (.t 66), none⟩])
 .ret)))⟩
def a340 : Ann := ⟨[(5, [(17, ⟨false, 0, false⟩), (18, ⟨false, 0, false⟩), (19, ⟨false, 0, false⟩), (2, ⟨true, 0, false⟩), (4, ⟨true, 0, false⟩), (5, ⟨true, 1, false⟩)]), (11, [(5, ⟨false, 0, false⟩), (2, ⟨true, 0, false⟩), (4, ⟨true, 0, false⟩)])], [⟨true, 0, false⟩], []⟩
def s340 : SFun := ⟨2, 70, [], [(.cell 4 true 3, ⟨true, 0, false⟩)],
 (.seq (.reg [⟨(some 2), .box 3 (.t 0), none⟩,
  ⟨(some 4), .alloc [(D.int .i64 (0)), (D.int .i64 (0)), (D.int .i64 (0))], none⟩])
 (.seq (.seq (.reg [⟨(some 10), .mv (.t 1), none⟩,
  ⟨(some 11), .len (.t 10), none⟩,
  ⟨(some 12), .bin .eql (.t 11) (.k (D.int .i64 (0))), none⟩])
 (.cond (.t 12)
 (.seq (.reg [⟨(some 13), .call false 107 [], none⟩,
  ⟨none, .store 3 (.t 4) (.t 13), none⟩])
 .ret)
 .skip))
 (.seq (.reg [⟨(some 14), .mv (.t 1), none⟩,
  ⟨(some 15), .len (.t 14), none⟩,
  ⟨(some 16), .mksl 1 8 [(D.int .i64 (0))] (.t 15), none⟩,
  ⟨(some 5), .mv (.t 16), none⟩])
 (.seq (.seq (.reg [⟨(some 17), .mv (.t 1), none⟩,
  ⟨(some 18), .len (.t 17), none⟩,
  ⟨(some 19), .mv (.k (D.int .i64 (0))), none⟩])
 (.block 0 (.loop [(17, ⟨false, 0, false⟩), (18, ⟨false, 0, false⟩), (19, ⟨false, 0, false⟩), (2, ⟨true, 0, false⟩), (4, ⟨true, 0, false⟩), (5, ⟨true, 1, false⟩)]
 (.seq (.reg [⟨(some 20), .bin .lss (.t 19) (.t 18), none⟩])
 (.seq (.cond (.t 20)
 .skip
 (.exit 0))
 (.seq (.block 1 (.seq (.reg [⟨(some 21), .mv (.t 19), none⟩,
  ⟨(some 22), .ixs 1 (.t 17) (.t 19), none⟩,
  ⟨(some 23), .load false 1 (.t 22), none⟩,
  ⟨(some 6), .mv (.t 21), none⟩,
  ⟨(some 7), .mv (.t 23), none⟩])
 (.seq (.reg [⟨(some 24), .mv (.t 5), none⟩,
  ⟨(some 25), .mv (.t 6), none⟩,
  ⟨(some 26), .mv (.t 7), none⟩,
  ⟨(some 27), .ixs 1 (.t 24) (.t 25), none⟩,
  ⟨none, .store 1 (.t 27) (.t 26), none⟩])
 (.seq (.reg [⟨(some 28), .mv (.t 7), none⟩,
  ⟨(some 29), .bin .eql (.t 28) (.k (D.int .i64 (-1))), none⟩])
 (.cond (.t 29)
 (.reg [⟨(some 30), .mv (.t 5), none⟩,
  ⟨(some 31), .mv (.t 6), none⟩,
  ⟨(some 32), .ixs 1 (.t 30) (.t 31), none⟩,
  ⟨none, .store 1 (.t 32) (.k (D.int .i64 (0))), none⟩])
 .skip)))))
 (.reg [⟨(some 33), .bin .add (.t 19) (.k (D.int .i64 (1))), none⟩,
  ⟨(some 19), .mv (.t 33), none⟩])))))))
 (.seq (.block 2 (.loop [(5, ⟨false, 0, false⟩), (2, ⟨true, 0, false⟩), (4, ⟨true, 0, false⟩)]
 (.seq (.seq (.reg [⟨(some 34), .mv (.t 5), none⟩,
  ⟨(some 35), .len (.t 34), none⟩,
  ⟨(some 36), .bin .gtr (.t 35) (.k (D.int .i64 (0))), none⟩])
 (.cond (.t 36)
 .skip
 (.exit 2)))
 (.block 3 (.seq (.reg [⟨(some 37), .mv (.t 5), none⟩,
  ⟨(some 38), .ixs 1 (.t 37) (.k (D.int .i64 (0))), none⟩,
  ⟨(some 39), .load false 1 (.t 38), none⟩,
  ⟨(some 8), .mv (.t 39), none⟩,
  ⟨(some 9), .mv (.k (D.int .i64 (0))), none⟩])
 (.seq (.reg [⟨(some 40), .mv (.t 5), none⟩,
  ⟨(some 41), .slc 1 (.t 40) (some (.k (D.int .i64 (1)))) none, none⟩,
  ⟨(some 5), .mv (.t 41), none⟩])
 (.seq (.seq (.reg [⟨(some 42), .mv (.t 8), none⟩])
 (.block 4 (.seq (.reg [⟨(some 47), .bin .eql (.t 42) (.k (D.int .i64 (38))), none⟩,
  ⟨(some 46), .mv (.t 47), none⟩])
 (.cond (.t 46)
 (.reg [⟨(some 49), .mv (.t 5), none⟩,
  ⟨(some 50), .fad 0 (.t 2), none⟩,
  ⟨(some 51), .load false 1 (.t 50), none⟩,
  ⟨(some 52), .call false 343 [(.t 49), (.t 51)], none⟩,
  ⟨(some 48), .mv (.t 52), none⟩,
  ⟨(some 53), .ext (.t 48) 0, none⟩,
  ⟨(some 54), .ext (.t 48) 1, none⟩,
  ⟨(some 55), .fad 0 (.t 2), none⟩,
  ⟨none, .store 1 (.t 55) (.t 53), none⟩,
  ⟨(some 9), .mv (.t 54), none⟩])
 (.seq (.reg [⟨(some 57), .bin .eql (.t 42) (.k (D.int .i64 (48))), none⟩,
  ⟨(some 56), .mv (.t 57), none⟩])
 (.cond (.t 56)
 (.reg [⟨(some 59), .mv (.t 5), none⟩,
  ⟨(some 60), .fad 1 (.t 2), none⟩,
  ⟨(some 61), .load false 1 (.t 60), none⟩,
  ⟨(some 62), .call false 343 [(.t 59), (.t 61)], none⟩,
  ⟨(some 58), .mv (.t 62), none⟩,
  ⟨(some 63), .ext (.t 58) 0, none⟩,
  ⟨(some 64), .ext (.t 58) 1, none⟩,
  ⟨(some 65), .fad 1 (.t 2), none⟩,
  ⟨none, .store 1 (.t 65) (.t 63), none⟩,
  ⟨(some 9), .mv (.t 64), none⟩])
 (.reg [⟨(some 43), .load true 3 (.t 2), none⟩,
  ⟨(some 44), .mv (.t 8), none⟩,
  ⟨(some 45), .call false 346 [(.t 43), (.t 44)], none⟩,
  ⟨none, .store 3 (.t 2) (.t 45), none⟩])))))))
 (.reg [⟨(some 66), .mv (.t 5), none⟩,
  ⟨(some 67), .mv (.t 9), none⟩,
  ⟨(some 68), .slc 1 (.t 66) (some (.t 67)) none, none⟩,
  ⟨(some 5), .mv (.t 68), none⟩]))))))))
 (.seq (.reg [⟨(some 69), .load true 3 (.t 2), none⟩,
  ⟨none, .store 3 (.t 4) (.t 69), none⟩])
 .ret))))))⟩
def a347 : Ann := ⟨[], [⟨true, 1, false⟩], []⟩
def s347 : SFun := ⟨2, 42, [], [(.tmp 4, ⟨true, 1, false⟩)],
 (.seq (.reg [⟨(some 4), .mv (.k .sn), none⟩])
 (.seq (.block 0 (.seq (.reg [⟨(some 6), .mv (.t 0), none⟩,
  ⟨(some 7), .bin .eql (.t 6) (.k (D.int .i64 (-1))), none⟩,
  ⟨(some 5), .mv (.t 7), none⟩])
 (.cond (.t 5)
 (.seq (.reg [⟨(some 4), .mv (.k .sn), none⟩])
 .ret)
 (.seq (.reg [⟨(some 9), .mv (.t 0), none⟩,
  ⟨(some 10), .bin .lss (.t 9) (.k (D.int .i64 (8))), none⟩,
  ⟨(some 8), .mv (.t 10), none⟩])
 (.cond (.t 8)
 (.seq (.reg [⟨(some 11), .mv (.t 1), none⟩,
  ⟨(some 12), .mv (.t 0), none⟩,
  ⟨(some 13), .bin .add (.t 11) (.t 12), none⟩,
  ⟨(some 14), .bsl true 1 1 [(D.int .i64 (0))] [(0, (.t 13))], none⟩,
  ⟨(some 4), .mv (.t 14), none⟩])
 .ret)
 (.seq (.reg [⟨(some 16), .mv (.t 0), none⟩,
  ⟨(some 17), .bin .lss (.t 16) (.k (D.int .i64 (16))), none⟩,
  ⟨(some 15), .mv (.t 17), none⟩])
 (.cond (.t 15)
 (.seq (.reg [⟨(some 18), .mv (.t 1), none⟩,
  ⟨(some 19), .bin .add (.t 18) (.k (D.int .i64 (60))), none⟩,
  ⟨(some 20), .mv (.t 0), none⟩,
  ⟨(some 21), .bin .add (.t 19) (.t 20), none⟩,
  ⟨(some 22), .bin .sub (.t 21) (.k (D.int .i64 (8))), none⟩,
  ⟨(some 23), .bsl true 1 1 [(D.int .i64 (0))] [(0, (.t 22))], none⟩,
  ⟨(some 4), .mv (.t 23), none⟩])
 .ret)
 (.seq (.reg [⟨(some 25), .mv (.t 0), none⟩,
  ⟨(some 26), .bin .leq (.t 25) (.k (D.int .i64 (255))), none⟩,
  ⟨(some 24), .mv (.t 26), none⟩])
 (.cond (.t 24)
 (.seq (.reg [⟨(some 27), .mv (.t 1), none⟩,
  ⟨(some 28), .bin .add (.t 27) (.k (D.int .i64 (8))), none⟩,
  ⟨(some 29), .mv (.t 0), none⟩,
  ⟨(some 30), .bsl true 1 3 [(D.int .i64 (0))] [(0, (.t 28)), (1, (.k (D.int .i64 (5)))), (2, (.t 29))], none⟩,
  ⟨(some 4), .mv (.t 30), none⟩])
 .ret)
 .skip)))))))))
 (.seq (.reg [⟨(some 31), .mv (.t 1), none⟩,
  ⟨(some 32), .bin .add (.t 31) (.k (D.int .i64 (8))), none⟩,
  ⟨(some 33), .mv (.t 0), none⟩,
  ⟨(some 34), .bin .shr (.t 33) (.k (D.int .u64 (16))), none⟩,
  ⟨(some 35), .bin .and (.t 34) (.k (D.int .i64 (255))), none⟩,
  ⟨(some 36), .mv (.t 0), none⟩,
  ⟨(some 37), .bin .shr (.t 36) (.k (D.int .u64 (8))), none⟩,
  ⟨(some 38), .bin .and (.t 37) (.k (D.int .i64 (255))), none⟩,
  ⟨(some 39), .mv (.t 0), none⟩,
  ⟨(some 40), .bin .and (.t 39) (.k (D.int .i64 (255))), none⟩,
  ⟨(some 41), .bsl true 1 5 [(D.int .i64 (0))] [(0, (.t 32)), (1, (.k (D.int .i64 (2)))), (2, (.t 35)), (3, (.t 38)), (4, (.t 40))], none⟩,
  ⟨(some 4), .mv (.t 41), none⟩])
 .ret)))⟩
def a342 : Ann := ⟨[(3, [(7, ⟨false, 0, false⟩), (8, ⟨false, 0, false⟩), (9, ⟨false, 0, false⟩), (1, ⟨true, 0, false⟩), (3, ⟨true, 1, false⟩)])], [⟨true, 1, false⟩], []⟩
def s342 : SFun := ⟨1, 34, [], [(.tmp 2, ⟨true, 1, false⟩)],
 (.seq (.reg [⟨(some 1), .box 3 (.t 0), none⟩,
  ⟨(some 2), .mv (.k .sn), none⟩])
 (.seq (.reg [⟨(some 6), .bsl true 1 1 [(D.int .i64 (0))] [(0, (.k (D.int .i64 (0))))], none⟩,
  ⟨(some 3), .mv (.t 6), none⟩])
 (.seq (.seq (.reg [⟨(some 7), .call false 345 [], none⟩,
  ⟨(some 8), .len (.t 7), none⟩,
  ⟨(some 9), .mv (.k (D.int .i64 (0))), none⟩])
 (.block 0 (.loop [(7, ⟨false, 0, false⟩), (8, ⟨false, 0, false⟩), (9, ⟨false, 0, false⟩), (1, ⟨true, 0, false⟩), (3, ⟨true, 1, false⟩)]
 (.seq (.reg [⟨(some 10), .bin .lss (.t 9) (.t 8), none⟩])
 (.seq (.cond (.t 10)
 .skip
 (.exit 0))
 (.seq (.block 1 (.seq (.reg [⟨(some 11), .mv (.t 9), none⟩,
  ⟨(some 12), .ixs 1 (.t 7) (.t 9), none⟩,
  ⟨(some 13), .load false 1 (.t 12), none⟩,
  ⟨(some 4), .mv (.t 11), none⟩,
  ⟨(some 5), .mv (.t 13), none⟩])
 (.seq (.reg [⟨(some 14), .fad 2 (.t 1), none⟩,
  ⟨(some 15), .load false 1 (.t 14), none⟩,
  ⟨(some 16), .mv (.t 4), none⟩,
  ⟨(some 17), .bin .shr (.t 15) (.t 16), none⟩,
  ⟨(some 18), .bin .and (.t 17) (.k (D.int .i64 (1))), none⟩,
  ⟨(some 19), .bin .eql (.t 18) (.k (D.int .i64 (1))), none⟩])
 (.cond (.t 19)
 (.reg [⟨(some 20), .mv (.t 3), none⟩,
  ⟨(some 21), .mv (.t 5), none⟩,
  ⟨(some 22), .bsl false 1 1 [(D.int .i64 (0))] [(0, (.t 21))], none⟩,
  ⟨(some 23), .append 1 8 (.t 20) (.t 22), none⟩,
  ⟨(some 3), .mv (.t 23), none⟩])
 .skip))))
 (.reg [⟨(some 24), .bin .add (.t 9) (.k (D.int .i64 (1))), none⟩,
  ⟨(some 9), .mv (.t 24), none⟩])))))))
 (.seq (.dreg [([], false, ⟨(some 25), .mv (.t 3), none⟩),
  ([0], false, ⟨(some 26), .fad 0 (.t 1), none⟩),
  ([0], false, ⟨(some 27), .load false 1 (.t 26), none⟩),
  ([0], false, ⟨(some 28), .call true 347 [(.t 27), (.k (D.int .i64 (30)))], none⟩),
  ([], false, ⟨(some 29), .append 1 8 (.t 25) (.t 28), none⟩),
  ([0, 1, 2, 3, 4], false, ⟨(some 30), .fad 1 (.t 1), none⟩),
  ([0, 1, 2, 3, 4], false, ⟨(some 31), .load false 1 (.t 30), none⟩),
  ([], true, ⟨(some 32), .call false 347 [(.t 31), (.k (D.int .i64 (40)))], none⟩),
  ([], true, ⟨(some 33), .append 1 8 (.t 29) (.t 32), none⟩),
  ([], true, ⟨(some 2), .mv (.t 33), none⟩)])
 .ret))))⟩
def a172 : Ann := ⟨[(4, [(0, ⟨false, 0, false⟩), (1, ⟨false, 0, false⟩), (4, ⟨false, 0, false⟩), (5, ⟨false, 0, false⟩)])], [⟨false, 0, false⟩], []⟩
def s172 : SFun := ⟨2, 26, [], [(.tmp 4, ⟨false, 0, false⟩)],
 (.seq (.reg [⟨(some 4), .mv (.k (D.bool false)), none⟩])
 (.seq (.seq (.reg [⟨(some 6), .mv (.t 0), none⟩,
  ⟨(some 7), .len (.t 6), none⟩,
  ⟨(some 8), .mv (.t 1), none⟩,
  ⟨(some 9), .len (.t 8), none⟩,
  ⟨(some 10), .bin .neq (.t 7) (.t 9), none⟩])
 (.cond (.t 10)
 (.seq (.reg [⟨(some 4), .mv (.k (D.bool false)), none⟩])
 .ret)
 .skip))
 (.seq (.seq (.reg [⟨(some 5), .mv (.k (D.int .i64 (0))), none⟩])
 (.block 0 (.loop [(0, ⟨false, 0, false⟩), (1, ⟨false, 0, false⟩), (4, ⟨false, 0, false⟩), (5, ⟨false, 0, false⟩)]
 (.seq (.seq (.reg [⟨(some 11), .mv (.t 5), none⟩,
  ⟨(some 12), .mv (.t 0), none⟩,
  ⟨(some 13), .len (.t 12), none⟩,
  ⟨(some 14), .bin .lss (.t 11) (.t 13), none⟩])
 (.cond (.t 14)
 .skip
 (.exit 0)))
 (.seq (.block 1 (.seq (.dreg [([], false, ⟨(some 17), .mv (.t 0), none⟩),
  ([0], false, ⟨(some 18), .mv (.t 5), none⟩),
  ([], false, ⟨(some 19), .ixs 1 (.t 17) (.t 18), none⟩),
  ([], false, ⟨(some 20), .load false 1 (.t 19), none⟩),
  ([0, 1, 2, 3], false, ⟨(some 21), .mv (.t 1), none⟩),
  ([0, 1, 2, 3, 4], false, ⟨(some 22), .mv (.t 5), none⟩),
  ([0, 1, 2, 3], false, ⟨(some 23), .ixs 1 (.t 21) (.t 22), none⟩),
  ([0, 1, 2, 3], false, ⟨(some 24), .load false 1 (.t 23), none⟩),
  ([], true, ⟨(some 25), .bin .neq (.t 20) (.t 24), none⟩)])
 (.cond (.t 25)
 (.seq (.reg [⟨(some 4), .mv (.k (D.bool false)), none⟩])
 .ret)
 .skip)))
 (.reg [⟨(some 15), .mv (.t 5), none⟩,
  ⟨(some 16), .bin .add (.t 15) (.k (D.int .i64 (1))), none⟩,
  ⟨(some 5), .mv (.t 16), none⟩]))))))
 (.seq (.reg [⟨(some 4), .mv (.k (D.bool true)), none⟩])
 .ret))))⟩
def a341 : Ann := ⟨[], [⟨true, 1, false⟩], []⟩
def s341 : SFun := ⟨2, 10, [], [(.tmp 4, ⟨true, 1, false⟩)],
 (.seq (.reg [⟨(some 2), .box 3 (.t 0), none⟩,
  ⟨(some 3), .box 3 (.t 1), none⟩,
  ⟨(some 4), .mv (.k .sn), none⟩])
 (.seq (.seq (.reg [⟨(some 5), .load true 3 (.t 2), none⟩,
  ⟨(some 6), .load true 3 (.t 3), none⟩,
  ⟨(some 7), .eqa false [1, 1, 1] (.t 5) (.t 6), none⟩])
 (.cond (.t 7)
 (.seq (.reg [⟨(some 4), .mv (.k .sn), none⟩])
 .ret)
 .skip))
 (.seq (.reg [⟨(some 8), .load true 3 (.t 3), none⟩,
  ⟨(some 9), .call false 342 [(.t 8)], none⟩,
  ⟨(some 4), .mv (.t 9), none⟩])
 .ret)))⟩
def a184 : Ann := ⟨[], [⟨false, 0, false⟩], []⟩
def s184 : SFun := ⟨0, 27, [], [(.tmp 0, ⟨false, 0, false⟩)],
 (.seq (.reg [⟨(some 0), .mv (.k (D.bool false)), none⟩])
 (.seq (.reg [⟨(some 2), .call false 290 [], none⟩,
  ⟨(some 3), .bsl false 1 5 [(D.int .i64 (0))] [(0, (.k (D.int .i64 (1)))), (1, (.k (D.int .i64 (38)))), (2, (.k (D.int .i64 (5)))), (3, (.k (D.int .i64 (200)))), (4, (.k (D.int .i64 (4))))], none⟩,
  ⟨(some 4), .call false 340 [(.t 2), (.t 3)], none⟩,
  ⟨(some 1), .alloc [(D.int .i64 (0)), (D.int .i64 (0)), (D.int .i64 (0))], none⟩,
  ⟨none, .store 3 (.t 1) (.t 4), none⟩])
 (.seq (.reg [⟨(some 5), .load true 3 (.t 1), none⟩,
  ⟨(some 6), .build [(D.int .i64 (0)), (D.int .i64 (0)), (D.int .i64 (0))] [(0, 1, (.k (D.int .i64 (200)))), (1, 1, (.k (D.int .i64 (-1)))), (2, 1, (.k (D.int .i64 (9))))], none⟩,
  ⟨(some 7), .eqa false [1, 1, 1] (.t 5) (.t 6), none⟩,
  ⟨(some 8), .mv (.t 7), none⟩,
  ⟨(some 9), .load true 3 (.t 1), (some (8, true))⟩,
  ⟨(some 10), .call false 342 [(.t 9)], (some (8, true))⟩,
  ⟨(some 11), .bsl false 1 6 [(D.int .i64 (0))] [(0, (.k (D.int .i64 (0)))), (1, (.k (D.int .i64 (1)))), (2, (.k (D.int .i64 (4)))), (3, (.k (D.int .i64 (38)))), (4, (.k (D.int .i64 (5)))), (5, (.k (D.int .i64 (200))))], (some (8, true))⟩,
  ⟨(some 12), .call false 172 [(.t 10), (.t 11)], (some (8, true))⟩,
  ⟨(some 13), .pick (.t 8) (.t 12) (.k (D.bool false)), none⟩,
  ⟨(some 14), .mv (.t 13), none⟩,
  ⟨(some 15), .load true 3 (.t 1), (some (14, true))⟩,
  ⟨(some 16), .call false 340 [(.t 15), (.k .sn)], (some (14, true))⟩,
  ⟨(some 17), .call false 290 [], (some (14, true))⟩,
  ⟨(some 18), .eqa false [1, 1, 1] (.t 16) (.t 17), (some (14, true))⟩,
  ⟨(some 19), .pick (.t 14) (.t 18) (.k (D.bool false)), none⟩,
  ⟨(some 20), .mv (.t 19), none⟩,
  ⟨(some 21), .load true 3 (.t 1), (some (20, true))⟩,
  ⟨(some 22), .load true 3 (.t 1), (some (20, true))⟩,
  ⟨(some 23), .call false 341 [(.t 21), (.t 22)], (some (20, true))⟩,
  ⟨(some 24), .len (.t 23), (some (20, true))⟩,
  ⟨(some 25), .bin .eql (.t 24) (.k (D.int .i64 (0))), (some (20, true))⟩,
  ⟨(some 26), .pick (.t 20) (.t 25) (.k (D.bool false)), none⟩,
  ⟨(some 0), .mv (.t 26), none⟩])
 .ret)))⟩
def ns : List Nat := [441, 86, 87, 202, 204, 203, 201, 184, 186, 185, 183, 182, 132, 172, 131, 63, 174, 133, 260, 134, 135, 340, 290, 342, 341, 170, 65, 281, 169, 275, 136, 107, 343, 346, 345, 347, 180, 316, 348, 344, 299, 78, 79, 82, 83, 84, 85, 80, 81, 49, 50, 47, 48, 0, 60, 61, 59]
theorem nsND : ns.Nodup := by decide +kernel
def tab : List Row := [⟨290, 22, true, false, a290, s290⟩, ⟨107, 31, true, false, a107, s107⟩, ⟨348, 38, true, false, a348, s348⟩, ⟨343, 32, true, false, a343, s343⟩, ⟨345, 34, true, false, a345, s345⟩, ⟨344, 39, true, false, a344, s344⟩, ⟨346, 33, true, false, a346, s346⟩, ⟨340, 21, true, false, a340, s340⟩, ⟨347, 35, true, false, a347, s347⟩, ⟨342, 23, true, false, a342, s342⟩, ⟨172, 13, true, false, a172, s172⟩, ⟨341, 24, true, false, a341, s341⟩, ⟨184, 7, true, false, a184, s184⟩]
theorem ok290 : RowOK Try.prog ns ⟨290, 22, true, false, a290, s290⟩ := ⟨by kernel_rfl, by kernel_rfl, by kernel_rfl⟩
theorem ok107 : RowOK Try.prog ns ⟨107, 31, true, false, a107, s107⟩ := ⟨by kernel_rfl, by kernel_rfl, by kernel_rfl⟩
theorem ok348 : RowOK Try.prog ns ⟨348, 38, true, false, a348, s348⟩ := ⟨by kernel_rfl, by kernel_rfl, by kernel_rfl⟩
theorem ok343 : RowOK Try.prog ns ⟨343, 32, true, false, a343, s343⟩ := ⟨by kernel_rfl, by kernel_rfl, by kernel_rfl⟩
theorem ok345 : RowOK Try.prog ns ⟨345, 34, true, false, a345, s345⟩ := ⟨by kernel_rfl, by kernel_rfl, by kernel_rfl⟩
theorem ok344 : RowOK Try.prog ns ⟨344, 39, true, false, a344, s344⟩ := ⟨by kernel_rfl, by kernel_rfl, by kernel_rfl⟩
theorem ok346 : RowOK Try.prog ns ⟨346, 33, true, false, a346, s346⟩ := ⟨by kernel_rfl, by kernel_rfl, by kernel_rfl⟩
theorem ok340 : RowOK Try.prog ns ⟨340, 21, true, false, a340, s340⟩ := ⟨by kernel_rfl, by kernel_rfl, by kernel_rfl⟩
theorem ok347 : RowOK Try.prog ns ⟨347, 35, true, false, a347, s347⟩ := ⟨by kernel_rfl, by kernel_rfl, by kernel_rfl⟩
theorem ok342 : RowOK Try.prog ns ⟨342, 23, true, false, a342, s342⟩ := ⟨by kernel_rfl, by kernel_rfl, by kernel_rfl⟩
theorem ok172 : RowOK Try.prog ns ⟨172, 13, true, false, a172, s172⟩ := ⟨by kernel_rfl, by kernel_rfl, by kernel_rfl⟩
theorem ok341 : RowOK Try.prog ns ⟨341, 24, true, false, a341, s341⟩ := ⟨by kernel_rfl, by kernel_rfl, by kernel_rfl⟩
theorem ok184 : RowOK Try.prog ns ⟨184, 7, true, false, a184, s184⟩ := ⟨by kernel_rfl, by kernel_rfl, by kernel_rfl⟩
theorem tabOK : ∀ r, r ∈ tab → RowOK Try.prog ns r := by
  intro r hr
  simp only [tab, List.mem_cons, List.not_mem_nil, or_false] at hr
  rcases hr with rfl | rfl | rfl | rfl | rfl | rfl | rfl | rfl | rfl | rfl | rfl | rfl | rfl
  · exact ok290
  · exact ok107
  · exact ok348
  · exact ok343
  · exact ok345
  · exact ok344
  · exact ok346
  · exact ok340
  · exact ok347
  · exact ok342
  · exact ok172
  · exact ok341
  · exact ok184
theorem mix : Try.prog.follows .mixedOrders = true := by kernel_rfl
theorem sound184 : SoundFn Try.prog (fidOf ns) 7 (evFun (clOf (modsR tab 12) 3) s184) :=
  fun_sound (num_fid nsND) mix (tab_sound nsND mix tabOK 12) 3 ok184.2.2
end Go.Proofs.Ytioehjcdfhddcaa.LgTab
