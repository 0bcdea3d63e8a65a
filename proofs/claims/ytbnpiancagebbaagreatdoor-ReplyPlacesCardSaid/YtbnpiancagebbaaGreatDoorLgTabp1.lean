import Derived.Test.YtbnpiancagebbaaGreatDoorRows
import Derived.Test.YtbnpiancagebbaaGreatDoorLgW1
import Derived.RowKit
/-
  The seat's functions, as this work's tool printed them.
-/
namespace Go.Proofs.YtbnpiancagebbaaGreatDoor.LgTab
open Go Lg
set_option maxRecDepth 100000
def a348 : Ann := ⟨[], [⟨false, 0, false⟩], []⟩
def s348 : SFun := ⟨3, 15, [], [(.tmp 6, ⟨false, 0, false⟩)],
 (.seq (.reg [⟨(some 6), .mv (.k (D.bool false)), none⟩])
 (.seq (.reg [⟨(some 7), .mv (.t 0), none⟩,
  ⟨(some 8), .mv (.t 1), none⟩,
  ⟨(some 9), .bin .geq (.t 7) (.t 8), none⟩,
  ⟨(some 10), .mv (.t 9), none⟩,
  ⟨(some 11), .mv (.t 0), (some (10, true))⟩,
  ⟨(some 12), .mv (.t 2), (some (10, true))⟩,
  ⟨(some 13), .bin .leq (.t 11) (.t 12), (some (10, true))⟩,
  ⟨(some 14), .pick (.t 10) (.t 13) (.k (D.bool false)), none⟩,
  ⟨(some 6), .mv (.t 14), none⟩])
 .ret))⟩
def a343 : Ann := ⟨[], [⟨false, 0, false⟩, ⟨false, 0, false⟩], []⟩
def s343 : SFun := ⟨2, 68, [], [(.tmp 4, ⟨false, 0, false⟩), (.tmp 5, ⟨false, 0, false⟩)],
 (.seq (.reg [⟨(some 4), .mv (.k (D.int .i64 (0))), none⟩,
  ⟨(some 5), .mv (.k (D.int .i64 (0))), none⟩])
 (.seq (.block 0 (.seq (.reg [⟨(some 7), .mv (.t 0), none⟩,
  ⟨(some 8), .len (.t 7), none⟩,
  ⟨(some 9), .bin .geq (.t 8) (.k (D.int .i64 (2))), none⟩,
  ⟨(some 10), .mv (.t 9), none⟩,
  ⟨(some 11), .mv (.t 0), (some (10, true))⟩,
  ⟨(some 12), .ixs 1 (.t 11) (.k (D.int .i64 (0))), (some (10, true))⟩,
  ⟨(some 13), .load false 1 (.t 12), (some (10, true))⟩,
  ⟨(some 14), .bin .eql (.t 13) (.k (D.int .i64 (5))), (some (10, true))⟩,
  ⟨(some 15), .pick (.t 10) (.t 14) (.k (D.bool false)), none⟩,
  ⟨(some 6), .mv (.t 15), none⟩])
 (.cond (.t 6)
 (.seq (.seq (.reg [⟨(some 16), .mv (.t 0), none⟩,
  ⟨(some 17), .ixs 1 (.t 16) (.k (D.int .i64 (1))), none⟩,
  ⟨(some 18), .load false 1 (.t 17), none⟩,
  ⟨(some 19), .call false 348 [(.t 18), (.k (D.int .i64 (0))), (.k (D.int .i64 (255)))], none⟩])
 (.cond (.t 19)
 (.reg [⟨(some 20), .mv (.t 0), none⟩,
  ⟨(some 21), .ixs 1 (.t 20) (.k (D.int .i64 (1))), none⟩,
  ⟨(some 22), .load false 1 (.t 21), none⟩,
  ⟨(some 1), .mv (.t 22), none⟩])
 .skip))
 (.seq (.reg [⟨(some 23), .mv (.t 1), none⟩,
  ⟨(some 4), .mv (.t 23), none⟩,
  ⟨(some 5), .mv (.k (D.int .i64 (2))), none⟩])
 .ret))
 (.seq (.reg [⟨(some 25), .mv (.t 0), none⟩,
  ⟨(some 26), .len (.t 25), none⟩,
  ⟨(some 27), .bin .geq (.t 26) (.k (D.int .i64 (4))), none⟩,
  ⟨(some 28), .mv (.t 27), none⟩,
  ⟨(some 29), .mv (.t 0), (some (28, true))⟩,
  ⟨(some 30), .ixs 1 (.t 29) (.k (D.int .i64 (0))), (some (28, true))⟩,
  ⟨(some 31), .load false 1 (.t 30), (some (28, true))⟩,
  ⟨(some 32), .bin .eql (.t 31) (.k (D.int .i64 (2))), (some (28, true))⟩,
  ⟨(some 33), .pick (.t 28) (.t 32) (.k (D.bool false)), none⟩,
  ⟨(some 24), .mv (.t 33), none⟩])
 (.cond (.t 24)
 (.seq (.seq (.reg [⟨(some 34), .mv (.t 0), none⟩,
  ⟨(some 35), .ixs 1 (.t 34) (.k (D.int .i64 (1))), none⟩,
  ⟨(some 36), .load false 1 (.t 35), none⟩,
  ⟨(some 37), .call false 348 [(.t 36), (.k (D.int .i64 (0))), (.k (D.int .i64 (255)))], none⟩,
  ⟨(some 38), .mv (.t 37), none⟩,
  ⟨(some 39), .mv (.t 0), (some (38, true))⟩,
  ⟨(some 40), .ixs 1 (.t 39) (.k (D.int .i64 (2))), (some (38, true))⟩,
  ⟨(some 41), .load false 1 (.t 40), (some (38, true))⟩,
  ⟨(some 42), .call false 348 [(.t 41), (.k (D.int .i64 (0))), (.k (D.int .i64 (255)))], (some (38, true))⟩,
  ⟨(some 43), .pick (.t 38) (.t 42) (.k (D.bool false)), none⟩,
  ⟨(some 44), .mv (.t 43), none⟩,
  ⟨(some 45), .mv (.t 0), (some (44, true))⟩,
  ⟨(some 46), .ixs 1 (.t 45) (.k (D.int .i64 (3))), (some (44, true))⟩,
  ⟨(some 47), .load false 1 (.t 46), (some (44, true))⟩,
  ⟨(some 48), .call false 348 [(.t 47), (.k (D.int .i64 (0))), (.k (D.int .i64 (255)))], (some (44, true))⟩,
  ⟨(some 49), .pick (.t 44) (.t 48) (.k (D.bool false)), none⟩])
 (.cond (.t 49)
 (.dreg [([], false, ⟨(some 50), .mv (.t 0), none⟩),
  ([], false, ⟨(some 51), .ixs 1 (.t 50) (.k (D.int .i64 (1))), none⟩),
  ([], false, ⟨(some 52), .load false 1 (.t 51), none⟩),
  ([], false, ⟨(some 53), .bin .shl (.t 52) (.k (D.int .u64 (16))), none⟩),
  ([], false, ⟨(some 54), .bin .or (.k (D.int .i64 (16777216))) (.t 53), none⟩),
  ([0, 1, 2, 3, 4], false, ⟨(some 55), .mv (.t 0), none⟩),
  ([0, 1, 2, 3, 4], false, ⟨(some 56), .ixs 1 (.t 55) (.k (D.int .i64 (2))), none⟩),
  ([0, 1, 2, 3, 4], false, ⟨(some 57), .load false 1 (.t 56), none⟩),
  ([0, 1, 2, 3, 4], false, ⟨(some 58), .bin .shl (.t 57) (.k (D.int .u64 (8))), none⟩),
  ([], false, ⟨(some 59), .bin .or (.t 54) (.t 58), none⟩),
  ([0, 1, 2, 3, 4, 5, 6, 7, 8, 9], false, ⟨(some 60), .mv (.t 0), none⟩),
  ([0, 1, 2, 3, 4, 5, 6, 7, 8, 9], false, ⟨(some 61), .ixs 1 (.t 60) (.k (D.int .i64 (3))), none⟩),
  ([0, 1, 2, 3, 4, 5, 6, 7, 8, 9], false, ⟨(some 62), .load false 1 (.t 61), none⟩),
  ([], true, ⟨(some 63), .bin .or (.t 59) (.t 62), none⟩),
  ([], true, ⟨(some 1), .mv (.t 63), none⟩)])
 .skip))
 (.seq (.reg [⟨(some 64), .mv (.t 1), none⟩,
  ⟨(some 4), .mv (.t 64), none⟩,
  ⟨(some 5), .mv (.k (D.int .i64 (4))), none⟩])
 .ret))
 .skip)))))
 (.seq (.reg [⟨(some 65), .mv (.t 1), none⟩,
  ⟨(some 66), .mv (.t 0), none⟩,
  ⟨(some 67), .len (.t 66), none⟩,
  ⟨(some 4), .mv (.t 65), none⟩,
  ⟨(some 5), .mv (.t 67), none⟩])
 .ret)))⟩
def a345 : Ann := ⟨[], [⟨true, 1, false⟩], []⟩
def s345 : SFun := ⟨0, 2, [], [(.tmp 0, ⟨true, 1, false⟩)],
 (.seq (.reg [⟨(some 0), .mv (.k .sn), none⟩])
 (.seq (.reg [⟨(some 1), .bsl true 1 8 [(D.int .i64 (0))] [(0, (.k (D.int .i64 (1)))), (1, (.k (D.int .i64 (2)))), (2, (.k (D.int .i64 (3)))), (3, (.k (D.int .i64 (4)))), (4, (.k (D.int .i64 (5)))), (5, (.k (D.int .i64 (7)))), (6, (.k (D.int .i64 (8)))), (7, (.k (D.int .i64 (9))))], none⟩,
  ⟨(some 0), .mv (.t 1), none⟩])
 .ret))⟩
def a344 : Ann := ⟨[(2, [(0, ⟨false, 0, false⟩), (2, ⟨false, 0, false⟩), (5, ⟨false, 0, false⟩), (6, ⟨false, 0, false⟩), (7, ⟨false, 0, false⟩)])], [⟨false, 0, false⟩], []⟩
def s344 : SFun := ⟨1, 18, [], [(.tmp 2, ⟨false, 0, false⟩)],
 (.seq (.reg [⟨(some 2), .mv (.k (D.int .i64 (0))), none⟩])
 (.seq (.seq (.reg [⟨(some 5), .call false 345 [], none⟩,
  ⟨(some 6), .len (.t 5), none⟩,
  ⟨(some 7), .mv (.k (D.int .i64 (0))), none⟩])
 (.block 0 (.loop [(0, ⟨false, 0, false⟩), (2, ⟨false, 0, false⟩), (5, ⟨false, 0, false⟩), (6, ⟨false, 0, false⟩), (7, ⟨false, 0, false⟩)]
 (.seq (.reg [⟨(some 8), .bin .lss (.t 7) (.t 6), none⟩])
 (.seq (.cond (.t 8)
 .skip
 (.exit 0))
 (.seq (.block 1 (.seq (.reg [⟨(some 9), .mv (.t 7), none⟩,
  ⟨(some 10), .ixs 1 (.t 5) (.t 7), none⟩,
  ⟨(some 11), .load false 1 (.t 10), none⟩,
  ⟨(some 3), .mv (.t 9), none⟩,
  ⟨(some 4), .mv (.t 11), none⟩])
 (.seq (.reg [⟨(some 12), .mv (.t 4), none⟩,
  ⟨(some 13), .mv (.t 0), none⟩,
  ⟨(some 14), .bin .eql (.t 12) (.t 13), none⟩])
 (.cond (.t 14)
 (.seq (.reg [⟨(some 15), .mv (.t 3), none⟩,
  ⟨(some 16), .bin .shl (.k (D.int .i64 (1))) (.t 15), none⟩,
  ⟨(some 2), .mv (.t 16), none⟩])
 .ret)
 .skip))))
 (.reg [⟨(some 17), .bin .add (.t 7) (.k (D.int .i64 (1))), none⟩,
  ⟨(some 7), .mv (.t 17), none⟩])))))))
 (.seq (.reg [⟨(some 2), .mv (.k (D.int .i64 (0))), none⟩])
 .ret)))⟩
def a346 : Ann := ⟨[], [⟨false, 0, false⟩], []⟩
def s346 : SFun := ⟨2, 67, [], [(.cell 4 true 3, ⟨false, 0, false⟩)],
 (.seq (.reg [⟨(some 2), .box 3 (.t 0), none⟩,
  ⟨(some 4), .alloc [(D.int .i64 (0)), (D.int .i64 (0)), (D.int .i64 (0))], none⟩])
 (.seq (.block 0 (.seq (.reg [⟨(some 12), .mv (.t 1), none⟩,
  ⟨(some 13), .bin .eql (.t 12) (.k (D.int .i64 (0))), none⟩,
  ⟨(some 11), .mv (.t 13), none⟩])
 (.cond (.t 11)
 (.seq (.reg [⟨(some 14), .call false 107 [], none⟩,
  ⟨none, .store 3 (.t 4) (.t 14), none⟩])
 .ret)
 (.seq (.reg [⟨(some 16), .mv (.t 1), none⟩,
  ⟨(some 17), .bin .eql (.t 16) (.k (D.int .i64 (22))), none⟩,
  ⟨(some 15), .mv (.t 17), none⟩])
 (.cond (.t 15)
 (.reg [⟨(some 18), .fad 2 (.t 2), none⟩,
  ⟨(some 19), .load false 1 (.t 18), none⟩,
  ⟨(some 20), .bin .andNot (.t 19) (.k (D.int .i64 (3))), none⟩,
  ⟨(some 21), .fad 2 (.t 2), none⟩,
  ⟨none, .store 1 (.t 21) (.t 20), none⟩])
 (.seq (.reg [⟨(some 23), .mv (.t 1), none⟩,
  ⟨(some 24), .call false 348 [(.t 23), (.k (D.int .i64 (23))), (.k (D.int .i64 (29)))], none⟩,
  ⟨(some 22), .mv (.t 24), none⟩])
 (.cond (.t 22)
 (.dreg [([], false, ⟨(some 25), .fad 2 (.t 2), none⟩),
  ([], false, ⟨(some 26), .load false 1 (.t 25), none⟩),
  ([0, 1], false, ⟨(some 27), .mv (.t 1), none⟩),
  ([0, 1], false, ⟨(some 28), .bin .sub (.t 27) (.k (D.int .i64 (20))), none⟩),
  ([0, 1], false, ⟨(some 29), .call true 344 [(.t 28)], none⟩),
  ([], true, ⟨(some 30), .bin .andNot (.t 26) (.t 29), none⟩),
  ([], true, ⟨(some 31), .fad 2 (.t 2), none⟩),
  ([], true, ⟨none, .store 1 (.t 31) (.t 30), none⟩)])
 (.seq (.reg [⟨(some 33), .mv (.t 1), none⟩,
  ⟨(some 34), .call false 348 [(.t 33), (.k (D.int .i64 (30))), (.k (D.int .i64 (37)))], none⟩,
  ⟨(some 32), .mv (.t 34), none⟩])
 (.cond (.t 32)
 (.reg [⟨(some 35), .mv (.t 1), none⟩,
  ⟨(some 36), .bin .sub (.t 35) (.k (D.int .i64 (30))), none⟩,
  ⟨(some 37), .fad 0 (.t 2), none⟩,
  ⟨none, .store 1 (.t 37) (.t 36), none⟩])
 (.seq (.reg [⟨(some 39), .mv (.t 1), none⟩,
  ⟨(some 40), .call false 348 [(.t 39), (.k (D.int .i64 (40))), (.k (D.int .i64 (47)))], none⟩,
  ⟨(some 38), .mv (.t 40), none⟩])
 (.cond (.t 38)
 (.reg [⟨(some 41), .mv (.t 1), none⟩,
  ⟨(some 42), .bin .sub (.t 41) (.k (D.int .i64 (40))), none⟩,
  ⟨(some 43), .fad 1 (.t 2), none⟩,
  ⟨none, .store 1 (.t 43) (.t 42), none⟩])
 (.seq (.reg [⟨(some 45), .mv (.t 1), none⟩,
  ⟨(some 46), .call false 348 [(.t 45), (.k (D.int .i64 (90))), (.k (D.int .i64 (97)))], none⟩,
  ⟨(some 44), .mv (.t 46), none⟩])
 (.cond (.t 44)
 (.reg [⟨(some 47), .mv (.t 1), none⟩,
  ⟨(some 48), .bin .sub (.t 47) (.k (D.int .i64 (90))), none⟩,
  ⟨(some 49), .bin .add (.t 48) (.k (D.int .i64 (8))), none⟩,
  ⟨(some 50), .fad 0 (.t 2), none⟩,
  ⟨none, .store 1 (.t 50) (.t 49), none⟩])
 (.seq (.reg [⟨(some 52), .mv (.t 1), none⟩,
  ⟨(some 53), .call false 348 [(.t 52), (.k (D.int .i64 (100))), (.k (D.int .i64 (107)))], none⟩,
  ⟨(some 51), .mv (.t 53), none⟩])
 (.cond (.t 51)
 (.reg [⟨(some 54), .mv (.t 1), none⟩,
  ⟨(some 55), .bin .sub (.t 54) (.k (D.int .i64 (100))), none⟩,
  ⟨(some 56), .bin .add (.t 55) (.k (D.int .i64 (8))), none⟩,
  ⟨(some 57), .fad 1 (.t 2), none⟩,
  ⟨none, .store 1 (.t 57) (.t 56), none⟩])
 (.seq (.reg [⟨(some 59), .mv (.t 1), none⟩,
  ⟨(some 60), .bin .eql (.t 59) (.k (D.int .i64 (39))), none⟩,
  ⟨(some 58), .mv (.t 60), none⟩])
 (.cond (.t 58)
 (.reg [⟨(some 61), .fad 0 (.t 2), none⟩,
  ⟨none, .store 1 (.t 61) (.k (D.int .i64 (-1))), none⟩])
 (.seq (.reg [⟨(some 63), .mv (.t 1), none⟩,
  ⟨(some 64), .bin .eql (.t 63) (.k (D.int .i64 (49))), none⟩,
  ⟨(some 62), .mv (.t 64), none⟩])
 (.cond (.t 62)
 (.reg [⟨(some 65), .fad 1 (.t 2), none⟩,
  ⟨none, .store 1 (.t 65) (.k (D.int .i64 (-1))), none⟩])
 (.dreg [([], false, ⟨(some 5), .fad 2 (.t 2), none⟩),
  ([], false, ⟨(some 6), .load false 1 (.t 5), none⟩),
  ([0, 1], false, ⟨(some 7), .mv (.t 1), none⟩),
  ([0, 1], false, ⟨(some 8), .call true 344 [(.t 7)], none⟩),
  ([], true, ⟨(some 9), .bin .or (.t 6) (.t 8), none⟩),
  ([], true, ⟨(some 10), .fad 2 (.t 2), none⟩),
  ([], true, ⟨none, .store 1 (.t 10) (.t 9), none⟩)]))))))))))))))))))))
 (.seq (.reg [⟨(some 66), .load true 3 (.t 2), none⟩,
  ⟨none, .store 3 (.t 4) (.t 66), none⟩])
 .ret)))⟩
def a340 : Ann := ⟨[(5, [(17, ⟨false, 0, false⟩), (18, ⟨false, 0, false⟩), (19, ⟨false, 0, false⟩), (2, ⟨true, 0, false⟩), (4, ⟨true, 0, false⟩), (5, ⟨true, 1, false⟩)]), (11, [(5, ⟨false, 0, false⟩), (2, ⟨true, 0, false⟩), (4, ⟨true, 0, false⟩)])], [⟨false, 0, false⟩], []⟩
def s340 : SFun := ⟨2, 70, [], [(.cell 4 true 3, ⟨false, 0, false⟩)],
 (.seq (.reg [⟨(some 2), .box 3 (.t 0), none⟩,
  ⟨(some 4), .alloc [(D.int .i64 (0)), (D.int .i64 (0)), (D.int .i64 (0))], none⟩])
 (.seq (.seq (.reg [⟨(some 10), .mv (.t 1), none⟩,
  ⟨(some 11), .len (.t 10), none⟩,
  ⟨(some 12), .bin .eql (.t 11) (.k (D.int .i64 (0))), none⟩])
 (.cond (.t 12)
 (.seq (.reg [⟨(some 13), .call false 107 [], none⟩,
  ⟨none, .store 3 (.t 4) (.t 13), none⟩])
 .ret)
 .skip))
 (.seq (.reg [⟨(some 14), .mv (.t 1), none⟩,
  ⟨(some 15), .len (.t 14), none⟩,
  ⟨(some 16), .mksl 1 8 [(D.int .i64 (0))] (.t 15), none⟩,
  ⟨(some 5), .mv (.t 16), none⟩])
 (.seq (.seq (.reg [⟨(some 17), .mv (.t 1), none⟩,
  ⟨(some 18), .len (.t 17), none⟩,
  ⟨(some 19), .mv (.k (D.int .i64 (0))), none⟩])
 (.block 0 (.loop [(17, ⟨false, 0, false⟩), (18, ⟨false, 0, false⟩), (19, ⟨false, 0, false⟩), (2, ⟨true, 0, false⟩), (4, ⟨true, 0, false⟩), (5, ⟨true, 1, false⟩)]
 (.seq (.reg [⟨(some 20), .bin .lss (.t 19) (.t 18), none⟩])
 (.seq (.cond (.t 20)
 .skip
 (.exit 0))
 (.seq (.block 1 (.seq (.reg [⟨(some 21), .mv (.t 19), none⟩,
  ⟨(some 22), .ixs 1 (.t 17) (.t 19), none⟩,
  ⟨(some 23), .load false 1 (.t 22), none⟩,
  ⟨(some 6), .mv (.t 21), none⟩,
  ⟨(some 7), .mv (.t 23), none⟩])
 (.seq (.reg [⟨(some 24), .mv (.t 5), none⟩,
  ⟨(some 25), .mv (.t 6), none⟩,
  ⟨(some 26), .mv (.t 7), none⟩,
  ⟨(some 27), .ixs 1 (.t 24) (.t 25), none⟩,
  ⟨none, .store 1 (.t 27) (.t 26), none⟩])
 (.seq (.reg [⟨(some 28), .mv (.t 7), none⟩,
  ⟨(some 29), .bin .eql (.t 28) (.k (D.int .i64 (-1))), none⟩])
 (.cond (.t 29)
 (.reg [⟨(some 30), .mv (.t 5), none⟩,
  ⟨(some 31), .mv (.t 6), none⟩,
  ⟨(some 32), .ixs 1 (.t 30) (.t 31), none⟩,
  ⟨none, .store 1 (.t 32) (.k (D.int .i64 (0))), none⟩])
 .skip)))))
 (.reg [⟨(some 33), .bin .add (.t 19) (.k (D.int .i64 (1))), none⟩,
  ⟨(some 19), .mv (.t 33), none⟩])))))))
 (.seq (.block 2 (.loop [(5, ⟨false, 0, false⟩), (2, ⟨true, 0, false⟩), (4, ⟨true, 0, false⟩)]
 (.seq (.seq (.reg [⟨(some 34), .mv (.t 5), none⟩,
  ⟨(some 35), .len (.t 34), none⟩,
  ⟨(some 36), .bin .gtr (.t 35) (.k (D.int .i64 (0))), none⟩])
 (.cond (.t 36)
 .skip
 (.exit 2)))
 (.block 3 (.seq (.reg [⟨(some 37), .mv (.t 5), none⟩,
  ⟨(some 38), .ixs 1 (.t 37) (.k (D.int .i64 (0))), none⟩,
  ⟨(some 39), .load false 1 (.t 38), none⟩,
  ⟨(some 8), .mv (.t 39), none⟩,
  ⟨(some 9), .mv (.k (D.int .i64 (0))), none⟩])
 (.seq (.reg [⟨(some 40), .mv (.t 5), none⟩,
  ⟨(some 41), .slc 1 (.t 40) (some (.k (D.int .i64 (1)))) none, none⟩,
  ⟨(some 5), .mv (.t 41), none⟩])
 (.seq (.seq (.reg [⟨(some 42), .mv (.t 8), none⟩])
 (.block 4 (.seq (.reg [⟨(some 47), .bin .eql (.t 42) (.k (D.int .i64 (38))), none⟩,
  ⟨(some 46), .mv (.t 47), none⟩])
 (.cond (.t 46)
 (.reg [⟨(some 49), .mv (.t 5), none⟩,
  ⟨(some 50), .fad 0 (.t 2), none⟩,
  ⟨(some 51), .load false 1 (.t 50), none⟩,
  ⟨(some 52), .call false 343 [(.t 49), (.t 51)], none⟩,
  ⟨(some 48), .mv (.t 52), none⟩,
  ⟨(some 53), .ext (.t 48) 0, none⟩,
  ⟨(some 54), .ext (.t 48) 1, none⟩,
  ⟨(some 55), .fad 0 (.t 2), none⟩,
  ⟨none, .store 1 (.t 55) (.t 53), none⟩,
  ⟨(some 9), .mv (.t 54), none⟩])
 (.seq (.reg [⟨(some 57), .bin .eql (.t 42) (.k (D.int .i64 (48))), none⟩,
  ⟨(some 56), .mv (.t 57), none⟩])
 (.cond (.t 56)
 (.reg [⟨(some 59), .mv (.t 5), none⟩,
  ⟨(some 60), .fad 1 (.t 2), none⟩,
  ⟨(some 61), .load false 1 (.t 60), none⟩,
  ⟨(some 62), .call false 343 [(.t 59), (.t 61)], none⟩,
  ⟨(some 58), .mv (.t 62), none⟩,
  ⟨(some 63), .ext (.t 58) 0, none⟩,
  ⟨(some 64), .ext (.t 58) 1, none⟩,
  ⟨(some 65), .fad 1 (.t 2), none⟩,
  ⟨none, .store 1 (.t 65) (.t 63), none⟩,
  ⟨(some 9), .mv (.t 64), none⟩])
 (.reg [⟨(some 43), .load true 3 (.t 2), none⟩,
  ⟨(some 44), .mv (.t 8), none⟩,
  ⟨(some 45), .call false 346 [(.t 43), (.t 44)], none⟩,
  ⟨none, .store 3 (.t 2) (.t 45), none⟩])))))))
 (.reg [⟨(some 66), .mv (.t 5), none⟩,
  ⟨(some 67), .mv (.t 9), none⟩,
  ⟨(some 68), .slc 1 (.t 66) (some (.t 67)) none, none⟩,
  ⟨(some 5), .mv (.t 68), none⟩]))))))))
 (.seq (.reg [⟨(some 69), .load true 3 (.t 2), none⟩,
  ⟨none, .store 3 (.t 4) (.t 69), none⟩])
 .ret))))))⟩
def a412 : Ann := ⟨[], [⟨false, 0, false⟩], []⟩
def s412 : SFun := ⟨2, 29, [], [(.cell 4 true 29, ⟨false, 0, false⟩)],
 (.seq (.reg [⟨(some 2), .box 29 (.t 0), none⟩,
  ⟨(some 3), .box 7 (.t 1), none⟩,
  ⟨(some 4), .alloc [(D.int .i64 (0)), (D.int .i64 (0)), .sn, (D.int .i64 (0)), (D.int .i64 (0)), (D.bool false), (D.int .i64 (0)), (D.int .i64 (0)), (D.int .i64 (0)), (D.int .i64 (0)), (D.int .i64 (0)), (D.int .u64 (0)), (D.int .u8 (0)), (D.int .u8 (0)), (D.int .i64 (0)), (D.bool false), (D.bool false), (D.bool false), (D.bool false), (D.bool false), (D.int .i64 (0)), (D.int .i64 (0)), (D.int .i64 (0)), (D.int .i64 (0)), (D.int .i64 (0)), (D.int .u8 (0)), (D.int .u8 (0)), (D.int .i64 (0)), (D.bool false)], none⟩])
 (.seq (.dreg [([], false, ⟨(some 7), .load true 7 (.t 3), none⟩),
  ([], false, ⟨(some 8), .call true 411 [(.t 7), (.k (D.int .i64 (0)))], none⟩),
  ([], false, ⟨(some 9), .bin .sub (.t 8) (.k (D.int .i64 (1))), none⟩),
  ([0, 1, 2], false, ⟨(some 10), .load true 7 (.t 3), none⟩),
  ([0, 1, 2, 3], false, ⟨(some 11), .fad 0 (.t 2), none⟩),
  ([0, 1, 2, 3], false, ⟨(some 12), .fad 0 (.t 11), none⟩),
  ([0, 1, 2, 3], false, ⟨(some 13), .load false 1 (.t 12), none⟩),
  ([0, 1, 2, 3, 4, 5, 6], false, ⟨(some 14), .fad 0 (.t 2), none⟩),
  ([0, 1, 2, 3, 4, 5, 6], false, ⟨(some 15), .fad 0 (.t 14), none⟩),
  ([0, 1, 2, 3, 4, 5, 6], false, ⟨(some 16), .load false 1 (.t 15), none⟩),
  ([2], false, ⟨(some 17), .call true 381 [(.t 10), (.k (D.int .i64 (1))), (.t 13), (.k (D.int .i64 (1))), (.t 16)], none⟩),
  ([2], false, ⟨(some 18), .bin .sub (.t 17) (.k (D.int .i64 (1))), none⟩),
  ([11], false, ⟨(some 5), .mv (.t 9), none⟩),
  ([], true, ⟨(some 6), .mv (.t 18), none⟩)])
 (.seq (.seq (.reg [⟨(some 19), .mv (.t 5), none⟩,
  ⟨(some 20), .mv (.t 6), none⟩,
  ⟨(some 21), .bin .geq (.t 19) (.t 20), none⟩])
 (.cond (.t 21)
 (.seq (.reg [⟨(some 22), .load true 29 (.t 2), none⟩,
  ⟨none, .store 29 (.t 4) (.t 22), none⟩])
 .ret)
 .skip))
 (.seq (.reg [⟨(some 23), .mv (.t 5), none⟩,
  ⟨(some 24), .mv (.t 6), none⟩,
  ⟨(some 25), .fad 6 (.t 2), none⟩,
  ⟨none, .store 1 (.t 25) (.t 23), none⟩,
  ⟨(some 26), .fad 7 (.t 2), none⟩,
  ⟨none, .store 1 (.t 26) (.t 24), none⟩])
 (.seq (.reg [⟨(some 27), .load true 29 (.t 2), none⟩,
  ⟨(some 28), .call false 127 [(.t 27)], none⟩,
  ⟨none, .store 29 (.t 4) (.t 28), none⟩])
 .ret)))))⟩
def a416 : Ann := ⟨[(2, [(0, ⟨false, 0, false⟩), (7, ⟨false, 0, false⟩), (8, ⟨false, 0, false⟩), (9, ⟨false, 0, false⟩)])], [⟨false, 0, false⟩], []⟩
def s416 : SFun := ⟨2, 19, [], [(.tmp 4, ⟨false, 0, false⟩)],
 (.seq (.reg [⟨(some 4), .mv (.k (D.int .u64 (0))), none⟩])
 (.seq (.seq (.reg [⟨(some 7), .mv (.t 1), none⟩,
  ⟨(some 8), .len (.t 7), none⟩,
  ⟨(some 9), .mv (.k (D.int .i64 (0))), none⟩])
 (.block 0 (.loop [(0, ⟨false, 0, false⟩), (7, ⟨false, 0, false⟩), (8, ⟨false, 0, false⟩), (9, ⟨false, 0, false⟩)]
 (.seq (.reg [⟨(some 10), .bin .lss (.t 9) (.t 8), none⟩])
 (.seq (.cond (.t 10)
 .skip
 (.exit 0))
 (.seq (.block 1 (.seq (.reg [⟨(some 11), .ixs 1 (.t 7) (.t 9), none⟩,
  ⟨(some 12), .load false 1 (.t 11), none⟩,
  ⟨(some 6), .mv (.t 12), none⟩])
 (.reg [⟨(some 13), .mv (.t 0), none⟩,
  ⟨(some 14), .mv (.t 6), none⟩,
  ⟨(some 15), .call false 422 [(.t 14)], none⟩,
  ⟨(some 16), .bin .andNot (.t 13) (.t 15), none⟩,
  ⟨(some 0), .mv (.t 16), none⟩])))
 (.reg [⟨(some 17), .bin .add (.t 9) (.k (D.int .i64 (1))), none⟩,
  ⟨(some 9), .mv (.t 17), none⟩])))))))
 (.seq (.reg [⟨(some 18), .mv (.t 0), none⟩,
  ⟨(some 4), .mv (.t 18), none⟩])
 .ret)))⟩
def a408 : Ann := ⟨[], [⟨false, 0, false⟩], []⟩
def s408 : SFun := ⟨2, 19, [], [(.cell 4 true 29, ⟨false, 0, false⟩)],
 (.seq (.reg [⟨(some 2), .box 29 (.t 0), none⟩,
  ⟨(some 4), .alloc [(D.int .i64 (0)), (D.int .i64 (0)), .sn, (D.int .i64 (0)), (D.int .i64 (0)), (D.bool false), (D.int .i64 (0)), (D.int .i64 (0)), (D.int .i64 (0)), (D.int .i64 (0)), (D.int .i64 (0)), (D.int .u64 (0)), (D.int .u8 (0)), (D.int .u8 (0)), (D.int .i64 (0)), (D.bool false), (D.bool false), (D.bool false), (D.bool false), (D.bool false), (D.int .i64 (0)), (D.int .i64 (0)), (D.int .i64 (0)), (D.int .i64 (0)), (D.int .i64 (0)), (D.int .u8 (0)), (D.int .u8 (0)), (D.int .i64 (0)), (D.bool false)], none⟩])
 (.seq (.seq (.reg [⟨(some 5), .mv (.t 1), none⟩])
 (.block 0 (.seq (.reg [⟨(some 7), .bin .eql (.t 5) (.k (D.int .i64 (0))), none⟩,
  ⟨(some 6), .mv (.t 7), none⟩])
 (.cond (.t 6)
 (.reg [⟨(some 8), .fad 11 (.t 2), none⟩,
  ⟨(some 9), .load false 1 (.t 8), none⟩,
  ⟨(some 10), .fad 4 (.t 2), none⟩,
  ⟨(some 11), .load false 1 (.t 10), none⟩,
  ⟨(some 12), .bsl false 1 1 [(D.int .i64 (0))] [(0, (.t 11))], none⟩,
  ⟨(some 13), .call false 416 [(.t 9), (.t 12)], none⟩,
  ⟨(some 14), .fad 11 (.t 2), none⟩,
  ⟨none, .store 1 (.t 14) (.t 13), none⟩])
 (.seq (.reg [⟨(some 16), .bin .eql (.t 5) (.k (D.int .i64 (3))), none⟩,
  ⟨(some 15), .mv (.t 16), none⟩])
 (.cond (.t 15)
 (.reg [⟨(some 17), .fad 11 (.t 2), none⟩,
  ⟨none, .store 1 (.t 17) (.k (D.int .u64 (0))), none⟩])
 .skip))))))
 (.seq (.reg [⟨(some 18), .load true 29 (.t 2), none⟩,
  ⟨none, .store 29 (.t 4) (.t 18), none⟩])
 .ret)))⟩
def a405 : Ann := ⟨[], [⟨false, 0, false⟩], []⟩
def s405 : SFun := ⟨2, 84, [], [(.cell 4 true 29, ⟨false, 0, false⟩)],
 (.seq (.reg [⟨(some 2), .box 29 (.t 0), none⟩,
  ⟨(some 3), .box 7 (.t 1), none⟩,
  ⟨(some 4), .alloc [(D.int .i64 (0)), (D.int .i64 (0)), .sn, (D.int .i64 (0)), (D.int .i64 (0)), (D.bool false), (D.int .i64 (0)), (D.int .i64 (0)), (D.int .i64 (0)), (D.int .i64 (0)), (D.int .i64 (0)), (D.int .u64 (0)), (D.int .u8 (0)), (D.int .u8 (0)), (D.int .i64 (0)), (D.bool false), (D.bool false), (D.bool false), (D.bool false), (D.bool false), (D.int .i64 (0)), (D.int .i64 (0)), (D.int .i64 (0)), (D.int .i64 (0)), (D.int .i64 (0)), (D.int .u8 (0)), (D.int .u8 (0)), (D.int .i64 (0)), (D.bool false)], none⟩])
 (.seq (.block 0 (.seq (.reg [⟨(some 6), .fad 3 (.t 3), none⟩,
  ⟨(some 7), .load false 1 (.t 6), none⟩,
  ⟨(some 8), .bin .neq (.t 7) (.k (D.int .u8 (0))), none⟩,
  ⟨(some 5), .mv (.t 8), none⟩])
 (.cond (.t 5)
 (.seq (.reg [⟨(some 9), .load true 29 (.t 2), none⟩,
  ⟨none, .store 29 (.t 4) (.t 9), none⟩])
 .ret)
 (.seq (.reg [⟨(some 11), .fad 2 (.t 3), none⟩,
  ⟨(some 12), .load false 1 (.t 11), none⟩,
  ⟨(some 13), .bin .eql (.t 12) (.k (D.int .u8 (63))), none⟩,
  ⟨(some 10), .mv (.t 13), none⟩])
 (.cond (.t 10)
 (.seq (.reg [⟨(some 14), .load true 29 (.t 2), none⟩,
  ⟨(some 15), .load true 7 (.t 3), none⟩,
  ⟨(some 16), .call false 415 [(.t 14), (.t 15)], none⟩,
  ⟨none, .store 29 (.t 4) (.t 16), none⟩])
 .ret)
 (.seq (.reg [⟨(some 18), .fad 2 (.t 3), none⟩,
  ⟨(some 19), .load false 1 (.t 18), none⟩,
  ⟨(some 20), .bin .neq (.t 19) (.k (D.int .u8 (0))), none⟩,
  ⟨(some 17), .mv (.t 20), none⟩])
 (.cond (.t 17)
 (.seq (.reg [⟨(some 21), .load true 29 (.t 2), none⟩,
  ⟨none, .store 29 (.t 4) (.t 21), none⟩])
 .ret)
 .skip)))))))
 (.seq (.seq (.reg [⟨(some 22), .fad 4 (.t 3), none⟩,
  ⟨(some 23), .load false 1 (.t 22), none⟩])
 (.block 1 (.seq (.seq (.reg [⟨(some 25), .bin .eql (.t 23) (.k (D.int .u8 (65))), none⟩,
  ⟨(some 24), .mv (.t 25), none⟩])
 (.cond (.t 24)
 .skip
 (.seq (.reg [⟨(some 26), .bin .eql (.t 23) (.k (D.int .u8 (66))), none⟩,
  ⟨(some 24), .mv (.t 26), none⟩])
 (.cond (.t 24)
 .skip
 (.seq (.reg [⟨(some 27), .bin .eql (.t 23) (.k (D.int .u8 (67))), none⟩,
  ⟨(some 24), .mv (.t 27), none⟩])
 (.cond (.t 24)
 .skip
 (.seq (.reg [⟨(some 28), .bin .eql (.t 23) (.k (D.int .u8 (68))), none⟩,
  ⟨(some 24), .mv (.t 28), none⟩])
 (.cond (.t 24)
 .skip
 (.seq (.reg [⟨(some 29), .bin .eql (.t 23) (.k (D.int .u8 (69))), none⟩,
  ⟨(some 24), .mv (.t 29), none⟩])
 (.cond (.t 24)
 .skip
 (.seq (.reg [⟨(some 30), .bin .eql (.t 23) (.k (D.int .u8 (70))), none⟩,
  ⟨(some 24), .mv (.t 30), none⟩])
 (.cond (.t 24)
 .skip
 (.seq (.reg [⟨(some 31), .bin .eql (.t 23) (.k (D.int .u8 (71))), none⟩,
  ⟨(some 24), .mv (.t 31), none⟩])
 (.cond (.t 24)
 .skip
 (.seq (.reg [⟨(some 32), .bin .eql (.t 23) (.k (D.int .u8 (96))), none⟩,
  ⟨(some 24), .mv (.t 32), none⟩])
 (.cond (.t 24)
 .skip
 (.seq (.reg [⟨(some 33), .bin .eql (.t 23) (.k (D.int .u8 (100))), none⟩,
  ⟨(some 24), .mv (.t 33), none⟩])
 (.cond (.t 24)
 .skip
 (.seq (.reg [⟨(some 34), .bin .eql (.t 23) (.k (D.int .u8 (72))), none⟩,
  ⟨(some 24), .mv (.t 34), none⟩])
 (.cond (.t 24)
 .skip
 (.reg [⟨(some 35), .bin .eql (.t 23) (.k (D.int .u8 (102))), none⟩,
  ⟨(some 24), .mv (.t 35), none⟩])))))))))))))))))))))
 (.cond (.t 24)
 (.seq (.reg [⟨(some 36), .load true 29 (.t 2), none⟩,
  ⟨(some 37), .load true 7 (.t 3), none⟩,
  ⟨(some 38), .call false 413 [(.t 36), (.t 37)], none⟩,
  ⟨none, .store 29 (.t 4) (.t 38), none⟩])
 .ret)
 (.seq (.seq (.reg [⟨(some 40), .bin .eql (.t 23) (.k (D.int .u8 (74))), none⟩,
  ⟨(some 39), .mv (.t 40), none⟩])
 (.cond (.t 39)
 .skip
 (.seq (.reg [⟨(some 41), .bin .eql (.t 23) (.k (D.int .u8 (75))), none⟩,
  ⟨(some 39), .mv (.t 41), none⟩])
 (.cond (.t 39)
 .skip
 (.seq (.reg [⟨(some 42), .bin .eql (.t 23) (.k (D.int .u8 (64))), none⟩,
  ⟨(some 39), .mv (.t 42), none⟩])
 (.cond (.t 39)
 .skip
 (.seq (.reg [⟨(some 43), .bin .eql (.t 23) (.k (D.int .u8 (80))), none⟩,
  ⟨(some 39), .mv (.t 43), none⟩])
 (.cond (.t 39)
 .skip
 (.reg [⟨(some 44), .bin .eql (.t 23) (.k (D.int .u8 (88))), none⟩,
  ⟨(some 39), .mv (.t 44), none⟩])))))))))
 (.cond (.t 39)
 (.seq (.reg [⟨(some 45), .load true 29 (.t 2), none⟩,
  ⟨(some 46), .load true 7 (.t 3), none⟩,
  ⟨(some 47), .call false 403 [(.t 45), (.t 46)], none⟩,
  ⟨none, .store 29 (.t 4) (.t 47), none⟩])
 .ret)
 (.seq (.seq (.reg [⟨(some 49), .bin .eql (.t 23) (.k (D.int .u8 (76))), none⟩,
  ⟨(some 48), .mv (.t 49), none⟩])
 (.cond (.t 48)
 .skip
 (.seq (.reg [⟨(some 50), .bin .eql (.t 23) (.k (D.int .u8 (77))), none⟩,
  ⟨(some 48), .mv (.t 50), none⟩])
 (.cond (.t 48)
 .skip
 (.seq (.reg [⟨(some 51), .bin .eql (.t 23) (.k (D.int .u8 (83))), none⟩,
  ⟨(some 48), .mv (.t 51), none⟩])
 (.cond (.t 48)
 .skip
 (.reg [⟨(some 52), .bin .eql (.t 23) (.k (D.int .u8 (84))), none⟩,
  ⟨(some 48), .mv (.t 52), none⟩])))))))
 (.cond (.t 48)
 (.seq (.reg [⟨(some 53), .load true 29 (.t 2), none⟩,
  ⟨(some 54), .load true 7 (.t 3), none⟩,
  ⟨(some 55), .call false 414 [(.t 53), (.t 54)], none⟩,
  ⟨none, .store 29 (.t 4) (.t 55), none⟩])
 .ret)
 (.seq (.reg [⟨(some 57), .bin .eql (.t 23) (.k (D.int .u8 (109))), none⟩,
  ⟨(some 56), .mv (.t 57), none⟩])
 (.cond (.t 56)
 (.reg [⟨(some 58), .fad 8 (.t 2), none⟩,
  ⟨(some 59), .load true 3 (.t 58), none⟩,
  ⟨(some 60), .fad 5 (.t 3), none⟩,
  ⟨(some 61), .load false 1 (.t 60), none⟩,
  ⟨(some 62), .call false 340 [(.t 59), (.t 61)], none⟩,
  ⟨(some 63), .fad 8 (.t 2), none⟩,
  ⟨none, .store 3 (.t 63) (.t 62), none⟩])
 (.seq (.reg [⟨(some 65), .bin .eql (.t 23) (.k (D.int .u8 (114))), none⟩,
  ⟨(some 64), .mv (.t 65), none⟩])
 (.cond (.t 64)
 (.seq (.reg [⟨(some 66), .load true 29 (.t 2), none⟩,
  ⟨(some 67), .load true 7 (.t 3), none⟩,
  ⟨(some 68), .call false 412 [(.t 66), (.t 67)], none⟩,
  ⟨none, .store 29 (.t 4) (.t 68), none⟩])
 .ret)
 (.seq (.reg [⟨(some 70), .bin .eql (.t 23) (.k (D.int .u8 (103))), none⟩,
  ⟨(some 69), .mv (.t 70), none⟩])
 (.cond (.t 69)
 (.seq (.dreg [([], false, ⟨(some 71), .load true 29 (.t 2), none⟩),
  ([0], false, ⟨(some 72), .load true 7 (.t 3), none⟩),
  ([0], false, ⟨(some 73), .callr 381 [(.t 72), (.k (D.int .i64 (0))), (.k (D.int .i64 (0))), (.k (D.int .i64 (0))), (.k (D.int .i64 (65535)))], none⟩),
  ([], true, ⟨(some 74), .call false 408 [(.t 71), (.t 73)], none⟩),
  ([], true, ⟨none, .store 29 (.t 4) (.t 74), none⟩)])
 .ret)
 (.seq (.reg [⟨(some 76), .bin .eql (.t 23) (.k (D.int .u8 (115))), none⟩,
  ⟨(some 75), .mv (.t 76), none⟩])
 (.cond (.t 75)
 (.seq (.reg [⟨(some 77), .load true 29 (.t 2), none⟩,
  ⟨(some 78), .call false 129 [(.t 77)], none⟩,
  ⟨none, .store 29 (.t 4) (.t 78), none⟩])
 .ret)
 (.seq (.reg [⟨(some 80), .bin .eql (.t 23) (.k (D.int .u8 (117))), none⟩,
  ⟨(some 79), .mv (.t 80), none⟩])
 (.cond (.t 79)
 (.seq (.reg [⟨(some 81), .load true 29 (.t 2), none⟩,
  ⟨(some 82), .call false 128 [(.t 81)], none⟩,
  ⟨none, .store 29 (.t 4) (.t 82), none⟩])
 .ret)
 .skip))))))))))))))))))
 (.seq (.reg [⟨(some 83), .load true 29 (.t 2), none⟩,
  ⟨none, .store 29 (.t 4) (.t 83), none⟩])
 .ret))))⟩
def a400 : Ann := ⟨[], [⟨false, 0, false⟩], []⟩
def s400 : SFun := ⟨2, 32, [], [(.cell 4 true 29, ⟨false, 0, false⟩)],
 (.seq (.reg [⟨(some 2), .box 29 (.t 0), none⟩,
  ⟨(some 3), .box 7 (.t 1), none⟩,
  ⟨(some 4), .alloc [(D.int .i64 (0)), (D.int .i64 (0)), .sn, (D.int .i64 (0)), (D.int .i64 (0)), (D.bool false), (D.int .i64 (0)), (D.int .i64 (0)), (D.int .i64 (0)), (D.int .i64 (0)), (D.int .i64 (0)), (D.int .u64 (0)), (D.int .u8 (0)), (D.int .u8 (0)), (D.int .i64 (0)), (D.bool false), (D.bool false), (D.bool false), (D.bool false), (D.bool false), (D.int .i64 (0)), (D.int .i64 (0)), (D.int .i64 (0)), (D.int .i64 (0)), (D.int .i64 (0)), (D.int .u8 (0)), (D.int .u8 (0)), (D.int .i64 (0)), (D.bool false)], none⟩])
 (.seq (.reg [⟨(some 5), .load true 29 (.t 2), none⟩,
  ⟨(some 6), .call false 370 [(.t 5)], none⟩,
  ⟨none, .store 29 (.t 2) (.t 6), none⟩])
 (.seq (.seq (.reg [⟨(some 7), .fad 0 (.t 3), none⟩,
  ⟨(some 8), .load false 1 (.t 7), none⟩])
 (.block 0 (.seq (.reg [⟨(some 10), .bin .eql (.t 8) (.k (D.int .i64 (1))), none⟩,
  ⟨(some 9), .mv (.t 10), none⟩])
 (.cond (.t 9)
 (.seq (.reg [⟨(some 11), .load true 29 (.t 2), none⟩,
  ⟨(some 12), .fad 1 (.t 3), none⟩,
  ⟨(some 13), .load false 1 (.t 12), none⟩,
  ⟨(some 14), .call false 402 [(.t 11), (.t 13)], none⟩,
  ⟨none, .store 29 (.t 4) (.t 14), none⟩])
 .ret)
 (.seq (.reg [⟨(some 16), .bin .eql (.t 8) (.k (D.int .i64 (2))), none⟩,
  ⟨(some 15), .mv (.t 16), none⟩])
 (.cond (.t 15)
 (.seq (.reg [⟨(some 17), .load true 29 (.t 2), none⟩,
  ⟨(some 18), .fad 4 (.t 3), none⟩,
  ⟨(some 19), .load false 1 (.t 18), none⟩,
  ⟨(some 20), .call false 410 [(.t 17), (.t 19)], none⟩,
  ⟨none, .store 29 (.t 4) (.t 20), none⟩])
 .ret)
 (.seq (.reg [⟨(some 22), .bin .eql (.t 8) (.k (D.int .i64 (3))), none⟩,
  ⟨(some 21), .mv (.t 22), none⟩])
 (.cond (.t 21)
 (.seq (.reg [⟨(some 23), .load true 29 (.t 2), none⟩,
  ⟨(some 24), .load true 7 (.t 3), none⟩,
  ⟨(some 25), .call false 409 [(.t 23), (.t 24)], none⟩,
  ⟨none, .store 29 (.t 4) (.t 25), none⟩])
 .ret)
 (.seq (.reg [⟨(some 27), .bin .eql (.t 8) (.k (D.int .i64 (4))), none⟩,
  ⟨(some 26), .mv (.t 27), none⟩])
 (.cond (.t 26)
 (.seq (.reg [⟨(some 28), .load true 29 (.t 2), none⟩,
  ⟨(some 29), .load true 7 (.t 3), none⟩,
  ⟨(some 30), .call false 405 [(.t 28), (.t 29)], none⟩,
  ⟨none, .store 29 (.t 4) (.t 30), none⟩])
 .ret)
 .skip))))))))))
 (.seq (.reg [⟨(some 31), .load true 29 (.t 2), none⟩,
  ⟨none, .store 29 (.t 4) (.t 31), none⟩])
 .ret))))⟩
def a173 : Ann := ⟨[(4, [(0, ⟨false, 0, false⟩), (1, ⟨false, 0, false⟩), (4, ⟨false, 0, false⟩), (5, ⟨false, 0, false⟩)])], [⟨false, 0, false⟩], []⟩
def s173 : SFun := ⟨2, 26, [], [(.tmp 4, ⟨false, 0, false⟩)],
 (.seq (.reg [⟨(some 4), .mv (.k (D.bool false)), none⟩])
 (.seq (.seq (.reg [⟨(some 6), .mv (.t 0), none⟩,
  ⟨(some 7), .len (.t 6), none⟩,
  ⟨(some 8), .mv (.t 1), none⟩,
  ⟨(some 9), .len (.t 8), none⟩,
  ⟨(some 10), .bin .neq (.t 7) (.t 9), none⟩])
 (.cond (.t 10)
 (.seq (.reg [⟨(some 4), .mv (.k (D.bool false)), none⟩])
 .ret)
 .skip))
 (.seq (.seq (.reg [⟨(some 5), .mv (.k (D.int .i64 (0))), none⟩])
 (.block 0 (.loop [(0, ⟨false, 0, false⟩), (1, ⟨false, 0, false⟩), (4, ⟨false, 0, false⟩), (5, ⟨false, 0, false⟩)]
 (.seq (.seq (.reg [⟨(some 11), .mv (.t 5), none⟩,
  ⟨(some 12), .mv (.t 0), none⟩,
  ⟨(some 13), .len (.t 12), none⟩,
  ⟨(some 14), .bin .lss (.t 11) (.t 13), none⟩])
 (.cond (.t 14)
 .skip
 (.exit 0)))
 (.seq (.block 1 (.seq (.dreg [([], false, ⟨(some 17), .mv (.t 0), none⟩),
  ([0], false, ⟨(some 18), .mv (.t 5), none⟩),
  ([], false, ⟨(some 19), .ixs 5 (.t 17) (.t 18), none⟩),
  ([], false, ⟨(some 20), .load true 5 (.t 19), none⟩),
  ([0, 1, 2, 3], false, ⟨(some 21), .mv (.t 1), none⟩),
  ([0, 1, 2, 3, 4], false, ⟨(some 22), .mv (.t 5), none⟩),
  ([0, 1, 2, 3], false, ⟨(some 23), .ixs 5 (.t 21) (.t 22), none⟩),
  ([0, 1, 2, 3], false, ⟨(some 24), .load true 5 (.t 23), none⟩),
  ([], true, ⟨(some 25), .eqa true [1, 1, 1, 1, 1] (.t 20) (.t 24), none⟩)])
 (.cond (.t 25)
 (.seq (.reg [⟨(some 4), .mv (.k (D.bool false)), none⟩])
 .ret)
 .skip)))
 (.reg [⟨(some 15), .mv (.t 5), none⟩,
  ⟨(some 16), .bin .add (.t 15) (.k (D.int .i64 (1))), none⟩,
  ⟨(some 5), .mv (.t 16), none⟩]))))))
 (.seq (.reg [⟨(some 4), .mv (.k (D.bool true)), none⟩])
 .ret))))⟩
def a177 : Ann := ⟨[], [⟨false, 0, false⟩], []⟩
def s177 : SFun := ⟨2, 135, [], [(.tmp 4, ⟨false, 0, false⟩)],
 (.seq (.reg [⟨(some 2), .box 29 (.t 0), none⟩,
  ⟨(some 3), .box 29 (.t 1), none⟩,
  ⟨(some 4), .mv (.k (D.bool false)), none⟩])
 (.seq (.reg [⟨(some 5), .fad 0 (.t 2), none⟩,
  ⟨(some 6), .fad 0 (.t 5), none⟩,
  ⟨(some 7), .load false 1 (.t 6), none⟩,
  ⟨(some 8), .fad 0 (.t 3), none⟩,
  ⟨(some 9), .fad 0 (.t 8), none⟩,
  ⟨(some 10), .load false 1 (.t 9), none⟩,
  ⟨(some 11), .bin .eql (.t 7) (.t 10), none⟩,
  ⟨(some 12), .mv (.t 11), none⟩,
  ⟨(some 13), .fad 0 (.t 2), (some (12, true))⟩,
  ⟨(some 14), .fad 1 (.t 13), (some (12, true))⟩,
  ⟨(some 15), .load false 1 (.t 14), (some (12, true))⟩,
  ⟨(some 16), .fad 0 (.t 3), (some (12, true))⟩,
  ⟨(some 17), .fad 1 (.t 16), (some (12, true))⟩,
  ⟨(some 18), .load false 1 (.t 17), (some (12, true))⟩,
  ⟨(some 19), .bin .eql (.t 15) (.t 18), (some (12, true))⟩,
  ⟨(some 20), .pick (.t 12) (.t 19) (.k (D.bool false)), none⟩,
  ⟨(some 21), .mv (.t 20), none⟩,
  ⟨(some 22), .fad 0 (.t 2), (some (21, true))⟩,
  ⟨(some 23), .fad 2 (.t 22), (some (21, true))⟩,
  ⟨(some 24), .load false 1 (.t 23), (some (21, true))⟩,
  ⟨(some 25), .fad 0 (.t 3), (some (21, true))⟩,
  ⟨(some 26), .fad 2 (.t 25), (some (21, true))⟩,
  ⟨(some 27), .load false 1 (.t 26), (some (21, true))⟩,
  ⟨(some 28), .call false 173 [(.t 24), (.t 27)], (some (21, true))⟩,
  ⟨(some 29), .pick (.t 21) (.t 28) (.k (D.bool false)), none⟩,
  ⟨(some 30), .mv (.t 29), none⟩,
  ⟨(some 31), .fad 3 (.t 2), (some (30, true))⟩,
  ⟨(some 32), .load false 1 (.t 31), (some (30, true))⟩,
  ⟨(some 33), .fad 3 (.t 3), (some (30, true))⟩,
  ⟨(some 34), .load false 1 (.t 33), (some (30, true))⟩,
  ⟨(some 35), .bin .eql (.t 32) (.t 34), (some (30, true))⟩,
  ⟨(some 36), .pick (.t 30) (.t 35) (.k (D.bool false)), none⟩,
  ⟨(some 37), .mv (.t 36), none⟩,
  ⟨(some 38), .fad 4 (.t 2), (some (37, true))⟩,
  ⟨(some 39), .load false 1 (.t 38), (some (37, true))⟩,
  ⟨(some 40), .fad 4 (.t 3), (some (37, true))⟩,
  ⟨(some 41), .load false 1 (.t 40), (some (37, true))⟩,
  ⟨(some 42), .bin .eql (.t 39) (.t 41), (some (37, true))⟩,
  ⟨(some 43), .pick (.t 37) (.t 42) (.k (D.bool false)), none⟩,
  ⟨(some 44), .mv (.t 43), none⟩,
  ⟨(some 45), .fad 5 (.t 2), (some (44, true))⟩,
  ⟨(some 46), .load false 1 (.t 45), (some (44, true))⟩,
  ⟨(some 47), .fad 5 (.t 3), (some (44, true))⟩,
  ⟨(some 48), .load false 1 (.t 47), (some (44, true))⟩,
  ⟨(some 49), .binb .eql (.t 46) (.t 48), (some (44, true))⟩,
  ⟨(some 50), .pick (.t 44) (.t 49) (.k (D.bool false)), none⟩,
  ⟨(some 51), .mv (.t 50), none⟩,
  ⟨(some 52), .fad 6 (.t 2), (some (51, true))⟩,
  ⟨(some 53), .load false 1 (.t 52), (some (51, true))⟩,
  ⟨(some 54), .fad 6 (.t 3), (some (51, true))⟩,
  ⟨(some 55), .load false 1 (.t 54), (some (51, true))⟩,
  ⟨(some 56), .bin .eql (.t 53) (.t 55), (some (51, true))⟩,
  ⟨(some 57), .pick (.t 51) (.t 56) (.k (D.bool false)), none⟩,
  ⟨(some 58), .mv (.t 57), none⟩,
  ⟨(some 59), .fad 7 (.t 2), (some (58, true))⟩,
  ⟨(some 60), .load false 1 (.t 59), (some (58, true))⟩,
  ⟨(some 61), .fad 7 (.t 3), (some (58, true))⟩,
  ⟨(some 62), .load false 1 (.t 61), (some (58, true))⟩,
  ⟨(some 63), .bin .eql (.t 60) (.t 62), (some (58, true))⟩,
  ⟨(some 64), .pick (.t 58) (.t 63) (.k (D.bool false)), none⟩,
  ⟨(some 65), .mv (.t 64), none⟩,
  ⟨(some 66), .fad 8 (.t 2), (some (65, true))⟩,
  ⟨(some 67), .load true 3 (.t 66), (some (65, true))⟩,
  ⟨(some 68), .fad 8 (.t 3), (some (65, true))⟩,
  ⟨(some 69), .load true 3 (.t 68), (some (65, true))⟩,
  ⟨(some 70), .eqa false [1, 1, 1] (.t 67) (.t 69), (some (65, true))⟩,
  ⟨(some 71), .pick (.t 65) (.t 70) (.k (D.bool false)), none⟩,
  ⟨(some 72), .mv (.t 71), none⟩,
  ⟨(some 73), .fad 11 (.t 2), (some (72, true))⟩,
  ⟨(some 74), .load false 1 (.t 73), (some (72, true))⟩,
  ⟨(some 75), .fad 11 (.t 3), (some (72, true))⟩,
  ⟨(some 76), .load false 1 (.t 75), (some (72, true))⟩,
  ⟨(some 77), .bin .eql (.t 74) (.t 76), (some (72, true))⟩,
  ⟨(some 78), .pick (.t 72) (.t 77) (.k (D.bool false)), none⟩,
  ⟨(some 79), .mv (.t 78), none⟩,
  ⟨(some 80), .fad 12 (.t 2), (some (79, true))⟩,
  ⟨(some 81), .load true 2 (.t 80), (some (79, true))⟩,
  ⟨(some 82), .fad 12 (.t 3), (some (79, true))⟩,
  ⟨(some 83), .load true 2 (.t 82), (some (79, true))⟩,
  ⟨(some 84), .eqa false [1, 1] (.t 81) (.t 83), (some (79, true))⟩,
  ⟨(some 85), .pick (.t 79) (.t 84) (.k (D.bool false)), none⟩,
  ⟨(some 86), .mv (.t 85), none⟩,
  ⟨(some 87), .fad 14 (.t 2), (some (86, true))⟩,
  ⟨(some 88), .load false 1 (.t 87), (some (86, true))⟩,
  ⟨(some 89), .fad 14 (.t 3), (some (86, true))⟩,
  ⟨(some 90), .load false 1 (.t 89), (some (86, true))⟩,
  ⟨(some 91), .bin .eql (.t 88) (.t 90), (some (86, true))⟩,
  ⟨(some 92), .pick (.t 86) (.t 91) (.k (D.bool false)), none⟩,
  ⟨(some 93), .mv (.t 92), none⟩,
  ⟨(some 94), .fad 15 (.t 2), (some (93, true))⟩,
  ⟨(some 95), .load false 1 (.t 94), (some (93, true))⟩,
  ⟨(some 96), .fad 15 (.t 3), (some (93, true))⟩,
  ⟨(some 97), .load false 1 (.t 96), (some (93, true))⟩,
  ⟨(some 98), .binb .eql (.t 95) (.t 97), (some (93, true))⟩,
  ⟨(some 99), .pick (.t 93) (.t 98) (.k (D.bool false)), none⟩,
  ⟨(some 100), .mv (.t 99), none⟩,
  ⟨(some 101), .fad 16 (.t 2), (some (100, true))⟩,
  ⟨(some 102), .load false 1 (.t 101), (some (100, true))⟩,
  ⟨(some 103), .fad 16 (.t 3), (some (100, true))⟩,
  ⟨(some 104), .load false 1 (.t 103), (some (100, true))⟩,
  ⟨(some 105), .binb .eql (.t 102) (.t 104), (some (100, true))⟩,
  ⟨(some 106), .pick (.t 100) (.t 105) (.k (D.bool false)), none⟩,
  ⟨(some 107), .mv (.t 106), none⟩,
  ⟨(some 108), .fad 17 (.t 2), (some (107, true))⟩,
  ⟨(some 109), .load false 1 (.t 108), (some (107, true))⟩,
  ⟨(some 110), .fad 17 (.t 3), (some (107, true))⟩,
  ⟨(some 111), .load false 1 (.t 110), (some (107, true))⟩,
  ⟨(some 112), .binb .eql (.t 109) (.t 111), (some (107, true))⟩,
  ⟨(some 113), .pick (.t 107) (.t 112) (.k (D.bool false)), none⟩,
  ⟨(some 114), .mv (.t 113), none⟩,
  ⟨(some 115), .fad 18 (.t 2), (some (114, true))⟩,
  ⟨(some 116), .load false 1 (.t 115), (some (114, true))⟩,
  ⟨(some 117), .fad 18 (.t 3), (some (114, true))⟩,
  ⟨(some 118), .load false 1 (.t 117), (some (114, true))⟩,
  ⟨(some 119), .binb .eql (.t 116) (.t 118), (some (114, true))⟩,
  ⟨(some 120), .pick (.t 114) (.t 119) (.k (D.bool false)), none⟩,
  ⟨(some 121), .mv (.t 120), none⟩,
  ⟨(some 122), .fad 19 (.t 2), (some (121, true))⟩,
  ⟨(some 123), .load false 1 (.t 122), (some (121, true))⟩,
  ⟨(some 124), .fad 19 (.t 3), (some (121, true))⟩,
  ⟨(some 125), .load false 1 (.t 124), (some (121, true))⟩,
  ⟨(some 126), .binb .eql (.t 123) (.t 125), (some (121, true))⟩,
  ⟨(some 127), .pick (.t 121) (.t 126) (.k (D.bool false)), none⟩,
  ⟨(some 128), .mv (.t 127), none⟩,
  ⟨(some 129), .fad 20 (.t 2), (some (128, true))⟩,
  ⟨(some 130), .load true 9 (.t 129), (some (128, true))⟩,
  ⟨(some 131), .fad 20 (.t 3), (some (128, true))⟩,
  ⟨(some 132), .load true 9 (.t 131), (some (128, true))⟩,
  ⟨(some 133), .eqa false [1, 1, 1, 1, 1, 1, 1, 1, 0] (.t 130) (.t 132), (some (128, true))⟩,
  ⟨(some 134), .pick (.t 128) (.t 133) (.k (D.bool false)), none⟩,
  ⟨(some 4), .mv (.t 134), none⟩])
 .ret))⟩
def a355 : Ann := ⟨[], [⟨false, 0, false⟩], []⟩
def s355 : SFun := ⟨1, 12, [], [(.tmp 2, ⟨false, 0, false⟩)],
 (.seq (.reg [⟨(some 1), .box 7 (.t 0), none⟩,
  ⟨(some 2), .mv (.k (D.bool false)), none⟩])
 (.seq (.reg [⟨(some 6), .load true 7 (.t 1), none⟩,
  ⟨(some 7), .call false 358 [(.t 6)], none⟩,
  ⟨(some 5), .mv (.t 7), none⟩,
  ⟨(some 8), .ext (.t 5) 0, none⟩,
  ⟨(some 9), .ext (.t 5) 1, none⟩,
  ⟨(some 3), .mv (.t 8), none⟩,
  ⟨(some 4), .mv (.t 9), none⟩])
 (.seq (.reg [⟨(some 10), .mv (.t 3), none⟩,
  ⟨(some 11), .bin .neq (.t 10) (.k (D.int .i64 (0))), none⟩,
  ⟨(some 2), .mv (.t 11), none⟩])
 .ret)))⟩
def a199 : Ann := ⟨[], [⟨false, 0, false⟩], []⟩
def s199 : SFun := ⟨0, 31, [], [(.tmp 0, ⟨false, 0, false⟩)],
 (.seq (.reg [⟨(some 0), .mv (.k (D.bool false)), none⟩])
 (.seq (.reg [⟨(some 2), .call false 372 [(.k (D.int .i64 (5))), (.k (D.int .i64 (9)))], none⟩,
  ⟨(some 1), .alloc [(D.int .i64 (0)), (D.int .i64 (0)), .sn, (D.int .i64 (0)), (D.int .i64 (0)), (D.bool false), (D.int .i64 (0)), (D.int .i64 (0)), (D.int .i64 (0)), (D.int .i64 (0)), (D.int .i64 (0)), (D.int .u64 (0)), (D.int .u8 (0)), (D.int .u8 (0)), (D.int .i64 (0)), (D.bool false), (D.bool false), (D.bool false), (D.bool false), (D.bool false), (D.int .i64 (0)), (D.int .i64 (0)), (D.int .i64 (0)), (D.int .i64 (0)), (D.int .i64 (0)), (D.int .u8 (0)), (D.int .u8 (0)), (D.int .i64 (0)), (D.bool false)], none⟩,
  ⟨none, .store 29 (.t 1) (.t 2), none⟩])
 (.seq (.reg [⟨(some 3), .fad 3 (.t 1), none⟩,
  ⟨none, .store 1 (.t 3) (.k (D.int .i64 (2))), none⟩,
  ⟨(some 4), .fad 4 (.t 1), none⟩,
  ⟨none, .store 1 (.t 4) (.k (D.int .i64 (4))), none⟩])
 (.seq (.dreg [([], false, ⟨(some 5), .load true 29 (.t 1), none⟩),
  ([0], false, ⟨(some 6), .bsl false 1 1 [(D.int .i64 (0))] [(0, (.k (D.int .i64 (6))))], none⟩),
  ([0], false, ⟨(some 7), .callr 382 [(.k (D.int .u8 (110))), (.t 6)], none⟩),
  ([], true, ⟨(some 8), .call false 356 [(.t 5), (.t 7)], none⟩),
  ([], true, ⟨(some 9), .b2s (.t 8), none⟩),
  ([], true, ⟨(some 10), .bin .eql (.t 9) (.k (D.str [27, 91, 51, 59, 53, 82])), none⟩),
  ([], true, ⟨(some 11), .mv (.t 10), none⟩),
  ([], false, ⟨(some 12), .load true 29 (.t 1), (some (11, true))⟩),
  ([0], false, ⟨(some 13), .bsl false 1 1 [(D.int .i64 (0))] [(0, (.k (D.int .i64 (25))))], (some (11, true))⟩),
  ([0], false, ⟨(some 14), .build [(D.int .i64 (0)), (D.int .i32 (0)), (D.int .u8 (0)), (D.int .u8 (0)), (D.int .u8 (0)), .sn, (D.str [])] [(0, 1, (.k (D.int .i64 (4)))), (2, 1, (.k (D.int .u8 (63)))), (3, 1, (.k (D.int .u8 (36)))), (4, 1, (.k (D.int .u8 (112)))), (5, 1, (.t 13))], (some (11, true))⟩),
  ([], true, ⟨(some 15), .call false 356 [(.t 12), (.t 14)], (some (11, true))⟩),
  ([], true, ⟨(some 16), .b2s (.t 15), (some (11, true))⟩),
  ([], true, ⟨(some 17), .bin .eql (.t 16) (.k (D.str [27, 91, 63, 50, 53, 59, 49, 36, 121])), (some (11, true))⟩),
  ([], true, ⟨(some 18), .pick (.t 11) (.t 17) (.k (D.bool false)), none⟩),
  ([], true, ⟨(some 19), .mv (.t 18), none⟩),
  ([], true, ⟨(some 20), .call false 382 [(.k (D.int .u8 (99))), (.k .sn)], (some (19, true))⟩),
  ([], true, ⟨(some 21), .call false 355 [(.t 20)], (some (19, true))⟩),
  ([], true, ⟨(some 22), .pick (.t 19) (.t 21) (.k (D.bool false)), none⟩),
  ([], true, ⟨(some 23), .mv (.t 22), none⟩),
  ([], false, ⟨(some 24), .load true 29 (.t 1), (some (23, true))⟩),
  ([0], false, ⟨(some 25), .bsl false 1 1 [(D.int .i64 (0))] [(0, (.k (D.int .i64 (7))))], (some (23, true))⟩),
  ([0], false, ⟨(some 26), .callr 382 [(.k (D.int .u8 (110))), (.t 25)], (some (23, true))⟩),
  ([], true, ⟨(some 27), .call false 356 [(.t 24), (.t 26)], (some (23, true))⟩),
  ([], true, ⟨(some 28), .len (.t 27), (some (23, true))⟩),
  ([], true, ⟨(some 29), .bin .eql (.t 28) (.k (D.int .i64 (0))), (some (23, true))⟩),
  ([], true, ⟨(some 30), .pick (.t 23) (.t 29) (.k (D.bool false)), none⟩),
  ([], true, ⟨(some 0), .mv (.t 30), none⟩)])
 .ret))))⟩
def a198 : Ann := ⟨[(12, [(3, ⟨false, 0, false⟩), (8, ⟨false, 0, false⟩), (11, ⟨false, 0, false⟩), (13, ⟨false, 0, false⟩), (14, ⟨false, 0, false⟩), (15, ⟨false, 0, false⟩), (65, ⟨false, 0, false⟩), (66, ⟨false, 0, false⟩), (67, ⟨false, 0, false⟩), (9, ⟨true, 0, false⟩), (10, ⟨true, 0, false⟩)])], [⟨false, 0, false⟩], []⟩
def s198 : SFun := ⟨4, 130, [], [(.tmp 8, ⟨false, 0, false⟩)],
 (.seq (.reg [⟨(some 4), .box 13 (.t 0), none⟩,
  ⟨(some 8), .mv (.k (D.bool false)), none⟩])
 (.seq (.reg [⟨(some 22), .load true 13 (.t 4), none⟩,
  ⟨(some 23), .call false 66 [(.t 22)], none⟩,
  ⟨(some 9), .alloc [(D.int .i64 (0)), (D.int .i64 (0)), .sn, (D.int .i64 (0)), (D.int .i64 (0)), (D.bool false), (D.int .i64 (0)), (D.int .i64 (0)), (D.int .i64 (0)), (D.int .i64 (0)), (D.int .i64 (0)), (D.int .u64 (0)), (D.int .u8 (0)), (D.int .u8 (0)), (D.int .i64 (0)), (D.bool false), (D.bool false), (D.bool false), (D.bool false), (D.bool false), (D.int .i64 (0)), (D.int .i64 (0)), (D.int .i64 (0)), (D.int .i64 (0)), (D.int .i64 (0)), (D.int .u8 (0)), (D.int .u8 (0)), (D.int .i64 (0)), (D.bool false)], none⟩,
  ⟨none, .store 29 (.t 9) (.t 23), none⟩])
 (.seq (.reg [⟨(some 24), .fad 16 (.t 9), none⟩,
  ⟨none, .store 1 (.t 24) (.k (D.bool false)), none⟩,
  ⟨(some 25), .fad 5 (.t 9), none⟩,
  ⟨none, .store 1 (.t 25) (.k (D.bool false)), none⟩])
 (.seq (.dreg [([], false, ⟨(some 26), .mv (.t 1), none⟩),
  ([0], false, ⟨(some 27), .fad 0 (.t 9), none⟩),
  ([0], false, ⟨(some 28), .fad 0 (.t 27), none⟩),
  ([0], false, ⟨(some 29), .load false 1 (.t 28), none⟩),
  ([0], false, ⟨(some 30), .bin .sub (.t 29) (.k (D.int .i64 (1))), none⟩),
  ([], false, ⟨(some 31), .call true 174 [(.t 26), (.k (D.int .i64 (0))), (.t 30)], none⟩),
  ([0, 1, 2, 3, 4, 5], false, ⟨(some 32), .mv (.t 2), none⟩),
  ([0, 1, 2, 3, 4, 5, 6], false, ⟨(some 33), .fad 0 (.t 9), none⟩),
  ([0, 1, 2, 3, 4, 5, 6], false, ⟨(some 34), .fad 1 (.t 33), none⟩),
  ([0, 1, 2, 3, 4, 5, 6], false, ⟨(some 35), .load false 1 (.t 34), none⟩),
  ([0, 1, 2, 3, 4, 5, 6], false, ⟨(some 36), .bin .sub (.t 35) (.k (D.int .i64 (1))), none⟩),
  ([], false, ⟨(some 37), .call true 174 [(.t 32), (.k (D.int .i64 (0))), (.t 36)], none⟩),
  ([6, 10, 11], false, ⟨(some 38), .fad 3 (.t 9), none⟩),
  ([], true, ⟨none, .store 1 (.t 38) (.t 31), none⟩),
  ([], true, ⟨(some 39), .fad 4 (.t 9), none⟩),
  ([], true, ⟨none, .store 1 (.t 39) (.t 37), none⟩)])
 (.seq (.reg [⟨(some 40), .bsl false 1 1 [(D.int .i64 (0))] [(0, (.k (D.int .i64 (6))))], none⟩,
  ⟨(some 41), .call false 382 [(.k (D.int .u8 (110))), (.t 40)], none⟩,
  ⟨(some 10), .alloc [(D.int .i64 (0)), (D.int .i32 (0)), (D.int .u8 (0)), (D.int .u8 (0)), (D.int .u8 (0)), .sn, (D.str [])], none⟩,
  ⟨none, .store 7 (.t 10) (.t 41), none⟩])
 (.seq (.reg [⟨(some 42), .load true 29 (.t 9), none⟩,
  ⟨(some 43), .load true 7 (.t 10), none⟩,
  ⟨(some 44), .call false 356 [(.t 42), (.t 43)], none⟩,
  ⟨(some 45), .b2s (.t 44), none⟩,
  ⟨(some 11), .mv (.t 45), none⟩])
 (.seq (.reg [⟨(some 46), .load true 29 (.t 9), none⟩,
  ⟨(some 12), .alloc [(D.int .i64 (0)), (D.int .i64 (0)), .sn, (D.int .i64 (0)), (D.int .i64 (0)), (D.bool false), (D.int .i64 (0)), (D.int .i64 (0)), (D.int .i64 (0)), (D.int .i64 (0)), (D.int .i64 (0)), (D.int .u64 (0)), (D.int .u8 (0)), (D.int .u8 (0)), (D.int .i64 (0)), (D.bool false), (D.bool false), (D.bool false), (D.bool false), (D.bool false), (D.int .i64 (0)), (D.int .i64 (0)), (D.int .i64 (0)), (D.int .i64 (0)), (D.int .i64 (0)), (D.int .u8 (0)), (D.int .u8 (0)), (D.int .i64 (0)), (D.bool false)], none⟩,
  ⟨none, .store 29 (.t 12) (.t 46), none⟩])
 (.seq (.reg [⟨(some 47), .fad 16 (.t 12), none⟩,
  ⟨none, .store 1 (.t 47) (.k (D.bool true)), none⟩])
 (.seq (.reg [⟨(some 48), .load true 29 (.t 12), none⟩,
  ⟨(some 49), .load true 7 (.t 10), none⟩,
  ⟨(some 50), .call false 356 [(.t 48), (.t 49)], none⟩,
  ⟨(some 51), .b2s (.t 50), none⟩,
  ⟨(some 13), .mv (.t 51), none⟩])
 (.seq (.reg [⟨(some 52), .fad 4 (.t 9), none⟩,
  ⟨(some 53), .load false 1 (.t 52), none⟩,
  ⟨(some 54), .bin .add (.t 53) (.k (D.int .i64 (1))), none⟩,
  ⟨(some 55), .call false 176 [(.t 54)], none⟩,
  ⟨(some 56), .bin .add (.k (D.str [59])) (.t 55), none⟩,
  ⟨(some 57), .bin .add (.t 56) (.k (D.str [82])), none⟩,
  ⟨(some 14), .mv (.t 57), none⟩])
 (.seq (.reg [⟨(some 58), .fad 3 (.t 9), none⟩,
  ⟨(some 59), .load false 1 (.t 58), none⟩,
  ⟨(some 60), .fad 6 (.t 9), none⟩,
  ⟨(some 61), .load false 1 (.t 60), none⟩,
  ⟨(some 62), .bin .sub (.t 59) (.t 61), none⟩,
  ⟨(some 63), .mx [(.t 62), (.k (D.int .i64 (0)))], none⟩,
  ⟨(some 64), .bin .add (.t 63) (.k (D.int .i64 (1))), none⟩,
  ⟨(some 15), .mv (.t 64), none⟩])
 (.seq (.seq (.reg [⟨(some 65), .bsl false 1 4 [(D.int .i64 (0))] [(0, (.k (D.int .i64 (1)))), (1, (.k (D.int .i64 (6)))), (2, (.k (D.int .i64 (7)))), (3, (.k (D.int .i64 (25))))], none⟩,
  ⟨(some 66), .len (.t 65), none⟩,
  ⟨(some 67), .mv (.k (D.int .i64 (0))), none⟩])
 (.block 0 (.loop [(3, ⟨false, 0, false⟩), (8, ⟨false, 0, false⟩), (11, ⟨false, 0, false⟩), (13, ⟨false, 0, false⟩), (14, ⟨false, 0, false⟩), (15, ⟨false, 0, false⟩), (65, ⟨false, 0, false⟩), (66, ⟨false, 0, false⟩), (67, ⟨false, 0, false⟩), (9, ⟨true, 0, false⟩), (10, ⟨true, 0, false⟩)]
 (.seq (.reg [⟨(some 68), .bin .lss (.t 67) (.t 66), none⟩])
 (.seq (.cond (.t 68)
 .skip
 (.exit 0))
 (.seq (.block 1 (.seq (.reg [⟨(some 69), .ixs 1 (.t 65) (.t 67), none⟩,
  ⟨(some 70), .load false 1 (.t 69), none⟩,
  ⟨(some 17), .mv (.t 70), none⟩])
 (.seq (.reg [⟨(some 18), .mv (.k (D.int .u8 (108))), none⟩])
 (.seq (.reg [⟨(some 19), .mv (.k (D.str [50])), none⟩])
 (.seq (.seq (.reg [⟨(some 71), .mv (.t 3), none⟩])
 (.cond (.t 71)
 (.reg [⟨(some 18), .mv (.k (D.int .u8 (104))), none⟩,
  ⟨(some 19), .mv (.k (D.str [49])), none⟩])
 .skip))
 (.seq (.reg [⟨(some 72), .load true 29 (.t 9), none⟩,
  ⟨(some 73), .mv (.t 18), none⟩,
  ⟨(some 74), .mv (.t 17), none⟩,
  ⟨(some 75), .bsl false 1 1 [(D.int .i64 (0))] [(0, (.t 74))], none⟩,
  ⟨(some 76), .build [(D.int .i64 (0)), (D.int .i32 (0)), (D.int .u8 (0)), (D.int .u8 (0)), (D.int .u8 (0)), .sn, (D.str [])] [(0, 1, (.k (D.int .i64 (4)))), (2, 1, (.k (D.int .u8 (63)))), (4, 1, (.t 73)), (5, 1, (.t 75))], none⟩,
  ⟨(some 77), .call false 400 [(.t 72), (.t 76)], none⟩,
  ⟨(some 20), .alloc [(D.int .i64 (0)), (D.int .i64 (0)), .sn, (D.int .i64 (0)), (D.int .i64 (0)), (D.bool false), (D.int .i64 (0)), (D.int .i64 (0)), (D.int .i64 (0)), (D.int .i64 (0)), (D.int .i64 (0)), (D.int .u64 (0)), (D.int .u8 (0)), (D.int .u8 (0)), (D.int .i64 (0)), (D.bool false), (D.bool false), (D.bool false), (D.bool false), (D.bool false), (D.int .i64 (0)), (D.int .i64 (0)), (D.int .i64 (0)), (D.int .i64 (0)), (D.int .i64 (0)), (D.int .u8 (0)), (D.int .u8 (0)), (D.int .i64 (0)), (D.bool false)], none⟩,
  ⟨none, .store 29 (.t 20) (.t 77), none⟩])
 (.seq (.reg [⟨(some 78), .mv (.t 17), none⟩,
  ⟨(some 79), .bsl false 1 1 [(D.int .i64 (0))] [(0, (.t 78))], none⟩,
  ⟨(some 80), .build [(D.int .i64 (0)), (D.int .i32 (0)), (D.int .u8 (0)), (D.int .u8 (0)), (D.int .u8 (0)), .sn, (D.str [])] [(0, 1, (.k (D.int .i64 (4)))), (2, 1, (.k (D.int .u8 (63)))), (3, 1, (.k (D.int .u8 (36)))), (4, 1, (.k (D.int .u8 (112)))), (5, 1, (.t 79))], none⟩,
  ⟨(some 21), .alloc [(D.int .i64 (0)), (D.int .i32 (0)), (D.int .u8 (0)), (D.int .u8 (0)), (D.int .u8 (0)), .sn, (D.str [])], none⟩,
  ⟨none, .store 7 (.t 21) (.t 80), none⟩])
 (.seq (.dreg [([], false, ⟨(some 81), .load true 29 (.t 20), none⟩),
  ([0], false, ⟨(some 82), .load true 7 (.t 21), none⟩),
  ([], false, ⟨(some 83), .call true 356 [(.t 81), (.t 82)], none⟩),
  ([], false, ⟨(some 84), .b2s (.t 83), none⟩),
  ([0, 1, 2, 3], false, ⟨(some 85), .mv (.t 17), none⟩),
  ([3], false, ⟨(some 86), .call true 176 [(.t 85)], none⟩),
  ([3], false, ⟨(some 87), .bin .add (.k (D.str [27, 91, 63])) (.t 86), none⟩),
  ([3], false, ⟨(some 88), .bin .add (.t 87) (.k (D.str [59])), none⟩),
  ([0, 1, 2, 3, 4, 5, 6, 7], false, ⟨(some 89), .mv (.t 19), none⟩),
  ([3], false, ⟨(some 90), .bin .add (.t 88) (.t 89), none⟩),
  ([3], false, ⟨(some 91), .bin .add (.t 90) (.k (D.str [36, 121])), none⟩),
  ([], true, ⟨(some 92), .bin .neq (.t 84) (.t 91), none⟩),
  ([], true, ⟨(some 93), .mv (.t 92), none⟩),
  ([], false, ⟨(some 94), .load true 29 (.t 20), (some (93, false))⟩),
  ([0], false, ⟨(some 95), .load true 7 (.t 21), (some (93, false))⟩),
  ([], false, ⟨(some 96), .callr 400 [(.t 94), (.t 95)], (some (93, false))⟩),
  ([0, 1, 2], false, ⟨(some 97), .load true 29 (.t 20), (some (93, false))⟩),
  ([], true, ⟨(some 98), .call false 177 [(.t 96), (.t 97)], (some (93, false))⟩),
  ([], true, ⟨(some 99), .una .not (.t 98), (some (93, false))⟩),
  ([], true, ⟨(some 100), .pick (.t 93) (.k (D.bool true)) (.t 99), none⟩)])
 (.cond (.t 100)
 (.seq (.reg [⟨(some 8), .mv (.k (D.bool false)), none⟩])
 .ret)
 .skip)))))))))
 (.reg [⟨(some 101), .bin .add (.t 67) (.k (D.int .i64 (1))), none⟩,
  ⟨(some 67), .mv (.t 101), none⟩])))))))
 (.seq (.dreg [([], false, ⟨(some 102), .mv (.t 11), none⟩),
  ([0], false, ⟨(some 103), .fad 3 (.t 9), none⟩),
  ([0], false, ⟨(some 104), .load false 1 (.t 103), none⟩),
  ([0], false, ⟨(some 105), .bin .add (.t 104) (.k (D.int .i64 (1))), none⟩),
  ([0], false, ⟨(some 106), .call true 176 [(.t 105)], none⟩),
  ([0], false, ⟨(some 107), .bin .add (.k (D.str [27, 91])) (.t 106), none⟩),
  ([0, 1, 2, 3, 4, 5], false, ⟨(some 108), .mv (.t 14), none⟩),
  ([0], false, ⟨(some 109), .bin .add (.t 107) (.t 108), none⟩),
  ([], true, ⟨(some 110), .bin .eql (.t 102) (.t 109), none⟩),
  ([], true, ⟨(some 111), .mv (.t 110), none⟩),
  ([], false, ⟨(some 112), .mv (.t 13), (some (111, true))⟩),
  ([0], false, ⟨(some 113), .mv (.t 15), (some (111, true))⟩),
  ([0], false, ⟨(some 114), .call true 176 [(.t 113)], (some (111, true))⟩),
  ([0], false, ⟨(some 115), .bin .add (.k (D.str [27, 91])) (.t 114), (some (111, true))⟩),
  ([0, 1, 2, 3], false, ⟨(some 116), .mv (.t 14), (some (111, true))⟩),
  ([0], false, ⟨(some 117), .bin .add (.t 115) (.t 116), (some (111, true))⟩),
  ([], true, ⟨(some 118), .bin .eql (.t 112) (.t 117), (some (111, true))⟩),
  ([], true, ⟨(some 119), .pick (.t 111) (.t 118) (.k (D.bool false)), none⟩),
  ([], true, ⟨(some 120), .mv (.t 119), none⟩),
  ([], false, ⟨(some 121), .load true 29 (.t 9), (some (120, true))⟩),
  ([0], false, ⟨(some 122), .load true 7 (.t 10), (some (120, true))⟩),
  ([], false, ⟨(some 123), .callr 400 [(.t 121), (.t 122)], (some (120, true))⟩),
  ([0, 1, 2], false, ⟨(some 124), .load true 29 (.t 9), (some (120, true))⟩),
  ([], true, ⟨(some 125), .call false 177 [(.t 123), (.t 124)], (some (120, true))⟩),
  ([], true, ⟨(some 126), .pick (.t 120) (.t 125) (.k (D.bool false)), none⟩),
  ([], true, ⟨(some 127), .mv (.t 126), none⟩),
  ([], true, ⟨(some 128), .call false 199 [], (some (127, true))⟩),
  ([], true, ⟨(some 129), .pick (.t 127) (.t 128) (.k (D.bool false)), none⟩),
  ([], true, ⟨(some 8), .mv (.t 129), none⟩)])
 .ret)))))))))))))⟩
end Go.Proofs.YtbnpiancagebbaaGreatDoor.LgTab
