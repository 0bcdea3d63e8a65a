import Derived.Test.YtbpaojgkkggcgabDoorRows
import Derived.Test.YtbpaojgkkggcgabDoorLgE2
import Derived.RowKit
import Derived.Test.YtbpaojgkkggcgabDoorLgJoin
import Derived.Test.YtbpaojgkkggcgabDoorLgJoin
/-
  The seat's functions, as this work's tool printed them.
-/
namespace Go.Proofs.YtbpaojgkkggcgabDoor.LgTSeqRuns
open Go Lg
set_option maxRecDepth 100000
def a457 : Ann := ⟨[(4, [(0, ⟨false, 0, false⟩), (1, ⟨false, 0, false⟩), (4, ⟨false, 0, false⟩), (12, ⟨false, 0, false⟩), (13, ⟨false, 0, false⟩)])], [⟨false, 0, false⟩], []⟩
def s457 : SFun := ⟨2, 26, [], [(.tmp 4, ⟨false, 0, false⟩)],
 (.seq (.reg [⟨(some 4), .mv (.k (D.bool false)), none⟩])
 (.seq (.seq (.reg [⟨(some 6), .mv (.t 0), none⟩,
  ⟨(some 7), .len (.t 6), none⟩,
  ⟨(some 8), .mv (.t 1), none⟩,
  ⟨(some 9), .len (.t 8), none⟩,
  ⟨(some 10), .bin .neq (.t 7) (.t 9), none⟩])
 (.cond (.t 10)
 (.seq (.reg [⟨(some 4), .mv (.k (D.bool false)), none⟩])
 .ret)
 .skip))
 (.seq (.seq (.reg [⟨(some 11), .mv (.t 0), none⟩,
  ⟨(some 12), .len (.t 11), none⟩,
  ⟨(some 13), .mv (.k (D.int .i64 (0))), none⟩])
 (.block 0 (.loop [(0, ⟨false, 0, false⟩), (1, ⟨false, 0, false⟩), (4, ⟨false, 0, false⟩), (12, ⟨false, 0, false⟩), (13, ⟨false, 0, false⟩)]
 (.seq (.reg [⟨(some 14), .bin .lss (.t 13) (.t 12), none⟩])
 (.seq (.cond (.t 14)
 .skip
 (.exit 0))
 (.seq (.block 1 (.seq (.reg [⟨(some 15), .mv (.t 13), none⟩,
  ⟨(some 5), .mv (.t 15), none⟩])
 (.seq (.dreg [([], false, ⟨(some 16), .mv (.t 0), none⟩),
  ([0], false, ⟨(some 17), .mv (.t 5), none⟩),
  ([], false, ⟨(some 18), .ixs 1 (.t 16) (.t 17), none⟩),
  ([], false, ⟨(some 19), .load false 1 (.t 18), none⟩),
  ([0, 1, 2, 3], false, ⟨(some 20), .mv (.t 1), none⟩),
  ([0, 1, 2, 3, 4], false, ⟨(some 21), .mv (.t 5), none⟩),
  ([0, 1, 2, 3], false, ⟨(some 22), .ixs 1 (.t 20) (.t 21), none⟩),
  ([0, 1, 2, 3], false, ⟨(some 23), .load false 1 (.t 22), none⟩),
  ([], true, ⟨(some 24), .bin .neq (.t 19) (.t 23), none⟩)])
 (.cond (.t 24)
 (.seq (.reg [⟨(some 4), .mv (.k (D.bool false)), none⟩])
 .ret)
 .skip))))
 (.reg [⟨(some 25), .bin .add (.t 13) (.k (D.int .i64 (1))), none⟩,
  ⟨(some 13), .mv (.t 25), none⟩])))))))
 (.seq (.reg [⟨(some 4), .mv (.k (D.bool true)), none⟩])
 .ret))))⟩
def a450 : Ann := ⟨[], [⟨true, 1, false⟩], []⟩
def n450 : NFun := ⟨1, 8, [], [(.tmp 2, ⟨true, 1, false⟩)],
 (.reg [⟨(some 2), .mv (.k .sn), none⟩]), ⟨(some 3), .mv (.t 0), none⟩, 4, (.t 3), (.cond (.t 4)
 (.seq (.reg [⟨(some 2), .mv (.k .sn), none⟩])
 .ret)
 .skip), (.seq (.reg [⟨(some 5), .bsl true 1 0 [(D.int .i64 (0))] [], none⟩,
  ⟨(some 6), .mv (.t 0), none⟩,
  ⟨(some 7), .append 1 8 (.t 5) (.t 6), none⟩,
  ⟨(some 2), .mv (.t 7), none⟩])
 .ret)⟩
def a382 : Ann := ⟨[], [⟨false, 0, false⟩], []⟩
def s382 : SFun := ⟨2, 16, [], [(.cell 4 true 7, ⟨false, 0, false⟩)],
 (.seq (.reg [⟨(some 4), .alloc [(D.int .i64 (0)), (D.int .i32 (0)), (D.int .u8 (0)), (D.int .u8 (0)), (D.int .u8 (0)), .sn, (D.str [])], none⟩])
 (.seq (.reg [⟨(some 6), .mv (.t 0), none⟩,
  ⟨(some 7), .build [(D.int .i64 (0)), (D.int .i32 (0)), (D.int .u8 (0)), (D.int .u8 (0)), (D.int .u8 (0)), .sn, (D.str [])] [(0, 1, (.k (D.int .i64 (4)))), (4, 1, (.t 6))], none⟩,
  ⟨(some 5), .alloc [(D.int .i64 (0)), (D.int .i32 (0)), (D.int .u8 (0)), (D.int .u8 (0)), (D.int .u8 (0)), .sn, (D.str [])], none⟩,
  ⟨none, .store 7 (.t 5) (.t 7), none⟩])
 (.seq (.seq (.reg [⟨(some 8), .mv (.t 1), none⟩,
  ⟨(some 9), .bsl false 1 1 [(D.int .i64 (0))] [(0, (.k (D.int .i64 (-1))))], none⟩,
  ⟨(some 10), .call false 457 [(.t 8), (.t 9)], none⟩,
  ⟨(some 11), .una .not (.t 10), none⟩])
 (.cond (.t 11)
 (.reg [⟨(some 12), .mv (.t 1), none⟩,
  ⟨(some 13), .call false 450 [(.t 12)], none⟩,
  ⟨(some 14), .fad 5 (.t 5), none⟩,
  ⟨none, .store 1 (.t 14) (.t 13), none⟩])
 .skip))
 (.seq (.reg [⟨(some 15), .load true 7 (.t 5), none⟩,
  ⟨none, .store 7 (.t 4) (.t 15), none⟩])
 .ret))))⟩
def a387 : Ann := ⟨[], [⟨false, 0, false⟩], []⟩
def s387 : SFun := ⟨1, 67, [], [(.tmp 2, ⟨false, 0, false⟩)],
 (.seq (.reg [⟨(some 1), .box 7 (.t 0), none⟩,
  ⟨(some 2), .mv (.k (D.bool false)), none⟩])
 (.seq (.reg [⟨(some 4), .fad 0 (.t 1), none⟩,
  ⟨(some 5), .load false 1 (.t 4), none⟩,
  ⟨(some 6), .bin .eql (.t 5) (.k (D.int .i64 (3))), none⟩,
  ⟨(some 7), .mv (.t 6), none⟩,
  ⟨(some 8), .fad 0 (.t 1), (some (7, false))⟩,
  ⟨(some 9), .load false 1 (.t 8), (some (7, false))⟩,
  ⟨(some 10), .bin .eql (.t 9) (.k (D.int .i64 (4))), (some (7, false))⟩,
  ⟨(some 11), .pick (.t 7) (.k (D.bool true)) (.t 10), none⟩,
  ⟨(some 3), .mv (.t 11), none⟩])
 (.seq (.reg [⟨(some 12), .fad 0 (.t 1), none⟩,
  ⟨(some 13), .load false 1 (.t 12), none⟩,
  ⟨(some 14), .bin .eql (.t 13) (.k (D.int .i64 (1))), none⟩,
  ⟨(some 15), .mv (.t 14), none⟩,
  ⟨(some 16), .fad 1 (.t 1), (some (15, false))⟩,
  ⟨(some 17), .load false 1 (.t 16), (some (15, false))⟩,
  ⟨(some 18), .bin .eql (.t 17) (.k (D.int .i32 (0))), (some (15, false))⟩,
  ⟨(some 19), .pick (.t 15) (.k (D.bool true)) (.t 18), none⟩,
  ⟨(some 20), .mv (.t 19), none⟩,
  ⟨(some 21), .fad 0 (.t 1), (some (20, true))⟩,
  ⟨(some 22), .load false 1 (.t 21), (some (20, true))⟩,
  ⟨(some 23), .bin .eql (.t 22) (.k (D.int .i64 (4))), (some (20, true))⟩,
  ⟨(some 24), .mv (.t 23), (some (20, true))⟩,
  ⟨(some 25), .fad 2 (.t 1), (some (24, false))⟩,
  ⟨(some 26), .load false 1 (.t 25), (some (24, false))⟩,
  ⟨(some 27), .bin .eql (.t 26) (.k (D.int .u8 (0))), (some (24, false))⟩,
  ⟨(some 28), .mv (.t 27), (some (24, false))⟩,
  ⟨(some 29), .fad 5 (.t 1), (some (28, true))⟩,
  ⟨(some 30), .load false 1 (.t 29), (some (28, true))⟩,
  ⟨(some 31), .len (.t 30), (some (28, true))⟩,
  ⟨(some 32), .bin .eql (.t 31) (.k (D.int .i64 (0))), (some (28, true))⟩,
  ⟨(some 33), .pick (.t 28) (.t 32) (.k (D.bool false)), (some (24, false))⟩,
  ⟨(some 34), .pick (.t 24) (.k (D.bool true)) (.t 33), (some (20, true))⟩,
  ⟨(some 35), .pick (.t 20) (.t 34) (.k (D.bool false)), none⟩,
  ⟨(some 36), .mv (.t 35), none⟩,
  ⟨(some 37), .mv (.t 3), (some (36, true))⟩,
  ⟨(some 38), .mv (.t 37), (some (36, true))⟩,
  ⟨(some 39), .fad 3 (.t 1), (some (38, false))⟩,
  ⟨(some 40), .load false 1 (.t 39), (some (38, false))⟩,
  ⟨(some 41), .bin .eql (.t 40) (.k (D.int .u8 (0))), (some (38, false))⟩,
  ⟨(some 42), .pick (.t 38) (.k (D.bool true)) (.t 41), (some (36, true))⟩,
  ⟨(some 43), .pick (.t 36) (.t 42) (.k (D.bool false)), none⟩,
  ⟨(some 44), .mv (.t 43), none⟩,
  ⟨(some 45), .mv (.t 3), (some (44, true))⟩,
  ⟨(some 46), .mv (.t 45), (some (44, true))⟩,
  ⟨(some 47), .fad 0 (.t 1), (some (46, false))⟩,
  ⟨(some 48), .load false 1 (.t 47), (some (46, false))⟩,
  ⟨(some 49), .bin .eql (.t 48) (.k (D.int .i64 (2))), (some (46, false))⟩,
  ⟨(some 50), .pick (.t 46) (.k (D.bool true)) (.t 49), (some (44, true))⟩,
  ⟨(some 51), .mv (.t 50), (some (44, true))⟩,
  ⟨(some 52), .fad 4 (.t 1), (some (51, false))⟩,
  ⟨(some 53), .load false 1 (.t 52), (some (51, false))⟩,
  ⟨(some 54), .bin .eql (.t 53) (.k (D.int .u8 (0))), (some (51, false))⟩,
  ⟨(some 55), .pick (.t 51) (.k (D.bool true)) (.t 54), (some (44, true))⟩,
  ⟨(some 56), .pick (.t 44) (.t 55) (.k (D.bool false)), none⟩,
  ⟨(some 57), .mv (.t 56), none⟩,
  ⟨(some 58), .fad 0 (.t 1), (some (57, true))⟩,
  ⟨(some 59), .load false 1 (.t 58), (some (57, true))⟩,
  ⟨(some 60), .bin .eql (.t 59) (.k (D.int .i64 (5))), (some (57, true))⟩,
  ⟨(some 61), .mv (.t 60), (some (57, true))⟩,
  ⟨(some 62), .fad 6 (.t 1), (some (61, false))⟩,
  ⟨(some 63), .load false 1 (.t 62), (some (61, false))⟩,
  ⟨(some 64), .bin .eql (.t 63) (.k (D.str [])), (some (61, false))⟩,
  ⟨(some 65), .pick (.t 61) (.k (D.bool true)) (.t 64), (some (57, true))⟩,
  ⟨(some 66), .pick (.t 57) (.t 65) (.k (D.bool false)), none⟩,
  ⟨(some 2), .mv (.t 66), none⟩])
 .ret)))⟩
def a398 : Ann := ⟨[], [⟨false, 0, false⟩], []⟩
def s398 : SFun := ⟨3, 15, [], [(.tmp 6, ⟨false, 0, false⟩)],
 (.seq (.reg [⟨(some 6), .mv (.k (D.bool false)), none⟩])
 (.seq (.reg [⟨(some 7), .mv (.t 0), none⟩,
  ⟨(some 8), .mv (.t 1), none⟩,
  ⟨(some 9), .bin .geq (.t 7) (.t 8), none⟩,
  ⟨(some 10), .mv (.t 9), none⟩,
  ⟨(some 11), .mv (.t 0), (some (10, true))⟩,
  ⟨(some 12), .mv (.t 2), (some (10, true))⟩,
  ⟨(some 13), .bin .leq (.t 11) (.t 12), (some (10, true))⟩,
  ⟨(some 14), .pick (.t 10) (.t 13) (.k (D.bool false)), none⟩,
  ⟨(some 6), .mv (.t 14), none⟩])
 .ret))⟩
def a390 : Ann := ⟨[], [⟨false, 0, false⟩], []⟩
def s390 : SFun := ⟨1, 9, [], [(.tmp 2, ⟨false, 0, false⟩)],
 (.seq (.reg [⟨(some 2), .mv (.k (D.bool false)), none⟩])
 (.seq (.reg [⟨(some 3), .mv (.t 0), none⟩,
  ⟨(some 4), .bin .eql (.t 3) (.k (D.int .u8 (0))), none⟩,
  ⟨(some 5), .mv (.t 4), none⟩,
  ⟨(some 6), .mv (.t 0), (some (5, false))⟩,
  ⟨(some 7), .call false 398 [(.t 6), (.k (D.int .u8 (32))), (.k (D.int .u8 (47)))], (some (5, false))⟩,
  ⟨(some 8), .pick (.t 5) (.k (D.bool true)) (.t 7), none⟩,
  ⟨(some 2), .mv (.t 8), none⟩])
 .ret))⟩
def a394 : Ann := ⟨[], [⟨false, 0, false⟩], []⟩
def s394 : SFun := ⟨1, 21, [], [(.tmp 2, ⟨false, 0, false⟩)],
 (.seq (.reg [⟨(some 2), .mv (.k (D.bool false)), none⟩])
 (.seq (.reg [⟨(some 3), .mv (.t 0), none⟩,
  ⟨(some 4), .bin .geq (.t 3) (.k (D.int .i32 (32))), none⟩,
  ⟨(some 5), .mv (.t 4), none⟩,
  ⟨(some 6), .mv (.t 0), (some (5, true))⟩,
  ⟨(some 7), .bin .leq (.t 6) (.k (D.int .i32 (1114111))), (some (5, true))⟩,
  ⟨(some 8), .pick (.t 5) (.t 7) (.k (D.bool false)), none⟩,
  ⟨(some 9), .mv (.t 8), none⟩,
  ⟨(some 10), .mv (.t 0), (some (9, true))⟩,
  ⟨(some 11), .bin .neq (.t 10) (.k (D.int .i32 (127))), (some (9, true))⟩,
  ⟨(some 12), .pick (.t 9) (.t 11) (.k (D.bool false)), none⟩,
  ⟨(some 13), .mv (.t 12), none⟩,
  ⟨(some 14), .mv (.t 0), (some (13, true))⟩,
  ⟨(some 15), .bin .lss (.t 14) (.k (D.int .i32 (55296))), (some (13, true))⟩,
  ⟨(some 16), .mv (.t 15), (some (13, true))⟩,
  ⟨(some 17), .mv (.t 0), (some (16, false))⟩,
  ⟨(some 18), .bin .gtr (.t 17) (.k (D.int .i32 (57343))), (some (16, false))⟩,
  ⟨(some 19), .pick (.t 16) (.k (D.bool true)) (.t 18), (some (13, true))⟩,
  ⟨(some 20), .pick (.t 13) (.t 19) (.k (D.bool false)), none⟩,
  ⟨(some 2), .mv (.t 20), none⟩])
 .ret))⟩
def a391 : Ann := ⟨[], [⟨false, 0, false⟩], []⟩
def s391 : SFun := ⟨2, 9, [], [(.tmp 4, ⟨false, 0, false⟩)],
 (.seq (.reg [⟨(some 4), .mv (.k (D.bool false)), none⟩])
 (.seq (.reg [⟨(some 5), .mv (.t 0), none⟩,
  ⟨(some 6), .mv (.t 1), none⟩,
  ⟨(some 7), .call false 469 [(.t 5), (.t 6)], none⟩,
  ⟨(some 8), .bin .geq (.t 7) (.k (D.int .i64 (0))), none⟩,
  ⟨(some 4), .mv (.t 8), none⟩])
 .ret))⟩
def a461 : Ann := ⟨[(2, [(0, ⟨false, 0, false⟩), (1, ⟨false, 0, false⟩), (4, ⟨false, 0, false⟩), (7, ⟨false, 0, false⟩), (8, ⟨false, 0, false⟩)])], [⟨false, 0, false⟩], []⟩
def s461 : SFun := ⟨2, 19, [], [(.tmp 4, ⟨false, 0, false⟩)],
 (.seq (.reg [⟨(some 4), .mv (.k (D.int .i64 (0))), none⟩])
 (.seq (.seq (.reg [⟨(some 6), .mv (.t 0), none⟩,
  ⟨(some 7), .len (.t 6), none⟩,
  ⟨(some 8), .mv (.k (D.int .i64 (0))), none⟩])
 (.block 0 (.loop [(0, ⟨false, 0, false⟩), (1, ⟨false, 0, false⟩), (4, ⟨false, 0, false⟩), (7, ⟨false, 0, false⟩), (8, ⟨false, 0, false⟩)]
 (.seq (.reg [⟨(some 9), .bin .lss (.t 8) (.t 7), none⟩])
 (.seq (.cond (.t 9)
 .skip
 (.exit 0))
 (.seq (.block 1 (.seq (.reg [⟨(some 10), .mv (.t 8), none⟩,
  ⟨(some 5), .mv (.t 10), none⟩])
 (.seq (.reg [⟨(some 11), .mv (.t 1), none⟩,
  ⟨(some 12), .mv (.t 0), none⟩,
  ⟨(some 13), .mv (.t 5), none⟩,
  ⟨(some 14), .ixs 1 (.t 12) (.t 13), none⟩,
  ⟨(some 15), .load false 1 (.t 14), none⟩,
  ⟨(some 16), .callv false (.t 11) [(.t 15)], none⟩])
 (.cond (.t 16)
 (.seq (.reg [⟨(some 17), .mv (.t 5), none⟩,
  ⟨(some 4), .mv (.t 17), none⟩])
 .ret)
 .skip))))
 (.reg [⟨(some 18), .bin .add (.t 8) (.k (D.int .i64 (1))), none⟩,
  ⟨(some 8), .mv (.t 18), none⟩])))))))
 (.seq (.reg [⟨(some 4), .mv (.k (D.int .i64 (-1))), none⟩])
 .ret)))⟩
def a453 : Ann := ⟨[], [⟨false, 0, false⟩], []⟩
def s453 : SFun := ⟨2, 9, [], [(.tmp 4, ⟨false, 0, false⟩)],
 (.seq (.reg [⟨(some 4), .mv (.k (D.bool false)), none⟩])
 (.seq (.reg [⟨(some 5), .mv (.t 0), none⟩,
  ⟨(some 6), .mv (.t 1), none⟩,
  ⟨(some 7), .call false 461 [(.t 5), (.t 6)], none⟩,
  ⟨(some 8), .bin .geq (.t 7) (.k (D.int .i64 (0))), none⟩,
  ⟨(some 4), .mv (.t 8), none⟩])
 .ret))⟩
def a393 : Ann := ⟨[], [⟨false, 0, false⟩], []⟩
def s393 : SFun := ⟨1, 9, [], [(.tmp 2, ⟨false, 0, false⟩)],
 (.seq (.reg [⟨(some 2), .mv (.k (D.bool false)), none⟩])
 (.seq (.reg [⟨(some 3), .mv (.t 0), none⟩,
  ⟨(some 4), .bin .lss (.t 3) (.k (D.int .i64 (-1))), none⟩,
  ⟨(some 5), .mv (.t 4), none⟩,
  ⟨(some 6), .mv (.t 0), (some (5, false))⟩,
  ⟨(some 7), .bin .gtr (.t 6) (.k (D.int .i64 (65535))), (some (5, false))⟩,
  ⟨(some 8), .pick (.t 5) (.k (D.bool true)) (.t 7), none⟩,
  ⟨(some 2), .mv (.t 8), none⟩])
 .ret))⟩
def a392 : Ann := ⟨[], [⟨false, 0, false⟩], []⟩
def s392 : SFun := ⟨1, 19, [], [(.tmp 2, ⟨false, 0, false⟩)],
 (.seq (.reg [⟨(some 2), .mv (.k (D.bool false)), none⟩])
 (.seq (.reg [⟨(some 3), .mv (.k (.fn 393 [])), none⟩])
 (.seq (.reg [⟨(some 4), .mv (.t 0), none⟩,
  ⟨(some 5), .len (.t 4), none⟩,
  ⟨(some 6), .bin .leq (.t 5) (.k (D.int .i64 (16))), none⟩,
  ⟨(some 7), .mv (.t 6), none⟩,
  ⟨(some 8), .mv (.t 0), (some (7, true))⟩,
  ⟨(some 9), .mv (.t 3), (some (7, true))⟩,
  ⟨(some 10), .call false 453 [(.t 8), (.t 9)], (some (7, true))⟩,
  ⟨(some 11), .una .not (.t 10), (some (7, true))⟩,
  ⟨(some 12), .pick (.t 7) (.t 11) (.k (D.bool false)), none⟩,
  ⟨(some 13), .mv (.t 12), none⟩,
  ⟨(some 14), .mv (.t 0), (some (13, true))⟩,
  ⟨(some 15), .bsl false 1 1 [(D.int .i64 (0))] [(0, (.k (D.int .i64 (-1))))], (some (13, true))⟩,
  ⟨(some 16), .call false 457 [(.t 14), (.t 15)], (some (13, true))⟩,
  ⟨(some 17), .una .not (.t 16), (some (13, true))⟩,
  ⟨(some 18), .pick (.t 13) (.t 17) (.k (D.bool false)), none⟩,
  ⟨(some 2), .mv (.t 18), none⟩])
 .ret)))⟩
def a395 : Ann := ⟨[(2, [(0, ⟨false, 0, false⟩), (2, ⟨false, 0, false⟩), (5, ⟨false, 0, false⟩), (6, ⟨false, 0, false⟩)])], [⟨false, 0, false⟩], []⟩
def s395 : SFun := ⟨1, 17, [], [(.tmp 2, ⟨false, 0, false⟩)],
 (.seq (.reg [⟨(some 2), .mv (.k (D.bool false)), none⟩])
 (.seq (.seq (.reg [⟨(some 4), .mv (.t 0), none⟩,
  ⟨(some 5), .lens (.t 4), none⟩,
  ⟨(some 6), .mv (.k (D.int .i64 (0))), none⟩])
 (.block 0 (.loop [(0, ⟨false, 0, false⟩), (2, ⟨false, 0, false⟩), (5, ⟨false, 0, false⟩), (6, ⟨false, 0, false⟩)]
 (.seq (.reg [⟨(some 7), .bin .lss (.t 6) (.t 5), none⟩])
 (.seq (.cond (.t 7)
 .skip
 (.exit 0))
 (.seq (.block 1 (.seq (.reg [⟨(some 8), .mv (.t 6), none⟩,
  ⟨(some 3), .mv (.t 8), none⟩])
 (.seq (.reg [⟨(some 9), .mv (.t 0), none⟩,
  ⟨(some 10), .mv (.t 3), none⟩,
  ⟨(some 11), .ixt (.t 9) (.t 10), none⟩,
  ⟨(some 12), .bin .lss (.t 11) (.k (D.int .u8 (32))), none⟩])
 (.cond (.t 12)
 (.seq (.reg [⟨(some 2), .mv (.k (D.bool false)), none⟩])
 .ret)
 .skip))))
 (.reg [⟨(some 13), .bin .add (.t 6) (.k (D.int .i64 (1))), none⟩,
  ⟨(some 6), .mv (.t 13), none⟩])))))))
 (.seq (.reg [⟨(some 14), .mv (.t 0), none⟩,
  ⟨(some 15), .lens (.t 14), none⟩,
  ⟨(some 16), .bin .leq (.t 15) (.k (D.int .i64 (4096))), none⟩,
  ⟨(some 2), .mv (.t 16), none⟩])
 .ret)))⟩
def a384 : Ann := ⟨[], [⟨false, 0, false⟩], []⟩
def s384 : SFun := ⟨1, 71, [], [(.tmp 2, ⟨false, 0, false⟩)],
 (.seq (.reg [⟨(some 1), .box 7 (.t 0), none⟩,
  ⟨(some 2), .mv (.k (D.bool false)), none⟩])
 (.seq (.seq (.reg [⟨(some 3), .load true 7 (.t 1), none⟩,
  ⟨(some 4), .call false 387 [(.t 3)], none⟩,
  ⟨(some 5), .una .not (.t 4), none⟩,
  ⟨(some 6), .mv (.t 5), none⟩,
  ⟨(some 7), .fad 3 (.t 1), (some (6, false))⟩,
  ⟨(some 8), .load false 1 (.t 7), (some (6, false))⟩,
  ⟨(some 9), .call false 390 [(.t 8)], (some (6, false))⟩,
  ⟨(some 10), .una .not (.t 9), (some (6, false))⟩,
  ⟨(some 11), .pick (.t 6) (.k (D.bool true)) (.t 10), none⟩])
 (.cond (.t 11)
 (.seq (.reg [⟨(some 2), .mv (.k (D.bool false)), none⟩])
 .ret)
 .skip))
 (.seq (.seq (.reg [⟨(some 12), .fad 0 (.t 1), none⟩,
  ⟨(some 13), .load false 1 (.t 12), none⟩])
 (.block 0 (.seq (.reg [⟨(some 15), .bin .eql (.t 13) (.k (D.int .i64 (1))), none⟩,
  ⟨(some 14), .mv (.t 15), none⟩])
 (.cond (.t 14)
 (.seq (.reg [⟨(some 16), .fad 1 (.t 1), none⟩,
  ⟨(some 17), .load false 1 (.t 16), none⟩,
  ⟨(some 18), .call false 394 [(.t 17)], none⟩,
  ⟨(some 2), .mv (.t 18), none⟩])
 .ret)
 (.seq (.reg [⟨(some 20), .bin .eql (.t 13) (.k (D.int .i64 (2))), none⟩,
  ⟨(some 19), .mv (.t 20), none⟩])
 (.cond (.t 19)
 (.seq (.reg [⟨(some 21), .fad 4 (.t 1), none⟩,
  ⟨(some 22), .load false 1 (.t 21), none⟩,
  ⟨(some 23), .bin .lss (.t 22) (.k (D.int .u8 (32))), none⟩,
  ⟨(some 24), .mv (.t 23), none⟩,
  ⟨(some 25), .fad 4 (.t 1), (some (24, true))⟩,
  ⟨(some 26), .load false 1 (.t 25), (some (24, true))⟩,
  ⟨(some 27), .call false 391 [(.k (D.str [24, 26, 27])), (.t 26)], (some (24, true))⟩,
  ⟨(some 28), .una .not (.t 27), (some (24, true))⟩,
  ⟨(some 29), .pick (.t 24) (.t 28) (.k (D.bool false)), none⟩,
  ⟨(some 2), .mv (.t 29), none⟩])
 .ret)
 (.seq (.reg [⟨(some 31), .bin .eql (.t 13) (.k (D.int .i64 (3))), none⟩,
  ⟨(some 30), .mv (.t 31), none⟩])
 (.cond (.t 30)
 (.seq (.reg [⟨(some 32), .fad 4 (.t 1), none⟩,
  ⟨(some 33), .load false 1 (.t 32), none⟩,
  ⟨(some 34), .call false 398 [(.t 33), (.k (D.int .u8 (48))), (.k (D.int .u8 (126)))], none⟩,
  ⟨(some 35), .mv (.t 34), none⟩,
  ⟨(some 36), .fad 3 (.t 1), (some (35, true))⟩,
  ⟨(some 37), .load false 1 (.t 36), (some (35, true))⟩,
  ⟨(some 38), .bin .neq (.t 37) (.k (D.int .u8 (0))), (some (35, true))⟩,
  ⟨(some 39), .mv (.t 38), (some (35, true))⟩,
  ⟨(some 40), .fad 4 (.t 1), (some (39, false))⟩,
  ⟨(some 41), .load false 1 (.t 40), (some (39, false))⟩,
  ⟨(some 42), .call false 391 [(.k (D.str [91, 93, 80, 88, 94, 95])), (.t 41)], (some (39, false))⟩,
  ⟨(some 43), .una .not (.t 42), (some (39, false))⟩,
  ⟨(some 44), .pick (.t 39) (.k (D.bool true)) (.t 43), (some (35, true))⟩,
  ⟨(some 45), .pick (.t 35) (.t 44) (.k (D.bool false)), none⟩,
  ⟨(some 2), .mv (.t 45), none⟩])
 .ret)
 (.seq (.reg [⟨(some 47), .bin .eql (.t 13) (.k (D.int .i64 (4))), none⟩,
  ⟨(some 46), .mv (.t 47), none⟩])
 (.cond (.t 46)
 (.seq (.reg [⟨(some 48), .fad 4 (.t 1), none⟩,
  ⟨(some 49), .load false 1 (.t 48), none⟩,
  ⟨(some 50), .call false 398 [(.t 49), (.k (D.int .u8 (64))), (.k (D.int .u8 (126)))], none⟩,
  ⟨(some 51), .mv (.t 50), none⟩,
  ⟨(some 52), .fad 2 (.t 1), (some (51, true))⟩,
  ⟨(some 53), .load false 1 (.t 52), (some (51, true))⟩,
  ⟨(some 54), .bin .eql (.t 53) (.k (D.int .u8 (0))), (some (51, true))⟩,
  ⟨(some 55), .mv (.t 54), (some (51, true))⟩,
  ⟨(some 56), .fad 2 (.t 1), (some (55, false))⟩,
  ⟨(some 57), .load false 1 (.t 56), (some (55, false))⟩,
  ⟨(some 58), .call false 391 [(.k (D.str [60, 61, 62, 63])), (.t 57)], (some (55, false))⟩,
  ⟨(some 59), .pick (.t 55) (.k (D.bool true)) (.t 58), (some (51, true))⟩,
  ⟨(some 60), .pick (.t 51) (.t 59) (.k (D.bool false)), none⟩,
  ⟨(some 61), .mv (.t 60), none⟩,
  ⟨(some 62), .fad 5 (.t 1), (some (61, true))⟩,
  ⟨(some 63), .load false 1 (.t 62), (some (61, true))⟩,
  ⟨(some 64), .call false 392 [(.t 63)], (some (61, true))⟩,
  ⟨(some 65), .pick (.t 61) (.t 64) (.k (D.bool false)), none⟩,
  ⟨(some 2), .mv (.t 65), none⟩])
 .ret)
 (.seq (.reg [⟨(some 67), .bin .eql (.t 13) (.k (D.int .i64 (5))), none⟩,
  ⟨(some 66), .mv (.t 67), none⟩])
 (.cond (.t 66)
 (.seq (.reg [⟨(some 68), .fad 6 (.t 1), none⟩,
  ⟨(some 69), .load false 1 (.t 68), none⟩,
  ⟨(some 70), .call false 395 [(.t 69)], none⟩,
  ⟨(some 2), .mv (.t 70), none⟩])
 .ret)
 .skip))))))))))))
 (.seq (.reg [⟨(some 2), .mv (.k (D.bool false)), none⟩])
 .ret))))⟩
def a434 : Ann := ⟨[], [⟨false, 0, false⟩], []⟩
def s434 : SFun := ⟨2, 10, [], [(.tmp 3, ⟨false, 0, false⟩)],
 (.seq (.reg [⟨(some 3), .mv (.k (D.int .u8 (0))), none⟩])
 (.seq (.reg [⟨(some 4), .load false 1 (.t 1), none⟩,
  ⟨(some 5), .mv (.t 0), none⟩,
  ⟨(some 6), .bin .shr (.t 4) (.t 5), none⟩,
  ⟨(some 7), .bin .and (.t 6) (.k (D.int .i64 (63))), none⟩,
  ⟨(some 8), .bin .or (.k (D.int .i64 (128))) (.t 7), none⟩,
  ⟨(some 9), .cvi .u8 (.t 8), none⟩,
  ⟨(some 3), .mv (.t 9), none⟩])
 .ret))⟩
def a433 : Ann := ⟨[], [⟨true, 1, false⟩], []⟩
def s433 : SFun := ⟨1, 63, [], [(.tmp 2, ⟨true, 1, false⟩)],
 (.seq (.reg [⟨(some 2), .mv (.k .sn), none⟩])
 (.seq (.reg [⟨(some 5), .mv (.t 0), none⟩,
  ⟨(some 6), .cvi .i64 (.t 5), none⟩,
  ⟨(some 3), .alloc [(D.int .i64 (0))], none⟩,
  ⟨none, .store 1 (.t 3) (.t 6), none⟩])
 (.seq (.reg [⟨(some 7), .mkf 434 [(.t 3)], none⟩,
  ⟨(some 4), .mv (.t 7), none⟩])
 (.seq (.block 0 (.seq (.reg [⟨(some 9), .load false 1 (.t 3), none⟩,
  ⟨(some 10), .bin .lss (.t 9) (.k (D.int .i64 (0))), none⟩,
  ⟨(some 11), .mv (.t 10), none⟩,
  ⟨(some 12), .load false 1 (.t 3), (some (11, false))⟩,
  ⟨(some 13), .bin .gtr (.t 12) (.k (D.int .i64 (1114111))), (some (11, false))⟩,
  ⟨(some 14), .pick (.t 11) (.k (D.bool true)) (.t 13), none⟩,
  ⟨(some 15), .mv (.t 14), none⟩,
  ⟨(some 16), .load false 1 (.t 3), (some (15, false))⟩,
  ⟨(some 17), .bin .geq (.t 16) (.k (D.int .i64 (55296))), (some (15, false))⟩,
  ⟨(some 18), .mv (.t 17), (some (15, false))⟩,
  ⟨(some 19), .load false 1 (.t 3), (some (18, true))⟩,
  ⟨(some 20), .bin .leq (.t 19) (.k (D.int .i64 (57343))), (some (18, true))⟩,
  ⟨(some 21), .pick (.t 18) (.t 20) (.k (D.bool false)), (some (15, false))⟩,
  ⟨(some 22), .pick (.t 15) (.k (D.bool true)) (.t 21), none⟩,
  ⟨(some 8), .mv (.t 22), none⟩])
 (.cond (.t 8)
 (.seq (.reg [⟨(some 23), .call false 433 [(.k (D.int .i32 (65533)))], none⟩,
  ⟨(some 2), .mv (.t 23), none⟩])
 .ret)
 (.seq (.reg [⟨(some 25), .load false 1 (.t 3), none⟩,
  ⟨(some 26), .bin .lss (.t 25) (.k (D.int .i64 (128))), none⟩,
  ⟨(some 24), .mv (.t 26), none⟩])
 (.cond (.t 24)
 (.seq (.reg [⟨(some 27), .load false 1 (.t 3), none⟩,
  ⟨(some 28), .cvi .u8 (.t 27), none⟩,
  ⟨(some 29), .bsl true 1 1 [(D.int .u8 (0))] [(0, (.t 28))], none⟩,
  ⟨(some 2), .mv (.t 29), none⟩])
 .ret)
 (.seq (.reg [⟨(some 31), .load false 1 (.t 3), none⟩,
  ⟨(some 32), .bin .lss (.t 31) (.k (D.int .i64 (2048))), none⟩,
  ⟨(some 30), .mv (.t 32), none⟩])
 (.cond (.t 30)
 (.seq (.dreg [([], false, ⟨(some 33), .load false 1 (.t 3), none⟩),
  ([], false, ⟨(some 34), .bin .shr (.t 33) (.k (D.int .u64 (6))), none⟩),
  ([], false, ⟨(some 35), .bin .or (.k (D.int .i64 (192))) (.t 34), none⟩),
  ([], false, ⟨(some 36), .cvi .u8 (.t 35), none⟩),
  ([0, 1, 2, 3], false, ⟨(some 37), .mv (.t 4), none⟩),
  ([0, 1, 2, 3], false, ⟨(some 38), .callv true (.t 37) [(.k (D.int .i64 (0)))], none⟩),
  ([], true, ⟨(some 39), .bsl true 1 2 [(D.int .u8 (0))] [(0, (.t 36)), (1, (.t 38))], none⟩),
  ([], true, ⟨(some 2), .mv (.t 39), none⟩)])
 .ret)
 (.seq (.reg [⟨(some 41), .load false 1 (.t 3), none⟩,
  ⟨(some 42), .bin .lss (.t 41) (.k (D.int .i64 (65536))), none⟩,
  ⟨(some 40), .mv (.t 42), none⟩])
 (.cond (.t 40)
 (.seq (.dreg [([], false, ⟨(some 43), .load false 1 (.t 3), none⟩),
  ([], false, ⟨(some 44), .bin .shr (.t 43) (.k (D.int .u64 (12))), none⟩),
  ([], false, ⟨(some 45), .bin .or (.k (D.int .i64 (224))) (.t 44), none⟩),
  ([], false, ⟨(some 46), .cvi .u8 (.t 45), none⟩),
  ([0, 1, 2, 3], false, ⟨(some 47), .mv (.t 4), none⟩),
  ([0, 1, 2, 3], false, ⟨(some 48), .callv true (.t 47) [(.k (D.int .i64 (6)))], none⟩),
  ([0, 1, 2, 3, 4, 5], false, ⟨(some 49), .mv (.t 4), none⟩),
  ([0, 1, 2, 3], false, ⟨(some 50), .callv true (.t 49) [(.k (D.int .i64 (0)))], none⟩),
  ([], true, ⟨(some 51), .bsl true 1 3 [(D.int .u8 (0))] [(0, (.t 46)), (1, (.t 48)), (2, (.t 50))], none⟩),
  ([], true, ⟨(some 2), .mv (.t 51), none⟩)])
 .ret)
 .skip)))))))))
 (.seq (.dreg [([], false, ⟨(some 52), .load false 1 (.t 3), none⟩),
  ([], false, ⟨(some 53), .bin .shr (.t 52) (.k (D.int .u64 (18))), none⟩),
  ([], false, ⟨(some 54), .bin .or (.k (D.int .i64 (240))) (.t 53), none⟩),
  ([], false, ⟨(some 55), .cvi .u8 (.t 54), none⟩),
  ([0, 1, 2, 3], false, ⟨(some 56), .mv (.t 4), none⟩),
  ([0, 1, 2, 3], false, ⟨(some 57), .callv true (.t 56) [(.k (D.int .i64 (12)))], none⟩),
  ([0, 1, 2, 3, 4, 5], false, ⟨(some 58), .mv (.t 4), none⟩),
  ([0, 1, 2, 3], false, ⟨(some 59), .callv true (.t 58) [(.k (D.int .i64 (6)))], none⟩),
  ([0, 1, 2, 3, 4, 5, 6, 7], false, ⟨(some 60), .mv (.t 4), none⟩),
  ([0, 1, 2, 3], false, ⟨(some 61), .callv true (.t 60) [(.k (D.int .i64 (0)))], none⟩),
  ([], true, ⟨(some 62), .bsl true 1 4 [(D.int .u8 (0))] [(0, (.t 55)), (1, (.t 57)), (2, (.t 59)), (3, (.t 61))], none⟩),
  ([], true, ⟨(some 2), .mv (.t 62), none⟩)])
 .ret)))))⟩
def a431 : Ann := ⟨[(3, [(6, ⟨false, 0, false⟩), (7, ⟨false, 0, false⟩), (8, ⟨false, 0, false⟩), (3, ⟨true, 1, false⟩)])], [⟨true, 1, false⟩], []⟩
def s431 : SFun := ⟨1, 18, [], [(.tmp 2, ⟨true, 1, false⟩)],
 (.seq (.reg [⟨(some 2), .mv (.k .sn), none⟩])
 (.seq (.reg [⟨(some 3), .mv (.k .sn), none⟩])
 (.seq (.seq (.reg [⟨(some 6), .mv (.t 0), none⟩,
  ⟨(some 7), .len (.t 6), none⟩,
  ⟨(some 8), .mv (.k (D.int .i64 (0))), none⟩])
 (.block 0 (.loop [(6, ⟨false, 0, false⟩), (7, ⟨false, 0, false⟩), (8, ⟨false, 0, false⟩), (3, ⟨true, 1, false⟩)]
 (.seq (.reg [⟨(some 9), .bin .lss (.t 8) (.t 7), none⟩])
 (.seq (.cond (.t 9)
 .skip
 (.exit 0))
 (.seq (.block 1 (.seq (.reg [⟨(some 10), .ixs 1 (.t 6) (.t 8), none⟩,
  ⟨(some 11), .load false 1 (.t 10), none⟩,
  ⟨(some 5), .mv (.t 11), none⟩])
 (.reg [⟨(some 12), .mv (.t 3), none⟩,
  ⟨(some 13), .mv (.t 5), none⟩,
  ⟨(some 14), .call false 433 [(.t 13)], none⟩,
  ⟨(some 15), .append 1 1 (.t 12) (.t 14), none⟩,
  ⟨(some 3), .mv (.t 15), none⟩])))
 (.reg [⟨(some 16), .bin .add (.t 8) (.k (D.int .i64 (1))), none⟩,
  ⟨(some 8), .mv (.t 16), none⟩])))))))
 (.seq (.reg [⟨(some 17), .mv (.t 3), none⟩,
  ⟨(some 2), .mv (.t 17), none⟩])
 .ret))))⟩
def a460 : Ann := ⟨[(2, [(0, ⟨false, 0, false⟩), (1, ⟨false, 0, false⟩), (4, ⟨false, 0, false⟩), (7, ⟨false, 0, false⟩), (8, ⟨false, 0, false⟩)])], [⟨false, 0, false⟩], []⟩
def s460 : SFun := ⟨2, 19, [], [(.tmp 4, ⟨false, 0, false⟩)],
 (.seq (.reg [⟨(some 4), .mv (.k (D.int .i64 (0))), none⟩])
 (.seq (.seq (.reg [⟨(some 6), .mv (.t 0), none⟩,
  ⟨(some 7), .len (.t 6), none⟩,
  ⟨(some 8), .mv (.k (D.int .i64 (0))), none⟩])
 (.block 0 (.loop [(0, ⟨false, 0, false⟩), (1, ⟨false, 0, false⟩), (4, ⟨false, 0, false⟩), (7, ⟨false, 0, false⟩), (8, ⟨false, 0, false⟩)]
 (.seq (.reg [⟨(some 9), .bin .lss (.t 8) (.t 7), none⟩])
 (.seq (.cond (.t 9)
 .skip
 (.exit 0))
 (.seq (.block 1 (.seq (.reg [⟨(some 10), .mv (.t 8), none⟩,
  ⟨(some 5), .mv (.t 10), none⟩])
 (.seq (.reg [⟨(some 11), .mv (.t 1), none⟩,
  ⟨(some 12), .mv (.t 0), none⟩,
  ⟨(some 13), .mv (.t 5), none⟩,
  ⟨(some 14), .ixs 1 (.t 12) (.t 13), none⟩,
  ⟨(some 15), .load false 1 (.t 14), none⟩,
  ⟨(some 16), .callv false (.t 11) [(.t 15)], none⟩])
 (.cond (.t 16)
 (.seq (.reg [⟨(some 17), .mv (.t 5), none⟩,
  ⟨(some 4), .mv (.t 17), none⟩])
 .ret)
 .skip))))
 (.reg [⟨(some 18), .bin .add (.t 8) (.k (D.int .i64 (1))), none⟩,
  ⟨(some 8), .mv (.t 18), none⟩])))))))
 (.seq (.reg [⟨(some 4), .mv (.k (D.int .i64 (-1))), none⟩])
 .ret)))⟩
def a100456 : Ann := ⟨[(5, [(1, ⟨false, 0, false⟩), (5, ⟨false, 0, false⟩), (6, ⟨false, 0, false⟩), (0, ⟨true, 1, false⟩)])], [⟨true, 1, false⟩], []⟩
def s100456 : SFun := ⟨2, 42, [], [(.tmp 4, ⟨true, 1, false⟩)],
 (.seq (.reg [⟨(some 4), .mv (.k .sn), none⟩])
 (.seq (.reg [⟨(some 8), .mv (.t 0), none⟩,
  ⟨(some 9), .mv (.t 1), none⟩,
  ⟨(some 10), .call false 460 [(.t 8), (.t 9)], none⟩,
  ⟨(some 5), .mv (.t 10), none⟩])
 (.seq (.seq (.reg [⟨(some 11), .mv (.t 5), none⟩,
  ⟨(some 12), .bin .eql (.t 11) (.k (D.int .i64 (-1))), none⟩])
 (.cond (.t 12)
 (.seq (.reg [⟨(some 13), .mv (.t 0), none⟩,
  ⟨(some 4), .mv (.t 13), none⟩])
 .ret)
 .skip))
 (.seq (.seq (.reg [⟨(some 14), .mv (.t 5), none⟩,
  ⟨(some 15), .bin .add (.t 14) (.k (D.int .i64 (1))), none⟩,
  ⟨(some 6), .mv (.t 15), none⟩])
 (.block 0 (.loop [(1, ⟨false, 0, false⟩), (5, ⟨false, 0, false⟩), (6, ⟨false, 0, false⟩), (0, ⟨true, 1, false⟩)]
 (.seq (.seq (.reg [⟨(some 16), .mv (.t 6), none⟩,
  ⟨(some 17), .mv (.t 0), none⟩,
  ⟨(some 18), .len (.t 17), none⟩,
  ⟨(some 19), .bin .lss (.t 16) (.t 18), none⟩])
 (.cond (.t 19)
 .skip
 (.exit 0)))
 (.seq (.block 1 (.seq (.reg [⟨(some 22), .mv (.t 0), none⟩,
  ⟨(some 23), .mv (.t 6), none⟩,
  ⟨(some 24), .ixs 1 (.t 22) (.t 23), none⟩,
  ⟨(some 25), .load false 1 (.t 24), none⟩,
  ⟨(some 7), .mv (.t 25), none⟩])
 (.seq (.reg [⟨(some 26), .mv (.t 1), none⟩,
  ⟨(some 27), .mv (.t 7), none⟩,
  ⟨(some 28), .callv false (.t 26) [(.t 27)], none⟩,
  ⟨(some 29), .una .not (.t 28), none⟩])
 (.cond (.t 29)
 (.seq (.reg [⟨(some 30), .mv (.t 0), none⟩,
  ⟨(some 31), .mv (.t 5), none⟩,
  ⟨(some 32), .mv (.t 7), none⟩,
  ⟨(some 33), .ixs 1 (.t 30) (.t 31), none⟩,
  ⟨none, .store 1 (.t 33) (.t 32), none⟩])
 (.reg [⟨(some 34), .mv (.t 5), none⟩,
  ⟨(some 35), .bin .add (.t 34) (.k (D.int .i64 (1))), none⟩,
  ⟨(some 5), .mv (.t 35), none⟩]))
 .skip))))
 (.reg [⟨(some 20), .mv (.t 6), none⟩,
  ⟨(some 21), .bin .add (.t 20) (.k (D.int .i64 (1))), none⟩,
  ⟨(some 6), .mv (.t 21), none⟩]))))))
 (.seq (.reg [⟨(some 36), .mv (.t 0), none⟩,
  ⟨(some 37), .mv (.t 5), none⟩,
  ⟨(some 38), .slc 1 (.t 36) (some (.t 37)) none, none⟩,
  ⟨none, .clr (D.int .u8 (0)) (.t 38), none⟩])
 (.seq (.reg [⟨(some 39), .mv (.t 0), none⟩,
  ⟨(some 40), .mv (.t 5), none⟩,
  ⟨(some 41), .slc 1 (.t 39) none (some (.t 40)), none⟩,
  ⟨(some 4), .mv (.t 41), none⟩])
 .ret))))))⟩
def a397 : Ann := ⟨[], [⟨false, 0, false⟩], []⟩
def s397 : SFun := ⟨1, 5, [], [(.tmp 2, ⟨false, 0, false⟩)],
 (.seq (.reg [⟨(some 2), .mv (.k (D.bool false)), none⟩])
 (.seq (.reg [⟨(some 3), .mv (.t 0), none⟩,
  ⟨(some 4), .bin .eql (.t 3) (.k (D.int .u8 (0))), none⟩,
  ⟨(some 2), .mv (.t 4), none⟩])
 .ret))⟩
def a100396 : Ann := ⟨[], [⟨true, 1, false⟩], []⟩
def s100396 : SFun := ⟨1, 5, [], [(.tmp 2, ⟨true, 1, false⟩)],
 (.seq (.reg [⟨(some 2), .mv (.k .sn), none⟩])
 (.seq (.reg [⟨(some 3), .mv (.t 0), none⟩,
  ⟨(some 4), .call false 100456 [(.t 3), (.k (.fn 397 []))], none⟩,
  ⟨(some 2), .mv (.t 4), none⟩])
 .ret))⟩
def a102 : Ann := ⟨[], [⟨false, 0, false⟩], []⟩
def s102 : SFun := ⟨1, 15, [], [(.tmp 2, ⟨false, 0, false⟩)],
 (.seq (.reg [⟨(some 2), .mv (.k (D.str [])), none⟩])
 (.seq (.seq (.reg [⟨(some 3), .mv (.t 0), none⟩,
  ⟨(some 4), .bin .lss (.t 3) (.k (D.int .i64 (10))), none⟩])
 (.cond (.t 4)
 (.seq (.reg [⟨(some 5), .mv (.t 0), none⟩,
  ⟨(some 6), .mv (.t 0), none⟩,
  ⟨(some 7), .bin .add (.t 6) (.k (D.int .i64 (1))), none⟩,
  ⟨(some 8), .sls (.k (D.str [48, 49, 50, 51, 52, 53, 54, 55, 56, 57, 97, 98, 99, 100, 101, 102, 103, 104, 105, 106, 107, 108, 109, 110, 111, 112, 113, 114, 115, 116, 117, 118, 119, 120, 121, 122])) (some (.t 5)) (some (.t 7)), none⟩,
  ⟨(some 2), .mv (.t 8), none⟩])
 .ret)
 .skip))
 (.seq (.reg [⟨(some 9), .mv (.t 0), none⟩,
  ⟨(some 10), .bin .mul (.t 9) (.k (D.int .i64 (2))), none⟩,
  ⟨(some 11), .mv (.t 0), none⟩,
  ⟨(some 12), .bin .mul (.t 11) (.k (D.int .i64 (2))), none⟩,
  ⟨(some 13), .bin .add (.t 12) (.k (D.int .i64 (2))), none⟩,
  ⟨(some 14), .sls (.k (D.str [48, 48, 48, 49, 48, 50, 48, 51, 48, 52, 48, 53, 48, 54, 48, 55, 48, 56, 48, 57, 49, 48, 49, 49, 49, 50, 49, 51, 49, 52, 49, 53, 49, 54, 49, 55, 49, 56, 49, 57, 50, 48, 50, 49, 50, 50, 50, 51, 50, 52, 50, 53, 50, 54, 50, 55, 50, 56, 50, 57, 51, 48, 51, 49, 51, 50, 51, 51, 51, 52, 51, 53, 51, 54, 51, 55, 51, 56, 51, 57, 52, 48, 52, 49, 52, 50, 52, 51, 52, 52, 52, 53, 52, 54, 52, 55, 52, 56, 52, 57, 53, 48, 53, 49, 53, 50, 53, 51, 53, 52, 53, 53, 53, 54, 53, 55, 53, 56, 53, 57, 54, 48, 54, 49, 54, 50, 54, 51, 54, 52, 54, 53, 54, 54, 54, 55, 54, 56, 54, 57, 55, 48, 55, 49, 55, 50, 55, 51, 55, 52, 55, 53, 55, 54, 55, 55, 55, 56, 55, 57, 56, 48, 56, 49, 56, 50, 56, 51, 56, 52, 56, 53, 56, 54, 56, 55, 56, 56, 56, 57, 57, 48, 57, 49, 57, 50, 57, 51, 57, 52, 57, 53, 57, 54, 57, 55, 57, 56, 57, 57])) (some (.t 10)) (some (.t 13)), none⟩,
  ⟨(some 2), .mv (.t 14), none⟩])
 .ret)))⟩
def a442 : Ann := ⟨[], [⟨false, 0, false⟩], []⟩
def s442 : SFun := ⟨1, 25, [], [(.tmp 2, ⟨false, 0, false⟩)],
 (.seq (.reg [⟨(some 2), .mv (.k (D.int .i64 (0))), none⟩])
 (.seq (.seq (.reg [⟨(some 3), .mv (.t 0), none⟩,
  ⟨(some 4), .bin .geq (.t 3) (.k (D.int .u64 (4294967296))), none⟩])
 (.cond (.t 4)
 (.seq (.reg [⟨(some 5), .mv (.t 0), none⟩,
  ⟨(some 6), .bin .shr (.t 5) (.k (D.int .u64 (32))), none⟩,
  ⟨(some 0), .mv (.t 6), none⟩])
 (.reg [⟨(some 2), .mv (.k (D.int .i64 (32))), none⟩]))
 .skip))
 (.seq (.seq (.reg [⟨(some 7), .mv (.t 0), none⟩,
  ⟨(some 8), .bin .geq (.t 7) (.k (D.int .u64 (65536))), none⟩])
 (.cond (.t 8)
 (.seq (.reg [⟨(some 9), .mv (.t 0), none⟩,
  ⟨(some 10), .bin .shr (.t 9) (.k (D.int .u64 (16))), none⟩,
  ⟨(some 0), .mv (.t 10), none⟩])
 (.reg [⟨(some 11), .mv (.t 2), none⟩,
  ⟨(some 12), .bin .add (.t 11) (.k (D.int .i64 (16))), none⟩,
  ⟨(some 2), .mv (.t 12), none⟩]))
 .skip))
 (.seq (.seq (.reg [⟨(some 13), .mv (.t 0), none⟩,
  ⟨(some 14), .bin .geq (.t 13) (.k (D.int .u64 (256))), none⟩])
 (.cond (.t 14)
 (.seq (.reg [⟨(some 15), .mv (.t 0), none⟩,
  ⟨(some 16), .bin .shr (.t 15) (.k (D.int .u64 (8))), none⟩,
  ⟨(some 0), .mv (.t 16), none⟩])
 (.reg [⟨(some 17), .mv (.t 2), none⟩,
  ⟨(some 18), .bin .add (.t 17) (.k (D.int .i64 (8))), none⟩,
  ⟨(some 2), .mv (.t 18), none⟩]))
 .skip))
 (.seq (.reg [⟨(some 19), .mv (.t 2), none⟩,
  ⟨(some 20), .mv (.t 0), none⟩,
  ⟨(some 21), .cvi .u8 (.t 20), none⟩,
  ⟨(some 22), .ixt (.k (D.str [0, 1, 2, 2, 3, 3, 3, 3, 4, 4, 4, 4, 4, 4, 4, 4, 5, 5, 5, 5, 5, 5, 5, 5, 5, 5, 5, 5, 5, 5, 5, 5, 6, 6, 6, 6, 6, 6, 6, 6, 6, 6, 6, 6, 6, 6, 6, 6, 6, 6, 6, 6, 6, 6, 6, 6, 6, 6, 6, 6, 6, 6, 6, 6, 7, 7, 7, 7, 7, 7, 7, 7, 7, 7, 7, 7, 7, 7, 7, 7, 7, 7, 7, 7, 7, 7, 7, 7, 7, 7, 7, 7, 7, 7, 7, 7, 7, 7, 7, 7, 7, 7, 7, 7, 7, 7, 7, 7, 7, 7, 7, 7, 7, 7, 7, 7, 7, 7, 7, 7, 7, 7, 7, 7, 7, 7, 7, 7, 8, 8, 8, 8, 8, 8, 8, 8, 8, 8, 8, 8, 8, 8, 8, 8, 8, 8, 8, 8, 8, 8, 8, 8, 8, 8, 8, 8, 8, 8, 8, 8, 8, 8, 8, 8, 8, 8, 8, 8, 8, 8, 8, 8, 8, 8, 8, 8, 8, 8, 8, 8, 8, 8, 8, 8, 8, 8, 8, 8, 8, 8, 8, 8, 8, 8, 8, 8, 8, 8, 8, 8, 8, 8, 8, 8, 8, 8, 8, 8, 8, 8, 8, 8, 8, 8, 8, 8, 8, 8, 8, 8, 8, 8, 8, 8, 8, 8, 8, 8, 8, 8, 8, 8, 8, 8, 8, 8, 8, 8, 8, 8, 8, 8, 8, 8, 8, 8, 8, 8, 8, 8, 8, 8, 8, 8, 8, 8])) (.t 21), none⟩,
  ⟨(some 23), .cvi .i64 (.t 22), none⟩,
  ⟨(some 24), .bin .add (.t 19) (.t 23), none⟩,
  ⟨(some 2), .mv (.t 24), none⟩])
 .ret)))))⟩
def a100 : Ann := ⟨[], [⟨false, 0, false⟩], []⟩
def s100 : SFun := ⟨1, 6, [], [(.tmp 2, ⟨false, 0, false⟩)],
 (.seq (.reg [⟨(some 2), .mv (.k (D.int .i64 (0))), none⟩])
 (.seq (.reg [⟨(some 3), .mv (.t 0), none⟩,
  ⟨(some 4), .bin .mul (.t 3) (.k (D.int .i64 (78913))), none⟩,
  ⟨(some 5), .bin .shr (.t 4) (.k (D.int .u64 (18))), none⟩,
  ⟨(some 2), .mv (.t 5), none⟩])
 .ret))⟩
def a96 : Ann := ⟨[], [⟨false, 0, false⟩], []⟩
def s96 : SFun := ⟨1, 4, [], [(.tmp 2, ⟨false, 0, false⟩)],
 (.seq (.reg [⟨(some 2), .mv (.k (D.int .i64 (0))), none⟩])
 (.seq (.seq (.reg [⟨(some 3), .mv (.t 0), none⟩])
 (.cond (.t 3)
 (.seq (.reg [⟨(some 2), .mv (.k (D.int .i64 (1))), none⟩])
 .ret)
 .skip))
 (.seq (.reg [⟨(some 2), .mv (.k (D.int .i64 (0))), none⟩])
 .ret)))⟩
def a101 : Ann := ⟨[], [⟨false, 0, false⟩], []⟩
def s101 : SFun := ⟨1, 15, [], [(.tmp 2, ⟨false, 0, false⟩)],
 (.seq (.reg [⟨(some 2), .mv (.k (D.int .i64 (0))), none⟩])
 (.seq (.reg [⟨(some 4), .mv (.t 0), none⟩,
  ⟨(some 5), .call false 442 [(.t 4)], none⟩,
  ⟨(some 6), .call false 100 [(.t 5)], none⟩,
  ⟨(some 3), .mv (.t 6), none⟩])
 (.seq (.reg [⟨(some 7), .mv (.t 3), none⟩,
  ⟨(some 8), .mv (.t 0), none⟩,
  ⟨(some 9), .mv (.t 3), none⟩,
  ⟨(some 10), .ixa 20 1 (.k .un) (.t 9), none⟩,
  ⟨(some 11), .load false 1 (.t 10), none⟩,
  ⟨(some 12), .bin .geq (.t 8) (.t 11), none⟩,
  ⟨(some 13), .call false 96 [(.t 12)], none⟩,
  ⟨(some 14), .bin .add (.t 7) (.t 13), none⟩,
  ⟨(some 2), .mv (.t 14), none⟩])
 .ret)))⟩
def a97 : Ann := ⟨[(1, [(1, ⟨false, 0, false⟩), (4, ⟨false, 0, false⟩), (0, ⟨true, 1, false⟩)])], [], []⟩
def s97 : SFun := ⟨2, 167, [], [],
 (.seq (.reg [⟨(some 17), .mv (.t 0), none⟩,
  ⟨(some 18), .len (.t 17), none⟩,
  ⟨(some 4), .mv (.t 18), none⟩])
 (.seq (.block 0 (.loop [(1, ⟨false, 0, false⟩), (4, ⟨false, 0, false⟩), (0, ⟨true, 1, false⟩)]
 (.seq (.seq (.reg [⟨(some 19), .mv (.t 4), none⟩,
  ⟨(some 20), .bin .geq (.t 19) (.k (D.int .i64 (8))), none⟩])
 (.cond (.t 20)
 .skip
 (.exit 0)))
 (.block 1 (.seq (.reg [⟨(some 21), .mv (.t 1), none⟩,
  ⟨(some 22), .bin .rem (.t 21) (.k (D.int .u64 (100000000))), none⟩,
  ⟨(some 23), .cvi .u32 (.t 22), none⟩,
  ⟨(some 5), .mv (.t 23), none⟩])
 (.seq (.reg [⟨(some 24), .mv (.t 1), none⟩,
  ⟨(some 25), .bin .quo (.t 24) (.k (D.int .u64 (100000000))), none⟩,
  ⟨(some 1), .mv (.t 25), none⟩])
 (.seq (.reg [⟨(some 26), .mv (.t 5), none⟩,
  ⟨(some 27), .bin .quo (.t 26) (.k (D.int .u32 (10000))), none⟩,
  ⟨(some 28), .mv (.t 5), none⟩,
  ⟨(some 29), .bin .rem (.t 28) (.k (D.int .u32 (10000))), none⟩,
  ⟨(some 6), .mv (.t 27), none⟩,
  ⟨(some 7), .mv (.t 29), none⟩])
 (.seq (.reg [⟨(some 30), .mv (.t 7), none⟩,
  ⟨(some 31), .bin .quo (.t 30) (.k (D.int .u32 (100))), none⟩,
  ⟨(some 32), .bin .mul (.t 31) (.k (D.int .u32 (2))), none⟩,
  ⟨(some 33), .mv (.t 7), none⟩,
  ⟨(some 34), .bin .rem (.t 33) (.k (D.int .u32 (100))), none⟩,
  ⟨(some 35), .bin .mul (.t 34) (.k (D.int .u32 (2))), none⟩,
  ⟨(some 8), .mv (.t 32), none⟩,
  ⟨(some 9), .mv (.t 35), none⟩])
 (.seq (.reg [⟨(some 36), .mv (.t 6), none⟩,
  ⟨(some 37), .bin .quo (.t 36) (.k (D.int .u32 (100))), none⟩,
  ⟨(some 38), .bin .mul (.t 37) (.k (D.int .u32 (2))), none⟩,
  ⟨(some 39), .mv (.t 6), none⟩,
  ⟨(some 40), .bin .rem (.t 39) (.k (D.int .u32 (100))), none⟩,
  ⟨(some 41), .bin .mul (.t 40) (.k (D.int .u32 (2))), none⟩,
  ⟨(some 10), .mv (.t 38), none⟩,
  ⟨(some 11), .mv (.t 41), none⟩])
 (.seq (.dreg [([], false, ⟨(some 42), .mv (.t 0), none⟩),
  ([0], false, ⟨(some 43), .mv (.t 4), none⟩),
  ([0], false, ⟨(some 44), .bin .sub (.t 43) (.k (D.int .i64 (1))), none⟩),
  ([0, 1, 2], false, ⟨(some 45), .mv (.t 0), none⟩),
  ([0, 1, 2, 3], false, ⟨(some 46), .mv (.t 4), none⟩),
  ([0, 1, 2, 3], false, ⟨(some 47), .bin .sub (.t 46) (.k (D.int .i64 (2))), none⟩),
  ([0, 1, 2, 3, 4, 5], false, ⟨(some 48), .mv (.t 9), none⟩),
  ([0, 1, 2, 3, 4, 5], false, ⟨(some 49), .bin .add (.t 48) (.k (D.int .u32 (1))), none⟩),
  ([0, 1, 2, 3, 4, 5], false, ⟨(some 50), .ixt (.k (D.str [48, 48, 48, 49, 48, 50, 48, 51, 48, 52, 48, 53, 48, 54, 48, 55, 48, 56, 48, 57, 49, 48, 49, 49, 49, 50, 49, 51, 49, 52, 49, 53, 49, 54, 49, 55, 49, 56, 49, 57, 50, 48, 50, 49, 50, 50, 50, 51, 50, 52, 50, 53, 50, 54, 50, 55, 50, 56, 50, 57, 51, 48, 51, 49, 51, 50, 51, 51, 51, 52, 51, 53, 51, 54, 51, 55, 51, 56, 51, 57, 52, 48, 52, 49, 52, 50, 52, 51, 52, 52, 52, 53, 52, 54, 52, 55, 52, 56, 52, 57, 53, 48, 53, 49, 53, 50, 53, 51, 53, 52, 53, 53, 53, 54, 53, 55, 53, 56, 53, 57, 54, 48, 54, 49, 54, 50, 54, 51, 54, 52, 54, 53, 54, 54, 54, 55, 54, 56, 54, 57, 55, 48, 55, 49, 55, 50, 55, 51, 55, 52, 55, 53, 55, 54, 55, 55, 55, 56, 55, 57, 56, 48, 56, 49, 56, 50, 56, 51, 56, 52, 56, 53, 56, 54, 56, 55, 56, 56, 56, 57, 57, 48, 57, 49, 57, 50, 57, 51, 57, 52, 57, 53, 57, 54, 57, 55, 57, 56, 57, 57])) (.t 49), none⟩),
  ([0, 1, 2, 3, 4, 5, 6, 7, 8], false, ⟨(some 51), .mv (.t 9), none⟩),
  ([0, 1, 2, 3, 4, 5, 6, 7, 8], false, ⟨(some 52), .ixt (.k (D.str [48, 48, 48, 49, 48, 50, 48, 51, 48, 52, 48, 53, 48, 54, 48, 55, 48, 56, 48, 57, 49, 48, 49, 49, 49, 50, 49, 51, 49, 52, 49, 53, 49, 54, 49, 55, 49, 56, 49, 57, 50, 48, 50, 49, 50, 50, 50, 51, 50, 52, 50, 53, 50, 54, 50, 55, 50, 56, 50, 57, 51, 48, 51, 49, 51, 50, 51, 51, 51, 52, 51, 53, 51, 54, 51, 55, 51, 56, 51, 57, 52, 48, 52, 49, 52, 50, 52, 51, 52, 52, 52, 53, 52, 54, 52, 55, 52, 56, 52, 57, 53, 48, 53, 49, 53, 50, 53, 51, 53, 52, 53, 53, 53, 54, 53, 55, 53, 56, 53, 57, 54, 48, 54, 49, 54, 50, 54, 51, 54, 52, 54, 53, 54, 54, 54, 55, 54, 56, 54, 57, 55, 48, 55, 49, 55, 50, 55, 51, 55, 52, 55, 53, 55, 54, 55, 55, 55, 56, 55, 57, 56, 48, 56, 49, 56, 50, 56, 51, 56, 52, 56, 53, 56, 54, 56, 55, 56, 56, 56, 57, 57, 48, 57, 49, 57, 50, 57, 51, 57, 52, 57, 53, 57, 54, 57, 55, 57, 56, 57, 57])) (.t 51), none⟩),
  ([3, 4, 5, 9, 10], false, ⟨(some 53), .ixs 1 (.t 42) (.t 44), none⟩),
  ([3, 4, 5, 9, 10], false, ⟨none, .store 1 (.t 53) (.t 50), none⟩),
  ([], true, ⟨(some 54), .ixs 1 (.t 45) (.t 47), none⟩),
  ([], true, ⟨none, .store 1 (.t 54) (.t 52), none⟩)])
 (.seq (.dreg [([], false, ⟨(some 55), .mv (.t 0), none⟩),
  ([0], false, ⟨(some 56), .mv (.t 4), none⟩),
  ([0], false, ⟨(some 57), .bin .sub (.t 56) (.k (D.int .i64 (3))), none⟩),
  ([0, 1, 2], false, ⟨(some 58), .mv (.t 0), none⟩),
  ([0, 1, 2, 3], false, ⟨(some 59), .mv (.t 4), none⟩),
  ([0, 1, 2, 3], false, ⟨(some 60), .bin .sub (.t 59) (.k (D.int .i64 (4))), none⟩),
  ([0, 1, 2, 3, 4, 5], false, ⟨(some 61), .mv (.t 8), none⟩),
  ([0, 1, 2, 3, 4, 5], false, ⟨(some 62), .bin .add (.t 61) (.k (D.int .u32 (1))), none⟩),
  ([0, 1, 2, 3, 4, 5], false, ⟨(some 63), .ixt (.k (D.str [48, 48, 48, 49, 48, 50, 48, 51, 48, 52, 48, 53, 48, 54, 48, 55, 48, 56, 48, 57, 49, 48, 49, 49, 49, 50, 49, 51, 49, 52, 49, 53, 49, 54, 49, 55, 49, 56, 49, 57, 50, 48, 50, 49, 50, 50, 50, 51, 50, 52, 50, 53, 50, 54, 50, 55, 50, 56, 50, 57, 51, 48, 51, 49, 51, 50, 51, 51, 51, 52, 51, 53, 51, 54, 51, 55, 51, 56, 51, 57, 52, 48, 52, 49, 52, 50, 52, 51, 52, 52, 52, 53, 52, 54, 52, 55, 52, 56, 52, 57, 53, 48, 53, 49, 53, 50, 53, 51, 53, 52, 53, 53, 53, 54, 53, 55, 53, 56, 53, 57, 54, 48, 54, 49, 54, 50, 54, 51, 54, 52, 54, 53, 54, 54, 54, 55, 54, 56, 54, 57, 55, 48, 55, 49, 55, 50, 55, 51, 55, 52, 55, 53, 55, 54, 55, 55, 55, 56, 55, 57, 56, 48, 56, 49, 56, 50, 56, 51, 56, 52, 56, 53, 56, 54, 56, 55, 56, 56, 56, 57, 57, 48, 57, 49, 57, 50, 57, 51, 57, 52, 57, 53, 57, 54, 57, 55, 57, 56, 57, 57])) (.t 62), none⟩),
  ([0, 1, 2, 3, 4, 5, 6, 7, 8], false, ⟨(some 64), .mv (.t 8), none⟩),
  ([0, 1, 2, 3, 4, 5, 6, 7, 8], false, ⟨(some 65), .ixt (.k (D.str [48, 48, 48, 49, 48, 50, 48, 51, 48, 52, 48, 53, 48, 54, 48, 55, 48, 56, 48, 57, 49, 48, 49, 49, 49, 50, 49, 51, 49, 52, 49, 53, 49, 54, 49, 55, 49, 56, 49, 57, 50, 48, 50, 49, 50, 50, 50, 51, 50, 52, 50, 53, 50, 54, 50, 55, 50, 56, 50, 57, 51, 48, 51, 49, 51, 50, 51, 51, 51, 52, 51, 53, 51, 54, 51, 55, 51, 56, 51, 57, 52, 48, 52, 49, 52, 50, 52, 51, 52, 52, 52, 53, 52, 54, 52, 55, 52, 56, 52, 57, 53, 48, 53, 49, 53, 50, 53, 51, 53, 52, 53, 53, 53, 54, 53, 55, 53, 56, 53, 57, 54, 48, 54, 49, 54, 50, 54, 51, 54, 52, 54, 53, 54, 54, 54, 55, 54, 56, 54, 57, 55, 48, 55, 49, 55, 50, 55, 51, 55, 52, 55, 53, 55, 54, 55, 55, 55, 56, 55, 57, 56, 48, 56, 49, 56, 50, 56, 51, 56, 52, 56, 53, 56, 54, 56, 55, 56, 56, 56, 57, 57, 48, 57, 49, 57, 50, 57, 51, 57, 52, 57, 53, 57, 54, 57, 55, 57, 56, 57, 57])) (.t 64), none⟩),
  ([3, 4, 5, 9, 10], false, ⟨(some 66), .ixs 1 (.t 55) (.t 57), none⟩),
  ([3, 4, 5, 9, 10], false, ⟨none, .store 1 (.t 66) (.t 63), none⟩),
  ([], true, ⟨(some 67), .ixs 1 (.t 58) (.t 60), none⟩),
  ([], true, ⟨none, .store 1 (.t 67) (.t 65), none⟩)])
 (.seq (.dreg [([], false, ⟨(some 68), .mv (.t 0), none⟩),
  ([0], false, ⟨(some 69), .mv (.t 4), none⟩),
  ([0], false, ⟨(some 70), .bin .sub (.t 69) (.k (D.int .i64 (5))), none⟩),
  ([0, 1, 2], false, ⟨(some 71), .mv (.t 0), none⟩),
  ([0, 1, 2, 3], false, ⟨(some 72), .mv (.t 4), none⟩),
  ([0, 1, 2, 3], false, ⟨(some 73), .bin .sub (.t 72) (.k (D.int .i64 (6))), none⟩),
  ([0, 1, 2, 3, 4, 5], false, ⟨(some 74), .mv (.t 11), none⟩),
  ([0, 1, 2, 3, 4, 5], false, ⟨(some 75), .bin .add (.t 74) (.k (D.int .u32 (1))), none⟩),
  ([0, 1, 2, 3, 4, 5], false, ⟨(some 76), .ixt (.k (D.str [48, 48, 48, 49, 48, 50, 48, 51, 48, 52, 48, 53, 48, 54, 48, 55, 48, 56, 48, 57, 49, 48, 49, 49, 49, 50, 49, 51, 49, 52, 49, 53, 49, 54, 49, 55, 49, 56, 49, 57, 50, 48, 50, 49, 50, 50, 50, 51, 50, 52, 50, 53, 50, 54, 50, 55, 50, 56, 50, 57, 51, 48, 51, 49, 51, 50, 51, 51, 51, 52, 51, 53, 51, 54, 51, 55, 51, 56, 51, 57, 52, 48, 52, 49, 52, 50, 52, 51, 52, 52, 52, 53, 52, 54, 52, 55, 52, 56, 52, 57, 53, 48, 53, 49, 53, 50, 53, 51, 53, 52, 53, 53, 53, 54, 53, 55, 53, 56, 53, 57, 54, 48, 54, 49, 54, 50, 54, 51, 54, 52, 54, 53, 54, 54, 54, 55, 54, 56, 54, 57, 55, 48, 55, 49, 55, 50, 55, 51, 55, 52, 55, 53, 55, 54, 55, 55, 55, 56, 55, 57, 56, 48, 56, 49, 56, 50, 56, 51, 56, 52, 56, 53, 56, 54, 56, 55, 56, 56, 56, 57, 57, 48, 57, 49, 57, 50, 57, 51, 57, 52, 57, 53, 57, 54, 57, 55, 57, 56, 57, 57])) (.t 75), none⟩),
  ([0, 1, 2, 3, 4, 5, 6, 7, 8], false, ⟨(some 77), .mv (.t 11), none⟩),
  ([0, 1, 2, 3, 4, 5, 6, 7, 8], false, ⟨(some 78), .ixt (.k (D.str [48, 48, 48, 49, 48, 50, 48, 51, 48, 52, 48, 53, 48, 54, 48, 55, 48, 56, 48, 57, 49, 48, 49, 49, 49, 50, 49, 51, 49, 52, 49, 53, 49, 54, 49, 55, 49, 56, 49, 57, 50, 48, 50, 49, 50, 50, 50, 51, 50, 52, 50, 53, 50, 54, 50, 55, 50, 56, 50, 57, 51, 48, 51, 49, 51, 50, 51, 51, 51, 52, 51, 53, 51, 54, 51, 55, 51, 56, 51, 57, 52, 48, 52, 49, 52, 50, 52, 51, 52, 52, 52, 53, 52, 54, 52, 55, 52, 56, 52, 57, 53, 48, 53, 49, 53, 50, 53, 51, 53, 52, 53, 53, 53, 54, 53, 55, 53, 56, 53, 57, 54, 48, 54, 49, 54, 50, 54, 51, 54, 52, 54, 53, 54, 54, 54, 55, 54, 56, 54, 57, 55, 48, 55, 49, 55, 50, 55, 51, 55, 52, 55, 53, 55, 54, 55, 55, 55, 56, 55, 57, 56, 48, 56, 49, 56, 50, 56, 51, 56, 52, 56, 53, 56, 54, 56, 55, 56, 56, 56, 57, 57, 48, 57, 49, 57, 50, 57, 51, 57, 52, 57, 53, 57, 54, 57, 55, 57, 56, 57, 57])) (.t 77), none⟩),
  ([3, 4, 5, 9, 10], false, ⟨(some 79), .ixs 1 (.t 68) (.t 70), none⟩),
  ([3, 4, 5, 9, 10], false, ⟨none, .store 1 (.t 79) (.t 76), none⟩),
  ([], true, ⟨(some 80), .ixs 1 (.t 71) (.t 73), none⟩),
  ([], true, ⟨none, .store 1 (.t 80) (.t 78), none⟩)])
 (.seq (.dreg [([], false, ⟨(some 81), .mv (.t 0), none⟩),
  ([0], false, ⟨(some 82), .mv (.t 4), none⟩),
  ([0], false, ⟨(some 83), .bin .sub (.t 82) (.k (D.int .i64 (7))), none⟩),
  ([0, 1, 2], false, ⟨(some 84), .mv (.t 0), none⟩),
  ([0, 1, 2, 3], false, ⟨(some 85), .mv (.t 4), none⟩),
  ([0, 1, 2, 3], false, ⟨(some 86), .bin .sub (.t 85) (.k (D.int .i64 (8))), none⟩),
  ([0, 1, 2, 3, 4, 5], false, ⟨(some 87), .mv (.t 10), none⟩),
  ([0, 1, 2, 3, 4, 5], false, ⟨(some 88), .bin .add (.t 87) (.k (D.int .u32 (1))), none⟩),
  ([0, 1, 2, 3, 4, 5], false, ⟨(some 89), .ixt (.k (D.str [48, 48, 48, 49, 48, 50, 48, 51, 48, 52, 48, 53, 48, 54, 48, 55, 48, 56, 48, 57, 49, 48, 49, 49, 49, 50, 49, 51, 49, 52, 49, 53, 49, 54, 49, 55, 49, 56, 49, 57, 50, 48, 50, 49, 50, 50, 50, 51, 50, 52, 50, 53, 50, 54, 50, 55, 50, 56, 50, 57, 51, 48, 51, 49, 51, 50, 51, 51, 51, 52, 51, 53, 51, 54, 51, 55, 51, 56, 51, 57, 52, 48, 52, 49, 52, 50, 52, 51, 52, 52, 52, 53, 52, 54, 52, 55, 52, 56, 52, 57, 53, 48, 53, 49, 53, 50, 53, 51, 53, 52, 53, 53, 53, 54, 53, 55, 53, 56, 53, 57, 54, 48, 54, 49, 54, 50, 54, 51, 54, 52, 54, 53, 54, 54, 54, 55, 54, 56, 54, 57, 55, 48, 55, 49, 55, 50, 55, 51, 55, 52, 55, 53, 55, 54, 55, 55, 55, 56, 55, 57, 56, 48, 56, 49, 56, 50, 56, 51, 56, 52, 56, 53, 56, 54, 56, 55, 56, 56, 56, 57, 57, 48, 57, 49, 57, 50, 57, 51, 57, 52, 57, 53, 57, 54, 57, 55, 57, 56, 57, 57])) (.t 88), none⟩),
  ([0, 1, 2, 3, 4, 5, 6, 7, 8], false, ⟨(some 90), .mv (.t 10), none⟩),
  ([0, 1, 2, 3, 4, 5, 6, 7, 8], false, ⟨(some 91), .ixt (.k (D.str [48, 48, 48, 49, 48, 50, 48, 51, 48, 52, 48, 53, 48, 54, 48, 55, 48, 56, 48, 57, 49, 48, 49, 49, 49, 50, 49, 51, 49, 52, 49, 53, 49, 54, 49, 55, 49, 56, 49, 57, 50, 48, 50, 49, 50, 50, 50, 51, 50, 52, 50, 53, 50, 54, 50, 55, 50, 56, 50, 57, 51, 48, 51, 49, 51, 50, 51, 51, 51, 52, 51, 53, 51, 54, 51, 55, 51, 56, 51, 57, 52, 48, 52, 49, 52, 50, 52, 51, 52, 52, 52, 53, 52, 54, 52, 55, 52, 56, 52, 57, 53, 48, 53, 49, 53, 50, 53, 51, 53, 52, 53, 53, 53, 54, 53, 55, 53, 56, 53, 57, 54, 48, 54, 49, 54, 50, 54, 51, 54, 52, 54, 53, 54, 54, 54, 55, 54, 56, 54, 57, 55, 48, 55, 49, 55, 50, 55, 51, 55, 52, 55, 53, 55, 54, 55, 55, 55, 56, 55, 57, 56, 48, 56, 49, 56, 50, 56, 51, 56, 52, 56, 53, 56, 54, 56, 55, 56, 56, 56, 57, 57, 48, 57, 49, 57, 50, 57, 51, 57, 52, 57, 53, 57, 54, 57, 55, 57, 56, 57, 57])) (.t 90), none⟩),
  ([3, 4, 5, 9, 10], false, ⟨(some 92), .ixs 1 (.t 81) (.t 83), none⟩),
  ([3, 4, 5, 9, 10], false, ⟨none, .store 1 (.t 92) (.t 89), none⟩),
  ([], true, ⟨(some 93), .ixs 1 (.t 84) (.t 86), none⟩),
  ([], true, ⟨none, .store 1 (.t 93) (.t 91), none⟩)])
 (.reg [⟨(some 94), .mv (.t 4), none⟩,
  ⟨(some 95), .bin .sub (.t 94) (.k (D.int .i64 (8))), none⟩,
  ⟨(some 4), .mv (.t 95), none⟩]))))))))))))))
 (.seq (.reg [⟨(some 96), .mv (.t 1), none⟩,
  ⟨(some 97), .cvi .u32 (.t 96), none⟩,
  ⟨(some 12), .mv (.t 97), none⟩])
 (.seq (.seq (.reg [⟨(some 98), .mv (.t 4), none⟩,
  ⟨(some 99), .bin .geq (.t 98) (.k (D.int .i64 (4))), none⟩])
 (.cond (.t 99)
 (.seq (.reg [⟨(some 100), .mv (.t 12), none⟩,
  ⟨(some 101), .bin .rem (.t 100) (.k (D.int .u32 (10000))), none⟩,
  ⟨(some 13), .mv (.t 101), none⟩])
 (.seq (.reg [⟨(some 102), .mv (.t 12), none⟩,
  ⟨(some 103), .bin .quo (.t 102) (.k (D.int .u32 (10000))), none⟩,
  ⟨(some 12), .mv (.t 103), none⟩])
 (.seq (.reg [⟨(some 104), .mv (.t 13), none⟩,
  ⟨(some 105), .bin .quo (.t 104) (.k (D.int .u32 (100))), none⟩,
  ⟨(some 106), .bin .mul (.t 105) (.k (D.int .u32 (2))), none⟩,
  ⟨(some 107), .mv (.t 13), none⟩,
  ⟨(some 108), .bin .rem (.t 107) (.k (D.int .u32 (100))), none⟩,
  ⟨(some 109), .bin .mul (.t 108) (.k (D.int .u32 (2))), none⟩,
  ⟨(some 14), .mv (.t 106), none⟩,
  ⟨(some 15), .mv (.t 109), none⟩])
 (.seq (.dreg [([], false, ⟨(some 110), .mv (.t 0), none⟩),
  ([0], false, ⟨(some 111), .mv (.t 4), none⟩),
  ([0], false, ⟨(some 112), .bin .sub (.t 111) (.k (D.int .i64 (1))), none⟩),
  ([0, 1, 2], false, ⟨(some 113), .mv (.t 0), none⟩),
  ([0, 1, 2, 3], false, ⟨(some 114), .mv (.t 4), none⟩),
  ([0, 1, 2, 3], false, ⟨(some 115), .bin .sub (.t 114) (.k (D.int .i64 (2))), none⟩),
  ([0, 1, 2, 3, 4, 5], false, ⟨(some 116), .mv (.t 15), none⟩),
  ([0, 1, 2, 3, 4, 5], false, ⟨(some 117), .bin .add (.t 116) (.k (D.int .u32 (1))), none⟩),
  ([0, 1, 2, 3, 4, 5], false, ⟨(some 118), .ixt (.k (D.str [48, 48, 48, 49, 48, 50, 48, 51, 48, 52, 48, 53, 48, 54, 48, 55, 48, 56, 48, 57, 49, 48, 49, 49, 49, 50, 49, 51, 49, 52, 49, 53, 49, 54, 49, 55, 49, 56, 49, 57, 50, 48, 50, 49, 50, 50, 50, 51, 50, 52, 50, 53, 50, 54, 50, 55, 50, 56, 50, 57, 51, 48, 51, 49, 51, 50, 51, 51, 51, 52, 51, 53, 51, 54, 51, 55, 51, 56, 51, 57, 52, 48, 52, 49, 52, 50, 52, 51, 52, 52, 52, 53, 52, 54, 52, 55, 52, 56, 52, 57, 53, 48, 53, 49, 53, 50, 53, 51, 53, 52, 53, 53, 53, 54, 53, 55, 53, 56, 53, 57, 54, 48, 54, 49, 54, 50, 54, 51, 54, 52, 54, 53, 54, 54, 54, 55, 54, 56, 54, 57, 55, 48, 55, 49, 55, 50, 55, 51, 55, 52, 55, 53, 55, 54, 55, 55, 55, 56, 55, 57, 56, 48, 56, 49, 56, 50, 56, 51, 56, 52, 56, 53, 56, 54, 56, 55, 56, 56, 56, 57, 57, 48, 57, 49, 57, 50, 57, 51, 57, 52, 57, 53, 57, 54, 57, 55, 57, 56, 57, 57])) (.t 117), none⟩),
  ([0, 1, 2, 3, 4, 5, 6, 7, 8], false, ⟨(some 119), .mv (.t 15), none⟩),
  ([0, 1, 2, 3, 4, 5, 6, 7, 8], false, ⟨(some 120), .ixt (.k (D.str [48, 48, 48, 49, 48, 50, 48, 51, 48, 52, 48, 53, 48, 54, 48, 55, 48, 56, 48, 57, 49, 48, 49, 49, 49, 50, 49, 51, 49, 52, 49, 53, 49, 54, 49, 55, 49, 56, 49, 57, 50, 48, 50, 49, 50, 50, 50, 51, 50, 52, 50, 53, 50, 54, 50, 55, 50, 56, 50, 57, 51, 48, 51, 49, 51, 50, 51, 51, 51, 52, 51, 53, 51, 54, 51, 55, 51, 56, 51, 57, 52, 48, 52, 49, 52, 50, 52, 51, 52, 52, 52, 53, 52, 54, 52, 55, 52, 56, 52, 57, 53, 48, 53, 49, 53, 50, 53, 51, 53, 52, 53, 53, 53, 54, 53, 55, 53, 56, 53, 57, 54, 48, 54, 49, 54, 50, 54, 51, 54, 52, 54, 53, 54, 54, 54, 55, 54, 56, 54, 57, 55, 48, 55, 49, 55, 50, 55, 51, 55, 52, 55, 53, 55, 54, 55, 55, 55, 56, 55, 57, 56, 48, 56, 49, 56, 50, 56, 51, 56, 52, 56, 53, 56, 54, 56, 55, 56, 56, 56, 57, 57, 48, 57, 49, 57, 50, 57, 51, 57, 52, 57, 53, 57, 54, 57, 55, 57, 56, 57, 57])) (.t 119), none⟩),
  ([3, 4, 5, 9, 10], false, ⟨(some 121), .ixs 1 (.t 110) (.t 112), none⟩),
  ([3, 4, 5, 9, 10], false, ⟨none, .store 1 (.t 121) (.t 118), none⟩),
  ([], true, ⟨(some 122), .ixs 1 (.t 113) (.t 115), none⟩),
  ([], true, ⟨none, .store 1 (.t 122) (.t 120), none⟩)])
 (.seq (.dreg [([], false, ⟨(some 123), .mv (.t 0), none⟩),
  ([0], false, ⟨(some 124), .mv (.t 4), none⟩),
  ([0], false, ⟨(some 125), .bin .sub (.t 124) (.k (D.int .i64 (3))), none⟩),
  ([0, 1, 2], false, ⟨(some 126), .mv (.t 0), none⟩),
  ([0, 1, 2, 3], false, ⟨(some 127), .mv (.t 4), none⟩),
  ([0, 1, 2, 3], false, ⟨(some 128), .bin .sub (.t 127) (.k (D.int .i64 (4))), none⟩),
  ([0, 1, 2, 3, 4, 5], false, ⟨(some 129), .mv (.t 14), none⟩),
  ([0, 1, 2, 3, 4, 5], false, ⟨(some 130), .bin .add (.t 129) (.k (D.int .u32 (1))), none⟩),
  ([0, 1, 2, 3, 4, 5], false, ⟨(some 131), .ixt (.k (D.str [48, 48, 48, 49, 48, 50, 48, 51, 48, 52, 48, 53, 48, 54, 48, 55, 48, 56, 48, 57, 49, 48, 49, 49, 49, 50, 49, 51, 49, 52, 49, 53, 49, 54, 49, 55, 49, 56, 49, 57, 50, 48, 50, 49, 50, 50, 50, 51, 50, 52, 50, 53, 50, 54, 50, 55, 50, 56, 50, 57, 51, 48, 51, 49, 51, 50, 51, 51, 51, 52, 51, 53, 51, 54, 51, 55, 51, 56, 51, 57, 52, 48, 52, 49, 52, 50, 52, 51, 52, 52, 52, 53, 52, 54, 52, 55, 52, 56, 52, 57, 53, 48, 53, 49, 53, 50, 53, 51, 53, 52, 53, 53, 53, 54, 53, 55, 53, 56, 53, 57, 54, 48, 54, 49, 54, 50, 54, 51, 54, 52, 54, 53, 54, 54, 54, 55, 54, 56, 54, 57, 55, 48, 55, 49, 55, 50, 55, 51, 55, 52, 55, 53, 55, 54, 55, 55, 55, 56, 55, 57, 56, 48, 56, 49, 56, 50, 56, 51, 56, 52, 56, 53, 56, 54, 56, 55, 56, 56, 56, 57, 57, 48, 57, 49, 57, 50, 57, 51, 57, 52, 57, 53, 57, 54, 57, 55, 57, 56, 57, 57])) (.t 130), none⟩),
  ([0, 1, 2, 3, 4, 5, 6, 7, 8], false, ⟨(some 132), .mv (.t 14), none⟩),
  ([0, 1, 2, 3, 4, 5, 6, 7, 8], false, ⟨(some 133), .ixt (.k (D.str [48, 48, 48, 49, 48, 50, 48, 51, 48, 52, 48, 53, 48, 54, 48, 55, 48, 56, 48, 57, 49, 48, 49, 49, 49, 50, 49, 51, 49, 52, 49, 53, 49, 54, 49, 55, 49, 56, 49, 57, 50, 48, 50, 49, 50, 50, 50, 51, 50, 52, 50, 53, 50, 54, 50, 55, 50, 56, 50, 57, 51, 48, 51, 49, 51, 50, 51, 51, 51, 52, 51, 53, 51, 54, 51, 55, 51, 56, 51, 57, 52, 48, 52, 49, 52, 50, 52, 51, 52, 52, 52, 53, 52, 54, 52, 55, 52, 56, 52, 57, 53, 48, 53, 49, 53, 50, 53, 51, 53, 52, 53, 53, 53, 54, 53, 55, 53, 56, 53, 57, 54, 48, 54, 49, 54, 50, 54, 51, 54, 52, 54, 53, 54, 54, 54, 55, 54, 56, 54, 57, 55, 48, 55, 49, 55, 50, 55, 51, 55, 52, 55, 53, 55, 54, 55, 55, 55, 56, 55, 57, 56, 48, 56, 49, 56, 50, 56, 51, 56, 52, 56, 53, 56, 54, 56, 55, 56, 56, 56, 57, 57, 48, 57, 49, 57, 50, 57, 51, 57, 52, 57, 53, 57, 54, 57, 55, 57, 56, 57, 57])) (.t 132), none⟩),
  ([3, 4, 5, 9, 10], false, ⟨(some 134), .ixs 1 (.t 123) (.t 125), none⟩),
  ([3, 4, 5, 9, 10], false, ⟨none, .store 1 (.t 134) (.t 131), none⟩),
  ([], true, ⟨(some 135), .ixs 1 (.t 126) (.t 128), none⟩),
  ([], true, ⟨none, .store 1 (.t 135) (.t 133), none⟩)])
 (.reg [⟨(some 136), .mv (.t 4), none⟩,
  ⟨(some 137), .bin .sub (.t 136) (.k (D.int .i64 (4))), none⟩,
  ⟨(some 4), .mv (.t 137), none⟩]))))))
 .skip))
 (.seq (.seq (.reg [⟨(some 138), .mv (.t 4), none⟩,
  ⟨(some 139), .bin .geq (.t 138) (.k (D.int .i64 (2))), none⟩])
 (.cond (.t 139)
 (.seq (.reg [⟨(some 140), .mv (.t 12), none⟩,
  ⟨(some 141), .bin .rem (.t 140) (.k (D.int .u32 (100))), none⟩,
  ⟨(some 142), .bin .mul (.t 141) (.k (D.int .u32 (2))), none⟩,
  ⟨(some 16), .mv (.t 142), none⟩])
 (.seq (.reg [⟨(some 143), .mv (.t 12), none⟩,
  ⟨(some 144), .bin .quo (.t 143) (.k (D.int .u32 (100))), none⟩,
  ⟨(some 12), .mv (.t 144), none⟩])
 (.seq (.dreg [([], false, ⟨(some 145), .mv (.t 0), none⟩),
  ([0], false, ⟨(some 146), .mv (.t 4), none⟩),
  ([0], false, ⟨(some 147), .bin .sub (.t 146) (.k (D.int .i64 (1))), none⟩),
  ([0, 1, 2], false, ⟨(some 148), .mv (.t 0), none⟩),
  ([0, 1, 2, 3], false, ⟨(some 149), .mv (.t 4), none⟩),
  ([0, 1, 2, 3], false, ⟨(some 150), .bin .sub (.t 149) (.k (D.int .i64 (2))), none⟩),
  ([0, 1, 2, 3, 4, 5], false, ⟨(some 151), .mv (.t 16), none⟩),
  ([0, 1, 2, 3, 4, 5], false, ⟨(some 152), .bin .add (.t 151) (.k (D.int .u32 (1))), none⟩),
  ([0, 1, 2, 3, 4, 5], false, ⟨(some 153), .ixt (.k (D.str [48, 48, 48, 49, 48, 50, 48, 51, 48, 52, 48, 53, 48, 54, 48, 55, 48, 56, 48, 57, 49, 48, 49, 49, 49, 50, 49, 51, 49, 52, 49, 53, 49, 54, 49, 55, 49, 56, 49, 57, 50, 48, 50, 49, 50, 50, 50, 51, 50, 52, 50, 53, 50, 54, 50, 55, 50, 56, 50, 57, 51, 48, 51, 49, 51, 50, 51, 51, 51, 52, 51, 53, 51, 54, 51, 55, 51, 56, 51, 57, 52, 48, 52, 49, 52, 50, 52, 51, 52, 52, 52, 53, 52, 54, 52, 55, 52, 56, 52, 57, 53, 48, 53, 49, 53, 50, 53, 51, 53, 52, 53, 53, 53, 54, 53, 55, 53, 56, 53, 57, 54, 48, 54, 49, 54, 50, 54, 51, 54, 52, 54, 53, 54, 54, 54, 55, 54, 56, 54, 57, 55, 48, 55, 49, 55, 50, 55, 51, 55, 52, 55, 53, 55, 54, 55, 55, 55, 56, 55, 57, 56, 48, 56, 49, 56, 50, 56, 51, 56, 52, 56, 53, 56, 54, 56, 55, 56, 56, 56, 57, 57, 48, 57, 49, 57, 50, 57, 51, 57, 52, 57, 53, 57, 54, 57, 55, 57, 56, 57, 57])) (.t 152), none⟩),
  ([0, 1, 2, 3, 4, 5, 6, 7, 8], false, ⟨(some 154), .mv (.t 16), none⟩),
  ([0, 1, 2, 3, 4, 5, 6, 7, 8], false, ⟨(some 155), .ixt (.k (D.str [48, 48, 48, 49, 48, 50, 48, 51, 48, 52, 48, 53, 48, 54, 48, 55, 48, 56, 48, 57, 49, 48, 49, 49, 49, 50, 49, 51, 49, 52, 49, 53, 49, 54, 49, 55, 49, 56, 49, 57, 50, 48, 50, 49, 50, 50, 50, 51, 50, 52, 50, 53, 50, 54, 50, 55, 50, 56, 50, 57, 51, 48, 51, 49, 51, 50, 51, 51, 51, 52, 51, 53, 51, 54, 51, 55, 51, 56, 51, 57, 52, 48, 52, 49, 52, 50, 52, 51, 52, 52, 52, 53, 52, 54, 52, 55, 52, 56, 52, 57, 53, 48, 53, 49, 53, 50, 53, 51, 53, 52, 53, 53, 53, 54, 53, 55, 53, 56, 53, 57, 54, 48, 54, 49, 54, 50, 54, 51, 54, 52, 54, 53, 54, 54, 54, 55, 54, 56, 54, 57, 55, 48, 55, 49, 55, 50, 55, 51, 55, 52, 55, 53, 55, 54, 55, 55, 55, 56, 55, 57, 56, 48, 56, 49, 56, 50, 56, 51, 56, 52, 56, 53, 56, 54, 56, 55, 56, 56, 56, 57, 57, 48, 57, 49, 57, 50, 57, 51, 57, 52, 57, 53, 57, 54, 57, 55, 57, 56, 57, 57])) (.t 154), none⟩),
  ([3, 4, 5, 9, 10], false, ⟨(some 156), .ixs 1 (.t 145) (.t 147), none⟩),
  ([3, 4, 5, 9, 10], false, ⟨none, .store 1 (.t 156) (.t 153), none⟩),
  ([], true, ⟨(some 157), .ixs 1 (.t 148) (.t 150), none⟩),
  ([], true, ⟨none, .store 1 (.t 157) (.t 155), none⟩)])
 (.reg [⟨(some 158), .mv (.t 4), none⟩,
  ⟨(some 159), .bin .sub (.t 158) (.k (D.int .i64 (2))), none⟩,
  ⟨(some 4), .mv (.t 159), none⟩]))))
 .skip))
 (.seq (.reg [⟨(some 160), .mv (.t 4), none⟩,
  ⟨(some 161), .bin .gtr (.t 160) (.k (D.int .i64 (0))), none⟩])
 (.cond (.t 161)
 (.reg [⟨(some 162), .mv (.t 0), none⟩,
  ⟨(some 163), .mv (.t 12), none⟩,
  ⟨(some 164), .bin .add (.k (D.int .u32 (48))) (.t 163), none⟩,
  ⟨(some 165), .cvi .u8 (.t 164), none⟩,
  ⟨(some 166), .ixs 1 (.t 162) (.k (D.int .i64 (0))), none⟩,
  ⟨none, .store 1 (.t 166) (.t 165), none⟩])
 .skip)))))))⟩
def a99 : Ann := ⟨[], [⟨false, 0, false⟩], []⟩
def s99 : SFun := ⟨1, 8, [], [(.tmp 2, ⟨false, 0, false⟩)],
 (.seq (.reg [⟨(some 2), .mv (.k (D.bool false)), none⟩])
 (.seq (.reg [⟨(some 3), .mv (.t 0), none⟩,
  ⟨(some 4), .mv (.t 0), none⟩,
  ⟨(some 5), .bin .sub (.t 4) (.k (D.int .i64 (1))), none⟩,
  ⟨(some 6), .bin .and (.t 3) (.t 5), none⟩,
  ⟨(some 7), .bin .eql (.t 6) (.k (D.int .i64 (0))), none⟩,
  ⟨(some 2), .mv (.t 7), none⟩])
 .ret))⟩
def a447 : Ann := ⟨[], [⟨false, 0, false⟩], []⟩
def s447 : SFun := ⟨1, 14, [], [(.tmp 2, ⟨false, 0, false⟩)],
 (.seq (.reg [⟨(some 2), .mv (.k (D.int .i64 (0))), none⟩])
 (.seq (.seq (.reg [⟨(some 3), .mv (.t 0), none⟩,
  ⟨(some 4), .bin .eql (.t 3) (.k (D.int .u32 (0))), none⟩])
 (.cond (.t 4)
 (.seq (.reg [⟨(some 2), .mv (.k (D.int .i64 (32))), none⟩])
 .ret)
 .skip))
 (.seq (.reg [⟨(some 5), .mv (.t 0), none⟩,
  ⟨(some 6), .mv (.t 0), none⟩,
  ⟨(some 7), .una .neg (.t 6), none⟩,
  ⟨(some 8), .bin .and (.t 5) (.t 7), none⟩,
  ⟨(some 9), .bin .mul (.t 8) (.k (D.int .u32 (125613361))), none⟩,
  ⟨(some 10), .bin .shr (.t 9) (.k (D.int .u64 (27))), none⟩,
  ⟨(some 11), .ixa 32 1 (.k .un) (.t 10), none⟩,
  ⟨(some 12), .load false 1 (.t 11), none⟩,
  ⟨(some 13), .cvi .i64 (.t 12), none⟩,
  ⟨(some 2), .mv (.t 13), none⟩])
 .ret)))⟩
def a448 : Ann := ⟨[], [⟨false, 0, false⟩], []⟩
def s448 : SFun := ⟨1, 14, [], [(.tmp 2, ⟨false, 0, false⟩)],
 (.seq (.reg [⟨(some 2), .mv (.k (D.int .i64 (0))), none⟩])
 (.seq (.seq (.reg [⟨(some 3), .mv (.t 0), none⟩,
  ⟨(some 4), .bin .eql (.t 3) (.k (D.int .u64 (0))), none⟩])
 (.cond (.t 4)
 (.seq (.reg [⟨(some 2), .mv (.k (D.int .i64 (64))), none⟩])
 .ret)
 .skip))
 (.seq (.reg [⟨(some 5), .mv (.t 0), none⟩,
  ⟨(some 6), .mv (.t 0), none⟩,
  ⟨(some 7), .una .neg (.t 6), none⟩,
  ⟨(some 8), .bin .and (.t 5) (.t 7), none⟩,
  ⟨(some 9), .bin .mul (.t 8) (.k (D.int .u64 (285870213051353865))), none⟩,
  ⟨(some 10), .bin .shr (.t 9) (.k (D.int .u64 (58))), none⟩,
  ⟨(some 11), .ixa 64 1 (.k .un) (.t 10), none⟩,
  ⟨(some 12), .load false 1 (.t 11), none⟩,
  ⟨(some 13), .cvi .i64 (.t 12), none⟩,
  ⟨(some 2), .mv (.t 13), none⟩])
 .ret)))⟩
def a446 : Ann := ⟨[], [⟨false, 0, false⟩], []⟩
def s446 : SFun := ⟨1, 8, [], [(.tmp 2, ⟨false, 0, false⟩)],
 (.seq (.reg [⟨(some 2), .mv (.k (D.int .i64 (0))), none⟩])
 (.seq (.cond (.k (D.bool false))
 (.seq (.reg [⟨(some 3), .mv (.t 0), none⟩,
  ⟨(some 4), .cvi .u32 (.t 3), none⟩,
  ⟨(some 5), .call false 447 [(.t 4)], none⟩,
  ⟨(some 2), .mv (.t 5), none⟩])
 .ret)
 .skip)
 (.seq (.reg [⟨(some 6), .mv (.t 0), none⟩,
  ⟨(some 7), .call false 448 [(.t 6)], none⟩,
  ⟨(some 2), .mv (.t 7), none⟩])
 .ret)))⟩
def a98 : Ann := ⟨[(11, [(1, ⟨false, 0, false⟩), (3, ⟨false, 0, false⟩), (4, ⟨false, 0, false⟩), (10, ⟨false, 0, false⟩), (11, ⟨false, 0, false⟩), (13, ⟨false, 0, false⟩), (14, ⟨false, 0, false⟩), (15, ⟨false, 0, false⟩), (16, ⟨false, 0, false⟩), (0, ⟨true, 1, false⟩), (12, ⟨true, 0, false⟩)]), (18, [(1, ⟨false, 0, false⟩), (3, ⟨false, 0, false⟩), (4, ⟨false, 0, false⟩), (10, ⟨false, 0, false⟩), (11, ⟨false, 0, false⟩), (13, ⟨false, 0, false⟩), (17, ⟨false, 0, false⟩), (0, ⟨true, 1, false⟩), (12, ⟨true, 0, false⟩)])], [⟨true, 1, false⟩, ⟨false, 0, false⟩], []⟩
def s98 : SFun := ⟨5, 102, [], [(.tmp 10, ⟨true, 1, false⟩), (.tmp 11, ⟨false, 0, false⟩)],
 (.seq (.reg [⟨(some 10), .mv (.k .sn), none⟩,
  ⟨(some 11), .mv (.k (D.str [])), none⟩])
 (.seq (.seq (.reg [⟨(some 19), .mv (.t 2), none⟩,
  ⟨(some 20), .bin .lss (.t 19) (.k (D.int .i64 (2))), none⟩,
  ⟨(some 21), .mv (.t 20), none⟩,
  ⟨(some 22), .mv (.t 2), (some (21, false))⟩,
  ⟨(some 23), .bin .eql (.t 22) (.k (D.int .i64 (10))), (some (21, false))⟩,
  ⟨(some 24), .pick (.t 21) (.k (D.bool true)) (.t 23), none⟩,
  ⟨(some 25), .mv (.t 24), none⟩,
  ⟨(some 26), .mv (.t 2), (some (25, false))⟩,
  ⟨(some 27), .bin .gtr (.t 26) (.k (D.int .i64 (36))), (some (25, false))⟩,
  ⟨(some 28), .pick (.t 25) (.k (D.bool true)) (.t 27), none⟩])
 (.cond (.t 28)
 (.reg [⟨(some 29), .bad, none⟩,
  ⟨none, .bad, none⟩])
 .skip))
 (.seq (.reg [⟨(some 12), .alloc [(D.int .u8 (0)), (D.int .u8 (0)), (D.int .u8 (0)), (D.int .u8 (0)), (D.int .u8 (0)), (D.int .u8 (0)), (D.int .u8 (0)), (D.int .u8 (0)), (D.int .u8 (0)), (D.int .u8 (0)), (D.int .u8 (0)), (D.int .u8 (0)), (D.int .u8 (0)), (D.int .u8 (0)), (D.int .u8 (0)), (D.int .u8 (0)), (D.int .u8 (0)), (D.int .u8 (0)), (D.int .u8 (0)), (D.int .u8 (0)), (D.int .u8 (0)), (D.int .u8 (0)), (D.int .u8 (0)), (D.int .u8 (0)), (D.int .u8 (0)), (D.int .u8 (0)), (D.int .u8 (0)), (D.int .u8 (0)), (D.int .u8 (0)), (D.int .u8 (0)), (D.int .u8 (0)), (D.int .u8 (0)), (D.int .u8 (0)), (D.int .u8 (0)), (D.int .u8 (0)), (D.int .u8 (0)), (D.int .u8 (0)), (D.int .u8 (0)), (D.int .u8 (0)), (D.int .u8 (0)), (D.int .u8 (0)), (D.int .u8 (0)), (D.int .u8 (0)), (D.int .u8 (0)), (D.int .u8 (0)), (D.int .u8 (0)), (D.int .u8 (0)), (D.int .u8 (0)), (D.int .u8 (0)), (D.int .u8 (0)), (D.int .u8 (0)), (D.int .u8 (0)), (D.int .u8 (0)), (D.int .u8 (0)), (D.int .u8 (0)), (D.int .u8 (0)), (D.int .u8 (0)), (D.int .u8 (0)), (D.int .u8 (0)), (D.int .u8 (0)), (D.int .u8 (0)), (D.int .u8 (0)), (D.int .u8 (0)), (D.int .u8 (0)), (D.int .u8 (0))], none⟩])
 (.seq (.reg [⟨(some 13), .mv (.k (D.int .i64 (65))), none⟩])
 (.seq (.seq (.reg [⟨(some 30), .mv (.t 3), none⟩])
 (.cond (.t 30)
 (.reg [⟨(some 31), .mv (.t 1), none⟩,
  ⟨(some 32), .una .neg (.t 31), none⟩,
  ⟨(some 1), .mv (.t 32), none⟩])
 .skip))
 (.seq (.seq (.reg [⟨(some 33), .mv (.t 2), none⟩,
  ⟨(some 34), .call false 99 [(.t 33)], none⟩])
 (.cond (.t 34)
 (.seq (.reg [⟨(some 35), .mv (.t 2), none⟩,
  ⟨(some 36), .cvi .u64 (.t 35), none⟩,
  ⟨(some 37), .call false 446 [(.t 36)], none⟩,
  ⟨(some 38), .cvi .u64 (.t 37), none⟩,
  ⟨(some 14), .mv (.t 38), none⟩])
 (.seq (.reg [⟨(some 39), .mv (.t 2), none⟩,
  ⟨(some 40), .cvi .u64 (.t 39), none⟩,
  ⟨(some 15), .mv (.t 40), none⟩])
 (.seq (.reg [⟨(some 41), .mv (.t 2), none⟩,
  ⟨(some 42), .cvi .u64 (.t 41), none⟩,
  ⟨(some 43), .bin .sub (.t 42) (.k (D.int .u64 (1))), none⟩,
  ⟨(some 16), .mv (.t 43), none⟩])
 (.seq (.block 0 (.loop [(1, ⟨false, 0, false⟩), (3, ⟨false, 0, false⟩), (4, ⟨false, 0, false⟩), (10, ⟨false, 0, false⟩), (11, ⟨false, 0, false⟩), (13, ⟨false, 0, false⟩), (14, ⟨false, 0, false⟩), (15, ⟨false, 0, false⟩), (16, ⟨false, 0, false⟩), (0, ⟨true, 1, false⟩), (12, ⟨true, 0, false⟩)]
 (.seq (.seq (.reg [⟨(some 44), .mv (.t 1), none⟩,
  ⟨(some 45), .mv (.t 15), none⟩,
  ⟨(some 46), .bin .geq (.t 44) (.t 45), none⟩])
 (.cond (.t 46)
 .skip
 (.exit 0)))
 (.block 1 (.seq (.reg [⟨(some 47), .mv (.t 13), none⟩,
  ⟨(some 48), .bin .sub (.t 47) (.k (D.int .i64 (1))), none⟩,
  ⟨(some 13), .mv (.t 48), none⟩])
 (.seq (.reg [⟨(some 49), .mv (.t 13), none⟩,
  ⟨(some 50), .mv (.t 1), none⟩,
  ⟨(some 51), .mv (.t 16), none⟩,
  ⟨(some 52), .bin .and (.t 50) (.t 51), none⟩,
  ⟨(some 53), .ixt (.k (D.str [48, 49, 50, 51, 52, 53, 54, 55, 56, 57, 97, 98, 99, 100, 101, 102, 103, 104, 105, 106, 107, 108, 109, 110, 111, 112, 113, 114, 115, 116, 117, 118, 119, 120, 121, 122])) (.t 52), none⟩,
  ⟨(some 54), .ixa 65 1 (.t 12) (.t 49), none⟩,
  ⟨none, .store 1 (.t 54) (.t 53), none⟩])
 (.reg [⟨(some 55), .mv (.t 1), none⟩,
  ⟨(some 56), .mv (.t 14), none⟩,
  ⟨(some 57), .bin .shr (.t 55) (.t 56), none⟩,
  ⟨(some 1), .mv (.t 57), none⟩])))))))
 (.seq (.reg [⟨(some 58), .mv (.t 13), none⟩,
  ⟨(some 59), .bin .sub (.t 58) (.k (D.int .i64 (1))), none⟩,
  ⟨(some 13), .mv (.t 59), none⟩])
 (.reg [⟨(some 60), .mv (.t 13), none⟩,
  ⟨(some 61), .mv (.t 1), none⟩,
  ⟨(some 62), .ixt (.k (D.str [48, 49, 50, 51, 52, 53, 54, 55, 56, 57, 97, 98, 99, 100, 101, 102, 103, 104, 105, 106, 107, 108, 109, 110, 111, 112, 113, 114, 115, 116, 117, 118, 119, 120, 121, 122])) (.t 61), none⟩,
  ⟨(some 63), .ixa 65 1 (.t 12) (.t 60), none⟩,
  ⟨none, .store 1 (.t 63) (.t 62), none⟩]))))))
 (.seq (.reg [⟨(some 64), .mv (.t 2), none⟩,
  ⟨(some 65), .cvi .u64 (.t 64), none⟩,
  ⟨(some 17), .mv (.t 65), none⟩])
 (.seq (.block 2 (.loop [(1, ⟨false, 0, false⟩), (3, ⟨false, 0, false⟩), (4, ⟨false, 0, false⟩), (10, ⟨false, 0, false⟩), (11, ⟨false, 0, false⟩), (13, ⟨false, 0, false⟩), (17, ⟨false, 0, false⟩), (0, ⟨true, 1, false⟩), (12, ⟨true, 0, false⟩)]
 (.seq (.seq (.reg [⟨(some 66), .mv (.t 1), none⟩,
  ⟨(some 67), .mv (.t 17), none⟩,
  ⟨(some 68), .bin .geq (.t 66) (.t 67), none⟩])
 (.cond (.t 68)
 .skip
 (.exit 2)))
 (.block 3 (.seq (.reg [⟨(some 69), .mv (.t 13), none⟩,
  ⟨(some 70), .bin .sub (.t 69) (.k (D.int .i64 (1))), none⟩,
  ⟨(some 13), .mv (.t 70), none⟩])
 (.seq (.reg [⟨(some 71), .mv (.t 1), none⟩,
  ⟨(some 72), .mv (.t 17), none⟩,
  ⟨(some 73), .bin .quo (.t 71) (.t 72), none⟩,
  ⟨(some 18), .mv (.t 73), none⟩])
 (.seq (.reg [⟨(some 74), .mv (.t 13), none⟩,
  ⟨(some 75), .mv (.t 1), none⟩,
  ⟨(some 76), .mv (.t 18), none⟩,
  ⟨(some 77), .mv (.t 17), none⟩,
  ⟨(some 78), .bin .mul (.t 76) (.t 77), none⟩,
  ⟨(some 79), .bin .sub (.t 75) (.t 78), none⟩,
  ⟨(some 80), .ixt (.k (D.str [48, 49, 50, 51, 52, 53, 54, 55, 56, 57, 97, 98, 99, 100, 101, 102, 103, 104, 105, 106, 107, 108, 109, 110, 111, 112, 113, 114, 115, 116, 117, 118, 119, 120, 121, 122])) (.t 79), none⟩,
  ⟨(some 81), .ixa 65 1 (.t 12) (.t 74), none⟩,
  ⟨none, .store 1 (.t 81) (.t 80), none⟩])
 (.reg [⟨(some 82), .mv (.t 18), none⟩,
  ⟨(some 1), .mv (.t 82), none⟩]))))))))
 (.seq (.reg [⟨(some 83), .mv (.t 13), none⟩,
  ⟨(some 84), .bin .sub (.t 83) (.k (D.int .i64 (1))), none⟩,
  ⟨(some 13), .mv (.t 84), none⟩])
 (.reg [⟨(some 85), .mv (.t 13), none⟩,
  ⟨(some 86), .mv (.t 1), none⟩,
  ⟨(some 87), .ixt (.k (D.str [48, 49, 50, 51, 52, 53, 54, 55, 56, 57, 97, 98, 99, 100, 101, 102, 103, 104, 105, 106, 107, 108, 109, 110, 111, 112, 113, 114, 115, 116, 117, 118, 119, 120, 121, 122])) (.t 86), none⟩,
  ⟨(some 88), .ixa 65 1 (.t 12) (.t 85), none⟩,
  ⟨none, .store 1 (.t 88) (.t 87), none⟩]))))))
 (.seq (.seq (.reg [⟨(some 89), .mv (.t 3), none⟩])
 (.cond (.t 89)
 (.seq (.reg [⟨(some 90), .mv (.t 13), none⟩,
  ⟨(some 91), .bin .sub (.t 90) (.k (D.int .i64 (1))), none⟩,
  ⟨(some 13), .mv (.t 91), none⟩])
 (.reg [⟨(some 92), .mv (.t 13), none⟩,
  ⟨(some 93), .ixa 65 1 (.t 12) (.t 92), none⟩,
  ⟨none, .store 1 (.t 93) (.k (D.int .u8 (45))), none⟩]))
 .skip))
 (.seq (.seq (.reg [⟨(some 94), .mv (.t 4), none⟩])
 (.cond (.t 94)
 (.seq (.reg [⟨(some 95), .mv (.t 0), none⟩,
  ⟨(some 96), .mv (.t 13), none⟩,
  ⟨(some 97), .bad, none⟩,
  ⟨(some 98), .append 1 1 (.t 95) (.t 97), none⟩,
  ⟨(some 10), .mv (.t 98), none⟩])
 .ret)
 .skip))
 (.seq (.reg [⟨(some 99), .mv (.t 13), none⟩,
  ⟨(some 100), .bad, none⟩,
  ⟨(some 101), .b2s (.t 100), none⟩,
  ⟨(some 11), .mv (.t 101), none⟩])
 .ret)))))))))⟩
def a94 : Ann := ⟨[], [⟨false, 0, false⟩], []⟩
def s94 : SFun := ⟨2, 54, [], [(.tmp 4, ⟨false, 0, false⟩)],
 (.seq (.reg [⟨(some 4), .mv (.k (D.str [])), none⟩])
 (.seq (.seq (.reg [⟨(some 10), .mv (.t 1), none⟩,
  ⟨(some 11), .bin .eql (.t 10) (.k (D.int .i64 (10))), none⟩])
 (.cond (.t 11)
 (.seq (.seq (.reg [⟨(some 12), .mv (.t 0), none⟩,
  ⟨(some 13), .bin .leq (.k (D.int .i64 (0))) (.t 12), none⟩,
  ⟨(some 14), .mv (.t 13), none⟩,
  ⟨(some 15), .mv (.t 0), (some (14, true))⟩,
  ⟨(some 16), .bin .lss (.t 15) (.k (D.int .i64 (100))), (some (14, true))⟩,
  ⟨(some 17), .pick (.t 14) (.t 16) (.k (D.bool false)), none⟩])
 (.cond (.t 17)
 (.seq (.reg [⟨(some 18), .mv (.t 0), none⟩,
  ⟨(some 19), .call false 102 [(.t 18)], none⟩,
  ⟨(some 4), .mv (.t 19), none⟩])
 .ret)
 .skip))
 (.seq (.reg [⟨(some 5), .alloc [(D.int .u8 (0)), (D.int .u8 (0)), (D.int .u8 (0)), (D.int .u8 (0)), (D.int .u8 (0)), (D.int .u8 (0)), (D.int .u8 (0)), (D.int .u8 (0)), (D.int .u8 (0)), (D.int .u8 (0)), (D.int .u8 (0)), (D.int .u8 (0)), (D.int .u8 (0)), (D.int .u8 (0)), (D.int .u8 (0)), (D.int .u8 (0)), (D.int .u8 (0)), (D.int .u8 (0)), (D.int .u8 (0)), (D.int .u8 (0)), (D.int .u8 (0)), (D.int .u8 (0)), (D.int .u8 (0)), (D.int .u8 (0))], none⟩])
 (.seq (.reg [⟨(some 20), .mv (.t 0), none⟩,
  ⟨(some 21), .cvi .u64 (.t 20), none⟩,
  ⟨(some 6), .mv (.t 21), none⟩])
 (.seq (.seq (.reg [⟨(some 22), .mv (.t 0), none⟩,
  ⟨(some 23), .bin .lss (.t 22) (.k (D.int .i64 (0))), none⟩])
 (.cond (.t 23)
 (.reg [⟨(some 24), .mv (.t 6), none⟩,
  ⟨(some 25), .una .neg (.t 24), none⟩,
  ⟨(some 6), .mv (.t 25), none⟩])
 .skip))
 (.seq (.reg [⟨(some 26), .mv (.t 6), none⟩,
  ⟨(some 27), .call false 101 [(.t 26)], none⟩,
  ⟨(some 7), .mv (.t 27), none⟩])
 (.seq (.reg [⟨(some 28), .mv (.t 7), none⟩,
  ⟨(some 29), .bin .add (.k (D.int .i64 (1))) (.t 28), none⟩,
  ⟨(some 30), .bad, none⟩,
  ⟨(some 31), .mv (.t 6), none⟩,
  ⟨(some 32), .call false 97 [(.t 30), (.t 31)], none⟩])
 (.seq (.seq (.reg [⟨(some 33), .mv (.t 0), none⟩,
  ⟨(some 34), .bin .lss (.t 33) (.k (D.int .i64 (0))), none⟩])
 (.cond (.t 34)
 (.seq (.reg [⟨(some 35), .ixa 24 1 (.t 5) (.k (D.int .i64 (0))), none⟩,
  ⟨none, .store 1 (.t 35) (.k (D.int .u8 (45))), none⟩])
 (.seq (.reg [⟨(some 36), .mv (.t 7), none⟩,
  ⟨(some 37), .bin .add (.k (D.int .i64 (1))) (.t 36), none⟩,
  ⟨(some 38), .bad, none⟩,
  ⟨(some 39), .b2s (.t 38), none⟩,
  ⟨(some 4), .mv (.t 39), none⟩])
 .ret))
 .skip))
 (.seq (.reg [⟨(some 40), .mv (.t 7), none⟩,
  ⟨(some 41), .bin .add (.k (D.int .i64 (1))) (.t 40), none⟩,
  ⟨(some 42), .bad, none⟩,
  ⟨(some 43), .b2s (.t 42), none⟩,
  ⟨(some 4), .mv (.t 43), none⟩])
 .ret))))))))
 .skip))
 (.seq (.reg [⟨(some 45), .mv (.t 0), none⟩,
  ⟨(some 46), .cvi .u64 (.t 45), none⟩,
  ⟨(some 47), .mv (.t 1), none⟩,
  ⟨(some 48), .mv (.t 0), none⟩,
  ⟨(some 49), .bin .lss (.t 48) (.k (D.int .i64 (0))), none⟩,
  ⟨(some 50), .call false 98 [(.k .sn), (.t 46), (.t 47), (.t 49), (.k (D.bool false))], none⟩,
  ⟨(some 44), .mv (.t 50), none⟩,
  ⟨(some 51), .ext (.t 44) 0, none⟩,
  ⟨(some 52), .ext (.t 44) 1, none⟩,
  ⟨(some 8), .mv (.t 51), none⟩,
  ⟨(some 9), .mv (.t 52), none⟩])
 (.seq (.reg [⟨(some 53), .mv (.t 9), none⟩,
  ⟨(some 4), .mv (.t 53), none⟩])
 .ret))))⟩
def a95 : Ann := ⟨[], [⟨false, 0, false⟩], []⟩
def s95 : SFun := ⟨1, 5, [], [(.tmp 2, ⟨false, 0, false⟩)],
 (.seq (.reg [⟨(some 2), .mv (.k (D.str [])), none⟩])
 (.seq (.reg [⟨(some 3), .mv (.t 0), none⟩,
  ⟨(some 4), .call false 94 [(.t 3), (.k (D.int .i64 (10)))], none⟩,
  ⟨(some 2), .mv (.t 4), none⟩])
 .ret))⟩
def a466 : Ann := ⟨[], [⟨false, 0, false⟩], []⟩
def s466 : SFun := ⟨1, 5, [], [(.tmp 2, ⟨false, 0, false⟩)],
 (.seq (.reg [⟨(some 2), .mv (.k (D.str [])), none⟩])
 (.seq (.reg [⟨(some 3), .mv (.t 0), none⟩,
  ⟨(some 4), .call false 95 [(.t 3)], none⟩,
  ⟨(some 2), .mv (.t 4), none⟩])
 .ret))⟩
def a389 : Ann := ⟨[(3, [(9, ⟨false, 0, false⟩), (10, ⟨false, 0, false⟩), (11, ⟨false, 0, false⟩), (1, ⟨true, 0, false⟩), (3, ⟨true, 1, false⟩)])], [⟨true, 1, false⟩], []⟩
def s389 : SFun := ⟨1, 39, [], [(.tmp 2, ⟨true, 1, false⟩)],
 (.seq (.reg [⟨(some 1), .box 7 (.t 0), none⟩,
  ⟨(some 2), .mv (.k .sn), none⟩])
 (.seq (.reg [⟨(some 3), .mv (.k .sn), none⟩])
 (.seq (.seq (.reg [⟨(some 8), .fad 5 (.t 1), none⟩,
  ⟨(some 9), .load false 1 (.t 8), none⟩,
  ⟨(some 10), .len (.t 9), none⟩,
  ⟨(some 11), .mv (.k (D.int .i64 (0))), none⟩])
 (.block 0 (.loop [(9, ⟨false, 0, false⟩), (10, ⟨false, 0, false⟩), (11, ⟨false, 0, false⟩), (1, ⟨true, 0, false⟩), (3, ⟨true, 1, false⟩)]
 (.seq (.reg [⟨(some 12), .bin .lss (.t 11) (.t 10), none⟩])
 (.seq (.cond (.t 12)
 .skip
 (.exit 0))
 (.seq (.block 1 (.seq (.reg [⟨(some 13), .ixs 1 (.t 9) (.t 11), none⟩,
  ⟨(some 14), .load false 1 (.t 13), none⟩,
  ⟨(some 5), .mv (.t 14), none⟩])
 (.seq (.reg [⟨(some 6), .mv (.k (D.str [])), none⟩])
 (.seq (.seq (.reg [⟨(some 15), .mv (.t 5), none⟩,
  ⟨(some 16), .bin .neq (.t 15) (.k (D.int .i64 (-1))), none⟩])
 (.cond (.t 16)
 (.reg [⟨(some 17), .mv (.t 5), none⟩,
  ⟨(some 18), .call false 466 [(.t 17)], none⟩,
  ⟨(some 6), .mv (.t 18), none⟩])
 .skip))
 (.reg [⟨(some 19), .mv (.t 3), none⟩,
  ⟨(some 20), .mv (.t 6), none⟩,
  ⟨(some 21), .bsl false 1 1 [(D.str [])] [(0, (.t 20))], none⟩,
  ⟨(some 22), .append 1 16 (.t 19) (.t 21), none⟩,
  ⟨(some 3), .mv (.t 22), none⟩])))))
 (.reg [⟨(some 23), .bin .add (.t 11) (.k (D.int .i64 (1))), none⟩,
  ⟨(some 11), .mv (.t 23), none⟩])))))))
 (.seq (.reg [⟨(some 24), .fad 2 (.t 1), none⟩,
  ⟨(some 25), .load false 1 (.t 24), none⟩,
  ⟨(some 26), .bsl true 1 3 [(D.int .u8 (0))] [(0, (.k (D.int .u8 (27)))), (1, (.k (D.int .u8 (91)))), (2, (.t 25))], none⟩,
  ⟨(some 27), .call false 100396 [(.t 26)], none⟩,
  ⟨(some 28), .mv (.t 3), none⟩,
  ⟨(some 29), .call false 471 [(.t 28), (.k (D.str [59]))], none⟩,
  ⟨(some 30), .append 1 1 (.t 27) (.t 29), none⟩,
  ⟨(some 7), .mv (.t 30), none⟩])
 (.seq (.reg [⟨(some 31), .mv (.t 7), none⟩,
  ⟨(some 32), .fad 3 (.t 1), none⟩,
  ⟨(some 33), .load false 1 (.t 32), none⟩,
  ⟨(some 34), .fad 4 (.t 1), none⟩,
  ⟨(some 35), .load false 1 (.t 34), none⟩,
  ⟨(some 36), .bsl true 1 2 [(D.int .u8 (0))] [(0, (.t 33)), (1, (.t 35))], none⟩,
  ⟨(some 37), .call false 100396 [(.t 36)], none⟩,
  ⟨(some 38), .append 1 1 (.t 31) (.t 37), none⟩,
  ⟨(some 2), .mv (.t 38), none⟩])
 .ret)))))⟩
def a388 : Ann := ⟨[], [⟨true, 1, false⟩], []⟩
def s388 : SFun := ⟨1, 34, [], [(.tmp 2, ⟨true, 1, false⟩)],
 (.seq (.reg [⟨(some 1), .box 7 (.t 0), none⟩,
  ⟨(some 2), .mv (.k .sn), none⟩])
 (.seq (.seq (.reg [⟨(some 3), .fad 0 (.t 1), none⟩,
  ⟨(some 4), .load false 1 (.t 3), none⟩])
 (.block 0 (.seq (.reg [⟨(some 6), .bin .eql (.t 4) (.k (D.int .i64 (1))), none⟩,
  ⟨(some 5), .mv (.t 6), none⟩])
 (.cond (.t 5)
 (.seq (.reg [⟨(some 7), .fad 1 (.t 1), none⟩,
  ⟨(some 8), .load false 1 (.t 7), none⟩,
  ⟨(some 9), .bsl false 1 1 [(D.int .i32 (0))] [(0, (.t 8))], none⟩,
  ⟨(some 10), .call false 431 [(.t 9)], none⟩,
  ⟨(some 2), .mv (.t 10), none⟩])
 .ret)
 (.seq (.reg [⟨(some 12), .bin .eql (.t 4) (.k (D.int .i64 (2))), none⟩,
  ⟨(some 11), .mv (.t 12), none⟩])
 (.cond (.t 11)
 (.seq (.reg [⟨(some 13), .fad 4 (.t 1), none⟩,
  ⟨(some 14), .load false 1 (.t 13), none⟩,
  ⟨(some 15), .bsl true 1 1 [(D.int .u8 (0))] [(0, (.t 14))], none⟩,
  ⟨(some 2), .mv (.t 15), none⟩])
 .ret)
 (.seq (.reg [⟨(some 17), .bin .eql (.t 4) (.k (D.int .i64 (3))), none⟩,
  ⟨(some 16), .mv (.t 17), none⟩])
 (.cond (.t 16)
 (.seq (.reg [⟨(some 18), .fad 3 (.t 1), none⟩,
  ⟨(some 19), .load false 1 (.t 18), none⟩,
  ⟨(some 20), .fad 4 (.t 1), none⟩,
  ⟨(some 21), .load false 1 (.t 20), none⟩,
  ⟨(some 22), .bsl true 1 3 [(D.int .u8 (0))] [(0, (.k (D.int .u8 (27)))), (1, (.t 19)), (2, (.t 21))], none⟩,
  ⟨(some 23), .call false 100396 [(.t 22)], none⟩,
  ⟨(some 2), .mv (.t 23), none⟩])
 .ret)
 (.seq (.reg [⟨(some 25), .bin .eql (.t 4) (.k (D.int .i64 (4))), none⟩,
  ⟨(some 24), .mv (.t 25), none⟩])
 (.cond (.t 24)
 (.seq (.reg [⟨(some 26), .load true 7 (.t 1), none⟩,
  ⟨(some 27), .call false 389 [(.t 26)], none⟩,
  ⟨(some 2), .mv (.t 27), none⟩])
 .ret)
 .skip))))))))))
 (.seq (.reg [⟨(some 28), .bsl true 1 2 [(D.int .u8 (0))] [(0, (.k (D.int .u8 (27)))), (1, (.k (D.int .u8 (93))))], none⟩,
  ⟨(some 29), .fad 6 (.t 1), none⟩,
  ⟨(some 30), .load false 1 (.t 29), none⟩,
  ⟨(some 31), .append 1 1 (.t 28) (.t 30), none⟩,
  ⟨(some 32), .bsl false 1 1 [(D.int .u8 (0))] [(0, (.k (D.int .u8 (7))))], none⟩,
  ⟨(some 33), .append 1 1 (.t 31) (.t 32), none⟩,
  ⟨(some 2), .mv (.t 33), none⟩])
 .ret)))⟩
def a383 : Ann := ⟨[(3, [(6, ⟨false, 0, false⟩), (7, ⟨false, 0, false⟩), (8, ⟨false, 0, false⟩), (3, ⟨true, 1, false⟩)])], [⟨true, 1, false⟩], []⟩
def s383 : SFun := ⟨1, 20, [], [(.tmp 2, ⟨true, 1, false⟩)],
 (.seq (.reg [⟨(some 2), .mv (.k .sn), none⟩])
 (.seq (.reg [⟨(some 3), .mv (.k .sn), none⟩])
 (.seq (.seq (.reg [⟨(some 6), .mv (.t 0), none⟩,
  ⟨(some 7), .len (.t 6), none⟩,
  ⟨(some 8), .mv (.k (D.int .i64 (0))), none⟩])
 (.block 0 (.loop [(6, ⟨false, 0, false⟩), (7, ⟨false, 0, false⟩), (8, ⟨false, 0, false⟩), (3, ⟨true, 1, false⟩)]
 (.seq (.reg [⟨(some 9), .bin .lss (.t 8) (.t 7), none⟩])
 (.seq (.cond (.t 9)
 .skip
 (.exit 0))
 (.seq (.block 1 (.seq (.reg [⟨(some 10), .ixs 7 (.t 6) (.t 8), none⟩,
  ⟨(some 11), .load true 7 (.t 10), none⟩,
  ⟨(some 5), .alloc [(D.int .i64 (0)), (D.int .i32 (0)), (D.int .u8 (0)), (D.int .u8 (0)), (D.int .u8 (0)), .sn, (D.str [])], none⟩,
  ⟨none, .store 7 (.t 5) (.t 11), none⟩])
 (.seq (.reg [⟨(some 12), .load true 7 (.t 5), none⟩,
  ⟨(some 13), .call false 384 [(.t 12)], none⟩])
 (.cond (.t 13)
 (.reg [⟨(some 14), .mv (.t 3), none⟩,
  ⟨(some 15), .load true 7 (.t 5), none⟩,
  ⟨(some 16), .call false 388 [(.t 15)], none⟩,
  ⟨(some 17), .append 1 1 (.t 14) (.t 16), none⟩,
  ⟨(some 3), .mv (.t 17), none⟩])
 .skip))))
 (.reg [⟨(some 18), .bin .add (.t 8) (.k (D.int .i64 (1))), none⟩,
  ⟨(some 8), .mv (.t 18), none⟩])))))))
 (.seq (.reg [⟨(some 19), .mv (.t 3), none⟩,
  ⟨(some 2), .mv (.t 19), none⟩])
 .ret))))⟩
def a381 : Ann := ⟨[], [⟨false, 0, false⟩], []⟩
def s381 : SFun := ⟨5, 52, [], [(.tmp 10, ⟨false, 0, false⟩)],
 (.seq (.reg [⟨(some 5), .box 7 (.t 0), none⟩,
  ⟨(some 10), .mv (.k (D.int .i64 (0))), none⟩])
 (.seq (.reg [⟨(some 12), .mv (.t 2), none⟩,
  ⟨(some 11), .mv (.t 12), none⟩])
 (.seq (.seq (.reg [⟨(some 13), .mv (.t 1), none⟩,
  ⟨(some 14), .bin .geq (.t 13) (.k (D.int .i64 (0))), none⟩,
  ⟨(some 15), .mv (.t 14), none⟩,
  ⟨(some 16), .mv (.t 1), (some (15, true))⟩,
  ⟨(some 17), .fad 5 (.t 5), (some (15, true))⟩,
  ⟨(some 18), .load false 1 (.t 17), (some (15, true))⟩,
  ⟨(some 19), .len (.t 18), (some (15, true))⟩,
  ⟨(some 20), .bin .lss (.t 16) (.t 19), (some (15, true))⟩,
  ⟨(some 21), .pick (.t 15) (.t 20) (.k (D.bool false)), none⟩,
  ⟨(some 22), .mv (.t 21), none⟩,
  ⟨(some 23), .fad 5 (.t 5), (some (22, true))⟩,
  ⟨(some 24), .load false 1 (.t 23), (some (22, true))⟩,
  ⟨(some 25), .mv (.t 1), (some (22, true))⟩,
  ⟨(some 26), .ixs 1 (.t 24) (.t 25), (some (22, true))⟩,
  ⟨(some 27), .load false 1 (.t 26), (some (22, true))⟩,
  ⟨(some 28), .bin .neq (.t 27) (.k (D.int .i64 (-1))), (some (22, true))⟩,
  ⟨(some 29), .pick (.t 22) (.t 28) (.k (D.bool false)), none⟩,
  ⟨(some 30), .mv (.t 29), none⟩,
  ⟨(some 31), .fad 5 (.t 5), (some (30, true))⟩,
  ⟨(some 32), .load false 1 (.t 31), (some (30, true))⟩,
  ⟨(some 33), .mv (.t 1), (some (30, true))⟩,
  ⟨(some 34), .ixs 1 (.t 32) (.t 33), (some (30, true))⟩,
  ⟨(some 35), .load false 1 (.t 34), (some (30, true))⟩,
  ⟨(some 36), .bin .neq (.t 35) (.k (D.int .i64 (0))), (some (30, true))⟩,
  ⟨(some 37), .mv (.t 36), (some (30, true))⟩,
  ⟨(some 38), .mv (.t 3), (some (37, false))⟩,
  ⟨(some 39), .bin .leq (.t 38) (.k (D.int .i64 (0))), (some (37, false))⟩,
  ⟨(some 40), .pick (.t 37) (.k (D.bool true)) (.t 39), (some (30, true))⟩,
  ⟨(some 41), .pick (.t 30) (.t 40) (.k (D.bool false)), none⟩])
 (.cond (.t 41)
 (.reg [⟨(some 42), .fad 5 (.t 5), none⟩,
  ⟨(some 43), .load false 1 (.t 42), none⟩,
  ⟨(some 44), .mv (.t 1), none⟩,
  ⟨(some 45), .ixs 1 (.t 43) (.t 44), none⟩,
  ⟨(some 46), .load false 1 (.t 45), none⟩,
  ⟨(some 11), .mv (.t 46), none⟩])
 .skip))
 (.seq (.reg [⟨(some 47), .mv (.t 3), none⟩,
  ⟨(some 48), .mv (.t 11), none⟩,
  ⟨(some 49), .mv (.t 4), none⟩,
  ⟨(some 50), .mn [(.t 48), (.t 49)], none⟩,
  ⟨(some 51), .mx [(.t 47), (.t 50)], none⟩,
  ⟨(some 10), .mv (.t 51), none⟩])
 .ret))))⟩
def a386 : Ann := ⟨[], [⟨false, 0, false⟩], []⟩
def s386 : SFun := ⟨3, 15, [], [(.cell 6 true 7, ⟨false, 0, false⟩)],
 (.seq (.reg [⟨(some 6), .alloc [(D.int .i64 (0)), (D.int .i32 (0)), (D.int .u8 (0)), (D.int .u8 (0)), (D.int .u8 (0)), .sn, (D.str [])], none⟩])
 (.seq (.reg [⟨(some 8), .mv (.t 0), none⟩,
  ⟨(some 9), .mv (.t 2), none⟩,
  ⟨(some 10), .call false 450 [(.t 9)], none⟩,
  ⟨(some 11), .build [(D.int .i64 (0)), (D.int .i32 (0)), (D.int .u8 (0)), (D.int .u8 (0)), (D.int .u8 (0)), .sn, (D.str [])] [(0, 1, (.k (D.int .i64 (4)))), (2, 1, (.t 8)), (4, 1, (.k (D.int .u8 (108)))), (5, 1, (.t 10))], none⟩,
  ⟨(some 7), .alloc [(D.int .i64 (0)), (D.int .i32 (0)), (D.int .u8 (0)), (D.int .u8 (0)), (D.int .u8 (0)), .sn, (D.str [])], none⟩,
  ⟨none, .store 7 (.t 7) (.t 11), none⟩])
 (.seq (.seq (.reg [⟨(some 12), .mv (.t 1), none⟩])
 (.cond (.t 12)
 (.reg [⟨(some 13), .fad 4 (.t 7), none⟩,
  ⟨none, .store 1 (.t 13) (.k (D.int .u8 (104))), none⟩])
 .skip))
 (.seq (.reg [⟨(some 14), .load true 7 (.t 7), none⟩,
  ⟨none, .store 7 (.t 6) (.t 14), none⟩])
 .ret))))⟩
def a385 : Ann := ⟨[], [⟨false, 0, false⟩], []⟩
def s385 : SFun := ⟨2, 52, [], [(.tmp 4, ⟨false, 0, false⟩)],
 (.seq (.reg [⟨(some 2), .box 7 (.t 0), none⟩,
  ⟨(some 3), .box 7 (.t 1), none⟩,
  ⟨(some 4), .mv (.k (D.bool false)), none⟩])
 (.seq (.reg [⟨(some 5), .fad 0 (.t 2), none⟩,
  ⟨(some 6), .load false 1 (.t 5), none⟩,
  ⟨(some 7), .fad 0 (.t 3), none⟩,
  ⟨(some 8), .load false 1 (.t 7), none⟩,
  ⟨(some 9), .bin .eql (.t 6) (.t 8), none⟩,
  ⟨(some 10), .mv (.t 9), none⟩,
  ⟨(some 11), .fad 1 (.t 2), (some (10, true))⟩,
  ⟨(some 12), .load false 1 (.t 11), (some (10, true))⟩,
  ⟨(some 13), .fad 1 (.t 3), (some (10, true))⟩,
  ⟨(some 14), .load false 1 (.t 13), (some (10, true))⟩,
  ⟨(some 15), .bin .eql (.t 12) (.t 14), (some (10, true))⟩,
  ⟨(some 16), .pick (.t 10) (.t 15) (.k (D.bool false)), none⟩,
  ⟨(some 17), .mv (.t 16), none⟩,
  ⟨(some 18), .fad 2 (.t 2), (some (17, true))⟩,
  ⟨(some 19), .load false 1 (.t 18), (some (17, true))⟩,
  ⟨(some 20), .fad 2 (.t 3), (some (17, true))⟩,
  ⟨(some 21), .load false 1 (.t 20), (some (17, true))⟩,
  ⟨(some 22), .bin .eql (.t 19) (.t 21), (some (17, true))⟩,
  ⟨(some 23), .pick (.t 17) (.t 22) (.k (D.bool false)), none⟩,
  ⟨(some 24), .mv (.t 23), none⟩,
  ⟨(some 25), .fad 3 (.t 2), (some (24, true))⟩,
  ⟨(some 26), .load false 1 (.t 25), (some (24, true))⟩,
  ⟨(some 27), .fad 3 (.t 3), (some (24, true))⟩,
  ⟨(some 28), .load false 1 (.t 27), (some (24, true))⟩,
  ⟨(some 29), .bin .eql (.t 26) (.t 28), (some (24, true))⟩,
  ⟨(some 30), .pick (.t 24) (.t 29) (.k (D.bool false)), none⟩,
  ⟨(some 31), .mv (.t 30), none⟩,
  ⟨(some 32), .fad 4 (.t 2), (some (31, true))⟩,
  ⟨(some 33), .load false 1 (.t 32), (some (31, true))⟩,
  ⟨(some 34), .fad 4 (.t 3), (some (31, true))⟩,
  ⟨(some 35), .load false 1 (.t 34), (some (31, true))⟩,
  ⟨(some 36), .bin .eql (.t 33) (.t 35), (some (31, true))⟩,
  ⟨(some 37), .pick (.t 31) (.t 36) (.k (D.bool false)), none⟩,
  ⟨(some 38), .mv (.t 37), none⟩,
  ⟨(some 39), .fad 6 (.t 2), (some (38, true))⟩,
  ⟨(some 40), .load false 1 (.t 39), (some (38, true))⟩,
  ⟨(some 41), .fad 6 (.t 3), (some (38, true))⟩,
  ⟨(some 42), .load false 1 (.t 41), (some (38, true))⟩,
  ⟨(some 43), .bin .eql (.t 40) (.t 42), (some (38, true))⟩,
  ⟨(some 44), .pick (.t 38) (.t 43) (.k (D.bool false)), none⟩,
  ⟨(some 45), .mv (.t 44), none⟩,
  ⟨(some 46), .fad 5 (.t 2), (some (45, true))⟩,
  ⟨(some 47), .load false 1 (.t 46), (some (45, true))⟩,
  ⟨(some 48), .fad 5 (.t 3), (some (45, true))⟩,
  ⟨(some 49), .load false 1 (.t 48), (some (45, true))⟩,
  ⟨(some 50), .call false 457 [(.t 47), (.t 49)], (some (45, true))⟩,
  ⟨(some 51), .pick (.t 45) (.t 50) (.k (D.bool false)), none⟩,
  ⟨(some 4), .mv (.t 51), none⟩])
 .ret))⟩
def a240 : Ann := ⟨[], [⟨false, 0, false⟩], []⟩
def s240 : SFun := ⟨0, 33, [], [(.tmp 0, ⟨false, 0, false⟩)],
 (.seq (.reg [⟨(some 0), .mv (.k (D.bool false)), none⟩])
 (.seq (.reg [⟨(some 2), .bsl false 1 2 [(D.int .i64 (0))] [(0, (.k (D.int .i64 (3)))), (1, (.k (D.int .i64 (4))))], none⟩,
  ⟨(some 3), .call false 382 [(.k (D.int .u8 (72))), (.t 2)], none⟩,
  ⟨(some 1), .alloc [(D.int .i64 (0)), (D.int .i32 (0)), (D.int .u8 (0)), (D.int .u8 (0)), (D.int .u8 (0)), .sn, (D.str [])], none⟩,
  ⟨none, .store 7 (.t 1) (.t 3), none⟩])
 (.seq (.reg [⟨(some 4), .load true 7 (.t 1), none⟩,
  ⟨(some 5), .bsl false 7 1 [(D.int .i64 (0)), (D.int .i32 (0)), (D.int .u8 (0)), (D.int .u8 (0)), (D.int .u8 (0)), .sn, (D.str [])] [(0, (.t 4))], none⟩,
  ⟨(some 6), .call false 383 [(.t 5)], none⟩,
  ⟨(some 7), .b2s (.t 6), none⟩,
  ⟨(some 8), .bin .eql (.t 7) (.k (D.str [27, 91, 51, 59, 52, 72])), none⟩,
  ⟨(some 9), .mv (.t 8), none⟩,
  ⟨(some 10), .bsl false 1 1 [(D.int .i64 (0))] [(0, (.k (D.int .i64 (0))))], (some (9, true))⟩,
  ⟨(some 11), .call false 382 [(.k (D.int .u8 (65))), (.t 10)], (some (9, true))⟩,
  ⟨(some 12), .call false 381 [(.t 11), (.k (D.int .i64 (0))), (.k (D.int .i64 (1))), (.k (D.int .i64 (1))), (.k (D.int .i64 (9)))], (some (9, true))⟩,
  ⟨(some 13), .bin .eql (.t 12) (.k (D.int .i64 (1))), (some (9, true))⟩,
  ⟨(some 14), .pick (.t 9) (.t 13) (.k (D.bool false)), none⟩,
  ⟨(some 15), .mv (.t 14), none⟩,
  ⟨(some 16), .load true 7 (.t 1), (some (15, true))⟩,
  ⟨(some 17), .call false 381 [(.t 16), (.k (D.int .i64 (1))), (.k (D.int .i64 (1))), (.k (D.int .i64 (1))), (.k (D.int .i64 (9)))], (some (15, true))⟩,
  ⟨(some 18), .bin .eql (.t 17) (.k (D.int .i64 (4))), (some (15, true))⟩,
  ⟨(some 19), .pick (.t 15) (.t 18) (.k (D.bool false)), none⟩,
  ⟨(some 20), .mv (.t 19), none⟩,
  ⟨(some 21), .bsl false 1 1 [(D.int .i64 (0))] [(0, (.k (D.int .i64 (25))))], (some (20, true))⟩,
  ⟨(some 22), .call false 386 [(.k (D.int .u8 (63))), (.k (D.bool false)), (.t 21)], (some (20, true))⟩,
  ⟨(some 23), .bsl false 7 1 [(D.int .i64 (0)), (D.int .i32 (0)), (D.int .u8 (0)), (D.int .u8 (0)), (D.int .u8 (0)), .sn, (D.str [])] [(0, (.t 22))], (some (20, true))⟩,
  ⟨(some 24), .call false 383 [(.t 23)], (some (20, true))⟩,
  ⟨(some 25), .b2s (.t 24), (some (20, true))⟩,
  ⟨(some 26), .bin .eql (.t 25) (.k (D.str [27, 91, 63, 50, 53, 108])), (some (20, true))⟩,
  ⟨(some 27), .pick (.t 20) (.t 26) (.k (D.bool false)), none⟩,
  ⟨(some 28), .mv (.t 27), none⟩,
  ⟨(some 29), .load true 7 (.t 1), (some (28, true))⟩,
  ⟨(some 30), .load true 7 (.t 1), (some (28, true))⟩,
  ⟨(some 31), .call false 385 [(.t 29), (.t 30)], (some (28, true))⟩,
  ⟨(some 32), .pick (.t 28) (.t 31) (.k (D.bool false)), none⟩,
  ⟨(some 0), .mv (.t 32), none⟩])
 .ret)))⟩
def ns : List Nat := [441, 86, 87, 240, 241, 237, 239, 214, 242, 238, 382, 383, 381, 386, 385, 63, 250, 384, 247, 175, 174, 172, 176, 266, 117, 364, 362, 359, 361, 363, 360, 367, 213, 338, 11, 12, 171, 457, 450, 388, 252, 254, 387, 390, 394, 391, 398, 392, 395, 6, 7, 244, 248, 464, 115, 134, 369, 368, 466, 331, 13, 67, 431, 100396, 389, 469, 393, 453, 8, 5, 9, 243, 255, 95, 116, 21, 22, 24, 14, 17, 19, 20, 433, 100456, 397, 471, 104, 461, 253, 94, 68, 339, 15, 18, 23, 434, 460, 51, 55, 53, 91, 102, 101, 97, 98, 432, 435, 16, 56, 57, 100, 442, 96, 99, 446, 89, 93, 447, 448, 78, 79, 82, 83, 84, 85, 80, 81, 49, 50, 47, 48, 0, 60, 61, 52, 59, 484, 485, 486, 487, 488, 88]
theorem nsND : ns.Nodup := by decide +kernel
def tab : List Row := [⟨457, 37, false, a457, .fn s457⟩, ⟨450, 38, false, a450, .nil n450⟩, ⟨382, 10, true, a382, .fn s382⟩, ⟨387, 42, false, a387, .fn s387⟩, ⟨398, 46, false, a398, .fn s398⟩, ⟨390, 43, false, a390, .fn s390⟩, ⟨394, 44, false, a394, .fn s394⟩, ⟨391, 45, false, a391, .fn s391⟩, ⟨461, 87, false, a461, .fn s461⟩, ⟨453, 67, false, a453, .fn s453⟩, ⟨393, 66, false, a393, .fn s393⟩, ⟨392, 47, false, a392, .fn s392⟩, ⟨395, 48, false, a395, .fn s395⟩, ⟨384, 17, false, a384, .fn s384⟩, ⟨434, 95, false, a434, .fn s434⟩, ⟨433, 82, false, a433, .fn s433⟩, ⟨431, 62, false, a431, .fn s431⟩, ⟨460, 96, false, a460, .fn s460⟩, ⟨100456, 83, true, a100456, .own s100456⟩, ⟨397, 84, false, a397, .fn s397⟩, ⟨100396, 63, true, a100396, .own s100396⟩, ⟨102, 101, false, a102, .fn s102⟩, ⟨442, 111, false, a442, .fn s442⟩, ⟨100, 110, false, a100, .fn s100⟩, ⟨96, 112, false, a96, .fn s96⟩, ⟨101, 102, false, a101, .fn s101⟩, ⟨97, 103, false, a97, .fn s97⟩, ⟨99, 113, false, a99, .fn s99⟩, ⟨447, 117, false, a447, .fn s447⟩, ⟨448, 118, false, a448, .fn s448⟩, ⟨446, 114, false, a446, .fn s446⟩, ⟨98, 104, false, a98, .fn s98⟩, ⟨94, 89, false, a94, .fn s94⟩, ⟨95, 73, false, a95, .fn s95⟩, ⟨466, 58, false, a466, .fn s466⟩, ⟨389, 64, false, a389, .fn s389⟩, ⟨388, 39, false, a388, .fn s388⟩, ⟨383, 11, false, a383, .fn s383⟩, ⟨381, 12, false, a381, .fn s381⟩, ⟨386, 13, true, a386, .fn s386⟩, ⟨385, 14, false, a385, .fn s385⟩, ⟨240, 3, false, a240, .fn s240⟩, ⟨469, 65, false, ⟨[], [], []⟩, .ext ixbM⟩, ⟨471, 85, false, ⟨[], [], []⟩, .ext joinM⟩]
theorem ok457 : RowOK Tryd.prog ns ⟨457, 37, false, a457, .fn s457⟩ := ⟨by kernel_rfl, by kernel_rfl, by show compF Tryd.prog (numOf ns) a457 37 = some s457; kernel_rfl⟩
theorem ok450 : RowOK Tryd.prog ns ⟨450, 38, false, a450, .nil n450⟩ := ⟨by kernel_rfl, by kernel_rfl, by show compN Tryd.prog (numOf ns) a450 38 = some n450; kernel_rfl⟩
theorem ok382 : RowOK Tryd.prog ns ⟨382, 10, true, a382, .fn s382⟩ := ⟨by kernel_rfl, by kernel_rfl, by show compF Tryd.prog (numOf ns) a382 10 = some s382; kernel_rfl⟩
theorem ok387 : RowOK Tryd.prog ns ⟨387, 42, false, a387, .fn s387⟩ := ⟨by kernel_rfl, by kernel_rfl, by show compF Tryd.prog (numOf ns) a387 42 = some s387; kernel_rfl⟩
theorem ok398 : RowOK Tryd.prog ns ⟨398, 46, false, a398, .fn s398⟩ := ⟨by kernel_rfl, by kernel_rfl, by show compF Tryd.prog (numOf ns) a398 46 = some s398; kernel_rfl⟩
theorem ok390 : RowOK Tryd.prog ns ⟨390, 43, false, a390, .fn s390⟩ := ⟨by kernel_rfl, by kernel_rfl, by show compF Tryd.prog (numOf ns) a390 43 = some s390; kernel_rfl⟩
theorem ok394 : RowOK Tryd.prog ns ⟨394, 44, false, a394, .fn s394⟩ := ⟨by kernel_rfl, by kernel_rfl, by show compF Tryd.prog (numOf ns) a394 44 = some s394; kernel_rfl⟩
theorem ok391 : RowOK Tryd.prog ns ⟨391, 45, false, a391, .fn s391⟩ := ⟨by kernel_rfl, by kernel_rfl, by show compF Tryd.prog (numOf ns) a391 45 = some s391; kernel_rfl⟩
theorem ok461 : RowOK Tryd.prog ns ⟨461, 87, false, a461, .fn s461⟩ := ⟨by kernel_rfl, by kernel_rfl, by show compF Tryd.prog (numOf ns) a461 87 = some s461; kernel_rfl⟩
theorem ok453 : RowOK Tryd.prog ns ⟨453, 67, false, a453, .fn s453⟩ := ⟨by kernel_rfl, by kernel_rfl, by show compF Tryd.prog (numOf ns) a453 67 = some s453; kernel_rfl⟩
theorem ok393 : RowOK Tryd.prog ns ⟨393, 66, false, a393, .fn s393⟩ := ⟨by kernel_rfl, by kernel_rfl, by show compF Tryd.prog (numOf ns) a393 66 = some s393; kernel_rfl⟩
theorem ok392 : RowOK Tryd.prog ns ⟨392, 47, false, a392, .fn s392⟩ := ⟨by kernel_rfl, by kernel_rfl, by show compF Tryd.prog (numOf ns) a392 47 = some s392; kernel_rfl⟩
theorem ok395 : RowOK Tryd.prog ns ⟨395, 48, false, a395, .fn s395⟩ := ⟨by kernel_rfl, by kernel_rfl, by show compF Tryd.prog (numOf ns) a395 48 = some s395; kernel_rfl⟩
theorem ok384 : RowOK Tryd.prog ns ⟨384, 17, false, a384, .fn s384⟩ := ⟨by kernel_rfl, by kernel_rfl, by show compF Tryd.prog (numOf ns) a384 17 = some s384; kernel_rfl⟩
theorem ok434 : RowOK Tryd.prog ns ⟨434, 95, false, a434, .fn s434⟩ := ⟨by kernel_rfl, by kernel_rfl, by show compF Tryd.prog (numOf ns) a434 95 = some s434; kernel_rfl⟩
theorem ok433 : RowOK Tryd.prog ns ⟨433, 82, false, a433, .fn s433⟩ := ⟨by kernel_rfl, by kernel_rfl, by show compF Tryd.prog (numOf ns) a433 82 = some s433; kernel_rfl⟩
theorem ok431 : RowOK Tryd.prog ns ⟨431, 62, false, a431, .fn s431⟩ := ⟨by kernel_rfl, by kernel_rfl, by show compF Tryd.prog (numOf ns) a431 62 = some s431; kernel_rfl⟩
theorem ok460 : RowOK Tryd.prog ns ⟨460, 96, false, a460, .fn s460⟩ := ⟨by kernel_rfl, by kernel_rfl, by show compF Tryd.prog (numOf ns) a460 96 = some s460; kernel_rfl⟩
theorem ok100456 : RowOK Tryd.prog ns ⟨100456, 83, true, a100456, .own s100456⟩ := ⟨by kernel_rfl, by kernel_rfl, by show compF Tryd.prog (numOf ns) a100456 83 = some s100456; kernel_rfl⟩
theorem ok397 : RowOK Tryd.prog ns ⟨397, 84, false, a397, .fn s397⟩ := ⟨by kernel_rfl, by kernel_rfl, by show compF Tryd.prog (numOf ns) a397 84 = some s397; kernel_rfl⟩
theorem ok100396 : RowOK Tryd.prog ns ⟨100396, 63, true, a100396, .own s100396⟩ := ⟨by kernel_rfl, by kernel_rfl, by show compF Tryd.prog (numOf ns) a100396 63 = some s100396; kernel_rfl⟩
theorem ok102 : RowOK Tryd.prog ns ⟨102, 101, false, a102, .fn s102⟩ := ⟨by kernel_rfl, by kernel_rfl, by show compF Tryd.prog (numOf ns) a102 101 = some s102; kernel_rfl⟩
theorem ok442 : RowOK Tryd.prog ns ⟨442, 111, false, a442, .fn s442⟩ := ⟨by kernel_rfl, by kernel_rfl, by show compF Tryd.prog (numOf ns) a442 111 = some s442; kernel_rfl⟩
theorem ok100 : RowOK Tryd.prog ns ⟨100, 110, false, a100, .fn s100⟩ := ⟨by kernel_rfl, by kernel_rfl, by show compF Tryd.prog (numOf ns) a100 110 = some s100; kernel_rfl⟩
theorem ok96 : RowOK Tryd.prog ns ⟨96, 112, false, a96, .fn s96⟩ := ⟨by kernel_rfl, by kernel_rfl, by show compF Tryd.prog (numOf ns) a96 112 = some s96; kernel_rfl⟩
theorem ok101 : RowOK Tryd.prog ns ⟨101, 102, false, a101, .fn s101⟩ := ⟨by kernel_rfl, by kernel_rfl, by show compF Tryd.prog (numOf ns) a101 102 = some s101; kernel_rfl⟩
theorem ok97 : RowOK Tryd.prog ns ⟨97, 103, false, a97, .fn s97⟩ := ⟨by kernel_rfl, by kernel_rfl, by show compF Tryd.prog (numOf ns) a97 103 = some s97; kernel_rfl⟩
theorem ok99 : RowOK Tryd.prog ns ⟨99, 113, false, a99, .fn s99⟩ := ⟨by kernel_rfl, by kernel_rfl, by show compF Tryd.prog (numOf ns) a99 113 = some s99; kernel_rfl⟩
theorem ok447 : RowOK Tryd.prog ns ⟨447, 117, false, a447, .fn s447⟩ := ⟨by kernel_rfl, by kernel_rfl, by show compF Tryd.prog (numOf ns) a447 117 = some s447; kernel_rfl⟩
theorem ok448 : RowOK Tryd.prog ns ⟨448, 118, false, a448, .fn s448⟩ := ⟨by kernel_rfl, by kernel_rfl, by show compF Tryd.prog (numOf ns) a448 118 = some s448; kernel_rfl⟩
theorem ok446 : RowOK Tryd.prog ns ⟨446, 114, false, a446, .fn s446⟩ := ⟨by kernel_rfl, by kernel_rfl, by show compF Tryd.prog (numOf ns) a446 114 = some s446; kernel_rfl⟩
theorem ok98 : RowOK Tryd.prog ns ⟨98, 104, false, a98, .fn s98⟩ := ⟨by kernel_rfl, by kernel_rfl, by show compF Tryd.prog (numOf ns) a98 104 = some s98; kernel_rfl⟩
theorem ok94 : RowOK Tryd.prog ns ⟨94, 89, false, a94, .fn s94⟩ := ⟨by kernel_rfl, by kernel_rfl, by show compF Tryd.prog (numOf ns) a94 89 = some s94; kernel_rfl⟩
theorem ok95 : RowOK Tryd.prog ns ⟨95, 73, false, a95, .fn s95⟩ := ⟨by kernel_rfl, by kernel_rfl, by show compF Tryd.prog (numOf ns) a95 73 = some s95; kernel_rfl⟩
theorem ok466 : RowOK Tryd.prog ns ⟨466, 58, false, a466, .fn s466⟩ := ⟨by kernel_rfl, by kernel_rfl, by show compF Tryd.prog (numOf ns) a466 58 = some s466; kernel_rfl⟩
theorem ok389 : RowOK Tryd.prog ns ⟨389, 64, false, a389, .fn s389⟩ := ⟨by kernel_rfl, by kernel_rfl, by show compF Tryd.prog (numOf ns) a389 64 = some s389; kernel_rfl⟩
theorem ok388 : RowOK Tryd.prog ns ⟨388, 39, false, a388, .fn s388⟩ := ⟨by kernel_rfl, by kernel_rfl, by show compF Tryd.prog (numOf ns) a388 39 = some s388; kernel_rfl⟩
theorem ok383 : RowOK Tryd.prog ns ⟨383, 11, false, a383, .fn s383⟩ := ⟨by kernel_rfl, by kernel_rfl, by show compF Tryd.prog (numOf ns) a383 11 = some s383; kernel_rfl⟩
theorem ok381 : RowOK Tryd.prog ns ⟨381, 12, false, a381, .fn s381⟩ := ⟨by kernel_rfl, by kernel_rfl, by show compF Tryd.prog (numOf ns) a381 12 = some s381; kernel_rfl⟩
theorem ok386 : RowOK Tryd.prog ns ⟨386, 13, true, a386, .fn s386⟩ := ⟨by kernel_rfl, by kernel_rfl, by show compF Tryd.prog (numOf ns) a386 13 = some s386; kernel_rfl⟩
theorem ok385 : RowOK Tryd.prog ns ⟨385, 14, false, a385, .fn s385⟩ := ⟨by kernel_rfl, by kernel_rfl, by show compF Tryd.prog (numOf ns) a385 14 = some s385; kernel_rfl⟩
theorem ok240 : RowOK Tryd.prog ns ⟨240, 3, false, a240, .fn s240⟩ := ⟨by kernel_rfl, by kernel_rfl, by show compF Tryd.prog (numOf ns) a240 3 = some s240; kernel_rfl⟩
theorem ok469 : RowOK Tryd.prog ns ⟨469, 65, false, ⟨[], [], []⟩, .ext ixbM⟩ := ⟨by kernel_rfl, by kernel_rfl, ixb_sound Tryd.strings_IndexByte⟩
theorem ok471 : RowOK Tryd.prog ns ⟨471, 85, false, ⟨[], [], []⟩, .ext joinM⟩ := ⟨by kernel_rfl, by kernel_rfl, join_sound Tryd.strings_Join_none Tryd.strings_Join⟩
theorem tabOK : ∀ r, r ∈ tab → RowOK Tryd.prog ns r := by
  intro r hr
  simp only [tab, List.mem_cons, List.not_mem_nil, or_false] at hr
  rcases hr with rfl | rfl | rfl | rfl | rfl | rfl | rfl | rfl | rfl | rfl | rfl | rfl | rfl | rfl | rfl | rfl | rfl | rfl | rfl | rfl | rfl | rfl | rfl | rfl | rfl | rfl | rfl | rfl | rfl | rfl | rfl | rfl | rfl | rfl | rfl | rfl | rfl | rfl | rfl | rfl | rfl | rfl | rfl | rfl
  · exact ok457
  · exact ok450
  · exact ok382
  · exact ok387
  · exact ok398
  · exact ok390
  · exact ok394
  · exact ok391
  · exact ok461
  · exact ok453
  · exact ok393
  · exact ok392
  · exact ok395
  · exact ok384
  · exact ok434
  · exact ok433
  · exact ok431
  · exact ok460
  · exact ok100456
  · exact ok397
  · exact ok100396
  · exact ok102
  · exact ok442
  · exact ok100
  · exact ok96
  · exact ok101
  · exact ok97
  · exact ok99
  · exact ok447
  · exact ok448
  · exact ok446
  · exact ok98
  · exact ok94
  · exact ok95
  · exact ok466
  · exact ok389
  · exact ok388
  · exact ok383
  · exact ok381
  · exact ok386
  · exact ok385
  · exact ok240
  · exact ok469
  · exact ok471
theorem mix : Tryd.prog.follows .mixedOrders = true := by kernel_rfl
theorem sound240 : SoundFn Tryd.prog (fidOf ns) 3 (evFun (clOf (modsR tab 14) 3) s240) :=
  fun_sound (num_fid nsND) mix (tab_sound nsND mix tabOK 14) 3 ok240.2.2
end Go.Proofs.YtbpaojgkkggcgabDoor.LgTSeqRuns
