import Derived.Test.YtbpaojgkkggcgaaRows
import Derived.Test.YtbpaojgkkggcgaaLgW1
import Derived.RowKit
/-
  The seat's functions, as this work's tool printed them.
-/
namespace Go.Proofs.Ytbpaojgkkggcgaa.LgTDialectRuns
open Go Lg
set_option maxRecDepth 100000
def a134 : Ann := ⟨[], [⟨false, 0, false⟩], []⟩
def s134 : SFun := ⟨1, 9, [], [(.tmp 2, ⟨false, 0, false⟩)],
 (.seq (.reg [⟨(some 2), .mv (.k (D.bool false)), none⟩])
 (.seq (.reg [⟨(some 3), .mv (.t 0), none⟩,
  ⟨(some 4), .bin .geq (.t 3) (.k (D.int .i64 (1))), none⟩,
  ⟨(some 5), .mv (.t 4), none⟩,
  ⟨(some 6), .mv (.t 0), (some (5, true))⟩,
  ⟨(some 7), .bin .leq (.t 6) (.k (D.int .i64 (3))), (some (5, true))⟩,
  ⟨(some 8), .pick (.t 5) (.t 7) (.k (D.bool false)), none⟩,
  ⟨(some 2), .mv (.t 8), none⟩])
 .ret))⟩
def a136 : Ann := ⟨[], [⟨true, 4, false⟩], []⟩
def s136 : SFun := ⟨1, 29, [], [(.tmp 2, ⟨true, 4, false⟩)],
 (.seq (.reg [⟨(some 2), .mv (.k .sn), none⟩])
 (.seq (.reg [⟨(some 4), .build [(D.int .i64 (0)), (D.int .u8 (0)), (D.int .u8 (0)), (D.str [])] [(0, 1, (.k (D.int .i64 (1)))), (3, 1, (.k (D.str [32])))], none⟩,
  ⟨(some 5), .build [(D.int .i64 (0)), (D.int .u8 (0)), (D.int .u8 (0)), (D.str [])] [(0, 1, (.k (D.int .i64 (2)))), (3, 1, (.k (D.str [7, 8, 9, 10, 13])))], none⟩,
  ⟨(some 6), .bsl true 4 2 [(D.int .i64 (0)), (D.int .u8 (0)), (D.int .u8 (0)), (D.str [])] [(0, (.t 4)), (1, (.t 5))], none⟩,
  ⟨(some 3), .mv (.t 6), none⟩])
 (.seq (.seq (.reg [⟨(some 7), .mv (.t 0), none⟩,
  ⟨(some 8), .bin .eql (.t 7) (.k (D.int .i64 (3))), none⟩])
 (.cond (.t 8)
 (.seq (.reg [⟨(some 9), .mv (.t 3), none⟩,
  ⟨(some 10), .build [(D.int .i64 (0)), (D.int .u8 (0)), (D.int .u8 (0)), (D.str [])] [(0, 1, (.k (D.int .i64 (3)))), (3, 1, (.k (D.str [65, 66, 67, 68, 72, 73, 74, 75, 89])))], none⟩,
  ⟨(some 11), .bsl false 4 1 [(D.int .i64 (0)), (D.int .u8 (0)), (D.int .u8 (0)), (D.str [])] [(0, (.t 10))], none⟩,
  ⟨(some 12), .append 4 32 (.t 9) (.t 11), none⟩,
  ⟨(some 2), .mv (.t 12), none⟩])
 .ret)
 .skip))
 (.seq (.reg [⟨(some 13), .mv (.t 3), none⟩,
  ⟨(some 14), .build [(D.int .i64 (0)), (D.int .u8 (0)), (D.int .u8 (0)), (D.str [])] [(0, 1, (.k (D.int .i64 (2)))), (3, 1, (.k (D.str [14, 15])))], none⟩,
  ⟨(some 15), .build [(D.int .i64 (0)), (D.int .u8 (0)), (D.int .u8 (0)), (D.str [])] [(0, 1, (.k (D.int .i64 (3)))), (3, 1, (.k (D.str [55, 56, 68, 69, 77, 72, 99, 61, 62])))], none⟩,
  ⟨(some 16), .build [(D.int .i64 (0)), (D.int .u8 (0)), (D.int .u8 (0)), (D.str [])] [(0, 1, (.k (D.int .i64 (3)))), (2, 1, (.k (D.int .u8 (40)))), (3, 1, (.k (D.str [48, 66])))], none⟩,
  ⟨(some 17), .build [(D.int .i64 (0)), (D.int .u8 (0)), (D.int .u8 (0)), (D.str [])] [(0, 1, (.k (D.int .i64 (3)))), (2, 1, (.k (D.int .u8 (41)))), (3, 1, (.k (D.str [48, 66])))], none⟩,
  ⟨(some 18), .build [(D.int .i64 (0)), (D.int .u8 (0)), (D.int .u8 (0)), (D.str [])] [(0, 1, (.k (D.int .i64 (4)))), (3, 1, (.k (D.str [65, 66, 67, 68, 72, 102, 74, 75, 109, 114, 103])))], none⟩,
  ⟨(some 19), .build [(D.int .i64 (0)), (D.int .u8 (0)), (D.int .u8 (0)), (D.str [])] [(0, 1, (.k (D.int .i64 (4)))), (1, 1, (.k (D.int .u8 (63)))), (3, 1, (.k (D.str [104, 108])))], none⟩,
  ⟨(some 20), .bsl false 4 6 [(D.int .i64 (0)), (D.int .u8 (0)), (D.int .u8 (0)), (D.str [])] [(0, (.t 14)), (1, (.t 15)), (2, (.t 16)), (3, (.t 17)), (4, (.t 18)), (5, (.t 19))], none⟩,
  ⟨(some 21), .append 4 32 (.t 13) (.t 20), none⟩,
  ⟨(some 3), .mv (.t 21), none⟩])
 (.seq (.seq (.reg [⟨(some 22), .mv (.t 0), none⟩,
  ⟨(some 23), .bin .eql (.t 22) (.k (D.int .i64 (2))), none⟩])
 (.cond (.t 23)
 (.reg [⟨(some 24), .mv (.t 3), none⟩,
  ⟨(some 25), .build [(D.int .i64 (0)), (D.int .u8 (0)), (D.int .u8 (0)), (D.str [])] [(0, 1, (.k (D.int .i64 (4)))), (3, 1, (.k (D.str [71, 100, 69, 70, 64, 80, 76, 77, 88])))], none⟩,
  ⟨(some 26), .bsl false 4 1 [(D.int .i64 (0)), (D.int .u8 (0)), (D.int .u8 (0)), (D.str [])] [(0, (.t 25))], none⟩,
  ⟨(some 27), .append 4 32 (.t 24) (.t 26), none⟩,
  ⟨(some 3), .mv (.t 27), none⟩])
 .skip))
 (.seq (.reg [⟨(some 28), .mv (.t 3), none⟩,
  ⟨(some 2), .mv (.t 28), none⟩])
 .ret))))))⟩
def a135 : Ann := ⟨[(5, [(0, ⟨false, 0, false⟩), (13, ⟨false, 0, false⟩), (14, ⟨false, 0, false⟩), (15, ⟨false, 0, false⟩), (3, ⟨true, 0, false⟩)]), (8, [(0, ⟨false, 0, false⟩), (13, ⟨false, 0, false⟩), (14, ⟨false, 0, false⟩), (15, ⟨false, 0, false⟩), (21, ⟨false, 0, false⟩), (22, ⟨false, 0, false⟩), (3, ⟨true, 0, false⟩), (5, ⟨true, 0, false⟩)])], [⟨true, 0, false⟩], []⟩
def s135 : SFun := ⟨1, 41, [], [(.tmp 2, ⟨true, 0, false⟩)],
 (.seq (.reg [⟨(some 2), .mv (.k .uk), none⟩])
 (.seq (.reg [⟨(some 7), .mkm, none⟩,
  ⟨(some 3), .mv (.t 7), none⟩])
 (.seq (.seq (.reg [⟨(some 8), .mv (.t 0), none⟩,
  ⟨(some 9), .call false 134 [(.t 8)], none⟩,
  ⟨(some 10), .una .not (.t 9), none⟩])
 (.cond (.t 10)
 (.seq (.reg [⟨(some 11), .mv (.t 3), none⟩,
  ⟨(some 2), .mv (.t 11), none⟩])
 .ret)
 .skip))
 (.seq (.seq (.reg [⟨(some 12), .mv (.t 0), none⟩,
  ⟨(some 13), .call false 136 [(.t 12)], none⟩,
  ⟨(some 14), .len (.t 13), none⟩,
  ⟨(some 15), .mv (.k (D.int .i64 (0))), none⟩])
 (.block 0 (.loop [(0, ⟨false, 0, false⟩), (13, ⟨false, 0, false⟩), (14, ⟨false, 0, false⟩), (15, ⟨false, 0, false⟩), (3, ⟨true, 0, false⟩)]
 (.seq (.reg [⟨(some 16), .bin .lss (.t 15) (.t 14), none⟩])
 (.seq (.cond (.t 16)
 .skip
 (.exit 0))
 (.seq (.block 1 (.seq (.reg [⟨(some 17), .ixs 4 (.t 13) (.t 15), none⟩,
  ⟨(some 18), .load true 4 (.t 17), none⟩,
  ⟨(some 5), .alloc [(D.int .i64 (0)), (D.int .u8 (0)), (D.int .u8 (0)), (D.str [])], none⟩,
  ⟨none, .store 4 (.t 5) (.t 18), none⟩])
 (.seq (.reg [⟨(some 19), .fad 3 (.t 5), none⟩,
  ⟨(some 20), .load false 1 (.t 19), none⟩,
  ⟨(some 21), .lens (.t 20), none⟩,
  ⟨(some 22), .mv (.k (D.int .i64 (0))), none⟩])
 (.block 2 (.loop [(0, ⟨false, 0, false⟩), (13, ⟨false, 0, false⟩), (14, ⟨false, 0, false⟩), (15, ⟨false, 0, false⟩), (21, ⟨false, 0, false⟩), (22, ⟨false, 0, false⟩), (3, ⟨true, 0, false⟩), (5, ⟨true, 0, false⟩)]
 (.seq (.reg [⟨(some 23), .bin .lss (.t 22) (.t 21), none⟩])
 (.seq (.cond (.t 23)
 .skip
 (.exit 2))
 (.seq (.block 3 (.seq (.reg [⟨(some 24), .mv (.t 22), none⟩,
  ⟨(some 6), .mv (.t 24), none⟩])
 (.dreg [([], false, ⟨(some 25), .mv (.t 3), none⟩),
  ([0], false, ⟨(some 26), .mv (.t 0), none⟩),
  ([0, 1], false, ⟨(some 27), .fad 0 (.t 5), none⟩),
  ([0, 1], false, ⟨(some 28), .load false 1 (.t 27), none⟩),
  ([0, 1, 2, 3], false, ⟨(some 29), .fad 1 (.t 5), none⟩),
  ([0, 1, 2, 3], false, ⟨(some 30), .load false 1 (.t 29), none⟩),
  ([0, 1, 2, 3, 4, 5], false, ⟨(some 31), .fad 2 (.t 5), none⟩),
  ([0, 1, 2, 3, 4, 5], false, ⟨(some 32), .load false 1 (.t 31), none⟩),
  ([0, 1, 2, 3, 4, 5, 6, 7], false, ⟨(some 33), .fad 3 (.t 5), none⟩),
  ([0, 1, 2, 3, 4, 5, 6, 7], false, ⟨(some 34), .load false 1 (.t 33), none⟩),
  ([0, 1, 2, 3, 4, 5, 6, 7, 8, 9], false, ⟨(some 35), .mv (.t 6), none⟩),
  ([0, 1, 2, 3, 4, 5, 6, 7], false, ⟨(some 36), .ixt (.t 34) (.t 35), none⟩),
  ([0], false, ⟨(some 37), .build [(D.int .i64 (0)), (D.int .i64 (0)), (D.int .u8 (0)), (D.int .u8 (0)), (D.int .u8 (0))] [(0, 1, (.t 26)), (1, 1, (.t 28)), (2, 1, (.t 30)), (3, 1, (.t 32)), (4, 1, (.t 36))], none⟩),
  ([], true, ⟨none, .mup true [1, 1, 1, 1, 1] (.t 25) (.t 37) (.k (D.bool true)), none⟩)])))
 (.reg [⟨(some 38), .bin .add (.t 22) (.k (D.int .i64 (1))), none⟩,
  ⟨(some 22), .mv (.t 38), none⟩])))))))))
 (.reg [⟨(some 39), .bin .add (.t 15) (.k (D.int .i64 (1))), none⟩,
  ⟨(some 15), .mv (.t 39), none⟩])))))))
 (.seq (.reg [⟨(some 40), .mv (.t 3), none⟩,
  ⟨(some 2), .mv (.t 40), none⟩])
 .ret)))))⟩
def a133 : Ann := ⟨[], [⟨false, 0, false⟩], []⟩
def s133 : SFun := ⟨2, 30, [], [(.cell 4 true 5, ⟨false, 0, false⟩)],
 (.seq (.reg [⟨(some 3), .box 7 (.t 1), none⟩,
  ⟨(some 4), .alloc [(D.int .i64 (0)), (D.int .i64 (0)), (D.int .u8 (0)), (D.int .u8 (0)), (D.int .u8 (0))], none⟩])
 (.seq (.reg [⟨(some 6), .mv (.t 0), none⟩,
  ⟨(some 7), .fad 0 (.t 3), none⟩,
  ⟨(some 8), .load false 1 (.t 7), none⟩,
  ⟨(some 9), .fad 2 (.t 3), none⟩,
  ⟨(some 10), .load false 1 (.t 9), none⟩,
  ⟨(some 11), .fad 3 (.t 3), none⟩,
  ⟨(some 12), .load false 1 (.t 11), none⟩,
  ⟨(some 13), .fad 4 (.t 3), none⟩,
  ⟨(some 14), .load false 1 (.t 13), none⟩,
  ⟨(some 15), .build [(D.int .i64 (0)), (D.int .i64 (0)), (D.int .u8 (0)), (D.int .u8 (0)), (D.int .u8 (0))] [(0, 1, (.t 6)), (1, 1, (.t 8)), (2, 1, (.t 10)), (3, 1, (.t 12)), (4, 1, (.t 14))], none⟩,
  ⟨(some 5), .alloc [(D.int .i64 (0)), (D.int .i64 (0)), (D.int .u8 (0)), (D.int .u8 (0)), (D.int .u8 (0))], none⟩,
  ⟨none, .store 5 (.t 5) (.t 15), none⟩])
 (.seq (.seq (.reg [⟨(some 16), .fad 0 (.t 3), none⟩,
  ⟨(some 17), .load false 1 (.t 16), none⟩,
  ⟨(some 18), .bin .eql (.t 17) (.k (D.int .i64 (1))), none⟩])
 (.cond (.t 18)
 (.seq (.reg [⟨(some 19), .fad 4 (.t 5), none⟩,
  ⟨none, .store 1 (.t 19) (.k (D.int .u8 (127))), none⟩])
 (.seq (.reg [⟨(some 20), .fad 1 (.t 3), none⟩,
  ⟨(some 21), .load false 1 (.t 20), none⟩,
  ⟨(some 22), .bin .geq (.t 21) (.k (D.int .i32 (32))), none⟩,
  ⟨(some 23), .mv (.t 22), none⟩,
  ⟨(some 24), .fad 1 (.t 3), (some (23, true))⟩,
  ⟨(some 25), .load false 1 (.t 24), (some (23, true))⟩,
  ⟨(some 26), .bin .leq (.t 25) (.k (D.int .i32 (126))), (some (23, true))⟩,
  ⟨(some 27), .pick (.t 23) (.t 26) (.k (D.bool false)), none⟩])
 (.cond (.t 27)
 (.reg [⟨(some 28), .fad 4 (.t 5), none⟩,
  ⟨none, .store 1 (.t 28) (.k (D.int .u8 (32))), none⟩])
 .skip)))
 .skip))
 (.seq (.reg [⟨(some 29), .load true 5 (.t 5), none⟩,
  ⟨none, .store 5 (.t 4) (.t 29), none⟩])
 .ret))))⟩
def a132 : Ann := ⟨[], [⟨false, 0, false⟩], []⟩
def s132 : SFun := ⟨2, 11, [], [(.tmp 4, ⟨false, 0, false⟩)],
 (.seq (.reg [⟨(some 3), .box 7 (.t 1), none⟩,
  ⟨(some 4), .mv (.k (D.bool false)), none⟩])
 (.seq (.dreg [([], false, ⟨(some 5), .mv (.t 0), none⟩),
  ([], false, ⟨(some 6), .call false 135 [(.t 5)], none⟩),
  ([0, 1], false, ⟨(some 7), .mv (.t 0), none⟩),
  ([0, 1, 2], false, ⟨(some 8), .load true 7 (.t 3), none⟩),
  ([], true, ⟨(some 9), .call false 133 [(.t 7), (.t 8)], none⟩),
  ([], true, ⟨(some 10), .lkp false true [1, 1, 1, 1, 1] (D.bool false) (.t 6) (.t 9), none⟩),
  ([], true, ⟨(some 4), .mv (.t 10), none⟩)])
 .ret))⟩
def a131 : Ann := ⟨[], [⟨true, 1, false⟩], []⟩
def s131 : SFun := ⟨0, 2, [], [(.tmp 0, ⟨true, 1, false⟩)],
 (.seq (.reg [⟨(some 0), .mv (.k .sn), none⟩])
 (.seq (.reg [⟨(some 1), .bsl true 1 3 [(D.int .i64 (0))] [(0, (.k (D.int .i64 (1)))), (1, (.k (D.int .i64 (2)))), (2, (.k (D.int .i64 (3))))], none⟩,
  ⟨(some 0), .mv (.t 1), none⟩])
 .ret))⟩
def a172 : Ann := ⟨[(4, [(0, ⟨false, 0, false⟩), (1, ⟨false, 0, false⟩), (4, ⟨false, 0, false⟩), (5, ⟨false, 0, false⟩)])], [⟨false, 0, false⟩], []⟩
def s172 : SFun := ⟨2, 26, [], [(.tmp 4, ⟨false, 0, false⟩)],
 (.seq (.reg [⟨(some 4), .mv (.k (D.bool false)), none⟩])
 (.seq (.seq (.reg [⟨(some 6), .mv (.t 0), none⟩,
  ⟨(some 7), .len (.t 6), none⟩,
  ⟨(some 8), .mv (.t 1), none⟩,
  ⟨(some 9), .len (.t 8), none⟩,
  ⟨(some 10), .bin .neq (.t 7) (.t 9), none⟩])
 (.cond (.t 10)
 (.seq (.reg [⟨(some 4), .mv (.k (D.bool false)), none⟩])
 .ret)
 .skip))
 (.seq (.seq (.reg [⟨(some 5), .mv (.k (D.int .i64 (0))), none⟩])
 (.block 0 (.loop [(0, ⟨false, 0, false⟩), (1, ⟨false, 0, false⟩), (4, ⟨false, 0, false⟩), (5, ⟨false, 0, false⟩)]
 (.seq (.seq (.reg [⟨(some 11), .mv (.t 5), none⟩,
  ⟨(some 12), .mv (.t 0), none⟩,
  ⟨(some 13), .len (.t 12), none⟩,
  ⟨(some 14), .bin .lss (.t 11) (.t 13), none⟩])
 (.cond (.t 14)
 .skip
 (.exit 0)))
 (.seq (.block 1 (.seq (.dreg [([], false, ⟨(some 17), .mv (.t 0), none⟩),
  ([0], false, ⟨(some 18), .mv (.t 5), none⟩),
  ([], false, ⟨(some 19), .ixs 1 (.t 17) (.t 18), none⟩),
  ([], false, ⟨(some 20), .load false 1 (.t 19), none⟩),
  ([0, 1, 2, 3], false, ⟨(some 21), .mv (.t 1), none⟩),
  ([0, 1, 2, 3, 4], false, ⟨(some 22), .mv (.t 5), none⟩),
  ([0, 1, 2, 3], false, ⟨(some 23), .ixs 1 (.t 21) (.t 22), none⟩),
  ([0, 1, 2, 3], false, ⟨(some 24), .load false 1 (.t 23), none⟩),
  ([], true, ⟨(some 25), .bin .neq (.t 20) (.t 24), none⟩)])
 (.cond (.t 25)
 (.seq (.reg [⟨(some 4), .mv (.k (D.bool false)), none⟩])
 .ret)
 .skip)))
 (.reg [⟨(some 15), .mv (.t 5), none⟩,
  ⟨(some 16), .bin .add (.t 15) (.k (D.int .i64 (1))), none⟩,
  ⟨(some 5), .mv (.t 16), none⟩]))))))
 (.seq (.reg [⟨(some 4), .mv (.k (D.bool true)), none⟩])
 .ret))))⟩
def a202 : Ann := ⟨[], [⟨false, 0, false⟩], []⟩
def s202 : SFun := ⟨0, 30, [], [(.tmp 0, ⟨false, 0, false⟩)],
 (.seq (.reg [⟨(some 0), .mv (.k (D.bool false)), none⟩])
 (.seq (.reg [⟨(some 3), .build [(D.int .i64 (0)), (D.int .i32 (0)), (D.int .u8 (0)), (D.int .u8 (0)), (D.int .u8 (0)), .sn, (D.str [])] [(0, 1, (.k (D.int .i64 (4)))), (4, 1, (.k (D.int .u8 (72))))], none⟩,
  ⟨(some 4), .build [(D.int .i64 (0)), (D.int .i32 (0)), (D.int .u8 (0)), (D.int .u8 (0)), (D.int .u8 (0)), .sn, (D.str [])] [(0, 1, (.k (D.int .i64 (4)))), (4, 1, (.k (D.int .u8 (80))))], none⟩,
  ⟨(some 1), .alloc [(D.int .i64 (0)), (D.int .i32 (0)), (D.int .u8 (0)), (D.int .u8 (0)), (D.int .u8 (0)), .sn, (D.str [])], none⟩,
  ⟨(some 2), .alloc [(D.int .i64 (0)), (D.int .i32 (0)), (D.int .u8 (0)), (D.int .u8 (0)), (D.int .u8 (0)), .sn, (D.str [])], none⟩,
  ⟨none, .store 7 (.t 1) (.t 3), none⟩,
  ⟨none, .store 7 (.t 2) (.t 4), none⟩])
 (.seq (.reg [⟨(some 5), .load true 7 (.t 1), none⟩,
  ⟨(some 6), .call false 132 [(.k (D.int .i64 (1))), (.t 5)], none⟩,
  ⟨(some 7), .mv (.t 6), none⟩,
  ⟨(some 8), .load true 7 (.t 2), (some (7, true))⟩,
  ⟨(some 9), .call false 132 [(.k (D.int .i64 (1))), (.t 8)], (some (7, true))⟩,
  ⟨(some 10), .una .not (.t 9), (some (7, true))⟩,
  ⟨(some 11), .pick (.t 7) (.t 10) (.k (D.bool false)), none⟩,
  ⟨(some 12), .mv (.t 11), none⟩,
  ⟨(some 13), .load true 7 (.t 2), (some (12, true))⟩,
  ⟨(some 14), .call false 132 [(.k (D.int .i64 (2))), (.t 13)], (some (12, true))⟩,
  ⟨(some 15), .pick (.t 12) (.t 14) (.k (D.bool false)), none⟩,
  ⟨(some 16), .mv (.t 15), none⟩,
  ⟨(some 17), .build [(D.int .i64 (0)), (D.int .i32 (0)), (D.int .u8 (0)), (D.int .u8 (0)), (D.int .u8 (0)), .sn, (D.str [])] [(0, 1, (.k (D.int .i64 (3)))), (4, 1, (.k (D.int .u8 (72))))], (some (16, true))⟩,
  ⟨(some 18), .call false 132 [(.k (D.int .i64 (3))), (.t 17)], (some (16, true))⟩,
  ⟨(some 19), .pick (.t 16) (.t 18) (.k (D.bool false)), none⟩,
  ⟨(some 20), .mv (.t 19), none⟩,
  ⟨(some 21), .load true 7 (.t 1), (some (20, true))⟩,
  ⟨(some 22), .call false 132 [(.k (D.int .i64 (3))), (.t 21)], (some (20, true))⟩,
  ⟨(some 23), .una .not (.t 22), (some (20, true))⟩,
  ⟨(some 24), .pick (.t 20) (.t 23) (.k (D.bool false)), none⟩,
  ⟨(some 25), .mv (.t 24), none⟩,
  ⟨(some 26), .call false 131 [], (some (25, true))⟩,
  ⟨(some 27), .bsl false 1 3 [(D.int .i64 (0))] [(0, (.k (D.int .i64 (1)))), (1, (.k (D.int .i64 (2)))), (2, (.k (D.int .i64 (3))))], (some (25, true))⟩,
  ⟨(some 28), .call false 172 [(.t 26), (.t 27)], (some (25, true))⟩,
  ⟨(some 29), .pick (.t 25) (.t 28) (.k (D.bool false)), none⟩,
  ⟨(some 0), .mv (.t 29), none⟩])
 .ret)))⟩
def ns : List Nat := [441, 86, 87, 202, 204, 203, 201, 184, 186, 185, 183, 182, 132, 172, 131, 63, 174, 133, 260, 134, 135, 340, 290, 342, 341, 170, 65, 281, 169, 275, 136, 107, 343, 346, 345, 347, 180, 316, 348, 344, 299, 78, 79, 82, 83, 84, 85, 80, 81, 49, 50, 47, 48, 0, 60, 61, 59]
theorem nsND : ns.Nodup := by decide +kernel
def tab : List Row := [⟨134, 19, false, a134, .fn s134⟩, ⟨136, 30, false, a136, .fn s136⟩, ⟨135, 20, true, a135, .fn s135⟩, ⟨133, 17, false, a133, .fn s133⟩, ⟨132, 12, false, a132, .fn s132⟩, ⟨131, 14, false, a131, .fn s131⟩, ⟨172, 13, false, a172, .fn s172⟩, ⟨202, 3, false, a202, .fn s202⟩]
theorem ok134 : RowOK Try.prog ns ⟨134, 19, false, a134, .fn s134⟩ := ⟨by kernel_rfl, by kernel_rfl, by show compF Try.prog (numOf ns) a134 19 = some s134; kernel_rfl⟩
theorem ok136 : RowOK Try.prog ns ⟨136, 30, false, a136, .fn s136⟩ := ⟨by kernel_rfl, by kernel_rfl, by show compF Try.prog (numOf ns) a136 30 = some s136; kernel_rfl⟩
theorem ok135 : RowOK Try.prog ns ⟨135, 20, true, a135, .fn s135⟩ := ⟨by kernel_rfl, by kernel_rfl, by show compF Try.prog (numOf ns) a135 20 = some s135; kernel_rfl⟩
theorem ok133 : RowOK Try.prog ns ⟨133, 17, false, a133, .fn s133⟩ := ⟨by kernel_rfl, by kernel_rfl, by show compF Try.prog (numOf ns) a133 17 = some s133; kernel_rfl⟩
theorem ok132 : RowOK Try.prog ns ⟨132, 12, false, a132, .fn s132⟩ := ⟨by kernel_rfl, by kernel_rfl, by show compF Try.prog (numOf ns) a132 12 = some s132; kernel_rfl⟩
theorem ok131 : RowOK Try.prog ns ⟨131, 14, false, a131, .fn s131⟩ := ⟨by kernel_rfl, by kernel_rfl, by show compF Try.prog (numOf ns) a131 14 = some s131; kernel_rfl⟩
theorem ok172 : RowOK Try.prog ns ⟨172, 13, false, a172, .fn s172⟩ := ⟨by kernel_rfl, by kernel_rfl, by show compF Try.prog (numOf ns) a172 13 = some s172; kernel_rfl⟩
theorem ok202 : RowOK Try.prog ns ⟨202, 3, false, a202, .fn s202⟩ := ⟨by kernel_rfl, by kernel_rfl, by show compF Try.prog (numOf ns) a202 3 = some s202; kernel_rfl⟩
theorem tabOK : ∀ r, r ∈ tab → RowOK Try.prog ns r := by
  intro r hr
  simp only [tab, List.mem_cons, List.not_mem_nil, or_false] at hr
  rcases hr with rfl | rfl | rfl | rfl | rfl | rfl | rfl | rfl
  · exact ok134
  · exact ok136
  · exact ok135
  · exact ok133
  · exact ok132
  · exact ok131
  · exact ok172
  · exact ok202
theorem mix : Try.prog.follows .mixedOrders = true := by kernel_rfl
theorem sound202 : SoundFn Try.prog (fidOf ns) 3 (evFun (clOf (modsR tab 14) 3) s202) :=
  fun_sound (num_fid nsND) mix (tab_sound nsND mix tabOK 14) 3 ok202.2.2
end Go.Proofs.Ytbpaojgkkggcgaa.LgTDialectRuns
