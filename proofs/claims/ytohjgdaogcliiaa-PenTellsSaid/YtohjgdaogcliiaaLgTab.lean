import Derived.Test.YtohjgdaogcliiaaRows
import Derived.Test.YtohjgdaogcliiaaLgW1
import Derived.RowKit
/-
  The seat's functions, as this work's tool printed them.
-/
namespace Go.Proofs.Ytohjgdaogcliiaa.LgTab
open Go Lg
set_option maxRecDepth 100000
def a174 : Ann := ⟨[], [⟨false, 0, false⟩], []⟩
def s174 : SFun := ⟨3, 24, [], [(.tmp 6, ⟨false, 0, false⟩)],
 (.seq (.reg [⟨(some 6), .mv (.k (D.int .i64 (0))), none⟩])
 (.seq (.reg [⟨(some 7), .mv (.t 0), none⟩,
  ⟨(some 8), .mv (.t 2), none⟩,
  ⟨(some 9), .mv (.t 1), none⟩,
  ⟨(some 10), .bin .sub (.t 8) (.t 9), none⟩,
  ⟨(some 11), .bin .add (.t 10) (.k (D.int .i64 (1))), none⟩,
  ⟨(some 12), .bin .rem (.t 7) (.t 11), none⟩,
  ⟨(some 0), .mv (.t 12), none⟩])
 (.seq (.seq (.reg [⟨(some 13), .mv (.t 0), none⟩,
  ⟨(some 14), .bin .lss (.t 13) (.k (D.int .i64 (0))), none⟩])
 (.cond (.t 14)
 (.reg [⟨(some 15), .mv (.t 0), none⟩,
  ⟨(some 16), .mv (.t 2), none⟩,
  ⟨(some 17), .bin .add (.t 15) (.t 16), none⟩,
  ⟨(some 18), .mv (.t 1), none⟩,
  ⟨(some 19), .bin .sub (.t 17) (.t 18), none⟩,
  ⟨(some 20), .bin .add (.t 19) (.k (D.int .i64 (1))), none⟩,
  ⟨(some 0), .mv (.t 20), none⟩])
 .skip))
 (.seq (.reg [⟨(some 21), .mv (.t 1), none⟩,
  ⟨(some 22), .mv (.t 0), none⟩,
  ⟨(some 23), .bin .add (.t 21) (.t 22), none⟩,
  ⟨(some 6), .mv (.t 23), none⟩])
 .ret))))⟩
def a134 : Ann := ⟨[], [⟨false, 0, false⟩], []⟩
def s134 : SFun := ⟨1, 9, [], [(.tmp 2, ⟨false, 0, false⟩)],
 (.seq (.reg [⟨(some 2), .mv (.k (D.bool false)), none⟩])
 (.seq (.reg [⟨(some 3), .mv (.t 0), none⟩,
  ⟨(some 4), .bin .geq (.t 3) (.k (D.int .i64 (1))), none⟩,
  ⟨(some 5), .mv (.t 4), none⟩,
  ⟨(some 6), .mv (.t 0), (some (5, true))⟩,
  ⟨(some 7), .bin .leq (.t 6) (.k (D.int .i64 (3))), (some (5, true))⟩,
  ⟨(some 8), .pick (.t 5) (.t 7) (.k (D.bool false)), none⟩,
  ⟨(some 2), .mv (.t 8), none⟩])
 .ret))⟩
def a136 : Ann := ⟨[], [⟨true, 4, false⟩], []⟩
def s136 : SFun := ⟨1, 29, [], [(.tmp 2, ⟨true, 4, false⟩)],
 (.seq (.reg [⟨(some 2), .mv (.k .sn), none⟩])
 (.seq (.reg [⟨(some 4), .build [(D.int .i64 (0)), (D.int .u8 (0)), (D.int .u8 (0)), (D.str [])] [(0, 1, (.k (D.int .i64 (1)))), (3, 1, (.k (D.str [32])))], none⟩,
  ⟨(some 5), .build [(D.int .i64 (0)), (D.int .u8 (0)), (D.int .u8 (0)), (D.str [])] [(0, 1, (.k (D.int .i64 (2)))), (3, 1, (.k (D.str [7, 8, 9, 10, 13])))], none⟩,
  ⟨(some 6), .bsl true 4 2 [(D.int .i64 (0)), (D.int .u8 (0)), (D.int .u8 (0)), (D.str [])] [(0, (.t 4)), (1, (.t 5))], none⟩,
  ⟨(some 3), .mv (.t 6), none⟩])
 (.seq (.seq (.reg [⟨(some 7), .mv (.t 0), none⟩,
  ⟨(some 8), .bin .eql (.t 7) (.k (D.int .i64 (3))), none⟩])
 (.cond (.t 8)
 (.seq (.reg [⟨(some 9), .mv (.t 3), none⟩,
  ⟨(some 10), .build [(D.int .i64 (0)), (D.int .u8 (0)), (D.int .u8 (0)), (D.str [])] [(0, 1, (.k (D.int .i64 (3)))), (3, 1, (.k (D.str [65, 66, 67, 68, 72, 73, 74, 75, 89])))], none⟩,
  ⟨(some 11), .bsl false 4 1 [(D.int .i64 (0)), (D.int .u8 (0)), (D.int .u8 (0)), (D.str [])] [(0, (.t 10))], none⟩,
  ⟨(some 12), .append 4 32 (.t 9) (.t 11), none⟩,
  ⟨(some 2), .mv (.t 12), none⟩])
 .ret)
 .skip))
 (.seq (.reg [⟨(some 13), .mv (.t 3), none⟩,
  ⟨(some 14), .build [(D.int .i64 (0)), (D.int .u8 (0)), (D.int .u8 (0)), (D.str [])] [(0, 1, (.k (D.int .i64 (2)))), (3, 1, (.k (D.str [14, 15])))], none⟩,
  ⟨(some 15), .build [(D.int .i64 (0)), (D.int .u8 (0)), (D.int .u8 (0)), (D.str [])] [(0, 1, (.k (D.int .i64 (3)))), (3, 1, (.k (D.str [55, 56, 68, 69, 77, 72, 99, 61, 62])))], none⟩,
  ⟨(some 16), .build [(D.int .i64 (0)), (D.int .u8 (0)), (D.int .u8 (0)), (D.str [])] [(0, 1, (.k (D.int .i64 (3)))), (2, 1, (.k (D.int .u8 (40)))), (3, 1, (.k (D.str [48, 66])))], none⟩,
  ⟨(some 17), .build [(D.int .i64 (0)), (D.int .u8 (0)), (D.int .u8 (0)), (D.str [])] [(0, 1, (.k (D.int .i64 (3)))), (2, 1, (.k (D.int .u8 (41)))), (3, 1, (.k (D.str [48, 66])))], none⟩,
  ⟨(some 18), .build [(D.int .i64 (0)), (D.int .u8 (0)), (D.int .u8 (0)), (D.str [])] [(0, 1, (.k (D.int .i64 (4)))), (3, 1, (.k (D.str [65, 66, 67, 68, 72, 102, 74, 75, 109, 114, 103])))], none⟩,
  ⟨(some 19), .build [(D.int .i64 (0)), (D.int .u8 (0)), (D.int .u8 (0)), (D.str [])] [(0, 1, (.k (D.int .i64 (4)))), (1, 1, (.k (D.int .u8 (63)))), (3, 1, (.k (D.str [104, 108])))], none⟩,
  ⟨(some 20), .bsl false 4 6 [(D.int .i64 (0)), (D.int .u8 (0)), (D.int .u8 (0)), (D.str [])] [(0, (.t 14)), (1, (.t 15)), (2, (.t 16)), (3, (.t 17)), (4, (.t 18)), (5, (.t 19))], none⟩,
  ⟨(some 21), .append 4 32 (.t 13) (.t 20), none⟩,
  ⟨(some 3), .mv (.t 21), none⟩])
 (.seq (.seq (.reg [⟨(some 22), .mv (.t 0), none⟩,
  ⟨(some 23), .bin .eql (.t 22) (.k (D.int .i64 (2))), none⟩])
 (.cond (.t 23)
 (.reg [⟨(some 24), .mv (.t 3), none⟩,
  ⟨(some 25), .build [(D.int .i64 (0)), (D.int .u8 (0)), (D.int .u8 (0)), (D.str [])] [(0, 1, (.k (D.int .i64 (4)))), (3, 1, (.k (D.str [71, 100, 69, 70, 64, 80, 76, 77, 88])))], none⟩,
  ⟨(some 26), .bsl false 4 1 [(D.int .i64 (0)), (D.int .u8 (0)), (D.int .u8 (0)), (D.str [])] [(0, (.t 25))], none⟩,
  ⟨(some 27), .append 4 32 (.t 24) (.t 26), none⟩,
  ⟨(some 3), .mv (.t 27), none⟩])
 .skip))
 (.seq (.reg [⟨(some 28), .mv (.t 3), none⟩,
  ⟨(some 2), .mv (.t 28), none⟩])
 .ret))))))⟩
def a135 : Ann := ⟨[(5, [(0, ⟨false, 0, false⟩), (13, ⟨false, 0, false⟩), (14, ⟨false, 0, false⟩), (15, ⟨false, 0, false⟩), (3, ⟨true, 0, false⟩)]), (8, [(0, ⟨false, 0, false⟩), (13, ⟨false, 0, false⟩), (14, ⟨false, 0, false⟩), (15, ⟨false, 0, false⟩), (21, ⟨false, 0, false⟩), (22, ⟨false, 0, false⟩), (3, ⟨true, 0, false⟩), (5, ⟨true, 0, false⟩)])], [⟨true, 0, false⟩], []⟩
def s135 : SFun := ⟨1, 41, [], [(.tmp 2, ⟨true, 0, false⟩)],
 (.seq (.reg [⟨(some 2), .mv (.k .uk), none⟩])
 (.seq (.reg [⟨(some 7), .mkm, none⟩,
  ⟨(some 3), .mv (.t 7), none⟩])
 (.seq (.seq (.reg [⟨(some 8), .mv (.t 0), none⟩,
  ⟨(some 9), .call false 134 [(.t 8)], none⟩,
  ⟨(some 10), .una .not (.t 9), none⟩])
 (.cond (.t 10)
 (.seq (.reg [⟨(some 11), .mv (.t 3), none⟩,
  ⟨(some 2), .mv (.t 11), none⟩])
 .ret)
 .skip))
 (.seq (.seq (.reg [⟨(some 12), .mv (.t 0), none⟩,
  ⟨(some 13), .call false 136 [(.t 12)], none⟩,
  ⟨(some 14), .len (.t 13), none⟩,
  ⟨(some 15), .mv (.k (D.int .i64 (0))), none⟩])
 (.block 0 (.loop [(0, ⟨false, 0, false⟩), (13, ⟨false, 0, false⟩), (14, ⟨false, 0, false⟩), (15, ⟨false, 0, false⟩), (3, ⟨true, 0, false⟩)]
 (.seq (.reg [⟨(some 16), .bin .lss (.t 15) (.t 14), none⟩])
 (.seq (.cond (.t 16)
 .skip
 (.exit 0))
 (.seq (.block 1 (.seq (.reg [⟨(some 17), .ixs 4 (.t 13) (.t 15), none⟩,
  ⟨(some 18), .load true 4 (.t 17), none⟩,
  ⟨(some 5), .alloc [(D.int .i64 (0)), (D.int .u8 (0)), (D.int .u8 (0)), (D.str [])], none⟩,
  ⟨none, .store 4 (.t 5) (.t 18), none⟩])
 (.seq (.reg [⟨(some 19), .fad 3 (.t 5), none⟩,
  ⟨(some 20), .load false 1 (.t 19), none⟩,
  ⟨(some 21), .lens (.t 20), none⟩,
  ⟨(some 22), .mv (.k (D.int .i64 (0))), none⟩])
 (.block 2 (.loop [(0, ⟨false, 0, false⟩), (13, ⟨false, 0, false⟩), (14, ⟨false, 0, false⟩), (15, ⟨false, 0, false⟩), (21, ⟨false, 0, false⟩), (22, ⟨false, 0, false⟩), (3, ⟨true, 0, false⟩), (5, ⟨true, 0, false⟩)]
 (.seq (.reg [⟨(some 23), .bin .lss (.t 22) (.t 21), none⟩])
 (.seq (.cond (.t 23)
 .skip
 (.exit 2))
 (.seq (.block 3 (.seq (.reg [⟨(some 24), .mv (.t 22), none⟩,
  ⟨(some 6), .mv (.t 24), none⟩])
 (.dreg [([], false, ⟨(some 25), .mv (.t 3), none⟩),
  ([0], false, ⟨(some 26), .mv (.t 0), none⟩),
  ([0, 1], false, ⟨(some 27), .fad 0 (.t 5), none⟩),
  ([0, 1], false, ⟨(some 28), .load false 1 (.t 27), none⟩),
  ([0, 1, 2, 3], false, ⟨(some 29), .fad 1 (.t 5), none⟩),
  ([0, 1, 2, 3], false, ⟨(some 30), .load false 1 (.t 29), none⟩),
  ([0, 1, 2, 3, 4, 5], false, ⟨(some 31), .fad 2 (.t 5), none⟩),
  ([0, 1, 2, 3, 4, 5], false, ⟨(some 32), .load false 1 (.t 31), none⟩),
  ([0, 1, 2, 3, 4, 5, 6, 7], false, ⟨(some 33), .fad 3 (.t 5), none⟩),
  ([0, 1, 2, 3, 4, 5, 6, 7], false, ⟨(some 34), .load false 1 (.t 33), none⟩),
  ([0, 1, 2, 3, 4, 5, 6, 7, 8, 9], false, ⟨(some 35), .mv (.t 6), none⟩),
  ([0, 1, 2, 3, 4, 5, 6, 7], false, ⟨(some 36), .ixt (.t 34) (.t 35), none⟩),
  ([0], false, ⟨(some 37), .build [(D.int .i64 (0)), (D.int .i64 (0)), (D.int .u8 (0)), (D.int .u8 (0)), (D.int .u8 (0))] [(0, 1, (.t 26)), (1, 1, (.t 28)), (2, 1, (.t 30)), (3, 1, (.t 32)), (4, 1, (.t 36))], none⟩),
  ([], true, ⟨none, .mup true [1, 1, 1, 1, 1] (.t 25) (.t 37) (.k (D.bool true)), none⟩)])))
 (.reg [⟨(some 38), .bin .add (.t 22) (.k (D.int .i64 (1))), none⟩,
  ⟨(some 22), .mv (.t 38), none⟩])))))))))
 (.reg [⟨(some 39), .bin .add (.t 15) (.k (D.int .i64 (1))), none⟩,
  ⟨(some 15), .mv (.t 39), none⟩])))))))
 (.seq (.reg [⟨(some 40), .mv (.t 3), none⟩,
  ⟨(some 2), .mv (.t 40), none⟩])
 .ret)))))⟩
def a133 : Ann := ⟨[], [⟨false, 0, false⟩], []⟩
def s133 : SFun := ⟨2, 30, [], [(.cell 4 true 5, ⟨false, 0, false⟩)],
 (.seq (.reg [⟨(some 3), .box 7 (.t 1), none⟩,
  ⟨(some 4), .alloc [(D.int .i64 (0)), (D.int .i64 (0)), (D.int .u8 (0)), (D.int .u8 (0)), (D.int .u8 (0))], none⟩])
 (.seq (.reg [⟨(some 6), .mv (.t 0), none⟩,
  ⟨(some 7), .fad 0 (.t 3), none⟩,
  ⟨(some 8), .load false 1 (.t 7), none⟩,
  ⟨(some 9), .fad 2 (.t 3), none⟩,
  ⟨(some 10), .load false 1 (.t 9), none⟩,
  ⟨(some 11), .fad 3 (.t 3), none⟩,
  ⟨(some 12), .load false 1 (.t 11), none⟩,
  ⟨(some 13), .fad 4 (.t 3), none⟩,
  ⟨(some 14), .load false 1 (.t 13), none⟩,
  ⟨(some 15), .build [(D.int .i64 (0)), (D.int .i64 (0)), (D.int .u8 (0)), (D.int .u8 (0)), (D.int .u8 (0))] [(0, 1, (.t 6)), (1, 1, (.t 8)), (2, 1, (.t 10)), (3, 1, (.t 12)), (4, 1, (.t 14))], none⟩,
  ⟨(some 5), .alloc [(D.int .i64 (0)), (D.int .i64 (0)), (D.int .u8 (0)), (D.int .u8 (0)), (D.int .u8 (0))], none⟩,
  ⟨none, .store 5 (.t 5) (.t 15), none⟩])
 (.seq (.seq (.reg [⟨(some 16), .fad 0 (.t 3), none⟩,
  ⟨(some 17), .load false 1 (.t 16), none⟩,
  ⟨(some 18), .bin .eql (.t 17) (.k (D.int .i64 (1))), none⟩])
 (.cond (.t 18)
 (.seq (.reg [⟨(some 19), .fad 4 (.t 5), none⟩,
  ⟨none, .store 1 (.t 19) (.k (D.int .u8 (127))), none⟩])
 (.seq (.reg [⟨(some 20), .fad 1 (.t 3), none⟩,
  ⟨(some 21), .load false 1 (.t 20), none⟩,
  ⟨(some 22), .bin .geq (.t 21) (.k (D.int .i32 (32))), none⟩,
  ⟨(some 23), .mv (.t 22), none⟩,
  ⟨(some 24), .fad 1 (.t 3), (some (23, true))⟩,
  ⟨(some 25), .load false 1 (.t 24), (some (23, true))⟩,
  ⟨(some 26), .bin .leq (.t 25) (.k (D.int .i32 (126))), (some (23, true))⟩,
  ⟨(some 27), .pick (.t 23) (.t 26) (.k (D.bool false)), none⟩])
 (.cond (.t 27)
 (.reg [⟨(some 28), .fad 4 (.t 5), none⟩,
  ⟨none, .store 1 (.t 28) (.k (D.int .u8 (32))), none⟩])
 .skip)))
 .skip))
 (.seq (.reg [⟨(some 29), .load true 5 (.t 5), none⟩,
  ⟨none, .store 5 (.t 4) (.t 29), none⟩])
 .ret))))⟩
def a132 : Ann := ⟨[], [⟨false, 0, false⟩], []⟩
def s132 : SFun := ⟨2, 11, [], [(.tmp 4, ⟨false, 0, false⟩)],
 (.seq (.reg [⟨(some 3), .box 7 (.t 1), none⟩,
  ⟨(some 4), .mv (.k (D.bool false)), none⟩])
 (.seq (.dreg [([], false, ⟨(some 5), .mv (.t 0), none⟩),
  ([], false, ⟨(some 6), .call false 135 [(.t 5)], none⟩),
  ([0, 1], false, ⟨(some 7), .mv (.t 0), none⟩),
  ([0, 1, 2], false, ⟨(some 8), .load true 7 (.t 3), none⟩),
  ([], true, ⟨(some 9), .call false 133 [(.t 7), (.t 8)], none⟩),
  ([], true, ⟨(some 10), .lkp false true [1, 1, 1, 1, 1] (D.bool false) (.t 6) (.t 9), none⟩),
  ([], true, ⟨(some 4), .mv (.t 10), none⟩)])
 .ret))⟩
def a63 : Ann := ⟨[(15, [(6, ⟨false, 0, false⟩), (1, ⟨true, 0, false⟩), (2, ⟨true, 0, false⟩), (5, ⟨true, 1, false⟩)]), (21, [(8, ⟨false, 0, false⟩), (1, ⟨true, 0, false⟩), (2, ⟨true, 0, false⟩), (7, ⟨true, 0, false⟩)])], [⟨false, 0, false⟩], []⟩
def s63 : SFun := ⟨1, 140, [], [(.cell 2 true 7, ⟨false, 0, false⟩)],
 (.seq (.reg [⟨(some 1), .box 5 (.t 0), none⟩,
  ⟨(some 2), .alloc [(D.int .i64 (0)), (D.int .i32 (0)), (D.int .u8 (0)), (D.int .u8 (0)), (D.int .u8 (0)), .sn, (D.str [])], none⟩])
 (.seq (.reg [⟨(some 9), .fad 2 (.t 1), none⟩,
  ⟨(some 10), .load false 1 (.t 9), none⟩,
  ⟨(some 3), .mv (.t 10), none⟩])
 (.seq (.seq (.reg [⟨(some 11), .fad 0 (.t 1), none⟩,
  ⟨(some 12), .load false 1 (.t 11), none⟩,
  ⟨(some 13), .call false 174 [(.t 12), (.k (D.int .i64 (0))), (.k (D.int .i64 (5)))], none⟩])
 (.block 0 (.seq (.reg [⟨(some 15), .bin .eql (.t 13) (.k (D.int .i64 (0))), none⟩,
  ⟨(some 14), .mv (.t 15), none⟩])
 (.cond (.t 14)
 (.seq (.reg [⟨(some 16), .fad 1 (.t 1), none⟩,
  ⟨(some 17), .load false 1 (.t 16), none⟩,
  ⟨(some 18), .call false 174 [(.t 17), (.k (D.int .i64 (0))), (.k (D.int .i64 (94)))], none⟩,
  ⟨(some 4), .mv (.t 18), none⟩])
 (.seq (.seq (.reg [⟨(some 19), .fad 1 (.t 1), none⟩,
  ⟨(some 20), .load false 1 (.t 19), none⟩,
  ⟨(some 21), .bin .rem (.t 20) (.k (D.int .i64 (7))), none⟩,
  ⟨(some 22), .bin .eql (.t 21) (.k (D.int .i64 (3))), none⟩])
 (.cond (.t 22)
 (.seq (.reg [⟨(some 23), .bsl false 1 6 [(D.int .i32 (0))] [(0, (.k (D.int .i32 (228)))), (1, (.k (D.int .i32 (9472)))), (2, (.k (D.int .i32 (19968)))), (3, (.k (D.int .i32 (769)))), (4, (.k (D.int .i32 (128512)))), (5, (.k (D.int .i32 (128))))], none⟩,
  ⟨(some 24), .fad 2 (.t 1), none⟩,
  ⟨(some 25), .load false 1 (.t 24), none⟩,
  ⟨(some 26), .call false 174 [(.t 25), (.k (D.int .i64 (0))), (.k (D.int .i64 (5)))], none⟩,
  ⟨(some 27), .ixs 1 (.t 23) (.t 26), none⟩,
  ⟨(some 28), .load false 1 (.t 27), none⟩,
  ⟨(some 29), .build [(D.int .i64 (0)), (D.int .i32 (0)), (D.int .u8 (0)), (D.int .u8 (0)), (D.int .u8 (0)), .sn, (D.str [])] [(0, 1, (.k (D.int .i64 (1)))), (1, 1, (.t 28))], none⟩,
  ⟨none, .store 7 (.t 2) (.t 29), none⟩])
 .ret)
 .skip))
 (.seq (.reg [⟨(some 30), .mv (.t 4), none⟩,
  ⟨(some 31), .bin .add (.k (D.int .i64 (32))) (.t 30), none⟩,
  ⟨(some 32), .cvi .i32 (.t 31), none⟩,
  ⟨(some 33), .build [(D.int .i64 (0)), (D.int .i32 (0)), (D.int .u8 (0)), (D.int .u8 (0)), (D.int .u8 (0)), .sn, (D.str [])] [(0, 1, (.k (D.int .i64 (1)))), (1, 1, (.t 32))], none⟩,
  ⟨none, .store 7 (.t 2) (.t 33), none⟩])
 .ret)))
 (.seq (.reg [⟨(some 35), .bin .eql (.t 13) (.k (D.int .i64 (1))), none⟩,
  ⟨(some 34), .mv (.t 35), none⟩])
 (.cond (.t 34)
 (.seq (.reg [⟨(some 36), .bsl false 1 9 [(D.int .u8 (0))] [(0, (.k (D.int .u8 (7)))), (1, (.k (D.int .u8 (8)))), (2, (.k (D.int .u8 (9)))), (3, (.k (D.int .u8 (10)))), (4, (.k (D.int .u8 (13)))), (5, (.k (D.int .u8 (14)))), (6, (.k (D.int .u8 (15)))), (7, (.k (D.int .u8 (0)))), (8, (.k (D.int .u8 (11))))], none⟩,
  ⟨(some 37), .mv (.t 3), none⟩,
  ⟨(some 38), .call false 174 [(.t 37), (.k (D.int .i64 (0))), (.k (D.int .i64 (8)))], none⟩,
  ⟨(some 39), .ixs 1 (.t 36) (.t 38), none⟩,
  ⟨(some 40), .load false 1 (.t 39), none⟩,
  ⟨(some 41), .build [(D.int .i64 (0)), (D.int .i32 (0)), (D.int .u8 (0)), (D.int .u8 (0)), (D.int .u8 (0)), .sn, (D.str [])] [(0, 1, (.k (D.int .i64 (2)))), (4, 1, (.t 40))], none⟩,
  ⟨none, .store 7 (.t 2) (.t 41), none⟩])
 .ret)
 (.seq (.reg [⟨(some 43), .bin .eql (.t 13) (.k (D.int .i64 (2))), none⟩,
  ⟨(some 42), .mv (.t 43), none⟩])
 (.cond (.t 42)
 (.seq (.reg [⟨(some 44), .build [(D.int .i64 (0)), (D.int .i32 (0)), (D.int .u8 (0)), (D.int .u8 (0)), (D.int .u8 (0)), .sn, (D.str [])] [(0, 1, (.k (D.int .i64 (3)))), (4, 1, (.k (D.int .u8 (77))))], none⟩,
  ⟨(some 45), .build [(D.int .i64 (0)), (D.int .i32 (0)), (D.int .u8 (0)), (D.int .u8 (0)), (D.int .u8 (0)), .sn, (D.str [])] [(0, 1, (.k (D.int .i64 (3)))), (3, 1, (.k (D.int .u8 (40)))), (4, 1, (.k (D.int .u8 (48))))], none⟩,
  ⟨(some 46), .build [(D.int .i64 (0)), (D.int .i32 (0)), (D.int .u8 (0)), (D.int .u8 (0)), (D.int .u8 (0)), .sn, (D.str [])] [(0, 1, (.k (D.int .i64 (3)))), (3, 1, (.k (D.int .u8 (40)))), (4, 1, (.k (D.int .u8 (66))))], none⟩,
  ⟨(some 47), .build [(D.int .i64 (0)), (D.int .i32 (0)), (D.int .u8 (0)), (D.int .u8 (0)), (D.int .u8 (0)), .sn, (D.str [])] [(0, 1, (.k (D.int .i64 (3)))), (4, 1, (.k (D.int .u8 (55))))], none⟩,
  ⟨(some 48), .build [(D.int .i64 (0)), (D.int .i32 (0)), (D.int .u8 (0)), (D.int .u8 (0)), (D.int .u8 (0)), .sn, (D.str [])] [(0, 1, (.k (D.int .i64 (3)))), (4, 1, (.k (D.int .u8 (56))))], none⟩,
  ⟨(some 49), .build [(D.int .i64 (0)), (D.int .i32 (0)), (D.int .u8 (0)), (D.int .u8 (0)), (D.int .u8 (0)), .sn, (D.str [])] [(0, 1, (.k (D.int .i64 (3)))), (4, 1, (.k (D.int .u8 (68))))], none⟩,
  ⟨(some 50), .build [(D.int .i64 (0)), (D.int .i32 (0)), (D.int .u8 (0)), (D.int .u8 (0)), (D.int .u8 (0)), .sn, (D.str [])] [(0, 1, (.k (D.int .i64 (3)))), (4, 1, (.k (D.int .u8 (69))))], none⟩,
  ⟨(some 51), .build [(D.int .i64 (0)), (D.int .i32 (0)), (D.int .u8 (0)), (D.int .u8 (0)), (D.int .u8 (0)), .sn, (D.str [])] [(0, 1, (.k (D.int .i64 (3)))), (4, 1, (.k (D.int .u8 (99))))], none⟩,
  ⟨(some 52), .build [(D.int .i64 (0)), (D.int .i32 (0)), (D.int .u8 (0)), (D.int .u8 (0)), (D.int .u8 (0)), .sn, (D.str [])] [(0, 1, (.k (D.int .i64 (3)))), (3, 1, (.k (D.int .u8 (35)))), (4, 1, (.k (D.int .u8 (56))))], none⟩,
  ⟨(some 53), .build [(D.int .i64 (0)), (D.int .i32 (0)), (D.int .u8 (0)), (D.int .u8 (0)), (D.int .u8 (0)), .sn, (D.str [])] [(0, 1, (.k (D.int .i64 (3)))), (4, 1, (.k (D.int .u8 (72))))], none⟩,
  ⟨(some 54), .bsl false 7 10 [(D.int .i64 (0)), (D.int .i32 (0)), (D.int .u8 (0)), (D.int .u8 (0)), (D.int .u8 (0)), .sn, (D.str [])] [(0, (.t 44)), (1, (.t 45)), (2, (.t 46)), (3, (.t 47)), (4, (.t 48)), (5, (.t 49)), (6, (.t 50)), (7, (.t 51)), (8, (.t 52)), (9, (.t 53))], none⟩,
  ⟨(some 55), .mv (.t 3), none⟩,
  ⟨(some 56), .call false 174 [(.t 55), (.k (D.int .i64 (0))), (.k (D.int .i64 (9)))], none⟩,
  ⟨(some 57), .ixs 7 (.t 54) (.t 56), none⟩,
  ⟨(some 58), .load true 7 (.t 57), none⟩,
  ⟨none, .store 7 (.t 2) (.t 58), none⟩])
 .ret)
 (.seq (.reg [⟨(some 60), .bin .eql (.t 13) (.k (D.int .i64 (3))), none⟩,
  ⟨(some 59), .mv (.t 60), none⟩])
 (.cond (.t 59)
 (.seq (.reg [⟨(some 5), .mv (.k .sn), none⟩])
 (.seq (.seq (.reg [⟨(some 6), .mv (.k (D.int .i64 (0))), none⟩])
 (.block 1 (.loop [(6, ⟨false, 0, false⟩), (1, ⟨true, 0, false⟩), (2, ⟨true, 0, false⟩), (5, ⟨true, 1, false⟩)]
 (.seq (.seq (.reg [⟨(some 61), .mv (.t 6), none⟩,
  ⟨(some 62), .fad 4 (.t 1), none⟩,
  ⟨(some 63), .load false 1 (.t 62), none⟩,
  ⟨(some 64), .len (.t 63), none⟩,
  ⟨(some 65), .bin .lss (.t 61) (.t 64), none⟩,
  ⟨(some 66), .mv (.t 65), none⟩,
  ⟨(some 67), .mv (.t 6), (some (66, true))⟩,
  ⟨(some 68), .bin .lss (.t 67) (.k (D.int .i64 (20))), (some (66, true))⟩,
  ⟨(some 69), .pick (.t 66) (.t 68) (.k (D.bool false)), none⟩])
 (.cond (.t 69)
 .skip
 (.exit 1)))
 (.seq (.block 2 (.reg [⟨(some 72), .mv (.t 5), none⟩,
  ⟨(some 73), .fad 4 (.t 1), none⟩,
  ⟨(some 74), .load false 1 (.t 73), none⟩,
  ⟨(some 75), .mv (.t 6), none⟩,
  ⟨(some 76), .ixs 1 (.t 74) (.t 75), none⟩,
  ⟨(some 77), .load false 1 (.t 76), none⟩,
  ⟨(some 78), .cvi .i64 (.t 77), none⟩,
  ⟨(some 79), .call false 174 [(.t 78), (.k (D.int .i64 (32))), (.k (D.int .i64 (255)))], none⟩,
  ⟨(some 80), .cvi .u8 (.t 79), none⟩,
  ⟨(some 81), .bsl false 1 1 [(D.int .u8 (0))] [(0, (.t 80))], none⟩,
  ⟨(some 82), .append 1 1 (.t 72) (.t 81), none⟩,
  ⟨(some 5), .mv (.t 82), none⟩]))
 (.reg [⟨(some 70), .mv (.t 6), none⟩,
  ⟨(some 71), .bin .add (.t 70) (.k (D.int .i64 (1))), none⟩,
  ⟨(some 6), .mv (.t 71), none⟩]))))))
 (.seq (.reg [⟨(some 83), .mv (.t 5), none⟩,
  ⟨(some 84), .b2s (.t 83), none⟩,
  ⟨(some 85), .build [(D.int .i64 (0)), (D.int .i32 (0)), (D.int .u8 (0)), (D.int .u8 (0)), (D.int .u8 (0)), .sn, (D.str [])] [(0, 1, (.k (D.int .i64 (5)))), (6, 1, (.t 84))], none⟩,
  ⟨none, .store 7 (.t 2) (.t 85), none⟩])
 .ret)))
 .skip))))))))))
 (.seq (.reg [⟨(some 86), .mv (.t 3), none⟩,
  ⟨(some 87), .call false 174 [(.t 86), (.k (D.int .i64 (0))), (.k (D.int .i64 (22)))], none⟩,
  ⟨(some 88), .ixt (.k (D.str [72, 65, 66, 67, 68, 71, 100, 74, 75, 76, 77, 80, 88, 64, 83, 84, 114, 109, 104, 108, 110, 99, 115])) (.t 87), none⟩,
  ⟨(some 89), .build [(D.int .i64 (0)), (D.int .i32 (0)), (D.int .u8 (0)), (D.int .u8 (0)), (D.int .u8 (0)), .sn, (D.str [])] [(0, 1, (.k (D.int .i64 (4)))), (4, 1, (.t 88))], none⟩,
  ⟨(some 7), .alloc [(D.int .i64 (0)), (D.int .i32 (0)), (D.int .u8 (0)), (D.int .u8 (0)), (D.int .u8 (0)), .sn, (D.str [])], none⟩,
  ⟨none, .store 7 (.t 7) (.t 89), none⟩])
 (.seq (.seq (.reg [⟨(some 8), .mv (.k (D.int .i64 (0))), none⟩])
 (.block 3 (.loop [(8, ⟨false, 0, false⟩), (1, ⟨true, 0, false⟩), (2, ⟨true, 0, false⟩), (7, ⟨true, 0, false⟩)]
 (.seq (.seq (.reg [⟨(some 90), .mv (.t 8), none⟩,
  ⟨(some 91), .fad 3 (.t 1), none⟩,
  ⟨(some 92), .load false 1 (.t 91), none⟩,
  ⟨(some 93), .len (.t 92), none⟩,
  ⟨(some 94), .bin .lss (.t 90) (.t 93), none⟩,
  ⟨(some 95), .mv (.t 94), none⟩,
  ⟨(some 96), .mv (.t 8), (some (95, true))⟩,
  ⟨(some 97), .bin .lss (.t 96) (.k (D.int .i64 (5))), (some (95, true))⟩,
  ⟨(some 98), .pick (.t 95) (.t 97) (.k (D.bool false)), none⟩])
 (.cond (.t 98)
 .skip
 (.exit 3)))
 (.seq (.block 4 (.dreg [([], false, ⟨(some 101), .fad 5 (.t 7), none⟩),
  ([], false, ⟨(some 102), .load false 1 (.t 101), none⟩),
  ([0, 1], false, ⟨(some 103), .fad 3 (.t 1), none⟩),
  ([0, 1], false, ⟨(some 104), .load false 1 (.t 103), none⟩),
  ([0, 1, 2, 3], false, ⟨(some 105), .mv (.t 8), none⟩),
  ([0, 1], false, ⟨(some 106), .ixs 1 (.t 104) (.t 105), none⟩),
  ([0, 1], false, ⟨(some 107), .load false 1 (.t 106), none⟩),
  ([0, 1], false, ⟨(some 108), .callr 174 [(.t 107), (.k (D.int .i64 (-1))), (.k (D.int .i64 (60)))], none⟩),
  ([0, 1], false, ⟨(some 109), .bsl false 1 1 [(D.int .i64 (0))] [(0, (.t 108))], none⟩),
  ([], true, ⟨(some 110), .append 1 8 (.t 102) (.t 109), none⟩),
  ([], true, ⟨(some 111), .fad 5 (.t 7), none⟩),
  ([], true, ⟨none, .store 1 (.t 111) (.t 110), none⟩)]))
 (.reg [⟨(some 99), .mv (.t 8), none⟩,
  ⟨(some 100), .bin .add (.t 99) (.k (D.int .i64 (1))), none⟩,
  ⟨(some 8), .mv (.t 100), none⟩]))))))
 (.seq (.seq (.reg [⟨(some 112), .fad 4 (.t 7), none⟩,
  ⟨(some 113), .load false 1 (.t 112), none⟩,
  ⟨(some 114), .bin .eql (.t 113) (.k (D.int .u8 (104))), none⟩,
  ⟨(some 115), .mv (.t 114), none⟩,
  ⟨(some 116), .fad 4 (.t 7), (some (115, false))⟩,
  ⟨(some 117), .load false 1 (.t 116), (some (115, false))⟩,
  ⟨(some 118), .bin .eql (.t 117) (.k (D.int .u8 (108))), (some (115, false))⟩,
  ⟨(some 119), .pick (.t 115) (.k (D.bool true)) (.t 118), none⟩,
  ⟨(some 120), .mv (.t 119), none⟩,
  ⟨(some 121), .fad 1 (.t 1), (some (120, false))⟩,
  ⟨(some 122), .load false 1 (.t 121), (some (120, false))⟩,
  ⟨(some 123), .bin .and (.t 122) (.k (D.int .i64 (7))), (some (120, false))⟩,
  ⟨(some 124), .bin .eql (.t 123) (.k (D.int .i64 (7))), (some (120, false))⟩,
  ⟨(some 125), .pick (.t 120) (.k (D.bool true)) (.t 124), none⟩])
 (.cond (.t 125)
 (.reg [⟨(some 126), .fad 2 (.t 7), none⟩,
  ⟨none, .store 1 (.t 126) (.k (D.int .u8 (63))), none⟩])
 .skip))
 (.seq (.seq (.reg [⟨(some 127), .fad 5 (.t 7), none⟩,
  ⟨(some 128), .load false 1 (.t 127), none⟩,
  ⟨(some 129), .len (.t 128), none⟩,
  ⟨(some 130), .bin .eql (.t 129) (.k (D.int .i64 (1))), none⟩,
  ⟨(some 131), .mv (.t 130), none⟩,
  ⟨(some 132), .fad 5 (.t 7), (some (131, true))⟩,
  ⟨(some 133), .load false 1 (.t 132), (some (131, true))⟩,
  ⟨(some 134), .ixs 1 (.t 133) (.k (D.int .i64 (0))), (some (131, true))⟩,
  ⟨(some 135), .load false 1 (.t 134), (some (131, true))⟩,
  ⟨(some 136), .bin .eql (.t 135) (.k (D.int .i64 (-1))), (some (131, true))⟩,
  ⟨(some 137), .pick (.t 131) (.t 136) (.k (D.bool false)), none⟩])
 (.cond (.t 137)
 (.reg [⟨(some 138), .fad 5 (.t 7), none⟩,
  ⟨none, .store 1 (.t 138) (.k .sn), none⟩])
 .skip))
 (.seq (.reg [⟨(some 139), .load true 7 (.t 7), none⟩,
  ⟨none, .store 7 (.t 2) (.t 139), none⟩])
 .ret))))))))⟩
def a131 : Ann := ⟨[], [⟨true, 1, false⟩], []⟩
def s131 : SFun := ⟨0, 2, [], [(.tmp 0, ⟨true, 1, false⟩)],
 (.seq (.reg [⟨(some 0), .mv (.k .sn), none⟩])
 (.seq (.reg [⟨(some 1), .bsl true 1 3 [(D.int .i64 (0))] [(0, (.k (D.int .i64 (1)))), (1, (.k (D.int .i64 (2)))), (2, (.k (D.int .i64 (3))))], none⟩,
  ⟨(some 0), .mv (.t 1), none⟩])
 .ret))⟩
def a172 : Ann := ⟨[(4, [(0, ⟨false, 0, false⟩), (1, ⟨false, 0, false⟩), (4, ⟨false, 0, false⟩), (5, ⟨false, 0, false⟩)])], [⟨false, 0, false⟩], []⟩
def s172 : SFun := ⟨2, 26, [], [(.tmp 4, ⟨false, 0, false⟩)],
 (.seq (.reg [⟨(some 4), .mv (.k (D.bool false)), none⟩])
 (.seq (.seq (.reg [⟨(some 6), .mv (.t 0), none⟩,
  ⟨(some 7), .len (.t 6), none⟩,
  ⟨(some 8), .mv (.t 1), none⟩,
  ⟨(some 9), .len (.t 8), none⟩,
  ⟨(some 10), .bin .neq (.t 7) (.t 9), none⟩])
 (.cond (.t 10)
 (.seq (.reg [⟨(some 4), .mv (.k (D.bool false)), none⟩])
 .ret)
 .skip))
 (.seq (.seq (.reg [⟨(some 5), .mv (.k (D.int .i64 (0))), none⟩])
 (.block 0 (.loop [(0, ⟨false, 0, false⟩), (1, ⟨false, 0, false⟩), (4, ⟨false, 0, false⟩), (5, ⟨false, 0, false⟩)]
 (.seq (.seq (.reg [⟨(some 11), .mv (.t 5), none⟩,
  ⟨(some 12), .mv (.t 0), none⟩,
  ⟨(some 13), .len (.t 12), none⟩,
  ⟨(some 14), .bin .lss (.t 11) (.t 13), none⟩])
 (.cond (.t 14)
 .skip
 (.exit 0)))
 (.seq (.block 1 (.seq (.dreg [([], false, ⟨(some 17), .mv (.t 0), none⟩),
  ([0], false, ⟨(some 18), .mv (.t 5), none⟩),
  ([], false, ⟨(some 19), .ixs 1 (.t 17) (.t 18), none⟩),
  ([], false, ⟨(some 20), .load false 1 (.t 19), none⟩),
  ([0, 1, 2, 3], false, ⟨(some 21), .mv (.t 1), none⟩),
  ([0, 1, 2, 3, 4], false, ⟨(some 22), .mv (.t 5), none⟩),
  ([0, 1, 2, 3], false, ⟨(some 23), .ixs 1 (.t 21) (.t 22), none⟩),
  ([0, 1, 2, 3], false, ⟨(some 24), .load false 1 (.t 23), none⟩),
  ([], true, ⟨(some 25), .bin .neq (.t 20) (.t 24), none⟩)])
 (.cond (.t 25)
 (.seq (.reg [⟨(some 4), .mv (.k (D.bool false)), none⟩])
 .ret)
 .skip)))
 (.reg [⟨(some 15), .mv (.t 5), none⟩,
  ⟨(some 16), .bin .add (.t 15) (.k (D.int .i64 (1))), none⟩,
  ⟨(some 5), .mv (.t 16), none⟩]))))))
 (.seq (.reg [⟨(some 4), .mv (.k (D.bool true)), none⟩])
 .ret))))⟩
def a202 : Ann := ⟨[], [⟨false, 0, false⟩], []⟩
def s202 : SFun := ⟨0, 30, [], [(.tmp 0, ⟨false, 0, false⟩)],
 (.seq (.reg [⟨(some 0), .mv (.k (D.bool false)), none⟩])
 (.seq (.reg [⟨(some 3), .build [(D.int .i64 (0)), (D.int .i32 (0)), (D.int .u8 (0)), (D.int .u8 (0)), (D.int .u8 (0)), .sn, (D.str [])] [(0, 1, (.k (D.int .i64 (4)))), (4, 1, (.k (D.int .u8 (72))))], none⟩,
  ⟨(some 4), .build [(D.int .i64 (0)), (D.int .i32 (0)), (D.int .u8 (0)), (D.int .u8 (0)), (D.int .u8 (0)), .sn, (D.str [])] [(0, 1, (.k (D.int .i64 (4)))), (4, 1, (.k (D.int .u8 (80))))], none⟩,
  ⟨(some 1), .alloc [(D.int .i64 (0)), (D.int .i32 (0)), (D.int .u8 (0)), (D.int .u8 (0)), (D.int .u8 (0)), .sn, (D.str [])], none⟩,
  ⟨(some 2), .alloc [(D.int .i64 (0)), (D.int .i32 (0)), (D.int .u8 (0)), (D.int .u8 (0)), (D.int .u8 (0)), .sn, (D.str [])], none⟩,
  ⟨none, .store 7 (.t 1) (.t 3), none⟩,
  ⟨none, .store 7 (.t 2) (.t 4), none⟩])
 (.seq (.reg [⟨(some 5), .load true 7 (.t 1), none⟩,
  ⟨(some 6), .call false 132 [(.k (D.int .i64 (1))), (.t 5)], none⟩,
  ⟨(some 7), .mv (.t 6), none⟩,
  ⟨(some 8), .load true 7 (.t 2), (some (7, true))⟩,
  ⟨(some 9), .call false 132 [(.k (D.int .i64 (1))), (.t 8)], (some (7, true))⟩,
  ⟨(some 10), .una .not (.t 9), (some (7, true))⟩,
  ⟨(some 11), .pick (.t 7) (.t 10) (.k (D.bool false)), none⟩,
  ⟨(some 12), .mv (.t 11), none⟩,
  ⟨(some 13), .load true 7 (.t 2), (some (12, true))⟩,
  ⟨(some 14), .call false 132 [(.k (D.int .i64 (2))), (.t 13)], (some (12, true))⟩,
  ⟨(some 15), .pick (.t 12) (.t 14) (.k (D.bool false)), none⟩,
  ⟨(some 16), .mv (.t 15), none⟩,
  ⟨(some 17), .build [(D.int .i64 (0)), (D.int .i32 (0)), (D.int .u8 (0)), (D.int .u8 (0)), (D.int .u8 (0)), .sn, (D.str [])] [(0, 1, (.k (D.int .i64 (3)))), (4, 1, (.k (D.int .u8 (72))))], (some (16, true))⟩,
  ⟨(some 18), .call false 132 [(.k (D.int .i64 (3))), (.t 17)], (some (16, true))⟩,
  ⟨(some 19), .pick (.t 16) (.t 18) (.k (D.bool false)), none⟩,
  ⟨(some 20), .mv (.t 19), none⟩,
  ⟨(some 21), .load true 7 (.t 1), (some (20, true))⟩,
  ⟨(some 22), .call false 132 [(.k (D.int .i64 (3))), (.t 21)], (some (20, true))⟩,
  ⟨(some 23), .una .not (.t 22), (some (20, true))⟩,
  ⟨(some 24), .pick (.t 20) (.t 23) (.k (D.bool false)), none⟩,
  ⟨(some 25), .mv (.t 24), none⟩,
  ⟨(some 26), .call false 131 [], (some (25, true))⟩,
  ⟨(some 27), .bsl false 1 3 [(D.int .i64 (0))] [(0, (.k (D.int .i64 (1)))), (1, (.k (D.int .i64 (2)))), (2, (.k (D.int .i64 (3))))], (some (25, true))⟩,
  ⟨(some 28), .call false 172 [(.t 26), (.t 27)], (some (25, true))⟩,
  ⟨(some 29), .pick (.t 25) (.t 28) (.k (D.bool false)), none⟩,
  ⟨(some 0), .mv (.t 29), none⟩])
 .ret)))⟩
def a203 : Ann := ⟨[(6, [(4, ⟨false, 0, false⟩), (5, ⟨false, 0, false⟩), (26, ⟨false, 0, false⟩), (3, ⟨true, 0, false⟩), (6, ⟨true, 0, false⟩)]), (14, [(4, ⟨false, 0, false⟩), (5, ⟨false, 0, false⟩), (59, ⟨false, 0, false⟩), (3, ⟨true, 0, false⟩), (6, ⟨true, 0, false⟩)])], [⟨false, 0, false⟩], []⟩
def s203 : SFun := ⟨2, 88, [], [(.tmp 4, ⟨false, 0, false⟩)],
 (.seq (.reg [⟨(some 3), .box 5 (.t 1), none⟩,
  ⟨(some 4), .mv (.k (D.bool false)), none⟩])
 (.seq (.reg [⟨(some 13), .mv (.t 0), none⟩,
  ⟨(some 14), .call false 174 [(.t 13), (.k (D.int .i64 (1))), (.k (D.int .i64 (3)))], none⟩,
  ⟨(some 5), .mv (.t 14), none⟩])
 (.seq (.reg [⟨(some 15), .mv (.t 5), none⟩,
  ⟨(some 16), .call false 135 [(.t 15)], none⟩,
  ⟨(some 6), .mv (.t 16), none⟩])
 (.seq (.seq (.reg [⟨(some 17), .mv (.t 6), none⟩,
  ⟨(some 18), .bad, none⟩,
  ⟨(some 19), .bin .eql (.t 18) (.k (D.int .i64 (0))), none⟩,
  ⟨(some 20), .mv (.t 19), none⟩,
  ⟨(some 21), .call false 135 [(.k (D.int .i64 (9)))], (some (20, false))⟩,
  ⟨(some 22), .bad, (some (20, false))⟩,
  ⟨(some 23), .bin .neq (.t 22) (.k (D.int .i64 (0))), (some (20, false))⟩,
  ⟨(some 24), .pick (.t 20) (.k (D.bool true)) (.t 23), none⟩])
 (.cond (.t 24)
 (.seq (.reg [⟨(some 4), .mv (.k (D.bool false)), none⟩])
 .ret)
 .skip))
 (.seq (.seq (.reg [⟨(some 25), .mv (.t 6), none⟩,
  ⟨(some 26), .bad, none⟩])
 (.block 0 (.loop [(4, ⟨false, 0, false⟩), (5, ⟨false, 0, false⟩), (26, ⟨false, 0, false⟩), (3, ⟨true, 0, false⟩), (6, ⟨true, 0, false⟩)]
 (.seq (.reg [⟨(some 27), .bad, none⟩,
  ⟨(some 28), .ext (.t 27) 0, none⟩])
 (.seq (.cond (.t 28)
 .skip
 (.exit 0))
 (.block 1 (.seq (.reg [⟨(some 29), .bad, none⟩,
  ⟨(some 30), .ext (.t 29) 0, none⟩,
  ⟨(some 31), .ext (.t 29) 1, none⟩,
  ⟨(some 7), .alloc [(D.int .i64 (0)), (D.int .i64 (0)), (D.int .u8 (0)), (D.int .u8 (0)), (D.int .u8 (0))], none⟩,
  ⟨none, .store 5 (.t 7) (.t 30), none⟩,
  ⟨(some 8), .mv (.t 31), none⟩])
 (.seq (.reg [⟨(some 9), .mv (.k (D.int .i32 (0))), none⟩])
 (.seq (.seq (.reg [⟨(some 32), .fad 1 (.t 7), none⟩,
  ⟨(some 33), .load false 1 (.t 32), none⟩,
  ⟨(some 34), .bin .eql (.t 33) (.k (D.int .i64 (1))), none⟩])
 (.cond (.t 34)
 (.reg [⟨(some 9), .mv (.k (D.int .i32 (97))), none⟩])
 .skip))
 (.seq (.reg [⟨(some 35), .mv (.t 8), none⟩,
  ⟨(some 36), .una .not (.t 35), none⟩,
  ⟨(some 37), .mv (.t 36), none⟩,
  ⟨(some 38), .fad 0 (.t 7), (some (37, false))⟩,
  ⟨(some 39), .load false 1 (.t 38), (some (37, false))⟩,
  ⟨(some 40), .mv (.t 5), (some (37, false))⟩,
  ⟨(some 41), .bin .neq (.t 39) (.t 40), (some (37, false))⟩,
  ⟨(some 42), .pick (.t 37) (.k (D.bool true)) (.t 41), none⟩,
  ⟨(some 43), .mv (.t 42), none⟩,
  ⟨(some 44), .mv (.t 5), (some (43, false))⟩,
  ⟨(some 45), .fad 1 (.t 7), (some (43, false))⟩,
  ⟨(some 46), .load false 1 (.t 45), (some (43, false))⟩,
  ⟨(some 47), .mv (.t 9), (some (43, false))⟩,
  ⟨(some 48), .fad 2 (.t 7), (some (43, false))⟩,
  ⟨(some 49), .load false 1 (.t 48), (some (43, false))⟩,
  ⟨(some 50), .fad 3 (.t 7), (some (43, false))⟩,
  ⟨(some 51), .load false 1 (.t 50), (some (43, false))⟩,
  ⟨(some 52), .fad 4 (.t 7), (some (43, false))⟩,
  ⟨(some 53), .load false 1 (.t 52), (some (43, false))⟩,
  ⟨(some 54), .build [(D.int .i64 (0)), (D.int .i32 (0)), (D.int .u8 (0)), (D.int .u8 (0)), (D.int .u8 (0)), .sn, (D.str [])] [(0, 1, (.t 46)), (1, 1, (.t 47)), (2, 1, (.t 49)), (3, 1, (.t 51)), (4, 1, (.t 53))], (some (43, false))⟩,
  ⟨(some 55), .call false 132 [(.t 44), (.t 54)], (some (43, false))⟩,
  ⟨(some 56), .una .not (.t 55), (some (43, false))⟩,
  ⟨(some 57), .pick (.t 43) (.k (D.bool true)) (.t 56), none⟩])
 (.cond (.t 57)
 (.seq (.reg [⟨(some 4), .mv (.k (D.bool false)), none⟩])
 .ret)
 .skip)))))))))))
 (.seq (.seq (.reg [⟨(some 58), .call false 135 [(.k (D.int .i64 (1)))], none⟩,
  ⟨(some 59), .bad, none⟩])
 (.block 2 (.loop [(4, ⟨false, 0, false⟩), (5, ⟨false, 0, false⟩), (59, ⟨false, 0, false⟩), (3, ⟨true, 0, false⟩), (6, ⟨true, 0, false⟩)]
 (.seq (.reg [⟨(some 60), .bad, none⟩,
  ⟨(some 61), .ext (.t 60) 0, none⟩])
 (.seq (.cond (.t 61)
 .skip
 (.exit 2))
 (.block 3 (.seq (.reg [⟨(some 62), .bad, none⟩,
  ⟨(some 63), .ext (.t 62) 0, none⟩,
  ⟨(some 10), .alloc [(D.int .i64 (0)), (D.int .i64 (0)), (D.int .u8 (0)), (D.int .u8 (0)), (D.int .u8 (0))], none⟩,
  ⟨none, .store 5 (.t 10) (.t 63), none⟩])
 (.seq (.reg [⟨(some 64), .fad 0 (.t 10), none⟩,
  ⟨none, .store 1 (.t 64) (.k (D.int .i64 (2))), none⟩])
 (.seq (.dreg [([], false, ⟨(some 65), .call false 135 [(.k (D.int .i64 (2)))], none⟩),
  ([0], false, ⟨(some 66), .load true 5 (.t 10), none⟩),
  ([], true, ⟨(some 67), .lkp false true [1, 1, 1, 1, 1] (D.bool false) (.t 65) (.t 66), none⟩),
  ([], true, ⟨(some 68), .una .not (.t 67), none⟩)])
 (.cond (.t 68)
 (.seq (.reg [⟨(some 4), .mv (.k (D.bool false)), none⟩])
 .ret)
 .skip))))))))))
 (.seq (.reg [⟨(some 69), .load true 5 (.t 3), none⟩,
  ⟨(some 70), .call false 63 [(.t 69)], none⟩,
  ⟨(some 11), .alloc [(D.int .i64 (0)), (D.int .i32 (0)), (D.int .u8 (0)), (D.int .u8 (0)), (D.int .u8 (0)), .sn, (D.str [])], none⟩,
  ⟨none, .store 7 (.t 11) (.t 70), none⟩])
 (.seq (.reg [⟨(some 71), .mv (.t 5), none⟩,
  ⟨(some 72), .load true 7 (.t 11), none⟩,
  ⟨(some 73), .call false 132 [(.t 71), (.t 72)], none⟩,
  ⟨(some 12), .mv (.t 73), none⟩])
 (.seq (.reg [⟨(some 74), .mv (.t 6), none⟩,
  ⟨(some 75), .mv (.t 5), none⟩,
  ⟨(some 76), .load true 7 (.t 11), none⟩,
  ⟨(some 77), .call false 133 [(.t 75), (.t 76)], none⟩,
  ⟨(some 78), .mv (.t 12), none⟩,
  ⟨(some 79), .una .not (.t 78), none⟩,
  ⟨none, .mup true [1, 1, 1, 1, 1] (.t 74) (.t 77) (.t 79), none⟩])
 (.seq (.reg [⟨(some 80), .mv (.t 5), none⟩,
  ⟨(some 81), .load true 7 (.t 11), none⟩,
  ⟨(some 82), .call false 132 [(.t 80), (.t 81)], none⟩,
  ⟨(some 83), .mv (.t 12), none⟩,
  ⟨(some 84), .binb .eql (.t 82) (.t 83), none⟩,
  ⟨(some 85), .mv (.t 84), none⟩,
  ⟨(some 86), .call false 202 [], (some (85, true))⟩,
  ⟨(some 87), .pick (.t 85) (.t 86) (.k (D.bool false)), none⟩,
  ⟨(some 4), .mv (.t 87), none⟩])
 .ret))))))))))⟩
def a170 : Ann := ⟨[(4, [(1, ⟨false, 0, false⟩), (6, ⟨false, 0, false⟩), (5, ⟨true, 1, false⟩)])], [⟨true, 1, false⟩], []⟩
def s170 : SFun := ⟨2, 27, [], [(.tmp 4, ⟨true, 1, false⟩)],
 (.seq (.reg [⟨(some 4), .mv (.k .sn), none⟩])
 (.seq (.reg [⟨(some 7), .mv (.t 0), none⟩,
  ⟨(some 8), .len (.t 7), none⟩,
  ⟨(some 9), .bin .add (.t 8) (.k (D.int .i64 (80))), none⟩,
  ⟨(some 10), .mksl 1 8 [(D.int .i64 (0))] (.t 9), none⟩,
  ⟨(some 5), .mv (.t 10), none⟩])
 (.seq (.reg [⟨(some 11), .mv (.t 5), none⟩,
  ⟨(some 12), .mv (.t 0), none⟩,
  ⟨(some 13), .copy 1 (.t 11) (.t 12), none⟩])
 (.seq (.seq (.reg [⟨(some 14), .mv (.t 0), none⟩,
  ⟨(some 15), .len (.t 14), none⟩,
  ⟨(some 6), .mv (.t 15), none⟩])
 (.block 0 (.loop [(1, ⟨false, 0, false⟩), (6, ⟨false, 0, false⟩), (5, ⟨true, 1, false⟩)]
 (.seq (.seq (.reg [⟨(some 16), .mv (.t 6), none⟩,
  ⟨(some 17), .mv (.t 5), none⟩,
  ⟨(some 18), .len (.t 17), none⟩,
  ⟨(some 19), .bin .lss (.t 16) (.t 18), none⟩])
 (.cond (.t 19)
 .skip
 (.exit 0)))
 (.seq (.block 1 (.reg [⟨(some 22), .mv (.t 5), none⟩,
  ⟨(some 23), .mv (.t 6), none⟩,
  ⟨(some 24), .mv (.t 1), none⟩,
  ⟨(some 25), .ixs 1 (.t 22) (.t 23), none⟩,
  ⟨none, .store 1 (.t 25) (.t 24), none⟩]))
 (.reg [⟨(some 20), .mv (.t 6), none⟩,
  ⟨(some 21), .bin .add (.t 20) (.k (D.int .i64 (1))), none⟩,
  ⟨(some 6), .mv (.t 21), none⟩]))))))
 (.seq (.reg [⟨(some 26), .mv (.t 5), none⟩,
  ⟨(some 4), .mv (.t 26), none⟩])
 .ret)))))⟩
def a107 : Ann := ⟨[], [⟨false, 0, false⟩], []⟩
def s107 : SFun := ⟨0, 2, [], [(.cell 0 true 3, ⟨false, 0, false⟩)],
 (.seq (.reg [⟨(some 0), .alloc [(D.int .i64 (0)), (D.int .i64 (0)), (D.int .i64 (0))], none⟩])
 (.seq (.reg [⟨(some 1), .build [(D.int .i64 (0)), (D.int .i64 (0)), (D.int .i64 (0))] [(0, 1, (.k (D.int .i64 (-1)))), (1, 1, (.k (D.int .i64 (-1))))], none⟩,
  ⟨none, .store 3 (.t 0) (.t 1), none⟩])
 .ret))⟩
def a348 : Ann := ⟨[], [⟨false, 0, false⟩], []⟩
def s348 : SFun := ⟨3, 15, [], [(.tmp 6, ⟨false, 0, false⟩)],
 (.seq (.reg [⟨(some 6), .mv (.k (D.bool false)), none⟩])
 (.seq (.reg [⟨(some 7), .mv (.t 0), none⟩,
  ⟨(some 8), .mv (.t 1), none⟩,
  ⟨(some 9), .bin .geq (.t 7) (.t 8), none⟩,
  ⟨(some 10), .mv (.t 9), none⟩,
  ⟨(some 11), .mv (.t 0), (some (10, true))⟩,
  ⟨(some 12), .mv (.t 2), (some (10, true))⟩,
  ⟨(some 13), .bin .leq (.t 11) (.t 12), (some (10, true))⟩,
  ⟨(some 14), .pick (.t 10) (.t 13) (.k (D.bool false)), none⟩,
  ⟨(some 6), .mv (.t 14), none⟩])
 .ret))⟩
def a343 : Ann := ⟨[], [⟨false, 0, false⟩, ⟨false, 0, false⟩], []⟩
def s343 : SFun := ⟨2, 68, [], [(.tmp 4, ⟨false, 0, false⟩), (.tmp 5, ⟨false, 0, false⟩)],
 (.seq (.reg [⟨(some 4), .mv (.k (D.int .i64 (0))), none⟩,
  ⟨(some 5), .mv (.k (D.int .i64 (0))), none⟩])
 (.seq (.block 0 (.seq (.reg [⟨(some 7), .mv (.t 0), none⟩,
  ⟨(some 8), .len (.t 7), none⟩,
  ⟨(some 9), .bin .geq (.t 8) (.k (D.int .i64 (2))), none⟩,
  ⟨(some 10), .mv (.t 9), none⟩,
  ⟨(some 11), .mv (.t 0), (some (10, true))⟩,
  ⟨(some 12), .ixs 1 (.t 11) (.k (D.int .i64 (0))), (some (10, true))⟩,
  ⟨(some 13), .load false 1 (.t 12), (some (10, true))⟩,
  ⟨(some 14), .bin .eql (.t 13) (.k (D.int .i64 (5))), (some (10, true))⟩,
  ⟨(some 15), .pick (.t 10) (.t 14) (.k (D.bool false)), none⟩,
  ⟨(some 6), .mv (.t 15), none⟩])
 (.cond (.t 6)
 (.seq (.seq (.reg [⟨(some 16), .mv (.t 0), none⟩,
  ⟨(some 17), .ixs 1 (.t 16) (.k (D.int .i64 (1))), none⟩,
  ⟨(some 18), .load false 1 (.t 17), none⟩,
  ⟨(some 19), .call false 348 [(.t 18), (.k (D.int .i64 (0))), (.k (D.int .i64 (255)))], none⟩])
 (.cond (.t 19)
 (.reg [⟨(some 20), .mv (.t 0), none⟩,
  ⟨(some 21), .ixs 1 (.t 20) (.k (D.int .i64 (1))), none⟩,
  ⟨(some 22), .load false 1 (.t 21), none⟩,
  ⟨(some 1), .mv (.t 22), none⟩])
 .skip))
 (.seq (.reg [⟨(some 23), .mv (.t 1), none⟩,
  ⟨(some 4), .mv (.t 23), none⟩,
  ⟨(some 5), .mv (.k (D.int .i64 (2))), none⟩])
 .ret))
 (.seq (.reg [⟨(some 25), .mv (.t 0), none⟩,
  ⟨(some 26), .len (.t 25), none⟩,
  ⟨(some 27), .bin .geq (.t 26) (.k (D.int .i64 (4))), none⟩,
  ⟨(some 28), .mv (.t 27), none⟩,
  ⟨(some 29), .mv (.t 0), (some (28, true))⟩,
  ⟨(some 30), .ixs 1 (.t 29) (.k (D.int .i64 (0))), (some (28, true))⟩,
  ⟨(some 31), .load false 1 (.t 30), (some (28, true))⟩,
  ⟨(some 32), .bin .eql (.t 31) (.k (D.int .i64 (2))), (some (28, true))⟩,
  ⟨(some 33), .pick (.t 28) (.t 32) (.k (D.bool false)), none⟩,
  ⟨(some 24), .mv (.t 33), none⟩])
 (.cond (.t 24)
 (.seq (.seq (.reg [⟨(some 34), .mv (.t 0), none⟩,
  ⟨(some 35), .ixs 1 (.t 34) (.k (D.int .i64 (1))), none⟩,
  ⟨(some 36), .load false 1 (.t 35), none⟩,
  ⟨(some 37), .call false 348 [(.t 36), (.k (D.int .i64 (0))), (.k (D.int .i64 (255)))], none⟩,
  ⟨(some 38), .mv (.t 37), none⟩,
  ⟨(some 39), .mv (.t 0), (some (38, true))⟩,
  ⟨(some 40), .ixs 1 (.t 39) (.k (D.int .i64 (2))), (some (38, true))⟩,
  ⟨(some 41), .load false 1 (.t 40), (some (38, true))⟩,
  ⟨(some 42), .call false 348 [(.t 41), (.k (D.int .i64 (0))), (.k (D.int .i64 (255)))], (some (38, true))⟩,
  ⟨(some 43), .pick (.t 38) (.t 42) (.k (D.bool false)), none⟩,
  ⟨(some 44), .mv (.t 43), none⟩,
  ⟨(some 45), .mv (.t 0), (some (44, true))⟩,
  ⟨(some 46), .ixs 1 (.t 45) (.k (D.int .i64 (3))), (some (44, true))⟩,
  ⟨(some 47), .load false 1 (.t 46), (some (44, true))⟩,
  ⟨(some 48), .call false 348 [(.t 47), (.k (D.int .i64 (0))), (.k (D.int .i64 (255)))], (some (44, true))⟩,
  ⟨(some 49), .pick (.t 44) (.t 48) (.k (D.bool false)), none⟩])
 (.cond (.t 49)
 (.dreg [([], false, ⟨(some 50), .mv (.t 0), none⟩),
  ([], false, ⟨(some 51), .ixs 1 (.t 50) (.k (D.int .i64 (1))), none⟩),
  ([], false, ⟨(some 52), .load false 1 (.t 51), none⟩),
  ([], false, ⟨(some 53), .bin .shl (.t 52) (.k (D.int .u64 (16))), none⟩),
  ([], false, ⟨(some 54), .bin .or (.k (D.int .i64 (16777216))) (.t 53), none⟩),
  ([0, 1, 2, 3, 4], false, ⟨(some 55), .mv (.t 0), none⟩),
  ([0, 1, 2, 3, 4], false, ⟨(some 56), .ixs 1 (.t 55) (.k (D.int .i64 (2))), none⟩),
  ([0, 1, 2, 3, 4], false, ⟨(some 57), .load false 1 (.t 56), none⟩),
  ([0, 1, 2, 3, 4], false, ⟨(some 58), .bin .shl (.t 57) (.k (D.int .u64 (8))), none⟩),
  ([], false, ⟨(some 59), .bin .or (.t 54) (.t 58), none⟩),
  ([0, 1, 2, 3, 4, 5, 6, 7, 8, 9], false, ⟨(some 60), .mv (.t 0), none⟩),
  ([0, 1, 2, 3, 4, 5, 6, 7, 8, 9], false, ⟨(some 61), .ixs 1 (.t 60) (.k (D.int .i64 (3))), none⟩),
  ([0, 1, 2, 3, 4, 5, 6, 7, 8, 9], false, ⟨(some 62), .load false 1 (.t 61), none⟩),
  ([], true, ⟨(some 63), .bin .or (.t 59) (.t 62), none⟩),
  ([], true, ⟨(some 1), .mv (.t 63), none⟩)])
 .skip))
 (.seq (.reg [⟨(some 64), .mv (.t 1), none⟩,
  ⟨(some 4), .mv (.t 64), none⟩,
  ⟨(some 5), .mv (.k (D.int .i64 (4))), none⟩])
 .ret))
 .skip)))))
 (.seq (.reg [⟨(some 65), .mv (.t 1), none⟩,
  ⟨(some 66), .mv (.t 0), none⟩,
  ⟨(some 67), .len (.t 66), none⟩,
  ⟨(some 4), .mv (.t 65), none⟩,
  ⟨(some 5), .mv (.t 67), none⟩])
 .ret)))⟩
def a345 : Ann := ⟨[], [⟨true, 1, false⟩], []⟩
def s345 : SFun := ⟨0, 2, [], [(.tmp 0, ⟨true, 1, false⟩)],
 (.seq (.reg [⟨(some 0), .mv (.k .sn), none⟩])
 (.seq (.reg [⟨(some 1), .bsl true 1 8 [(D.int .i64 (0))] [(0, (.k (D.int .i64 (1)))), (1, (.k (D.int .i64 (2)))), (2, (.k (D.int .i64 (3)))), (3, (.k (D.int .i64 (4)))), (4, (.k (D.int .i64 (5)))), (5, (.k (D.int .i64 (7)))), (6, (.k (D.int .i64 (8)))), (7, (.k (D.int .i64 (9))))], none⟩,
  ⟨(some 0), .mv (.t 1), none⟩])
 .ret))⟩
def a344 : Ann := ⟨[(2, [(0, ⟨false, 0, false⟩), (2, ⟨false, 0, false⟩), (5, ⟨false, 0, false⟩), (6, ⟨false, 0, false⟩), (7, ⟨false, 0, false⟩)])], [⟨false, 0, false⟩], []⟩
def s344 : SFun := ⟨1, 18, [], [(.tmp 2, ⟨false, 0, false⟩)],
 (.seq (.reg [⟨(some 2), .mv (.k (D.int .i64 (0))), none⟩])
 (.seq (.seq (.reg [⟨(some 5), .call false 345 [], none⟩,
  ⟨(some 6), .len (.t 5), none⟩,
  ⟨(some 7), .mv (.k (D.int .i64 (0))), none⟩])
 (.block 0 (.loop [(0, ⟨false, 0, false⟩), (2, ⟨false, 0, false⟩), (5, ⟨false, 0, false⟩), (6, ⟨false, 0, false⟩), (7, ⟨false, 0, false⟩)]
 (.seq (.reg [⟨(some 8), .bin .lss (.t 7) (.t 6), none⟩])
 (.seq (.cond (.t 8)
 .skip
 (.exit 0))
 (.seq (.block 1 (.seq (.reg [⟨(some 9), .mv (.t 7), none⟩,
  ⟨(some 10), .ixs 1 (.t 5) (.t 7), none⟩,
  ⟨(some 11), .load false 1 (.t 10), none⟩,
  ⟨(some 3), .mv (.t 9), none⟩,
  ⟨(some 4), .mv (.t 11), none⟩])
 (.seq (.reg [⟨(some 12), .mv (.t 4), none⟩,
  ⟨(some 13), .mv (.t 0), none⟩,
  ⟨(some 14), .bin .eql (.t 12) (.t 13), none⟩])
 (.cond (.t 14)
 (.seq (.reg [⟨(some 15), .mv (.t 3), none⟩,
  ⟨(some 16), .bin .shl (.k (D.int .i64 (1))) (.t 15), none⟩,
  ⟨(some 2), .mv (.t 16), none⟩])
 .ret)
 .skip))))
 (.reg [⟨(some 17), .bin .add (.t 7) (.k (D.int .i64 (1))), none⟩,
  ⟨(some 7), .mv (.t 17), none⟩])))))))
 (.seq (.reg [⟨(some 2), .mv (.k (D.int .i64 (0))), none⟩])
 .ret)))⟩
def a346 : Ann := ⟨[], [⟨false, 0, false⟩], []⟩
def s346 : SFun := ⟨2, 67, [], [(.cell 4 true 3, ⟨false, 0, false⟩)],
 (.seq (.reg [⟨(some 2), .box 3 (.t 0), none⟩,
  ⟨(some 4), .alloc [(D.int .i64 (0)), (D.int .i64 (0)), (D.int .i64 (0))], none⟩])
 (.seq (.block 0 (.seq (.reg [⟨(some 12), .mv (.t 1), none⟩,
  ⟨(some 13), .bin .eql (.t 12) (.k (D.int .i64 (0))), none⟩,
  ⟨(some 11), .mv (.t 13), none⟩])
 (.cond (.t 11)
 (.seq (.reg [⟨(some 14), .call false 107 [], none⟩,
  ⟨none, .store 3 (.t 4) (.t 14), none⟩])
 .ret)
 (.seq (.reg [⟨(some 16), .mv (.t 1), none⟩,
  ⟨(some 17), .bin .eql (.t 16) (.k (D.int .i64 (22))), none⟩,
  ⟨(some 15), .mv (.t 17), none⟩])
 (.cond (.t 15)
 (.reg [⟨(some 18), .fad 2 (.t 2), none⟩,
  ⟨(some 19), .load false 1 (.t 18), none⟩,
  ⟨(some 20), .bin .andNot (.t 19) (.k (D.int .i64 (3))), none⟩,
  ⟨(some 21), .fad 2 (.t 2), none⟩,
  ⟨none, .store 1 (.t 21) (.t 20), none⟩])
 (.seq (.reg [⟨(some 23), .mv (.t 1), none⟩,
  ⟨(some 24), .call false 348 [(.t 23), (.k (D.int .i64 (23))), (.k (D.int .i64 (29)))], none⟩,
  ⟨(some 22), .mv (.t 24), none⟩])
 (.cond (.t 22)
 (.dreg [([], false, ⟨(some 25), .fad 2 (.t 2), none⟩),
  ([], false, ⟨(some 26), .load false 1 (.t 25), none⟩),
  ([0, 1], false, ⟨(some 27), .mv (.t 1), none⟩),
  ([0, 1], false, ⟨(some 28), .bin .sub (.t 27) (.k (D.int .i64 (20))), none⟩),
  ([0, 1], false, ⟨(some 29), .call true 344 [(.t 28)], none⟩),
  ([], true, ⟨(some 30), .bin .andNot (.t 26) (.t 29), none⟩),
  ([], true, ⟨(some 31), .fad 2 (.t 2), none⟩),
  ([], true, ⟨none, .store 1 (.t 31) (.t 30), none⟩)])
 (.seq (.reg [⟨(some 33), .mv (.t 1), none⟩,
  ⟨(some 34), .call false 348 [(.t 33), (.k (D.int .i64 (30))), (.k (D.int .i64 (37)))], none⟩,
  ⟨(some 32), .mv (.t 34), none⟩])
 (.cond (.t 32)
 (.reg [⟨(some 35), .mv (.t 1), none⟩,
  ⟨(some 36), .bin .sub (.t 35) (.k (D.int .i64 (30))), none⟩,
  ⟨(some 37), .fad 0 (.t 2), none⟩,
  ⟨none, .store 1 (.t 37) (.t 36), none⟩])
 (.seq (.reg [⟨(some 39), .mv (.t 1), none⟩,
  ⟨(some 40), .call false 348 [(.t 39), (.k (D.int .i64 (40))), (.k (D.int .i64 (47)))], none⟩,
  ⟨(some 38), .mv (.t 40), none⟩])
 (.cond (.t 38)
 (.reg [⟨(some 41), .mv (.t 1), none⟩,
  ⟨(some 42), .bin .sub (.t 41) (.k (D.int .i64 (40))), none⟩,
  ⟨(some 43), .fad 1 (.t 2), none⟩,
  ⟨none, .store 1 (.t 43) (.t 42), none⟩])
 (.seq (.reg [⟨(some 45), .mv (.t 1), none⟩,
  ⟨(some 46), .call false 348 [(.t 45), (.k (D.int .i64 (90))), (.k (D.int .i64 (97)))], none⟩,
  ⟨(some 44), .mv (.t 46), none⟩])
 (.cond (.t 44)
 (.reg [⟨(some 47), .mv (.t 1), none⟩,
  ⟨(some 48), .bin .sub (.t 47) (.k (D.int .i64 (90))), none⟩,
  ⟨(some 49), .bin .add (.t 48) (.k (D.int .i64 (8))), none⟩,
  ⟨(some 50), .fad 0 (.t 2), none⟩,
  ⟨none, .store 1 (.t 50) (.t 49), none⟩])
 (.seq (.reg [⟨(some 52), .mv (.t 1), none⟩,
  ⟨(some 53), .call false 348 [(.t 52), (.k (D.int .i64 (100))), (.k (D.int .i64 (107)))], none⟩,
  ⟨(some 51), .mv (.t 53), none⟩])
 (.cond (.t 51)
 (.reg [⟨(some 54), .mv (.t 1), none⟩,
  ⟨(some 55), .bin .sub (.t 54) (.k (D.int .i64 (100))), none⟩,
  ⟨(some 56), .bin .add (.t 55) (.k (D.int .i64 (8))), none⟩,
  ⟨(some 57), .fad 1 (.t 2), none⟩,
  ⟨none, .store 1 (.t 57) (.t 56), none⟩])
 (.seq (.reg [⟨(some 59), .mv (.t 1), none⟩,
  ⟨(some 60), .bin .eql (.t 59) (.k (D.int .i64 (39))), none⟩,
  ⟨(some 58), .mv (.t 60), none⟩])
 (.cond (.t 58)
 (.reg [⟨(some 61), .fad 0 (.t 2), none⟩,
  ⟨none, .store 1 (.t 61) (.k (D.int .i64 (-1))), none⟩])
 (.seq (.reg [⟨(some 63), .mv (.t 1), none⟩,
  ⟨(some 64), .bin .eql (.t 63) (.k (D.int .i64 (49))), none⟩,
  ⟨(some 62), .mv (.t 64), none⟩])
 (.cond (.t 62)
 (.reg [⟨(some 65), .fad 1 (.t 2), none⟩,
  ⟨none, .store 1 (.t 65) (.k (D.int .i64 (-1))), none⟩])
 (.dreg [([], false, ⟨(some 5), .fad 2 (.t 2), none⟩),
  ([], false, ⟨(some 6), .load false 1 (.t 5), none⟩),
  ([0, 1], false, ⟨(some 7), .mv (.t 1), none⟩),
  ([0, 1], false, ⟨(some 8), .call true 344 [(.t 7)], none⟩),
  ([], true, ⟨(some 9), .bin .or (.t 6) (.t 8), none⟩),
  ([], true, ⟨(some 10), .fad 2 (.t 2), none⟩),
  ([], true, ⟨none, .store 1 (.t 10) (.t 9), none⟩)]))))))))))))))))))))
 (.seq (.reg [⟨(some 66), .load true 3 (.t 2), none⟩,
  ⟨none, .store 3 (.t 4) (.t 66), none⟩])
 .ret)))⟩
def a340 : Ann := ⟨[(5, [(17, ⟨false, 0, false⟩), (18, ⟨false, 0, false⟩), (19, ⟨false, 0, false⟩), (2, ⟨true, 0, false⟩), (4, ⟨true, 0, false⟩), (5, ⟨true, 1, false⟩)]), (11, [(5, ⟨false, 0, false⟩), (2, ⟨true, 0, false⟩), (4, ⟨true, 0, false⟩)])], [⟨false, 0, false⟩], []⟩
def s340 : SFun := ⟨2, 70, [], [(.cell 4 true 3, ⟨false, 0, false⟩)],
 (.seq (.reg [⟨(some 2), .box 3 (.t 0), none⟩,
  ⟨(some 4), .alloc [(D.int .i64 (0)), (D.int .i64 (0)), (D.int .i64 (0))], none⟩])
 (.seq (.seq (.reg [⟨(some 10), .mv (.t 1), none⟩,
  ⟨(some 11), .len (.t 10), none⟩,
  ⟨(some 12), .bin .eql (.t 11) (.k (D.int .i64 (0))), none⟩])
 (.cond (.t 12)
 (.seq (.reg [⟨(some 13), .call false 107 [], none⟩,
  ⟨none, .store 3 (.t 4) (.t 13), none⟩])
 .ret)
 .skip))
 (.seq (.reg [⟨(some 14), .mv (.t 1), none⟩,
  ⟨(some 15), .len (.t 14), none⟩,
  ⟨(some 16), .mksl 1 8 [(D.int .i64 (0))] (.t 15), none⟩,
  ⟨(some 5), .mv (.t 16), none⟩])
 (.seq (.seq (.reg [⟨(some 17), .mv (.t 1), none⟩,
  ⟨(some 18), .len (.t 17), none⟩,
  ⟨(some 19), .mv (.k (D.int .i64 (0))), none⟩])
 (.block 0 (.loop [(17, ⟨false, 0, false⟩), (18, ⟨false, 0, false⟩), (19, ⟨false, 0, false⟩), (2, ⟨true, 0, false⟩), (4, ⟨true, 0, false⟩), (5, ⟨true, 1, false⟩)]
 (.seq (.reg [⟨(some 20), .bin .lss (.t 19) (.t 18), none⟩])
 (.seq (.cond (.t 20)
 .skip
 (.exit 0))
 (.seq (.block 1 (.seq (.reg [⟨(some 21), .mv (.t 19), none⟩,
  ⟨(some 22), .ixs 1 (.t 17) (.t 19), none⟩,
  ⟨(some 23), .load false 1 (.t 22), none⟩,
  ⟨(some 6), .mv (.t 21), none⟩,
  ⟨(some 7), .mv (.t 23), none⟩])
 (.seq (.reg [⟨(some 24), .mv (.t 5), none⟩,
  ⟨(some 25), .mv (.t 6), none⟩,
  ⟨(some 26), .mv (.t 7), none⟩,
  ⟨(some 27), .ixs 1 (.t 24) (.t 25), none⟩,
  ⟨none, .store 1 (.t 27) (.t 26), none⟩])
 (.seq (.reg [⟨(some 28), .mv (.t 7), none⟩,
  ⟨(some 29), .bin .eql (.t 28) (.k (D.int .i64 (-1))), none⟩])
 (.cond (.t 29)
 (.reg [⟨(some 30), .mv (.t 5), none⟩,
  ⟨(some 31), .mv (.t 6), none⟩,
  ⟨(some 32), .ixs 1 (.t 30) (.t 31), none⟩,
  ⟨none, .store 1 (.t 32) (.k (D.int .i64 (0))), none⟩])
 .skip)))))
 (.reg [⟨(some 33), .bin .add (.t 19) (.k (D.int .i64 (1))), none⟩,
  ⟨(some 19), .mv (.t 33), none⟩])))))))
 (.seq (.block 2 (.loop [(5, ⟨false, 0, false⟩), (2, ⟨true, 0, false⟩), (4, ⟨true, 0, false⟩)]
 (.seq (.seq (.reg [⟨(some 34), .mv (.t 5), none⟩,
  ⟨(some 35), .len (.t 34), none⟩,
  ⟨(some 36), .bin .gtr (.t 35) (.k (D.int .i64 (0))), none⟩])
 (.cond (.t 36)
 .skip
 (.exit 2)))
 (.block 3 (.seq (.reg [⟨(some 37), .mv (.t 5), none⟩,
  ⟨(some 38), .ixs 1 (.t 37) (.k (D.int .i64 (0))), none⟩,
  ⟨(some 39), .load false 1 (.t 38), none⟩,
  ⟨(some 8), .mv (.t 39), none⟩,
  ⟨(some 9), .mv (.k (D.int .i64 (0))), none⟩])
 (.seq (.reg [⟨(some 40), .mv (.t 5), none⟩,
  ⟨(some 41), .slc 1 (.t 40) (some (.k (D.int .i64 (1)))) none, none⟩,
  ⟨(some 5), .mv (.t 41), none⟩])
 (.seq (.seq (.reg [⟨(some 42), .mv (.t 8), none⟩])
 (.block 4 (.seq (.reg [⟨(some 47), .bin .eql (.t 42) (.k (D.int .i64 (38))), none⟩,
  ⟨(some 46), .mv (.t 47), none⟩])
 (.cond (.t 46)
 (.reg [⟨(some 49), .mv (.t 5), none⟩,
  ⟨(some 50), .fad 0 (.t 2), none⟩,
  ⟨(some 51), .load false 1 (.t 50), none⟩,
  ⟨(some 52), .call false 343 [(.t 49), (.t 51)], none⟩,
  ⟨(some 48), .mv (.t 52), none⟩,
  ⟨(some 53), .ext (.t 48) 0, none⟩,
  ⟨(some 54), .ext (.t 48) 1, none⟩,
  ⟨(some 55), .fad 0 (.t 2), none⟩,
  ⟨none, .store 1 (.t 55) (.t 53), none⟩,
  ⟨(some 9), .mv (.t 54), none⟩])
 (.seq (.reg [⟨(some 57), .bin .eql (.t 42) (.k (D.int .i64 (48))), none⟩,
  ⟨(some 56), .mv (.t 57), none⟩])
 (.cond (.t 56)
 (.reg [⟨(some 59), .mv (.t 5), none⟩,
  ⟨(some 60), .fad 1 (.t 2), none⟩,
  ⟨(some 61), .load false 1 (.t 60), none⟩,
  ⟨(some 62), .call false 343 [(.t 59), (.t 61)], none⟩,
  ⟨(some 58), .mv (.t 62), none⟩,
  ⟨(some 63), .ext (.t 58) 0, none⟩,
  ⟨(some 64), .ext (.t 58) 1, none⟩,
  ⟨(some 65), .fad 1 (.t 2), none⟩,
  ⟨none, .store 1 (.t 65) (.t 63), none⟩,
  ⟨(some 9), .mv (.t 64), none⟩])
 (.reg [⟨(some 43), .load true 3 (.t 2), none⟩,
  ⟨(some 44), .mv (.t 8), none⟩,
  ⟨(some 45), .call false 346 [(.t 43), (.t 44)], none⟩,
  ⟨none, .store 3 (.t 2) (.t 45), none⟩])))))))
 (.reg [⟨(some 66), .mv (.t 5), none⟩,
  ⟨(some 67), .mv (.t 9), none⟩,
  ⟨(some 68), .slc 1 (.t 66) (some (.t 67)) none, none⟩,
  ⟨(some 5), .mv (.t 68), none⟩]))))))))
 (.seq (.reg [⟨(some 69), .load true 3 (.t 2), none⟩,
  ⟨none, .store 3 (.t 4) (.t 69), none⟩])
 .ret))))))⟩
def a290 : Ann := ⟨[], [⟨false, 0, false⟩], []⟩
def s290 : SFun := ⟨0, 2, [], [(.cell 0 true 3, ⟨false, 0, false⟩)],
 (.seq (.reg [⟨(some 0), .alloc [(D.int .i64 (0)), (D.int .i64 (0)), (D.int .i64 (0))], none⟩])
 (.seq (.reg [⟨(some 1), .build [(D.int .i64 (0)), (D.int .i64 (0)), (D.int .i64 (0))] [(0, 1, (.k (D.int .i64 (-1)))), (1, 1, (.k (D.int .i64 (-1))))], none⟩,
  ⟨none, .store 3 (.t 0) (.t 1), none⟩])
 .ret))⟩
def a299 : Ann := ⟨[], [⟨false, 0, false⟩], []⟩
def s299 : SFun := ⟨2, 14, [], [(.tmp 4, ⟨false, 0, false⟩)],
 (.seq (.reg [⟨(some 4), .mv (.k (D.int .i64 (0))), none⟩])
 (.seq (.seq (.reg [⟨(some 5), .mv (.t 1), none⟩,
  ⟨(some 6), .mv (.t 0), none⟩,
  ⟨(some 7), .len (.t 6), none⟩,
  ⟨(some 8), .bin .lss (.t 5) (.t 7), none⟩])
 (.cond (.t 8)
 (.seq (.reg [⟨(some 9), .mv (.t 0), none⟩,
  ⟨(some 10), .mv (.t 1), none⟩,
  ⟨(some 11), .ixs 1 (.t 9) (.t 10), none⟩,
  ⟨(some 12), .load false 1 (.t 11), none⟩,
  ⟨(some 13), .mx [(.t 12), (.k (D.int .i64 (0)))], none⟩,
  ⟨(some 4), .mv (.t 13), none⟩])
 .ret)
 .skip))
 (.seq (.reg [⟨(some 4), .mv (.k (D.int .i64 (0))), none⟩])
 .ret)))⟩
def a316 : Ann := ⟨[], [⟨false, 0, false⟩, ⟨false, 0, false⟩], []⟩
def s316 : SFun := ⟨1, 55, [], [(.tmp 2, ⟨false, 0, false⟩), (.tmp 3, ⟨false, 0, false⟩)],
 (.seq (.reg [⟨(some 2), .mv (.k (D.int .i64 (0))), none⟩,
  ⟨(some 3), .mv (.k (D.int .i64 (0))), none⟩])
 (.seq (.block 0 (.seq (.reg [⟨(some 5), .mv (.t 0), none⟩,
  ⟨(some 6), .len (.t 5), none⟩,
  ⟨(some 7), .bin .geq (.t 6) (.k (D.int .i64 (2))), none⟩,
  ⟨(some 8), .mv (.t 7), none⟩,
  ⟨(some 9), .mv (.t 0), (some (8, true))⟩,
  ⟨(some 10), .ixs 1 (.t 9) (.k (D.int .i64 (0))), (some (8, true))⟩,
  ⟨(some 11), .load false 1 (.t 10), (some (8, true))⟩,
  ⟨(some 12), .bin .eql (.t 11) (.k (D.int .i64 (5))), (some (8, true))⟩,
  ⟨(some 13), .pick (.t 8) (.t 12) (.k (D.bool false)), none⟩,
  ⟨(some 4), .mv (.t 13), none⟩])
 (.cond (.t 4)
 (.seq (.seq (.reg [⟨(some 14), .mv (.t 0), none⟩,
  ⟨(some 15), .call false 299 [(.t 14), (.k (D.int .i64 (1)))], none⟩,
  ⟨(some 16), .bin .leq (.t 15) (.k (D.int .i64 (255))), none⟩])
 (.cond (.t 16)
 (.seq (.reg [⟨(some 17), .mv (.t 0), none⟩,
  ⟨(some 18), .call false 299 [(.t 17), (.k (D.int .i64 (1)))], none⟩,
  ⟨(some 2), .mv (.t 18), none⟩,
  ⟨(some 3), .mv (.k (D.int .i64 (2))), none⟩])
 .ret)
 .skip))
 (.seq (.reg [⟨(some 2), .mv (.k (D.int .i64 (-2))), none⟩,
  ⟨(some 3), .mv (.k (D.int .i64 (2))), none⟩])
 .ret))
 (.seq (.reg [⟨(some 20), .mv (.t 0), none⟩,
  ⟨(some 21), .len (.t 20), none⟩,
  ⟨(some 22), .bin .geq (.t 21) (.k (D.int .i64 (4))), none⟩,
  ⟨(some 23), .mv (.t 22), none⟩,
  ⟨(some 24), .mv (.t 0), (some (23, true))⟩,
  ⟨(some 25), .ixs 1 (.t 24) (.k (D.int .i64 (0))), (some (23, true))⟩,
  ⟨(some 26), .load false 1 (.t 25), (some (23, true))⟩,
  ⟨(some 27), .bin .eql (.t 26) (.k (D.int .i64 (2))), (some (23, true))⟩,
  ⟨(some 28), .pick (.t 23) (.t 27) (.k (D.bool false)), none⟩,
  ⟨(some 19), .mv (.t 28), none⟩])
 (.cond (.t 19)
 (.seq (.seq (.reg [⟨(some 29), .mv (.t 0), none⟩,
  ⟨(some 30), .call false 299 [(.t 29), (.k (D.int .i64 (1)))], none⟩,
  ⟨(some 31), .bin .leq (.t 30) (.k (D.int .i64 (255))), none⟩,
  ⟨(some 32), .mv (.t 31), none⟩,
  ⟨(some 33), .mv (.t 0), (some (32, true))⟩,
  ⟨(some 34), .call false 299 [(.t 33), (.k (D.int .i64 (2)))], (some (32, true))⟩,
  ⟨(some 35), .bin .leq (.t 34) (.k (D.int .i64 (255))), (some (32, true))⟩,
  ⟨(some 36), .pick (.t 32) (.t 35) (.k (D.bool false)), none⟩,
  ⟨(some 37), .mv (.t 36), none⟩,
  ⟨(some 38), .mv (.t 0), (some (37, true))⟩,
  ⟨(some 39), .call false 299 [(.t 38), (.k (D.int .i64 (3)))], (some (37, true))⟩,
  ⟨(some 40), .bin .leq (.t 39) (.k (D.int .i64 (255))), (some (37, true))⟩,
  ⟨(some 41), .pick (.t 37) (.t 40) (.k (D.bool false)), none⟩])
 (.cond (.t 41)
 (.seq (.reg [⟨(some 42), .mv (.t 0), none⟩,
  ⟨(some 43), .call false 299 [(.t 42), (.k (D.int .i64 (1)))], none⟩,
  ⟨(some 44), .bin .mul (.t 43) (.k (D.int .i64 (65536))), none⟩,
  ⟨(some 45), .bin .add (.k (D.int .i64 (16777216))) (.t 44), none⟩,
  ⟨(some 46), .mv (.t 0), none⟩,
  ⟨(some 47), .call false 299 [(.t 46), (.k (D.int .i64 (2)))], none⟩,
  ⟨(some 48), .bin .mul (.t 47) (.k (D.int .i64 (256))), none⟩,
  ⟨(some 49), .bin .add (.t 45) (.t 48), none⟩,
  ⟨(some 50), .mv (.t 0), none⟩,
  ⟨(some 51), .call false 299 [(.t 50), (.k (D.int .i64 (3)))], none⟩,
  ⟨(some 52), .bin .add (.t 49) (.t 51), none⟩,
  ⟨(some 2), .mv (.t 52), none⟩,
  ⟨(some 3), .mv (.k (D.int .i64 (4))), none⟩])
 .ret)
 .skip))
 (.seq (.reg [⟨(some 2), .mv (.k (D.int .i64 (-2))), none⟩,
  ⟨(some 3), .mv (.k (D.int .i64 (4))), none⟩])
 .ret))
 .skip)))))
 (.seq (.reg [⟨(some 53), .mv (.t 0), none⟩,
  ⟨(some 54), .len (.t 53), none⟩,
  ⟨(some 2), .mv (.k (D.int .i64 (-2))), none⟩,
  ⟨(some 3), .mv (.t 54), none⟩])
 .ret)))⟩
def a281 : Ann := ⟨[(5, [(1, ⟨false, 0, false⟩), (5, ⟨false, 0, false⟩), (6, ⟨false, 0, false⟩), (2, ⟨true, 0, false⟩), (4, ⟨true, 0, false⟩)])], [⟨false, 0, false⟩], []⟩
def s281 : SFun := ⟨2, 144, [], [(.cell 4 true 3, ⟨false, 0, false⟩)],
 (.seq (.reg [⟨(some 2), .box 3 (.t 0), none⟩,
  ⟨(some 4), .alloc [(D.int .i64 (0)), (D.int .i64 (0)), (D.int .i64 (0))], none⟩])
 (.seq (.seq (.reg [⟨(some 10), .mv (.t 1), none⟩,
  ⟨(some 11), .len (.t 10), none⟩,
  ⟨(some 12), .bin .eql (.t 11) (.k (D.int .i64 (0))), none⟩])
 (.cond (.t 12)
 (.seq (.reg [⟨(some 13), .call false 290 [], none⟩,
  ⟨none, .store 3 (.t 4) (.t 13), none⟩])
 .ret)
 .skip))
 (.seq (.reg [⟨(some 14), .bsl true 1 9 [(D.int .i64 (0))] [(0, (.k (D.int .i64 (1)))), (1, (.k (D.int .i64 (2)))), (2, (.k (D.int .i64 (4)))), (3, (.k (D.int .i64 (8)))), (4, (.k (D.int .i64 (16)))), (5, (.k (D.int .i64 (0)))), (6, (.k (D.int .i64 (32)))), (7, (.k (D.int .i64 (64)))), (8, (.k (D.int .i64 (128))))], none⟩,
  ⟨(some 5), .mv (.t 14), none⟩])
 (.seq (.seq (.reg [⟨(some 6), .mv (.k (D.int .i64 (0))), none⟩])
 (.block 0 (.loop [(1, ⟨false, 0, false⟩), (5, ⟨false, 0, false⟩), (6, ⟨false, 0, false⟩), (2, ⟨true, 0, false⟩), (4, ⟨true, 0, false⟩)]
 (.seq (.seq (.reg [⟨(some 15), .mv (.t 6), none⟩,
  ⟨(some 16), .mv (.t 1), none⟩,
  ⟨(some 17), .len (.t 16), none⟩,
  ⟨(some 18), .bin .lss (.t 15) (.t 17), none⟩])
 (.cond (.t 18)
 .skip
 (.exit 0)))
 (.seq (.block 1 (.seq (.reg [⟨(some 21), .mv (.t 1), none⟩,
  ⟨(some 22), .mv (.t 6), none⟩,
  ⟨(some 23), .ixs 1 (.t 21) (.t 22), none⟩,
  ⟨(some 24), .load false 1 (.t 23), none⟩,
  ⟨(some 25), .mx [(.t 24), (.k (D.int .i64 (0)))], none⟩,
  ⟨(some 7), .mv (.t 25), none⟩])
 (.block 2 (.seq (.reg [⟨(some 27), .mv (.t 7), none⟩,
  ⟨(some 28), .bin .eql (.t 27) (.k (D.int .i64 (0))), none⟩,
  ⟨(some 26), .mv (.t 28), none⟩])
 (.cond (.t 26)
 (.reg [⟨(some 29), .call false 290 [], none⟩,
  ⟨none, .store 3 (.t 2) (.t 29), none⟩])
 (.seq (.reg [⟨(some 31), .mv (.t 7), none⟩,
  ⟨(some 32), .bin .leq (.t 31) (.k (D.int .i64 (9))), none⟩,
  ⟨(some 30), .mv (.t 32), none⟩])
 (.cond (.t 30)
 (.dreg [([], false, ⟨(some 33), .fad 2 (.t 2), none⟩),
  ([], false, ⟨(some 34), .load false 1 (.t 33), none⟩),
  ([0, 1], false, ⟨(some 35), .mv (.t 5), none⟩),
  ([0, 1, 2], false, ⟨(some 36), .mv (.t 7), none⟩),
  ([0, 1, 2], false, ⟨(some 37), .bin .sub (.t 36) (.k (D.int .i64 (1))), none⟩),
  ([0, 1], false, ⟨(some 38), .ixs 1 (.t 35) (.t 37), none⟩),
  ([0, 1], false, ⟨(some 39), .load false 1 (.t 38), none⟩),
  ([], true, ⟨(some 40), .bin .or (.t 34) (.t 39), none⟩),
  ([], true, ⟨(some 41), .fad 2 (.t 2), none⟩),
  ([], true, ⟨none, .store 1 (.t 41) (.t 40), none⟩)])
 (.seq (.reg [⟨(some 43), .mv (.t 7), none⟩,
  ⟨(some 44), .bin .eql (.t 43) (.k (D.int .i64 (22))), none⟩,
  ⟨(some 42), .mv (.t 44), none⟩])
 (.cond (.t 42)
 (.reg [⟨(some 45), .fad 2 (.t 2), none⟩,
  ⟨(some 46), .load false 1 (.t 45), none⟩,
  ⟨(some 47), .bin .andNot (.t 46) (.k (D.int .i64 (3))), none⟩,
  ⟨(some 48), .fad 2 (.t 2), none⟩,
  ⟨none, .store 1 (.t 48) (.t 47), none⟩])
 (.seq (.reg [⟨(some 50), .mv (.t 7), none⟩,
  ⟨(some 51), .bin .geq (.t 50) (.k (D.int .i64 (23))), none⟩,
  ⟨(some 52), .mv (.t 51), none⟩,
  ⟨(some 53), .mv (.t 7), (some (52, true))⟩,
  ⟨(some 54), .bin .leq (.t 53) (.k (D.int .i64 (29))), (some (52, true))⟩,
  ⟨(some 55), .pick (.t 52) (.t 54) (.k (D.bool false)), none⟩,
  ⟨(some 49), .mv (.t 55), none⟩])
 (.cond (.t 49)
 (.dreg [([], false, ⟨(some 56), .fad 2 (.t 2), none⟩),
  ([], false, ⟨(some 57), .load false 1 (.t 56), none⟩),
  ([0, 1], false, ⟨(some 58), .mv (.t 5), none⟩),
  ([0, 1, 2], false, ⟨(some 59), .mv (.t 7), none⟩),
  ([0, 1, 2], false, ⟨(some 60), .bin .sub (.t 59) (.k (D.int .i64 (21))), none⟩),
  ([0, 1], false, ⟨(some 61), .ixs 1 (.t 58) (.t 60), none⟩),
  ([0, 1], false, ⟨(some 62), .load false 1 (.t 61), none⟩),
  ([], true, ⟨(some 63), .bin .andNot (.t 57) (.t 62), none⟩),
  ([], true, ⟨(some 64), .fad 2 (.t 2), none⟩),
  ([], true, ⟨none, .store 1 (.t 64) (.t 63), none⟩)])
 (.seq (.reg [⟨(some 66), .mv (.t 7), none⟩,
  ⟨(some 67), .bin .geq (.t 66) (.k (D.int .i64 (30))), none⟩,
  ⟨(some 68), .mv (.t 67), none⟩,
  ⟨(some 69), .mv (.t 7), (some (68, true))⟩,
  ⟨(some 70), .bin .leq (.t 69) (.k (D.int .i64 (37))), (some (68, true))⟩,
  ⟨(some 71), .pick (.t 68) (.t 70) (.k (D.bool false)), none⟩,
  ⟨(some 65), .mv (.t 71), none⟩])
 (.cond (.t 65)
 (.reg [⟨(some 72), .mv (.t 7), none⟩,
  ⟨(some 73), .bin .sub (.t 72) (.k (D.int .i64 (30))), none⟩,
  ⟨(some 74), .fad 0 (.t 2), none⟩,
  ⟨none, .store 1 (.t 74) (.t 73), none⟩])
 (.seq (.reg [⟨(some 76), .mv (.t 7), none⟩,
  ⟨(some 77), .bin .geq (.t 76) (.k (D.int .i64 (40))), none⟩,
  ⟨(some 78), .mv (.t 77), none⟩,
  ⟨(some 79), .mv (.t 7), (some (78, true))⟩,
  ⟨(some 80), .bin .leq (.t 79) (.k (D.int .i64 (47))), (some (78, true))⟩,
  ⟨(some 81), .pick (.t 78) (.t 80) (.k (D.bool false)), none⟩,
  ⟨(some 75), .mv (.t 81), none⟩])
 (.cond (.t 75)
 (.reg [⟨(some 82), .mv (.t 7), none⟩,
  ⟨(some 83), .bin .sub (.t 82) (.k (D.int .i64 (40))), none⟩,
  ⟨(some 84), .fad 1 (.t 2), none⟩,
  ⟨none, .store 1 (.t 84) (.t 83), none⟩])
 (.seq (.reg [⟨(some 86), .mv (.t 7), none⟩,
  ⟨(some 87), .bin .geq (.t 86) (.k (D.int .i64 (90))), none⟩,
  ⟨(some 88), .mv (.t 87), none⟩,
  ⟨(some 89), .mv (.t 7), (some (88, true))⟩,
  ⟨(some 90), .bin .leq (.t 89) (.k (D.int .i64 (97))), (some (88, true))⟩,
  ⟨(some 91), .pick (.t 88) (.t 90) (.k (D.bool false)), none⟩,
  ⟨(some 85), .mv (.t 91), none⟩])
 (.cond (.t 85)
 (.reg [⟨(some 92), .mv (.t 7), none⟩,
  ⟨(some 93), .bin .sub (.t 92) (.k (D.int .i64 (82))), none⟩,
  ⟨(some 94), .fad 0 (.t 2), none⟩,
  ⟨none, .store 1 (.t 94) (.t 93), none⟩])
 (.seq (.reg [⟨(some 96), .mv (.t 7), none⟩,
  ⟨(some 97), .bin .geq (.t 96) (.k (D.int .i64 (100))), none⟩,
  ⟨(some 98), .mv (.t 97), none⟩,
  ⟨(some 99), .mv (.t 7), (some (98, true))⟩,
  ⟨(some 100), .bin .leq (.t 99) (.k (D.int .i64 (107))), (some (98, true))⟩,
  ⟨(some 101), .pick (.t 98) (.t 100) (.k (D.bool false)), none⟩,
  ⟨(some 95), .mv (.t 101), none⟩])
 (.cond (.t 95)
 (.reg [⟨(some 102), .mv (.t 7), none⟩,
  ⟨(some 103), .bin .sub (.t 102) (.k (D.int .i64 (92))), none⟩,
  ⟨(some 104), .fad 1 (.t 2), none⟩,
  ⟨none, .store 1 (.t 104) (.t 103), none⟩])
 (.seq (.reg [⟨(some 106), .mv (.t 7), none⟩,
  ⟨(some 107), .bin .eql (.t 106) (.k (D.int .i64 (39))), none⟩,
  ⟨(some 105), .mv (.t 107), none⟩])
 (.cond (.t 105)
 (.reg [⟨(some 108), .fad 0 (.t 2), none⟩,
  ⟨none, .store 1 (.t 108) (.k (D.int .i64 (-1))), none⟩])
 (.seq (.reg [⟨(some 110), .mv (.t 7), none⟩,
  ⟨(some 111), .bin .eql (.t 110) (.k (D.int .i64 (49))), none⟩,
  ⟨(some 109), .mv (.t 111), none⟩])
 (.cond (.t 109)
 (.reg [⟨(some 112), .fad 1 (.t 2), none⟩,
  ⟨none, .store 1 (.t 112) (.k (D.int .i64 (-1))), none⟩])
 (.seq (.reg [⟨(some 114), .mv (.t 7), none⟩,
  ⟨(some 115), .bin .eql (.t 114) (.k (D.int .i64 (38))), none⟩,
  ⟨(some 116), .mv (.t 115), none⟩,
  ⟨(some 117), .mv (.t 7), (some (116, false))⟩,
  ⟨(some 118), .bin .eql (.t 117) (.k (D.int .i64 (48))), (some (116, false))⟩,
  ⟨(some 119), .pick (.t 116) (.k (D.bool true)) (.t 118), none⟩,
  ⟨(some 113), .mv (.t 119), none⟩])
 (.cond (.t 113)
 (.seq (.reg [⟨(some 121), .mv (.t 1), none⟩,
  ⟨(some 122), .mv (.t 6), none⟩,
  ⟨(some 123), .bin .add (.t 122) (.k (D.int .i64 (1))), none⟩,
  ⟨(some 124), .slc 1 (.t 121) (some (.t 123)) none, none⟩,
  ⟨(some 125), .call false 316 [(.t 124)], none⟩,
  ⟨(some 120), .mv (.t 125), none⟩,
  ⟨(some 126), .ext (.t 120) 0, none⟩,
  ⟨(some 127), .ext (.t 120) 1, none⟩,
  ⟨(some 8), .mv (.t 126), none⟩,
  ⟨(some 9), .mv (.t 127), none⟩])
 (.seq (.reg [⟨(some 128), .mv (.t 6), none⟩,
  ⟨(some 129), .mv (.t 9), none⟩,
  ⟨(some 130), .bin .add (.t 128) (.t 129), none⟩,
  ⟨(some 6), .mv (.t 130), none⟩])
 (.seq (.reg [⟨(some 131), .mv (.t 8), none⟩,
  ⟨(some 132), .bin .neq (.t 131) (.k (D.int .i64 (-2))), none⟩,
  ⟨(some 133), .mv (.t 132), none⟩,
  ⟨(some 134), .mv (.t 7), (some (133, true))⟩,
  ⟨(some 135), .bin .eql (.t 134) (.k (D.int .i64 (38))), (some (133, true))⟩,
  ⟨(some 136), .pick (.t 133) (.t 135) (.k (D.bool false)), none⟩])
 (.cond (.t 136)
 (.reg [⟨(some 137), .mv (.t 8), none⟩,
  ⟨(some 138), .fad 0 (.t 2), none⟩,
  ⟨none, .store 1 (.t 138) (.t 137), none⟩])
 (.seq (.reg [⟨(some 139), .mv (.t 8), none⟩,
  ⟨(some 140), .bin .neq (.t 139) (.k (D.int .i64 (-2))), none⟩])
 (.cond (.t 140)
 (.reg [⟨(some 141), .mv (.t 8), none⟩,
  ⟨(some 142), .fad 1 (.t 2), none⟩,
  ⟨none, .store 1 (.t 142) (.t 141), none⟩])
 .skip))))))
 .skip)))))))))))))))))))))))))
 (.reg [⟨(some 19), .mv (.t 6), none⟩,
  ⟨(some 20), .bin .add (.t 19) (.k (D.int .i64 (1))), none⟩,
  ⟨(some 6), .mv (.t 20), none⟩]))))))
 (.seq (.reg [⟨(some 143), .load true 3 (.t 2), none⟩,
  ⟨none, .store 3 (.t 4) (.t 143), none⟩])
 .ret)))))⟩
def a169 : Ann := ⟨[(4, [(0, ⟨false, 0, false⟩), (2, ⟨false, 0, false⟩), (6, ⟨false, 0, false⟩), (7, ⟨false, 0, false⟩)])], [⟨false, 0, false⟩], []⟩
def s169 : SFun := ⟨3, 37, [], [(.tmp 6, ⟨false, 0, false⟩)],
 (.seq (.reg [⟨(some 6), .mv (.k (D.bool false)), none⟩])
 (.seq (.seq (.reg [⟨(some 8), .mv (.t 0), none⟩,
  ⟨(some 9), .len (.t 8), none⟩,
  ⟨(some 10), .mv (.t 1), none⟩,
  ⟨(some 11), .len (.t 10), none⟩,
  ⟨(some 12), .bin .add (.t 11) (.k (D.int .i64 (80))), none⟩,
  ⟨(some 13), .bin .neq (.t 9) (.t 12), none⟩,
  ⟨(some 14), .mv (.t 13), none⟩,
  ⟨(some 15), .mv (.t 0), (some (14, false))⟩,
  ⟨(some 16), .mv (.t 1), (some (14, false))⟩,
  ⟨(some 17), .len (.t 16), (some (14, false))⟩,
  ⟨(some 18), .slc 1 (.t 15) none (some (.t 17)), (some (14, false))⟩,
  ⟨(some 19), .mv (.t 1), (some (14, false))⟩,
  ⟨(some 20), .call false 172 [(.t 18), (.t 19)], (some (14, false))⟩,
  ⟨(some 21), .una .not (.t 20), (some (14, false))⟩,
  ⟨(some 22), .pick (.t 14) (.k (D.bool true)) (.t 21), none⟩])
 (.cond (.t 22)
 (.seq (.reg [⟨(some 6), .mv (.k (D.bool false)), none⟩])
 .ret)
 .skip))
 (.seq (.seq (.reg [⟨(some 23), .mv (.t 1), none⟩,
  ⟨(some 24), .len (.t 23), none⟩,
  ⟨(some 7), .mv (.t 24), none⟩])
 (.block 0 (.loop [(0, ⟨false, 0, false⟩), (2, ⟨false, 0, false⟩), (6, ⟨false, 0, false⟩), (7, ⟨false, 0, false⟩)]
 (.seq (.seq (.reg [⟨(some 25), .mv (.t 7), none⟩,
  ⟨(some 26), .mv (.t 0), none⟩,
  ⟨(some 27), .len (.t 26), none⟩,
  ⟨(some 28), .bin .lss (.t 25) (.t 27), none⟩])
 (.cond (.t 28)
 .skip
 (.exit 0)))
 (.seq (.block 1 (.seq (.reg [⟨(some 31), .mv (.t 0), none⟩,
  ⟨(some 32), .mv (.t 7), none⟩,
  ⟨(some 33), .ixs 1 (.t 31) (.t 32), none⟩,
  ⟨(some 34), .load false 1 (.t 33), none⟩,
  ⟨(some 35), .mv (.t 2), none⟩,
  ⟨(some 36), .bin .neq (.t 34) (.t 35), none⟩])
 (.cond (.t 36)
 (.seq (.reg [⟨(some 6), .mv (.k (D.bool false)), none⟩])
 .ret)
 .skip)))
 (.reg [⟨(some 29), .mv (.t 7), none⟩,
  ⟨(some 30), .bin .add (.t 29) (.k (D.int .i64 (1))), none⟩,
  ⟨(some 7), .mv (.t 30), none⟩]))))))
 (.seq (.reg [⟨(some 6), .mv (.k (D.bool true)), none⟩])
 .ret))))⟩
def a347 : Ann := ⟨[], [⟨true, 1, false⟩], []⟩
def s347 : SFun := ⟨2, 42, [], [(.tmp 4, ⟨true, 1, false⟩)],
 (.seq (.reg [⟨(some 4), .mv (.k .sn), none⟩])
 (.seq (.block 0 (.seq (.reg [⟨(some 6), .mv (.t 0), none⟩,
  ⟨(some 7), .bin .eql (.t 6) (.k (D.int .i64 (-1))), none⟩,
  ⟨(some 5), .mv (.t 7), none⟩])
 (.cond (.t 5)
 (.seq (.reg [⟨(some 4), .mv (.k .sn), none⟩])
 .ret)
 (.seq (.reg [⟨(some 9), .mv (.t 0), none⟩,
  ⟨(some 10), .bin .lss (.t 9) (.k (D.int .i64 (8))), none⟩,
  ⟨(some 8), .mv (.t 10), none⟩])
 (.cond (.t 8)
 (.seq (.reg [⟨(some 11), .mv (.t 1), none⟩,
  ⟨(some 12), .mv (.t 0), none⟩,
  ⟨(some 13), .bin .add (.t 11) (.t 12), none⟩,
  ⟨(some 14), .bsl true 1 1 [(D.int .i64 (0))] [(0, (.t 13))], none⟩,
  ⟨(some 4), .mv (.t 14), none⟩])
 .ret)
 (.seq (.reg [⟨(some 16), .mv (.t 0), none⟩,
  ⟨(some 17), .bin .lss (.t 16) (.k (D.int .i64 (16))), none⟩,
  ⟨(some 15), .mv (.t 17), none⟩])
 (.cond (.t 15)
 (.seq (.reg [⟨(some 18), .mv (.t 1), none⟩,
  ⟨(some 19), .bin .add (.t 18) (.k (D.int .i64 (60))), none⟩,
  ⟨(some 20), .mv (.t 0), none⟩,
  ⟨(some 21), .bin .add (.t 19) (.t 20), none⟩,
  ⟨(some 22), .bin .sub (.t 21) (.k (D.int .i64 (8))), none⟩,
  ⟨(some 23), .bsl true 1 1 [(D.int .i64 (0))] [(0, (.t 22))], none⟩,
  ⟨(some 4), .mv (.t 23), none⟩])
 .ret)
 (.seq (.reg [⟨(some 25), .mv (.t 0), none⟩,
  ⟨(some 26), .bin .leq (.t 25) (.k (D.int .i64 (255))), none⟩,
  ⟨(some 24), .mv (.t 26), none⟩])
 (.cond (.t 24)
 (.seq (.reg [⟨(some 27), .mv (.t 1), none⟩,
  ⟨(some 28), .bin .add (.t 27) (.k (D.int .i64 (8))), none⟩,
  ⟨(some 29), .mv (.t 0), none⟩,
  ⟨(some 30), .bsl true 1 3 [(D.int .i64 (0))] [(0, (.t 28)), (1, (.k (D.int .i64 (5)))), (2, (.t 29))], none⟩,
  ⟨(some 4), .mv (.t 30), none⟩])
 .ret)
 .skip)))))))))
 (.seq (.reg [⟨(some 31), .mv (.t 1), none⟩,
  ⟨(some 32), .bin .add (.t 31) (.k (D.int .i64 (8))), none⟩,
  ⟨(some 33), .mv (.t 0), none⟩,
  ⟨(some 34), .bin .shr (.t 33) (.k (D.int .u64 (16))), none⟩,
  ⟨(some 35), .bin .and (.t 34) (.k (D.int .i64 (255))), none⟩,
  ⟨(some 36), .mv (.t 0), none⟩,
  ⟨(some 37), .bin .shr (.t 36) (.k (D.int .u64 (8))), none⟩,
  ⟨(some 38), .bin .and (.t 37) (.k (D.int .i64 (255))), none⟩,
  ⟨(some 39), .mv (.t 0), none⟩,
  ⟨(some 40), .bin .and (.t 39) (.k (D.int .i64 (255))), none⟩,
  ⟨(some 41), .bsl true 1 5 [(D.int .i64 (0))] [(0, (.t 32)), (1, (.k (D.int .i64 (2)))), (2, (.t 35)), (3, (.t 38)), (4, (.t 40))], none⟩,
  ⟨(some 4), .mv (.t 41), none⟩])
 .ret)))⟩
def a342 : Ann := ⟨[(3, [(7, ⟨false, 0, false⟩), (8, ⟨false, 0, false⟩), (9, ⟨false, 0, false⟩), (1, ⟨true, 0, false⟩), (3, ⟨true, 1, false⟩)])], [⟨true, 1, false⟩], []⟩
def s342 : SFun := ⟨1, 34, [], [(.tmp 2, ⟨true, 1, false⟩)],
 (.seq (.reg [⟨(some 1), .box 3 (.t 0), none⟩,
  ⟨(some 2), .mv (.k .sn), none⟩])
 (.seq (.reg [⟨(some 6), .bsl true 1 1 [(D.int .i64 (0))] [(0, (.k (D.int .i64 (0))))], none⟩,
  ⟨(some 3), .mv (.t 6), none⟩])
 (.seq (.seq (.reg [⟨(some 7), .call false 345 [], none⟩,
  ⟨(some 8), .len (.t 7), none⟩,
  ⟨(some 9), .mv (.k (D.int .i64 (0))), none⟩])
 (.block 0 (.loop [(7, ⟨false, 0, false⟩), (8, ⟨false, 0, false⟩), (9, ⟨false, 0, false⟩), (1, ⟨true, 0, false⟩), (3, ⟨true, 1, false⟩)]
 (.seq (.reg [⟨(some 10), .bin .lss (.t 9) (.t 8), none⟩])
 (.seq (.cond (.t 10)
 .skip
 (.exit 0))
 (.seq (.block 1 (.seq (.reg [⟨(some 11), .mv (.t 9), none⟩,
  ⟨(some 12), .ixs 1 (.t 7) (.t 9), none⟩,
  ⟨(some 13), .load false 1 (.t 12), none⟩,
  ⟨(some 4), .mv (.t 11), none⟩,
  ⟨(some 5), .mv (.t 13), none⟩])
 (.seq (.reg [⟨(some 14), .fad 2 (.t 1), none⟩,
  ⟨(some 15), .load false 1 (.t 14), none⟩,
  ⟨(some 16), .mv (.t 4), none⟩,
  ⟨(some 17), .bin .shr (.t 15) (.t 16), none⟩,
  ⟨(some 18), .bin .and (.t 17) (.k (D.int .i64 (1))), none⟩,
  ⟨(some 19), .bin .eql (.t 18) (.k (D.int .i64 (1))), none⟩])
 (.cond (.t 19)
 (.reg [⟨(some 20), .mv (.t 3), none⟩,
  ⟨(some 21), .mv (.t 5), none⟩,
  ⟨(some 22), .bsl false 1 1 [(D.int .i64 (0))] [(0, (.t 21))], none⟩,
  ⟨(some 23), .append 1 8 (.t 20) (.t 22), none⟩,
  ⟨(some 3), .mv (.t 23), none⟩])
 .skip))))
 (.reg [⟨(some 24), .bin .add (.t 9) (.k (D.int .i64 (1))), none⟩,
  ⟨(some 9), .mv (.t 24), none⟩])))))))
 (.seq (.dreg [([], false, ⟨(some 25), .mv (.t 3), none⟩),
  ([0], false, ⟨(some 26), .fad 0 (.t 1), none⟩),
  ([0], false, ⟨(some 27), .load false 1 (.t 26), none⟩),
  ([0], false, ⟨(some 28), .callr 347 [(.t 27), (.k (D.int .i64 (30)))], none⟩),
  ([], false, ⟨(some 29), .append 1 8 (.t 25) (.t 28), none⟩),
  ([0, 1, 2, 3, 4], false, ⟨(some 30), .fad 1 (.t 1), none⟩),
  ([0, 1, 2, 3, 4], false, ⟨(some 31), .load false 1 (.t 30), none⟩),
  ([], true, ⟨(some 32), .call false 347 [(.t 31), (.k (D.int .i64 (40)))], none⟩),
  ([], true, ⟨(some 33), .append 1 8 (.t 29) (.t 32), none⟩),
  ([], true, ⟨(some 2), .mv (.t 33), none⟩)])
 .ret))))⟩
def a341 : Ann := ⟨[], [⟨true, 1, false⟩], []⟩
def s341 : SFun := ⟨2, 10, [], [(.tmp 4, ⟨true, 1, false⟩)],
 (.seq (.reg [⟨(some 2), .box 3 (.t 0), none⟩,
  ⟨(some 3), .box 3 (.t 1), none⟩,
  ⟨(some 4), .mv (.k .sn), none⟩])
 (.seq (.seq (.reg [⟨(some 5), .load true 3 (.t 2), none⟩,
  ⟨(some 6), .load true 3 (.t 3), none⟩,
  ⟨(some 7), .eqa false [1, 1, 1] (.t 5) (.t 6), none⟩])
 (.cond (.t 7)
 (.seq (.reg [⟨(some 4), .mv (.k .sn), none⟩])
 .ret)
 .skip))
 (.seq (.reg [⟨(some 8), .load true 3 (.t 3), none⟩,
  ⟨(some 9), .call false 342 [(.t 8)], none⟩,
  ⟨(some 4), .mv (.t 9), none⟩])
 .ret)))⟩
def a184 : Ann := ⟨[], [⟨false, 0, false⟩], []⟩
def s184 : SFun := ⟨0, 27, [], [(.tmp 0, ⟨false, 0, false⟩)],
 (.seq (.reg [⟨(some 0), .mv (.k (D.bool false)), none⟩])
 (.seq (.reg [⟨(some 2), .call false 290 [], none⟩,
  ⟨(some 3), .bsl false 1 5 [(D.int .i64 (0))] [(0, (.k (D.int .i64 (1)))), (1, (.k (D.int .i64 (38)))), (2, (.k (D.int .i64 (5)))), (3, (.k (D.int .i64 (200)))), (4, (.k (D.int .i64 (4))))], none⟩,
  ⟨(some 4), .call false 340 [(.t 2), (.t 3)], none⟩,
  ⟨(some 1), .alloc [(D.int .i64 (0)), (D.int .i64 (0)), (D.int .i64 (0))], none⟩,
  ⟨none, .store 3 (.t 1) (.t 4), none⟩])
 (.seq (.reg [⟨(some 5), .load true 3 (.t 1), none⟩,
  ⟨(some 6), .build [(D.int .i64 (0)), (D.int .i64 (0)), (D.int .i64 (0))] [(0, 1, (.k (D.int .i64 (200)))), (1, 1, (.k (D.int .i64 (-1)))), (2, 1, (.k (D.int .i64 (9))))], none⟩,
  ⟨(some 7), .eqa false [1, 1, 1] (.t 5) (.t 6), none⟩,
  ⟨(some 8), .mv (.t 7), none⟩,
  ⟨(some 9), .load true 3 (.t 1), (some (8, true))⟩,
  ⟨(some 10), .call false 342 [(.t 9)], (some (8, true))⟩,
  ⟨(some 11), .bsl false 1 6 [(D.int .i64 (0))] [(0, (.k (D.int .i64 (0)))), (1, (.k (D.int .i64 (1)))), (2, (.k (D.int .i64 (4)))), (3, (.k (D.int .i64 (38)))), (4, (.k (D.int .i64 (5)))), (5, (.k (D.int .i64 (200))))], (some (8, true))⟩,
  ⟨(some 12), .call false 172 [(.t 10), (.t 11)], (some (8, true))⟩,
  ⟨(some 13), .pick (.t 8) (.t 12) (.k (D.bool false)), none⟩,
  ⟨(some 14), .mv (.t 13), none⟩,
  ⟨(some 15), .load true 3 (.t 1), (some (14, true))⟩,
  ⟨(some 16), .call false 340 [(.t 15), (.k .sn)], (some (14, true))⟩,
  ⟨(some 17), .call false 290 [], (some (14, true))⟩,
  ⟨(some 18), .eqa false [1, 1, 1] (.t 16) (.t 17), (some (14, true))⟩,
  ⟨(some 19), .pick (.t 14) (.t 18) (.k (D.bool false)), none⟩,
  ⟨(some 20), .mv (.t 19), none⟩,
  ⟨(some 21), .load true 3 (.t 1), (some (20, true))⟩,
  ⟨(some 22), .load true 3 (.t 1), (some (20, true))⟩,
  ⟨(some 23), .call false 341 [(.t 21), (.t 22)], (some (20, true))⟩,
  ⟨(some 24), .len (.t 23), (some (20, true))⟩,
  ⟨(some 25), .bin .eql (.t 24) (.k (D.int .i64 (0))), (some (20, true))⟩,
  ⟨(some 26), .pick (.t 20) (.t 25) (.k (D.bool false)), none⟩,
  ⟨(some 0), .mv (.t 26), none⟩])
 .ret)))⟩
def a180 : Ann := ⟨[], [⟨false, 0, false⟩], []⟩
def s180 : SFun := ⟨1, 21, [], [(.tmp 2, ⟨false, 0, false⟩)],
 (.seq (.reg [⟨(some 2), .mv (.k (D.int .i64 (0))), none⟩])
 (.seq (.seq (.reg [⟨(some 3), .mv (.t 0), none⟩,
  ⟨(some 4), .call false 174 [(.t 3), (.k (D.int .i64 (0))), (.k (D.int .i64 (3)))], none⟩])
 (.block 0 (.seq (.reg [⟨(some 6), .bin .eql (.t 4) (.k (D.int .i64 (0))), none⟩,
  ⟨(some 5), .mv (.t 6), none⟩])
 (.cond (.t 5)
 (.seq (.reg [⟨(some 2), .mv (.k (D.int .i64 (-1))), none⟩])
 .ret)
 (.seq (.reg [⟨(some 8), .bin .eql (.t 4) (.k (D.int .i64 (1))), none⟩,
  ⟨(some 7), .mv (.t 8), none⟩])
 (.cond (.t 7)
 (.seq (.reg [⟨(some 9), .mv (.t 0), none⟩,
  ⟨(some 10), .bin .quo (.t 9) (.k (D.int .i64 (4))), none⟩,
  ⟨(some 11), .call false 174 [(.t 10), (.k (D.int .i64 (0))), (.k (D.int .i64 (15)))], none⟩,
  ⟨(some 2), .mv (.t 11), none⟩])
 .ret)
 (.seq (.reg [⟨(some 13), .bin .eql (.t 4) (.k (D.int .i64 (2))), none⟩,
  ⟨(some 12), .mv (.t 13), none⟩])
 (.cond (.t 12)
 (.seq (.reg [⟨(some 14), .mv (.t 0), none⟩,
  ⟨(some 15), .bin .quo (.t 14) (.k (D.int .i64 (4))), none⟩,
  ⟨(some 16), .call false 174 [(.t 15), (.k (D.int .i64 (0))), (.k (D.int .i64 (255)))], none⟩,
  ⟨(some 2), .mv (.t 16), none⟩])
 .ret)
 .skip))))))))
 (.seq (.reg [⟨(some 17), .mv (.t 0), none⟩,
  ⟨(some 18), .bin .quo (.t 17) (.k (D.int .i64 (4))), none⟩,
  ⟨(some 19), .call false 174 [(.t 18), (.k (D.int .i64 (0))), (.k (D.int .i64 (16777215)))], none⟩,
  ⟨(some 20), .bin .add (.k (D.int .i64 (16777216))) (.t 19), none⟩,
  ⟨(some 2), .mv (.t 20), none⟩])
 .ret)))⟩
def a65 : Ann := ⟨[], [⟨false, 0, false⟩], []⟩
def s65 : SFun := ⟨1, 13, [], [(.cell 2 true 3, ⟨false, 0, false⟩)],
 (.seq (.reg [⟨(some 1), .box 3 (.t 0), none⟩,
  ⟨(some 2), .alloc [(D.int .i64 (0)), (D.int .i64 (0)), (D.int .i64 (0))], none⟩])
 (.seq (.dreg [([], false, ⟨(some 3), .fad 0 (.t 1), none⟩),
  ([], false, ⟨(some 4), .load false 1 (.t 3), none⟩),
  ([], false, ⟨(some 5), .callr 180 [(.t 4)], none⟩),
  ([0, 1, 2], false, ⟨(some 6), .fad 1 (.t 1), none⟩),
  ([0, 1, 2], false, ⟨(some 7), .load false 1 (.t 6), none⟩),
  ([], false, ⟨(some 8), .callr 180 [(.t 7)], none⟩),
  ([0, 1, 2, 3, 4, 5], false, ⟨(some 9), .fad 2 (.t 1), none⟩),
  ([0, 1, 2, 3, 4, 5], false, ⟨(some 10), .load false 1 (.t 9), none⟩),
  ([], true, ⟨(some 11), .call false 174 [(.t 10), (.k (D.int .i64 (0))), (.k (D.int .i64 (255)))], none⟩),
  ([], true, ⟨(some 12), .build [(D.int .i64 (0)), (D.int .i64 (0)), (D.int .i64 (0))] [(0, 1, (.t 5)), (1, 1, (.t 8)), (2, 1, (.t 11))], none⟩),
  ([], true, ⟨none, .store 3 (.t 2) (.t 12), none⟩)])
 .ret))⟩
def a186 : Ann := ⟨[(3, [(1, ⟨false, 0, false⟩), (2, ⟨false, 0, false⟩), (3, ⟨false, 0, false⟩), (10, ⟨false, 0, false⟩), (4, ⟨true, 0, false⟩), (9, ⟨true, 1, false⟩)]), (12, [(2, ⟨false, 0, false⟩), (12, ⟨false, 0, false⟩), (4, ⟨true, 0, false⟩), (9, ⟨true, 1, false⟩)])], [⟨false, 0, false⟩], []⟩
def s186 : SFun := ⟨4, 90, [], [(.tmp 8, ⟨false, 0, false⟩)],
 (.seq (.reg [⟨(some 4), .box 3 (.t 0), none⟩,
  ⟨(some 8), .mv (.k (D.bool false)), none⟩])
 (.seq (.reg [⟨(some 9), .mv (.k .sn), none⟩])
 (.seq (.seq (.reg [⟨(some 10), .mv (.k (D.int .i64 (0))), none⟩])
 (.block 0 (.loop [(1, ⟨false, 0, false⟩), (2, ⟨false, 0, false⟩), (3, ⟨false, 0, false⟩), (10, ⟨false, 0, false⟩), (4, ⟨true, 0, false⟩), (9, ⟨true, 1, false⟩)]
 (.seq (.seq (.reg [⟨(some 14), .mv (.t 10), none⟩,
  ⟨(some 15), .mv (.t 1), none⟩,
  ⟨(some 16), .len (.t 15), none⟩,
  ⟨(some 17), .bin .lss (.t 14) (.t 16), none⟩,
  ⟨(some 18), .mv (.t 17), none⟩,
  ⟨(some 19), .mv (.t 10), (some (18, true))⟩,
  ⟨(some 20), .bin .lss (.t 19) (.k (D.int .i64 (14))), (some (18, true))⟩,
  ⟨(some 21), .pick (.t 18) (.t 20) (.k (D.bool false)), none⟩])
 (.cond (.t 21)
 .skip
 (.exit 0)))
 (.seq (.block 1 (.seq (.reg [⟨(some 24), .mv (.t 1), none⟩,
  ⟨(some 25), .mv (.t 10), none⟩,
  ⟨(some 26), .ixs 1 (.t 24) (.t 25), none⟩,
  ⟨(some 27), .load false 1 (.t 26), none⟩,
  ⟨(some 28), .call false 174 [(.t 27), (.k (D.int .i64 (-1))), (.k (D.int .i64 (110)))], none⟩,
  ⟨(some 11), .mv (.t 28), none⟩])
 (.seq (.seq (.reg [⟨(some 29), .mv (.t 1), none⟩,
  ⟨(some 30), .mv (.t 10), none⟩,
  ⟨(some 31), .ixs 1 (.t 29) (.t 30), none⟩,
  ⟨(some 32), .load false 1 (.t 31), none⟩,
  ⟨(some 33), .bin .rem (.t 32) (.k (D.int .i64 (9))), none⟩,
  ⟨(some 34), .bin .eql (.t 33) (.k (D.int .i64 (4))), none⟩])
 (.cond (.t 34)
 (.reg [⟨(some 35), .bsl false 1 8 [(D.int .i64 (0))] [(0, (.k (D.int .i64 (38)))), (1, (.k (D.int .i64 (48)))), (2, (.k (D.int .i64 (5)))), (3, (.k (D.int .i64 (2)))), (4, (.k (D.int .i64 (300)))), (5, (.k (D.int .i64 (255)))), (6, (.k (D.int .i64 (0)))), (7, (.k (D.int .i64 (38))))], none⟩,
  ⟨(some 36), .mv (.t 1), none⟩,
  ⟨(some 37), .mv (.t 10), none⟩,
  ⟨(some 38), .ixs 1 (.t 36) (.t 37), none⟩,
  ⟨(some 39), .load false 1 (.t 38), none⟩,
  ⟨(some 40), .bin .quo (.t 39) (.k (D.int .i64 (9))), none⟩,
  ⟨(some 41), .call false 174 [(.t 40), (.k (D.int .i64 (0))), (.k (D.int .i64 (7)))], none⟩,
  ⟨(some 42), .ixs 1 (.t 35) (.t 41), none⟩,
  ⟨(some 43), .load false 1 (.t 42), none⟩,
  ⟨(some 11), .mv (.t 43), none⟩])
 .skip))
 (.reg [⟨(some 44), .mv (.t 9), none⟩,
  ⟨(some 45), .mv (.t 11), none⟩,
  ⟨(some 46), .bsl false 1 1 [(D.int .i64 (0))] [(0, (.t 45))], none⟩,
  ⟨(some 47), .append 1 8 (.t 44) (.t 46), none⟩,
  ⟨(some 9), .mv (.t 47), none⟩]))))
 (.reg [⟨(some 22), .mv (.t 10), none⟩,
  ⟨(some 23), .bin .add (.t 22) (.k (D.int .i64 (1))), none⟩,
  ⟨(some 10), .mv (.t 23), none⟩]))))))
 (.seq (.seq (.reg [⟨(some 48), .mv (.t 3), none⟩,
  ⟨(some 49), .una .not (.t 48), none⟩])
 (.cond (.t 49)
 (.seq (.reg [⟨(some 9), .mv (.k .sn), none⟩])
 (.seq (.reg [⟨(some 12), .mv (.k (D.int .i64 (0))), none⟩])
 (.block 2 (.loop [(2, ⟨false, 0, false⟩), (12, ⟨false, 0, false⟩), (4, ⟨true, 0, false⟩), (9, ⟨true, 1, false⟩)]
 (.seq (.seq (.reg [⟨(some 50), .mv (.t 12), none⟩,
  ⟨(some 51), .mv (.t 2), none⟩,
  ⟨(some 52), .len (.t 51), none⟩,
  ⟨(some 53), .bin .lss (.t 50) (.t 52), none⟩,
  ⟨(some 54), .mv (.t 53), none⟩,
  ⟨(some 55), .mv (.t 12), (some (54, true))⟩,
  ⟨(some 56), .bin .lss (.t 55) (.k (D.int .i64 (14))), (some (54, true))⟩,
  ⟨(some 57), .pick (.t 54) (.t 56) (.k (D.bool false)), none⟩])
 (.cond (.t 57)
 .skip
 (.exit 2)))
 (.seq (.block 3 (.reg [⟨(some 60), .mv (.t 9), none⟩,
  ⟨(some 61), .mv (.t 2), none⟩,
  ⟨(some 62), .mv (.t 12), none⟩,
  ⟨(some 63), .ixs 1 (.t 61) (.t 62), none⟩,
  ⟨(some 64), .load false 1 (.t 63), none⟩,
  ⟨(some 65), .call false 174 [(.t 64), (.k (D.int .i64 (-1))), (.k (D.int .i64 (65535)))], none⟩,
  ⟨(some 66), .bsl false 1 1 [(D.int .i64 (0))] [(0, (.t 65))], none⟩,
  ⟨(some 67), .append 1 8 (.t 60) (.t 66), none⟩,
  ⟨(some 9), .mv (.t 67), none⟩]))
 (.reg [⟨(some 58), .mv (.t 12), none⟩,
  ⟨(some 59), .bin .add (.t 58) (.k (D.int .i64 (1))), none⟩,
  ⟨(some 12), .mv (.t 59), none⟩])))))))
 .skip))
 (.seq (.reg [⟨(some 68), .mv (.t 9), none⟩,
  ⟨(some 69), .call false 170 [(.t 68), (.k (D.int .i64 (7)))], none⟩,
  ⟨(some 13), .mv (.t 69), none⟩])
 (.seq (.dreg [([], false, ⟨(some 70), .load true 3 (.t 4), none⟩),
  ([], false, ⟨(some 71), .callr 65 [(.t 70)], none⟩),
  ([0, 1], false, ⟨(some 72), .mv (.t 13), none⟩),
  ([0, 1, 2], false, ⟨(some 73), .mv (.t 9), none⟩),
  ([0, 1, 2], false, ⟨(some 74), .len (.t 73), none⟩),
  ([0, 1], false, ⟨(some 75), .slc 1 (.t 72) none (some (.t 74)), none⟩),
  ([], false, ⟨(some 76), .call true 340 [(.t 71), (.t 75)], none⟩),
  ([0, 1, 2, 3, 4, 5, 6], false, ⟨(some 77), .load true 3 (.t 4), none⟩),
  ([], false, ⟨(some 78), .callr 65 [(.t 77)], none⟩),
  ([0, 1, 2, 3, 4, 5, 6, 7, 8], false, ⟨(some 79), .mv (.t 9), none⟩),
  ([], true, ⟨(some 80), .call false 281 [(.t 78), (.t 79)], none⟩),
  ([], true, ⟨(some 81), .eqa false [1, 1, 1] (.t 76) (.t 80), none⟩),
  ([], true, ⟨(some 82), .mv (.t 81), none⟩),
  ([], false, ⟨(some 83), .mv (.t 13), (some (82, true))⟩),
  ([0], false, ⟨(some 84), .mv (.t 9), (some (82, true))⟩),
  ([], true, ⟨(some 85), .call false 169 [(.t 83), (.t 84), (.k (D.int .i64 (7)))], (some (82, true))⟩),
  ([], true, ⟨(some 86), .pick (.t 82) (.t 85) (.k (D.bool false)), none⟩),
  ([], true, ⟨(some 87), .mv (.t 86), none⟩),
  ([], true, ⟨(some 88), .call false 184 [], (some (87, true))⟩),
  ([], true, ⟨(some 89), .pick (.t 87) (.t 88) (.k (D.bool false)), none⟩),
  ([], true, ⟨(some 8), .mv (.t 89), none⟩)])
 .ret))))))⟩
def a185 : Ann := ⟨[(6, [(4, ⟨false, 0, false⟩), (7, ⟨false, 0, false⟩), (8, ⟨false, 0, false⟩), (50, ⟨false, 0, false⟩), (51, ⟨false, 0, false⟩), (52, ⟨false, 0, false⟩), (5, ⟨true, 0, false⟩), (6, ⟨true, 0, false⟩)])], [⟨false, 0, false⟩], []⟩
def s185 : SFun := ⟨2, 84, [], [(.tmp 4, ⟨false, 0, false⟩)],
 (.seq (.reg [⟨(some 2), .box 3 (.t 0), none⟩,
  ⟨(some 3), .box 3 (.t 1), none⟩,
  ⟨(some 4), .mv (.k (D.bool false)), none⟩])
 (.seq (.dreg [([], false, ⟨(some 11), .load true 3 (.t 2), none⟩),
  ([], false, ⟨(some 12), .call true 65 [(.t 11)], none⟩),
  ([0, 1], false, ⟨(some 13), .load true 3 (.t 3), none⟩),
  ([], false, ⟨(some 14), .call true 65 [(.t 13)], none⟩),
  ([0, 1, 2, 3], false, ⟨(some 5), .alloc [(D.int .i64 (0)), (D.int .i64 (0)), (D.int .i64 (0))], none⟩),
  ([0, 1, 2, 3, 4], false, ⟨(some 6), .alloc [(D.int .i64 (0)), (D.int .i64 (0)), (D.int .i64 (0))], none⟩),
  ([], true, ⟨none, .store 3 (.t 5) (.t 12), none⟩),
  ([], true, ⟨none, .store 3 (.t 6) (.t 14), none⟩)])
 (.seq (.dreg [([], false, ⟨(some 15), .load true 3 (.t 6), none⟩),
  ([], false, ⟨(some 16), .call true 342 [(.t 15)], none⟩),
  ([0, 1], false, ⟨(some 17), .load true 3 (.t 5), none⟩),
  ([0, 1, 2], false, ⟨(some 18), .load true 3 (.t 6), none⟩),
  ([], true, ⟨(some 19), .call false 341 [(.t 17), (.t 18)], none⟩),
  ([], true, ⟨(some 7), .mv (.t 16), none⟩),
  ([], true, ⟨(some 8), .mv (.t 19), none⟩)])
 (.seq (.seq (.dreg [([], false, ⟨(some 20), .load true 3 (.t 5), none⟩),
  ([0], false, ⟨(some 21), .mv (.t 7), none⟩),
  ([], false, ⟨(some 22), .call true 340 [(.t 20), (.t 21)], none⟩),
  ([0, 1, 2], false, ⟨(some 23), .load true 3 (.t 6), none⟩),
  ([], true, ⟨(some 24), .eqa true [1, 1, 1] (.t 22) (.t 23), none⟩),
  ([], true, ⟨(some 25), .mv (.t 24), none⟩),
  ([], true, ⟨(some 26), .mv (.t 7), (some (25, false))⟩),
  ([], true, ⟨(some 27), .len (.t 26), (some (25, false))⟩),
  ([], true, ⟨(some 28), .bin .lss (.t 27) (.k (D.int .i64 (1))), (some (25, false))⟩),
  ([], true, ⟨(some 29), .pick (.t 25) (.k (D.bool true)) (.t 28), none⟩),
  ([], true, ⟨(some 30), .mv (.t 29), none⟩),
  ([], true, ⟨(some 31), .mv (.t 7), (some (30, false))⟩),
  ([], true, ⟨(some 32), .ixs 1 (.t 31) (.k (D.int .i64 (0))), (some (30, false))⟩),
  ([], true, ⟨(some 33), .load false 1 (.t 32), (some (30, false))⟩),
  ([], true, ⟨(some 34), .bin .neq (.t 33) (.k (D.int .i64 (0))), (some (30, false))⟩),
  ([], true, ⟨(some 35), .pick (.t 30) (.k (D.bool true)) (.t 34), none⟩),
  ([], true, ⟨(some 36), .mv (.t 35), none⟩),
  ([], true, ⟨(some 37), .mv (.t 7), (some (36, false))⟩),
  ([], true, ⟨(some 38), .len (.t 37), (some (36, false))⟩),
  ([], true, ⟨(some 39), .bin .gtr (.t 38) (.k (D.int .i64 (19))), (some (36, false))⟩),
  ([], true, ⟨(some 40), .pick (.t 36) (.k (D.bool true)) (.t 39), none⟩),
  ([], true, ⟨(some 41), .mv (.t 40), none⟩),
  ([], false, ⟨(some 42), .mv (.t 8), (some (41, false))⟩),
  ([], false, ⟨(some 43), .len (.t 42), (some (41, false))⟩),
  ([], false, ⟨(some 44), .bin .eql (.t 43) (.k (D.int .i64 (0))), (some (41, false))⟩),
  ([0, 1, 2], false, ⟨(some 45), .load true 3 (.t 5), (some (41, false))⟩),
  ([0, 1, 2, 3], false, ⟨(some 46), .load true 3 (.t 6), (some (41, false))⟩),
  ([0, 1, 2], false, ⟨(some 47), .eqa false [1, 1, 1] (.t 45) (.t 46), (some (41, false))⟩),
  ([], true, ⟨(some 48), .binb .neq (.t 44) (.t 47), (some (41, false))⟩),
  ([], true, ⟨(some 49), .pick (.t 41) (.k (D.bool true)) (.t 48), none⟩)])
 (.cond (.t 49)
 (.seq (.reg [⟨(some 4), .mv (.k (D.bool false)), none⟩])
 .ret)
 .skip))
 (.seq (.seq (.reg [⟨(some 50), .mv (.t 7), none⟩,
  ⟨(some 51), .len (.t 50), none⟩,
  ⟨(some 52), .mv (.k (D.int .i64 (0))), none⟩])
 (.block 0 (.loop [(4, ⟨false, 0, false⟩), (7, ⟨false, 0, false⟩), (8, ⟨false, 0, false⟩), (50, ⟨false, 0, false⟩), (51, ⟨false, 0, false⟩), (52, ⟨false, 0, false⟩), (5, ⟨true, 0, false⟩), (6, ⟨true, 0, false⟩)]
 (.seq (.reg [⟨(some 53), .bin .lss (.t 52) (.t 51), none⟩])
 (.seq (.cond (.t 53)
 .skip
 (.exit 0))
 (.seq (.block 1 (.seq (.reg [⟨(some 54), .ixs 1 (.t 50) (.t 52), none⟩,
  ⟨(some 55), .load false 1 (.t 54), none⟩,
  ⟨(some 10), .mv (.t 55), none⟩])
 (.seq (.reg [⟨(some 56), .mv (.t 10), none⟩,
  ⟨(some 57), .bin .lss (.t 56) (.k (D.int .i64 (0))), none⟩,
  ⟨(some 58), .mv (.t 57), none⟩,
  ⟨(some 59), .mv (.t 10), (some (58, false))⟩,
  ⟨(some 60), .bin .gtr (.t 59) (.k (D.int .i64 (255))), (some (58, false))⟩,
  ⟨(some 61), .pick (.t 58) (.k (D.bool true)) (.t 60), none⟩])
 (.cond (.t 61)
 (.seq (.reg [⟨(some 4), .mv (.k (D.bool false)), none⟩])
 .ret)
 .skip))))
 (.reg [⟨(some 62), .bin .add (.t 52) (.k (D.int .i64 (1))), none⟩,
  ⟨(some 52), .mv (.t 62), none⟩])))))))
 (.seq (.dreg [([], false, ⟨(some 63), .load true 3 (.t 5), none⟩),
  ([0], false, ⟨(some 64), .load true 3 (.t 6), none⟩),
  ([], true, ⟨(some 65), .eqa false [1, 1, 1] (.t 63) (.t 64), none⟩),
  ([], true, ⟨(some 66), .mv (.t 65), none⟩),
  ([], false, ⟨(some 67), .load true 3 (.t 5), (some (66, false))⟩),
  ([0], false, ⟨(some 68), .mv (.t 8), (some (66, false))⟩),
  ([], false, ⟨(some 69), .call true 340 [(.t 67), (.t 68)], (some (66, false))⟩),
  ([0, 1, 2], false, ⟨(some 70), .load true 3 (.t 6), (some (66, false))⟩),
  ([], true, ⟨(some 71), .eqa false [1, 1, 1] (.t 69) (.t 70), (some (66, false))⟩),
  ([], true, ⟨(some 72), .pick (.t 66) (.k (D.bool true)) (.t 71), none⟩),
  ([], true, ⟨(some 73), .mv (.t 72), none⟩),
  ([], false, ⟨(some 74), .load true 3 (.t 5), (some (73, true))⟩),
  ([0], false, ⟨(some 75), .mv (.t 7), (some (73, true))⟩),
  ([], false, ⟨(some 76), .callr 340 [(.t 74), (.t 75)], (some (73, true))⟩),
  ([], false, ⟨(some 77), .callr 342 [(.t 76)], (some (73, true))⟩),
  ([0, 1, 2, 3], false, ⟨(some 78), .mv (.t 7), (some (73, true))⟩),
  ([], true, ⟨(some 79), .call false 172 [(.t 77), (.t 78)], (some (73, true))⟩),
  ([], true, ⟨(some 80), .pick (.t 73) (.t 79) (.k (D.bool false)), none⟩),
  ([], true, ⟨(some 81), .mv (.t 80), none⟩),
  ([], true, ⟨(some 82), .call false 184 [], (some (81, true))⟩),
  ([], true, ⟨(some 83), .pick (.t 81) (.t 82) (.k (D.bool false)), none⟩),
  ([], true, ⟨(some 4), .mv (.t 83), none⟩)])
 .ret))))))⟩
def a183 : Ann := ⟨[(3, [(1, ⟨false, 0, false⟩), (2, ⟨false, 0, false⟩), (3, ⟨false, 0, false⟩), (10, ⟨false, 0, false⟩), (4, ⟨true, 0, false⟩), (9, ⟨true, 1, false⟩)])], [⟨false, 0, false⟩], []⟩
def s183 : SFun := ⟨4, 147, [], [(.tmp 8, ⟨false, 0, false⟩)],
 (.seq (.reg [⟨(some 4), .box 3 (.t 0), none⟩,
  ⟨(some 8), .mv (.k (D.bool false)), none⟩])
 (.seq (.reg [⟨(some 9), .mv (.k .sn), none⟩])
 (.seq (.seq (.reg [⟨(some 10), .mv (.k (D.int .i64 (0))), none⟩])
 (.block 0 (.loop [(1, ⟨false, 0, false⟩), (2, ⟨false, 0, false⟩), (3, ⟨false, 0, false⟩), (10, ⟨false, 0, false⟩), (4, ⟨true, 0, false⟩), (9, ⟨true, 1, false⟩)]
 (.seq (.seq (.reg [⟨(some 21), .mv (.t 10), none⟩,
  ⟨(some 22), .mv (.t 1), none⟩,
  ⟨(some 23), .len (.t 22), none⟩,
  ⟨(some 24), .bin .lss (.t 21) (.t 23), none⟩,
  ⟨(some 25), .mv (.t 24), none⟩,
  ⟨(some 26), .mv (.t 10), (some (25, true))⟩,
  ⟨(some 27), .bin .lss (.t 26) (.k (D.int .i64 (10))), (some (25, true))⟩,
  ⟨(some 28), .pick (.t 25) (.t 27) (.k (D.bool false)), none⟩])
 (.cond (.t 28)
 .skip
 (.exit 0)))
 (.seq (.block 1 (.seq (.reg [⟨(some 31), .mv (.t 1), none⟩,
  ⟨(some 32), .mv (.t 10), none⟩,
  ⟨(some 33), .ixs 1 (.t 31) (.t 32), none⟩,
  ⟨(some 34), .load false 1 (.t 33), none⟩,
  ⟨(some 35), .call false 174 [(.t 34), (.k (D.int .i64 (0))), (.k (D.int .i64 (107)))], none⟩,
  ⟨(some 11), .mv (.t 35), none⟩])
 (.seq (.reg [⟨(some 36), .mv (.t 11), none⟩,
  ⟨(some 37), .bin .neq (.t 36) (.k (D.int .i64 (38))), none⟩,
  ⟨(some 38), .mv (.t 37), none⟩,
  ⟨(some 39), .mv (.t 11), (some (38, true))⟩,
  ⟨(some 40), .bin .neq (.t 39) (.k (D.int .i64 (48))), (some (38, true))⟩,
  ⟨(some 41), .pick (.t 38) (.t 40) (.k (D.bool false)), none⟩])
 (.cond (.t 41)
 (.reg [⟨(some 42), .mv (.t 9), none⟩,
  ⟨(some 43), .mv (.t 11), none⟩,
  ⟨(some 44), .bsl false 1 1 [(D.int .i64 (0))] [(0, (.t 43))], none⟩,
  ⟨(some 45), .append 1 8 (.t 42) (.t 44), none⟩,
  ⟨(some 9), .mv (.t 45), none⟩])
 .skip))))
 (.reg [⟨(some 29), .mv (.t 10), none⟩,
  ⟨(some 30), .bin .add (.t 29) (.k (D.int .i64 (1))), none⟩,
  ⟨(some 10), .mv (.t 30), none⟩]))))))
 (.seq (.reg [⟨(some 46), .mv (.t 2), none⟩,
  ⟨(some 47), .mv (.t 9), none⟩,
  ⟨(some 48), .len (.t 47), none⟩,
  ⟨(some 49), .call false 174 [(.t 46), (.k (D.int .i64 (0))), (.t 48)], none⟩,
  ⟨(some 12), .mv (.t 49), none⟩])
 (.seq (.reg [⟨(some 50), .load true 3 (.t 4), none⟩,
  ⟨(some 51), .call false 65 [(.t 50)], none⟩,
  ⟨(some 13), .alloc [(D.int .i64 (0)), (D.int .i64 (0)), (D.int .i64 (0))], none⟩,
  ⟨none, .store 3 (.t 13) (.t 51), none⟩])
 (.seq (.reg [⟨(some 52), .load true 3 (.t 13), none⟩,
  ⟨(some 14), .alloc [(D.int .i64 (0)), (D.int .i64 (0)), (D.int .i64 (0))], none⟩,
  ⟨none, .store 3 (.t 14) (.t 52), none⟩])
 (.seq (.seq (.reg [⟨(some 53), .mv (.t 12), none⟩,
  ⟨(some 54), .bin .gtr (.t 53) (.k (D.int .i64 (0))), none⟩])
 (.cond (.t 54)
 (.dreg [([], false, ⟨(some 55), .load true 3 (.t 14), none⟩),
  ([0], false, ⟨(some 56), .mv (.t 9), none⟩),
  ([0, 1], false, ⟨(some 57), .mv (.t 12), none⟩),
  ([0], false, ⟨(some 58), .slc 1 (.t 56) none (some (.t 57)), none⟩),
  ([], true, ⟨(some 59), .call false 340 [(.t 55), (.t 58)], none⟩),
  ([], true, ⟨none, .store 3 (.t 14) (.t 59), none⟩)])
 .skip))
 (.seq (.seq (.reg [⟨(some 60), .mv (.t 12), none⟩,
  ⟨(some 61), .mv (.t 9), none⟩,
  ⟨(some 62), .len (.t 61), none⟩,
  ⟨(some 63), .bin .lss (.t 60) (.t 62), none⟩])
 (.cond (.t 63)
 (.dreg [([], false, ⟨(some 64), .load true 3 (.t 14), none⟩),
  ([0], false, ⟨(some 65), .mv (.t 9), none⟩),
  ([0, 1], false, ⟨(some 66), .mv (.t 12), none⟩),
  ([0], false, ⟨(some 67), .slc 1 (.t 65) (some (.t 66)) none, none⟩),
  ([], true, ⟨(some 68), .call false 340 [(.t 64), (.t 67)], none⟩),
  ([], true, ⟨none, .store 3 (.t 14) (.t 68), none⟩)])
 .skip))
 (.seq (.reg [⟨(some 69), .mv (.t 3), none⟩,
  ⟨(some 70), .call false 174 [(.t 69), (.k (D.int .i64 (0))), (.k (D.int .i64 (5)))], none⟩,
  ⟨(some 15), .mv (.t 70), none⟩])
 (.seq (.dreg [([], false, ⟨(some 71), .bsl false 1 6 [(D.int .i64 (0))] [(0, (.k (D.int .i64 (3)))), (1, (.k (D.int .i64 (4)))), (2, (.k (D.int .i64 (5)))), (3, (.k (D.int .i64 (7)))), (4, (.k (D.int .i64 (8)))), (5, (.k (D.int .i64 (9))))], none⟩),
  ([0], false, ⟨(some 72), .mv (.t 15), none⟩),
  ([], false, ⟨(some 73), .ixs 1 (.t 71) (.t 72), none⟩),
  ([], false, ⟨(some 74), .load false 1 (.t 73), none⟩),
  ([0, 1, 2, 3], false, ⟨(some 75), .bsl false 1 6 [(D.int .i64 (0))] [(0, (.k (D.int .i64 (23)))), (1, (.k (D.int .i64 (24)))), (2, (.k (D.int .i64 (25)))), (3, (.k (D.int .i64 (27)))), (4, (.k (D.int .i64 (28)))), (5, (.k (D.int .i64 (29))))], none⟩),
  ([0, 1, 2, 3, 4], false, ⟨(some 76), .mv (.t 15), none⟩),
  ([0, 1, 2, 3], false, ⟨(some 77), .ixs 1 (.t 75) (.t 76), none⟩),
  ([0, 1, 2, 3], false, ⟨(some 78), .load false 1 (.t 77), none⟩),
  ([4, 5, 6, 7], false, ⟨(some 16), .mv (.t 74), none⟩),
  ([], true, ⟨(some 17), .mv (.t 78), none⟩)])
 (.seq (.reg [⟨(some 79), .bsl false 1 6 [(D.int .i64 (0))] [(0, (.k (D.int .i64 (4)))), (1, (.k (D.int .i64 (8)))), (2, (.k (D.int .i64 (16)))), (3, (.k (D.int .i64 (32)))), (4, (.k (D.int .i64 (64)))), (5, (.k (D.int .i64 (128))))], none⟩,
  ⟨(some 80), .mv (.t 15), none⟩,
  ⟨(some 81), .ixs 1 (.t 79) (.t 80), none⟩,
  ⟨(some 82), .load false 1 (.t 81), none⟩,
  ⟨(some 18), .mv (.t 82), none⟩])
 (.seq (.dreg [([], false, ⟨(some 83), .load true 3 (.t 13), none⟩),
  ([0], false, ⟨(some 84), .mv (.t 16), none⟩),
  ([0], false, ⟨(some 85), .bsl false 1 1 [(D.int .i64 (0))] [(0, (.t 84))], none⟩),
  ([], false, ⟨(some 86), .call true 340 [(.t 83), (.t 85)], none⟩),
  ([0, 1, 2, 3], false, ⟨(some 87), .load true 3 (.t 13), none⟩),
  ([0, 1, 2, 3, 4], false, ⟨(some 88), .mv (.t 16), none⟩),
  ([0, 1, 2, 3, 4, 5], false, ⟨(some 89), .mv (.t 17), none⟩),
  ([0, 1, 2, 3, 4], false, ⟨(some 90), .bsl false 1 2 [(D.int .i64 (0))] [(0, (.t 88)), (1, (.t 89))], none⟩),
  ([], false, ⟨(some 91), .call true 340 [(.t 87), (.t 90)], none⟩),
  ([0, 1, 2, 3, 4, 5, 6, 7, 8], false, ⟨(some 19), .alloc [(D.int .i64 (0)), (D.int .i64 (0)), (D.int .i64 (0))], none⟩),
  ([0, 1, 2, 3, 4, 5, 6, 7, 8, 9], false, ⟨(some 20), .alloc [(D.int .i64 (0)), (D.int .i64 (0)), (D.int .i64 (0))], none⟩),
  ([], true, ⟨none, .store 3 (.t 19) (.t 86), none⟩),
  ([], true, ⟨none, .store 3 (.t 20) (.t 91), none⟩)])
 (.seq (.dreg [([], true, ⟨(some 92), .mv (.t 9), none⟩),
  ([], true, ⟨(some 93), .len (.t 92), none⟩),
  ([], true, ⟨(some 94), .bin .eql (.t 93) (.k (D.int .i64 (0))), none⟩),
  ([], true, ⟨(some 95), .mv (.t 94), none⟩),
  ([], false, ⟨(some 96), .load true 3 (.t 13), (some (95, false))⟩),
  ([0], false, ⟨(some 97), .mv (.t 9), (some (95, false))⟩),
  ([], false, ⟨(some 98), .call true 340 [(.t 96), (.t 97)], (some (95, false))⟩),
  ([0, 1, 2], false, ⟨(some 99), .load true 3 (.t 14), (some (95, false))⟩),
  ([], true, ⟨(some 100), .eqa false [1, 1, 1] (.t 98) (.t 99), (some (95, false))⟩),
  ([], true, ⟨(some 101), .pick (.t 95) (.k (D.bool true)) (.t 100), none⟩),
  ([], true, ⟨(some 102), .mv (.t 101), none⟩),
  ([], false, ⟨(some 103), .fad 2 (.t 19), (some (102, true))⟩),
  ([], false, ⟨(some 104), .load false 1 (.t 103), (some (102, true))⟩),
  ([0, 1], false, ⟨(some 105), .fad 2 (.t 13), (some (102, true))⟩),
  ([0, 1], false, ⟨(some 106), .load false 1 (.t 105), (some (102, true))⟩),
  ([0, 1, 2, 3], false, ⟨(some 107), .mv (.t 18), (some (102, true))⟩),
  ([0, 1], false, ⟨(some 108), .bin .or (.t 106) (.t 107), (some (102, true))⟩),
  ([], true, ⟨(some 109), .bin .eql (.t 104) (.t 108), (some (102, true))⟩),
  ([], true, ⟨(some 110), .pick (.t 102) (.t 109) (.k (D.bool false)), none⟩),
  ([], true, ⟨(some 111), .mv (.t 110), none⟩),
  ([], false, ⟨(some 112), .fad 2 (.t 20), (some (111, true))⟩),
  ([], false, ⟨(some 113), .load false 1 (.t 112), (some (111, true))⟩),
  ([0, 1], false, ⟨(some 114), .fad 2 (.t 13), (some (111, true))⟩),
  ([0, 1], false, ⟨(some 115), .load false 1 (.t 114), (some (111, true))⟩),
  ([0, 1, 2, 3], false, ⟨(some 116), .mv (.t 18), (some (111, true))⟩),
  ([0, 1], false, ⟨(some 117), .bin .andNot (.t 115) (.t 116), (some (111, true))⟩),
  ([], true, ⟨(some 118), .bin .eql (.t 113) (.t 117), (some (111, true))⟩),
  ([], true, ⟨(some 119), .pick (.t 111) (.t 118) (.k (D.bool false)), none⟩),
  ([], true, ⟨(some 120), .mv (.t 119), none⟩),
  ([], false, ⟨(some 121), .load true 3 (.t 13), (some (120, true))⟩),
  ([0], false, ⟨(some 122), .bsl false 1 2 [(D.int .i64 (0))] [(0, (.k (D.int .i64 (31)))), (1, (.k (D.int .i64 (39))))], (some (120, true))⟩),
  ([], true, ⟨(some 123), .call false 340 [(.t 121), (.t 122)], (some (120, true))⟩),
  ([], true, ⟨(some 124), .fld false 0 1 (.t 123), (some (120, true))⟩),
  ([], true, ⟨(some 125), .bin .eql (.t 124) (.k (D.int .i64 (-1))), (some (120, true))⟩),
  ([], true, ⟨(some 126), .pick (.t 120) (.t 125) (.k (D.bool false)), none⟩),
  ([], true, ⟨(some 127), .mv (.t 126), none⟩),
  ([], false, ⟨(some 128), .load true 3 (.t 13), (some (127, true))⟩),
  ([0], false, ⟨(some 129), .bsl false 1 2 [(D.int .i64 (0))] [(0, (.k (D.int .i64 (31)))), (1, (.k (D.int .i64 (94))))], (some (127, true))⟩),
  ([], true, ⟨(some 130), .call false 340 [(.t 128), (.t 129)], (some (127, true))⟩),
  ([], true, ⟨(some 131), .fld false 0 1 (.t 130), (some (127, true))⟩),
  ([], true, ⟨(some 132), .bin .eql (.t 131) (.k (D.int .i64 (12))), (some (127, true))⟩),
  ([], true, ⟨(some 133), .pick (.t 127) (.t 132) (.k (D.bool false)), none⟩),
  ([], true, ⟨(some 134), .mv (.t 133), none⟩),
  ([], false, ⟨(some 135), .load true 3 (.t 13), (some (134, true))⟩),
  ([0], false, ⟨(some 136), .bsl false 1 3 [(D.int .i64 (0))] [(0, (.k (D.int .i64 (1)))), (1, (.k (D.int .i64 (2)))), (2, (.k (D.int .i64 (22))))], (some (134, true))⟩),
  ([], false, ⟨(some 137), .call true 340 [(.t 135), (.t 136)], (some (134, true))⟩),
  ([], false, ⟨(some 138), .fld false 2 1 (.t 137), (some (134, true))⟩),
  ([0, 1, 2, 3], false, ⟨(some 139), .fad 2 (.t 13), (some (134, true))⟩),
  ([0, 1, 2, 3], false, ⟨(some 140), .load false 1 (.t 139), (some (134, true))⟩),
  ([0, 1, 2, 3], false, ⟨(some 141), .bin .andNot (.t 140) (.k (D.int .i64 (3))), (some (134, true))⟩),
  ([], true, ⟨(some 142), .bin .eql (.t 138) (.t 141), (some (134, true))⟩),
  ([], true, ⟨(some 143), .pick (.t 134) (.t 142) (.k (D.bool false)), none⟩),
  ([], true, ⟨(some 144), .mv (.t 143), none⟩),
  ([], true, ⟨(some 145), .call false 184 [], (some (144, true))⟩),
  ([], true, ⟨(some 146), .pick (.t 144) (.t 145) (.k (D.bool false)), none⟩),
  ([], true, ⟨(some 8), .mv (.t 146), none⟩)])
 .ret)))))))))))))⟩
def ns : List Nat := [441, 86, 87, 203, 186, 185, 183, 174, 135, 132, 63, 133, 202, 170, 340, 65, 281, 169, 184, 342, 341, 172, 134, 136, 131, 107, 343, 346, 180, 290, 316, 345, 347, 348, 344, 299, 78, 79, 82, 83, 84, 85, 80, 81, 49, 50, 47, 48, 0, 60, 61, 59]
theorem nsND : ns.Nodup := by decide +kernel
def tab : List Row := [⟨174, 7, false, a174, .fn s174⟩, ⟨134, 22, false, a134, .fn s134⟩, ⟨136, 23, false, a136, .fn s136⟩, ⟨135, 8, true, a135, .fn s135⟩, ⟨133, 11, false, a133, .fn s133⟩, ⟨132, 9, false, a132, .fn s132⟩, ⟨63, 10, true, a63, .fn s63⟩, ⟨131, 24, false, a131, .fn s131⟩, ⟨172, 21, false, a172, .fn s172⟩, ⟨202, 12, false, a202, .fn s202⟩, ⟨203, 3, false, a203, .fn s203⟩, ⟨170, 13, false, a170, .fn s170⟩, ⟨107, 25, false, a107, .fn s107⟩, ⟨348, 33, false, a348, .fn s348⟩, ⟨343, 26, false, a343, .fn s343⟩, ⟨345, 31, false, a345, .fn s345⟩, ⟨344, 34, false, a344, .fn s344⟩, ⟨346, 27, false, a346, .fn s346⟩, ⟨340, 14, false, a340, .fn s340⟩, ⟨290, 29, false, a290, .fn s290⟩, ⟨299, 35, false, a299, .fn s299⟩, ⟨316, 30, false, a316, .fn s316⟩, ⟨281, 16, false, a281, .fn s281⟩, ⟨169, 17, false, a169, .fn s169⟩, ⟨347, 32, false, a347, .fn s347⟩, ⟨342, 19, false, a342, .fn s342⟩, ⟨341, 20, false, a341, .fn s341⟩, ⟨184, 18, false, a184, .fn s184⟩, ⟨180, 28, false, a180, .fn s180⟩, ⟨65, 15, false, a65, .fn s65⟩, ⟨186, 4, false, a186, .fn s186⟩, ⟨185, 5, false, a185, .fn s185⟩, ⟨183, 6, false, a183, .fn s183⟩]
theorem ok174 : RowOK Try.prog ns ⟨174, 7, false, a174, .fn s174⟩ := ⟨by kernel_rfl, by kernel_rfl, by show compF Try.prog (numOf ns) a174 7 = some s174; kernel_rfl⟩
theorem ok134 : RowOK Try.prog ns ⟨134, 22, false, a134, .fn s134⟩ := ⟨by kernel_rfl, by kernel_rfl, by show compF Try.prog (numOf ns) a134 22 = some s134; kernel_rfl⟩
theorem ok136 : RowOK Try.prog ns ⟨136, 23, false, a136, .fn s136⟩ := ⟨by kernel_rfl, by kernel_rfl, by show compF Try.prog (numOf ns) a136 23 = some s136; kernel_rfl⟩
theorem ok135 : RowOK Try.prog ns ⟨135, 8, true, a135, .fn s135⟩ := ⟨by kernel_rfl, by kernel_rfl, by show compF Try.prog (numOf ns) a135 8 = some s135; kernel_rfl⟩
theorem ok133 : RowOK Try.prog ns ⟨133, 11, false, a133, .fn s133⟩ := ⟨by kernel_rfl, by kernel_rfl, by show compF Try.prog (numOf ns) a133 11 = some s133; kernel_rfl⟩
theorem ok132 : RowOK Try.prog ns ⟨132, 9, false, a132, .fn s132⟩ := ⟨by kernel_rfl, by kernel_rfl, by show compF Try.prog (numOf ns) a132 9 = some s132; kernel_rfl⟩
theorem ok63 : RowOK Try.prog ns ⟨63, 10, true, a63, .fn s63⟩ := ⟨by kernel_rfl, by kernel_rfl, by show compF Try.prog (numOf ns) a63 10 = some s63; kernel_rfl⟩
theorem ok131 : RowOK Try.prog ns ⟨131, 24, false, a131, .fn s131⟩ := ⟨by kernel_rfl, by kernel_rfl, by show compF Try.prog (numOf ns) a131 24 = some s131; kernel_rfl⟩
theorem ok172 : RowOK Try.prog ns ⟨172, 21, false, a172, .fn s172⟩ := ⟨by kernel_rfl, by kernel_rfl, by show compF Try.prog (numOf ns) a172 21 = some s172; kernel_rfl⟩
theorem ok202 : RowOK Try.prog ns ⟨202, 12, false, a202, .fn s202⟩ := ⟨by kernel_rfl, by kernel_rfl, by show compF Try.prog (numOf ns) a202 12 = some s202; kernel_rfl⟩
theorem ok203 : RowOK Try.prog ns ⟨203, 3, false, a203, .fn s203⟩ := ⟨by kernel_rfl, by kernel_rfl, by show compF Try.prog (numOf ns) a203 3 = some s203; kernel_rfl⟩
theorem ok170 : RowOK Try.prog ns ⟨170, 13, false, a170, .fn s170⟩ := ⟨by kernel_rfl, by kernel_rfl, by show compF Try.prog (numOf ns) a170 13 = some s170; kernel_rfl⟩
theorem ok107 : RowOK Try.prog ns ⟨107, 25, false, a107, .fn s107⟩ := ⟨by kernel_rfl, by kernel_rfl, by show compF Try.prog (numOf ns) a107 25 = some s107; kernel_rfl⟩
theorem ok348 : RowOK Try.prog ns ⟨348, 33, false, a348, .fn s348⟩ := ⟨by kernel_rfl, by kernel_rfl, by show compF Try.prog (numOf ns) a348 33 = some s348; kernel_rfl⟩
theorem ok343 : RowOK Try.prog ns ⟨343, 26, false, a343, .fn s343⟩ := ⟨by kernel_rfl, by kernel_rfl, by show compF Try.prog (numOf ns) a343 26 = some s343; kernel_rfl⟩
theorem ok345 : RowOK Try.prog ns ⟨345, 31, false, a345, .fn s345⟩ := ⟨by kernel_rfl, by kernel_rfl, by show compF Try.prog (numOf ns) a345 31 = some s345; kernel_rfl⟩
theorem ok344 : RowOK Try.prog ns ⟨344, 34, false, a344, .fn s344⟩ := ⟨by kernel_rfl, by kernel_rfl, by show compF Try.prog (numOf ns) a344 34 = some s344; kernel_rfl⟩
theorem ok346 : RowOK Try.prog ns ⟨346, 27, false, a346, .fn s346⟩ := ⟨by kernel_rfl, by kernel_rfl, by show compF Try.prog (numOf ns) a346 27 = some s346; kernel_rfl⟩
theorem ok340 : RowOK Try.prog ns ⟨340, 14, false, a340, .fn s340⟩ := ⟨by kernel_rfl, by kernel_rfl, by show compF Try.prog (numOf ns) a340 14 = some s340; kernel_rfl⟩
theorem ok290 : RowOK Try.prog ns ⟨290, 29, false, a290, .fn s290⟩ := ⟨by kernel_rfl, by kernel_rfl, by show compF Try.prog (numOf ns) a290 29 = some s290; kernel_rfl⟩
theorem ok299 : RowOK Try.prog ns ⟨299, 35, false, a299, .fn s299⟩ := ⟨by kernel_rfl, by kernel_rfl, by show compF Try.prog (numOf ns) a299 35 = some s299; kernel_rfl⟩
theorem ok316 : RowOK Try.prog ns ⟨316, 30, false, a316, .fn s316⟩ := ⟨by kernel_rfl, by kernel_rfl, by show compF Try.prog (numOf ns) a316 30 = some s316; kernel_rfl⟩
theorem ok281 : RowOK Try.prog ns ⟨281, 16, false, a281, .fn s281⟩ := ⟨by kernel_rfl, by kernel_rfl, by show compF Try.prog (numOf ns) a281 16 = some s281; kernel_rfl⟩
theorem ok169 : RowOK Try.prog ns ⟨169, 17, false, a169, .fn s169⟩ := ⟨by kernel_rfl, by kernel_rfl, by show compF Try.prog (numOf ns) a169 17 = some s169; kernel_rfl⟩
theorem ok347 : RowOK Try.prog ns ⟨347, 32, false, a347, .fn s347⟩ := ⟨by kernel_rfl, by kernel_rfl, by show compF Try.prog (numOf ns) a347 32 = some s347; kernel_rfl⟩
theorem ok342 : RowOK Try.prog ns ⟨342, 19, false, a342, .fn s342⟩ := ⟨by kernel_rfl, by kernel_rfl, by show compF Try.prog (numOf ns) a342 19 = some s342; kernel_rfl⟩
theorem ok341 : RowOK Try.prog ns ⟨341, 20, false, a341, .fn s341⟩ := ⟨by kernel_rfl, by kernel_rfl, by show compF Try.prog (numOf ns) a341 20 = some s341; kernel_rfl⟩
theorem ok184 : RowOK Try.prog ns ⟨184, 18, false, a184, .fn s184⟩ := ⟨by kernel_rfl, by kernel_rfl, by show compF Try.prog (numOf ns) a184 18 = some s184; kernel_rfl⟩
theorem ok180 : RowOK Try.prog ns ⟨180, 28, false, a180, .fn s180⟩ := ⟨by kernel_rfl, by kernel_rfl, by show compF Try.prog (numOf ns) a180 28 = some s180; kernel_rfl⟩
theorem ok65 : RowOK Try.prog ns ⟨65, 15, false, a65, .fn s65⟩ := ⟨by kernel_rfl, by kernel_rfl, by show compF Try.prog (numOf ns) a65 15 = some s65; kernel_rfl⟩
theorem ok186 : RowOK Try.prog ns ⟨186, 4, false, a186, .fn s186⟩ := ⟨by kernel_rfl, by kernel_rfl, by show compF Try.prog (numOf ns) a186 4 = some s186; kernel_rfl⟩
theorem ok185 : RowOK Try.prog ns ⟨185, 5, false, a185, .fn s185⟩ := ⟨by kernel_rfl, by kernel_rfl, by show compF Try.prog (numOf ns) a185 5 = some s185; kernel_rfl⟩
theorem ok183 : RowOK Try.prog ns ⟨183, 6, false, a183, .fn s183⟩ := ⟨by kernel_rfl, by kernel_rfl, by show compF Try.prog (numOf ns) a183 6 = some s183; kernel_rfl⟩
theorem tabOK : ∀ r, r ∈ tab → RowOK Try.prog ns r := by
  intro r hr
  simp only [tab, List.mem_cons, List.not_mem_nil, or_false] at hr
  rcases hr with rfl | rfl | rfl | rfl | rfl | rfl | rfl | rfl | rfl | rfl | rfl | rfl | rfl | rfl | rfl | rfl | rfl | rfl | rfl | rfl | rfl | rfl | rfl | rfl | rfl | rfl | rfl | rfl | rfl | rfl | rfl | rfl | rfl
  · exact ok174
  · exact ok134
  · exact ok136
  · exact ok135
  · exact ok133
  · exact ok132
  · exact ok63
  · exact ok131
  · exact ok172
  · exact ok202
  · exact ok203
  · exact ok170
  · exact ok107
  · exact ok348
  · exact ok343
  · exact ok345
  · exact ok344
  · exact ok346
  · exact ok340
  · exact ok290
  · exact ok299
  · exact ok316
  · exact ok281
  · exact ok169
  · exact ok347
  · exact ok342
  · exact ok341
  · exact ok184
  · exact ok180
  · exact ok65
  · exact ok186
  · exact ok185
  · exact ok183
theorem mix : Try.prog.follows .mixedOrders = true := by kernel_rfl
theorem sound203 : SoundFn Try.prog (fidOf ns) 3 (evFun (clOf (modsR tab 14) 3) s203) :=
  fun_sound (num_fid nsND) mix (tab_sound nsND mix tabOK 14) 3 ok203.2.2
theorem sound186 : SoundFn Try.prog (fidOf ns) 4 (evFun (clOf (modsR tab 14) 3) s186) :=
  fun_sound (num_fid nsND) mix (tab_sound nsND mix tabOK 14) 3 ok186.2.2
theorem sound185 : SoundFn Try.prog (fidOf ns) 5 (evFun (clOf (modsR tab 14) 3) s185) :=
  fun_sound (num_fid nsND) mix (tab_sound nsND mix tabOK 14) 3 ok185.2.2
theorem sound183 : SoundFn Try.prog (fidOf ns) 6 (evFun (clOf (modsR tab 14) 3) s183) :=
  fun_sound (num_fid nsND) mix (tab_sound nsND mix tabOK 14) 3 ok183.2.2
theorem cw174 (k n : Nat) (xs : List D) (H : List Ob) : (clOf (modsR tab (k + 1)) n).w 174 xs H = callM false (evFun (clOf (modsR tab k) 3) s174) xs H := by cases n <;> rfl
theorem cr174 (k n : Nat) (xs : List D) (H : List Ob) : (clOf (modsR tab (k + 1)) n).r 174 xs H = callQ false (evFun (clOf (modsR tab k) 3) s174) xs H := by cases n <;> rfl
theorem cw134 (k n : Nat) (xs : List D) (H : List Ob) : (clOf (modsR tab (k + 1)) n).w 134 xs H = callM false (evFun (clOf (modsR tab k) 3) s134) xs H := by cases n <;> rfl
theorem cr134 (k n : Nat) (xs : List D) (H : List Ob) : (clOf (modsR tab (k + 1)) n).r 134 xs H = callQ false (evFun (clOf (modsR tab k) 3) s134) xs H := by cases n <;> rfl
theorem cw136 (k n : Nat) (xs : List D) (H : List Ob) : (clOf (modsR tab (k + 1)) n).w 136 xs H = callM false (evFun (clOf (modsR tab k) 3) s136) xs H := by cases n <;> rfl
theorem cr136 (k n : Nat) (xs : List D) (H : List Ob) : (clOf (modsR tab (k + 1)) n).r 136 xs H = callQ false (evFun (clOf (modsR tab k) 3) s136) xs H := by cases n <;> rfl
theorem cw135 (k n : Nat) (xs : List D) (H : List Ob) : (clOf (modsR tab (k + 1)) n).w 135 xs H = callM true (evFun (clOf (modsR tab k) 3) s135) xs H := by cases n <;> rfl
theorem cr135 (k n : Nat) (xs : List D) (H : List Ob) : (clOf (modsR tab (k + 1)) n).r 135 xs H = callQ true (evFun (clOf (modsR tab k) 3) s135) xs H := by cases n <;> rfl
theorem cw133 (k n : Nat) (xs : List D) (H : List Ob) : (clOf (modsR tab (k + 1)) n).w 133 xs H = callM false (evFun (clOf (modsR tab k) 3) s133) xs H := by cases n <;> rfl
theorem cr133 (k n : Nat) (xs : List D) (H : List Ob) : (clOf (modsR tab (k + 1)) n).r 133 xs H = callQ false (evFun (clOf (modsR tab k) 3) s133) xs H := by cases n <;> rfl
theorem cw132 (k n : Nat) (xs : List D) (H : List Ob) : (clOf (modsR tab (k + 1)) n).w 132 xs H = callM false (evFun (clOf (modsR tab k) 3) s132) xs H := by cases n <;> rfl
theorem cr132 (k n : Nat) (xs : List D) (H : List Ob) : (clOf (modsR tab (k + 1)) n).r 132 xs H = callQ false (evFun (clOf (modsR tab k) 3) s132) xs H := by cases n <;> rfl
theorem cw63 (k n : Nat) (xs : List D) (H : List Ob) : (clOf (modsR tab (k + 1)) n).w 63 xs H = callM true (evFun (clOf (modsR tab k) 3) s63) xs H := by cases n <;> rfl
theorem cr63 (k n : Nat) (xs : List D) (H : List Ob) : (clOf (modsR tab (k + 1)) n).r 63 xs H = callQ true (evFun (clOf (modsR tab k) 3) s63) xs H := by cases n <;> rfl
theorem cw131 (k n : Nat) (xs : List D) (H : List Ob) : (clOf (modsR tab (k + 1)) n).w 131 xs H = callM false (evFun (clOf (modsR tab k) 3) s131) xs H := by cases n <;> rfl
theorem cr131 (k n : Nat) (xs : List D) (H : List Ob) : (clOf (modsR tab (k + 1)) n).r 131 xs H = callQ false (evFun (clOf (modsR tab k) 3) s131) xs H := by cases n <;> rfl
theorem cw172 (k n : Nat) (xs : List D) (H : List Ob) : (clOf (modsR tab (k + 1)) n).w 172 xs H = callM false (evFun (clOf (modsR tab k) 3) s172) xs H := by cases n <;> rfl
theorem cr172 (k n : Nat) (xs : List D) (H : List Ob) : (clOf (modsR tab (k + 1)) n).r 172 xs H = callQ false (evFun (clOf (modsR tab k) 3) s172) xs H := by cases n <;> rfl
theorem cw202 (k n : Nat) (xs : List D) (H : List Ob) : (clOf (modsR tab (k + 1)) n).w 202 xs H = callM false (evFun (clOf (modsR tab k) 3) s202) xs H := by cases n <;> rfl
theorem cr202 (k n : Nat) (xs : List D) (H : List Ob) : (clOf (modsR tab (k + 1)) n).r 202 xs H = callQ false (evFun (clOf (modsR tab k) 3) s202) xs H := by cases n <;> rfl
theorem cw203 (k n : Nat) (xs : List D) (H : List Ob) : (clOf (modsR tab (k + 1)) n).w 203 xs H = callM false (evFun (clOf (modsR tab k) 3) s203) xs H := by cases n <;> rfl
theorem cr203 (k n : Nat) (xs : List D) (H : List Ob) : (clOf (modsR tab (k + 1)) n).r 203 xs H = callQ false (evFun (clOf (modsR tab k) 3) s203) xs H := by cases n <;> rfl
theorem cw170 (k n : Nat) (xs : List D) (H : List Ob) : (clOf (modsR tab (k + 1)) n).w 170 xs H = callM false (evFun (clOf (modsR tab k) 3) s170) xs H := by cases n <;> rfl
theorem cr170 (k n : Nat) (xs : List D) (H : List Ob) : (clOf (modsR tab (k + 1)) n).r 170 xs H = callQ false (evFun (clOf (modsR tab k) 3) s170) xs H := by cases n <;> rfl
theorem cw107 (k n : Nat) (xs : List D) (H : List Ob) : (clOf (modsR tab (k + 1)) n).w 107 xs H = callM false (evFun (clOf (modsR tab k) 3) s107) xs H := by cases n <;> rfl
theorem cr107 (k n : Nat) (xs : List D) (H : List Ob) : (clOf (modsR tab (k + 1)) n).r 107 xs H = callQ false (evFun (clOf (modsR tab k) 3) s107) xs H := by cases n <;> rfl
theorem cw348 (k n : Nat) (xs : List D) (H : List Ob) : (clOf (modsR tab (k + 1)) n).w 348 xs H = callM false (evFun (clOf (modsR tab k) 3) s348) xs H := by cases n <;> rfl
theorem cr348 (k n : Nat) (xs : List D) (H : List Ob) : (clOf (modsR tab (k + 1)) n).r 348 xs H = callQ false (evFun (clOf (modsR tab k) 3) s348) xs H := by cases n <;> rfl
theorem cw343 (k n : Nat) (xs : List D) (H : List Ob) : (clOf (modsR tab (k + 1)) n).w 343 xs H = callM false (evFun (clOf (modsR tab k) 3) s343) xs H := by cases n <;> rfl
theorem cr343 (k n : Nat) (xs : List D) (H : List Ob) : (clOf (modsR tab (k + 1)) n).r 343 xs H = callQ false (evFun (clOf (modsR tab k) 3) s343) xs H := by cases n <;> rfl
theorem cw345 (k n : Nat) (xs : List D) (H : List Ob) : (clOf (modsR tab (k + 1)) n).w 345 xs H = callM false (evFun (clOf (modsR tab k) 3) s345) xs H := by cases n <;> rfl
theorem cr345 (k n : Nat) (xs : List D) (H : List Ob) : (clOf (modsR tab (k + 1)) n).r 345 xs H = callQ false (evFun (clOf (modsR tab k) 3) s345) xs H := by cases n <;> rfl
theorem cw344 (k n : Nat) (xs : List D) (H : List Ob) : (clOf (modsR tab (k + 1)) n).w 344 xs H = callM false (evFun (clOf (modsR tab k) 3) s344) xs H := by cases n <;> rfl
theorem cr344 (k n : Nat) (xs : List D) (H : List Ob) : (clOf (modsR tab (k + 1)) n).r 344 xs H = callQ false (evFun (clOf (modsR tab k) 3) s344) xs H := by cases n <;> rfl
theorem cw346 (k n : Nat) (xs : List D) (H : List Ob) : (clOf (modsR tab (k + 1)) n).w 346 xs H = callM false (evFun (clOf (modsR tab k) 3) s346) xs H := by cases n <;> rfl
theorem cr346 (k n : Nat) (xs : List D) (H : List Ob) : (clOf (modsR tab (k + 1)) n).r 346 xs H = callQ false (evFun (clOf (modsR tab k) 3) s346) xs H := by cases n <;> rfl
theorem cw340 (k n : Nat) (xs : List D) (H : List Ob) : (clOf (modsR tab (k + 1)) n).w 340 xs H = callM false (evFun (clOf (modsR tab k) 3) s340) xs H := by cases n <;> rfl
theorem cr340 (k n : Nat) (xs : List D) (H : List Ob) : (clOf (modsR tab (k + 1)) n).r 340 xs H = callQ false (evFun (clOf (modsR tab k) 3) s340) xs H := by cases n <;> rfl
theorem cw290 (k n : Nat) (xs : List D) (H : List Ob) : (clOf (modsR tab (k + 1)) n).w 290 xs H = callM false (evFun (clOf (modsR tab k) 3) s290) xs H := by cases n <;> rfl
theorem cr290 (k n : Nat) (xs : List D) (H : List Ob) : (clOf (modsR tab (k + 1)) n).r 290 xs H = callQ false (evFun (clOf (modsR tab k) 3) s290) xs H := by cases n <;> rfl
theorem cw299 (k n : Nat) (xs : List D) (H : List Ob) : (clOf (modsR tab (k + 1)) n).w 299 xs H = callM false (evFun (clOf (modsR tab k) 3) s299) xs H := by cases n <;> rfl
theorem cr299 (k n : Nat) (xs : List D) (H : List Ob) : (clOf (modsR tab (k + 1)) n).r 299 xs H = callQ false (evFun (clOf (modsR tab k) 3) s299) xs H := by cases n <;> rfl
theorem cw316 (k n : Nat) (xs : List D) (H : List Ob) : (clOf (modsR tab (k + 1)) n).w 316 xs H = callM false (evFun (clOf (modsR tab k) 3) s316) xs H := by cases n <;> rfl
theorem cr316 (k n : Nat) (xs : List D) (H : List Ob) : (clOf (modsR tab (k + 1)) n).r 316 xs H = callQ false (evFun (clOf (modsR tab k) 3) s316) xs H := by cases n <;> rfl
theorem cw281 (k n : Nat) (xs : List D) (H : List Ob) : (clOf (modsR tab (k + 1)) n).w 281 xs H = callM false (evFun (clOf (modsR tab k) 3) s281) xs H := by cases n <;> rfl
theorem cr281 (k n : Nat) (xs : List D) (H : List Ob) : (clOf (modsR tab (k + 1)) n).r 281 xs H = callQ false (evFun (clOf (modsR tab k) 3) s281) xs H := by cases n <;> rfl
theorem cw169 (k n : Nat) (xs : List D) (H : List Ob) : (clOf (modsR tab (k + 1)) n).w 169 xs H = callM false (evFun (clOf (modsR tab k) 3) s169) xs H := by cases n <;> rfl
theorem cr169 (k n : Nat) (xs : List D) (H : List Ob) : (clOf (modsR tab (k + 1)) n).r 169 xs H = callQ false (evFun (clOf (modsR tab k) 3) s169) xs H := by cases n <;> rfl
theorem cw347 (k n : Nat) (xs : List D) (H : List Ob) : (clOf (modsR tab (k + 1)) n).w 347 xs H = callM false (evFun (clOf (modsR tab k) 3) s347) xs H := by cases n <;> rfl
theorem cr347 (k n : Nat) (xs : List D) (H : List Ob) : (clOf (modsR tab (k + 1)) n).r 347 xs H = callQ false (evFun (clOf (modsR tab k) 3) s347) xs H := by cases n <;> rfl
theorem cw342 (k n : Nat) (xs : List D) (H : List Ob) : (clOf (modsR tab (k + 1)) n).w 342 xs H = callM false (evFun (clOf (modsR tab k) 3) s342) xs H := by cases n <;> rfl
theorem cr342 (k n : Nat) (xs : List D) (H : List Ob) : (clOf (modsR tab (k + 1)) n).r 342 xs H = callQ false (evFun (clOf (modsR tab k) 3) s342) xs H := by cases n <;> rfl
theorem cw341 (k n : Nat) (xs : List D) (H : List Ob) : (clOf (modsR tab (k + 1)) n).w 341 xs H = callM false (evFun (clOf (modsR tab k) 3) s341) xs H := by cases n <;> rfl
theorem cr341 (k n : Nat) (xs : List D) (H : List Ob) : (clOf (modsR tab (k + 1)) n).r 341 xs H = callQ false (evFun (clOf (modsR tab k) 3) s341) xs H := by cases n <;> rfl
theorem cw184 (k n : Nat) (xs : List D) (H : List Ob) : (clOf (modsR tab (k + 1)) n).w 184 xs H = callM false (evFun (clOf (modsR tab k) 3) s184) xs H := by cases n <;> rfl
theorem cr184 (k n : Nat) (xs : List D) (H : List Ob) : (clOf (modsR tab (k + 1)) n).r 184 xs H = callQ false (evFun (clOf (modsR tab k) 3) s184) xs H := by cases n <;> rfl
theorem cw180 (k n : Nat) (xs : List D) (H : List Ob) : (clOf (modsR tab (k + 1)) n).w 180 xs H = callM false (evFun (clOf (modsR tab k) 3) s180) xs H := by cases n <;> rfl
theorem cr180 (k n : Nat) (xs : List D) (H : List Ob) : (clOf (modsR tab (k + 1)) n).r 180 xs H = callQ false (evFun (clOf (modsR tab k) 3) s180) xs H := by cases n <;> rfl
theorem cw65 (k n : Nat) (xs : List D) (H : List Ob) : (clOf (modsR tab (k + 1)) n).w 65 xs H = callM false (evFun (clOf (modsR tab k) 3) s65) xs H := by cases n <;> rfl
theorem cr65 (k n : Nat) (xs : List D) (H : List Ob) : (clOf (modsR tab (k + 1)) n).r 65 xs H = callQ false (evFun (clOf (modsR tab k) 3) s65) xs H := by cases n <;> rfl
theorem cw186 (k n : Nat) (xs : List D) (H : List Ob) : (clOf (modsR tab (k + 1)) n).w 186 xs H = callM false (evFun (clOf (modsR tab k) 3) s186) xs H := by cases n <;> rfl
theorem cr186 (k n : Nat) (xs : List D) (H : List Ob) : (clOf (modsR tab (k + 1)) n).r 186 xs H = callQ false (evFun (clOf (modsR tab k) 3) s186) xs H := by cases n <;> rfl
theorem cw185 (k n : Nat) (xs : List D) (H : List Ob) : (clOf (modsR tab (k + 1)) n).w 185 xs H = callM false (evFun (clOf (modsR tab k) 3) s185) xs H := by cases n <;> rfl
theorem cr185 (k n : Nat) (xs : List D) (H : List Ob) : (clOf (modsR tab (k + 1)) n).r 185 xs H = callQ false (evFun (clOf (modsR tab k) 3) s185) xs H := by cases n <;> rfl
theorem cw183 (k n : Nat) (xs : List D) (H : List Ob) : (clOf (modsR tab (k + 1)) n).w 183 xs H = callM false (evFun (clOf (modsR tab k) 3) s183) xs H := by cases n <;> rfl
theorem cr183 (k n : Nat) (xs : List D) (H : List Ob) : (clOf (modsR tab (k + 1)) n).r 183 xs H = callQ false (evFun (clOf (modsR tab k) 3) s183) xs H := by cases n <;> rfl
end Go.Proofs.Ytohjgdaogcliiaa.LgTab
