import Derived.Test.YtjbdijfibllddaaDoorRows
import Derived.Test.YtjbdijfibllddaaDoorLgE2
import Derived.RowKit
import Derived.Test.YtjbdijfibllddaaDoorLgJoin
import Derived.Test.YtjbdijfibllddaaDoorLgJoin
/-
  The seat's functions, as this work's tool printed them.
-/
namespace Go.Proofs.YtjbdijfibllddaaDoor.LgTab
open Go Lg
set_option maxRecDepth 100000
def a174 : Ann := ⟨[], [⟨false, 0, false⟩], []⟩
def s174 : SFun := ⟨3, 24, [], [(.tmp 6, ⟨false, 0, false⟩)],
 (.seq (.reg [⟨(some 6), .mv (.k (D.int .i64 (0))), none⟩])
 (.seq (.reg [⟨(some 7), .mv (.t 0), none⟩,
  ⟨(some 8), .mv (.t 2), none⟩,
  ⟨(some 9), .mv (.t 1), none⟩,
  ⟨(some 10), .bin .sub (.t 8) (.t 9), none⟩,
  ⟨(some 11), .bin .add (.t 10) (.k (D.int .i64 (1))), none⟩,
  ⟨(some 12), .bin .rem (.t 7) (.t 11), none⟩,
  ⟨(some 0), .mv (.t 12), none⟩])
 (.seq (.seq (.reg [⟨(some 13), .mv (.t 0), none⟩,
  ⟨(some 14), .bin .lss (.t 13) (.k (D.int .i64 (0))), none⟩])
 (.cond (.t 14)
 (.reg [⟨(some 15), .mv (.t 0), none⟩,
  ⟨(some 16), .mv (.t 2), none⟩,
  ⟨(some 17), .bin .add (.t 15) (.t 16), none⟩,
  ⟨(some 18), .mv (.t 1), none⟩,
  ⟨(some 19), .bin .sub (.t 17) (.t 18), none⟩,
  ⟨(some 20), .bin .add (.t 19) (.k (D.int .i64 (1))), none⟩,
  ⟨(some 0), .mv (.t 20), none⟩])
 .skip))
 (.seq (.reg [⟨(some 21), .mv (.t 1), none⟩,
  ⟨(some 22), .mv (.t 0), none⟩,
  ⟨(some 23), .bin .add (.t 21) (.t 22), none⟩,
  ⟨(some 6), .mv (.t 23), none⟩])
 .ret))))⟩
def a457 : Ann := ⟨[(4, [(0, ⟨false, 0, false⟩), (1, ⟨false, 0, false⟩), (4, ⟨false, 0, false⟩), (12, ⟨false, 0, false⟩), (13, ⟨false, 0, false⟩)])], [⟨false, 0, false⟩], []⟩
def s457 : SFun := ⟨2, 26, [], [(.tmp 4, ⟨false, 0, false⟩)],
 (.seq (.reg [⟨(some 4), .mv (.k (D.bool false)), none⟩])
 (.seq (.seq (.reg [⟨(some 6), .mv (.t 0), none⟩,
  ⟨(some 7), .len (.t 6), none⟩,
  ⟨(some 8), .mv (.t 1), none⟩,
  ⟨(some 9), .len (.t 8), none⟩,
  ⟨(some 10), .bin .neq (.t 7) (.t 9), none⟩])
 (.cond (.t 10)
 (.seq (.reg [⟨(some 4), .mv (.k (D.bool false)), none⟩])
 .ret)
 .skip))
 (.seq (.seq (.reg [⟨(some 11), .mv (.t 0), none⟩,
  ⟨(some 12), .len (.t 11), none⟩,
  ⟨(some 13), .mv (.k (D.int .i64 (0))), none⟩])
 (.block 0 (.loop [(0, ⟨false, 0, false⟩), (1, ⟨false, 0, false⟩), (4, ⟨false, 0, false⟩), (12, ⟨false, 0, false⟩), (13, ⟨false, 0, false⟩)]
 (.seq (.reg [⟨(some 14), .bin .lss (.t 13) (.t 12), none⟩])
 (.seq (.cond (.t 14)
 .skip
 (.exit 0))
 (.seq (.block 1 (.seq (.reg [⟨(some 15), .mv (.t 13), none⟩,
  ⟨(some 5), .mv (.t 15), none⟩])
 (.seq (.dreg [([], false, ⟨(some 16), .mv (.t 0), none⟩),
  ([0], false, ⟨(some 17), .mv (.t 5), none⟩),
  ([], false, ⟨(some 18), .ixs 1 (.t 16) (.t 17), none⟩),
  ([], false, ⟨(some 19), .load false 1 (.t 18), none⟩),
  ([0, 1, 2, 3], false, ⟨(some 20), .mv (.t 1), none⟩),
  ([0, 1, 2, 3, 4], false, ⟨(some 21), .mv (.t 5), none⟩),
  ([0, 1, 2, 3], false, ⟨(some 22), .ixs 1 (.t 20) (.t 21), none⟩),
  ([0, 1, 2, 3], false, ⟨(some 23), .load false 1 (.t 22), none⟩),
  ([], true, ⟨(some 24), .bin .neq (.t 19) (.t 23), none⟩)])
 (.cond (.t 24)
 (.seq (.reg [⟨(some 4), .mv (.k (D.bool false)), none⟩])
 .ret)
 .skip))))
 (.reg [⟨(some 25), .bin .add (.t 13) (.k (D.int .i64 (1))), none⟩,
  ⟨(some 13), .mv (.t 25), none⟩])))))))
 (.seq (.reg [⟨(some 4), .mv (.k (D.bool true)), none⟩])
 .ret))))⟩
def a450 : Ann := ⟨[], [⟨true, 1, false⟩], []⟩
def n450 : NFun := ⟨1, 8, [], [(.tmp 2, ⟨true, 1, false⟩)],
 (.reg [⟨(some 2), .mv (.k .sn), none⟩]), ⟨(some 3), .mv (.t 0), none⟩, 4, (.t 3), (.cond (.t 4)
 (.seq (.reg [⟨(some 2), .mv (.k .sn), none⟩])
 .ret)
 .skip), (.seq (.reg [⟨(some 5), .bsl true 1 0 [(D.int .i64 (0))] [], none⟩,
  ⟨(some 6), .mv (.t 0), none⟩,
  ⟨(some 7), .append 1 8 (.t 5) (.t 6), none⟩,
  ⟨(some 2), .mv (.t 7), none⟩])
 .ret)⟩
def a382 : Ann := ⟨[], [⟨false, 0, false⟩], []⟩
def s382 : SFun := ⟨2, 16, [], [(.cell 4 true 7, ⟨false, 0, false⟩)],
 (.seq (.reg [⟨(some 4), .alloc [(D.int .i64 (0)), (D.int .i32 (0)), (D.int .u8 (0)), (D.int .u8 (0)), (D.int .u8 (0)), .sn, (D.str [])], none⟩])
 (.seq (.reg [⟨(some 6), .mv (.t 0), none⟩,
  ⟨(some 7), .build [(D.int .i64 (0)), (D.int .i32 (0)), (D.int .u8 (0)), (D.int .u8 (0)), (D.int .u8 (0)), .sn, (D.str [])] [(0, 1, (.k (D.int .i64 (4)))), (4, 1, (.t 6))], none⟩,
  ⟨(some 5), .alloc [(D.int .i64 (0)), (D.int .i32 (0)), (D.int .u8 (0)), (D.int .u8 (0)), (D.int .u8 (0)), .sn, (D.str [])], none⟩,
  ⟨none, .store 7 (.t 5) (.t 7), none⟩])
 (.seq (.seq (.reg [⟨(some 8), .mv (.t 1), none⟩,
  ⟨(some 9), .bsl false 1 1 [(D.int .i64 (0))] [(0, (.k (D.int .i64 (-1))))], none⟩,
  ⟨(some 10), .call false 457 [(.t 8), (.t 9)], none⟩,
  ⟨(some 11), .una .not (.t 10), none⟩])
 (.cond (.t 11)
 (.reg [⟨(some 12), .mv (.t 1), none⟩,
  ⟨(some 13), .call false 450 [(.t 12)], none⟩,
  ⟨(some 14), .fad 5 (.t 5), none⟩,
  ⟨none, .store 1 (.t 14) (.t 13), none⟩])
 .skip))
 (.seq (.reg [⟨(some 15), .load true 7 (.t 5), none⟩,
  ⟨none, .store 7 (.t 4) (.t 15), none⟩])
 .ret))))⟩
def a386 : Ann := ⟨[], [⟨false, 0, false⟩], []⟩
def s386 : SFun := ⟨3, 15, [], [(.cell 6 true 7, ⟨false, 0, false⟩)],
 (.seq (.reg [⟨(some 6), .alloc [(D.int .i64 (0)), (D.int .i32 (0)), (D.int .u8 (0)), (D.int .u8 (0)), (D.int .u8 (0)), .sn, (D.str [])], none⟩])
 (.seq (.reg [⟨(some 8), .mv (.t 0), none⟩,
  ⟨(some 9), .mv (.t 2), none⟩,
  ⟨(some 10), .call false 450 [(.t 9)], none⟩,
  ⟨(some 11), .build [(D.int .i64 (0)), (D.int .i32 (0)), (D.int .u8 (0)), (D.int .u8 (0)), (D.int .u8 (0)), .sn, (D.str [])] [(0, 1, (.k (D.int .i64 (4)))), (2, 1, (.t 8)), (4, 1, (.k (D.int .u8 (108)))), (5, 1, (.t 10))], none⟩,
  ⟨(some 7), .alloc [(D.int .i64 (0)), (D.int .i32 (0)), (D.int .u8 (0)), (D.int .u8 (0)), (D.int .u8 (0)), .sn, (D.str [])], none⟩,
  ⟨none, .store 7 (.t 7) (.t 11), none⟩])
 (.seq (.seq (.reg [⟨(some 12), .mv (.t 1), none⟩])
 (.cond (.t 12)
 (.reg [⟨(some 13), .fad 4 (.t 7), none⟩,
  ⟨none, .store 1 (.t 13) (.k (D.int .u8 (104))), none⟩])
 .skip))
 (.seq (.reg [⟨(some 14), .load true 7 (.t 7), none⟩,
  ⟨none, .store 7 (.t 6) (.t 14), none⟩])
 .ret))))⟩
def a381 : Ann := ⟨[], [⟨false, 0, false⟩], []⟩
def s381 : SFun := ⟨5, 52, [], [(.tmp 10, ⟨false, 0, false⟩)],
 (.seq (.reg [⟨(some 5), .box 7 (.t 0), none⟩,
  ⟨(some 10), .mv (.k (D.int .i64 (0))), none⟩])
 (.seq (.reg [⟨(some 12), .mv (.t 2), none⟩,
  ⟨(some 11), .mv (.t 12), none⟩])
 (.seq (.seq (.reg [⟨(some 13), .mv (.t 1), none⟩,
  ⟨(some 14), .bin .geq (.t 13) (.k (D.int .i64 (0))), none⟩,
  ⟨(some 15), .mv (.t 14), none⟩,
  ⟨(some 16), .mv (.t 1), (some (15, true))⟩,
  ⟨(some 17), .fad 5 (.t 5), (some (15, true))⟩,
  ⟨(some 18), .load false 1 (.t 17), (some (15, true))⟩,
  ⟨(some 19), .len (.t 18), (some (15, true))⟩,
  ⟨(some 20), .bin .lss (.t 16) (.t 19), (some (15, true))⟩,
  ⟨(some 21), .pick (.t 15) (.t 20) (.k (D.bool false)), none⟩,
  ⟨(some 22), .mv (.t 21), none⟩,
  ⟨(some 23), .fad 5 (.t 5), (some (22, true))⟩,
  ⟨(some 24), .load false 1 (.t 23), (some (22, true))⟩,
  ⟨(some 25), .mv (.t 1), (some (22, true))⟩,
  ⟨(some 26), .ixs 1 (.t 24) (.t 25), (some (22, true))⟩,
  ⟨(some 27), .load false 1 (.t 26), (some (22, true))⟩,
  ⟨(some 28), .bin .neq (.t 27) (.k (D.int .i64 (-1))), (some (22, true))⟩,
  ⟨(some 29), .pick (.t 22) (.t 28) (.k (D.bool false)), none⟩,
  ⟨(some 30), .mv (.t 29), none⟩,
  ⟨(some 31), .fad 5 (.t 5), (some (30, true))⟩,
  ⟨(some 32), .load false 1 (.t 31), (some (30, true))⟩,
  ⟨(some 33), .mv (.t 1), (some (30, true))⟩,
  ⟨(some 34), .ixs 1 (.t 32) (.t 33), (some (30, true))⟩,
  ⟨(some 35), .load false 1 (.t 34), (some (30, true))⟩,
  ⟨(some 36), .bin .neq (.t 35) (.k (D.int .i64 (0))), (some (30, true))⟩,
  ⟨(some 37), .mv (.t 36), (some (30, true))⟩,
  ⟨(some 38), .mv (.t 3), (some (37, false))⟩,
  ⟨(some 39), .bin .leq (.t 38) (.k (D.int .i64 (0))), (some (37, false))⟩,
  ⟨(some 40), .pick (.t 37) (.k (D.bool true)) (.t 39), (some (30, true))⟩,
  ⟨(some 41), .pick (.t 30) (.t 40) (.k (D.bool false)), none⟩])
 (.cond (.t 41)
 (.reg [⟨(some 42), .fad 5 (.t 5), none⟩,
  ⟨(some 43), .load false 1 (.t 42), none⟩,
  ⟨(some 44), .mv (.t 1), none⟩,
  ⟨(some 45), .ixs 1 (.t 43) (.t 44), none⟩,
  ⟨(some 46), .load false 1 (.t 45), none⟩,
  ⟨(some 11), .mv (.t 46), none⟩])
 .skip))
 (.seq (.reg [⟨(some 47), .mv (.t 3), none⟩,
  ⟨(some 48), .mv (.t 11), none⟩,
  ⟨(some 49), .mv (.t 4), none⟩,
  ⟨(some 50), .mn [(.t 48), (.t 49)], none⟩,
  ⟨(some 51), .mx [(.t 47), (.t 50)], none⟩,
  ⟨(some 10), .mv (.t 51), none⟩])
 .ret))))⟩
def a172 : Ann := ⟨[(4, [(0, ⟨false, 0, false⟩), (1, ⟨false, 0, false⟩), (4, ⟨false, 0, false⟩), (5, ⟨false, 0, false⟩)])], [⟨false, 0, false⟩], []⟩
def s172 : SFun := ⟨2, 26, [], [(.tmp 4, ⟨false, 0, false⟩)],
 (.seq (.reg [⟨(some 4), .mv (.k (D.bool false)), none⟩])
 (.seq (.seq (.reg [⟨(some 6), .mv (.t 0), none⟩,
  ⟨(some 7), .len (.t 6), none⟩,
  ⟨(some 8), .mv (.t 1), none⟩,
  ⟨(some 9), .len (.t 8), none⟩,
  ⟨(some 10), .bin .neq (.t 7) (.t 9), none⟩])
 (.cond (.t 10)
 (.seq (.reg [⟨(some 4), .mv (.k (D.bool false)), none⟩])
 .ret)
 .skip))
 (.seq (.seq (.reg [⟨(some 5), .mv (.k (D.int .i64 (0))), none⟩])
 (.block 0 (.loop [(0, ⟨false, 0, false⟩), (1, ⟨false, 0, false⟩), (4, ⟨false, 0, false⟩), (5, ⟨false, 0, false⟩)]
 (.seq (.seq (.reg [⟨(some 11), .mv (.t 5), none⟩,
  ⟨(some 12), .mv (.t 0), none⟩,
  ⟨(some 13), .len (.t 12), none⟩,
  ⟨(some 14), .bin .lss (.t 11) (.t 13), none⟩])
 (.cond (.t 14)
 .skip
 (.exit 0)))
 (.seq (.block 1 (.seq (.dreg [([], false, ⟨(some 17), .mv (.t 0), none⟩),
  ([0], false, ⟨(some 18), .mv (.t 5), none⟩),
  ([], false, ⟨(some 19), .ixs 1 (.t 17) (.t 18), none⟩),
  ([], false, ⟨(some 20), .load false 1 (.t 19), none⟩),
  ([0, 1, 2, 3], false, ⟨(some 21), .mv (.t 1), none⟩),
  ([0, 1, 2, 3, 4], false, ⟨(some 22), .mv (.t 5), none⟩),
  ([0, 1, 2, 3], false, ⟨(some 23), .ixs 1 (.t 21) (.t 22), none⟩),
  ([0, 1, 2, 3], false, ⟨(some 24), .load false 1 (.t 23), none⟩),
  ([], true, ⟨(some 25), .bin .neq (.t 20) (.t 24), none⟩)])
 (.cond (.t 25)
 (.seq (.reg [⟨(some 4), .mv (.k (D.bool false)), none⟩])
 .ret)
 .skip)))
 (.reg [⟨(some 15), .mv (.t 5), none⟩,
  ⟨(some 16), .bin .add (.t 15) (.k (D.int .i64 (1))), none⟩,
  ⟨(some 5), .mv (.t 16), none⟩]))))))
 (.seq (.reg [⟨(some 4), .mv (.k (D.bool true)), none⟩])
 .ret))))⟩
def a387 : Ann := ⟨[], [⟨false, 0, false⟩], []⟩
def s387 : SFun := ⟨1, 67, [], [(.tmp 2, ⟨false, 0, false⟩)],
 (.seq (.reg [⟨(some 1), .box 7 (.t 0), none⟩,
  ⟨(some 2), .mv (.k (D.bool false)), none⟩])
 (.seq (.reg [⟨(some 4), .fad 0 (.t 1), none⟩,
  ⟨(some 5), .load false 1 (.t 4), none⟩,
  ⟨(some 6), .bin .eql (.t 5) (.k (D.int .i64 (3))), none⟩,
  ⟨(some 7), .mv (.t 6), none⟩,
  ⟨(some 8), .fad 0 (.t 1), (some (7, false))⟩,
  ⟨(some 9), .load false 1 (.t 8), (some (7, false))⟩,
  ⟨(some 10), .bin .eql (.t 9) (.k (D.int .i64 (4))), (some (7, false))⟩,
  ⟨(some 11), .pick (.t 7) (.k (D.bool true)) (.t 10), none⟩,
  ⟨(some 3), .mv (.t 11), none⟩])
 (.seq (.reg [⟨(some 12), .fad 0 (.t 1), none⟩,
  ⟨(some 13), .load false 1 (.t 12), none⟩,
  ⟨(some 14), .bin .eql (.t 13) (.k (D.int .i64 (1))), none⟩,
  ⟨(some 15), .mv (.t 14), none⟩,
  ⟨(some 16), .fad 1 (.t 1), (some (15, false))⟩,
  ⟨(some 17), .load false 1 (.t 16), (some (15, false))⟩,
  ⟨(some 18), .bin .eql (.t 17) (.k (D.int .i32 (0))), (some (15, false))⟩,
  ⟨(some 19), .pick (.t 15) (.k (D.bool true)) (.t 18), none⟩,
  ⟨(some 20), .mv (.t 19), none⟩,
  ⟨(some 21), .fad 0 (.t 1), (some (20, true))⟩,
  ⟨(some 22), .load false 1 (.t 21), (some (20, true))⟩,
  ⟨(some 23), .bin .eql (.t 22) (.k (D.int .i64 (4))), (some (20, true))⟩,
  ⟨(some 24), .mv (.t 23), (some (20, true))⟩,
  ⟨(some 25), .fad 2 (.t 1), (some (24, false))⟩,
  ⟨(some 26), .load false 1 (.t 25), (some (24, false))⟩,
  ⟨(some 27), .bin .eql (.t 26) (.k (D.int .u8 (0))), (some (24, false))⟩,
  ⟨(some 28), .mv (.t 27), (some (24, false))⟩,
  ⟨(some 29), .fad 5 (.t 1), (some (28, true))⟩,
  ⟨(some 30), .load false 1 (.t 29), (some (28, true))⟩,
  ⟨(some 31), .len (.t 30), (some (28, true))⟩,
  ⟨(some 32), .bin .eql (.t 31) (.k (D.int .i64 (0))), (some (28, true))⟩,
  ⟨(some 33), .pick (.t 28) (.t 32) (.k (D.bool false)), (some (24, false))⟩,
  ⟨(some 34), .pick (.t 24) (.k (D.bool true)) (.t 33), (some (20, true))⟩,
  ⟨(some 35), .pick (.t 20) (.t 34) (.k (D.bool false)), none⟩,
  ⟨(some 36), .mv (.t 35), none⟩,
  ⟨(some 37), .mv (.t 3), (some (36, true))⟩,
  ⟨(some 38), .mv (.t 37), (some (36, true))⟩,
  ⟨(some 39), .fad 3 (.t 1), (some (38, false))⟩,
  ⟨(some 40), .load false 1 (.t 39), (some (38, false))⟩,
  ⟨(some 41), .bin .eql (.t 40) (.k (D.int .u8 (0))), (some (38, false))⟩,
  ⟨(some 42), .pick (.t 38) (.k (D.bool true)) (.t 41), (some (36, true))⟩,
  ⟨(some 43), .pick (.t 36) (.t 42) (.k (D.bool false)), none⟩,
  ⟨(some 44), .mv (.t 43), none⟩,
  ⟨(some 45), .mv (.t 3), (some (44, true))⟩,
  ⟨(some 46), .mv (.t 45), (some (44, true))⟩,
  ⟨(some 47), .fad 0 (.t 1), (some (46, false))⟩,
  ⟨(some 48), .load false 1 (.t 47), (some (46, false))⟩,
  ⟨(some 49), .bin .eql (.t 48) (.k (D.int .i64 (2))), (some (46, false))⟩,
  ⟨(some 50), .pick (.t 46) (.k (D.bool true)) (.t 49), (some (44, true))⟩,
  ⟨(some 51), .mv (.t 50), (some (44, true))⟩,
  ⟨(some 52), .fad 4 (.t 1), (some (51, false))⟩,
  ⟨(some 53), .load false 1 (.t 52), (some (51, false))⟩,
  ⟨(some 54), .bin .eql (.t 53) (.k (D.int .u8 (0))), (some (51, false))⟩,
  ⟨(some 55), .pick (.t 51) (.k (D.bool true)) (.t 54), (some (44, true))⟩,
  ⟨(some 56), .pick (.t 44) (.t 55) (.k (D.bool false)), none⟩,
  ⟨(some 57), .mv (.t 56), none⟩,
  ⟨(some 58), .fad 0 (.t 1), (some (57, true))⟩,
  ⟨(some 59), .load false 1 (.t 58), (some (57, true))⟩,
  ⟨(some 60), .bin .eql (.t 59) (.k (D.int .i64 (5))), (some (57, true))⟩,
  ⟨(some 61), .mv (.t 60), (some (57, true))⟩,
  ⟨(some 62), .fad 6 (.t 1), (some (61, false))⟩,
  ⟨(some 63), .load false 1 (.t 62), (some (61, false))⟩,
  ⟨(some 64), .bin .eql (.t 63) (.k (D.str [])), (some (61, false))⟩,
  ⟨(some 65), .pick (.t 61) (.k (D.bool true)) (.t 64), (some (57, true))⟩,
  ⟨(some 66), .pick (.t 57) (.t 65) (.k (D.bool false)), none⟩,
  ⟨(some 2), .mv (.t 66), none⟩])
 .ret)))⟩
def a398 : Ann := ⟨[], [⟨false, 0, false⟩], []⟩
def s398 : SFun := ⟨3, 15, [], [(.tmp 6, ⟨false, 0, false⟩)],
 (.seq (.reg [⟨(some 6), .mv (.k (D.bool false)), none⟩])
 (.seq (.reg [⟨(some 7), .mv (.t 0), none⟩,
  ⟨(some 8), .mv (.t 1), none⟩,
  ⟨(some 9), .bin .geq (.t 7) (.t 8), none⟩,
  ⟨(some 10), .mv (.t 9), none⟩,
  ⟨(some 11), .mv (.t 0), (some (10, true))⟩,
  ⟨(some 12), .mv (.t 2), (some (10, true))⟩,
  ⟨(some 13), .bin .leq (.t 11) (.t 12), (some (10, true))⟩,
  ⟨(some 14), .pick (.t 10) (.t 13) (.k (D.bool false)), none⟩,
  ⟨(some 6), .mv (.t 14), none⟩])
 .ret))⟩
def a390 : Ann := ⟨[], [⟨false, 0, false⟩], []⟩
def s390 : SFun := ⟨1, 9, [], [(.tmp 2, ⟨false, 0, false⟩)],
 (.seq (.reg [⟨(some 2), .mv (.k (D.bool false)), none⟩])
 (.seq (.reg [⟨(some 3), .mv (.t 0), none⟩,
  ⟨(some 4), .bin .eql (.t 3) (.k (D.int .u8 (0))), none⟩,
  ⟨(some 5), .mv (.t 4), none⟩,
  ⟨(some 6), .mv (.t 0), (some (5, false))⟩,
  ⟨(some 7), .call false 398 [(.t 6), (.k (D.int .u8 (32))), (.k (D.int .u8 (47)))], (some (5, false))⟩,
  ⟨(some 8), .pick (.t 5) (.k (D.bool true)) (.t 7), none⟩,
  ⟨(some 2), .mv (.t 8), none⟩])
 .ret))⟩
def a394 : Ann := ⟨[], [⟨false, 0, false⟩], []⟩
def s394 : SFun := ⟨1, 21, [], [(.tmp 2, ⟨false, 0, false⟩)],
 (.seq (.reg [⟨(some 2), .mv (.k (D.bool false)), none⟩])
 (.seq (.reg [⟨(some 3), .mv (.t 0), none⟩,
  ⟨(some 4), .bin .geq (.t 3) (.k (D.int .i32 (32))), none⟩,
  ⟨(some 5), .mv (.t 4), none⟩,
  ⟨(some 6), .mv (.t 0), (some (5, true))⟩,
  ⟨(some 7), .bin .leq (.t 6) (.k (D.int .i32 (1114111))), (some (5, true))⟩,
  ⟨(some 8), .pick (.t 5) (.t 7) (.k (D.bool false)), none⟩,
  ⟨(some 9), .mv (.t 8), none⟩,
  ⟨(some 10), .mv (.t 0), (some (9, true))⟩,
  ⟨(some 11), .bin .neq (.t 10) (.k (D.int .i32 (127))), (some (9, true))⟩,
  ⟨(some 12), .pick (.t 9) (.t 11) (.k (D.bool false)), none⟩,
  ⟨(some 13), .mv (.t 12), none⟩,
  ⟨(some 14), .mv (.t 0), (some (13, true))⟩,
  ⟨(some 15), .bin .lss (.t 14) (.k (D.int .i32 (55296))), (some (13, true))⟩,
  ⟨(some 16), .mv (.t 15), (some (13, true))⟩,
  ⟨(some 17), .mv (.t 0), (some (16, false))⟩,
  ⟨(some 18), .bin .gtr (.t 17) (.k (D.int .i32 (57343))), (some (16, false))⟩,
  ⟨(some 19), .pick (.t 16) (.k (D.bool true)) (.t 18), (some (13, true))⟩,
  ⟨(some 20), .pick (.t 13) (.t 19) (.k (D.bool false)), none⟩,
  ⟨(some 2), .mv (.t 20), none⟩])
 .ret))⟩
def a391 : Ann := ⟨[], [⟨false, 0, false⟩], []⟩
def s391 : SFun := ⟨2, 9, [], [(.tmp 4, ⟨false, 0, false⟩)],
 (.seq (.reg [⟨(some 4), .mv (.k (D.bool false)), none⟩])
 (.seq (.reg [⟨(some 5), .mv (.t 0), none⟩,
  ⟨(some 6), .mv (.t 1), none⟩,
  ⟨(some 7), .call false 469 [(.t 5), (.t 6)], none⟩,
  ⟨(some 8), .bin .geq (.t 7) (.k (D.int .i64 (0))), none⟩,
  ⟨(some 4), .mv (.t 8), none⟩])
 .ret))⟩
def a461 : Ann := ⟨[(2, [(0, ⟨false, 0, false⟩), (1, ⟨false, 0, false⟩), (4, ⟨false, 0, false⟩), (7, ⟨false, 0, false⟩), (8, ⟨false, 0, false⟩)])], [⟨false, 0, false⟩], []⟩
def s461 : SFun := ⟨2, 19, [], [(.tmp 4, ⟨false, 0, false⟩)],
 (.seq (.reg [⟨(some 4), .mv (.k (D.int .i64 (0))), none⟩])
 (.seq (.seq (.reg [⟨(some 6), .mv (.t 0), none⟩,
  ⟨(some 7), .len (.t 6), none⟩,
  ⟨(some 8), .mv (.k (D.int .i64 (0))), none⟩])
 (.block 0 (.loop [(0, ⟨false, 0, false⟩), (1, ⟨false, 0, false⟩), (4, ⟨false, 0, false⟩), (7, ⟨false, 0, false⟩), (8, ⟨false, 0, false⟩)]
 (.seq (.reg [⟨(some 9), .bin .lss (.t 8) (.t 7), none⟩])
 (.seq (.cond (.t 9)
 .skip
 (.exit 0))
 (.seq (.block 1 (.seq (.reg [⟨(some 10), .mv (.t 8), none⟩,
  ⟨(some 5), .mv (.t 10), none⟩])
 (.seq (.reg [⟨(some 11), .mv (.t 1), none⟩,
  ⟨(some 12), .mv (.t 0), none⟩,
  ⟨(some 13), .mv (.t 5), none⟩,
  ⟨(some 14), .ixs 1 (.t 12) (.t 13), none⟩,
  ⟨(some 15), .load false 1 (.t 14), none⟩,
  ⟨(some 16), .callv false (.t 11) [(.t 15)], none⟩])
 (.cond (.t 16)
 (.seq (.reg [⟨(some 17), .mv (.t 5), none⟩,
  ⟨(some 4), .mv (.t 17), none⟩])
 .ret)
 .skip))))
 (.reg [⟨(some 18), .bin .add (.t 8) (.k (D.int .i64 (1))), none⟩,
  ⟨(some 8), .mv (.t 18), none⟩])))))))
 (.seq (.reg [⟨(some 4), .mv (.k (D.int .i64 (-1))), none⟩])
 .ret)))⟩
def a453 : Ann := ⟨[], [⟨false, 0, false⟩], []⟩
def s453 : SFun := ⟨2, 9, [], [(.tmp 4, ⟨false, 0, false⟩)],
 (.seq (.reg [⟨(some 4), .mv (.k (D.bool false)), none⟩])
 (.seq (.reg [⟨(some 5), .mv (.t 0), none⟩,
  ⟨(some 6), .mv (.t 1), none⟩,
  ⟨(some 7), .call false 461 [(.t 5), (.t 6)], none⟩,
  ⟨(some 8), .bin .geq (.t 7) (.k (D.int .i64 (0))), none⟩,
  ⟨(some 4), .mv (.t 8), none⟩])
 .ret))⟩
def a393 : Ann := ⟨[], [⟨false, 0, false⟩], []⟩
def s393 : SFun := ⟨1, 9, [], [(.tmp 2, ⟨false, 0, false⟩)],
 (.seq (.reg [⟨(some 2), .mv (.k (D.bool false)), none⟩])
 (.seq (.reg [⟨(some 3), .mv (.t 0), none⟩,
  ⟨(some 4), .bin .lss (.t 3) (.k (D.int .i64 (-1))), none⟩,
  ⟨(some 5), .mv (.t 4), none⟩,
  ⟨(some 6), .mv (.t 0), (some (5, false))⟩,
  ⟨(some 7), .bin .gtr (.t 6) (.k (D.int .i64 (65535))), (some (5, false))⟩,
  ⟨(some 8), .pick (.t 5) (.k (D.bool true)) (.t 7), none⟩,
  ⟨(some 2), .mv (.t 8), none⟩])
 .ret))⟩
def a392 : Ann := ⟨[], [⟨false, 0, false⟩], []⟩
def s392 : SFun := ⟨1, 19, [], [(.tmp 2, ⟨false, 0, false⟩)],
 (.seq (.reg [⟨(some 2), .mv (.k (D.bool false)), none⟩])
 (.seq (.reg [⟨(some 3), .mv (.k (.fn 393 [])), none⟩])
 (.seq (.reg [⟨(some 4), .mv (.t 0), none⟩,
  ⟨(some 5), .len (.t 4), none⟩,
  ⟨(some 6), .bin .leq (.t 5) (.k (D.int .i64 (16))), none⟩,
  ⟨(some 7), .mv (.t 6), none⟩,
  ⟨(some 8), .mv (.t 0), (some (7, true))⟩,
  ⟨(some 9), .mv (.t 3), (some (7, true))⟩,
  ⟨(some 10), .call false 453 [(.t 8), (.t 9)], (some (7, true))⟩,
  ⟨(some 11), .una .not (.t 10), (some (7, true))⟩,
  ⟨(some 12), .pick (.t 7) (.t 11) (.k (D.bool false)), none⟩,
  ⟨(some 13), .mv (.t 12), none⟩,
  ⟨(some 14), .mv (.t 0), (some (13, true))⟩,
  ⟨(some 15), .bsl false 1 1 [(D.int .i64 (0))] [(0, (.k (D.int .i64 (-1))))], (some (13, true))⟩,
  ⟨(some 16), .call false 457 [(.t 14), (.t 15)], (some (13, true))⟩,
  ⟨(some 17), .una .not (.t 16), (some (13, true))⟩,
  ⟨(some 18), .pick (.t 13) (.t 17) (.k (D.bool false)), none⟩,
  ⟨(some 2), .mv (.t 18), none⟩])
 .ret)))⟩
def a395 : Ann := ⟨[(2, [(0, ⟨false, 0, false⟩), (2, ⟨false, 0, false⟩), (5, ⟨false, 0, false⟩), (6, ⟨false, 0, false⟩)])], [⟨false, 0, false⟩], []⟩
def s395 : SFun := ⟨1, 17, [], [(.tmp 2, ⟨false, 0, false⟩)],
 (.seq (.reg [⟨(some 2), .mv (.k (D.bool false)), none⟩])
 (.seq (.seq (.reg [⟨(some 4), .mv (.t 0), none⟩,
  ⟨(some 5), .lens (.t 4), none⟩,
  ⟨(some 6), .mv (.k (D.int .i64 (0))), none⟩])
 (.block 0 (.loop [(0, ⟨false, 0, false⟩), (2, ⟨false, 0, false⟩), (5, ⟨false, 0, false⟩), (6, ⟨false, 0, false⟩)]
 (.seq (.reg [⟨(some 7), .bin .lss (.t 6) (.t 5), none⟩])
 (.seq (.cond (.t 7)
 .skip
 (.exit 0))
 (.seq (.block 1 (.seq (.reg [⟨(some 8), .mv (.t 6), none⟩,
  ⟨(some 3), .mv (.t 8), none⟩])
 (.seq (.reg [⟨(some 9), .mv (.t 0), none⟩,
  ⟨(some 10), .mv (.t 3), none⟩,
  ⟨(some 11), .ixt (.t 9) (.t 10), none⟩,
  ⟨(some 12), .bin .lss (.t 11) (.k (D.int .u8 (32))), none⟩])
 (.cond (.t 12)
 (.seq (.reg [⟨(some 2), .mv (.k (D.bool false)), none⟩])
 .ret)
 .skip))))
 (.reg [⟨(some 13), .bin .add (.t 6) (.k (D.int .i64 (1))), none⟩,
  ⟨(some 6), .mv (.t 13), none⟩])))))))
 (.seq (.reg [⟨(some 14), .mv (.t 0), none⟩,
  ⟨(some 15), .lens (.t 14), none⟩,
  ⟨(some 16), .bin .leq (.t 15) (.k (D.int .i64 (4096))), none⟩,
  ⟨(some 2), .mv (.t 16), none⟩])
 .ret)))⟩
def a384 : Ann := ⟨[], [⟨false, 0, false⟩], []⟩
def s384 : SFun := ⟨1, 71, [], [(.tmp 2, ⟨false, 0, false⟩)],
 (.seq (.reg [⟨(some 1), .box 7 (.t 0), none⟩,
  ⟨(some 2), .mv (.k (D.bool false)), none⟩])
 (.seq (.seq (.reg [⟨(some 3), .load true 7 (.t 1), none⟩,
  ⟨(some 4), .call false 387 [(.t 3)], none⟩,
  ⟨(some 5), .una .not (.t 4), none⟩,
  ⟨(some 6), .mv (.t 5), none⟩,
  ⟨(some 7), .fad 3 (.t 1), (some (6, false))⟩,
  ⟨(some 8), .load false 1 (.t 7), (some (6, false))⟩,
  ⟨(some 9), .call false 390 [(.t 8)], (some (6, false))⟩,
  ⟨(some 10), .una .not (.t 9), (some (6, false))⟩,
  ⟨(some 11), .pick (.t 6) (.k (D.bool true)) (.t 10), none⟩])
 (.cond (.t 11)
 (.seq (.reg [⟨(some 2), .mv (.k (D.bool false)), none⟩])
 .ret)
 .skip))
 (.seq (.seq (.reg [⟨(some 12), .fad 0 (.t 1), none⟩,
  ⟨(some 13), .load false 1 (.t 12), none⟩])
 (.block 0 (.seq (.reg [⟨(some 15), .bin .eql (.t 13) (.k (D.int .i64 (1))), none⟩,
  ⟨(some 14), .mv (.t 15), none⟩])
 (.cond (.t 14)
 (.seq (.reg [⟨(some 16), .fad 1 (.t 1), none⟩,
  ⟨(some 17), .load false 1 (.t 16), none⟩,
  ⟨(some 18), .call false 394 [(.t 17)], none⟩,
  ⟨(some 2), .mv (.t 18), none⟩])
 .ret)
 (.seq (.reg [⟨(some 20), .bin .eql (.t 13) (.k (D.int .i64 (2))), none⟩,
  ⟨(some 19), .mv (.t 20), none⟩])
 (.cond (.t 19)
 (.seq (.reg [⟨(some 21), .fad 4 (.t 1), none⟩,
  ⟨(some 22), .load false 1 (.t 21), none⟩,
  ⟨(some 23), .bin .lss (.t 22) (.k (D.int .u8 (32))), none⟩,
  ⟨(some 24), .mv (.t 23), none⟩,
  ⟨(some 25), .fad 4 (.t 1), (some (24, true))⟩,
  ⟨(some 26), .load false 1 (.t 25), (some (24, true))⟩,
  ⟨(some 27), .call false 391 [(.k (D.str [24, 26, 27])), (.t 26)], (some (24, true))⟩,
  ⟨(some 28), .una .not (.t 27), (some (24, true))⟩,
  ⟨(some 29), .pick (.t 24) (.t 28) (.k (D.bool false)), none⟩,
  ⟨(some 2), .mv (.t 29), none⟩])
 .ret)
 (.seq (.reg [⟨(some 31), .bin .eql (.t 13) (.k (D.int .i64 (3))), none⟩,
  ⟨(some 30), .mv (.t 31), none⟩])
 (.cond (.t 30)
 (.seq (.reg [⟨(some 32), .fad 4 (.t 1), none⟩,
  ⟨(some 33), .load false 1 (.t 32), none⟩,
  ⟨(some 34), .call false 398 [(.t 33), (.k (D.int .u8 (48))), (.k (D.int .u8 (126)))], none⟩,
  ⟨(some 35), .mv (.t 34), none⟩,
  ⟨(some 36), .fad 3 (.t 1), (some (35, true))⟩,
  ⟨(some 37), .load false 1 (.t 36), (some (35, true))⟩,
  ⟨(some 38), .bin .neq (.t 37) (.k (D.int .u8 (0))), (some (35, true))⟩,
  ⟨(some 39), .mv (.t 38), (some (35, true))⟩,
  ⟨(some 40), .fad 4 (.t 1), (some (39, false))⟩,
  ⟨(some 41), .load false 1 (.t 40), (some (39, false))⟩,
  ⟨(some 42), .call false 391 [(.k (D.str [91, 93, 80, 88, 94, 95])), (.t 41)], (some (39, false))⟩,
  ⟨(some 43), .una .not (.t 42), (some (39, false))⟩,
  ⟨(some 44), .pick (.t 39) (.k (D.bool true)) (.t 43), (some (35, true))⟩,
  ⟨(some 45), .pick (.t 35) (.t 44) (.k (D.bool false)), none⟩,
  ⟨(some 2), .mv (.t 45), none⟩])
 .ret)
 (.seq (.reg [⟨(some 47), .bin .eql (.t 13) (.k (D.int .i64 (4))), none⟩,
  ⟨(some 46), .mv (.t 47), none⟩])
 (.cond (.t 46)
 (.seq (.reg [⟨(some 48), .fad 4 (.t 1), none⟩,
  ⟨(some 49), .load false 1 (.t 48), none⟩,
  ⟨(some 50), .call false 398 [(.t 49), (.k (D.int .u8 (64))), (.k (D.int .u8 (126)))], none⟩,
  ⟨(some 51), .mv (.t 50), none⟩,
  ⟨(some 52), .fad 2 (.t 1), (some (51, true))⟩,
  ⟨(some 53), .load false 1 (.t 52), (some (51, true))⟩,
  ⟨(some 54), .bin .eql (.t 53) (.k (D.int .u8 (0))), (some (51, true))⟩,
  ⟨(some 55), .mv (.t 54), (some (51, true))⟩,
  ⟨(some 56), .fad 2 (.t 1), (some (55, false))⟩,
  ⟨(some 57), .load false 1 (.t 56), (some (55, false))⟩,
  ⟨(some 58), .call false 391 [(.k (D.str [60, 61, 62, 63])), (.t 57)], (some (55, false))⟩,
  ⟨(some 59), .pick (.t 55) (.k (D.bool true)) (.t 58), (some (51, true))⟩,
  ⟨(some 60), .pick (.t 51) (.t 59) (.k (D.bool false)), none⟩,
  ⟨(some 61), .mv (.t 60), none⟩,
  ⟨(some 62), .fad 5 (.t 1), (some (61, true))⟩,
  ⟨(some 63), .load false 1 (.t 62), (some (61, true))⟩,
  ⟨(some 64), .call false 392 [(.t 63)], (some (61, true))⟩,
  ⟨(some 65), .pick (.t 61) (.t 64) (.k (D.bool false)), none⟩,
  ⟨(some 2), .mv (.t 65), none⟩])
 .ret)
 (.seq (.reg [⟨(some 67), .bin .eql (.t 13) (.k (D.int .i64 (5))), none⟩,
  ⟨(some 66), .mv (.t 67), none⟩])
 (.cond (.t 66)
 (.seq (.reg [⟨(some 68), .fad 6 (.t 1), none⟩,
  ⟨(some 69), .load false 1 (.t 68), none⟩,
  ⟨(some 70), .call false 395 [(.t 69)], none⟩,
  ⟨(some 2), .mv (.t 70), none⟩])
 .ret)
 .skip))))))))))))
 (.seq (.reg [⟨(some 2), .mv (.k (D.bool false)), none⟩])
 .ret))))⟩
def a434 : Ann := ⟨[], [⟨false, 0, false⟩], []⟩
def s434 : SFun := ⟨2, 10, [], [(.tmp 3, ⟨false, 0, false⟩)],
 (.seq (.reg [⟨(some 3), .mv (.k (D.int .u8 (0))), none⟩])
 (.seq (.reg [⟨(some 4), .load false 1 (.t 1), none⟩,
  ⟨(some 5), .mv (.t 0), none⟩,
  ⟨(some 6), .bin .shr (.t 4) (.t 5), none⟩,
  ⟨(some 7), .bin .and (.t 6) (.k (D.int .i64 (63))), none⟩,
  ⟨(some 8), .bin .or (.k (D.int .i64 (128))) (.t 7), none⟩,
  ⟨(some 9), .cvi .u8 (.t 8), none⟩,
  ⟨(some 3), .mv (.t 9), none⟩])
 .ret))⟩
def a433 : Ann := ⟨[], [⟨true, 1, false⟩], []⟩
def s433 : SFun := ⟨1, 63, [], [(.tmp 2, ⟨true, 1, false⟩)],
 (.seq (.reg [⟨(some 2), .mv (.k .sn), none⟩])
 (.seq (.reg [⟨(some 5), .mv (.t 0), none⟩,
  ⟨(some 6), .cvi .i64 (.t 5), none⟩,
  ⟨(some 3), .alloc [(D.int .i64 (0))], none⟩,
  ⟨none, .store 1 (.t 3) (.t 6), none⟩])
 (.seq (.reg [⟨(some 7), .mkf 434 [(.t 3)], none⟩,
  ⟨(some 4), .mv (.t 7), none⟩])
 (.seq (.block 0 (.seq (.reg [⟨(some 9), .load false 1 (.t 3), none⟩,
  ⟨(some 10), .bin .lss (.t 9) (.k (D.int .i64 (0))), none⟩,
  ⟨(some 11), .mv (.t 10), none⟩,
  ⟨(some 12), .load false 1 (.t 3), (some (11, false))⟩,
  ⟨(some 13), .bin .gtr (.t 12) (.k (D.int .i64 (1114111))), (some (11, false))⟩,
  ⟨(some 14), .pick (.t 11) (.k (D.bool true)) (.t 13), none⟩,
  ⟨(some 15), .mv (.t 14), none⟩,
  ⟨(some 16), .load false 1 (.t 3), (some (15, false))⟩,
  ⟨(some 17), .bin .geq (.t 16) (.k (D.int .i64 (55296))), (some (15, false))⟩,
  ⟨(some 18), .mv (.t 17), (some (15, false))⟩,
  ⟨(some 19), .load false 1 (.t 3), (some (18, true))⟩,
  ⟨(some 20), .bin .leq (.t 19) (.k (D.int .i64 (57343))), (some (18, true))⟩,
  ⟨(some 21), .pick (.t 18) (.t 20) (.k (D.bool false)), (some (15, false))⟩,
  ⟨(some 22), .pick (.t 15) (.k (D.bool true)) (.t 21), none⟩,
  ⟨(some 8), .mv (.t 22), none⟩])
 (.cond (.t 8)
 (.seq (.reg [⟨(some 23), .call false 433 [(.k (D.int .i32 (65533)))], none⟩,
  ⟨(some 2), .mv (.t 23), none⟩])
 .ret)
 (.seq (.reg [⟨(some 25), .load false 1 (.t 3), none⟩,
  ⟨(some 26), .bin .lss (.t 25) (.k (D.int .i64 (128))), none⟩,
  ⟨(some 24), .mv (.t 26), none⟩])
 (.cond (.t 24)
 (.seq (.reg [⟨(some 27), .load false 1 (.t 3), none⟩,
  ⟨(some 28), .cvi .u8 (.t 27), none⟩,
  ⟨(some 29), .bsl true 1 1 [(D.int .u8 (0))] [(0, (.t 28))], none⟩,
  ⟨(some 2), .mv (.t 29), none⟩])
 .ret)
 (.seq (.reg [⟨(some 31), .load false 1 (.t 3), none⟩,
  ⟨(some 32), .bin .lss (.t 31) (.k (D.int .i64 (2048))), none⟩,
  ⟨(some 30), .mv (.t 32), none⟩])
 (.cond (.t 30)
 (.seq (.dreg [([], false, ⟨(some 33), .load false 1 (.t 3), none⟩),
  ([], false, ⟨(some 34), .bin .shr (.t 33) (.k (D.int .u64 (6))), none⟩),
  ([], false, ⟨(some 35), .bin .or (.k (D.int .i64 (192))) (.t 34), none⟩),
  ([], false, ⟨(some 36), .cvi .u8 (.t 35), none⟩),
  ([0, 1, 2, 3], false, ⟨(some 37), .mv (.t 4), none⟩),
  ([0, 1, 2, 3], false, ⟨(some 38), .callv true (.t 37) [(.k (D.int .i64 (0)))], none⟩),
  ([], true, ⟨(some 39), .bsl true 1 2 [(D.int .u8 (0))] [(0, (.t 36)), (1, (.t 38))], none⟩),
  ([], true, ⟨(some 2), .mv (.t 39), none⟩)])
 .ret)
 (.seq (.reg [⟨(some 41), .load false 1 (.t 3), none⟩,
  ⟨(some 42), .bin .lss (.t 41) (.k (D.int .i64 (65536))), none⟩,
  ⟨(some 40), .mv (.t 42), none⟩])
 (.cond (.t 40)
 (.seq (.dreg [([], false, ⟨(some 43), .load false 1 (.t 3), none⟩),
  ([], false, ⟨(some 44), .bin .shr (.t 43) (.k (D.int .u64 (12))), none⟩),
  ([], false, ⟨(some 45), .bin .or (.k (D.int .i64 (224))) (.t 44), none⟩),
  ([], false, ⟨(some 46), .cvi .u8 (.t 45), none⟩),
  ([0, 1, 2, 3], false, ⟨(some 47), .mv (.t 4), none⟩),
  ([0, 1, 2, 3], false, ⟨(some 48), .callv true (.t 47) [(.k (D.int .i64 (6)))], none⟩),
  ([0, 1, 2, 3, 4, 5], false, ⟨(some 49), .mv (.t 4), none⟩),
  ([0, 1, 2, 3], false, ⟨(some 50), .callv true (.t 49) [(.k (D.int .i64 (0)))], none⟩),
  ([], true, ⟨(some 51), .bsl true 1 3 [(D.int .u8 (0))] [(0, (.t 46)), (1, (.t 48)), (2, (.t 50))], none⟩),
  ([], true, ⟨(some 2), .mv (.t 51), none⟩)])
 .ret)
 .skip)))))))))
 (.seq (.dreg [([], false, ⟨(some 52), .load false 1 (.t 3), none⟩),
  ([], false, ⟨(some 53), .bin .shr (.t 52) (.k (D.int .u64 (18))), none⟩),
  ([], false, ⟨(some 54), .bin .or (.k (D.int .i64 (240))) (.t 53), none⟩),
  ([], false, ⟨(some 55), .cvi .u8 (.t 54), none⟩),
  ([0, 1, 2, 3], false, ⟨(some 56), .mv (.t 4), none⟩),
  ([0, 1, 2, 3], false, ⟨(some 57), .callv true (.t 56) [(.k (D.int .i64 (12)))], none⟩),
  ([0, 1, 2, 3, 4, 5], false, ⟨(some 58), .mv (.t 4), none⟩),
  ([0, 1, 2, 3], false, ⟨(some 59), .callv true (.t 58) [(.k (D.int .i64 (6)))], none⟩),
  ([0, 1, 2, 3, 4, 5, 6, 7], false, ⟨(some 60), .mv (.t 4), none⟩),
  ([0, 1, 2, 3], false, ⟨(some 61), .callv true (.t 60) [(.k (D.int .i64 (0)))], none⟩),
  ([], true, ⟨(some 62), .bsl true 1 4 [(D.int .u8 (0))] [(0, (.t 55)), (1, (.t 57)), (2, (.t 59)), (3, (.t 61))], none⟩),
  ([], true, ⟨(some 2), .mv (.t 62), none⟩)])
 .ret)))))⟩
def a431 : Ann := ⟨[(3, [(6, ⟨false, 0, false⟩), (7, ⟨false, 0, false⟩), (8, ⟨false, 0, false⟩), (3, ⟨true, 1, false⟩)])], [⟨true, 1, false⟩], []⟩
def s431 : SFun := ⟨1, 18, [], [(.tmp 2, ⟨true, 1, false⟩)],
 (.seq (.reg [⟨(some 2), .mv (.k .sn), none⟩])
 (.seq (.reg [⟨(some 3), .mv (.k .sn), none⟩])
 (.seq (.seq (.reg [⟨(some 6), .mv (.t 0), none⟩,
  ⟨(some 7), .len (.t 6), none⟩,
  ⟨(some 8), .mv (.k (D.int .i64 (0))), none⟩])
 (.block 0 (.loop [(6, ⟨false, 0, false⟩), (7, ⟨false, 0, false⟩), (8, ⟨false, 0, false⟩), (3, ⟨true, 1, false⟩)]
 (.seq (.reg [⟨(some 9), .bin .lss (.t 8) (.t 7), none⟩])
 (.seq (.cond (.t 9)
 .skip
 (.exit 0))
 (.seq (.block 1 (.seq (.reg [⟨(some 10), .ixs 1 (.t 6) (.t 8), none⟩,
  ⟨(some 11), .load false 1 (.t 10), none⟩,
  ⟨(some 5), .mv (.t 11), none⟩])
 (.reg [⟨(some 12), .mv (.t 3), none⟩,
  ⟨(some 13), .mv (.t 5), none⟩,
  ⟨(some 14), .call false 433 [(.t 13)], none⟩,
  ⟨(some 15), .append 1 1 (.t 12) (.t 14), none⟩,
  ⟨(some 3), .mv (.t 15), none⟩])))
 (.reg [⟨(some 16), .bin .add (.t 8) (.k (D.int .i64 (1))), none⟩,
  ⟨(some 8), .mv (.t 16), none⟩])))))))
 (.seq (.reg [⟨(some 17), .mv (.t 3), none⟩,
  ⟨(some 2), .mv (.t 17), none⟩])
 .ret))))⟩
def a460 : Ann := ⟨[(2, [(0, ⟨false, 0, false⟩), (1, ⟨false, 0, false⟩), (4, ⟨false, 0, false⟩), (7, ⟨false, 0, false⟩), (8, ⟨false, 0, false⟩)])], [⟨false, 0, false⟩], []⟩
def s460 : SFun := ⟨2, 19, [], [(.tmp 4, ⟨false, 0, false⟩)],
 (.seq (.reg [⟨(some 4), .mv (.k (D.int .i64 (0))), none⟩])
 (.seq (.seq (.reg [⟨(some 6), .mv (.t 0), none⟩,
  ⟨(some 7), .len (.t 6), none⟩,
  ⟨(some 8), .mv (.k (D.int .i64 (0))), none⟩])
 (.block 0 (.loop [(0, ⟨false, 0, false⟩), (1, ⟨false, 0, false⟩), (4, ⟨false, 0, false⟩), (7, ⟨false, 0, false⟩), (8, ⟨false, 0, false⟩)]
 (.seq (.reg [⟨(some 9), .bin .lss (.t 8) (.t 7), none⟩])
 (.seq (.cond (.t 9)
 .skip
 (.exit 0))
 (.seq (.block 1 (.seq (.reg [⟨(some 10), .mv (.t 8), none⟩,
  ⟨(some 5), .mv (.t 10), none⟩])
 (.seq (.reg [⟨(some 11), .mv (.t 1), none⟩,
  ⟨(some 12), .mv (.t 0), none⟩,
  ⟨(some 13), .mv (.t 5), none⟩,
  ⟨(some 14), .ixs 1 (.t 12) (.t 13), none⟩,
  ⟨(some 15), .load false 1 (.t 14), none⟩,
  ⟨(some 16), .callv false (.t 11) [(.t 15)], none⟩])
 (.cond (.t 16)
 (.seq (.reg [⟨(some 17), .mv (.t 5), none⟩,
  ⟨(some 4), .mv (.t 17), none⟩])
 .ret)
 .skip))))
 (.reg [⟨(some 18), .bin .add (.t 8) (.k (D.int .i64 (1))), none⟩,
  ⟨(some 8), .mv (.t 18), none⟩])))))))
 (.seq (.reg [⟨(some 4), .mv (.k (D.int .i64 (-1))), none⟩])
 .ret)))⟩
def a100456 : Ann := ⟨[(5, [(1, ⟨false, 0, false⟩), (5, ⟨false, 0, false⟩), (6, ⟨false, 0, false⟩), (0, ⟨true, 1, false⟩)])], [⟨true, 1, false⟩], []⟩
def s100456 : SFun := ⟨2, 42, [], [(.tmp 4, ⟨true, 1, false⟩)],
 (.seq (.reg [⟨(some 4), .mv (.k .sn), none⟩])
 (.seq (.reg [⟨(some 8), .mv (.t 0), none⟩,
  ⟨(some 9), .mv (.t 1), none⟩,
  ⟨(some 10), .call false 460 [(.t 8), (.t 9)], none⟩,
  ⟨(some 5), .mv (.t 10), none⟩])
 (.seq (.seq (.reg [⟨(some 11), .mv (.t 5), none⟩,
  ⟨(some 12), .bin .eql (.t 11) (.k (D.int .i64 (-1))), none⟩])
 (.cond (.t 12)
 (.seq (.reg [⟨(some 13), .mv (.t 0), none⟩,
  ⟨(some 4), .mv (.t 13), none⟩])
 .ret)
 .skip))
 (.seq (.seq (.reg [⟨(some 14), .mv (.t 5), none⟩,
  ⟨(some 15), .bin .add (.t 14) (.k (D.int .i64 (1))), none⟩,
  ⟨(some 6), .mv (.t 15), none⟩])
 (.block 0 (.loop [(1, ⟨false, 0, false⟩), (5, ⟨false, 0, false⟩), (6, ⟨false, 0, false⟩), (0, ⟨true, 1, false⟩)]
 (.seq (.seq (.reg [⟨(some 16), .mv (.t 6), none⟩,
  ⟨(some 17), .mv (.t 0), none⟩,
  ⟨(some 18), .len (.t 17), none⟩,
  ⟨(some 19), .bin .lss (.t 16) (.t 18), none⟩])
 (.cond (.t 19)
 .skip
 (.exit 0)))
 (.seq (.block 1 (.seq (.reg [⟨(some 22), .mv (.t 0), none⟩,
  ⟨(some 23), .mv (.t 6), none⟩,
  ⟨(some 24), .ixs 1 (.t 22) (.t 23), none⟩,
  ⟨(some 25), .load false 1 (.t 24), none⟩,
  ⟨(some 7), .mv (.t 25), none⟩])
 (.seq (.reg [⟨(some 26), .mv (.t 1), none⟩,
  ⟨(some 27), .mv (.t 7), none⟩,
  ⟨(some 28), .callv false (.t 26) [(.t 27)], none⟩,
  ⟨(some 29), .una .not (.t 28), none⟩])
 (.cond (.t 29)
 (.seq (.reg [⟨(some 30), .mv (.t 0), none⟩,
  ⟨(some 31), .mv (.t 5), none⟩,
  ⟨(some 32), .mv (.t 7), none⟩,
  ⟨(some 33), .ixs 1 (.t 30) (.t 31), none⟩,
  ⟨none, .store 1 (.t 33) (.t 32), none⟩])
 (.reg [⟨(some 34), .mv (.t 5), none⟩,
  ⟨(some 35), .bin .add (.t 34) (.k (D.int .i64 (1))), none⟩,
  ⟨(some 5), .mv (.t 35), none⟩]))
 .skip))))
 (.reg [⟨(some 20), .mv (.t 6), none⟩,
  ⟨(some 21), .bin .add (.t 20) (.k (D.int .i64 (1))), none⟩,
  ⟨(some 6), .mv (.t 21), none⟩]))))))
 (.seq (.reg [⟨(some 36), .mv (.t 0), none⟩,
  ⟨(some 37), .mv (.t 5), none⟩,
  ⟨(some 38), .slc 1 (.t 36) (some (.t 37)) none, none⟩,
  ⟨none, .clr (D.int .u8 (0)) (.t 38), none⟩])
 (.seq (.reg [⟨(some 39), .mv (.t 0), none⟩,
  ⟨(some 40), .mv (.t 5), none⟩,
  ⟨(some 41), .slc 1 (.t 39) none (some (.t 40)), none⟩,
  ⟨(some 4), .mv (.t 41), none⟩])
 .ret))))))⟩
def a397 : Ann := ⟨[], [⟨false, 0, false⟩], []⟩
def s397 : SFun := ⟨1, 5, [], [(.tmp 2, ⟨false, 0, false⟩)],
 (.seq (.reg [⟨(some 2), .mv (.k (D.bool false)), none⟩])
 (.seq (.reg [⟨(some 3), .mv (.t 0), none⟩,
  ⟨(some 4), .bin .eql (.t 3) (.k (D.int .u8 (0))), none⟩,
  ⟨(some 2), .mv (.t 4), none⟩])
 .ret))⟩
def a100396 : Ann := ⟨[], [⟨true, 1, false⟩], []⟩
def s100396 : SFun := ⟨1, 5, [], [(.tmp 2, ⟨true, 1, false⟩)],
 (.seq (.reg [⟨(some 2), .mv (.k .sn), none⟩])
 (.seq (.reg [⟨(some 3), .mv (.t 0), none⟩,
  ⟨(some 4), .call false 100456 [(.t 3), (.k (.fn 397 []))], none⟩,
  ⟨(some 2), .mv (.t 4), none⟩])
 .ret))⟩
def a102 : Ann := ⟨[], [⟨false, 0, false⟩], []⟩
def s102 : SFun := ⟨1, 15, [], [(.tmp 2, ⟨false, 0, false⟩)],
 (.seq (.reg [⟨(some 2), .mv (.k (D.str [])), none⟩])
 (.seq (.seq (.reg [⟨(some 3), .mv (.t 0), none⟩,
  ⟨(some 4), .bin .lss (.t 3) (.k (D.int .i64 (10))), none⟩])
 (.cond (.t 4)
 (.seq (.reg [⟨(some 5), .mv (.t 0), none⟩,
  ⟨(some 6), .mv (.t 0), none⟩,
  ⟨(some 7), .bin .add (.t 6) (.k (D.int .i64 (1))), none⟩,
  ⟨(some 8), .sls (.k (D.str [48, 49, 50, 51, 52, 53, 54, 55, 56, 57, 97, 98, 99, 100, 101, 102, 103, 104, 105, 106, 107, 108, 109, 110, 111, 112, 113, 114, 115, 116, 117, 118, 119, 120, 121, 122])) (some (.t 5)) (some (.t 7)), none⟩,
  ⟨(some 2), .mv (.t 8), none⟩])
 .ret)
 .skip))
 (.seq (.reg [⟨(some 9), .mv (.t 0), none⟩,
  ⟨(some 10), .bin .mul (.t 9) (.k (D.int .i64 (2))), none⟩,
  ⟨(some 11), .mv (.t 0), none⟩,
  ⟨(some 12), .bin .mul (.t 11) (.k (D.int .i64 (2))), none⟩,
  ⟨(some 13), .bin .add (.t 12) (.k (D.int .i64 (2))), none⟩,
  ⟨(some 14), .sls (.k (D.str [48, 48, 48, 49, 48, 50, 48, 51, 48, 52, 48, 53, 48, 54, 48, 55, 48, 56, 48, 57, 49, 48, 49, 49, 49, 50, 49, 51, 49, 52, 49, 53, 49, 54, 49, 55, 49, 56, 49, 57, 50, 48, 50, 49, 50, 50, 50, 51, 50, 52, 50, 53, 50, 54, 50, 55, 50, 56, 50, 57, 51, 48, 51, 49, 51, 50, 51, 51, 51, 52, 51, 53, 51, 54, 51, 55, 51, 56, 51, 57, 52, 48, 52, 49, 52, 50, 52, 51, 52, 52, 52, 53, 52, 54, 52, 55, 52, 56, 52, 57, 53, 48, 53, 49, 53, 50, 53, 51, 53, 52, 53, 53, 53, 54, 53, 55, 53, 56, 53, 57, 54, 48, 54, 49, 54, 50, 54, 51, 54, 52, 54, 53, 54, 54, 54, 55, 54, 56, 54, 57, 55, 48, 55, 49, 55, 50, 55, 51, 55, 52, 55, 53, 55, 54, 55, 55, 55, 56, 55, 57, 56, 48, 56, 49, 56, 50, 56, 51, 56, 52, 56, 53, 56, 54, 56, 55, 56, 56, 56, 57, 57, 48, 57, 49, 57, 50, 57, 51, 57, 52, 57, 53, 57, 54, 57, 55, 57, 56, 57, 57])) (some (.t 10)) (some (.t 13)), none⟩,
  ⟨(some 2), .mv (.t 14), none⟩])
 .ret)))⟩
def a442 : Ann := ⟨[], [⟨false, 0, false⟩], []⟩
def s442 : SFun := ⟨1, 25, [], [(.tmp 2, ⟨false, 0, false⟩)],
 (.seq (.reg [⟨(some 2), .mv (.k (D.int .i64 (0))), none⟩])
 (.seq (.seq (.reg [⟨(some 3), .mv (.t 0), none⟩,
  ⟨(some 4), .bin .geq (.t 3) (.k (D.int .u64 (4294967296))), none⟩])
 (.cond (.t 4)
 (.seq (.reg [⟨(some 5), .mv (.t 0), none⟩,
  ⟨(some 6), .bin .shr (.t 5) (.k (D.int .u64 (32))), none⟩,
  ⟨(some 0), .mv (.t 6), none⟩])
 (.reg [⟨(some 2), .mv (.k (D.int .i64 (32))), none⟩]))
 .skip))
 (.seq (.seq (.reg [⟨(some 7), .mv (.t 0), none⟩,
  ⟨(some 8), .bin .geq (.t 7) (.k (D.int .u64 (65536))), none⟩])
 (.cond (.t 8)
 (.seq (.reg [⟨(some 9), .mv (.t 0), none⟩,
  ⟨(some 10), .bin .shr (.t 9) (.k (D.int .u64 (16))), none⟩,
  ⟨(some 0), .mv (.t 10), none⟩])
 (.reg [⟨(some 11), .mv (.t 2), none⟩,
  ⟨(some 12), .bin .add (.t 11) (.k (D.int .i64 (16))), none⟩,
  ⟨(some 2), .mv (.t 12), none⟩]))
 .skip))
 (.seq (.seq (.reg [⟨(some 13), .mv (.t 0), none⟩,
  ⟨(some 14), .bin .geq (.t 13) (.k (D.int .u64 (256))), none⟩])
 (.cond (.t 14)
 (.seq (.reg [⟨(some 15), .mv (.t 0), none⟩,
  ⟨(some 16), .bin .shr (.t 15) (.k (D.int .u64 (8))), none⟩,
  ⟨(some 0), .mv (.t 16), none⟩])
 (.reg [⟨(some 17), .mv (.t 2), none⟩,
  ⟨(some 18), .bin .add (.t 17) (.k (D.int .i64 (8))), none⟩,
  ⟨(some 2), .mv (.t 18), none⟩]))
 .skip))
 (.seq (.reg [⟨(some 19), .mv (.t 2), none⟩,
  ⟨(some 20), .mv (.t 0), none⟩,
  ⟨(some 21), .cvi .u8 (.t 20), none⟩,
  ⟨(some 22), .ixt (.k (D.str [0, 1, 2, 2, 3, 3, 3, 3, 4, 4, 4, 4, 4, 4, 4, 4, 5, 5, 5, 5, 5, 5, 5, 5, 5, 5, 5, 5, 5, 5, 5, 5, 6, 6, 6, 6, 6, 6, 6, 6, 6, 6, 6, 6, 6, 6, 6, 6, 6, 6, 6, 6, 6, 6, 6, 6, 6, 6, 6, 6, 6, 6, 6, 6, 7, 7, 7, 7, 7, 7, 7, 7, 7, 7, 7, 7, 7, 7, 7, 7, 7, 7, 7, 7, 7, 7, 7, 7, 7, 7, 7, 7, 7, 7, 7, 7, 7, 7, 7, 7, 7, 7, 7, 7, 7, 7, 7, 7, 7, 7, 7, 7, 7, 7, 7, 7, 7, 7, 7, 7, 7, 7, 7, 7, 7, 7, 7, 7, 8, 8, 8, 8, 8, 8, 8, 8, 8, 8, 8, 8, 8, 8, 8, 8, 8, 8, 8, 8, 8, 8, 8, 8, 8, 8, 8, 8, 8, 8, 8, 8, 8, 8, 8, 8, 8, 8, 8, 8, 8, 8, 8, 8, 8, 8, 8, 8, 8, 8, 8, 8, 8, 8, 8, 8, 8, 8, 8, 8, 8, 8, 8, 8, 8, 8, 8, 8, 8, 8, 8, 8, 8, 8, 8, 8, 8, 8, 8, 8, 8, 8, 8, 8, 8, 8, 8, 8, 8, 8, 8, 8, 8, 8, 8, 8, 8, 8, 8, 8, 8, 8, 8, 8, 8, 8, 8, 8, 8, 8, 8, 8, 8, 8, 8, 8, 8, 8, 8, 8, 8, 8, 8, 8, 8, 8, 8, 8])) (.t 21), none⟩,
  ⟨(some 23), .cvi .i64 (.t 22), none⟩,
  ⟨(some 24), .bin .add (.t 19) (.t 23), none⟩,
  ⟨(some 2), .mv (.t 24), none⟩])
 .ret)))))⟩
def a100 : Ann := ⟨[], [⟨false, 0, false⟩], []⟩
def s100 : SFun := ⟨1, 6, [], [(.tmp 2, ⟨false, 0, false⟩)],
 (.seq (.reg [⟨(some 2), .mv (.k (D.int .i64 (0))), none⟩])
 (.seq (.reg [⟨(some 3), .mv (.t 0), none⟩,
  ⟨(some 4), .bin .mul (.t 3) (.k (D.int .i64 (78913))), none⟩,
  ⟨(some 5), .bin .shr (.t 4) (.k (D.int .u64 (18))), none⟩,
  ⟨(some 2), .mv (.t 5), none⟩])
 .ret))⟩
def a96 : Ann := ⟨[], [⟨false, 0, false⟩], []⟩
def s96 : SFun := ⟨1, 4, [], [(.tmp 2, ⟨false, 0, false⟩)],
 (.seq (.reg [⟨(some 2), .mv (.k (D.int .i64 (0))), none⟩])
 (.seq (.seq (.reg [⟨(some 3), .mv (.t 0), none⟩])
 (.cond (.t 3)
 (.seq (.reg [⟨(some 2), .mv (.k (D.int .i64 (1))), none⟩])
 .ret)
 .skip))
 (.seq (.reg [⟨(some 2), .mv (.k (D.int .i64 (0))), none⟩])
 .ret)))⟩
def a101 : Ann := ⟨[], [⟨false, 0, false⟩], []⟩
def s101 : SFun := ⟨1, 15, [], [(.tmp 2, ⟨false, 0, false⟩)],
 (.seq (.reg [⟨(some 2), .mv (.k (D.int .i64 (0))), none⟩])
 (.seq (.reg [⟨(some 4), .mv (.t 0), none⟩,
  ⟨(some 5), .call false 442 [(.t 4)], none⟩,
  ⟨(some 6), .call false 100 [(.t 5)], none⟩,
  ⟨(some 3), .mv (.t 6), none⟩])
 (.seq (.reg [⟨(some 7), .mv (.t 3), none⟩,
  ⟨(some 8), .mv (.t 0), none⟩,
  ⟨(some 9), .mv (.t 3), none⟩,
  ⟨(some 10), .ixa 20 1 (.k .un) (.t 9), none⟩,
  ⟨(some 11), .load false 1 (.t 10), none⟩,
  ⟨(some 12), .bin .geq (.t 8) (.t 11), none⟩,
  ⟨(some 13), .call false 96 [(.t 12)], none⟩,
  ⟨(some 14), .bin .add (.t 7) (.t 13), none⟩,
  ⟨(some 2), .mv (.t 14), none⟩])
 .ret)))⟩
def a97 : Ann := ⟨[(1, [(1, ⟨false, 0, false⟩), (4, ⟨false, 0, false⟩), (0, ⟨true, 1, false⟩)])], [], []⟩
def s97 : SFun := ⟨2, 167, [], [],
 (.seq (.reg [⟨(some 17), .mv (.t 0), none⟩,
  ⟨(some 18), .len (.t 17), none⟩,
  ⟨(some 4), .mv (.t 18), none⟩])
 (.seq (.block 0 (.loop [(1, ⟨false, 0, false⟩), (4, ⟨false, 0, false⟩), (0, ⟨true, 1, false⟩)]
 (.seq (.seq (.reg [⟨(some 19), .mv (.t 4), none⟩,
  ⟨(some 20), .bin .geq (.t 19) (.k (D.int .i64 (8))), none⟩])
 (.cond (.t 20)
 .skip
 (.exit 0)))
 (.block 1 (.seq (.reg [⟨(some 21), .mv (.t 1), none⟩,
  ⟨(some 22), .bin .rem (.t 21) (.k (D.int .u64 (100000000))), none⟩,
  ⟨(some 23), .cvi .u32 (.t 22), none⟩,
  ⟨(some 5), .mv (.t 23), none⟩])
 (.seq (.reg [⟨(some 24), .mv (.t 1), none⟩,
  ⟨(some 25), .bin .quo (.t 24) (.k (D.int .u64 (100000000))), none⟩,
  ⟨(some 1), .mv (.t 25), none⟩])
 (.seq (.reg [⟨(some 26), .mv (.t 5), none⟩,
  ⟨(some 27), .bin .quo (.t 26) (.k (D.int .u32 (10000))), none⟩,
  ⟨(some 28), .mv (.t 5), none⟩,
  ⟨(some 29), .bin .rem (.t 28) (.k (D.int .u32 (10000))), none⟩,
  ⟨(some 6), .mv (.t 27), none⟩,
  ⟨(some 7), .mv (.t 29), none⟩])
 (.seq (.reg [⟨(some 30), .mv (.t 7), none⟩,
  ⟨(some 31), .bin .quo (.t 30) (.k (D.int .u32 (100))), none⟩,
  ⟨(some 32), .bin .mul (.t 31) (.k (D.int .u32 (2))), none⟩,
  ⟨(some 33), .mv (.t 7), none⟩,
  ⟨(some 34), .bin .rem (.t 33) (.k (D.int .u32 (100))), none⟩,
  ⟨(some 35), .bin .mul (.t 34) (.k (D.int .u32 (2))), none⟩,
  ⟨(some 8), .mv (.t 32), none⟩,
  ⟨(some 9), .mv (.t 35), none⟩])
 (.seq (.reg [⟨(some 36), .mv (.t 6), none⟩,
  ⟨(some 37), .bin .quo (.t 36) (.k (D.int .u32 (100))), none⟩,
  ⟨(some 38), .bin .mul (.t 37) (.k (D.int .u32 (2))), none⟩,
  ⟨(some 39), .mv (.t 6), none⟩,
  ⟨(some 40), .bin .rem (.t 39) (.k (D.int .u32 (100))), none⟩,
  ⟨(some 41), .bin .mul (.t 40) (.k (D.int .u32 (2))), none⟩,
  ⟨(some 10), .mv (.t 38), none⟩,
  ⟨(some 11), .mv (.t 41), none⟩])
 (.seq (.dreg [([], false, ⟨(some 42), .mv (.t 0), none⟩),
  ([0], false, ⟨(some 43), .mv (.t 4), none⟩),
  ([0], false, ⟨(some 44), .bin .sub (.t 43) (.k (D.int .i64 (1))), none⟩),
  ([0, 1, 2], false, ⟨(some 45), .mv (.t 0), none⟩),
  ([0, 1, 2, 3], false, ⟨(some 46), .mv (.t 4), none⟩),
  ([0, 1, 2, 3], false, ⟨(some 47), .bin .sub (.t 46) (.k (D.int .i64 (2))), none⟩),
  ([0, 1, 2, 3, 4, 5], false, ⟨(some 48), .mv (.t 9), none⟩),
  ([0, 1, 2, 3, 4, 5], false, ⟨(some 49), .bin .add (.t 48) (.k (D.int .u32 (1))), none⟩),
  ([0, 1, 2, 3, 4, 5], false, ⟨(some 50), .ixt (.k (D.str [48, 48, 48, 49, 48, 50, 48, 51, 48, 52, 48, 53, 48, 54, 48, 55, 48, 56, 48, 57, 49, 48, 49, 49, 49, 50, 49, 51, 49, 52, 49, 53, 49, 54, 49, 55, 49, 56, 49, 57, 50, 48, 50, 49, 50, 50, 50, 51, 50, 52, 50, 53, 50, 54, 50, 55, 50, 56, 50, 57, 51, 48, 51, 49, 51, 50, 51, 51, 51, 52, 51, 53, 51, 54, 51, 55, 51, 56, 51, 57, 52, 48, 52, 49, 52, 50, 52, 51, 52, 52, 52, 53, 52, 54, 52, 55, 52, 56, 52, 57, 53, 48, 53, 49, 53, 50, 53, 51, 53, 52, 53, 53, 53, 54, 53, 55, 53, 56, 53, 57, 54, 48, 54, 49, 54, 50, 54, 51, 54, 52, 54, 53, 54, 54, 54, 55, 54, 56, 54, 57, 55, 48, 55, 49, 55, 50, 55, 51, 55, 52, 55, 53, 55, 54, 55, 55, 55, 56, 55, 57, 56, 48, 56, 49, 56, 50, 56, 51, 56, 52, 56, 53, 56, 54, 56, 55, 56, 56, 56, 57, 57, 48, 57, 49, 57, 50, 57, 51, 57, 52, 57, 53, 57, 54, 57, 55, 57, 56, 57, 57])) (.t 49), none⟩),
  ([0, 1, 2, 3, 4, 5, 6, 7, 8], false, ⟨(some 51), .mv (.t 9), none⟩),
  ([0, 1, 2, 3, 4, 5, 6, 7, 8], false, ⟨(some 52), .ixt (.k (D.str [48, 48, 48, 49, 48, 50, 48, 51, 48, 52, 48, 53, 48, 54, 48, 55, 48, 56, 48, 57, 49, 48, 49, 49, 49, 50, 49, 51, 49, 52, 49, 53, 49, 54, 49, 55, 49, 56, 49, 57, 50, 48, 50, 49, 50, 50, 50, 51, 50, 52, 50, 53, 50, 54, 50, 55, 50, 56, 50, 57, 51, 48, 51, 49, 51, 50, 51, 51, 51, 52, 51, 53, 51, 54, 51, 55, 51, 56, 51, 57, 52, 48, 52, 49, 52, 50, 52, 51, 52, 52, 52, 53, 52, 54, 52, 55, 52, 56, 52, 57, 53, 48, 53, 49, 53, 50, 53, 51, 53, 52, 53, 53, 53, 54, 53, 55, 53, 56, 53, 57, 54, 48, 54, 49, 54, 50, 54, 51, 54, 52, 54, 53, 54, 54, 54, 55, 54, 56, 54, 57, 55, 48, 55, 49, 55, 50, 55, 51, 55, 52, 55, 53, 55, 54, 55, 55, 55, 56, 55, 57, 56, 48, 56, 49, 56, 50, 56, 51, 56, 52, 56, 53, 56, 54, 56, 55, 56, 56, 56, 57, 57, 48, 57, 49, 57, 50, 57, 51, 57, 52, 57, 53, 57, 54, 57, 55, 57, 56, 57, 57])) (.t 51), none⟩),
  ([3, 4, 5, 9, 10], false, ⟨(some 53), .ixs 1 (.t 42) (.t 44), none⟩),
  ([3, 4, 5, 9, 10], false, ⟨none, .store 1 (.t 53) (.t 50), none⟩),
  ([], true, ⟨(some 54), .ixs 1 (.t 45) (.t 47), none⟩),
  ([], true, ⟨none, .store 1 (.t 54) (.t 52), none⟩)])
 (.seq (.dreg [([], false, ⟨(some 55), .mv (.t 0), none⟩),
  ([0], false, ⟨(some 56), .mv (.t 4), none⟩),
  ([0], false, ⟨(some 57), .bin .sub (.t 56) (.k (D.int .i64 (3))), none⟩),
  ([0, 1, 2], false, ⟨(some 58), .mv (.t 0), none⟩),
  ([0, 1, 2, 3], false, ⟨(some 59), .mv (.t 4), none⟩),
  ([0, 1, 2, 3], false, ⟨(some 60), .bin .sub (.t 59) (.k (D.int .i64 (4))), none⟩),
  ([0, 1, 2, 3, 4, 5], false, ⟨(some 61), .mv (.t 8), none⟩),
  ([0, 1, 2, 3, 4, 5], false, ⟨(some 62), .bin .add (.t 61) (.k (D.int .u32 (1))), none⟩),
  ([0, 1, 2, 3, 4, 5], false, ⟨(some 63), .ixt (.k (D.str [48, 48, 48, 49, 48, 50, 48, 51, 48, 52, 48, 53, 48, 54, 48, 55, 48, 56, 48, 57, 49, 48, 49, 49, 49, 50, 49, 51, 49, 52, 49, 53, 49, 54, 49, 55, 49, 56, 49, 57, 50, 48, 50, 49, 50, 50, 50, 51, 50, 52, 50, 53, 50, 54, 50, 55, 50, 56, 50, 57, 51, 48, 51, 49, 51, 50, 51, 51, 51, 52, 51, 53, 51, 54, 51, 55, 51, 56, 51, 57, 52, 48, 52, 49, 52, 50, 52, 51, 52, 52, 52, 53, 52, 54, 52, 55, 52, 56, 52, 57, 53, 48, 53, 49, 53, 50, 53, 51, 53, 52, 53, 53, 53, 54, 53, 55, 53, 56, 53, 57, 54, 48, 54, 49, 54, 50, 54, 51, 54, 52, 54, 53, 54, 54, 54, 55, 54, 56, 54, 57, 55, 48, 55, 49, 55, 50, 55, 51, 55, 52, 55, 53, 55, 54, 55, 55, 55, 56, 55, 57, 56, 48, 56, 49, 56, 50, 56, 51, 56, 52, 56, 53, 56, 54, 56, 55, 56, 56, 56, 57, 57, 48, 57, 49, 57, 50, 57, 51, 57, 52, 57, 53, 57, 54, 57, 55, 57, 56, 57, 57])) (.t 62), none⟩),
  ([0, 1, 2, 3, 4, 5, 6, 7, 8], false, ⟨(some 64), .mv (.t 8), none⟩),
  ([0, 1, 2, 3, 4, 5, 6, 7, 8], false, ⟨(some 65), .ixt (.k (D.str [48, 48, 48, 49, 48, 50, 48, 51, 48, 52, 48, 53, 48, 54, 48, 55, 48, 56, 48, 57, 49, 48, 49, 49, 49, 50, 49, 51, 49, 52, 49, 53, 49, 54, 49, 55, 49, 56, 49, 57, 50, 48, 50, 49, 50, 50, 50, 51, 50, 52, 50, 53, 50, 54, 50, 55, 50, 56, 50, 57, 51, 48, 51, 49, 51, 50, 51, 51, 51, 52, 51, 53, 51, 54, 51, 55, 51, 56, 51, 57, 52, 48, 52, 49, 52, 50, 52, 51, 52, 52, 52, 53, 52, 54, 52, 55, 52, 56, 52, 57, 53, 48, 53, 49, 53, 50, 53, 51, 53, 52, 53, 53, 53, 54, 53, 55, 53, 56, 53, 57, 54, 48, 54, 49, 54, 50, 54, 51, 54, 52, 54, 53, 54, 54, 54, 55, 54, 56, 54, 57, 55, 48, 55, 49, 55, 50, 55, 51, 55, 52, 55, 53, 55, 54, 55, 55, 55, 56, 55, 57, 56, 48, 56, 49, 56, 50, 56, 51, 56, 52, 56, 53, 56, 54, 56, 55, 56, 56, 56, 57, 57, 48, 57, 49, 57, 50, 57, 51, 57, 52, 57, 53, 57, 54, 57, 55, 57, 56, 57, 57])) (.t 64), none⟩),
  ([3, 4, 5, 9, 10], false, ⟨(some 66), .ixs 1 (.t 55) (.t 57), none⟩),
  ([3, 4, 5, 9, 10], false, ⟨none, .store 1 (.t 66) (.t 63), none⟩),
  ([], true, ⟨(some 67), .ixs 1 (.t 58) (.t 60), none⟩),
  ([], true, ⟨none, .store 1 (.t 67) (.t 65), none⟩)])
 (.seq (.dreg [([], false, ⟨(some 68), .mv (.t 0), none⟩),
  ([0], false, ⟨(some 69), .mv (.t 4), none⟩),
  ([0], false, ⟨(some 70), .bin .sub (.t 69) (.k (D.int .i64 (5))), none⟩),
  ([0, 1, 2], false, ⟨(some 71), .mv (.t 0), none⟩),
  ([0, 1, 2, 3], false, ⟨(some 72), .mv (.t 4), none⟩),
  ([0, 1, 2, 3], false, ⟨(some 73), .bin .sub (.t 72) (.k (D.int .i64 (6))), none⟩),
  ([0, 1, 2, 3, 4, 5], false, ⟨(some 74), .mv (.t 11), none⟩),
  ([0, 1, 2, 3, 4, 5], false, ⟨(some 75), .bin .add (.t 74) (.k (D.int .u32 (1))), none⟩),
  ([0, 1, 2, 3, 4, 5], false, ⟨(some 76), .ixt (.k (D.str [48, 48, 48, 49, 48, 50, 48, 51, 48, 52, 48, 53, 48, 54, 48, 55, 48, 56, 48, 57, 49, 48, 49, 49, 49, 50, 49, 51, 49, 52, 49, 53, 49, 54, 49, 55, 49, 56, 49, 57, 50, 48, 50, 49, 50, 50, 50, 51, 50, 52, 50, 53, 50, 54, 50, 55, 50, 56, 50, 57, 51, 48, 51, 49, 51, 50, 51, 51, 51, 52, 51, 53, 51, 54, 51, 55, 51, 56, 51, 57, 52, 48, 52, 49, 52, 50, 52, 51, 52, 52, 52, 53, 52, 54, 52, 55, 52, 56, 52, 57, 53, 48, 53, 49, 53, 50, 53, 51, 53, 52, 53, 53, 53, 54, 53, 55, 53, 56, 53, 57, 54, 48, 54, 49, 54, 50, 54, 51, 54, 52, 54, 53, 54, 54, 54, 55, 54, 56, 54, 57, 55, 48, 55, 49, 55, 50, 55, 51, 55, 52, 55, 53, 55, 54, 55, 55, 55, 56, 55, 57, 56, 48, 56, 49, 56, 50, 56, 51, 56, 52, 56, 53, 56, 54, 56, 55, 56, 56, 56, 57, 57, 48, 57, 49, 57, 50, 57, 51, 57, 52, 57, 53, 57, 54, 57, 55, 57, 56, 57, 57])) (.t 75), none⟩),
  ([0, 1, 2, 3, 4, 5, 6, 7, 8], false, ⟨(some 77), .mv (.t 11), none⟩),
  ([0, 1, 2, 3, 4, 5, 6, 7, 8], false, ⟨(some 78), .ixt (.k (D.str [48, 48, 48, 49, 48, 50, 48, 51, 48, 52, 48, 53, 48, 54, 48, 55, 48, 56, 48, 57, 49, 48, 49, 49, 49, 50, 49, 51, 49, 52, 49, 53, 49, 54, 49, 55, 49, 56, 49, 57, 50, 48, 50, 49, 50, 50, 50, 51, 50, 52, 50, 53, 50, 54, 50, 55, 50, 56, 50, 57, 51, 48, 51, 49, 51, 50, 51, 51, 51, 52, 51, 53, 51, 54, 51, 55, 51, 56, 51, 57, 52, 48, 52, 49, 52, 50, 52, 51, 52, 52, 52, 53, 52, 54, 52, 55, 52, 56, 52, 57, 53, 48, 53, 49, 53, 50, 53, 51, 53, 52, 53, 53, 53, 54, 53, 55, 53, 56, 53, 57, 54, 48, 54, 49, 54, 50, 54, 51, 54, 52, 54, 53, 54, 54, 54, 55, 54, 56, 54, 57, 55, 48, 55, 49, 55, 50, 55, 51, 55, 52, 55, 53, 55, 54, 55, 55, 55, 56, 55, 57, 56, 48, 56, 49, 56, 50, 56, 51, 56, 52, 56, 53, 56, 54, 56, 55, 56, 56, 56, 57, 57, 48, 57, 49, 57, 50, 57, 51, 57, 52, 57, 53, 57, 54, 57, 55, 57, 56, 57, 57])) (.t 77), none⟩),
  ([3, 4, 5, 9, 10], false, ⟨(some 79), .ixs 1 (.t 68) (.t 70), none⟩),
  ([3, 4, 5, 9, 10], false, ⟨none, .store 1 (.t 79) (.t 76), none⟩),
  ([], true, ⟨(some 80), .ixs 1 (.t 71) (.t 73), none⟩),
  ([], true, ⟨none, .store 1 (.t 80) (.t 78), none⟩)])
 (.seq (.dreg [([], false, ⟨(some 81), .mv (.t 0), none⟩),
  ([0], false, ⟨(some 82), .mv (.t 4), none⟩),
  ([0], false, ⟨(some 83), .bin .sub (.t 82) (.k (D.int .i64 (7))), none⟩),
  ([0, 1, 2], false, ⟨(some 84), .mv (.t 0), none⟩),
  ([0, 1, 2, 3], false, ⟨(some 85), .mv (.t 4), none⟩),
  ([0, 1, 2, 3], false, ⟨(some 86), .bin .sub (.t 85) (.k (D.int .i64 (8))), none⟩),
  ([0, 1, 2, 3, 4, 5], false, ⟨(some 87), .mv (.t 10), none⟩),
  ([0, 1, 2, 3, 4, 5], false, ⟨(some 88), .bin .add (.t 87) (.k (D.int .u32 (1))), none⟩),
  ([0, 1, 2, 3, 4, 5], false, ⟨(some 89), .ixt (.k (D.str [48, 48, 48, 49, 48, 50, 48, 51, 48, 52, 48, 53, 48, 54, 48, 55, 48, 56, 48, 57, 49, 48, 49, 49, 49, 50, 49, 51, 49, 52, 49, 53, 49, 54, 49, 55, 49, 56, 49, 57, 50, 48, 50, 49, 50, 50, 50, 51, 50, 52, 50, 53, 50, 54, 50, 55, 50, 56, 50, 57, 51, 48, 51, 49, 51, 50, 51, 51, 51, 52, 51, 53, 51, 54, 51, 55, 51, 56, 51, 57, 52, 48, 52, 49, 52, 50, 52, 51, 52, 52, 52, 53, 52, 54, 52, 55, 52, 56, 52, 57, 53, 48, 53, 49, 53, 50, 53, 51, 53, 52, 53, 53, 53, 54, 53, 55, 53, 56, 53, 57, 54, 48, 54, 49, 54, 50, 54, 51, 54, 52, 54, 53, 54, 54, 54, 55, 54, 56, 54, 57, 55, 48, 55, 49, 55, 50, 55, 51, 55, 52, 55, 53, 55, 54, 55, 55, 55, 56, 55, 57, 56, 48, 56, 49, 56, 50, 56, 51, 56, 52, 56, 53, 56, 54, 56, 55, 56, 56, 56, 57, 57, 48, 57, 49, 57, 50, 57, 51, 57, 52, 57, 53, 57, 54, 57, 55, 57, 56, 57, 57])) (.t 88), none⟩),
  ([0, 1, 2, 3, 4, 5, 6, 7, 8], false, ⟨(some 90), .mv (.t 10), none⟩),
  ([0, 1, 2, 3, 4, 5, 6, 7, 8], false, ⟨(some 91), .ixt (.k (D.str [48, 48, 48, 49, 48, 50, 48, 51, 48, 52, 48, 53, 48, 54, 48, 55, 48, 56, 48, 57, 49, 48, 49, 49, 49, 50, 49, 51, 49, 52, 49, 53, 49, 54, 49, 55, 49, 56, 49, 57, 50, 48, 50, 49, 50, 50, 50, 51, 50, 52, 50, 53, 50, 54, 50, 55, 50, 56, 50, 57, 51, 48, 51, 49, 51, 50, 51, 51, 51, 52, 51, 53, 51, 54, 51, 55, 51, 56, 51, 57, 52, 48, 52, 49, 52, 50, 52, 51, 52, 52, 52, 53, 52, 54, 52, 55, 52, 56, 52, 57, 53, 48, 53, 49, 53, 50, 53, 51, 53, 52, 53, 53, 53, 54, 53, 55, 53, 56, 53, 57, 54, 48, 54, 49, 54, 50, 54, 51, 54, 52, 54, 53, 54, 54, 54, 55, 54, 56, 54, 57, 55, 48, 55, 49, 55, 50, 55, 51, 55, 52, 55, 53, 55, 54, 55, 55, 55, 56, 55, 57, 56, 48, 56, 49, 56, 50, 56, 51, 56, 52, 56, 53, 56, 54, 56, 55, 56, 56, 56, 57, 57, 48, 57, 49, 57, 50, 57, 51, 57, 52, 57, 53, 57, 54, 57, 55, 57, 56, 57, 57])) (.t 90), none⟩),
  ([3, 4, 5, 9, 10], false, ⟨(some 92), .ixs 1 (.t 81) (.t 83), none⟩),
  ([3, 4, 5, 9, 10], false, ⟨none, .store 1 (.t 92) (.t 89), none⟩),
  ([], true, ⟨(some 93), .ixs 1 (.t 84) (.t 86), none⟩),
  ([], true, ⟨none, .store 1 (.t 93) (.t 91), none⟩)])
 (.reg [⟨(some 94), .mv (.t 4), none⟩,
  ⟨(some 95), .bin .sub (.t 94) (.k (D.int .i64 (8))), none⟩,
  ⟨(some 4), .mv (.t 95), none⟩]))))))))))))))
 (.seq (.reg [⟨(some 96), .mv (.t 1), none⟩,
  ⟨(some 97), .cvi .u32 (.t 96), none⟩,
  ⟨(some 12), .mv (.t 97), none⟩])
 (.seq (.seq (.reg [⟨(some 98), .mv (.t 4), none⟩,
  ⟨(some 99), .bin .geq (.t 98) (.k (D.int .i64 (4))), none⟩])
 (.cond (.t 99)
 (.seq (.reg [⟨(some 100), .mv (.t 12), none⟩,
  ⟨(some 101), .bin .rem (.t 100) (.k (D.int .u32 (10000))), none⟩,
  ⟨(some 13), .mv (.t 101), none⟩])
 (.seq (.reg [⟨(some 102), .mv (.t 12), none⟩,
  ⟨(some 103), .bin .quo (.t 102) (.k (D.int .u32 (10000))), none⟩,
  ⟨(some 12), .mv (.t 103), none⟩])
 (.seq (.reg [⟨(some 104), .mv (.t 13), none⟩,
  ⟨(some 105), .bin .quo (.t 104) (.k (D.int .u32 (100))), none⟩,
  ⟨(some 106), .bin .mul (.t 105) (.k (D.int .u32 (2))), none⟩,
  ⟨(some 107), .mv (.t 13), none⟩,
  ⟨(some 108), .bin .rem (.t 107) (.k (D.int .u32 (100))), none⟩,
  ⟨(some 109), .bin .mul (.t 108) (.k (D.int .u32 (2))), none⟩,
  ⟨(some 14), .mv (.t 106), none⟩,
  ⟨(some 15), .mv (.t 109), none⟩])
 (.seq (.dreg [([], false, ⟨(some 110), .mv (.t 0), none⟩),
  ([0], false, ⟨(some 111), .mv (.t 4), none⟩),
  ([0], false, ⟨(some 112), .bin .sub (.t 111) (.k (D.int .i64 (1))), none⟩),
  ([0, 1, 2], false, ⟨(some 113), .mv (.t 0), none⟩),
  ([0, 1, 2, 3], false, ⟨(some 114), .mv (.t 4), none⟩),
  ([0, 1, 2, 3], false, ⟨(some 115), .bin .sub (.t 114) (.k (D.int .i64 (2))), none⟩),
  ([0, 1, 2, 3, 4, 5], false, ⟨(some 116), .mv (.t 15), none⟩),
  ([0, 1, 2, 3, 4, 5], false, ⟨(some 117), .bin .add (.t 116) (.k (D.int .u32 (1))), none⟩),
  ([0, 1, 2, 3, 4, 5], false, ⟨(some 118), .ixt (.k (D.str [48, 48, 48, 49, 48, 50, 48, 51, 48, 52, 48, 53, 48, 54, 48, 55, 48, 56, 48, 57, 49, 48, 49, 49, 49, 50, 49, 51, 49, 52, 49, 53, 49, 54, 49, 55, 49, 56, 49, 57, 50, 48, 50, 49, 50, 50, 50, 51, 50, 52, 50, 53, 50, 54, 50, 55, 50, 56, 50, 57, 51, 48, 51, 49, 51, 50, 51, 51, 51, 52, 51, 53, 51, 54, 51, 55, 51, 56, 51, 57, 52, 48, 52, 49, 52, 50, 52, 51, 52, 52, 52, 53, 52, 54, 52, 55, 52, 56, 52, 57, 53, 48, 53, 49, 53, 50, 53, 51, 53, 52, 53, 53, 53, 54, 53, 55, 53, 56, 53, 57, 54, 48, 54, 49, 54, 50, 54, 51, 54, 52, 54, 53, 54, 54, 54, 55, 54, 56, 54, 57, 55, 48, 55, 49, 55, 50, 55, 51, 55, 52, 55, 53, 55, 54, 55, 55, 55, 56, 55, 57, 56, 48, 56, 49, 56, 50, 56, 51, 56, 52, 56, 53, 56, 54, 56, 55, 56, 56, 56, 57, 57, 48, 57, 49, 57, 50, 57, 51, 57, 52, 57, 53, 57, 54, 57, 55, 57, 56, 57, 57])) (.t 117), none⟩),
  ([0, 1, 2, 3, 4, 5, 6, 7, 8], false, ⟨(some 119), .mv (.t 15), none⟩),
  ([0, 1, 2, 3, 4, 5, 6, 7, 8], false, ⟨(some 120), .ixt (.k (D.str [48, 48, 48, 49, 48, 50, 48, 51, 48, 52, 48, 53, 48, 54, 48, 55, 48, 56, 48, 57, 49, 48, 49, 49, 49, 50, 49, 51, 49, 52, 49, 53, 49, 54, 49, 55, 49, 56, 49, 57, 50, 48, 50, 49, 50, 50, 50, 51, 50, 52, 50, 53, 50, 54, 50, 55, 50, 56, 50, 57, 51, 48, 51, 49, 51, 50, 51, 51, 51, 52, 51, 53, 51, 54, 51, 55, 51, 56, 51, 57, 52, 48, 52, 49, 52, 50, 52, 51, 52, 52, 52, 53, 52, 54, 52, 55, 52, 56, 52, 57, 53, 48, 53, 49, 53, 50, 53, 51, 53, 52, 53, 53, 53, 54, 53, 55, 53, 56, 53, 57, 54, 48, 54, 49, 54, 50, 54, 51, 54, 52, 54, 53, 54, 54, 54, 55, 54, 56, 54, 57, 55, 48, 55, 49, 55, 50, 55, 51, 55, 52, 55, 53, 55, 54, 55, 55, 55, 56, 55, 57, 56, 48, 56, 49, 56, 50, 56, 51, 56, 52, 56, 53, 56, 54, 56, 55, 56, 56, 56, 57, 57, 48, 57, 49, 57, 50, 57, 51, 57, 52, 57, 53, 57, 54, 57, 55, 57, 56, 57, 57])) (.t 119), none⟩),
  ([3, 4, 5, 9, 10], false, ⟨(some 121), .ixs 1 (.t 110) (.t 112), none⟩),
  ([3, 4, 5, 9, 10], false, ⟨none, .store 1 (.t 121) (.t 118), none⟩),
  ([], true, ⟨(some 122), .ixs 1 (.t 113) (.t 115), none⟩),
  ([], true, ⟨none, .store 1 (.t 122) (.t 120), none⟩)])
 (.seq (.dreg [([], false, ⟨(some 123), .mv (.t 0), none⟩),
  ([0], false, ⟨(some 124), .mv (.t 4), none⟩),
  ([0], false, ⟨(some 125), .bin .sub (.t 124) (.k (D.int .i64 (3))), none⟩),
  ([0, 1, 2], false, ⟨(some 126), .mv (.t 0), none⟩),
  ([0, 1, 2, 3], false, ⟨(some 127), .mv (.t 4), none⟩),
  ([0, 1, 2, 3], false, ⟨(some 128), .bin .sub (.t 127) (.k (D.int .i64 (4))), none⟩),
  ([0, 1, 2, 3, 4, 5], false, ⟨(some 129), .mv (.t 14), none⟩),
  ([0, 1, 2, 3, 4, 5], false, ⟨(some 130), .bin .add (.t 129) (.k (D.int .u32 (1))), none⟩),
  ([0, 1, 2, 3, 4, 5], false, ⟨(some 131), .ixt (.k (D.str [48, 48, 48, 49, 48, 50, 48, 51, 48, 52, 48, 53, 48, 54, 48, 55, 48, 56, 48, 57, 49, 48, 49, 49, 49, 50, 49, 51, 49, 52, 49, 53, 49, 54, 49, 55, 49, 56, 49, 57, 50, 48, 50, 49, 50, 50, 50, 51, 50, 52, 50, 53, 50, 54, 50, 55, 50, 56, 50, 57, 51, 48, 51, 49, 51, 50, 51, 51, 51, 52, 51, 53, 51, 54, 51, 55, 51, 56, 51, 57, 52, 48, 52, 49, 52, 50, 52, 51, 52, 52, 52, 53, 52, 54, 52, 55, 52, 56, 52, 57, 53, 48, 53, 49, 53, 50, 53, 51, 53, 52, 53, 53, 53, 54, 53, 55, 53, 56, 53, 57, 54, 48, 54, 49, 54, 50, 54, 51, 54, 52, 54, 53, 54, 54, 54, 55, 54, 56, 54, 57, 55, 48, 55, 49, 55, 50, 55, 51, 55, 52, 55, 53, 55, 54, 55, 55, 55, 56, 55, 57, 56, 48, 56, 49, 56, 50, 56, 51, 56, 52, 56, 53, 56, 54, 56, 55, 56, 56, 56, 57, 57, 48, 57, 49, 57, 50, 57, 51, 57, 52, 57, 53, 57, 54, 57, 55, 57, 56, 57, 57])) (.t 130), none⟩),
  ([0, 1, 2, 3, 4, 5, 6, 7, 8], false, ⟨(some 132), .mv (.t 14), none⟩),
  ([0, 1, 2, 3, 4, 5, 6, 7, 8], false, ⟨(some 133), .ixt (.k (D.str [48, 48, 48, 49, 48, 50, 48, 51, 48, 52, 48, 53, 48, 54, 48, 55, 48, 56, 48, 57, 49, 48, 49, 49, 49, 50, 49, 51, 49, 52, 49, 53, 49, 54, 49, 55, 49, 56, 49, 57, 50, 48, 50, 49, 50, 50, 50, 51, 50, 52, 50, 53, 50, 54, 50, 55, 50, 56, 50, 57, 51, 48, 51, 49, 51, 50, 51, 51, 51, 52, 51, 53, 51, 54, 51, 55, 51, 56, 51, 57, 52, 48, 52, 49, 52, 50, 52, 51, 52, 52, 52, 53, 52, 54, 52, 55, 52, 56, 52, 57, 53, 48, 53, 49, 53, 50, 53, 51, 53, 52, 53, 53, 53, 54, 53, 55, 53, 56, 53, 57, 54, 48, 54, 49, 54, 50, 54, 51, 54, 52, 54, 53, 54, 54, 54, 55, 54, 56, 54, 57, 55, 48, 55, 49, 55, 50, 55, 51, 55, 52, 55, 53, 55, 54, 55, 55, 55, 56, 55, 57, 56, 48, 56, 49, 56, 50, 56, 51, 56, 52, 56, 53, 56, 54, 56, 55, 56, 56, 56, 57, 57, 48, 57, 49, 57, 50, 57, 51, 57, 52, 57, 53, 57, 54, 57, 55, 57, 56, 57, 57])) (.t 132), none⟩),
  ([3, 4, 5, 9, 10], false, ⟨(some 134), .ixs 1 (.t 123) (.t 125), none⟩),
  ([3, 4, 5, 9, 10], false, ⟨none, .store 1 (.t 134) (.t 131), none⟩),
  ([], true, ⟨(some 135), .ixs 1 (.t 126) (.t 128), none⟩),
  ([], true, ⟨none, .store 1 (.t 135) (.t 133), none⟩)])
 (.reg [⟨(some 136), .mv (.t 4), none⟩,
  ⟨(some 137), .bin .sub (.t 136) (.k (D.int .i64 (4))), none⟩,
  ⟨(some 4), .mv (.t 137), none⟩]))))))
 .skip))
 (.seq (.seq (.reg [⟨(some 138), .mv (.t 4), none⟩,
  ⟨(some 139), .bin .geq (.t 138) (.k (D.int .i64 (2))), none⟩])
 (.cond (.t 139)
 (.seq (.reg [⟨(some 140), .mv (.t 12), none⟩,
  ⟨(some 141), .bin .rem (.t 140) (.k (D.int .u32 (100))), none⟩,
  ⟨(some 142), .bin .mul (.t 141) (.k (D.int .u32 (2))), none⟩,
  ⟨(some 16), .mv (.t 142), none⟩])
 (.seq (.reg [⟨(some 143), .mv (.t 12), none⟩,
  ⟨(some 144), .bin .quo (.t 143) (.k (D.int .u32 (100))), none⟩,
  ⟨(some 12), .mv (.t 144), none⟩])
 (.seq (.dreg [([], false, ⟨(some 145), .mv (.t 0), none⟩),
  ([0], false, ⟨(some 146), .mv (.t 4), none⟩),
  ([0], false, ⟨(some 147), .bin .sub (.t 146) (.k (D.int .i64 (1))), none⟩),
  ([0, 1, 2], false, ⟨(some 148), .mv (.t 0), none⟩),
  ([0, 1, 2, 3], false, ⟨(some 149), .mv (.t 4), none⟩),
  ([0, 1, 2, 3], false, ⟨(some 150), .bin .sub (.t 149) (.k (D.int .i64 (2))), none⟩),
  ([0, 1, 2, 3, 4, 5], false, ⟨(some 151), .mv (.t 16), none⟩),
  ([0, 1, 2, 3, 4, 5], false, ⟨(some 152), .bin .add (.t 151) (.k (D.int .u32 (1))), none⟩),
  ([0, 1, 2, 3, 4, 5], false, ⟨(some 153), .ixt (.k (D.str [48, 48, 48, 49, 48, 50, 48, 51, 48, 52, 48, 53, 48, 54, 48, 55, 48, 56, 48, 57, 49, 48, 49, 49, 49, 50, 49, 51, 49, 52, 49, 53, 49, 54, 49, 55, 49, 56, 49, 57, 50, 48, 50, 49, 50, 50, 50, 51, 50, 52, 50, 53, 50, 54, 50, 55, 50, 56, 50, 57, 51, 48, 51, 49, 51, 50, 51, 51, 51, 52, 51, 53, 51, 54, 51, 55, 51, 56, 51, 57, 52, 48, 52, 49, 52, 50, 52, 51, 52, 52, 52, 53, 52, 54, 52, 55, 52, 56, 52, 57, 53, 48, 53, 49, 53, 50, 53, 51, 53, 52, 53, 53, 53, 54, 53, 55, 53, 56, 53, 57, 54, 48, 54, 49, 54, 50, 54, 51, 54, 52, 54, 53, 54, 54, 54, 55, 54, 56, 54, 57, 55, 48, 55, 49, 55, 50, 55, 51, 55, 52, 55, 53, 55, 54, 55, 55, 55, 56, 55, 57, 56, 48, 56, 49, 56, 50, 56, 51, 56, 52, 56, 53, 56, 54, 56, 55, 56, 56, 56, 57, 57, 48, 57, 49, 57, 50, 57, 51, 57, 52, 57, 53, 57, 54, 57, 55, 57, 56, 57, 57])) (.t 152), none⟩),
  ([0, 1, 2, 3, 4, 5, 6, 7, 8], false, ⟨(some 154), .mv (.t 16), none⟩),
  ([0, 1, 2, 3, 4, 5, 6, 7, 8], false, ⟨(some 155), .ixt (.k (D.str [48, 48, 48, 49, 48, 50, 48, 51, 48, 52, 48, 53, 48, 54, 48, 55, 48, 56, 48, 57, 49, 48, 49, 49, 49, 50, 49, 51, 49, 52, 49, 53, 49, 54, 49, 55, 49, 56, 49, 57, 50, 48, 50, 49, 50, 50, 50, 51, 50, 52, 50, 53, 50, 54, 50, 55, 50, 56, 50, 57, 51, 48, 51, 49, 51, 50, 51, 51, 51, 52, 51, 53, 51, 54, 51, 55, 51, 56, 51, 57, 52, 48, 52, 49, 52, 50, 52, 51, 52, 52, 52, 53, 52, 54, 52, 55, 52, 56, 52, 57, 53, 48, 53, 49, 53, 50, 53, 51, 53, 52, 53, 53, 53, 54, 53, 55, 53, 56, 53, 57, 54, 48, 54, 49, 54, 50, 54, 51, 54, 52, 54, 53, 54, 54, 54, 55, 54, 56, 54, 57, 55, 48, 55, 49, 55, 50, 55, 51, 55, 52, 55, 53, 55, 54, 55, 55, 55, 56, 55, 57, 56, 48, 56, 49, 56, 50, 56, 51, 56, 52, 56, 53, 56, 54, 56, 55, 56, 56, 56, 57, 57, 48, 57, 49, 57, 50, 57, 51, 57, 52, 57, 53, 57, 54, 57, 55, 57, 56, 57, 57])) (.t 154), none⟩),
  ([3, 4, 5, 9, 10], false, ⟨(some 156), .ixs 1 (.t 145) (.t 147), none⟩),
  ([3, 4, 5, 9, 10], false, ⟨none, .store 1 (.t 156) (.t 153), none⟩),
  ([], true, ⟨(some 157), .ixs 1 (.t 148) (.t 150), none⟩),
  ([], true, ⟨none, .store 1 (.t 157) (.t 155), none⟩)])
 (.reg [⟨(some 158), .mv (.t 4), none⟩,
  ⟨(some 159), .bin .sub (.t 158) (.k (D.int .i64 (2))), none⟩,
  ⟨(some 4), .mv (.t 159), none⟩]))))
 .skip))
 (.seq (.reg [⟨(some 160), .mv (.t 4), none⟩,
  ⟨(some 161), .bin .gtr (.t 160) (.k (D.int .i64 (0))), none⟩])
 (.cond (.t 161)
 (.reg [⟨(some 162), .mv (.t 0), none⟩,
  ⟨(some 163), .mv (.t 12), none⟩,
  ⟨(some 164), .bin .add (.k (D.int .u32 (48))) (.t 163), none⟩,
  ⟨(some 165), .cvi .u8 (.t 164), none⟩,
  ⟨(some 166), .ixs 1 (.t 162) (.k (D.int .i64 (0))), none⟩,
  ⟨none, .store 1 (.t 166) (.t 165), none⟩])
 .skip)))))))⟩
def a99 : Ann := ⟨[], [⟨false, 0, false⟩], []⟩
def s99 : SFun := ⟨1, 8, [], [(.tmp 2, ⟨false, 0, false⟩)],
 (.seq (.reg [⟨(some 2), .mv (.k (D.bool false)), none⟩])
 (.seq (.reg [⟨(some 3), .mv (.t 0), none⟩,
  ⟨(some 4), .mv (.t 0), none⟩,
  ⟨(some 5), .bin .sub (.t 4) (.k (D.int .i64 (1))), none⟩,
  ⟨(some 6), .bin .and (.t 3) (.t 5), none⟩,
  ⟨(some 7), .bin .eql (.t 6) (.k (D.int .i64 (0))), none⟩,
  ⟨(some 2), .mv (.t 7), none⟩])
 .ret))⟩
def a447 : Ann := ⟨[], [⟨false, 0, false⟩], []⟩
def s447 : SFun := ⟨1, 14, [], [(.tmp 2, ⟨false, 0, false⟩)],
 (.seq (.reg [⟨(some 2), .mv (.k (D.int .i64 (0))), none⟩])
 (.seq (.seq (.reg [⟨(some 3), .mv (.t 0), none⟩,
  ⟨(some 4), .bin .eql (.t 3) (.k (D.int .u32 (0))), none⟩])
 (.cond (.t 4)
 (.seq (.reg [⟨(some 2), .mv (.k (D.int .i64 (32))), none⟩])
 .ret)
 .skip))
 (.seq (.reg [⟨(some 5), .mv (.t 0), none⟩,
  ⟨(some 6), .mv (.t 0), none⟩,
  ⟨(some 7), .una .neg (.t 6), none⟩,
  ⟨(some 8), .bin .and (.t 5) (.t 7), none⟩,
  ⟨(some 9), .bin .mul (.t 8) (.k (D.int .u32 (125613361))), none⟩,
  ⟨(some 10), .bin .shr (.t 9) (.k (D.int .u64 (27))), none⟩,
  ⟨(some 11), .ixa 32 1 (.k .un) (.t 10), none⟩,
  ⟨(some 12), .load false 1 (.t 11), none⟩,
  ⟨(some 13), .cvi .i64 (.t 12), none⟩,
  ⟨(some 2), .mv (.t 13), none⟩])
 .ret)))⟩
def a448 : Ann := ⟨[], [⟨false, 0, false⟩], []⟩
def s448 : SFun := ⟨1, 14, [], [(.tmp 2, ⟨false, 0, false⟩)],
 (.seq (.reg [⟨(some 2), .mv (.k (D.int .i64 (0))), none⟩])
 (.seq (.seq (.reg [⟨(some 3), .mv (.t 0), none⟩,
  ⟨(some 4), .bin .eql (.t 3) (.k (D.int .u64 (0))), none⟩])
 (.cond (.t 4)
 (.seq (.reg [⟨(some 2), .mv (.k (D.int .i64 (64))), none⟩])
 .ret)
 .skip))
 (.seq (.reg [⟨(some 5), .mv (.t 0), none⟩,
  ⟨(some 6), .mv (.t 0), none⟩,
  ⟨(some 7), .una .neg (.t 6), none⟩,
  ⟨(some 8), .bin .and (.t 5) (.t 7), none⟩,
  ⟨(some 9), .bin .mul (.t 8) (.k (D.int .u64 (285870213051353865))), none⟩,
  ⟨(some 10), .bin .shr (.t 9) (.k (D.int .u64 (58))), none⟩,
  ⟨(some 11), .ixa 64 1 (.k .un) (.t 10), none⟩,
  ⟨(some 12), .load false 1 (.t 11), none⟩,
  ⟨(some 13), .cvi .i64 (.t 12), none⟩,
  ⟨(some 2), .mv (.t 13), none⟩])
 .ret)))⟩
def a446 : Ann := ⟨[], [⟨false, 0, false⟩], []⟩
def s446 : SFun := ⟨1, 8, [], [(.tmp 2, ⟨false, 0, false⟩)],
 (.seq (.reg [⟨(some 2), .mv (.k (D.int .i64 (0))), none⟩])
 (.seq (.cond (.k (D.bool false))
 (.seq (.reg [⟨(some 3), .mv (.t 0), none⟩,
  ⟨(some 4), .cvi .u32 (.t 3), none⟩,
  ⟨(some 5), .call false 447 [(.t 4)], none⟩,
  ⟨(some 2), .mv (.t 5), none⟩])
 .ret)
 .skip)
 (.seq (.reg [⟨(some 6), .mv (.t 0), none⟩,
  ⟨(some 7), .call false 448 [(.t 6)], none⟩,
  ⟨(some 2), .mv (.t 7), none⟩])
 .ret)))⟩
def a98 : Ann := ⟨[(11, [(1, ⟨false, 0, false⟩), (3, ⟨false, 0, false⟩), (4, ⟨false, 0, false⟩), (10, ⟨false, 0, false⟩), (11, ⟨false, 0, false⟩), (13, ⟨false, 0, false⟩), (14, ⟨false, 0, false⟩), (15, ⟨false, 0, false⟩), (16, ⟨false, 0, false⟩), (0, ⟨true, 1, false⟩), (12, ⟨true, 0, false⟩)]), (18, [(1, ⟨false, 0, false⟩), (3, ⟨false, 0, false⟩), (4, ⟨false, 0, false⟩), (10, ⟨false, 0, false⟩), (11, ⟨false, 0, false⟩), (13, ⟨false, 0, false⟩), (17, ⟨false, 0, false⟩), (0, ⟨true, 1, false⟩), (12, ⟨true, 0, false⟩)])], [⟨true, 1, false⟩, ⟨false, 0, false⟩], []⟩
def s98 : SFun := ⟨5, 102, [], [(.tmp 10, ⟨true, 1, false⟩), (.tmp 11, ⟨false, 0, false⟩)],
 (.seq (.reg [⟨(some 10), .mv (.k .sn), none⟩,
  ⟨(some 11), .mv (.k (D.str [])), none⟩])
 (.seq (.seq (.reg [⟨(some 19), .mv (.t 2), none⟩,
  ⟨(some 20), .bin .lss (.t 19) (.k (D.int .i64 (2))), none⟩,
  ⟨(some 21), .mv (.t 20), none⟩,
  ⟨(some 22), .mv (.t 2), (some (21, false))⟩,
  ⟨(some 23), .bin .eql (.t 22) (.k (D.int .i64 (10))), (some (21, false))⟩,
  ⟨(some 24), .pick (.t 21) (.k (D.bool true)) (.t 23), none⟩,
  ⟨(some 25), .mv (.t 24), none⟩,
  ⟨(some 26), .mv (.t 2), (some (25, false))⟩,
  ⟨(some 27), .bin .gtr (.t 26) (.k (D.int .i64 (36))), (some (25, false))⟩,
  ⟨(some 28), .pick (.t 25) (.k (D.bool true)) (.t 27), none⟩])
 (.cond (.t 28)
 (.reg [⟨(some 29), .bad, none⟩,
  ⟨none, .bad, none⟩])
 .skip))
 (.seq (.reg [⟨(some 12), .alloc [(D.int .u8 (0)), (D.int .u8 (0)), (D.int .u8 (0)), (D.int .u8 (0)), (D.int .u8 (0)), (D.int .u8 (0)), (D.int .u8 (0)), (D.int .u8 (0)), (D.int .u8 (0)), (D.int .u8 (0)), (D.int .u8 (0)), (D.int .u8 (0)), (D.int .u8 (0)), (D.int .u8 (0)), (D.int .u8 (0)), (D.int .u8 (0)), (D.int .u8 (0)), (D.int .u8 (0)), (D.int .u8 (0)), (D.int .u8 (0)), (D.int .u8 (0)), (D.int .u8 (0)), (D.int .u8 (0)), (D.int .u8 (0)), (D.int .u8 (0)), (D.int .u8 (0)), (D.int .u8 (0)), (D.int .u8 (0)), (D.int .u8 (0)), (D.int .u8 (0)), (D.int .u8 (0)), (D.int .u8 (0)), (D.int .u8 (0)), (D.int .u8 (0)), (D.int .u8 (0)), (D.int .u8 (0)), (D.int .u8 (0)), (D.int .u8 (0)), (D.int .u8 (0)), (D.int .u8 (0)), (D.int .u8 (0)), (D.int .u8 (0)), (D.int .u8 (0)), (D.int .u8 (0)), (D.int .u8 (0)), (D.int .u8 (0)), (D.int .u8 (0)), (D.int .u8 (0)), (D.int .u8 (0)), (D.int .u8 (0)), (D.int .u8 (0)), (D.int .u8 (0)), (D.int .u8 (0)), (D.int .u8 (0)), (D.int .u8 (0)), (D.int .u8 (0)), (D.int .u8 (0)), (D.int .u8 (0)), (D.int .u8 (0)), (D.int .u8 (0)), (D.int .u8 (0)), (D.int .u8 (0)), (D.int .u8 (0)), (D.int .u8 (0)), (D.int .u8 (0))], none⟩])
 (.seq (.reg [⟨(some 13), .mv (.k (D.int .i64 (65))), none⟩])
 (.seq (.seq (.reg [⟨(some 30), .mv (.t 3), none⟩])
 (.cond (.t 30)
 (.reg [⟨(some 31), .mv (.t 1), none⟩,
  ⟨(some 32), .una .neg (.t 31), none⟩,
  ⟨(some 1), .mv (.t 32), none⟩])
 .skip))
 (.seq (.seq (.reg [⟨(some 33), .mv (.t 2), none⟩,
  ⟨(some 34), .call false 99 [(.t 33)], none⟩])
 (.cond (.t 34)
 (.seq (.reg [⟨(some 35), .mv (.t 2), none⟩,
  ⟨(some 36), .cvi .u64 (.t 35), none⟩,
  ⟨(some 37), .call false 446 [(.t 36)], none⟩,
  ⟨(some 38), .cvi .u64 (.t 37), none⟩,
  ⟨(some 14), .mv (.t 38), none⟩])
 (.seq (.reg [⟨(some 39), .mv (.t 2), none⟩,
  ⟨(some 40), .cvi .u64 (.t 39), none⟩,
  ⟨(some 15), .mv (.t 40), none⟩])
 (.seq (.reg [⟨(some 41), .mv (.t 2), none⟩,
  ⟨(some 42), .cvi .u64 (.t 41), none⟩,
  ⟨(some 43), .bin .sub (.t 42) (.k (D.int .u64 (1))), none⟩,
  ⟨(some 16), .mv (.t 43), none⟩])
 (.seq (.block 0 (.loop [(1, ⟨false, 0, false⟩), (3, ⟨false, 0, false⟩), (4, ⟨false, 0, false⟩), (10, ⟨false, 0, false⟩), (11, ⟨false, 0, false⟩), (13, ⟨false, 0, false⟩), (14, ⟨false, 0, false⟩), (15, ⟨false, 0, false⟩), (16, ⟨false, 0, false⟩), (0, ⟨true, 1, false⟩), (12, ⟨true, 0, false⟩)]
 (.seq (.seq (.reg [⟨(some 44), .mv (.t 1), none⟩,
  ⟨(some 45), .mv (.t 15), none⟩,
  ⟨(some 46), .bin .geq (.t 44) (.t 45), none⟩])
 (.cond (.t 46)
 .skip
 (.exit 0)))
 (.block 1 (.seq (.reg [⟨(some 47), .mv (.t 13), none⟩,
  ⟨(some 48), .bin .sub (.t 47) (.k (D.int .i64 (1))), none⟩,
  ⟨(some 13), .mv (.t 48), none⟩])
 (.seq (.reg [⟨(some 49), .mv (.t 13), none⟩,
  ⟨(some 50), .mv (.t 1), none⟩,
  ⟨(some 51), .mv (.t 16), none⟩,
  ⟨(some 52), .bin .and (.t 50) (.t 51), none⟩,
  ⟨(some 53), .ixt (.k (D.str [48, 49, 50, 51, 52, 53, 54, 55, 56, 57, 97, 98, 99, 100, 101, 102, 103, 104, 105, 106, 107, 108, 109, 110, 111, 112, 113, 114, 115, 116, 117, 118, 119, 120, 121, 122])) (.t 52), none⟩,
  ⟨(some 54), .ixa 65 1 (.t 12) (.t 49), none⟩,
  ⟨none, .store 1 (.t 54) (.t 53), none⟩])
 (.reg [⟨(some 55), .mv (.t 1), none⟩,
  ⟨(some 56), .mv (.t 14), none⟩,
  ⟨(some 57), .bin .shr (.t 55) (.t 56), none⟩,
  ⟨(some 1), .mv (.t 57), none⟩])))))))
 (.seq (.reg [⟨(some 58), .mv (.t 13), none⟩,
  ⟨(some 59), .bin .sub (.t 58) (.k (D.int .i64 (1))), none⟩,
  ⟨(some 13), .mv (.t 59), none⟩])
 (.reg [⟨(some 60), .mv (.t 13), none⟩,
  ⟨(some 61), .mv (.t 1), none⟩,
  ⟨(some 62), .ixt (.k (D.str [48, 49, 50, 51, 52, 53, 54, 55, 56, 57, 97, 98, 99, 100, 101, 102, 103, 104, 105, 106, 107, 108, 109, 110, 111, 112, 113, 114, 115, 116, 117, 118, 119, 120, 121, 122])) (.t 61), none⟩,
  ⟨(some 63), .ixa 65 1 (.t 12) (.t 60), none⟩,
  ⟨none, .store 1 (.t 63) (.t 62), none⟩]))))))
 (.seq (.reg [⟨(some 64), .mv (.t 2), none⟩,
  ⟨(some 65), .cvi .u64 (.t 64), none⟩,
  ⟨(some 17), .mv (.t 65), none⟩])
 (.seq (.block 2 (.loop [(1, ⟨false, 0, false⟩), (3, ⟨false, 0, false⟩), (4, ⟨false, 0, false⟩), (10, ⟨false, 0, false⟩), (11, ⟨false, 0, false⟩), (13, ⟨false, 0, false⟩), (17, ⟨false, 0, false⟩), (0, ⟨true, 1, false⟩), (12, ⟨true, 0, false⟩)]
 (.seq (.seq (.reg [⟨(some 66), .mv (.t 1), none⟩,
  ⟨(some 67), .mv (.t 17), none⟩,
  ⟨(some 68), .bin .geq (.t 66) (.t 67), none⟩])
 (.cond (.t 68)
 .skip
 (.exit 2)))
 (.block 3 (.seq (.reg [⟨(some 69), .mv (.t 13), none⟩,
  ⟨(some 70), .bin .sub (.t 69) (.k (D.int .i64 (1))), none⟩,
  ⟨(some 13), .mv (.t 70), none⟩])
 (.seq (.reg [⟨(some 71), .mv (.t 1), none⟩,
  ⟨(some 72), .mv (.t 17), none⟩,
  ⟨(some 73), .bin .quo (.t 71) (.t 72), none⟩,
  ⟨(some 18), .mv (.t 73), none⟩])
 (.seq (.reg [⟨(some 74), .mv (.t 13), none⟩,
  ⟨(some 75), .mv (.t 1), none⟩,
  ⟨(some 76), .mv (.t 18), none⟩,
  ⟨(some 77), .mv (.t 17), none⟩,
  ⟨(some 78), .bin .mul (.t 76) (.t 77), none⟩,
  ⟨(some 79), .bin .sub (.t 75) (.t 78), none⟩,
  ⟨(some 80), .ixt (.k (D.str [48, 49, 50, 51, 52, 53, 54, 55, 56, 57, 97, 98, 99, 100, 101, 102, 103, 104, 105, 106, 107, 108, 109, 110, 111, 112, 113, 114, 115, 116, 117, 118, 119, 120, 121, 122])) (.t 79), none⟩,
  ⟨(some 81), .ixa 65 1 (.t 12) (.t 74), none⟩,
  ⟨none, .store 1 (.t 81) (.t 80), none⟩])
 (.reg [⟨(some 82), .mv (.t 18), none⟩,
  ⟨(some 1), .mv (.t 82), none⟩]))))))))
 (.seq (.reg [⟨(some 83), .mv (.t 13), none⟩,
  ⟨(some 84), .bin .sub (.t 83) (.k (D.int .i64 (1))), none⟩,
  ⟨(some 13), .mv (.t 84), none⟩])
 (.reg [⟨(some 85), .mv (.t 13), none⟩,
  ⟨(some 86), .mv (.t 1), none⟩,
  ⟨(some 87), .ixt (.k (D.str [48, 49, 50, 51, 52, 53, 54, 55, 56, 57, 97, 98, 99, 100, 101, 102, 103, 104, 105, 106, 107, 108, 109, 110, 111, 112, 113, 114, 115, 116, 117, 118, 119, 120, 121, 122])) (.t 86), none⟩,
  ⟨(some 88), .ixa 65 1 (.t 12) (.t 85), none⟩,
  ⟨none, .store 1 (.t 88) (.t 87), none⟩]))))))
 (.seq (.seq (.reg [⟨(some 89), .mv (.t 3), none⟩])
 (.cond (.t 89)
 (.seq (.reg [⟨(some 90), .mv (.t 13), none⟩,
  ⟨(some 91), .bin .sub (.t 90) (.k (D.int .i64 (1))), none⟩,
  ⟨(some 13), .mv (.t 91), none⟩])
 (.reg [⟨(some 92), .mv (.t 13), none⟩,
  ⟨(some 93), .ixa 65 1 (.t 12) (.t 92), none⟩,
  ⟨none, .store 1 (.t 93) (.k (D.int .u8 (45))), none⟩]))
 .skip))
 (.seq (.seq (.reg [⟨(some 94), .mv (.t 4), none⟩])
 (.cond (.t 94)
 (.seq (.reg [⟨(some 95), .mv (.t 0), none⟩,
  ⟨(some 96), .mv (.t 13), none⟩,
  ⟨(some 97), .bad, none⟩,
  ⟨(some 98), .append 1 1 (.t 95) (.t 97), none⟩,
  ⟨(some 10), .mv (.t 98), none⟩])
 .ret)
 .skip))
 (.seq (.reg [⟨(some 99), .mv (.t 13), none⟩,
  ⟨(some 100), .bad, none⟩,
  ⟨(some 101), .b2s (.t 100), none⟩,
  ⟨(some 11), .mv (.t 101), none⟩])
 .ret)))))))))⟩
def a94 : Ann := ⟨[], [⟨false, 0, false⟩], []⟩
def s94 : SFun := ⟨2, 54, [], [(.tmp 4, ⟨false, 0, false⟩)],
 (.seq (.reg [⟨(some 4), .mv (.k (D.str [])), none⟩])
 (.seq (.seq (.reg [⟨(some 10), .mv (.t 1), none⟩,
  ⟨(some 11), .bin .eql (.t 10) (.k (D.int .i64 (10))), none⟩])
 (.cond (.t 11)
 (.seq (.seq (.reg [⟨(some 12), .mv (.t 0), none⟩,
  ⟨(some 13), .bin .leq (.k (D.int .i64 (0))) (.t 12), none⟩,
  ⟨(some 14), .mv (.t 13), none⟩,
  ⟨(some 15), .mv (.t 0), (some (14, true))⟩,
  ⟨(some 16), .bin .lss (.t 15) (.k (D.int .i64 (100))), (some (14, true))⟩,
  ⟨(some 17), .pick (.t 14) (.t 16) (.k (D.bool false)), none⟩])
 (.cond (.t 17)
 (.seq (.reg [⟨(some 18), .mv (.t 0), none⟩,
  ⟨(some 19), .call false 102 [(.t 18)], none⟩,
  ⟨(some 4), .mv (.t 19), none⟩])
 .ret)
 .skip))
 (.seq (.reg [⟨(some 5), .alloc [(D.int .u8 (0)), (D.int .u8 (0)), (D.int .u8 (0)), (D.int .u8 (0)), (D.int .u8 (0)), (D.int .u8 (0)), (D.int .u8 (0)), (D.int .u8 (0)), (D.int .u8 (0)), (D.int .u8 (0)), (D.int .u8 (0)), (D.int .u8 (0)), (D.int .u8 (0)), (D.int .u8 (0)), (D.int .u8 (0)), (D.int .u8 (0)), (D.int .u8 (0)), (D.int .u8 (0)), (D.int .u8 (0)), (D.int .u8 (0)), (D.int .u8 (0)), (D.int .u8 (0)), (D.int .u8 (0)), (D.int .u8 (0))], none⟩])
 (.seq (.reg [⟨(some 20), .mv (.t 0), none⟩,
  ⟨(some 21), .cvi .u64 (.t 20), none⟩,
  ⟨(some 6), .mv (.t 21), none⟩])
 (.seq (.seq (.reg [⟨(some 22), .mv (.t 0), none⟩,
  ⟨(some 23), .bin .lss (.t 22) (.k (D.int .i64 (0))), none⟩])
 (.cond (.t 23)
 (.reg [⟨(some 24), .mv (.t 6), none⟩,
  ⟨(some 25), .una .neg (.t 24), none⟩,
  ⟨(some 6), .mv (.t 25), none⟩])
 .skip))
 (.seq (.reg [⟨(some 26), .mv (.t 6), none⟩,
  ⟨(some 27), .call false 101 [(.t 26)], none⟩,
  ⟨(some 7), .mv (.t 27), none⟩])
 (.seq (.reg [⟨(some 28), .mv (.t 7), none⟩,
  ⟨(some 29), .bin .add (.k (D.int .i64 (1))) (.t 28), none⟩,
  ⟨(some 30), .bad, none⟩,
  ⟨(some 31), .mv (.t 6), none⟩,
  ⟨(some 32), .call false 97 [(.t 30), (.t 31)], none⟩])
 (.seq (.seq (.reg [⟨(some 33), .mv (.t 0), none⟩,
  ⟨(some 34), .bin .lss (.t 33) (.k (D.int .i64 (0))), none⟩])
 (.cond (.t 34)
 (.seq (.reg [⟨(some 35), .ixa 24 1 (.t 5) (.k (D.int .i64 (0))), none⟩,
  ⟨none, .store 1 (.t 35) (.k (D.int .u8 (45))), none⟩])
 (.seq (.reg [⟨(some 36), .mv (.t 7), none⟩,
  ⟨(some 37), .bin .add (.k (D.int .i64 (1))) (.t 36), none⟩,
  ⟨(some 38), .bad, none⟩,
  ⟨(some 39), .b2s (.t 38), none⟩,
  ⟨(some 4), .mv (.t 39), none⟩])
 .ret))
 .skip))
 (.seq (.reg [⟨(some 40), .mv (.t 7), none⟩,
  ⟨(some 41), .bin .add (.k (D.int .i64 (1))) (.t 40), none⟩,
  ⟨(some 42), .bad, none⟩,
  ⟨(some 43), .b2s (.t 42), none⟩,
  ⟨(some 4), .mv (.t 43), none⟩])
 .ret))))))))
 .skip))
 (.seq (.reg [⟨(some 45), .mv (.t 0), none⟩,
  ⟨(some 46), .cvi .u64 (.t 45), none⟩,
  ⟨(some 47), .mv (.t 1), none⟩,
  ⟨(some 48), .mv (.t 0), none⟩,
  ⟨(some 49), .bin .lss (.t 48) (.k (D.int .i64 (0))), none⟩,
  ⟨(some 50), .call false 98 [(.k .sn), (.t 46), (.t 47), (.t 49), (.k (D.bool false))], none⟩,
  ⟨(some 44), .mv (.t 50), none⟩,
  ⟨(some 51), .ext (.t 44) 0, none⟩,
  ⟨(some 52), .ext (.t 44) 1, none⟩,
  ⟨(some 8), .mv (.t 51), none⟩,
  ⟨(some 9), .mv (.t 52), none⟩])
 (.seq (.reg [⟨(some 53), .mv (.t 9), none⟩,
  ⟨(some 4), .mv (.t 53), none⟩])
 .ret))))⟩
def a95 : Ann := ⟨[], [⟨false, 0, false⟩], []⟩
def s95 : SFun := ⟨1, 5, [], [(.tmp 2, ⟨false, 0, false⟩)],
 (.seq (.reg [⟨(some 2), .mv (.k (D.str [])), none⟩])
 (.seq (.reg [⟨(some 3), .mv (.t 0), none⟩,
  ⟨(some 4), .call false 94 [(.t 3), (.k (D.int .i64 (10)))], none⟩,
  ⟨(some 2), .mv (.t 4), none⟩])
 .ret))⟩
def a466 : Ann := ⟨[], [⟨false, 0, false⟩], []⟩
def s466 : SFun := ⟨1, 5, [], [(.tmp 2, ⟨false, 0, false⟩)],
 (.seq (.reg [⟨(some 2), .mv (.k (D.str [])), none⟩])
 (.seq (.reg [⟨(some 3), .mv (.t 0), none⟩,
  ⟨(some 4), .call false 95 [(.t 3)], none⟩,
  ⟨(some 2), .mv (.t 4), none⟩])
 .ret))⟩
def a389 : Ann := ⟨[(3, [(9, ⟨false, 0, false⟩), (10, ⟨false, 0, false⟩), (11, ⟨false, 0, false⟩), (1, ⟨true, 0, false⟩), (3, ⟨true, 1, false⟩)])], [⟨true, 1, false⟩], []⟩
def s389 : SFun := ⟨1, 39, [], [(.tmp 2, ⟨true, 1, false⟩)],
 (.seq (.reg [⟨(some 1), .box 7 (.t 0), none⟩,
  ⟨(some 2), .mv (.k .sn), none⟩])
 (.seq (.reg [⟨(some 3), .mv (.k .sn), none⟩])
 (.seq (.seq (.reg [⟨(some 8), .fad 5 (.t 1), none⟩,
  ⟨(some 9), .load false 1 (.t 8), none⟩,
  ⟨(some 10), .len (.t 9), none⟩,
  ⟨(some 11), .mv (.k (D.int .i64 (0))), none⟩])
 (.block 0 (.loop [(9, ⟨false, 0, false⟩), (10, ⟨false, 0, false⟩), (11, ⟨false, 0, false⟩), (1, ⟨true, 0, false⟩), (3, ⟨true, 1, false⟩)]
 (.seq (.reg [⟨(some 12), .bin .lss (.t 11) (.t 10), none⟩])
 (.seq (.cond (.t 12)
 .skip
 (.exit 0))
 (.seq (.block 1 (.seq (.reg [⟨(some 13), .ixs 1 (.t 9) (.t 11), none⟩,
  ⟨(some 14), .load false 1 (.t 13), none⟩,
  ⟨(some 5), .mv (.t 14), none⟩])
 (.seq (.reg [⟨(some 6), .mv (.k (D.str [])), none⟩])
 (.seq (.seq (.reg [⟨(some 15), .mv (.t 5), none⟩,
  ⟨(some 16), .bin .neq (.t 15) (.k (D.int .i64 (-1))), none⟩])
 (.cond (.t 16)
 (.reg [⟨(some 17), .mv (.t 5), none⟩,
  ⟨(some 18), .call false 466 [(.t 17)], none⟩,
  ⟨(some 6), .mv (.t 18), none⟩])
 .skip))
 (.reg [⟨(some 19), .mv (.t 3), none⟩,
  ⟨(some 20), .mv (.t 6), none⟩,
  ⟨(some 21), .bsl false 1 1 [(D.str [])] [(0, (.t 20))], none⟩,
  ⟨(some 22), .append 1 16 (.t 19) (.t 21), none⟩,
  ⟨(some 3), .mv (.t 22), none⟩])))))
 (.reg [⟨(some 23), .bin .add (.t 11) (.k (D.int .i64 (1))), none⟩,
  ⟨(some 11), .mv (.t 23), none⟩])))))))
 (.seq (.reg [⟨(some 24), .fad 2 (.t 1), none⟩,
  ⟨(some 25), .load false 1 (.t 24), none⟩,
  ⟨(some 26), .bsl true 1 3 [(D.int .u8 (0))] [(0, (.k (D.int .u8 (27)))), (1, (.k (D.int .u8 (91)))), (2, (.t 25))], none⟩,
  ⟨(some 27), .call false 100396 [(.t 26)], none⟩,
  ⟨(some 28), .mv (.t 3), none⟩,
  ⟨(some 29), .call false 471 [(.t 28), (.k (D.str [59]))], none⟩,
  ⟨(some 30), .append 1 1 (.t 27) (.t 29), none⟩,
  ⟨(some 7), .mv (.t 30), none⟩])
 (.seq (.reg [⟨(some 31), .mv (.t 7), none⟩,
  ⟨(some 32), .fad 3 (.t 1), none⟩,
  ⟨(some 33), .load false 1 (.t 32), none⟩,
  ⟨(some 34), .fad 4 (.t 1), none⟩,
  ⟨(some 35), .load false 1 (.t 34), none⟩,
  ⟨(some 36), .bsl true 1 2 [(D.int .u8 (0))] [(0, (.t 33)), (1, (.t 35))], none⟩,
  ⟨(some 37), .call false 100396 [(.t 36)], none⟩,
  ⟨(some 38), .append 1 1 (.t 31) (.t 37), none⟩,
  ⟨(some 2), .mv (.t 38), none⟩])
 .ret)))))⟩
def a388 : Ann := ⟨[], [⟨true, 1, false⟩], []⟩
def s388 : SFun := ⟨1, 34, [], [(.tmp 2, ⟨true, 1, false⟩)],
 (.seq (.reg [⟨(some 1), .box 7 (.t 0), none⟩,
  ⟨(some 2), .mv (.k .sn), none⟩])
 (.seq (.seq (.reg [⟨(some 3), .fad 0 (.t 1), none⟩,
  ⟨(some 4), .load false 1 (.t 3), none⟩])
 (.block 0 (.seq (.reg [⟨(some 6), .bin .eql (.t 4) (.k (D.int .i64 (1))), none⟩,
  ⟨(some 5), .mv (.t 6), none⟩])
 (.cond (.t 5)
 (.seq (.reg [⟨(some 7), .fad 1 (.t 1), none⟩,
  ⟨(some 8), .load false 1 (.t 7), none⟩,
  ⟨(some 9), .bsl false 1 1 [(D.int .i32 (0))] [(0, (.t 8))], none⟩,
  ⟨(some 10), .call false 431 [(.t 9)], none⟩,
  ⟨(some 2), .mv (.t 10), none⟩])
 .ret)
 (.seq (.reg [⟨(some 12), .bin .eql (.t 4) (.k (D.int .i64 (2))), none⟩,
  ⟨(some 11), .mv (.t 12), none⟩])
 (.cond (.t 11)
 (.seq (.reg [⟨(some 13), .fad 4 (.t 1), none⟩,
  ⟨(some 14), .load false 1 (.t 13), none⟩,
  ⟨(some 15), .bsl true 1 1 [(D.int .u8 (0))] [(0, (.t 14))], none⟩,
  ⟨(some 2), .mv (.t 15), none⟩])
 .ret)
 (.seq (.reg [⟨(some 17), .bin .eql (.t 4) (.k (D.int .i64 (3))), none⟩,
  ⟨(some 16), .mv (.t 17), none⟩])
 (.cond (.t 16)
 (.seq (.reg [⟨(some 18), .fad 3 (.t 1), none⟩,
  ⟨(some 19), .load false 1 (.t 18), none⟩,
  ⟨(some 20), .fad 4 (.t 1), none⟩,
  ⟨(some 21), .load false 1 (.t 20), none⟩,
  ⟨(some 22), .bsl true 1 3 [(D.int .u8 (0))] [(0, (.k (D.int .u8 (27)))), (1, (.t 19)), (2, (.t 21))], none⟩,
  ⟨(some 23), .call false 100396 [(.t 22)], none⟩,
  ⟨(some 2), .mv (.t 23), none⟩])
 .ret)
 (.seq (.reg [⟨(some 25), .bin .eql (.t 4) (.k (D.int .i64 (4))), none⟩,
  ⟨(some 24), .mv (.t 25), none⟩])
 (.cond (.t 24)
 (.seq (.reg [⟨(some 26), .load true 7 (.t 1), none⟩,
  ⟨(some 27), .call false 389 [(.t 26)], none⟩,
  ⟨(some 2), .mv (.t 27), none⟩])
 .ret)
 .skip))))))))))
 (.seq (.reg [⟨(some 28), .bsl true 1 2 [(D.int .u8 (0))] [(0, (.k (D.int .u8 (27)))), (1, (.k (D.int .u8 (93))))], none⟩,
  ⟨(some 29), .fad 6 (.t 1), none⟩,
  ⟨(some 30), .load false 1 (.t 29), none⟩,
  ⟨(some 31), .append 1 1 (.t 28) (.t 30), none⟩,
  ⟨(some 32), .bsl false 1 1 [(D.int .u8 (0))] [(0, (.k (D.int .u8 (7))))], none⟩,
  ⟨(some 33), .append 1 1 (.t 31) (.t 32), none⟩,
  ⟨(some 2), .mv (.t 33), none⟩])
 .ret)))⟩
def a383 : Ann := ⟨[(3, [(6, ⟨false, 0, false⟩), (7, ⟨false, 0, false⟩), (8, ⟨false, 0, false⟩), (3, ⟨true, 1, false⟩)])], [⟨true, 1, false⟩], []⟩
def s383 : SFun := ⟨1, 20, [], [(.tmp 2, ⟨true, 1, false⟩)],
 (.seq (.reg [⟨(some 2), .mv (.k .sn), none⟩])
 (.seq (.reg [⟨(some 3), .mv (.k .sn), none⟩])
 (.seq (.seq (.reg [⟨(some 6), .mv (.t 0), none⟩,
  ⟨(some 7), .len (.t 6), none⟩,
  ⟨(some 8), .mv (.k (D.int .i64 (0))), none⟩])
 (.block 0 (.loop [(6, ⟨false, 0, false⟩), (7, ⟨false, 0, false⟩), (8, ⟨false, 0, false⟩), (3, ⟨true, 1, false⟩)]
 (.seq (.reg [⟨(some 9), .bin .lss (.t 8) (.t 7), none⟩])
 (.seq (.cond (.t 9)
 .skip
 (.exit 0))
 (.seq (.block 1 (.seq (.reg [⟨(some 10), .ixs 7 (.t 6) (.t 8), none⟩,
  ⟨(some 11), .load true 7 (.t 10), none⟩,
  ⟨(some 5), .alloc [(D.int .i64 (0)), (D.int .i32 (0)), (D.int .u8 (0)), (D.int .u8 (0)), (D.int .u8 (0)), .sn, (D.str [])], none⟩,
  ⟨none, .store 7 (.t 5) (.t 11), none⟩])
 (.seq (.reg [⟨(some 12), .load true 7 (.t 5), none⟩,
  ⟨(some 13), .call false 384 [(.t 12)], none⟩])
 (.cond (.t 13)
 (.reg [⟨(some 14), .mv (.t 3), none⟩,
  ⟨(some 15), .load true 7 (.t 5), none⟩,
  ⟨(some 16), .call false 388 [(.t 15)], none⟩,
  ⟨(some 17), .append 1 1 (.t 14) (.t 16), none⟩,
  ⟨(some 3), .mv (.t 17), none⟩])
 .skip))))
 (.reg [⟨(some 18), .bin .add (.t 8) (.k (D.int .i64 (1))), none⟩,
  ⟨(some 8), .mv (.t 18), none⟩])))))))
 (.seq (.reg [⟨(some 19), .mv (.t 3), none⟩,
  ⟨(some 2), .mv (.t 19), none⟩])
 .ret))))⟩
def a385 : Ann := ⟨[], [⟨false, 0, false⟩], []⟩
def s385 : SFun := ⟨2, 52, [], [(.tmp 4, ⟨false, 0, false⟩)],
 (.seq (.reg [⟨(some 2), .box 7 (.t 0), none⟩,
  ⟨(some 3), .box 7 (.t 1), none⟩,
  ⟨(some 4), .mv (.k (D.bool false)), none⟩])
 (.seq (.reg [⟨(some 5), .fad 0 (.t 2), none⟩,
  ⟨(some 6), .load false 1 (.t 5), none⟩,
  ⟨(some 7), .fad 0 (.t 3), none⟩,
  ⟨(some 8), .load false 1 (.t 7), none⟩,
  ⟨(some 9), .bin .eql (.t 6) (.t 8), none⟩,
  ⟨(some 10), .mv (.t 9), none⟩,
  ⟨(some 11), .fad 1 (.t 2), (some (10, true))⟩,
  ⟨(some 12), .load false 1 (.t 11), (some (10, true))⟩,
  ⟨(some 13), .fad 1 (.t 3), (some (10, true))⟩,
  ⟨(some 14), .load false 1 (.t 13), (some (10, true))⟩,
  ⟨(some 15), .bin .eql (.t 12) (.t 14), (some (10, true))⟩,
  ⟨(some 16), .pick (.t 10) (.t 15) (.k (D.bool false)), none⟩,
  ⟨(some 17), .mv (.t 16), none⟩,
  ⟨(some 18), .fad 2 (.t 2), (some (17, true))⟩,
  ⟨(some 19), .load false 1 (.t 18), (some (17, true))⟩,
  ⟨(some 20), .fad 2 (.t 3), (some (17, true))⟩,
  ⟨(some 21), .load false 1 (.t 20), (some (17, true))⟩,
  ⟨(some 22), .bin .eql (.t 19) (.t 21), (some (17, true))⟩,
  ⟨(some 23), .pick (.t 17) (.t 22) (.k (D.bool false)), none⟩,
  ⟨(some 24), .mv (.t 23), none⟩,
  ⟨(some 25), .fad 3 (.t 2), (some (24, true))⟩,
  ⟨(some 26), .load false 1 (.t 25), (some (24, true))⟩,
  ⟨(some 27), .fad 3 (.t 3), (some (24, true))⟩,
  ⟨(some 28), .load false 1 (.t 27), (some (24, true))⟩,
  ⟨(some 29), .bin .eql (.t 26) (.t 28), (some (24, true))⟩,
  ⟨(some 30), .pick (.t 24) (.t 29) (.k (D.bool false)), none⟩,
  ⟨(some 31), .mv (.t 30), none⟩,
  ⟨(some 32), .fad 4 (.t 2), (some (31, true))⟩,
  ⟨(some 33), .load false 1 (.t 32), (some (31, true))⟩,
  ⟨(some 34), .fad 4 (.t 3), (some (31, true))⟩,
  ⟨(some 35), .load false 1 (.t 34), (some (31, true))⟩,
  ⟨(some 36), .bin .eql (.t 33) (.t 35), (some (31, true))⟩,
  ⟨(some 37), .pick (.t 31) (.t 36) (.k (D.bool false)), none⟩,
  ⟨(some 38), .mv (.t 37), none⟩,
  ⟨(some 39), .fad 6 (.t 2), (some (38, true))⟩,
  ⟨(some 40), .load false 1 (.t 39), (some (38, true))⟩,
  ⟨(some 41), .fad 6 (.t 3), (some (38, true))⟩,
  ⟨(some 42), .load false 1 (.t 41), (some (38, true))⟩,
  ⟨(some 43), .bin .eql (.t 40) (.t 42), (some (38, true))⟩,
  ⟨(some 44), .pick (.t 38) (.t 43) (.k (D.bool false)), none⟩,
  ⟨(some 45), .mv (.t 44), none⟩,
  ⟨(some 46), .fad 5 (.t 2), (some (45, true))⟩,
  ⟨(some 47), .load false 1 (.t 46), (some (45, true))⟩,
  ⟨(some 48), .fad 5 (.t 3), (some (45, true))⟩,
  ⟨(some 49), .load false 1 (.t 48), (some (45, true))⟩,
  ⟨(some 50), .call false 457 [(.t 47), (.t 49)], (some (45, true))⟩,
  ⟨(some 51), .pick (.t 45) (.t 50) (.k (D.bool false)), none⟩,
  ⟨(some 4), .mv (.t 51), none⟩])
 .ret))⟩
def a240 : Ann := ⟨[], [⟨false, 0, false⟩], []⟩
def s240 : SFun := ⟨0, 33, [], [(.tmp 0, ⟨false, 0, false⟩)],
 (.seq (.reg [⟨(some 0), .mv (.k (D.bool false)), none⟩])
 (.seq (.reg [⟨(some 2), .bsl false 1 2 [(D.int .i64 (0))] [(0, (.k (D.int .i64 (3)))), (1, (.k (D.int .i64 (4))))], none⟩,
  ⟨(some 3), .call false 382 [(.k (D.int .u8 (72))), (.t 2)], none⟩,
  ⟨(some 1), .alloc [(D.int .i64 (0)), (D.int .i32 (0)), (D.int .u8 (0)), (D.int .u8 (0)), (D.int .u8 (0)), .sn, (D.str [])], none⟩,
  ⟨none, .store 7 (.t 1) (.t 3), none⟩])
 (.seq (.reg [⟨(some 4), .load true 7 (.t 1), none⟩,
  ⟨(some 5), .bsl false 7 1 [(D.int .i64 (0)), (D.int .i32 (0)), (D.int .u8 (0)), (D.int .u8 (0)), (D.int .u8 (0)), .sn, (D.str [])] [(0, (.t 4))], none⟩,
  ⟨(some 6), .call false 383 [(.t 5)], none⟩,
  ⟨(some 7), .b2s (.t 6), none⟩,
  ⟨(some 8), .bin .eql (.t 7) (.k (D.str [27, 91, 51, 59, 52, 72])), none⟩,
  ⟨(some 9), .mv (.t 8), none⟩,
  ⟨(some 10), .bsl false 1 1 [(D.int .i64 (0))] [(0, (.k (D.int .i64 (0))))], (some (9, true))⟩,
  ⟨(some 11), .call false 382 [(.k (D.int .u8 (65))), (.t 10)], (some (9, true))⟩,
  ⟨(some 12), .call false 381 [(.t 11), (.k (D.int .i64 (0))), (.k (D.int .i64 (1))), (.k (D.int .i64 (1))), (.k (D.int .i64 (9)))], (some (9, true))⟩,
  ⟨(some 13), .bin .eql (.t 12) (.k (D.int .i64 (1))), (some (9, true))⟩,
  ⟨(some 14), .pick (.t 9) (.t 13) (.k (D.bool false)), none⟩,
  ⟨(some 15), .mv (.t 14), none⟩,
  ⟨(some 16), .load true 7 (.t 1), (some (15, true))⟩,
  ⟨(some 17), .call false 381 [(.t 16), (.k (D.int .i64 (1))), (.k (D.int .i64 (1))), (.k (D.int .i64 (1))), (.k (D.int .i64 (9)))], (some (15, true))⟩,
  ⟨(some 18), .bin .eql (.t 17) (.k (D.int .i64 (4))), (some (15, true))⟩,
  ⟨(some 19), .pick (.t 15) (.t 18) (.k (D.bool false)), none⟩,
  ⟨(some 20), .mv (.t 19), none⟩,
  ⟨(some 21), .bsl false 1 1 [(D.int .i64 (0))] [(0, (.k (D.int .i64 (25))))], (some (20, true))⟩,
  ⟨(some 22), .call false 386 [(.k (D.int .u8 (63))), (.k (D.bool false)), (.t 21)], (some (20, true))⟩,
  ⟨(some 23), .bsl false 7 1 [(D.int .i64 (0)), (D.int .i32 (0)), (D.int .u8 (0)), (D.int .u8 (0)), (D.int .u8 (0)), .sn, (D.str [])] [(0, (.t 22))], (some (20, true))⟩,
  ⟨(some 24), .call false 383 [(.t 23)], (some (20, true))⟩,
  ⟨(some 25), .b2s (.t 24), (some (20, true))⟩,
  ⟨(some 26), .bin .eql (.t 25) (.k (D.str [27, 91, 63, 50, 53, 108])), (some (20, true))⟩,
  ⟨(some 27), .pick (.t 20) (.t 26) (.k (D.bool false)), none⟩,
  ⟨(some 28), .mv (.t 27), none⟩,
  ⟨(some 29), .load true 7 (.t 1), (some (28, true))⟩,
  ⟨(some 30), .load true 7 (.t 1), (some (28, true))⟩,
  ⟨(some 31), .call false 385 [(.t 29), (.t 30)], (some (28, true))⟩,
  ⟨(some 32), .pick (.t 28) (.t 31) (.k (D.bool false)), none⟩,
  ⟨(some 0), .mv (.t 32), none⟩])
 .ret)))⟩
def a237 : Ann := ⟨[(3, [(0, ⟨false, 0, false⟩), (1, ⟨false, 0, false⟩), (2, ⟨false, 0, false⟩), (3, ⟨false, 0, false⟩), (4, ⟨false, 0, false⟩), (5, ⟨false, 0, false⟩), (14, ⟨false, 0, false⟩), (13, ⟨true, 1, false⟩)])], [⟨false, 0, false⟩], []⟩
def s237 : SFun := ⟨6, 151, [], [(.tmp 12, ⟨false, 0, false⟩)],
 (.seq (.reg [⟨(some 12), .mv (.k (D.bool false)), none⟩])
 (.seq (.reg [⟨(some 13), .mv (.k .sn), none⟩])
 (.seq (.seq (.reg [⟨(some 14), .mv (.k (D.int .i64 (0))), none⟩])
 (.block 0 (.loop [(0, ⟨false, 0, false⟩), (1, ⟨false, 0, false⟩), (2, ⟨false, 0, false⟩), (3, ⟨false, 0, false⟩), (4, ⟨false, 0, false⟩), (5, ⟨false, 0, false⟩), (14, ⟨false, 0, false⟩), (13, ⟨true, 1, false⟩)]
 (.seq (.seq (.reg [⟨(some 24), .mv (.t 14), none⟩,
  ⟨(some 25), .mv (.t 0), none⟩,
  ⟨(some 26), .len (.t 25), none⟩,
  ⟨(some 27), .bin .lss (.t 24) (.t 26), none⟩,
  ⟨(some 28), .mv (.t 27), none⟩,
  ⟨(some 29), .mv (.t 14), (some (28, true))⟩,
  ⟨(some 30), .bin .lss (.t 29) (.k (D.int .i64 (16))), (some (28, true))⟩,
  ⟨(some 31), .pick (.t 28) (.t 30) (.k (D.bool false)), none⟩])
 (.cond (.t 31)
 .skip
 (.exit 0)))
 (.seq (.block 1 (.reg [⟨(some 34), .mv (.t 13), none⟩,
  ⟨(some 35), .mv (.t 0), none⟩,
  ⟨(some 36), .mv (.t 14), none⟩,
  ⟨(some 37), .ixs 1 (.t 35) (.t 36), none⟩,
  ⟨(some 38), .load false 1 (.t 37), none⟩,
  ⟨(some 39), .call false 174 [(.t 38), (.k (D.int .i64 (-1))), (.k (D.int .i64 (90)))], none⟩,
  ⟨(some 40), .bsl false 1 1 [(D.int .i64 (0))] [(0, (.t 39))], none⟩,
  ⟨(some 41), .append 1 8 (.t 34) (.t 40), none⟩,
  ⟨(some 13), .mv (.t 41), none⟩]))
 (.reg [⟨(some 32), .mv (.t 14), none⟩,
  ⟨(some 33), .bin .add (.t 32) (.k (D.int .i64 (1))), none⟩,
  ⟨(some 14), .mv (.t 33), none⟩]))))))
 (.seq (.reg [⟨(some 42), .mv (.t 5), none⟩,
  ⟨(some 43), .cvi .i64 (.t 42), none⟩,
  ⟨(some 44), .bin .rem (.t 43) (.k (D.int .i64 (63))), none⟩,
  ⟨(some 45), .bin .add (.k (D.int .i64 (64))) (.t 44), none⟩,
  ⟨(some 46), .cvi .u8 (.t 45), none⟩,
  ⟨(some 15), .mv (.t 46), none⟩])
 (.seq (.reg [⟨(some 47), .mv (.t 15), none⟩,
  ⟨(some 48), .mv (.t 13), none⟩,
  ⟨(some 49), .call false 382 [(.t 47), (.t 48)], none⟩,
  ⟨(some 16), .alloc [(D.int .i64 (0)), (D.int .i32 (0)), (D.int .u8 (0)), (D.int .u8 (0)), (D.int .u8 (0)), .sn, (D.str [])], none⟩,
  ⟨none, .store 7 (.t 16) (.t 49), none⟩])
 (.seq (.reg [⟨(some 50), .mv (.t 3), none⟩,
  ⟨(some 51), .call false 174 [(.t 50), (.k (D.int .i64 (0))), (.k (D.int .i64 (2)))], none⟩,
  ⟨(some 17), .mv (.t 51), none⟩])
 (.seq (.reg [⟨(some 52), .mv (.t 4), none⟩,
  ⟨(some 53), .mv (.t 17), none⟩,
  ⟨(some 54), .call false 174 [(.t 52), (.t 53), (.k (D.int .i64 (80)))], none⟩,
  ⟨(some 18), .mv (.t 54), none⟩])
 (.seq (.reg [⟨(some 55), .mv (.t 2), none⟩,
  ⟨(some 56), .call false 174 [(.t 55), (.k (D.int .i64 (0))), (.k (D.int .i64 (90)))], none⟩,
  ⟨(some 19), .mv (.t 56), none⟩])
 (.seq (.reg [⟨(some 57), .mv (.t 1), none⟩,
  ⟨(some 58), .call false 174 [(.t 57), (.k (D.int .i64 (-1))), (.k (D.int .i64 (17)))], none⟩,
  ⟨(some 20), .mv (.t 58), none⟩])
 (.seq (.reg [⟨(some 59), .mv (.t 19), none⟩,
  ⟨(some 21), .mv (.t 59), none⟩])
 (.seq (.seq (.reg [⟨(some 60), .mv (.t 20), none⟩,
  ⟨(some 61), .bin .geq (.t 60) (.k (D.int .i64 (0))), none⟩,
  ⟨(some 62), .mv (.t 61), none⟩,
  ⟨(some 63), .mv (.t 20), (some (62, true))⟩,
  ⟨(some 64), .mv (.t 13), (some (62, true))⟩,
  ⟨(some 65), .len (.t 64), (some (62, true))⟩,
  ⟨(some 66), .bin .lss (.t 63) (.t 65), (some (62, true))⟩,
  ⟨(some 67), .pick (.t 62) (.t 66) (.k (D.bool false)), none⟩,
  ⟨(some 68), .mv (.t 67), none⟩,
  ⟨(some 69), .mv (.t 13), (some (68, true))⟩,
  ⟨(some 70), .mv (.t 20), (some (68, true))⟩,
  ⟨(some 71), .ixs 1 (.t 69) (.t 70), (some (68, true))⟩,
  ⟨(some 72), .load false 1 (.t 71), (some (68, true))⟩,
  ⟨(some 73), .bin .neq (.t 72) (.k (D.int .i64 (-1))), (some (68, true))⟩,
  ⟨(some 74), .pick (.t 68) (.t 73) (.k (D.bool false)), none⟩,
  ⟨(some 75), .mv (.t 74), none⟩,
  ⟨(some 76), .mv (.t 13), (some (75, true))⟩,
  ⟨(some 77), .mv (.t 20), (some (75, true))⟩,
  ⟨(some 78), .ixs 1 (.t 76) (.t 77), (some (75, true))⟩,
  ⟨(some 79), .load false 1 (.t 78), (some (75, true))⟩,
  ⟨(some 80), .bin .neq (.t 79) (.k (D.int .i64 (0))), (some (75, true))⟩,
  ⟨(some 81), .mv (.t 80), (some (75, true))⟩,
  ⟨(some 82), .mv (.t 17), (some (81, false))⟩,
  ⟨(some 83), .bin .lss (.t 82) (.k (D.int .i64 (1))), (some (81, false))⟩,
  ⟨(some 84), .pick (.t 81) (.k (D.bool true)) (.t 83), (some (75, true))⟩,
  ⟨(some 85), .pick (.t 75) (.t 84) (.k (D.bool false)), none⟩])
 (.cond (.t 85)
 (.reg [⟨(some 86), .mv (.t 13), none⟩,
  ⟨(some 87), .mv (.t 20), none⟩,
  ⟨(some 88), .ixs 1 (.t 86) (.t 87), none⟩,
  ⟨(some 89), .load false 1 (.t 88), none⟩,
  ⟨(some 21), .mv (.t 89), none⟩])
 .skip))
 (.seq (.reg [⟨(some 90), .mv (.t 21), none⟩,
  ⟨(some 91), .mv (.t 17), none⟩,
  ⟨(some 92), .mx [(.t 90), (.t 91)], none⟩,
  ⟨(some 93), .mv (.t 18), none⟩,
  ⟨(some 94), .mn [(.t 92), (.t 93)], none⟩,
  ⟨(some 21), .mv (.t 94), none⟩])
 (.seq (.reg [⟨(some 95), .mv (.t 13), none⟩,
  ⟨(some 22), .mv (.t 95), none⟩])
 (.seq (.seq (.reg [⟨(some 96), .mv (.t 13), none⟩,
  ⟨(some 97), .len (.t 96), none⟩,
  ⟨(some 98), .bin .eql (.t 97) (.k (D.int .i64 (1))), none⟩,
  ⟨(some 99), .mv (.t 98), none⟩,
  ⟨(some 100), .mv (.t 13), (some (99, true))⟩,
  ⟨(some 101), .ixs 1 (.t 100) (.k (D.int .i64 (0))), (some (99, true))⟩,
  ⟨(some 102), .load false 1 (.t 101), (some (99, true))⟩,
  ⟨(some 103), .bin .eql (.t 102) (.k (D.int .i64 (-1))), (some (99, true))⟩,
  ⟨(some 104), .pick (.t 99) (.t 103) (.k (D.bool false)), none⟩])
 (.cond (.t 104)
 (.reg [⟨(some 22), .mv (.k .sn), none⟩])
 .skip))
 (.seq (.reg [⟨(some 105), .mv (.t 13), none⟩,
  ⟨(some 106), .call false 386 [(.k (D.int .u8 (63))), (.k (D.bool true)), (.t 105)], none⟩,
  ⟨(some 23), .alloc [(D.int .i64 (0)), (D.int .i32 (0)), (D.int .u8 (0)), (D.int .u8 (0)), (D.int .u8 (0)), .sn, (D.str [])], none⟩,
  ⟨none, .store 7 (.t 23) (.t 106), none⟩])
 (.seq (.reg [⟨(some 107), .load true 7 (.t 16), none⟩,
  ⟨(some 108), .mv (.t 20), none⟩,
  ⟨(some 109), .mv (.t 19), none⟩,
  ⟨(some 110), .mv (.t 17), none⟩,
  ⟨(some 111), .mv (.t 18), none⟩,
  ⟨(some 112), .call false 381 [(.t 107), (.t 108), (.t 109), (.t 110), (.t 111)], none⟩,
  ⟨(some 113), .mv (.t 21), none⟩,
  ⟨(some 114), .bin .eql (.t 112) (.t 113), none⟩,
  ⟨(some 115), .mv (.t 114), none⟩,
  ⟨(some 116), .fad 4 (.t 16), (some (115, true))⟩,
  ⟨(some 117), .load false 1 (.t 116), (some (115, true))⟩,
  ⟨(some 118), .mv (.t 15), (some (115, true))⟩,
  ⟨(some 119), .bin .eql (.t 117) (.t 118), (some (115, true))⟩,
  ⟨(some 120), .pick (.t 115) (.t 119) (.k (D.bool false)), none⟩,
  ⟨(some 121), .mv (.t 120), none⟩,
  ⟨(some 122), .fad 5 (.t 16), (some (121, true))⟩,
  ⟨(some 123), .load false 1 (.t 122), (some (121, true))⟩,
  ⟨(some 124), .mv (.t 22), (some (121, true))⟩,
  ⟨(some 125), .call false 172 [(.t 123), (.t 124)], (some (121, true))⟩,
  ⟨(some 126), .pick (.t 121) (.t 125) (.k (D.bool false)), none⟩,
  ⟨(some 127), .mv (.t 126), none⟩,
  ⟨(some 128), .fad 0 (.t 16), (some (127, true))⟩,
  ⟨(some 129), .load false 1 (.t 128), (some (127, true))⟩,
  ⟨(some 130), .bin .eql (.t 129) (.k (D.int .i64 (4))), (some (127, true))⟩,
  ⟨(some 131), .pick (.t 127) (.t 130) (.k (D.bool false)), none⟩,
  ⟨(some 132), .mv (.t 131), none⟩,
  ⟨(some 133), .fad 2 (.t 23), (some (132, true))⟩,
  ⟨(some 134), .load false 1 (.t 133), (some (132, true))⟩,
  ⟨(some 135), .bin .eql (.t 134) (.k (D.int .u8 (63))), (some (132, true))⟩,
  ⟨(some 136), .pick (.t 132) (.t 135) (.k (D.bool false)), none⟩,
  ⟨(some 137), .mv (.t 136), none⟩,
  ⟨(some 138), .fad 4 (.t 23), (some (137, true))⟩,
  ⟨(some 139), .load false 1 (.t 138), (some (137, true))⟩,
  ⟨(some 140), .bin .eql (.t 139) (.k (D.int .u8 (104))), (some (137, true))⟩,
  ⟨(some 141), .pick (.t 137) (.t 140) (.k (D.bool false)), none⟩,
  ⟨(some 142), .mv (.t 141), none⟩,
  ⟨(some 143), .fad 5 (.t 23), (some (142, true))⟩,
  ⟨(some 144), .load false 1 (.t 143), (some (142, true))⟩,
  ⟨(some 145), .mv (.t 13), (some (142, true))⟩,
  ⟨(some 146), .call false 172 [(.t 144), (.t 145)], (some (142, true))⟩,
  ⟨(some 147), .pick (.t 142) (.t 146) (.k (D.bool false)), none⟩,
  ⟨(some 148), .mv (.t 147), none⟩,
  ⟨(some 149), .call false 240 [], (some (148, true))⟩,
  ⟨(some 150), .pick (.t 148) (.t 149) (.k (D.bool false)), none⟩,
  ⟨(some 12), .mv (.t 150), none⟩])
 .ret))))))))))))))))⟩
def a176 : Ann := ⟨[], [⟨false, 0, false⟩], []⟩
def s176 : SFun := ⟨1, 26, [], [(.tmp 2, ⟨false, 0, false⟩)],
 (.seq (.reg [⟨(some 2), .mv (.k (D.str [])), none⟩])
 (.seq (.seq (.reg [⟨(some 3), .mv (.t 0), none⟩,
  ⟨(some 4), .bin .lss (.t 3) (.k (D.int .i64 (0))), none⟩])
 (.cond (.t 4)
 (.seq (.reg [⟨(some 5), .mv (.t 0), none⟩,
  ⟨(some 6), .una .neg (.t 5), none⟩,
  ⟨(some 7), .call false 176 [(.t 6)], none⟩,
  ⟨(some 8), .bin .add (.k (D.str [45])) (.t 7), none⟩,
  ⟨(some 2), .mv (.t 8), none⟩])
 .ret)
 .skip))
 (.seq (.seq (.reg [⟨(some 9), .mv (.t 0), none⟩,
  ⟨(some 10), .bin .lss (.t 9) (.k (D.int .i64 (10))), none⟩])
 (.cond (.t 10)
 (.seq (.reg [⟨(some 11), .mv (.t 0), none⟩,
  ⟨(some 12), .bin .add (.k (D.int .i64 (48))) (.t 11), none⟩,
  ⟨(some 13), .cvi .u8 (.t 12), none⟩,
  ⟨(some 14), .bsl true 1 1 [(D.int .u8 (0))] [(0, (.t 13))], none⟩,
  ⟨(some 15), .b2s (.t 14), none⟩,
  ⟨(some 2), .mv (.t 15), none⟩])
 .ret)
 .skip))
 (.seq (.dreg [([], false, ⟨(some 16), .mv (.t 0), none⟩),
  ([], false, ⟨(some 17), .bin .quo (.t 16) (.k (D.int .i64 (10))), none⟩),
  ([], false, ⟨(some 18), .call true 176 [(.t 17)], none⟩),
  ([0, 1, 2], false, ⟨(some 19), .mv (.t 0), none⟩),
  ([0, 1, 2], false, ⟨(some 20), .bin .rem (.t 19) (.k (D.int .i64 (10))), none⟩),
  ([0, 1, 2], false, ⟨(some 21), .bin .add (.k (D.int .i64 (48))) (.t 20), none⟩),
  ([0, 1, 2], false, ⟨(some 22), .cvi .u8 (.t 21), none⟩),
  ([0, 1, 2], false, ⟨(some 23), .bsl true 1 1 [(D.int .u8 (0))] [(0, (.t 22))], none⟩),
  ([0, 1, 2], false, ⟨(some 24), .b2s (.t 23), none⟩),
  ([], true, ⟨(some 25), .bin .add (.t 18) (.t 24), none⟩),
  ([], true, ⟨(some 2), .mv (.t 25), none⟩)])
 .ret))))⟩
def a244 : Ann := ⟨[], [⟨true, 1, false⟩], []⟩
def s244 : SFun := ⟨0, 2, [], [(.tmp 0, ⟨true, 1, false⟩)],
 (.seq (.reg [⟨(some 0), .mv (.k .sn), none⟩])
 (.seq (.reg [⟨(some 1), .bsl true 1 31 [(D.int .i32 (0))] [(0, (.k (D.int .i32 (9670)))), (1, (.k (D.int .i32 (9618)))), (2, (.k (D.int .i32 (9225)))), (3, (.k (D.int .i32 (9228)))), (4, (.k (D.int .i32 (9229)))), (5, (.k (D.int .i32 (9226)))), (6, (.k (D.int .i32 (176)))), (7, (.k (D.int .i32 (177)))), (8, (.k (D.int .i32 (9252)))), (9, (.k (D.int .i32 (9227)))), (10, (.k (D.int .i32 (9496)))), (11, (.k (D.int .i32 (9488)))), (12, (.k (D.int .i32 (9484)))), (13, (.k (D.int .i32 (9492)))), (14, (.k (D.int .i32 (9532)))), (15, (.k (D.int .i32 (9146)))), (16, (.k (D.int .i32 (9147)))), (17, (.k (D.int .i32 (9472)))), (18, (.k (D.int .i32 (9148)))), (19, (.k (D.int .i32 (9149)))), (20, (.k (D.int .i32 (9500)))), (21, (.k (D.int .i32 (9508)))), (22, (.k (D.int .i32 (9524)))), (23, (.k (D.int .i32 (9516)))), (24, (.k (D.int .i32 (9474)))), (25, (.k (D.int .i32 (8804)))), (26, (.k (D.int .i32 (8805)))), (27, (.k (D.int .i32 (960)))), (28, (.k (D.int .i32 (8800)))), (29, (.k (D.int .i32 (163)))), (30, (.k (D.int .i32 (183))))], none⟩,
  ⟨(some 0), .mv (.t 1), none⟩])
 .ret))⟩
def a255 : Ann := ⟨[], [⟨false, 0, false⟩], []⟩
def s255 : SFun := ⟨0, 1, [], [(.tmp 0, ⟨false, 0, false⟩)],
 (.seq (.reg [⟨(some 0), .mv (.k (D.str [])), none⟩])
 (.seq (.reg [⟨(some 0), .mv (.k (D.str [42, 35, 72, 70, 67, 76, 111, 43, 78, 86, 43, 43, 43, 43, 43, 45, 45, 45, 45, 95, 43, 43, 43, 43, 124, 60, 62, 112, 33, 76, 46])), none⟩])
 .ret))⟩
def a248 : Ann := ⟨[(4, [(0, ⟨false, 0, false⟩), (2, ⟨false, 0, false⟩), (13, ⟨false, 0, false⟩), (14, ⟨false, 0, false⟩), (15, ⟨false, 0, false⟩)])], [⟨false, 0, false⟩], []⟩
def s248 : SFun := ⟨1, 27, [], [(.tmp 2, ⟨false, 0, false⟩)],
 (.seq (.reg [⟨(some 2), .mv (.k (D.int .u8 (0))), none⟩])
 (.seq (.seq (.reg [⟨(some 5), .mv (.t 0), none⟩,
  ⟨(some 6), .bin .geq (.t 5) (.k (D.int .i32 (32))), none⟩,
  ⟨(some 7), .mv (.t 6), none⟩,
  ⟨(some 8), .mv (.t 0), (some (7, true))⟩,
  ⟨(some 9), .bin .lss (.t 8) (.k (D.int .i32 (127))), (some (7, true))⟩,
  ⟨(some 10), .pick (.t 7) (.t 9) (.k (D.bool false)), none⟩])
 (.cond (.t 10)
 (.seq (.reg [⟨(some 11), .mv (.t 0), none⟩,
  ⟨(some 12), .cvi .u8 (.t 11), none⟩,
  ⟨(some 2), .mv (.t 12), none⟩])
 .ret)
 .skip))
 (.seq (.seq (.reg [⟨(some 13), .call false 244 [], none⟩,
  ⟨(some 14), .len (.t 13), none⟩,
  ⟨(some 15), .mv (.k (D.int .i64 (0))), none⟩])
 (.block 0 (.loop [(0, ⟨false, 0, false⟩), (2, ⟨false, 0, false⟩), (13, ⟨false, 0, false⟩), (14, ⟨false, 0, false⟩), (15, ⟨false, 0, false⟩)]
 (.seq (.reg [⟨(some 16), .bin .lss (.t 15) (.t 14), none⟩])
 (.seq (.cond (.t 16)
 .skip
 (.exit 0))
 (.seq (.block 1 (.seq (.reg [⟨(some 17), .mv (.t 15), none⟩,
  ⟨(some 18), .ixs 1 (.t 13) (.t 15), none⟩,
  ⟨(some 19), .load false 1 (.t 18), none⟩,
  ⟨(some 3), .mv (.t 17), none⟩,
  ⟨(some 4), .mv (.t 19), none⟩])
 (.seq (.reg [⟨(some 20), .mv (.t 4), none⟩,
  ⟨(some 21), .mv (.t 0), none⟩,
  ⟨(some 22), .bin .eql (.t 20) (.t 21), none⟩])
 (.cond (.t 22)
 (.seq (.reg [⟨(some 23), .call false 255 [], none⟩,
  ⟨(some 24), .mv (.t 3), none⟩,
  ⟨(some 25), .ixt (.t 23) (.t 24), none⟩,
  ⟨(some 2), .mv (.t 25), none⟩])
 .ret)
 .skip))))
 (.reg [⟨(some 26), .bin .add (.t 15) (.k (D.int .i64 (1))), none⟩,
  ⟨(some 15), .mv (.t 26), none⟩])))))))
 (.seq (.reg [⟨(some 2), .mv (.k (D.int .u8 (63))), none⟩])
 .ret))))⟩
def a266 : Ann := ⟨[(3, [(1, ⟨false, 0, false⟩), (4, ⟨false, 0, false⟩), (9, ⟨false, 0, false⟩), (10, ⟨false, 0, false⟩), (11, ⟨false, 0, false⟩)])], [⟨false, 0, false⟩], []⟩
def s266 : SFun := ⟨2, 23, [], [(.tmp 4, ⟨false, 0, false⟩)],
 (.seq (.reg [⟨(some 4), .mv (.k (D.int .i32 (0))), none⟩])
 (.seq (.seq (.reg [⟨(some 7), .mv (.t 0), none⟩,
  ⟨(some 8), .bin .neq (.t 7) (.k (D.int .i64 (3))), none⟩])
 (.cond (.t 8)
 (.seq (.reg [⟨(some 9), .call false 244 [], none⟩,
  ⟨(some 10), .len (.t 9), none⟩,
  ⟨(some 11), .mv (.k (D.int .i64 (0))), none⟩])
 (.block 0 (.loop [(1, ⟨false, 0, false⟩), (4, ⟨false, 0, false⟩), (9, ⟨false, 0, false⟩), (10, ⟨false, 0, false⟩), (11, ⟨false, 0, false⟩)]
 (.seq (.reg [⟨(some 12), .bin .lss (.t 11) (.t 10), none⟩])
 (.seq (.cond (.t 12)
 .skip
 (.exit 0))
 (.seq (.block 1 (.seq (.reg [⟨(some 13), .ixs 1 (.t 9) (.t 11), none⟩,
  ⟨(some 14), .load false 1 (.t 13), none⟩,
  ⟨(some 6), .mv (.t 14), none⟩])
 (.seq (.reg [⟨(some 15), .mv (.t 6), none⟩,
  ⟨(some 16), .mv (.t 1), none⟩,
  ⟨(some 17), .bin .eql (.t 15) (.t 16), none⟩])
 (.cond (.t 17)
 (.seq (.reg [⟨(some 18), .mv (.t 1), none⟩,
  ⟨(some 4), .mv (.t 18), none⟩])
 .ret)
 .skip))))
 (.reg [⟨(some 19), .bin .add (.t 11) (.k (D.int .i64 (1))), none⟩,
  ⟨(some 11), .mv (.t 19), none⟩])))))))
 .skip))
 (.seq (.reg [⟨(some 20), .mv (.t 1), none⟩,
  ⟨(some 21), .call false 248 [(.t 20)], none⟩,
  ⟨(some 22), .cvi .i32 (.t 21), none⟩,
  ⟨(some 4), .mv (.t 22), none⟩])
 .ret)))⟩
def a115 : Ann := ⟨[], [⟨true, 1, false⟩], []⟩
def s115 : SFun := ⟨0, 2, [], [(.tmp 0, ⟨true, 1, false⟩)],
 (.seq (.reg [⟨(some 0), .mv (.k .sn), none⟩])
 (.seq (.reg [⟨(some 1), .bsl true 1 31 [(D.int .i32 (0))] [(0, (.k (D.int .i32 (9670)))), (1, (.k (D.int .i32 (9618)))), (2, (.k (D.int .i32 (9225)))), (3, (.k (D.int .i32 (9228)))), (4, (.k (D.int .i32 (9229)))), (5, (.k (D.int .i32 (9226)))), (6, (.k (D.int .i32 (176)))), (7, (.k (D.int .i32 (177)))), (8, (.k (D.int .i32 (9252)))), (9, (.k (D.int .i32 (9227)))), (10, (.k (D.int .i32 (9496)))), (11, (.k (D.int .i32 (9488)))), (12, (.k (D.int .i32 (9484)))), (13, (.k (D.int .i32 (9492)))), (14, (.k (D.int .i32 (9532)))), (15, (.k (D.int .i32 (9146)))), (16, (.k (D.int .i32 (9147)))), (17, (.k (D.int .i32 (9472)))), (18, (.k (D.int .i32 (9148)))), (19, (.k (D.int .i32 (9149)))), (20, (.k (D.int .i32 (9500)))), (21, (.k (D.int .i32 (9508)))), (22, (.k (D.int .i32 (9524)))), (23, (.k (D.int .i32 (9516)))), (24, (.k (D.int .i32 (9474)))), (25, (.k (D.int .i32 (8804)))), (26, (.k (D.int .i32 (8805)))), (27, (.k (D.int .i32 (960)))), (28, (.k (D.int .i32 (8800)))), (29, (.k (D.int .i32 (163)))), (30, (.k (D.int .i32 (183))))], none⟩,
  ⟨(some 0), .mv (.t 1), none⟩])
 .ret))⟩
def a464 : Ann := ⟨[(2, [(0, ⟨false, 0, false⟩), (1, ⟨false, 0, false⟩), (4, ⟨false, 0, false⟩), (7, ⟨false, 0, false⟩), (8, ⟨false, 0, false⟩)])], [⟨false, 0, false⟩], []⟩
def s464 : SFun := ⟨2, 19, [], [(.tmp 4, ⟨false, 0, false⟩)],
 (.seq (.reg [⟨(some 4), .mv (.k (D.int .i64 (0))), none⟩])
 (.seq (.seq (.reg [⟨(some 6), .mv (.t 0), none⟩,
  ⟨(some 7), .len (.t 6), none⟩,
  ⟨(some 8), .mv (.k (D.int .i64 (0))), none⟩])
 (.block 0 (.loop [(0, ⟨false, 0, false⟩), (1, ⟨false, 0, false⟩), (4, ⟨false, 0, false⟩), (7, ⟨false, 0, false⟩), (8, ⟨false, 0, false⟩)]
 (.seq (.reg [⟨(some 9), .bin .lss (.t 8) (.t 7), none⟩])
 (.seq (.cond (.t 9)
 .skip
 (.exit 0))
 (.seq (.block 1 (.seq (.reg [⟨(some 10), .mv (.t 8), none⟩,
  ⟨(some 5), .mv (.t 10), none⟩])
 (.seq (.reg [⟨(some 11), .mv (.t 1), none⟩,
  ⟨(some 12), .mv (.t 0), none⟩,
  ⟨(some 13), .mv (.t 5), none⟩,
  ⟨(some 14), .ixs 1 (.t 12) (.t 13), none⟩,
  ⟨(some 15), .load false 1 (.t 14), none⟩,
  ⟨(some 16), .bin .eql (.t 11) (.t 15), none⟩])
 (.cond (.t 16)
 (.seq (.reg [⟨(some 17), .mv (.t 5), none⟩,
  ⟨(some 4), .mv (.t 17), none⟩])
 .ret)
 .skip))))
 (.reg [⟨(some 18), .bin .add (.t 8) (.k (D.int .i64 (1))), none⟩,
  ⟨(some 8), .mv (.t 18), none⟩])))))))
 (.seq (.reg [⟨(some 4), .mv (.k (D.int .i64 (-1))), none⟩])
 .ret)))⟩
def a117 : Ann := ⟨[], [⟨false, 0, false⟩, ⟨false, 0, false⟩], []⟩
def s117 : SFun := ⟨1, 13, [], [(.tmp 2, ⟨false, 0, false⟩), (.tmp 3, ⟨false, 0, false⟩)],
 (.seq (.reg [⟨(some 2), .mv (.k (D.int .u8 (0))), none⟩,
  ⟨(some 3), .mv (.k (D.bool false)), none⟩])
 (.seq (.reg [⟨(some 5), .call false 115 [], none⟩,
  ⟨(some 6), .mv (.t 0), none⟩,
  ⟨(some 7), .call false 464 [(.t 5), (.t 6)], none⟩,
  ⟨(some 4), .mv (.t 7), none⟩])
 (.seq (.seq (.reg [⟨(some 8), .mv (.t 4), none⟩,
  ⟨(some 9), .bin .lss (.t 8) (.k (D.int .i64 (0))), none⟩])
 (.cond (.t 9)
 (.seq (.reg [⟨(some 2), .mv (.k (D.int .u8 (0))), none⟩,
  ⟨(some 3), .mv (.k (D.bool false)), none⟩])
 .ret)
 .skip))
 (.seq (.reg [⟨(some 10), .mv (.t 4), none⟩,
  ⟨(some 11), .bin .add (.k (D.int .i64 (96))) (.t 10), none⟩,
  ⟨(some 12), .cvi .u8 (.t 11), none⟩,
  ⟨(some 2), .mv (.t 12), none⟩,
  ⟨(some 3), .mv (.k (D.bool true)), none⟩])
 .ret))))⟩
def a134 : Ann := ⟨[], [⟨false, 0, false⟩], []⟩
def s134 : SFun := ⟨1, 9, [], [(.tmp 2, ⟨false, 0, false⟩)],
 (.seq (.reg [⟨(some 2), .mv (.k (D.bool false)), none⟩])
 (.seq (.reg [⟨(some 3), .mv (.t 0), none⟩,
  ⟨(some 4), .bin .geq (.t 3) (.k (D.int .i64 (1))), none⟩,
  ⟨(some 5), .mv (.t 4), none⟩,
  ⟨(some 6), .mv (.t 0), (some (5, true))⟩,
  ⟨(some 7), .bin .leq (.t 6) (.k (D.int .i64 (3))), (some (5, true))⟩,
  ⟨(some 8), .pick (.t 5) (.t 7) (.k (D.bool false)), none⟩,
  ⟨(some 2), .mv (.t 8), none⟩])
 .ret))⟩
def a369 : Ann := ⟨[], [⟨false, 0, false⟩], []⟩
def s369 : SFun := ⟨1, 9, [], [(.tmp 2, ⟨false, 0, false⟩)],
 (.seq (.reg [⟨(some 2), .mv (.k (D.bool false)), none⟩])
 (.seq (.reg [⟨(some 3), .mv (.t 0), none⟩,
  ⟨(some 4), .bin .geq (.t 3) (.k (D.int .i64 (0))), none⟩,
  ⟨(some 5), .mv (.t 4), none⟩,
  ⟨(some 6), .mv (.t 0), (some (5, true))⟩,
  ⟨(some 7), .bin .leq (.t 6) (.k (D.int .i64 (90))), (some (5, true))⟩,
  ⟨(some 8), .pick (.t 5) (.t 7) (.k (D.bool false)), none⟩,
  ⟨(some 2), .mv (.t 8), none⟩])
 .ret))⟩
def a368 : Ann := ⟨[], [⟨false, 0, false⟩], []⟩
def s368 : SFun := ⟨1, 6, [], [(.tmp 2, ⟨false, 0, false⟩)],
 (.seq (.reg [⟨(some 2), .mv (.k (D.str [])), none⟩])
 (.seq (.reg [⟨(some 3), .mv (.t 0), none⟩,
  ⟨(some 4), .bin .add (.t 3) (.k (D.int .i64 (1))), none⟩,
  ⟨(some 5), .call false 466 [(.t 4)], none⟩,
  ⟨(some 2), .mv (.t 5), none⟩])
 .ret))⟩
def a364 : Ann := ⟨[], [⟨true, 1, false⟩], []⟩
def s364 : SFun := ⟨3, 40, [], [(.tmp 6, ⟨true, 1, false⟩)],
 (.seq (.reg [⟨(some 6), .mv (.k .sn), none⟩])
 (.seq (.block 0 (.seq (.reg [⟨(some 8), .mv (.t 0), none⟩,
  ⟨(some 9), .call false 134 [(.t 8)], none⟩,
  ⟨(some 10), .una .not (.t 9), none⟩,
  ⟨(some 11), .mv (.t 10), none⟩,
  ⟨(some 12), .mv (.t 1), (some (11, false))⟩,
  ⟨(some 13), .call false 369 [(.t 12)], (some (11, false))⟩,
  ⟨(some 14), .una .not (.t 13), (some (11, false))⟩,
  ⟨(some 15), .pick (.t 11) (.k (D.bool true)) (.t 14), none⟩,
  ⟨(some 16), .mv (.t 15), none⟩,
  ⟨(some 17), .mv (.t 2), (some (16, false))⟩,
  ⟨(some 18), .call false 369 [(.t 17)], (some (16, false))⟩,
  ⟨(some 19), .una .not (.t 18), (some (16, false))⟩,
  ⟨(some 20), .pick (.t 16) (.k (D.bool true)) (.t 19), none⟩,
  ⟨(some 7), .mv (.t 20), none⟩])
 (.cond (.t 7)
 (.seq (.reg [⟨(some 6), .mv (.k .sn), none⟩])
 .ret)
 (.seq (.reg [⟨(some 22), .mv (.t 0), none⟩,
  ⟨(some 23), .bin .eql (.t 22) (.k (D.int .i64 (3))), none⟩,
  ⟨(some 21), .mv (.t 23), none⟩])
 (.cond (.t 21)
 (.seq (.reg [⟨(some 24), .mv (.t 1), none⟩,
  ⟨(some 25), .bin .add (.t 24) (.k (D.int .i64 (32))), none⟩,
  ⟨(some 26), .cvi .u8 (.t 25), none⟩,
  ⟨(some 27), .mv (.t 2), none⟩,
  ⟨(some 28), .bin .add (.t 27) (.k (D.int .i64 (32))), none⟩,
  ⟨(some 29), .cvi .u8 (.t 28), none⟩,
  ⟨(some 30), .bsl true 1 4 [(D.int .u8 (0))] [(0, (.k (D.int .u8 (27)))), (1, (.k (D.int .u8 (89)))), (2, (.t 26)), (3, (.t 29))], none⟩,
  ⟨(some 6), .mv (.t 30), none⟩])
 .ret)
 .skip)))))
 (.seq (.reg [⟨(some 31), .mv (.t 1), none⟩,
  ⟨(some 32), .call false 368 [(.t 31)], none⟩,
  ⟨(some 33), .bin .add (.k (D.str [27, 91])) (.t 32), none⟩,
  ⟨(some 34), .bin .add (.t 33) (.k (D.str [59])), none⟩,
  ⟨(some 35), .mv (.t 2), none⟩,
  ⟨(some 36), .call false 368 [(.t 35)], none⟩,
  ⟨(some 37), .bin .add (.t 34) (.t 36), none⟩,
  ⟨(some 38), .bin .add (.t 37) (.k (D.str [72])), none⟩,
  ⟨(some 39), .s2b (.t 38), none⟩,
  ⟨(some 6), .mv (.t 39), none⟩])
 .ret)))⟩
def a362 : Ann := ⟨[], [⟨true, 1, false⟩], []⟩
def s362 : SFun := ⟨3, 33, [], [(.tmp 6, ⟨true, 1, false⟩)],
 (.seq (.reg [⟨(some 6), .mv (.k .sn), none⟩])
 (.seq (.seq (.reg [⟨(some 7), .mv (.t 0), none⟩,
  ⟨(some 8), .call false 134 [(.t 7)], none⟩,
  ⟨(some 9), .una .not (.t 8), none⟩,
  ⟨(some 10), .mv (.t 9), none⟩,
  ⟨(some 11), .mv (.t 0), (some (10, false))⟩,
  ⟨(some 12), .bin .eql (.t 11) (.k (D.int .i64 (3))), (some (10, false))⟩,
  ⟨(some 13), .pick (.t 10) (.k (D.bool true)) (.t 12), none⟩,
  ⟨(some 14), .mv (.t 13), none⟩,
  ⟨(some 15), .mv (.t 1), (some (14, false))⟩,
  ⟨(some 16), .call false 369 [(.t 15)], (some (14, false))⟩,
  ⟨(some 17), .una .not (.t 16), (some (14, false))⟩,
  ⟨(some 18), .pick (.t 14) (.k (D.bool true)) (.t 17), none⟩,
  ⟨(some 19), .mv (.t 18), none⟩,
  ⟨(some 20), .mv (.t 2), (some (19, false))⟩,
  ⟨(some 21), .call false 369 [(.t 20)], (some (19, false))⟩,
  ⟨(some 22), .una .not (.t 21), (some (19, false))⟩,
  ⟨(some 23), .pick (.t 19) (.k (D.bool true)) (.t 22), none⟩])
 (.cond (.t 23)
 (.seq (.reg [⟨(some 6), .mv (.k .sn), none⟩])
 .ret)
 .skip))
 (.seq (.reg [⟨(some 24), .mv (.t 1), none⟩,
  ⟨(some 25), .call false 368 [(.t 24)], none⟩,
  ⟨(some 26), .bin .add (.k (D.str [27, 91])) (.t 25), none⟩,
  ⟨(some 27), .bin .add (.t 26) (.k (D.str [59])), none⟩,
  ⟨(some 28), .mv (.t 2), none⟩,
  ⟨(some 29), .call false 368 [(.t 28)], none⟩,
  ⟨(some 30), .bin .add (.t 27) (.t 29), none⟩,
  ⟨(some 31), .bin .add (.t 30) (.k (D.str [114])), none⟩,
  ⟨(some 32), .s2b (.t 31), none⟩,
  ⟨(some 6), .mv (.t 32), none⟩])
 .ret)))⟩
def a359 : Ann := ⟨[], [⟨true, 1, false⟩], []⟩
def s359 : SFun := ⟨1, 14, [], [(.tmp 2, ⟨true, 1, false⟩)],
 (.seq (.reg [⟨(some 2), .mv (.k .sn), none⟩])
 (.seq (.block 0 (.seq (.reg [⟨(some 4), .mv (.t 0), none⟩,
  ⟨(some 5), .call false 134 [(.t 4)], none⟩,
  ⟨(some 6), .una .not (.t 5), none⟩,
  ⟨(some 3), .mv (.t 6), none⟩])
 (.cond (.t 3)
 (.seq (.reg [⟨(some 2), .mv (.k .sn), none⟩])
 .ret)
 (.seq (.reg [⟨(some 8), .mv (.t 0), none⟩,
  ⟨(some 9), .bin .eql (.t 8) (.k (D.int .i64 (3))), none⟩,
  ⟨(some 7), .mv (.t 9), none⟩])
 (.cond (.t 7)
 (.seq (.reg [⟨(some 10), .bsl true 1 2 [(D.int .u8 (0))] [(0, (.k (D.int .u8 (27)))), (1, (.k (D.int .u8 (73))))], none⟩,
  ⟨(some 11), .cvb (.t 10), none⟩,
  ⟨(some 2), .mv (.t 11), none⟩])
 .ret)
 .skip)))))
 (.seq (.reg [⟨(some 12), .bsl true 1 2 [(D.int .u8 (0))] [(0, (.k (D.int .u8 (27)))), (1, (.k (D.int .u8 (77))))], none⟩,
  ⟨(some 13), .cvb (.t 12), none⟩,
  ⟨(some 2), .mv (.t 13), none⟩])
 .ret)))⟩
def a361 : Ann := ⟨[], [⟨true, 1, false⟩], []⟩
def s361 : SFun := ⟨1, 7, [], [(.tmp 2, ⟨true, 1, false⟩)],
 (.seq (.reg [⟨(some 2), .mv (.k .sn), none⟩])
 (.seq (.seq (.reg [⟨(some 3), .mv (.t 0), none⟩,
  ⟨(some 4), .call false 134 [(.t 3)], none⟩,
  ⟨(some 5), .una .not (.t 4), none⟩])
 (.cond (.t 5)
 (.seq (.reg [⟨(some 2), .mv (.k .sn), none⟩])
 .ret)
 .skip))
 (.seq (.reg [⟨(some 6), .bsl true 1 1 [(D.int .u8 (0))] [(0, (.k (D.int .u8 (10))))], none⟩,
  ⟨(some 2), .mv (.t 6), none⟩])
 .ret)))⟩
def a363 : Ann := ⟨[], [⟨true, 1, false⟩], []⟩
def s363 : SFun := ⟨3, 32, [], [(.tmp 6, ⟨true, 1, false⟩)],
 (.seq (.reg [⟨(some 6), .mv (.k .sn), none⟩])
 (.seq (.seq (.reg [⟨(some 7), .mv (.t 0), none⟩,
  ⟨(some 8), .call false 134 [(.t 7)], none⟩,
  ⟨(some 9), .una .not (.t 8), none⟩,
  ⟨(some 10), .mv (.t 9), none⟩,
  ⟨(some 11), .mv (.t 0), (some (10, false))⟩,
  ⟨(some 12), .bin .eql (.t 11) (.k (D.int .i64 (3))), (some (10, false))⟩,
  ⟨(some 13), .pick (.t 10) (.k (D.bool true)) (.t 12), none⟩,
  ⟨(some 14), .mv (.t 13), none⟩,
  ⟨(some 15), .mv (.t 1), (some (14, false))⟩,
  ⟨(some 16), .bin .neq (.t 15) (.k (D.int .i64 (7))), (some (14, false))⟩,
  ⟨(some 17), .mv (.t 16), (some (14, false))⟩,
  ⟨(some 18), .mv (.t 1), (some (17, true))⟩,
  ⟨(some 19), .bin .neq (.t 18) (.k (D.int .i64 (25))), (some (17, true))⟩,
  ⟨(some 20), .mv (.t 19), (some (17, true))⟩,
  ⟨(some 21), .mv (.t 0), (some (20, false))⟩,
  ⟨(some 22), .bin .neq (.t 21) (.k (D.int .i64 (2))), (some (20, false))⟩,
  ⟨(some 23), .pick (.t 20) (.k (D.bool true)) (.t 22), (some (17, true))⟩,
  ⟨(some 24), .pick (.t 17) (.t 23) (.k (D.bool false)), (some (14, false))⟩,
  ⟨(some 25), .pick (.t 14) (.k (D.bool true)) (.t 24), none⟩])
 (.cond (.t 25)
 (.seq (.reg [⟨(some 6), .mv (.k .sn), none⟩])
 .ret)
 .skip))
 (.seq (.reg [⟨(some 26), .mv (.t 2), none⟩,
  ⟨(some 27), .mv (.t 1), none⟩,
  ⟨(some 28), .bsl false 1 1 [(D.int .i64 (0))] [(0, (.t 27))], none⟩,
  ⟨(some 29), .call false 386 [(.k (D.int .u8 (63))), (.t 26), (.t 28)], none⟩,
  ⟨(some 30), .bsl false 7 1 [(D.int .i64 (0)), (D.int .i32 (0)), (D.int .u8 (0)), (D.int .u8 (0)), (D.int .u8 (0)), .sn, (D.str [])] [(0, (.t 29))], none⟩,
  ⟨(some 31), .call false 383 [(.t 30)], none⟩,
  ⟨(some 6), .mv (.t 31), none⟩])
 .ret)))⟩
def a360 : Ann := ⟨[], [⟨true, 1, false⟩], []⟩
def s360 : SFun := ⟨3, 41, [], [(.tmp 6, ⟨true, 1, false⟩)],
 (.seq (.reg [⟨(some 6), .mv (.k .sn), none⟩])
 (.seq (.reg [⟨(some 7), .mv (.k (D.str [74])), none⟩])
 (.seq (.seq (.reg [⟨(some 8), .mv (.t 2), none⟩])
 (.cond (.t 8)
 (.reg [⟨(some 7), .mv (.k (D.str [75])), none⟩])
 .skip))
 (.seq (.block 0 (.seq (.reg [⟨(some 10), .mv (.t 0), none⟩,
  ⟨(some 11), .call false 134 [(.t 10)], none⟩,
  ⟨(some 12), .una .not (.t 11), none⟩,
  ⟨(some 13), .mv (.t 12), none⟩,
  ⟨(some 14), .mv (.t 1), (some (13, false))⟩,
  ⟨(some 15), .bin .lss (.t 14) (.k (D.int .i64 (0))), (some (13, false))⟩,
  ⟨(some 16), .pick (.t 13) (.k (D.bool true)) (.t 15), none⟩,
  ⟨(some 17), .mv (.t 16), none⟩,
  ⟨(some 18), .mv (.t 1), (some (17, false))⟩,
  ⟨(some 19), .bin .gtr (.t 18) (.k (D.int .i64 (2))), (some (17, false))⟩,
  ⟨(some 20), .pick (.t 17) (.k (D.bool true)) (.t 19), none⟩,
  ⟨(some 21), .mv (.t 20), none⟩,
  ⟨(some 22), .mv (.t 0), (some (21, false))⟩,
  ⟨(some 23), .bin .eql (.t 22) (.k (D.int .i64 (3))), (some (21, false))⟩,
  ⟨(some 24), .mv (.t 23), (some (21, false))⟩,
  ⟨(some 25), .mv (.t 1), (some (24, true))⟩,
  ⟨(some 26), .bin .gtr (.t 25) (.k (D.int .i64 (0))), (some (24, true))⟩,
  ⟨(some 27), .pick (.t 24) (.t 26) (.k (D.bool false)), (some (21, false))⟩,
  ⟨(some 28), .pick (.t 21) (.k (D.bool true)) (.t 27), none⟩,
  ⟨(some 9), .mv (.t 28), none⟩])
 (.cond (.t 9)
 (.seq (.reg [⟨(some 6), .mv (.k .sn), none⟩])
 .ret)
 (.seq (.reg [⟨(some 30), .mv (.t 0), none⟩,
  ⟨(some 31), .bin .eql (.t 30) (.k (D.int .i64 (3))), none⟩,
  ⟨(some 29), .mv (.t 31), none⟩])
 (.cond (.t 29)
 (.seq (.reg [⟨(some 32), .mv (.t 7), none⟩,
  ⟨(some 33), .bin .add (.k (D.str [27])) (.t 32), none⟩,
  ⟨(some 34), .s2b (.t 33), none⟩,
  ⟨(some 6), .mv (.t 34), none⟩])
 .ret)
 .skip)))))
 (.seq (.reg [⟨(some 35), .mv (.t 1), none⟩,
  ⟨(some 36), .call false 466 [(.t 35)], none⟩,
  ⟨(some 37), .bin .add (.k (D.str [27, 91])) (.t 36), none⟩,
  ⟨(some 38), .mv (.t 7), none⟩,
  ⟨(some 39), .bin .add (.t 37) (.t 38), none⟩,
  ⟨(some 40), .s2b (.t 39), none⟩,
  ⟨(some 6), .mv (.t 40), none⟩])
 .ret)))))⟩
def a116 : Ann := ⟨[], [⟨false, 0, false⟩], []⟩
def s116 : SFun := ⟨1, 22, [], [(.tmp 2, ⟨false, 0, false⟩)],
 (.seq (.reg [⟨(some 2), .mv (.k (D.int .u8 (0))), none⟩])
 (.seq (.seq (.reg [⟨(some 5), .mv (.t 0), none⟩,
  ⟨(some 6), .bin .geq (.t 5) (.k (D.int .i32 (32))), none⟩,
  ⟨(some 7), .mv (.t 6), none⟩,
  ⟨(some 8), .mv (.t 0), (some (7, true))⟩,
  ⟨(some 9), .bin .leq (.t 8) (.k (D.int .i32 (126))), (some (7, true))⟩,
  ⟨(some 10), .pick (.t 7) (.t 9) (.k (D.bool false)), none⟩])
 (.cond (.t 10)
 (.seq (.reg [⟨(some 11), .mv (.t 0), none⟩,
  ⟨(some 12), .cvi .u8 (.t 11), none⟩,
  ⟨(some 2), .mv (.t 12), none⟩])
 .ret)
 .skip))
 (.seq (.seq (.reg [⟨(some 14), .mv (.t 0), none⟩,
  ⟨(some 15), .call false 117 [(.t 14)], none⟩,
  ⟨(some 13), .mv (.t 15), none⟩,
  ⟨(some 16), .ext (.t 13) 0, none⟩,
  ⟨(some 17), .ext (.t 13) 1, none⟩,
  ⟨(some 3), .mv (.t 16), none⟩,
  ⟨(some 4), .mv (.t 17), none⟩])
 (.seq (.reg [⟨(some 18), .mv (.t 4), none⟩])
 (.cond (.t 18)
 (.seq (.reg [⟨(some 19), .mv (.t 3), none⟩,
  ⟨(some 20), .bin .sub (.t 19) (.k (D.int .u8 (96))), none⟩,
  ⟨(some 21), .ixt (.k (D.str [42, 35, 72, 70, 67, 76, 111, 43, 78, 86, 43, 43, 43, 43, 43, 45, 45, 45, 45, 95, 43, 43, 43, 43, 124, 60, 62, 112, 33, 76, 46])) (.t 20), none⟩,
  ⟨(some 2), .mv (.t 21), none⟩])
 .ret)
 .skip)))
 (.seq (.reg [⟨(some 2), .mv (.k (D.int .u8 (63))), none⟩])
 .ret))))⟩
def a331 : Ann := ⟨[], [⟨false, 0, false⟩], []⟩
def s331 : SFun := ⟨2, 25, [], [(.tmp 4, ⟨false, 0, false⟩)],
 (.seq (.reg [⟨(some 4), .mv (.k (D.int .i32 (0))), none⟩])
 (.seq (.seq (.reg [⟨(some 8), .mv (.t 1), none⟩,
  ⟨(some 9), .call false 117 [(.t 8)], none⟩,
  ⟨(some 7), .mv (.t 9), none⟩,
  ⟨(some 10), .ext (.t 7) 0, none⟩,
  ⟨(some 11), .ext (.t 7) 1, none⟩,
  ⟨(some 5), .mv (.t 10), none⟩,
  ⟨(some 6), .mv (.t 11), none⟩])
 (.seq (.reg [⟨(some 12), .mv (.t 6), none⟩,
  ⟨(some 13), .mv (.t 12), none⟩,
  ⟨(some 14), .mv (.t 0), (some (13, true))⟩,
  ⟨(some 15), .bin .eql (.t 14) (.k (D.int .i64 (1))), (some (13, true))⟩,
  ⟨(some 16), .mv (.t 15), (some (13, true))⟩,
  ⟨(some 17), .mv (.t 0), (some (16, false))⟩,
  ⟨(some 18), .bin .eql (.t 17) (.k (D.int .i64 (2))), (some (16, false))⟩,
  ⟨(some 19), .pick (.t 16) (.k (D.bool true)) (.t 18), (some (13, true))⟩,
  ⟨(some 20), .pick (.t 13) (.t 19) (.k (D.bool false)), none⟩])
 (.cond (.t 20)
 (.seq (.reg [⟨(some 21), .mv (.t 1), none⟩,
  ⟨(some 4), .mv (.t 21), none⟩])
 .ret)
 .skip)))
 (.seq (.reg [⟨(some 22), .mv (.t 1), none⟩,
  ⟨(some 23), .call false 116 [(.t 22)], none⟩,
  ⟨(some 24), .cvi .i32 (.t 23), none⟩,
  ⟨(some 4), .mv (.t 24), none⟩])
 .ret)))⟩
def a367 : Ann := ⟨[], [⟨true, 1, false⟩], []⟩
def s367 : SFun := ⟨2, 28, [], [(.tmp 4, ⟨true, 1, false⟩)],
 (.seq (.reg [⟨(some 4), .mv (.k .sn), none⟩])
 (.seq (.seq (.reg [⟨(some 7), .mv (.t 0), none⟩,
  ⟨(some 8), .call false 134 [(.t 7)], none⟩,
  ⟨(some 9), .una .not (.t 8), none⟩,
  ⟨(some 10), .mv (.t 9), none⟩,
  ⟨(some 11), .mv (.t 0), (some (10, false))⟩,
  ⟨(some 12), .mv (.t 1), (some (10, false))⟩,
  ⟨(some 13), .call false 331 [(.t 11), (.t 12)], (some (10, false))⟩,
  ⟨(some 14), .mv (.t 1), (some (10, false))⟩,
  ⟨(some 15), .bin .neq (.t 13) (.t 14), (some (10, false))⟩,
  ⟨(some 16), .pick (.t 10) (.k (D.bool true)) (.t 15), none⟩])
 (.cond (.t 16)
 (.seq (.reg [⟨(some 4), .mv (.k .sn), none⟩])
 .ret)
 .skip))
 (.seq (.seq (.reg [⟨(some 18), .mv (.t 1), none⟩,
  ⟨(some 19), .call false 117 [(.t 18)], none⟩,
  ⟨(some 17), .mv (.t 19), none⟩,
  ⟨(some 20), .ext (.t 17) 0, none⟩,
  ⟨(some 21), .ext (.t 17) 1, none⟩,
  ⟨(some 5), .mv (.t 20), none⟩,
  ⟨(some 6), .mv (.t 21), none⟩])
 (.seq (.reg [⟨(some 22), .mv (.t 6), none⟩])
 (.cond (.t 22)
 (.seq (.reg [⟨(some 23), .mv (.t 5), none⟩,
  ⟨(some 24), .bsl true 1 7 [(D.int .u8 (0))] [(0, (.k (D.int .u8 (27)))), (1, (.k (D.int .u8 (40)))), (2, (.k (D.int .u8 (48)))), (3, (.t 23)), (4, (.k (D.int .u8 (27)))), (5, (.k (D.int .u8 (40)))), (6, (.k (D.int .u8 (66))))], none⟩,
  ⟨(some 4), .mv (.t 24), none⟩])
 .ret)
 .skip)))
 (.seq (.reg [⟨(some 25), .mv (.t 1), none⟩,
  ⟨(some 26), .cvi .u8 (.t 25), none⟩,
  ⟨(some 27), .bsl true 1 1 [(D.int .u8 (0))] [(0, (.t 26))], none⟩,
  ⟨(some 4), .mv (.t 27), none⟩])
 .ret))))⟩
def a213 : Ann := ⟨[], [⟨false, 0, false⟩], []⟩
def s213 : SFun := ⟨0, 19, [], [(.tmp 0, ⟨false, 0, false⟩)],
 (.seq (.reg [⟨(some 0), .mv (.k (D.bool false)), none⟩])
 (.seq (.reg [⟨(some 1), .call false 364 [(.k (D.int .i64 (1))), (.k (D.int .i64 (2))), (.k (D.int .i64 (3)))], none⟩,
  ⟨(some 2), .b2s (.t 1), none⟩,
  ⟨(some 3), .bin .eql (.t 2) (.k (D.str [27, 91, 51, 59, 52, 72])), none⟩,
  ⟨(some 4), .mv (.t 3), none⟩,
  ⟨(some 5), .call false 364 [(.k (D.int .i64 (3))), (.k (D.int .i64 (2))), (.k (D.int .i64 (3)))], (some (4, true))⟩,
  ⟨(some 6), .b2s (.t 5), (some (4, true))⟩,
  ⟨(some 7), .bin .eql (.t 6) (.k (D.str [27, 89, 34, 35])), (some (4, true))⟩,
  ⟨(some 8), .pick (.t 4) (.t 7) (.k (D.bool false)), none⟩,
  ⟨(some 9), .mv (.t 8), none⟩,
  ⟨(some 10), .call false 367 [(.k (D.int .i64 (2))), (.k (D.int .i32 (9472)))], (some (9, true))⟩,
  ⟨(some 11), .b2s (.t 10), (some (9, true))⟩,
  ⟨(some 12), .bin .eql (.t 11) (.k (D.str [27, 40, 48, 113, 27, 40, 66])), (some (9, true))⟩,
  ⟨(some 13), .pick (.t 9) (.t 12) (.k (D.bool false)), none⟩,
  ⟨(some 14), .mv (.t 13), none⟩,
  ⟨(some 15), .call false 359 [(.k (D.int .i64 (3)))], (some (14, true))⟩,
  ⟨(some 16), .b2s (.t 15), (some (14, true))⟩,
  ⟨(some 17), .bin .eql (.t 16) (.k (D.str [27, 73])), (some (14, true))⟩,
  ⟨(some 18), .pick (.t 14) (.t 17) (.k (D.bool false)), none⟩,
  ⟨(some 0), .mv (.t 18), none⟩])
 .ret))⟩
def a214 : Ann := ⟨[], [⟨false, 0, false⟩], []⟩
def s214 : SFun := ⟨6, 214, [], [(.tmp 12, ⟨false, 0, false⟩)],
 (.seq (.reg [⟨(some 12), .mv (.k (D.bool false)), none⟩])
 (.seq (.reg [⟨(some 31), .mv (.t 0), none⟩,
  ⟨(some 32), .call false 174 [(.t 31), (.k (D.int .i64 (0))), (.k (D.int .i64 (4)))], none⟩,
  ⟨(some 13), .mv (.t 32), none⟩])
 (.seq (.reg [⟨(some 33), .mv (.t 1), none⟩,
  ⟨(some 34), .call false 174 [(.t 33), (.k (D.int .i64 (0))), (.k (D.int .i64 (90)))], none⟩,
  ⟨(some 35), .mv (.t 2), none⟩,
  ⟨(some 36), .call false 174 [(.t 35), (.k (D.int .i64 (0))), (.k (D.int .i64 (90)))], none⟩,
  ⟨(some 14), .mv (.t 34), none⟩,
  ⟨(some 15), .mv (.t 36), none⟩])
 (.seq (.reg [⟨(some 37), .mv (.t 13), none⟩,
  ⟨(some 38), .bin .eql (.t 37) (.k (D.int .i64 (3))), none⟩,
  ⟨(some 39), .mv (.t 13), none⟩,
  ⟨(some 40), .bin .geq (.t 39) (.k (D.int .i64 (1))), none⟩,
  ⟨(some 41), .mv (.t 40), none⟩,
  ⟨(some 42), .mv (.t 13), (some (41, true))⟩,
  ⟨(some 43), .bin .leq (.t 42) (.k (D.int .i64 (3))), (some (41, true))⟩,
  ⟨(some 44), .pick (.t 41) (.t 43) (.k (D.bool false)), none⟩,
  ⟨(some 16), .mv (.t 38), none⟩,
  ⟨(some 17), .mv (.t 44), none⟩])
 (.seq (.reg [⟨(some 45), .mv (.t 17), none⟩,
  ⟨(some 46), .mv (.t 45), none⟩,
  ⟨(some 47), .mv (.t 16), (some (46, true))⟩,
  ⟨(some 48), .una .not (.t 47), (some (46, true))⟩,
  ⟨(some 49), .pick (.t 46) (.t 48) (.k (D.bool false)), none⟩,
  ⟨(some 18), .mv (.t 49), none⟩])
 (.seq (.reg [⟨(some 19), .mv (.k (D.str [])), none⟩,
  ⟨(some 20), .mv (.k (D.str [])), none⟩,
  ⟨(some 21), .mv (.k (D.str [])), none⟩])
 (.seq (.seq (.reg [⟨(some 50), .mv (.t 18), none⟩])
 (.cond (.t 50)
 (.reg [⟨(some 51), .mv (.t 14), none⟩,
  ⟨(some 52), .bin .add (.t 51) (.k (D.int .i64 (1))), none⟩,
  ⟨(some 53), .call false 176 [(.t 52)], none⟩,
  ⟨(some 54), .bin .add (.k (D.str [27, 91])) (.t 53), none⟩,
  ⟨(some 55), .bin .add (.t 54) (.k (D.str [59])), none⟩,
  ⟨(some 56), .mv (.t 15), none⟩,
  ⟨(some 57), .bin .add (.t 56) (.k (D.int .i64 (1))), none⟩,
  ⟨(some 58), .call false 176 [(.t 57)], none⟩,
  ⟨(some 59), .bin .add (.t 55) (.t 58), none⟩,
  ⟨(some 60), .bin .add (.t 59) (.k (D.str [72])), none⟩,
  ⟨(some 61), .mv (.t 14), none⟩,
  ⟨(some 62), .bin .add (.t 61) (.k (D.int .i64 (1))), none⟩,
  ⟨(some 63), .call false 176 [(.t 62)], none⟩,
  ⟨(some 64), .bin .add (.k (D.str [27, 91])) (.t 63), none⟩,
  ⟨(some 65), .bin .add (.t 64) (.k (D.str [59])), none⟩,
  ⟨(some 66), .mv (.t 15), none⟩,
  ⟨(some 67), .bin .add (.t 66) (.k (D.int .i64 (1))), none⟩,
  ⟨(some 68), .call false 176 [(.t 67)], none⟩,
  ⟨(some 69), .bin .add (.t 65) (.t 68), none⟩,
  ⟨(some 70), .bin .add (.t 69) (.k (D.str [114])), none⟩,
  ⟨(some 19), .mv (.t 60), none⟩,
  ⟨(some 20), .mv (.t 70), none⟩,
  ⟨(some 21), .mv (.k (D.str [27, 77])), none⟩])
 .skip))
 (.seq (.reg [⟨(some 22), .mv (.k (D.str [])), none⟩])
 (.seq (.seq (.reg [⟨(some 71), .mv (.t 17), none⟩])
 (.cond (.t 71)
 (.reg [⟨(some 22), .mv (.k (D.str [10])), none⟩])
 .skip))
 (.seq (.seq (.reg [⟨(some 72), .mv (.t 16), none⟩])
 (.cond (.t 72)
 (.reg [⟨(some 73), .mv (.t 14), none⟩,
  ⟨(some 74), .bin .add (.k (D.int .i64 (32))) (.t 73), none⟩,
  ⟨(some 75), .cvi .u8 (.t 74), none⟩,
  ⟨(some 76), .mv (.t 15), none⟩,
  ⟨(some 77), .bin .add (.k (D.int .i64 (32))) (.t 76), none⟩,
  ⟨(some 78), .cvi .u8 (.t 77), none⟩,
  ⟨(some 79), .bsl true 1 4 [(D.int .u8 (0))] [(0, (.k (D.int .u8 (27)))), (1, (.k (D.int .u8 (89)))), (2, (.t 75)), (3, (.t 78))], none⟩,
  ⟨(some 80), .b2s (.t 79), none⟩,
  ⟨(some 19), .mv (.t 80), none⟩,
  ⟨(some 21), .mv (.k (D.str [27, 73])), none⟩])
 .skip))
 (.seq (.reg [⟨(some 81), .bsl false 1 4 [(D.int .i64 (0))] [(0, (.k (D.int .i64 (7)))), (1, (.k (D.int .i64 (25)))), (2, (.k (D.int .i64 (6)))), (3, (.k (D.int .i64 (1))))], none⟩,
  ⟨(some 82), .mv (.t 3), none⟩,
  ⟨(some 83), .call false 174 [(.t 82), (.k (D.int .i64 (0))), (.k (D.int .i64 (3)))], none⟩,
  ⟨(some 84), .ixs 1 (.t 81) (.t 83), none⟩,
  ⟨(some 85), .load false 1 (.t 84), none⟩,
  ⟨(some 23), .mv (.t 85), none⟩])
 (.seq (.reg [⟨(some 24), .mv (.k (D.str [])), none⟩])
 (.seq (.seq (.reg [⟨(some 86), .mv (.t 18), none⟩,
  ⟨(some 87), .mv (.t 86), none⟩,
  ⟨(some 88), .mv (.t 23), (some (87, true))⟩,
  ⟨(some 89), .bin .eql (.t 88) (.k (D.int .i64 (7))), (some (87, true))⟩,
  ⟨(some 90), .mv (.t 89), (some (87, true))⟩,
  ⟨(some 91), .mv (.t 23), (some (90, false))⟩,
  ⟨(some 92), .bin .eql (.t 91) (.k (D.int .i64 (25))), (some (90, false))⟩,
  ⟨(some 93), .mv (.t 92), (some (90, false))⟩,
  ⟨(some 94), .mv (.t 13), (some (93, true))⟩,
  ⟨(some 95), .bin .eql (.t 94) (.k (D.int .i64 (2))), (some (93, true))⟩,
  ⟨(some 96), .pick (.t 93) (.t 95) (.k (D.bool false)), (some (90, false))⟩,
  ⟨(some 97), .pick (.t 90) (.k (D.bool true)) (.t 96), (some (87, true))⟩,
  ⟨(some 98), .pick (.t 87) (.t 97) (.k (D.bool false)), none⟩])
 (.cond (.t 98)
 (.seq (.reg [⟨(some 99), .mv (.t 23), none⟩,
  ⟨(some 100), .call false 176 [(.t 99)], none⟩,
  ⟨(some 101), .bin .add (.k (D.str [27, 91, 63])) (.t 100), none⟩,
  ⟨(some 102), .bin .add (.t 101) (.k (D.str [108])), none⟩,
  ⟨(some 24), .mv (.t 102), none⟩])
 (.seq (.reg [⟨(some 103), .mv (.t 5), none⟩])
 (.cond (.t 103)
 (.reg [⟨(some 104), .mv (.t 23), none⟩,
  ⟨(some 105), .call false 176 [(.t 104)], none⟩,
  ⟨(some 106), .bin .add (.k (D.str [27, 91, 63])) (.t 105), none⟩,
  ⟨(some 107), .bin .add (.t 106) (.k (D.str [104])), none⟩,
  ⟨(some 24), .mv (.t 107), none⟩])
 .skip)))
 .skip))
 (.seq (.reg [⟨(some 108), .mv (.t 3), none⟩,
  ⟨(some 109), .call false 174 [(.t 108), (.k (D.int .i64 (-1))), (.k (D.int .i64 (3)))], none⟩,
  ⟨(some 25), .mv (.t 109), none⟩])
 (.seq (.reg [⟨(some 26), .mv (.k (D.str [])), none⟩])
 (.seq (.reg [⟨(some 27), .mv (.k (D.str [74])), none⟩])
 (.seq (.seq (.reg [⟨(some 110), .mv (.t 5), none⟩])
 (.cond (.t 110)
 (.reg [⟨(some 27), .mv (.k (D.str [75])), none⟩])
 .skip))
 (.seq (.seq (.reg [⟨(some 111), .mv (.t 18), none⟩,
  ⟨(some 112), .mv (.t 111), none⟩,
  ⟨(some 113), .mv (.t 25), (some (112, true))⟩,
  ⟨(some 114), .bin .geq (.t 113) (.k (D.int .i64 (0))), (some (112, true))⟩,
  ⟨(some 115), .pick (.t 112) (.t 114) (.k (D.bool false)), none⟩,
  ⟨(some 116), .mv (.t 115), none⟩,
  ⟨(some 117), .mv (.t 25), (some (116, true))⟩,
  ⟨(some 118), .bin .leq (.t 117) (.k (D.int .i64 (2))), (some (116, true))⟩,
  ⟨(some 119), .pick (.t 116) (.t 118) (.k (D.bool false)), none⟩])
 (.cond (.t 119)
 (.reg [⟨(some 120), .mv (.t 25), none⟩,
  ⟨(some 121), .call false 176 [(.t 120)], none⟩,
  ⟨(some 122), .bin .add (.k (D.str [27, 91])) (.t 121), none⟩,
  ⟨(some 123), .mv (.t 27), none⟩,
  ⟨(some 124), .bin .add (.t 122) (.t 123), none⟩,
  ⟨(some 26), .mv (.t 124), none⟩])
 .skip))
 (.seq (.seq (.reg [⟨(some 125), .mv (.t 16), none⟩,
  ⟨(some 126), .mv (.t 125), none⟩,
  ⟨(some 127), .mv (.t 25), (some (126, true))⟩,
  ⟨(some 128), .bin .eql (.t 127) (.k (D.int .i64 (0))), (some (126, true))⟩,
  ⟨(some 129), .pick (.t 126) (.t 128) (.k (D.bool false)), none⟩])
 (.cond (.t 129)
 (.reg [⟨(some 130), .mv (.t 27), none⟩,
  ⟨(some 131), .bin .add (.k (D.str [27])) (.t 130), none⟩,
  ⟨(some 26), .mv (.t 131), none⟩])
 .skip))
 (.seq (.reg [⟨(some 28), .mv (.k (D.str [])), none⟩])
 (.seq (.seq (.reg [⟨(some 132), .mv (.t 17), none⟩,
  ⟨(some 133), .mv (.t 132), none⟩,
  ⟨(some 134), .mv (.t 13), (some (133, true))⟩,
  ⟨(some 135), .mv (.t 4), (some (133, true))⟩,
  ⟨(some 136), .call false 266 [(.t 134), (.t 135)], (some (133, true))⟩,
  ⟨(some 137), .mv (.t 4), (some (133, true))⟩,
  ⟨(some 138), .bin .eql (.t 136) (.t 137), (some (133, true))⟩,
  ⟨(some 139), .pick (.t 133) (.t 138) (.k (D.bool false)), none⟩])
 (.cond (.t 139)
 (.seq (.reg [⟨(some 140), .mv (.t 4), none⟩,
  ⟨(some 141), .cvi .u8 (.t 140), none⟩,
  ⟨(some 142), .bsl true 1 1 [(D.int .u8 (0))] [(0, (.t 141))], none⟩,
  ⟨(some 143), .b2s (.t 142), none⟩,
  ⟨(some 28), .mv (.t 143), none⟩])
 (.seq (.reg [⟨(some 145), .mv (.t 4), none⟩,
  ⟨(some 146), .call false 117 [(.t 145)], none⟩,
  ⟨(some 144), .mv (.t 146), none⟩,
  ⟨(some 147), .ext (.t 144) 0, none⟩,
  ⟨(some 148), .ext (.t 144) 1, none⟩,
  ⟨(some 29), .mv (.t 147), none⟩,
  ⟨(some 30), .mv (.t 148), none⟩])
 (.seq (.reg [⟨(some 149), .mv (.t 30), none⟩])
 (.cond (.t 149)
 (.reg [⟨(some 150), .mv (.t 29), none⟩,
  ⟨(some 151), .bsl true 1 1 [(D.int .u8 (0))] [(0, (.t 150))], none⟩,
  ⟨(some 152), .b2s (.t 151), none⟩,
  ⟨(some 153), .bin .add (.k (D.str [27, 40, 48])) (.t 152), none⟩,
  ⟨(some 154), .bin .add (.t 153) (.k (D.str [27, 40, 66])), none⟩,
  ⟨(some 28), .mv (.t 154), none⟩])
 .skip))))
 .skip))
 (.seq (.reg [⟨(some 155), .mv (.t 13), none⟩,
  ⟨(some 156), .mv (.t 14), none⟩,
  ⟨(some 157), .mv (.t 15), none⟩,
  ⟨(some 158), .call false 364 [(.t 155), (.t 156), (.t 157)], none⟩,
  ⟨(some 159), .b2s (.t 158), none⟩,
  ⟨(some 160), .mv (.t 19), none⟩,
  ⟨(some 161), .bin .eql (.t 159) (.t 160), none⟩,
  ⟨(some 162), .mv (.t 161), none⟩,
  ⟨(some 163), .mv (.t 13), (some (162, true))⟩,
  ⟨(some 164), .mv (.t 14), (some (162, true))⟩,
  ⟨(some 165), .mv (.t 15), (some (162, true))⟩,
  ⟨(some 166), .call false 362 [(.t 163), (.t 164), (.t 165)], (some (162, true))⟩,
  ⟨(some 167), .b2s (.t 166), (some (162, true))⟩,
  ⟨(some 168), .mv (.t 20), (some (162, true))⟩,
  ⟨(some 169), .bin .eql (.t 167) (.t 168), (some (162, true))⟩,
  ⟨(some 170), .pick (.t 162) (.t 169) (.k (D.bool false)), none⟩,
  ⟨(some 171), .mv (.t 170), none⟩,
  ⟨(some 172), .mv (.t 13), (some (171, true))⟩,
  ⟨(some 173), .call false 359 [(.t 172)], (some (171, true))⟩,
  ⟨(some 174), .b2s (.t 173), (some (171, true))⟩,
  ⟨(some 175), .mv (.t 21), (some (171, true))⟩,
  ⟨(some 176), .bin .eql (.t 174) (.t 175), (some (171, true))⟩,
  ⟨(some 177), .pick (.t 171) (.t 176) (.k (D.bool false)), none⟩,
  ⟨(some 178), .mv (.t 177), none⟩,
  ⟨(some 179), .mv (.t 13), (some (178, true))⟩,
  ⟨(some 180), .call false 361 [(.t 179)], (some (178, true))⟩,
  ⟨(some 181), .b2s (.t 180), (some (178, true))⟩,
  ⟨(some 182), .mv (.t 22), (some (178, true))⟩,
  ⟨(some 183), .bin .eql (.t 181) (.t 182), (some (178, true))⟩,
  ⟨(some 184), .pick (.t 178) (.t 183) (.k (D.bool false)), none⟩,
  ⟨(some 185), .mv (.t 184), none⟩,
  ⟨(some 186), .mv (.t 13), (some (185, true))⟩,
  ⟨(some 187), .mv (.t 23), (some (185, true))⟩,
  ⟨(some 188), .mv (.t 5), (some (185, true))⟩,
  ⟨(some 189), .call false 363 [(.t 186), (.t 187), (.t 188)], (some (185, true))⟩,
  ⟨(some 190), .b2s (.t 189), (some (185, true))⟩,
  ⟨(some 191), .mv (.t 24), (some (185, true))⟩,
  ⟨(some 192), .bin .eql (.t 190) (.t 191), (some (185, true))⟩,
  ⟨(some 193), .pick (.t 185) (.t 192) (.k (D.bool false)), none⟩,
  ⟨(some 194), .mv (.t 193), none⟩,
  ⟨(some 195), .mv (.t 13), (some (194, true))⟩,
  ⟨(some 196), .mv (.t 25), (some (194, true))⟩,
  ⟨(some 197), .mv (.t 5), (some (194, true))⟩,
  ⟨(some 198), .call false 360 [(.t 195), (.t 196), (.t 197)], (some (194, true))⟩,
  ⟨(some 199), .b2s (.t 198), (some (194, true))⟩,
  ⟨(some 200), .mv (.t 26), (some (194, true))⟩,
  ⟨(some 201), .bin .eql (.t 199) (.t 200), (some (194, true))⟩,
  ⟨(some 202), .pick (.t 194) (.t 201) (.k (D.bool false)), none⟩,
  ⟨(some 203), .mv (.t 202), none⟩,
  ⟨(some 204), .mv (.t 13), (some (203, true))⟩,
  ⟨(some 205), .mv (.t 4), (some (203, true))⟩,
  ⟨(some 206), .call false 367 [(.t 204), (.t 205)], (some (203, true))⟩,
  ⟨(some 207), .b2s (.t 206), (some (203, true))⟩,
  ⟨(some 208), .mv (.t 28), (some (203, true))⟩,
  ⟨(some 209), .bin .eql (.t 207) (.t 208), (some (203, true))⟩,
  ⟨(some 210), .pick (.t 203) (.t 209) (.k (D.bool false)), none⟩,
  ⟨(some 211), .mv (.t 210), none⟩,
  ⟨(some 212), .call false 213 [], (some (211, true))⟩,
  ⟨(some 213), .pick (.t 211) (.t 212) (.k (D.bool false)), none⟩,
  ⟨(some 12), .mv (.t 213), none⟩])
 .ret))))))))))))))))))))))⟩
def ns : List Nat := [441, 86, 87, 200, 237, 214, 66, 63, 174, 382, 265, 356, 355, 199, 386, 381, 172, 240, 176, 266, 117, 364, 362, 359, 361, 363, 360, 367, 213, 64, 65, 457, 450, 276, 358, 357, 336, 372, 383, 385, 244, 248, 464, 115, 134, 369, 368, 466, 331, 181, 180, 151, 107, 419, 384, 388, 255, 95, 116, 465, 106, 422, 387, 390, 394, 391, 398, 392, 395, 431, 100396, 389, 94, 443, 469, 393, 453, 433, 100456, 397, 471, 102, 101, 97, 98, 444, 445, 104, 461, 434, 460, 51, 55, 53, 100, 442, 96, 99, 446, 91, 56, 57, 447, 448, 89, 93, 78, 79, 82, 83, 84, 85, 80, 81, 49, 50, 47, 48, 0, 60, 61, 52, 59, 484, 485, 486, 487, 488, 88]
theorem nsND : ns.Nodup := by decide +kernel
def tab : List Row := [⟨174, 8, false, a174, .fn s174⟩, ⟨457, 31, false, a457, .fn s457⟩, ⟨450, 32, false, a450, .nil n450⟩, ⟨382, 9, true, a382, .fn s382⟩, ⟨386, 14, true, a386, .fn s386⟩, ⟨381, 15, false, a381, .fn s381⟩, ⟨172, 16, false, a172, .fn s172⟩, ⟨387, 62, false, a387, .fn s387⟩, ⟨398, 66, false, a398, .fn s398⟩, ⟨390, 63, false, a390, .fn s390⟩, ⟨394, 64, false, a394, .fn s394⟩, ⟨391, 65, false, a391, .fn s391⟩, ⟨461, 88, false, a461, .fn s461⟩, ⟨453, 76, false, a453, .fn s453⟩, ⟨393, 75, false, a393, .fn s393⟩, ⟨392, 67, false, a392, .fn s392⟩, ⟨395, 68, false, a395, .fn s395⟩, ⟨384, 54, false, a384, .fn s384⟩, ⟨434, 89, false, a434, .fn s434⟩, ⟨433, 77, false, a433, .fn s433⟩, ⟨431, 69, false, a431, .fn s431⟩, ⟨460, 90, false, a460, .fn s460⟩, ⟨100456, 78, true, a100456, .own s100456⟩, ⟨397, 79, false, a397, .fn s397⟩, ⟨100396, 70, true, a100396, .own s100396⟩, ⟨102, 81, false, a102, .fn s102⟩, ⟨442, 95, false, a442, .fn s442⟩, ⟨100, 94, false, a100, .fn s100⟩, ⟨96, 96, false, a96, .fn s96⟩, ⟨101, 82, false, a101, .fn s101⟩, ⟨97, 83, false, a97, .fn s97⟩, ⟨99, 97, false, a99, .fn s99⟩, ⟨447, 102, false, a447, .fn s447⟩, ⟨448, 103, false, a448, .fn s448⟩, ⟨446, 98, false, a446, .fn s446⟩, ⟨98, 84, false, a98, .fn s98⟩, ⟨94, 72, false, a94, .fn s94⟩, ⟨95, 57, false, a95, .fn s95⟩, ⟨466, 47, false, a466, .fn s466⟩, ⟨389, 71, false, a389, .fn s389⟩, ⟨388, 55, false, a388, .fn s388⟩, ⟨383, 38, false, a383, .fn s383⟩, ⟨385, 39, false, a385, .fn s385⟩, ⟨240, 17, false, a240, .fn s240⟩, ⟨237, 4, false, a237, .fn s237⟩, ⟨176, 18, false, a176, .fn s176⟩, ⟨244, 40, false, a244, .fn s244⟩, ⟨255, 56, false, a255, .fn s255⟩, ⟨248, 41, false, a248, .fn s248⟩, ⟨266, 19, false, a266, .fn s266⟩, ⟨115, 43, false, a115, .fn s115⟩, ⟨464, 42, false, a464, .fn s464⟩, ⟨117, 20, false, a117, .fn s117⟩, ⟨134, 44, false, a134, .fn s134⟩, ⟨369, 45, false, a369, .fn s369⟩, ⟨368, 46, false, a368, .fn s368⟩, ⟨364, 21, false, a364, .fn s364⟩, ⟨362, 22, false, a362, .fn s362⟩, ⟨359, 23, false, a359, .fn s359⟩, ⟨361, 24, false, a361, .fn s361⟩, ⟨363, 25, false, a363, .fn s363⟩, ⟨360, 26, false, a360, .fn s360⟩, ⟨116, 58, false, a116, .fn s116⟩, ⟨331, 48, false, a331, .fn s331⟩, ⟨367, 27, false, a367, .fn s367⟩, ⟨213, 28, false, a213, .fn s213⟩, ⟨214, 5, false, a214, .fn s214⟩, ⟨469, 74, false, ⟨[], [], []⟩, .ext ixbM⟩, ⟨471, 80, false, ⟨[], [], []⟩, .ext joinM⟩]
theorem ok174 : RowOK Tryd.prog ns ⟨174, 8, false, a174, .fn s174⟩ := ⟨by kernel_rfl, by kernel_rfl, by show compF Tryd.prog (numOf ns) a174 8 = some s174; kernel_rfl⟩
theorem ok457 : RowOK Tryd.prog ns ⟨457, 31, false, a457, .fn s457⟩ := ⟨by kernel_rfl, by kernel_rfl, by show compF Tryd.prog (numOf ns) a457 31 = some s457; kernel_rfl⟩
theorem ok450 : RowOK Tryd.prog ns ⟨450, 32, false, a450, .nil n450⟩ := ⟨by kernel_rfl, by kernel_rfl, by show compN Tryd.prog (numOf ns) a450 32 = some n450; kernel_rfl⟩
theorem ok382 : RowOK Tryd.prog ns ⟨382, 9, true, a382, .fn s382⟩ := ⟨by kernel_rfl, by kernel_rfl, by show compF Tryd.prog (numOf ns) a382 9 = some s382; kernel_rfl⟩
theorem ok386 : RowOK Tryd.prog ns ⟨386, 14, true, a386, .fn s386⟩ := ⟨by kernel_rfl, by kernel_rfl, by show compF Tryd.prog (numOf ns) a386 14 = some s386; kernel_rfl⟩
theorem ok381 : RowOK Tryd.prog ns ⟨381, 15, false, a381, .fn s381⟩ := ⟨by kernel_rfl, by kernel_rfl, by show compF Tryd.prog (numOf ns) a381 15 = some s381; kernel_rfl⟩
theorem ok172 : RowOK Tryd.prog ns ⟨172, 16, false, a172, .fn s172⟩ := ⟨by kernel_rfl, by kernel_rfl, by show compF Tryd.prog (numOf ns) a172 16 = some s172; kernel_rfl⟩
theorem ok387 : RowOK Tryd.prog ns ⟨387, 62, false, a387, .fn s387⟩ := ⟨by kernel_rfl, by kernel_rfl, by show compF Tryd.prog (numOf ns) a387 62 = some s387; kernel_rfl⟩
theorem ok398 : RowOK Tryd.prog ns ⟨398, 66, false, a398, .fn s398⟩ := ⟨by kernel_rfl, by kernel_rfl, by show compF Tryd.prog (numOf ns) a398 66 = some s398; kernel_rfl⟩
theorem ok390 : RowOK Tryd.prog ns ⟨390, 63, false, a390, .fn s390⟩ := ⟨by kernel_rfl, by kernel_rfl, by show compF Tryd.prog (numOf ns) a390 63 = some s390; kernel_rfl⟩
theorem ok394 : RowOK Tryd.prog ns ⟨394, 64, false, a394, .fn s394⟩ := ⟨by kernel_rfl, by kernel_rfl, by show compF Tryd.prog (numOf ns) a394 64 = some s394; kernel_rfl⟩
theorem ok391 : RowOK Tryd.prog ns ⟨391, 65, false, a391, .fn s391⟩ := ⟨by kernel_rfl, by kernel_rfl, by show compF Tryd.prog (numOf ns) a391 65 = some s391; kernel_rfl⟩
theorem ok461 : RowOK Tryd.prog ns ⟨461, 88, false, a461, .fn s461⟩ := ⟨by kernel_rfl, by kernel_rfl, by show compF Tryd.prog (numOf ns) a461 88 = some s461; kernel_rfl⟩
theorem ok453 : RowOK Tryd.prog ns ⟨453, 76, false, a453, .fn s453⟩ := ⟨by kernel_rfl, by kernel_rfl, by show compF Tryd.prog (numOf ns) a453 76 = some s453; kernel_rfl⟩
theorem ok393 : RowOK Tryd.prog ns ⟨393, 75, false, a393, .fn s393⟩ := ⟨by kernel_rfl, by kernel_rfl, by show compF Tryd.prog (numOf ns) a393 75 = some s393; kernel_rfl⟩
theorem ok392 : RowOK Tryd.prog ns ⟨392, 67, false, a392, .fn s392⟩ := ⟨by kernel_rfl, by kernel_rfl, by show compF Tryd.prog (numOf ns) a392 67 = some s392; kernel_rfl⟩
theorem ok395 : RowOK Tryd.prog ns ⟨395, 68, false, a395, .fn s395⟩ := ⟨by kernel_rfl, by kernel_rfl, by show compF Tryd.prog (numOf ns) a395 68 = some s395; kernel_rfl⟩
theorem ok384 : RowOK Tryd.prog ns ⟨384, 54, false, a384, .fn s384⟩ := ⟨by kernel_rfl, by kernel_rfl, by show compF Tryd.prog (numOf ns) a384 54 = some s384; kernel_rfl⟩
theorem ok434 : RowOK Tryd.prog ns ⟨434, 89, false, a434, .fn s434⟩ := ⟨by kernel_rfl, by kernel_rfl, by show compF Tryd.prog (numOf ns) a434 89 = some s434; kernel_rfl⟩
theorem ok433 : RowOK Tryd.prog ns ⟨433, 77, false, a433, .fn s433⟩ := ⟨by kernel_rfl, by kernel_rfl, by show compF Tryd.prog (numOf ns) a433 77 = some s433; kernel_rfl⟩
theorem ok431 : RowOK Tryd.prog ns ⟨431, 69, false, a431, .fn s431⟩ := ⟨by kernel_rfl, by kernel_rfl, by show compF Tryd.prog (numOf ns) a431 69 = some s431; kernel_rfl⟩
theorem ok460 : RowOK Tryd.prog ns ⟨460, 90, false, a460, .fn s460⟩ := ⟨by kernel_rfl, by kernel_rfl, by show compF Tryd.prog (numOf ns) a460 90 = some s460; kernel_rfl⟩
theorem ok100456 : RowOK Tryd.prog ns ⟨100456, 78, true, a100456, .own s100456⟩ := ⟨by kernel_rfl, by kernel_rfl, by show compF Tryd.prog (numOf ns) a100456 78 = some s100456; kernel_rfl⟩
theorem ok397 : RowOK Tryd.prog ns ⟨397, 79, false, a397, .fn s397⟩ := ⟨by kernel_rfl, by kernel_rfl, by show compF Tryd.prog (numOf ns) a397 79 = some s397; kernel_rfl⟩
theorem ok100396 : RowOK Tryd.prog ns ⟨100396, 70, true, a100396, .own s100396⟩ := ⟨by kernel_rfl, by kernel_rfl, by show compF Tryd.prog (numOf ns) a100396 70 = some s100396; kernel_rfl⟩
theorem ok102 : RowOK Tryd.prog ns ⟨102, 81, false, a102, .fn s102⟩ := ⟨by kernel_rfl, by kernel_rfl, by show compF Tryd.prog (numOf ns) a102 81 = some s102; kernel_rfl⟩
theorem ok442 : RowOK Tryd.prog ns ⟨442, 95, false, a442, .fn s442⟩ := ⟨by kernel_rfl, by kernel_rfl, by show compF Tryd.prog (numOf ns) a442 95 = some s442; kernel_rfl⟩
theorem ok100 : RowOK Tryd.prog ns ⟨100, 94, false, a100, .fn s100⟩ := ⟨by kernel_rfl, by kernel_rfl, by show compF Tryd.prog (numOf ns) a100 94 = some s100; kernel_rfl⟩
theorem ok96 : RowOK Tryd.prog ns ⟨96, 96, false, a96, .fn s96⟩ := ⟨by kernel_rfl, by kernel_rfl, by show compF Tryd.prog (numOf ns) a96 96 = some s96; kernel_rfl⟩
theorem ok101 : RowOK Tryd.prog ns ⟨101, 82, false, a101, .fn s101⟩ := ⟨by kernel_rfl, by kernel_rfl, by show compF Tryd.prog (numOf ns) a101 82 = some s101; kernel_rfl⟩
theorem ok97 : RowOK Tryd.prog ns ⟨97, 83, false, a97, .fn s97⟩ := ⟨by kernel_rfl, by kernel_rfl, by show compF Tryd.prog (numOf ns) a97 83 = some s97; kernel_rfl⟩
theorem ok99 : RowOK Tryd.prog ns ⟨99, 97, false, a99, .fn s99⟩ := ⟨by kernel_rfl, by kernel_rfl, by show compF Tryd.prog (numOf ns) a99 97 = some s99; kernel_rfl⟩
theorem ok447 : RowOK Tryd.prog ns ⟨447, 102, false, a447, .fn s447⟩ := ⟨by kernel_rfl, by kernel_rfl, by show compF Tryd.prog (numOf ns) a447 102 = some s447; kernel_rfl⟩
theorem ok448 : RowOK Tryd.prog ns ⟨448, 103, false, a448, .fn s448⟩ := ⟨by kernel_rfl, by kernel_rfl, by show compF Tryd.prog (numOf ns) a448 103 = some s448; kernel_rfl⟩
theorem ok446 : RowOK Tryd.prog ns ⟨446, 98, false, a446, .fn s446⟩ := ⟨by kernel_rfl, by kernel_rfl, by show compF Tryd.prog (numOf ns) a446 98 = some s446; kernel_rfl⟩
theorem ok98 : RowOK Tryd.prog ns ⟨98, 84, false, a98, .fn s98⟩ := ⟨by kernel_rfl, by kernel_rfl, by show compF Tryd.prog (numOf ns) a98 84 = some s98; kernel_rfl⟩
theorem ok94 : RowOK Tryd.prog ns ⟨94, 72, false, a94, .fn s94⟩ := ⟨by kernel_rfl, by kernel_rfl, by show compF Tryd.prog (numOf ns) a94 72 = some s94; kernel_rfl⟩
theorem ok95 : RowOK Tryd.prog ns ⟨95, 57, false, a95, .fn s95⟩ := ⟨by kernel_rfl, by kernel_rfl, by show compF Tryd.prog (numOf ns) a95 57 = some s95; kernel_rfl⟩
theorem ok466 : RowOK Tryd.prog ns ⟨466, 47, false, a466, .fn s466⟩ := ⟨by kernel_rfl, by kernel_rfl, by show compF Tryd.prog (numOf ns) a466 47 = some s466; kernel_rfl⟩
theorem ok389 : RowOK Tryd.prog ns ⟨389, 71, false, a389, .fn s389⟩ := ⟨by kernel_rfl, by kernel_rfl, by show compF Tryd.prog (numOf ns) a389 71 = some s389; kernel_rfl⟩
theorem ok388 : RowOK Tryd.prog ns ⟨388, 55, false, a388, .fn s388⟩ := ⟨by kernel_rfl, by kernel_rfl, by show compF Tryd.prog (numOf ns) a388 55 = some s388; kernel_rfl⟩
theorem ok383 : RowOK Tryd.prog ns ⟨383, 38, false, a383, .fn s383⟩ := ⟨by kernel_rfl, by kernel_rfl, by show compF Tryd.prog (numOf ns) a383 38 = some s383; kernel_rfl⟩
theorem ok385 : RowOK Tryd.prog ns ⟨385, 39, false, a385, .fn s385⟩ := ⟨by kernel_rfl, by kernel_rfl, by show compF Tryd.prog (numOf ns) a385 39 = some s385; kernel_rfl⟩
theorem ok240 : RowOK Tryd.prog ns ⟨240, 17, false, a240, .fn s240⟩ := ⟨by kernel_rfl, by kernel_rfl, by show compF Tryd.prog (numOf ns) a240 17 = some s240; kernel_rfl⟩
theorem ok237 : RowOK Tryd.prog ns ⟨237, 4, false, a237, .fn s237⟩ := ⟨by kernel_rfl, by kernel_rfl, by show compF Tryd.prog (numOf ns) a237 4 = some s237; kernel_rfl⟩
theorem ok176 : RowOK Tryd.prog ns ⟨176, 18, false, a176, .fn s176⟩ := ⟨by kernel_rfl, by kernel_rfl, by show compF Tryd.prog (numOf ns) a176 18 = some s176; kernel_rfl⟩
theorem ok244 : RowOK Tryd.prog ns ⟨244, 40, false, a244, .fn s244⟩ := ⟨by kernel_rfl, by kernel_rfl, by show compF Tryd.prog (numOf ns) a244 40 = some s244; kernel_rfl⟩
theorem ok255 : RowOK Tryd.prog ns ⟨255, 56, false, a255, .fn s255⟩ := ⟨by kernel_rfl, by kernel_rfl, by show compF Tryd.prog (numOf ns) a255 56 = some s255; kernel_rfl⟩
theorem ok248 : RowOK Tryd.prog ns ⟨248, 41, false, a248, .fn s248⟩ := ⟨by kernel_rfl, by kernel_rfl, by show compF Tryd.prog (numOf ns) a248 41 = some s248; kernel_rfl⟩
theorem ok266 : RowOK Tryd.prog ns ⟨266, 19, false, a266, .fn s266⟩ := ⟨by kernel_rfl, by kernel_rfl, by show compF Tryd.prog (numOf ns) a266 19 = some s266; kernel_rfl⟩
theorem ok115 : RowOK Tryd.prog ns ⟨115, 43, false, a115, .fn s115⟩ := ⟨by kernel_rfl, by kernel_rfl, by show compF Tryd.prog (numOf ns) a115 43 = some s115; kernel_rfl⟩
theorem ok464 : RowOK Tryd.prog ns ⟨464, 42, false, a464, .fn s464⟩ := ⟨by kernel_rfl, by kernel_rfl, by show compF Tryd.prog (numOf ns) a464 42 = some s464; kernel_rfl⟩
theorem ok117 : RowOK Tryd.prog ns ⟨117, 20, false, a117, .fn s117⟩ := ⟨by kernel_rfl, by kernel_rfl, by show compF Tryd.prog (numOf ns) a117 20 = some s117; kernel_rfl⟩
theorem ok134 : RowOK Tryd.prog ns ⟨134, 44, false, a134, .fn s134⟩ := ⟨by kernel_rfl, by kernel_rfl, by show compF Tryd.prog (numOf ns) a134 44 = some s134; kernel_rfl⟩
theorem ok369 : RowOK Tryd.prog ns ⟨369, 45, false, a369, .fn s369⟩ := ⟨by kernel_rfl, by kernel_rfl, by show compF Tryd.prog (numOf ns) a369 45 = some s369; kernel_rfl⟩
theorem ok368 : RowOK Tryd.prog ns ⟨368, 46, false, a368, .fn s368⟩ := ⟨by kernel_rfl, by kernel_rfl, by show compF Tryd.prog (numOf ns) a368 46 = some s368; kernel_rfl⟩
theorem ok364 : RowOK Tryd.prog ns ⟨364, 21, false, a364, .fn s364⟩ := ⟨by kernel_rfl, by kernel_rfl, by show compF Tryd.prog (numOf ns) a364 21 = some s364; kernel_rfl⟩
theorem ok362 : RowOK Tryd.prog ns ⟨362, 22, false, a362, .fn s362⟩ := ⟨by kernel_rfl, by kernel_rfl, by show compF Tryd.prog (numOf ns) a362 22 = some s362; kernel_rfl⟩
theorem ok359 : RowOK Tryd.prog ns ⟨359, 23, false, a359, .fn s359⟩ := ⟨by kernel_rfl, by kernel_rfl, by show compF Tryd.prog (numOf ns) a359 23 = some s359; kernel_rfl⟩
theorem ok361 : RowOK Tryd.prog ns ⟨361, 24, false, a361, .fn s361⟩ := ⟨by kernel_rfl, by kernel_rfl, by show compF Tryd.prog (numOf ns) a361 24 = some s361; kernel_rfl⟩
theorem ok363 : RowOK Tryd.prog ns ⟨363, 25, false, a363, .fn s363⟩ := ⟨by kernel_rfl, by kernel_rfl, by show compF Tryd.prog (numOf ns) a363 25 = some s363; kernel_rfl⟩
theorem ok360 : RowOK Tryd.prog ns ⟨360, 26, false, a360, .fn s360⟩ := ⟨by kernel_rfl, by kernel_rfl, by show compF Tryd.prog (numOf ns) a360 26 = some s360; kernel_rfl⟩
theorem ok116 : RowOK Tryd.prog ns ⟨116, 58, false, a116, .fn s116⟩ := ⟨by kernel_rfl, by kernel_rfl, by show compF Tryd.prog (numOf ns) a116 58 = some s116; kernel_rfl⟩
theorem ok331 : RowOK Tryd.prog ns ⟨331, 48, false, a331, .fn s331⟩ := ⟨by kernel_rfl, by kernel_rfl, by show compF Tryd.prog (numOf ns) a331 48 = some s331; kernel_rfl⟩
theorem ok367 : RowOK Tryd.prog ns ⟨367, 27, false, a367, .fn s367⟩ := ⟨by kernel_rfl, by kernel_rfl, by show compF Tryd.prog (numOf ns) a367 27 = some s367; kernel_rfl⟩
theorem ok213 : RowOK Tryd.prog ns ⟨213, 28, false, a213, .fn s213⟩ := ⟨by kernel_rfl, by kernel_rfl, by show compF Tryd.prog (numOf ns) a213 28 = some s213; kernel_rfl⟩
theorem ok214 : RowOK Tryd.prog ns ⟨214, 5, false, a214, .fn s214⟩ := ⟨by kernel_rfl, by kernel_rfl, by show compF Tryd.prog (numOf ns) a214 5 = some s214; kernel_rfl⟩
theorem ok469 : RowOK Tryd.prog ns ⟨469, 74, false, ⟨[], [], []⟩, .ext ixbM⟩ := ⟨by kernel_rfl, by kernel_rfl, ixb_sound Tryd.strings_IndexByte⟩
theorem ok471 : RowOK Tryd.prog ns ⟨471, 80, false, ⟨[], [], []⟩, .ext joinM⟩ := ⟨by kernel_rfl, by kernel_rfl, join_sound Tryd.strings_Join_none Tryd.strings_Join⟩
theorem tabOK : ∀ r, r ∈ tab → RowOK Tryd.prog ns r := by
  intro r hr
  simp only [tab, List.mem_cons, List.not_mem_nil, or_false] at hr
  rcases hr with rfl | rfl | rfl | rfl | rfl | rfl | rfl | rfl | rfl | rfl | rfl | rfl | rfl | rfl | rfl | rfl | rfl | rfl | rfl | rfl | rfl | rfl | rfl | rfl | rfl | rfl | rfl | rfl | rfl | rfl | rfl | rfl | rfl | rfl | rfl | rfl | rfl | rfl | rfl | rfl | rfl | rfl | rfl | rfl | rfl | rfl | rfl | rfl | rfl | rfl | rfl | rfl | rfl | rfl | rfl | rfl | rfl | rfl | rfl | rfl | rfl | rfl | rfl | rfl | rfl | rfl | rfl | rfl | rfl
  · exact ok174
  · exact ok457
  · exact ok450
  · exact ok382
  · exact ok386
  · exact ok381
  · exact ok172
  · exact ok387
  · exact ok398
  · exact ok390
  · exact ok394
  · exact ok391
  · exact ok461
  · exact ok453
  · exact ok393
  · exact ok392
  · exact ok395
  · exact ok384
  · exact ok434
  · exact ok433
  · exact ok431
  · exact ok460
  · exact ok100456
  · exact ok397
  · exact ok100396
  · exact ok102
  · exact ok442
  · exact ok100
  · exact ok96
  · exact ok101
  · exact ok97
  · exact ok99
  · exact ok447
  · exact ok448
  · exact ok446
  · exact ok98
  · exact ok94
  · exact ok95
  · exact ok466
  · exact ok389
  · exact ok388
  · exact ok383
  · exact ok385
  · exact ok240
  · exact ok237
  · exact ok176
  · exact ok244
  · exact ok255
  · exact ok248
  · exact ok266
  · exact ok115
  · exact ok464
  · exact ok117
  · exact ok134
  · exact ok369
  · exact ok368
  · exact ok364
  · exact ok362
  · exact ok359
  · exact ok361
  · exact ok363
  · exact ok360
  · exact ok116
  · exact ok331
  · exact ok367
  · exact ok213
  · exact ok214
  · exact ok469
  · exact ok471
theorem mix : Tryd.prog.follows .mixedOrders = true := by kernel_rfl
theorem sound237 : SoundFn Tryd.prog (fidOf ns) 4 (evFun (clOf (modsR tab 14) 3) s237) :=
  fun_sound (num_fid nsND) mix (tab_sound nsND mix tabOK 14) 3 ok237.2.2
theorem sound214 : SoundFn Tryd.prog (fidOf ns) 5 (evFun (clOf (modsR tab 14) 3) s214) :=
  fun_sound (num_fid nsND) mix (tab_sound nsND mix tabOK 14) 3 ok214.2.2
theorem cw174 (k n : Nat) (xs : List D) (H : List Ob) : (clOf (modsR tab (k + 1)) n).w 174 xs H = callM false (evFun (clOf (modsR tab k) 3) s174) xs H := by cases n <;> rfl
theorem cr174 (k n : Nat) (xs : List D) (H : List Ob) : (clOf (modsR tab (k + 1)) n).r 174 xs H = callQ false (evFun (clOf (modsR tab k) 3) s174) xs H := by cases n <;> rfl
theorem cw457 (k n : Nat) (xs : List D) (H : List Ob) : (clOf (modsR tab (k + 1)) n).w 457 xs H = callM false (evFun (clOf (modsR tab k) 3) s457) xs H := by cases n <;> rfl
theorem cr457 (k n : Nat) (xs : List D) (H : List Ob) : (clOf (modsR tab (k + 1)) n).r 457 xs H = callQ false (evFun (clOf (modsR tab k) 3) s457) xs H := by cases n <;> rfl
theorem cw450 (k n : Nat) (xs : List D) (H : List Ob) : (clOf (modsR tab (k + 1)) n).w 450 xs H = callM false (evNil (clOf (modsR tab k) 3) n450) xs H := by cases n <;> rfl
theorem cr450 (k n : Nat) (xs : List D) (H : List Ob) : (clOf (modsR tab (k + 1)) n).r 450 xs H = callQ false (evNil (clOf (modsR tab k) 3) n450) xs H := by cases n <;> rfl
theorem cw382 (k n : Nat) (xs : List D) (H : List Ob) : (clOf (modsR tab (k + 1)) n).w 382 xs H = callM true (evFun (clOf (modsR tab k) 3) s382) xs H := by cases n <;> rfl
theorem cr382 (k n : Nat) (xs : List D) (H : List Ob) : (clOf (modsR tab (k + 1)) n).r 382 xs H = callQ true (evFun (clOf (modsR tab k) 3) s382) xs H := by cases n <;> rfl
theorem cw386 (k n : Nat) (xs : List D) (H : List Ob) : (clOf (modsR tab (k + 1)) n).w 386 xs H = callM true (evFun (clOf (modsR tab k) 3) s386) xs H := by cases n <;> rfl
theorem cr386 (k n : Nat) (xs : List D) (H : List Ob) : (clOf (modsR tab (k + 1)) n).r 386 xs H = callQ true (evFun (clOf (modsR tab k) 3) s386) xs H := by cases n <;> rfl
theorem cw381 (k n : Nat) (xs : List D) (H : List Ob) : (clOf (modsR tab (k + 1)) n).w 381 xs H = callM false (evFun (clOf (modsR tab k) 3) s381) xs H := by cases n <;> rfl
theorem cr381 (k n : Nat) (xs : List D) (H : List Ob) : (clOf (modsR tab (k + 1)) n).r 381 xs H = callQ false (evFun (clOf (modsR tab k) 3) s381) xs H := by cases n <;> rfl
theorem cw172 (k n : Nat) (xs : List D) (H : List Ob) : (clOf (modsR tab (k + 1)) n).w 172 xs H = callM false (evFun (clOf (modsR tab k) 3) s172) xs H := by cases n <;> rfl
theorem cr172 (k n : Nat) (xs : List D) (H : List Ob) : (clOf (modsR tab (k + 1)) n).r 172 xs H = callQ false (evFun (clOf (modsR tab k) 3) s172) xs H := by cases n <;> rfl
theorem cw387 (k n : Nat) (xs : List D) (H : List Ob) : (clOf (modsR tab (k + 1)) n).w 387 xs H = callM false (evFun (clOf (modsR tab k) 3) s387) xs H := by cases n <;> rfl
theorem cr387 (k n : Nat) (xs : List D) (H : List Ob) : (clOf (modsR tab (k + 1)) n).r 387 xs H = callQ false (evFun (clOf (modsR tab k) 3) s387) xs H := by cases n <;> rfl
theorem cw398 (k n : Nat) (xs : List D) (H : List Ob) : (clOf (modsR tab (k + 1)) n).w 398 xs H = callM false (evFun (clOf (modsR tab k) 3) s398) xs H := by cases n <;> rfl
theorem cr398 (k n : Nat) (xs : List D) (H : List Ob) : (clOf (modsR tab (k + 1)) n).r 398 xs H = callQ false (evFun (clOf (modsR tab k) 3) s398) xs H := by cases n <;> rfl
theorem cw390 (k n : Nat) (xs : List D) (H : List Ob) : (clOf (modsR tab (k + 1)) n).w 390 xs H = callM false (evFun (clOf (modsR tab k) 3) s390) xs H := by cases n <;> rfl
theorem cr390 (k n : Nat) (xs : List D) (H : List Ob) : (clOf (modsR tab (k + 1)) n).r 390 xs H = callQ false (evFun (clOf (modsR tab k) 3) s390) xs H := by cases n <;> rfl
theorem cw394 (k n : Nat) (xs : List D) (H : List Ob) : (clOf (modsR tab (k + 1)) n).w 394 xs H = callM false (evFun (clOf (modsR tab k) 3) s394) xs H := by cases n <;> rfl
theorem cr394 (k n : Nat) (xs : List D) (H : List Ob) : (clOf (modsR tab (k + 1)) n).r 394 xs H = callQ false (evFun (clOf (modsR tab k) 3) s394) xs H := by cases n <;> rfl
theorem cw391 (k n : Nat) (xs : List D) (H : List Ob) : (clOf (modsR tab (k + 1)) n).w 391 xs H = callM false (evFun (clOf (modsR tab k) 3) s391) xs H := by cases n <;> rfl
theorem cr391 (k n : Nat) (xs : List D) (H : List Ob) : (clOf (modsR tab (k + 1)) n).r 391 xs H = callQ false (evFun (clOf (modsR tab k) 3) s391) xs H := by cases n <;> rfl
theorem cw461 (k n : Nat) (xs : List D) (H : List Ob) : (clOf (modsR tab (k + 1)) n).w 461 xs H = callM false (evFun (clOf (modsR tab k) 3) s461) xs H := by cases n <;> rfl
theorem cr461 (k n : Nat) (xs : List D) (H : List Ob) : (clOf (modsR tab (k + 1)) n).r 461 xs H = callQ false (evFun (clOf (modsR tab k) 3) s461) xs H := by cases n <;> rfl
theorem cw453 (k n : Nat) (xs : List D) (H : List Ob) : (clOf (modsR tab (k + 1)) n).w 453 xs H = callM false (evFun (clOf (modsR tab k) 3) s453) xs H := by cases n <;> rfl
theorem cr453 (k n : Nat) (xs : List D) (H : List Ob) : (clOf (modsR tab (k + 1)) n).r 453 xs H = callQ false (evFun (clOf (modsR tab k) 3) s453) xs H := by cases n <;> rfl
theorem cw393 (k n : Nat) (xs : List D) (H : List Ob) : (clOf (modsR tab (k + 1)) n).w 393 xs H = callM false (evFun (clOf (modsR tab k) 3) s393) xs H := by cases n <;> rfl
theorem cr393 (k n : Nat) (xs : List D) (H : List Ob) : (clOf (modsR tab (k + 1)) n).r 393 xs H = callQ false (evFun (clOf (modsR tab k) 3) s393) xs H := by cases n <;> rfl
theorem cw392 (k n : Nat) (xs : List D) (H : List Ob) : (clOf (modsR tab (k + 1)) n).w 392 xs H = callM false (evFun (clOf (modsR tab k) 3) s392) xs H := by cases n <;> rfl
theorem cr392 (k n : Nat) (xs : List D) (H : List Ob) : (clOf (modsR tab (k + 1)) n).r 392 xs H = callQ false (evFun (clOf (modsR tab k) 3) s392) xs H := by cases n <;> rfl
theorem cw395 (k n : Nat) (xs : List D) (H : List Ob) : (clOf (modsR tab (k + 1)) n).w 395 xs H = callM false (evFun (clOf (modsR tab k) 3) s395) xs H := by cases n <;> rfl
theorem cr395 (k n : Nat) (xs : List D) (H : List Ob) : (clOf (modsR tab (k + 1)) n).r 395 xs H = callQ false (evFun (clOf (modsR tab k) 3) s395) xs H := by cases n <;> rfl
theorem cw384 (k n : Nat) (xs : List D) (H : List Ob) : (clOf (modsR tab (k + 1)) n).w 384 xs H = callM false (evFun (clOf (modsR tab k) 3) s384) xs H := by cases n <;> rfl
theorem cr384 (k n : Nat) (xs : List D) (H : List Ob) : (clOf (modsR tab (k + 1)) n).r 384 xs H = callQ false (evFun (clOf (modsR tab k) 3) s384) xs H := by cases n <;> rfl
theorem cw434 (k n : Nat) (xs : List D) (H : List Ob) : (clOf (modsR tab (k + 1)) n).w 434 xs H = callM false (evFun (clOf (modsR tab k) 3) s434) xs H := by cases n <;> rfl
theorem cr434 (k n : Nat) (xs : List D) (H : List Ob) : (clOf (modsR tab (k + 1)) n).r 434 xs H = callQ false (evFun (clOf (modsR tab k) 3) s434) xs H := by cases n <;> rfl
theorem cw433 (k n : Nat) (xs : List D) (H : List Ob) : (clOf (modsR tab (k + 1)) n).w 433 xs H = callM false (evFun (clOf (modsR tab k) 3) s433) xs H := by cases n <;> rfl
theorem cr433 (k n : Nat) (xs : List D) (H : List Ob) : (clOf (modsR tab (k + 1)) n).r 433 xs H = callQ false (evFun (clOf (modsR tab k) 3) s433) xs H := by cases n <;> rfl
theorem cw431 (k n : Nat) (xs : List D) (H : List Ob) : (clOf (modsR tab (k + 1)) n).w 431 xs H = callM false (evFun (clOf (modsR tab k) 3) s431) xs H := by cases n <;> rfl
theorem cr431 (k n : Nat) (xs : List D) (H : List Ob) : (clOf (modsR tab (k + 1)) n).r 431 xs H = callQ false (evFun (clOf (modsR tab k) 3) s431) xs H := by cases n <;> rfl
theorem cw460 (k n : Nat) (xs : List D) (H : List Ob) : (clOf (modsR tab (k + 1)) n).w 460 xs H = callM false (evFun (clOf (modsR tab k) 3) s460) xs H := by cases n <;> rfl
theorem cr460 (k n : Nat) (xs : List D) (H : List Ob) : (clOf (modsR tab (k + 1)) n).r 460 xs H = callQ false (evFun (clOf (modsR tab k) 3) s460) xs H := by cases n <;> rfl
theorem cw100456 (k n : Nat) (xs : List D) (H : List Ob) : (clOf (modsR tab (k + 1)) n).w 100456 xs H = callO (evFun (clOf (modsR tab k) 3) s100456) xs H := by cases n <;> rfl
theorem cw397 (k n : Nat) (xs : List D) (H : List Ob) : (clOf (modsR tab (k + 1)) n).w 397 xs H = callM false (evFun (clOf (modsR tab k) 3) s397) xs H := by cases n <;> rfl
theorem cr397 (k n : Nat) (xs : List D) (H : List Ob) : (clOf (modsR tab (k + 1)) n).r 397 xs H = callQ false (evFun (clOf (modsR tab k) 3) s397) xs H := by cases n <;> rfl
theorem cw100396 (k n : Nat) (xs : List D) (H : List Ob) : (clOf (modsR tab (k + 1)) n).w 100396 xs H = callO (evFun (clOf (modsR tab k) 3) s100396) xs H := by cases n <;> rfl
theorem cw102 (k n : Nat) (xs : List D) (H : List Ob) : (clOf (modsR tab (k + 1)) n).w 102 xs H = callM false (evFun (clOf (modsR tab k) 3) s102) xs H := by cases n <;> rfl
theorem cr102 (k n : Nat) (xs : List D) (H : List Ob) : (clOf (modsR tab (k + 1)) n).r 102 xs H = callQ false (evFun (clOf (modsR tab k) 3) s102) xs H := by cases n <;> rfl
theorem cw442 (k n : Nat) (xs : List D) (H : List Ob) : (clOf (modsR tab (k + 1)) n).w 442 xs H = callM false (evFun (clOf (modsR tab k) 3) s442) xs H := by cases n <;> rfl
theorem cr442 (k n : Nat) (xs : List D) (H : List Ob) : (clOf (modsR tab (k + 1)) n).r 442 xs H = callQ false (evFun (clOf (modsR tab k) 3) s442) xs H := by cases n <;> rfl
theorem cw100 (k n : Nat) (xs : List D) (H : List Ob) : (clOf (modsR tab (k + 1)) n).w 100 xs H = callM false (evFun (clOf (modsR tab k) 3) s100) xs H := by cases n <;> rfl
theorem cr100 (k n : Nat) (xs : List D) (H : List Ob) : (clOf (modsR tab (k + 1)) n).r 100 xs H = callQ false (evFun (clOf (modsR tab k) 3) s100) xs H := by cases n <;> rfl
theorem cw96 (k n : Nat) (xs : List D) (H : List Ob) : (clOf (modsR tab (k + 1)) n).w 96 xs H = callM false (evFun (clOf (modsR tab k) 3) s96) xs H := by cases n <;> rfl
theorem cr96 (k n : Nat) (xs : List D) (H : List Ob) : (clOf (modsR tab (k + 1)) n).r 96 xs H = callQ false (evFun (clOf (modsR tab k) 3) s96) xs H := by cases n <;> rfl
theorem cw101 (k n : Nat) (xs : List D) (H : List Ob) : (clOf (modsR tab (k + 1)) n).w 101 xs H = callM false (evFun (clOf (modsR tab k) 3) s101) xs H := by cases n <;> rfl
theorem cr101 (k n : Nat) (xs : List D) (H : List Ob) : (clOf (modsR tab (k + 1)) n).r 101 xs H = callQ false (evFun (clOf (modsR tab k) 3) s101) xs H := by cases n <;> rfl
theorem cw97 (k n : Nat) (xs : List D) (H : List Ob) : (clOf (modsR tab (k + 1)) n).w 97 xs H = callM false (evFun (clOf (modsR tab k) 3) s97) xs H := by cases n <;> rfl
theorem cr97 (k n : Nat) (xs : List D) (H : List Ob) : (clOf (modsR tab (k + 1)) n).r 97 xs H = callQ false (evFun (clOf (modsR tab k) 3) s97) xs H := by cases n <;> rfl
theorem cw99 (k n : Nat) (xs : List D) (H : List Ob) : (clOf (modsR tab (k + 1)) n).w 99 xs H = callM false (evFun (clOf (modsR tab k) 3) s99) xs H := by cases n <;> rfl
theorem cr99 (k n : Nat) (xs : List D) (H : List Ob) : (clOf (modsR tab (k + 1)) n).r 99 xs H = callQ false (evFun (clOf (modsR tab k) 3) s99) xs H := by cases n <;> rfl
theorem cw447 (k n : Nat) (xs : List D) (H : List Ob) : (clOf (modsR tab (k + 1)) n).w 447 xs H = callM false (evFun (clOf (modsR tab k) 3) s447) xs H := by cases n <;> rfl
theorem cr447 (k n : Nat) (xs : List D) (H : List Ob) : (clOf (modsR tab (k + 1)) n).r 447 xs H = callQ false (evFun (clOf (modsR tab k) 3) s447) xs H := by cases n <;> rfl
theorem cw448 (k n : Nat) (xs : List D) (H : List Ob) : (clOf (modsR tab (k + 1)) n).w 448 xs H = callM false (evFun (clOf (modsR tab k) 3) s448) xs H := by cases n <;> rfl
theorem cr448 (k n : Nat) (xs : List D) (H : List Ob) : (clOf (modsR tab (k + 1)) n).r 448 xs H = callQ false (evFun (clOf (modsR tab k) 3) s448) xs H := by cases n <;> rfl
theorem cw446 (k n : Nat) (xs : List D) (H : List Ob) : (clOf (modsR tab (k + 1)) n).w 446 xs H = callM false (evFun (clOf (modsR tab k) 3) s446) xs H := by cases n <;> rfl
theorem cr446 (k n : Nat) (xs : List D) (H : List Ob) : (clOf (modsR tab (k + 1)) n).r 446 xs H = callQ false (evFun (clOf (modsR tab k) 3) s446) xs H := by cases n <;> rfl
theorem cw98 (k n : Nat) (xs : List D) (H : List Ob) : (clOf (modsR tab (k + 1)) n).w 98 xs H = callM false (evFun (clOf (modsR tab k) 3) s98) xs H := by cases n <;> rfl
theorem cr98 (k n : Nat) (xs : List D) (H : List Ob) : (clOf (modsR tab (k + 1)) n).r 98 xs H = callQ false (evFun (clOf (modsR tab k) 3) s98) xs H := by cases n <;> rfl
theorem cw94 (k n : Nat) (xs : List D) (H : List Ob) : (clOf (modsR tab (k + 1)) n).w 94 xs H = callM false (evFun (clOf (modsR tab k) 3) s94) xs H := by cases n <;> rfl
theorem cr94 (k n : Nat) (xs : List D) (H : List Ob) : (clOf (modsR tab (k + 1)) n).r 94 xs H = callQ false (evFun (clOf (modsR tab k) 3) s94) xs H := by cases n <;> rfl
theorem cw95 (k n : Nat) (xs : List D) (H : List Ob) : (clOf (modsR tab (k + 1)) n).w 95 xs H = callM false (evFun (clOf (modsR tab k) 3) s95) xs H := by cases n <;> rfl
theorem cr95 (k n : Nat) (xs : List D) (H : List Ob) : (clOf (modsR tab (k + 1)) n).r 95 xs H = callQ false (evFun (clOf (modsR tab k) 3) s95) xs H := by cases n <;> rfl
theorem cw466 (k n : Nat) (xs : List D) (H : List Ob) : (clOf (modsR tab (k + 1)) n).w 466 xs H = callM false (evFun (clOf (modsR tab k) 3) s466) xs H := by cases n <;> rfl
theorem cr466 (k n : Nat) (xs : List D) (H : List Ob) : (clOf (modsR tab (k + 1)) n).r 466 xs H = callQ false (evFun (clOf (modsR tab k) 3) s466) xs H := by cases n <;> rfl
theorem cw389 (k n : Nat) (xs : List D) (H : List Ob) : (clOf (modsR tab (k + 1)) n).w 389 xs H = callM false (evFun (clOf (modsR tab k) 3) s389) xs H := by cases n <;> rfl
theorem cr389 (k n : Nat) (xs : List D) (H : List Ob) : (clOf (modsR tab (k + 1)) n).r 389 xs H = callQ false (evFun (clOf (modsR tab k) 3) s389) xs H := by cases n <;> rfl
theorem cw388 (k n : Nat) (xs : List D) (H : List Ob) : (clOf (modsR tab (k + 1)) n).w 388 xs H = callM false (evFun (clOf (modsR tab k) 3) s388) xs H := by cases n <;> rfl
theorem cr388 (k n : Nat) (xs : List D) (H : List Ob) : (clOf (modsR tab (k + 1)) n).r 388 xs H = callQ false (evFun (clOf (modsR tab k) 3) s388) xs H := by cases n <;> rfl
theorem cw383 (k n : Nat) (xs : List D) (H : List Ob) : (clOf (modsR tab (k + 1)) n).w 383 xs H = callM false (evFun (clOf (modsR tab k) 3) s383) xs H := by cases n <;> rfl
theorem cr383 (k n : Nat) (xs : List D) (H : List Ob) : (clOf (modsR tab (k + 1)) n).r 383 xs H = callQ false (evFun (clOf (modsR tab k) 3) s383) xs H := by cases n <;> rfl
theorem cw385 (k n : Nat) (xs : List D) (H : List Ob) : (clOf (modsR tab (k + 1)) n).w 385 xs H = callM false (evFun (clOf (modsR tab k) 3) s385) xs H := by cases n <;> rfl
theorem cr385 (k n : Nat) (xs : List D) (H : List Ob) : (clOf (modsR tab (k + 1)) n).r 385 xs H = callQ false (evFun (clOf (modsR tab k) 3) s385) xs H := by cases n <;> rfl
theorem cw240 (k n : Nat) (xs : List D) (H : List Ob) : (clOf (modsR tab (k + 1)) n).w 240 xs H = callM false (evFun (clOf (modsR tab k) 3) s240) xs H := by cases n <;> rfl
theorem cr240 (k n : Nat) (xs : List D) (H : List Ob) : (clOf (modsR tab (k + 1)) n).r 240 xs H = callQ false (evFun (clOf (modsR tab k) 3) s240) xs H := by cases n <;> rfl
theorem cw237 (k n : Nat) (xs : List D) (H : List Ob) : (clOf (modsR tab (k + 1)) n).w 237 xs H = callM false (evFun (clOf (modsR tab k) 3) s237) xs H := by cases n <;> rfl
theorem cr237 (k n : Nat) (xs : List D) (H : List Ob) : (clOf (modsR tab (k + 1)) n).r 237 xs H = callQ false (evFun (clOf (modsR tab k) 3) s237) xs H := by cases n <;> rfl
theorem cw176 (k n : Nat) (xs : List D) (H : List Ob) : (clOf (modsR tab (k + 1)) n).w 176 xs H = callM false (evFun (clOf (modsR tab k) 3) s176) xs H := by cases n <;> rfl
theorem cr176 (k n : Nat) (xs : List D) (H : List Ob) : (clOf (modsR tab (k + 1)) n).r 176 xs H = callQ false (evFun (clOf (modsR tab k) 3) s176) xs H := by cases n <;> rfl
theorem cw244 (k n : Nat) (xs : List D) (H : List Ob) : (clOf (modsR tab (k + 1)) n).w 244 xs H = callM false (evFun (clOf (modsR tab k) 3) s244) xs H := by cases n <;> rfl
theorem cr244 (k n : Nat) (xs : List D) (H : List Ob) : (clOf (modsR tab (k + 1)) n).r 244 xs H = callQ false (evFun (clOf (modsR tab k) 3) s244) xs H := by cases n <;> rfl
theorem cw255 (k n : Nat) (xs : List D) (H : List Ob) : (clOf (modsR tab (k + 1)) n).w 255 xs H = callM false (evFun (clOf (modsR tab k) 3) s255) xs H := by cases n <;> rfl
theorem cr255 (k n : Nat) (xs : List D) (H : List Ob) : (clOf (modsR tab (k + 1)) n).r 255 xs H = callQ false (evFun (clOf (modsR tab k) 3) s255) xs H := by cases n <;> rfl
theorem cw248 (k n : Nat) (xs : List D) (H : List Ob) : (clOf (modsR tab (k + 1)) n).w 248 xs H = callM false (evFun (clOf (modsR tab k) 3) s248) xs H := by cases n <;> rfl
theorem cr248 (k n : Nat) (xs : List D) (H : List Ob) : (clOf (modsR tab (k + 1)) n).r 248 xs H = callQ false (evFun (clOf (modsR tab k) 3) s248) xs H := by cases n <;> rfl
theorem cw266 (k n : Nat) (xs : List D) (H : List Ob) : (clOf (modsR tab (k + 1)) n).w 266 xs H = callM false (evFun (clOf (modsR tab k) 3) s266) xs H := by cases n <;> rfl
theorem cr266 (k n : Nat) (xs : List D) (H : List Ob) : (clOf (modsR tab (k + 1)) n).r 266 xs H = callQ false (evFun (clOf (modsR tab k) 3) s266) xs H := by cases n <;> rfl
theorem cw115 (k n : Nat) (xs : List D) (H : List Ob) : (clOf (modsR tab (k + 1)) n).w 115 xs H = callM false (evFun (clOf (modsR tab k) 3) s115) xs H := by cases n <;> rfl
theorem cr115 (k n : Nat) (xs : List D) (H : List Ob) : (clOf (modsR tab (k + 1)) n).r 115 xs H = callQ false (evFun (clOf (modsR tab k) 3) s115) xs H := by cases n <;> rfl
theorem cw464 (k n : Nat) (xs : List D) (H : List Ob) : (clOf (modsR tab (k + 1)) n).w 464 xs H = callM false (evFun (clOf (modsR tab k) 3) s464) xs H := by cases n <;> rfl
theorem cr464 (k n : Nat) (xs : List D) (H : List Ob) : (clOf (modsR tab (k + 1)) n).r 464 xs H = callQ false (evFun (clOf (modsR tab k) 3) s464) xs H := by cases n <;> rfl
theorem cw117 (k n : Nat) (xs : List D) (H : List Ob) : (clOf (modsR tab (k + 1)) n).w 117 xs H = callM false (evFun (clOf (modsR tab k) 3) s117) xs H := by cases n <;> rfl
theorem cr117 (k n : Nat) (xs : List D) (H : List Ob) : (clOf (modsR tab (k + 1)) n).r 117 xs H = callQ false (evFun (clOf (modsR tab k) 3) s117) xs H := by cases n <;> rfl
theorem cw134 (k n : Nat) (xs : List D) (H : List Ob) : (clOf (modsR tab (k + 1)) n).w 134 xs H = callM false (evFun (clOf (modsR tab k) 3) s134) xs H := by cases n <;> rfl
theorem cr134 (k n : Nat) (xs : List D) (H : List Ob) : (clOf (modsR tab (k + 1)) n).r 134 xs H = callQ false (evFun (clOf (modsR tab k) 3) s134) xs H := by cases n <;> rfl
theorem cw369 (k n : Nat) (xs : List D) (H : List Ob) : (clOf (modsR tab (k + 1)) n).w 369 xs H = callM false (evFun (clOf (modsR tab k) 3) s369) xs H := by cases n <;> rfl
theorem cr369 (k n : Nat) (xs : List D) (H : List Ob) : (clOf (modsR tab (k + 1)) n).r 369 xs H = callQ false (evFun (clOf (modsR tab k) 3) s369) xs H := by cases n <;> rfl
theorem cw368 (k n : Nat) (xs : List D) (H : List Ob) : (clOf (modsR tab (k + 1)) n).w 368 xs H = callM false (evFun (clOf (modsR tab k) 3) s368) xs H := by cases n <;> rfl
theorem cr368 (k n : Nat) (xs : List D) (H : List Ob) : (clOf (modsR tab (k + 1)) n).r 368 xs H = callQ false (evFun (clOf (modsR tab k) 3) s368) xs H := by cases n <;> rfl
theorem cw364 (k n : Nat) (xs : List D) (H : List Ob) : (clOf (modsR tab (k + 1)) n).w 364 xs H = callM false (evFun (clOf (modsR tab k) 3) s364) xs H := by cases n <;> rfl
theorem cr364 (k n : Nat) (xs : List D) (H : List Ob) : (clOf (modsR tab (k + 1)) n).r 364 xs H = callQ false (evFun (clOf (modsR tab k) 3) s364) xs H := by cases n <;> rfl
theorem cw362 (k n : Nat) (xs : List D) (H : List Ob) : (clOf (modsR tab (k + 1)) n).w 362 xs H = callM false (evFun (clOf (modsR tab k) 3) s362) xs H := by cases n <;> rfl
theorem cr362 (k n : Nat) (xs : List D) (H : List Ob) : (clOf (modsR tab (k + 1)) n).r 362 xs H = callQ false (evFun (clOf (modsR tab k) 3) s362) xs H := by cases n <;> rfl
theorem cw359 (k n : Nat) (xs : List D) (H : List Ob) : (clOf (modsR tab (k + 1)) n).w 359 xs H = callM false (evFun (clOf (modsR tab k) 3) s359) xs H := by cases n <;> rfl
theorem cr359 (k n : Nat) (xs : List D) (H : List Ob) : (clOf (modsR tab (k + 1)) n).r 359 xs H = callQ false (evFun (clOf (modsR tab k) 3) s359) xs H := by cases n <;> rfl
theorem cw361 (k n : Nat) (xs : List D) (H : List Ob) : (clOf (modsR tab (k + 1)) n).w 361 xs H = callM false (evFun (clOf (modsR tab k) 3) s361) xs H := by cases n <;> rfl
theorem cr361 (k n : Nat) (xs : List D) (H : List Ob) : (clOf (modsR tab (k + 1)) n).r 361 xs H = callQ false (evFun (clOf (modsR tab k) 3) s361) xs H := by cases n <;> rfl
theorem cw363 (k n : Nat) (xs : List D) (H : List Ob) : (clOf (modsR tab (k + 1)) n).w 363 xs H = callM false (evFun (clOf (modsR tab k) 3) s363) xs H := by cases n <;> rfl
theorem cr363 (k n : Nat) (xs : List D) (H : List Ob) : (clOf (modsR tab (k + 1)) n).r 363 xs H = callQ false (evFun (clOf (modsR tab k) 3) s363) xs H := by cases n <;> rfl
theorem cw360 (k n : Nat) (xs : List D) (H : List Ob) : (clOf (modsR tab (k + 1)) n).w 360 xs H = callM false (evFun (clOf (modsR tab k) 3) s360) xs H := by cases n <;> rfl
theorem cr360 (k n : Nat) (xs : List D) (H : List Ob) : (clOf (modsR tab (k + 1)) n).r 360 xs H = callQ false (evFun (clOf (modsR tab k) 3) s360) xs H := by cases n <;> rfl
theorem cw116 (k n : Nat) (xs : List D) (H : List Ob) : (clOf (modsR tab (k + 1)) n).w 116 xs H = callM false (evFun (clOf (modsR tab k) 3) s116) xs H := by cases n <;> rfl
theorem cr116 (k n : Nat) (xs : List D) (H : List Ob) : (clOf (modsR tab (k + 1)) n).r 116 xs H = callQ false (evFun (clOf (modsR tab k) 3) s116) xs H := by cases n <;> rfl
theorem cw331 (k n : Nat) (xs : List D) (H : List Ob) : (clOf (modsR tab (k + 1)) n).w 331 xs H = callM false (evFun (clOf (modsR tab k) 3) s331) xs H := by cases n <;> rfl
theorem cr331 (k n : Nat) (xs : List D) (H : List Ob) : (clOf (modsR tab (k + 1)) n).r 331 xs H = callQ false (evFun (clOf (modsR tab k) 3) s331) xs H := by cases n <;> rfl
theorem cw367 (k n : Nat) (xs : List D) (H : List Ob) : (clOf (modsR tab (k + 1)) n).w 367 xs H = callM false (evFun (clOf (modsR tab k) 3) s367) xs H := by cases n <;> rfl
theorem cr367 (k n : Nat) (xs : List D) (H : List Ob) : (clOf (modsR tab (k + 1)) n).r 367 xs H = callQ false (evFun (clOf (modsR tab k) 3) s367) xs H := by cases n <;> rfl
theorem cw213 (k n : Nat) (xs : List D) (H : List Ob) : (clOf (modsR tab (k + 1)) n).w 213 xs H = callM false (evFun (clOf (modsR tab k) 3) s213) xs H := by cases n <;> rfl
theorem cr213 (k n : Nat) (xs : List D) (H : List Ob) : (clOf (modsR tab (k + 1)) n).r 213 xs H = callQ false (evFun (clOf (modsR tab k) 3) s213) xs H := by cases n <;> rfl
theorem cw214 (k n : Nat) (xs : List D) (H : List Ob) : (clOf (modsR tab (k + 1)) n).w 214 xs H = callM false (evFun (clOf (modsR tab k) 3) s214) xs H := by cases n <;> rfl
theorem cr214 (k n : Nat) (xs : List D) (H : List Ob) : (clOf (modsR tab (k + 1)) n).r 214 xs H = callQ false (evFun (clOf (modsR tab k) 3) s214) xs H := by cases n <;> rfl
theorem cw469 (k n : Nat) (xs : List D) (H : List Ob) : (clOf (modsR tab (k + 1)) n).w 469 xs H = callM false ixbM xs H := by cases n <;> rfl
theorem cr469 (k n : Nat) (xs : List D) (H : List Ob) : (clOf (modsR tab (k + 1)) n).r 469 xs H = callQ false ixbM xs H := by cases n <;> rfl
theorem cw471 (k n : Nat) (xs : List D) (H : List Ob) : (clOf (modsR tab (k + 1)) n).w 471 xs H = callM false joinM xs H := by cases n <;> rfl
theorem cr471 (k n : Nat) (xs : List D) (H : List Ob) : (clOf (modsR tab (k + 1)) n).r 471 xs H = callQ false joinM xs H := by cases n <;> rfl
end Go.Proofs.YtjbdijfibllddaaDoor.LgTab
