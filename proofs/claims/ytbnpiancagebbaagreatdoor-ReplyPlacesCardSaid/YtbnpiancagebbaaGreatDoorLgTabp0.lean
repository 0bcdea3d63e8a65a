import Derived.Test.YtbnpiancagebbaaGreatDoorRows
import Derived.Test.YtbnpiancagebbaaGreatDoorLgW1
import Derived.RowKit
/-
  The seat's functions, as this work's tool printed them.
-/
namespace Go.Proofs.YtbnpiancagebbaaGreatDoor.LgTab
open Go Lg
set_option maxRecDepth 100000
def a174 : Ann := ⟨[], [⟨false, 0, false⟩], []⟩
def s174 : SFun := ⟨3, 24, [], [(.tmp 6, ⟨false, 0, false⟩)],
 (.seq (.reg [⟨(some 6), .mv (.k (D.int .i64 (0))), none⟩])
 (.seq (.reg [⟨(some 7), .mv (.t 0), none⟩,
  ⟨(some 8), .mv (.t 2), none⟩,
  ⟨(some 9), .mv (.t 1), none⟩,
  ⟨(some 10), .bin .sub (.t 8) (.t 9), none⟩,
  ⟨(some 11), .bin .add (.t 10) (.k (D.int .i64 (1))), none⟩,
  ⟨(some 12), .bin .rem (.t 7) (.t 11), none⟩,
  ⟨(some 0), .mv (.t 12), none⟩])
 (.seq (.seq (.reg [⟨(some 13), .mv (.t 0), none⟩,
  ⟨(some 14), .bin .lss (.t 13) (.k (D.int .i64 (0))), none⟩])
 (.cond (.t 14)
 (.reg [⟨(some 15), .mv (.t 0), none⟩,
  ⟨(some 16), .mv (.t 2), none⟩,
  ⟨(some 17), .bin .add (.t 15) (.t 16), none⟩,
  ⟨(some 18), .mv (.t 1), none⟩,
  ⟨(some 19), .bin .sub (.t 17) (.t 18), none⟩,
  ⟨(some 20), .bin .add (.t 19) (.k (D.int .i64 (1))), none⟩,
  ⟨(some 0), .mv (.t 20), none⟩])
 .skip))
 (.seq (.reg [⟨(some 21), .mv (.t 1), none⟩,
  ⟨(some 22), .mv (.t 0), none⟩,
  ⟨(some 23), .bin .add (.t 21) (.t 22), none⟩,
  ⟨(some 6), .mv (.t 23), none⟩])
 .ret))))⟩
def a181 : Ann := ⟨[], [⟨false, 0, false⟩], []⟩
def s181 : SFun := ⟨2, 15, [], [(.tmp 4, ⟨false, 0, false⟩)],
 (.seq (.reg [⟨(some 4), .mv (.k (D.int .i64 (0))), none⟩])
 (.seq (.seq (.reg [⟨(some 5), .mv (.t 0), none⟩,
  ⟨(some 6), .len (.t 5), none⟩,
  ⟨(some 7), .bin .eql (.t 6) (.k (D.int .i64 (0))), none⟩])
 (.cond (.t 7)
 (.seq (.reg [⟨(some 4), .mv (.k (D.int .i64 (0))), none⟩])
 .ret)
 .skip))
 (.seq (.reg [⟨(some 8), .mv (.t 0), none⟩,
  ⟨(some 9), .mv (.t 1), none⟩,
  ⟨(some 10), .mv (.t 0), none⟩,
  ⟨(some 11), .len (.t 10), none⟩,
  ⟨(some 12), .bin .rem (.t 9) (.t 11), none⟩,
  ⟨(some 13), .ixs 1 (.t 8) (.t 12), none⟩,
  ⟨(some 14), .load false 1 (.t 13), none⟩,
  ⟨(some 4), .mv (.t 14), none⟩])
 .ret)))⟩
def a180 : Ann := ⟨[], [⟨false, 0, false⟩], []⟩
def s180 : SFun := ⟨1, 21, [], [(.tmp 2, ⟨false, 0, false⟩)],
 (.seq (.reg [⟨(some 2), .mv (.k (D.int .i64 (0))), none⟩])
 (.seq (.seq (.reg [⟨(some 3), .mv (.t 0), none⟩,
  ⟨(some 4), .call false 174 [(.t 3), (.k (D.int .i64 (0))), (.k (D.int .i64 (3)))], none⟩])
 (.block 0 (.seq (.reg [⟨(some 6), .bin .eql (.t 4) (.k (D.int .i64 (0))), none⟩,
  ⟨(some 5), .mv (.t 6), none⟩])
 (.cond (.t 5)
 (.seq (.reg [⟨(some 2), .mv (.k (D.int .i64 (-1))), none⟩])
 .ret)
 (.seq (.reg [⟨(some 8), .bin .eql (.t 4) (.k (D.int .i64 (1))), none⟩,
  ⟨(some 7), .mv (.t 8), none⟩])
 (.cond (.t 7)
 (.seq (.reg [⟨(some 9), .mv (.t 0), none⟩,
  ⟨(some 10), .bin .quo (.t 9) (.k (D.int .i64 (4))), none⟩,
  ⟨(some 11), .call false 174 [(.t 10), (.k (D.int .i64 (0))), (.k (D.int .i64 (15)))], none⟩,
  ⟨(some 2), .mv (.t 11), none⟩])
 .ret)
 (.seq (.reg [⟨(some 13), .bin .eql (.t 4) (.k (D.int .i64 (2))), none⟩,
  ⟨(some 12), .mv (.t 13), none⟩])
 (.cond (.t 12)
 (.seq (.reg [⟨(some 14), .mv (.t 0), none⟩,
  ⟨(some 15), .bin .quo (.t 14) (.k (D.int .i64 (4))), none⟩,
  ⟨(some 16), .call false 174 [(.t 15), (.k (D.int .i64 (0))), (.k (D.int .i64 (255)))], none⟩,
  ⟨(some 2), .mv (.t 16), none⟩])
 .ret)
 .skip))))))))
 (.seq (.reg [⟨(some 17), .mv (.t 0), none⟩,
  ⟨(some 18), .bin .quo (.t 17) (.k (D.int .i64 (4))), none⟩,
  ⟨(some 19), .call false 174 [(.t 18), (.k (D.int .i64 (0))), (.k (D.int .i64 (16777215)))], none⟩,
  ⟨(some 20), .bin .add (.k (D.int .i64 (16777216))) (.t 19), none⟩,
  ⟨(some 2), .mv (.t 20), none⟩])
 .ret)))⟩
def a65 : Ann := ⟨[], [⟨false, 0, false⟩], []⟩
def s65 : SFun := ⟨1, 13, [], [(.cell 2 true 3, ⟨false, 0, false⟩)],
 (.seq (.reg [⟨(some 1), .box 3 (.t 0), none⟩,
  ⟨(some 2), .alloc [(D.int .i64 (0)), (D.int .i64 (0)), (D.int .i64 (0))], none⟩])
 (.seq (.dreg [([], false, ⟨(some 3), .fad 0 (.t 1), none⟩),
  ([], false, ⟨(some 4), .load false 1 (.t 3), none⟩),
  ([], false, ⟨(some 5), .callr 180 [(.t 4)], none⟩),
  ([0, 1, 2], false, ⟨(some 6), .fad 1 (.t 1), none⟩),
  ([0, 1, 2], false, ⟨(some 7), .load false 1 (.t 6), none⟩),
  ([], false, ⟨(some 8), .callr 180 [(.t 7)], none⟩),
  ([0, 1, 2, 3, 4, 5], false, ⟨(some 9), .fad 2 (.t 1), none⟩),
  ([0, 1, 2, 3, 4, 5], false, ⟨(some 10), .load false 1 (.t 9), none⟩),
  ([], true, ⟨(some 11), .call false 174 [(.t 10), (.k (D.int .i64 (0))), (.k (D.int .i64 (255)))], none⟩),
  ([], true, ⟨(some 12), .build [(D.int .i64 (0)), (D.int .i64 (0)), (D.int .i64 (0))] [(0, 1, (.t 5)), (1, 1, (.t 8)), (2, 1, (.t 11))], none⟩),
  ([], true, ⟨none, .store 3 (.t 2) (.t 12), none⟩)])
 .ret))⟩
def a64 : Ann := ⟨[(4, [(3, ⟨false, 0, false⟩), (4, ⟨false, 0, false⟩), (6, ⟨false, 0, false⟩), (1, ⟨true, 0, false⟩), (2, ⟨true, 0, false⟩), (5, ⟨true, 0, false⟩)])], [⟨false, 0, false⟩], []⟩
def s64 : SFun := ⟨1, 79, [], [(.cell 2 true 3, ⟨false, 0, false⟩)],
 (.seq (.reg [⟨(some 1), .box 4 (.t 0), none⟩,
  ⟨(some 2), .alloc [(D.int .i64 (0)), (D.int .i64 (0)), .sn], none⟩])
 (.seq (.dreg [([], false, ⟨(some 10), .fad 0 (.t 1), none⟩),
  ([], false, ⟨(some 11), .load false 1 (.t 10), none⟩),
  ([], false, ⟨(some 12), .call true 174 [(.t 11), (.k (D.int .i64 (1))), (.k (D.int .i64 (5)))], none⟩),
  ([0, 1, 2], false, ⟨(some 13), .fad 1 (.t 1), none⟩),
  ([0, 1, 2], false, ⟨(some 14), .load false 1 (.t 13), none⟩),
  ([], true, ⟨(some 15), .call false 174 [(.t 14), (.k (D.int .i64 (1))), (.k (D.int .i64 (9)))], none⟩),
  ([], true, ⟨(some 3), .mv (.t 12), none⟩),
  ([], true, ⟨(some 4), .mv (.t 15), none⟩)])
 (.seq (.reg [⟨(some 16), .mv (.t 3), none⟩,
  ⟨(some 17), .mv (.t 4), none⟩,
  ⟨(some 18), .build [(D.int .i64 (0)), (D.int .i64 (0)), .sn] [(0, 1, (.t 16)), (1, 1, (.t 17))], none⟩,
  ⟨(some 5), .alloc [(D.int .i64 (0)), (D.int .i64 (0)), .sn], none⟩,
  ⟨none, .store 3 (.t 5) (.t 18), none⟩])
 (.seq (.seq (.reg [⟨(some 6), .mv (.k (D.int .i64 (0))), none⟩])
 (.block 0 (.loop [(3, ⟨false, 0, false⟩), (4, ⟨false, 0, false⟩), (6, ⟨false, 0, false⟩), (1, ⟨true, 0, false⟩), (2, ⟨true, 0, false⟩), (5, ⟨true, 0, false⟩)]
 (.seq (.seq (.reg [⟨(some 19), .mv (.t 6), none⟩,
  ⟨(some 20), .mv (.t 3), none⟩,
  ⟨(some 21), .mv (.t 4), none⟩,
  ⟨(some 22), .bin .mul (.t 20) (.t 21), none⟩,
  ⟨(some 23), .bin .lss (.t 19) (.t 22), none⟩])
 (.cond (.t 23)
 .skip
 (.exit 0)))
 (.seq (.block 1 (.seq (.reg [⟨(some 26), .fad 2 (.t 1), none⟩,
  ⟨(some 27), .load false 1 (.t 26), none⟩,
  ⟨(some 28), .mv (.t 6), none⟩,
  ⟨(some 29), .call false 181 [(.t 27), (.t 28)], none⟩,
  ⟨(some 7), .mv (.t 29), none⟩])
 (.seq (.reg [⟨(some 30), .fad 3 (.t 1), none⟩,
  ⟨(some 31), .load false 1 (.t 30), none⟩,
  ⟨(some 32), .mv (.t 6), none⟩,
  ⟨(some 33), .bin .quo (.t 32) (.k (D.int .i64 (3))), none⟩,
  ⟨(some 34), .call false 181 [(.t 31), (.t 33)], none⟩,
  ⟨(some 8), .mv (.t 34), none⟩])
 (.seq (.reg [⟨(some 35), .mv (.t 8), none⟩,
  ⟨(some 36), .mv (.t 8), none⟩,
  ⟨(some 37), .bin .quo (.t 36) (.k (D.int .i64 (16))), none⟩,
  ⟨(some 38), .mv (.t 8), none⟩,
  ⟨(some 39), .bin .quo (.t 38) (.k (D.int .i64 (64))), none⟩,
  ⟨(some 40), .build [(D.int .i64 (0)), (D.int .i64 (0)), (D.int .i64 (0))] [(0, 1, (.t 35)), (1, 1, (.t 37)), (2, 1, (.t 39))], none⟩,
  ⟨(some 41), .call false 65 [(.t 40)], none⟩,
  ⟨(some 9), .alloc [(D.int .i64 (0)), (D.int .i64 (0)), (D.int .i64 (0))], none⟩,
  ⟨none, .store 3 (.t 9) (.t 41), none⟩])
 (.seq (.seq (.reg [⟨(some 42), .mv (.t 7), none⟩,
  ⟨(some 43), .bin .rem (.t 42) (.k (D.int .i64 (5))), none⟩,
  ⟨(some 44), .bin .eql (.t 43) (.k (D.int .i64 (4))), none⟩,
  ⟨(some 45), .mv (.t 44), none⟩,
  ⟨(some 46), .mv (.t 6), (some (45, true))⟩,
  ⟨(some 47), .bin .add (.t 46) (.k (D.int .i64 (1))), (some (45, true))⟩,
  ⟨(some 48), .mv (.t 4), (some (45, true))⟩,
  ⟨(some 49), .bin .rem (.t 47) (.t 48), (some (45, true))⟩,
  ⟨(some 50), .bin .neq (.t 49) (.k (D.int .i64 (0))), (some (45, true))⟩,
  ⟨(some 51), .pick (.t 45) (.t 50) (.k (D.bool false)), none⟩])
 (.cond (.t 51)
 (.seq (.reg [⟨(some 52), .fad 2 (.t 5), none⟩,
  ⟨(some 53), .load false 1 (.t 52), none⟩,
  ⟨(some 54), .mv (.t 7), none⟩,
  ⟨(some 55), .bin .rem (.t 54) (.k (D.int .i64 (9))), none⟩,
  ⟨(some 56), .bin .add (.k (D.int .i64 (19968))) (.t 55), none⟩,
  ⟨(some 57), .cvi .i32 (.t 56), none⟩,
  ⟨(some 58), .load true 3 (.t 9), none⟩,
  ⟨(some 59), .build [(D.int .i32 (0)), (D.int .i64 (0)), (D.int .i64 (0)), (D.int .i64 (0)), (D.int .i64 (0))] [(0, 1, (.t 57)), (1, 1, (.k (D.int .i64 (1)))), (2, 3, (.t 58))], none⟩,
  ⟨(some 60), .load true 3 (.t 9), none⟩,
  ⟨(some 61), .build [(D.int .i32 (0)), (D.int .i64 (0)), (D.int .i64 (0)), (D.int .i64 (0)), (D.int .i64 (0))] [(1, 1, (.k (D.int .i64 (2)))), (2, 3, (.t 60))], none⟩,
  ⟨(some 62), .bsl false 5 2 [(D.int .i32 (0)), (D.int .i64 (0)), (D.int .i64 (0)), (D.int .i64 (0)), (D.int .i64 (0))] [(0, (.t 59)), (1, (.t 61))], none⟩,
  ⟨(some 63), .append 5 40 (.t 53) (.t 62), none⟩,
  ⟨(some 64), .fad 2 (.t 5), none⟩,
  ⟨none, .store 1 (.t 64) (.t 63), none⟩])
 (.seq (.reg [⟨(some 65), .mv (.t 6), none⟩,
  ⟨(some 66), .bin .add (.t 65) (.k (D.int .i64 (1))), none⟩,
  ⟨(some 6), .mv (.t 66), none⟩])
 (.exit 1)))
 .skip))
 (.dreg [([], false, ⟨(some 67), .fad 2 (.t 5), none⟩),
  ([], false, ⟨(some 68), .load false 1 (.t 67), none⟩),
  ([0, 1], false, ⟨(some 69), .mv (.t 7), none⟩),
  ([0, 1], false, ⟨(some 70), .call true 174 [(.t 69), (.k (D.int .i64 (0))), (.k (D.int .i64 (9)))], none⟩),
  ([0, 1], false, ⟨(some 71), .bin .add (.k (D.int .i64 (97))) (.t 70), none⟩),
  ([0, 1], false, ⟨(some 72), .cvi .i32 (.t 71), none⟩),
  ([0, 1, 2, 3, 4, 5], false, ⟨(some 73), .load true 3 (.t 9), none⟩),
  ([0, 1], false, ⟨(some 74), .build [(D.int .i32 (0)), (D.int .i64 (0)), (D.int .i64 (0)), (D.int .i64 (0)), (D.int .i64 (0))] [(0, 1, (.t 72)), (2, 3, (.t 73))], none⟩),
  ([0, 1], false, ⟨(some 75), .bsl false 5 1 [(D.int .i32 (0)), (D.int .i64 (0)), (D.int .i64 (0)), (D.int .i64 (0)), (D.int .i64 (0))] [(0, (.t 74))], none⟩),
  ([], true, ⟨(some 76), .append 5 40 (.t 68) (.t 75), none⟩),
  ([], true, ⟨(some 77), .fad 2 (.t 5), none⟩),
  ([], true, ⟨none, .store 1 (.t 77) (.t 76), none⟩)]))))))
 (.reg [⟨(some 24), .mv (.t 6), none⟩,
  ⟨(some 25), .bin .add (.t 24) (.k (D.int .i64 (1))), none⟩,
  ⟨(some 6), .mv (.t 25), none⟩]))))))
 (.seq (.reg [⟨(some 78), .load true 3 (.t 5), none⟩,
  ⟨none, .store 3 (.t 2) (.t 78), none⟩])
 .ret)))))⟩
def a66 : Ann := ⟨[], [⟨false, 0, false⟩], []⟩
def s66 : SFun := ⟨1, 122, [], [(.cell 2 true 29, ⟨false, 0, false⟩)],
 (.seq (.reg [⟨(some 1), .box 13 (.t 0), none⟩,
  ⟨(some 2), .alloc [(D.int .i64 (0)), (D.int .i64 (0)), .sn, (D.int .i64 (0)), (D.int .i64 (0)), (D.bool false), (D.int .i64 (0)), (D.int .i64 (0)), (D.int .i64 (0)), (D.int .i64 (0)), (D.int .i64 (0)), (D.int .u64 (0)), (D.int .u8 (0)), (D.int .u8 (0)), (D.int .i64 (0)), (D.bool false), (D.bool false), (D.bool false), (D.bool false), (D.bool false), (D.int .i64 (0)), (D.int .i64 (0)), (D.int .i64 (0)), (D.int .i64 (0)), (D.int .i64 (0)), (D.int .u8 (0)), (D.int .u8 (0)), (D.int .i64 (0)), (D.bool false)], none⟩])
 (.seq (.reg [⟨(some 6), .fad 0 (.t 1), none⟩,
  ⟨(some 7), .load true 4 (.t 6), none⟩,
  ⟨(some 8), .call false 64 [(.t 7)], none⟩,
  ⟨(some 3), .alloc [(D.int .i64 (0)), (D.int .i64 (0)), .sn], none⟩,
  ⟨none, .store 3 (.t 3) (.t 8), none⟩])
 (.seq (.dreg [([], false, ⟨(some 9), .load true 3 (.t 3), none⟩),
  ([0], false, ⟨(some 10), .fad 4 (.t 1), none⟩),
  ([0], false, ⟨(some 11), .load false 1 (.t 10), none⟩),
  ([0, 1, 2], false, ⟨(some 12), .fad 0 (.t 3), none⟩),
  ([0, 1, 2], false, ⟨(some 13), .load false 1 (.t 12), none⟩),
  ([0, 1, 2], false, ⟨(some 14), .bin .sub (.t 13) (.k (D.int .i64 (1))), none⟩),
  ([0], false, ⟨(some 15), .callr 174 [(.t 11), (.k (D.int .i64 (0))), (.t 14)], none⟩),
  ([0, 1, 2, 3, 4, 5, 6], false, ⟨(some 16), .fad 5 (.t 1), none⟩),
  ([0, 1, 2, 3, 4, 5, 6], false, ⟨(some 17), .load false 1 (.t 16), none⟩),
  ([0, 1, 2, 3, 4, 5, 6, 7, 8], false, ⟨(some 18), .fad 1 (.t 3), none⟩),
  ([0, 1, 2, 3, 4, 5, 6, 7, 8], false, ⟨(some 19), .load false 1 (.t 18), none⟩),
  ([0, 1, 2, 3, 4, 5, 6, 7, 8], false, ⟨(some 20), .bin .sub (.t 19) (.k (D.int .i64 (1))), none⟩),
  ([0], false, ⟨(some 21), .callr 174 [(.t 17), (.k (D.int .i64 (0))), (.t 20)], none⟩),
  ([0, 1, 2, 3, 4, 5, 6, 7, 8, 9, 10, 11, 12], false, ⟨(some 22), .fad 0 (.t 3), none⟩),
  ([0, 1, 2, 3, 4, 5, 6, 7, 8, 9, 10, 11, 12], false, ⟨(some 23), .load false 1 (.t 22), none⟩),
  ([0, 1, 2, 3, 4, 5, 6, 7, 8, 9, 10, 11, 12], false, ⟨(some 24), .bin .sub (.t 23) (.k (D.int .i64 (1))), none⟩),
  ([0, 1, 2, 3, 4, 5, 6, 7, 8, 9, 10, 11, 12, 13, 14, 15], false, ⟨(some 25), .fad 9 (.t 1), none⟩),
  ([0, 1, 2, 3, 4, 5, 6, 7, 8, 9, 10, 11, 12, 13, 14, 15], false, ⟨(some 26), .load true 3 (.t 25), none⟩),
  ([0, 13, 14, 15], false, ⟨(some 27), .callr 65 [(.t 26)], none⟩),
  ([0, 1, 2, 3, 4, 5, 6, 7, 8, 9, 10, 11, 12, 13, 14, 15, 16, 17, 18], false, ⟨(some 28), .fad 12 (.t 1), none⟩),
  ([0, 1, 2, 3, 4, 5, 6, 7, 8, 9, 10, 11, 12, 13, 14, 15, 16, 17, 18], false, ⟨(some 29), .load false 1 (.t 28), none⟩),
  ([0, 1, 2, 3, 4, 5, 6, 7, 8, 9, 10, 11, 12, 13, 14, 15, 16, 17, 18, 19, 20], false, ⟨(some 30), .build [(D.int .u8 (0)), (D.int .u8 (0))] [(0, 1, (.k (D.int .u8 (66)))), (1, 1, (.k (D.int .u8 (66))))], none⟩),
  ([], false, ⟨(some 31), .build [(D.int .i64 (0)), (D.int .i64 (0)), .sn, (D.int .i64 (0)), (D.int .i64 (0)), (D.bool false), (D.int .i64 (0)), (D.int .i64 (0)), (D.int .i64 (0)), (D.int .i64 (0)), (D.int .i64 (0)), (D.int .u64 (0)), (D.int .u8 (0)), (D.int .u8 (0)), (D.int .i64 (0)), (D.bool false), (D.bool false), (D.bool false), (D.bool false), (D.bool false), (D.int .i64 (0)), (D.int .i64 (0)), (D.int .i64 (0)), (D.int .i64 (0)), (D.int .i64 (0)), (D.int .u8 (0)), (D.int .u8 (0)), (D.int .i64 (0)), (D.bool false)] [(0, 3, (.t 9)), (3, 1, (.t 15)), (4, 1, (.t 21)), (7, 1, (.t 24)), (8, 3, (.t 27)), (11, 1, (.t 29)), (12, 2, (.t 30))], none⟩),
  ([0, 1, 2, 3, 4, 5, 6, 7, 8, 9, 10, 11, 12, 13, 14, 15, 16, 17, 18, 19, 20, 21, 22], false, ⟨(some 4), .alloc [(D.int .i64 (0)), (D.int .i64 (0)), .sn, (D.int .i64 (0)), (D.int .i64 (0)), (D.bool false), (D.int .i64 (0)), (D.int .i64 (0)), (D.int .i64 (0)), (D.int .i64 (0)), (D.int .i64 (0)), (D.int .u64 (0)), (D.int .u8 (0)), (D.int .u8 (0)), (D.int .i64 (0)), (D.bool false), (D.bool false), (D.bool false), (D.bool false), (D.bool false), (D.int .i64 (0)), (D.int .i64 (0)), (D.int .i64 (0)), (D.int .i64 (0)), (D.int .i64 (0)), (D.int .u8 (0)), (D.int .u8 (0)), (D.int .i64 (0)), (D.bool false)], none⟩),
  ([], true, ⟨none, .store 29 (.t 4) (.t 31), none⟩)])
 (.seq (.seq (.reg [⟨(some 32), .fad 0 (.t 3), none⟩,
  ⟨(some 33), .load false 1 (.t 32), none⟩,
  ⟨(some 34), .bin .gtr (.t 33) (.k (D.int .i64 (1))), none⟩])
 (.cond (.t 34)
 (.seq (.reg [⟨(some 35), .fad 6 (.t 1), none⟩,
  ⟨(some 36), .load false 1 (.t 35), none⟩,
  ⟨(some 37), .fad 0 (.t 3), none⟩,
  ⟨(some 38), .load false 1 (.t 37), none⟩,
  ⟨(some 39), .bin .sub (.t 38) (.k (D.int .i64 (2))), none⟩,
  ⟨(some 40), .call false 174 [(.t 36), (.k (D.int .i64 (0))), (.t 39)], none⟩,
  ⟨(some 41), .fad 6 (.t 4), none⟩,
  ⟨none, .store 1 (.t 41) (.t 40), none⟩])
 (.reg [⟨(some 42), .fad 7 (.t 1), none⟩,
  ⟨(some 43), .load false 1 (.t 42), none⟩,
  ⟨(some 44), .fad 6 (.t 4), none⟩,
  ⟨(some 45), .load false 1 (.t 44), none⟩,
  ⟨(some 46), .bin .add (.t 45) (.k (D.int .i64 (1))), none⟩,
  ⟨(some 47), .fad 0 (.t 3), none⟩,
  ⟨(some 48), .load false 1 (.t 47), none⟩,
  ⟨(some 49), .bin .sub (.t 48) (.k (D.int .i64 (1))), none⟩,
  ⟨(some 50), .call false 174 [(.t 43), (.t 46), (.t 49)], none⟩,
  ⟨(some 51), .fad 7 (.t 4), none⟩,
  ⟨none, .store 1 (.t 51) (.t 50), none⟩]))
 .skip))
 (.seq (.reg [⟨(some 52), .fad 8 (.t 1), none⟩,
  ⟨(some 53), .load false 1 (.t 52), none⟩,
  ⟨(some 5), .mv (.t 53), none⟩])
 (.seq (.reg [⟨(some 54), .mv (.t 5), none⟩,
  ⟨(some 55), .bin .and (.t 54) (.k (D.int .i64 (1))), none⟩,
  ⟨(some 56), .bin .eql (.t 55) (.k (D.int .i64 (0))), none⟩,
  ⟨(some 57), .mv (.t 5), none⟩,
  ⟨(some 58), .bin .and (.t 57) (.k (D.int .i64 (2))), none⟩,
  ⟨(some 59), .bin .eql (.t 58) (.k (D.int .i64 (2))), none⟩,
  ⟨(some 60), .mv (.t 5), none⟩,
  ⟨(some 61), .bin .and (.t 60) (.k (D.int .i64 (4))), none⟩,
  ⟨(some 62), .bin .eql (.t 61) (.k (D.int .i64 (0))), none⟩,
  ⟨(some 63), .mv (.t 5), none⟩,
  ⟨(some 64), .bin .and (.t 63) (.k (D.int .i64 (8))), none⟩,
  ⟨(some 65), .bin .eql (.t 64) (.k (D.int .i64 (8))), none⟩,
  ⟨(some 66), .mv (.t 5), none⟩,
  ⟨(some 67), .bin .and (.t 66) (.k (D.int .i64 (16))), none⟩,
  ⟨(some 68), .bin .eql (.t 67) (.k (D.int .i64 (16))), none⟩,
  ⟨(some 69), .fad 15 (.t 4), none⟩,
  ⟨none, .store 1 (.t 69) (.t 56), none⟩,
  ⟨(some 70), .fad 16 (.t 4), none⟩,
  ⟨none, .store 1 (.t 70) (.t 59), none⟩,
  ⟨(some 71), .fad 17 (.t 4), none⟩,
  ⟨none, .store 1 (.t 71) (.t 62), none⟩,
  ⟨(some 72), .fad 18 (.t 4), none⟩,
  ⟨none, .store 1 (.t 72) (.t 65), none⟩,
  ⟨(some 73), .fad 19 (.t 4), none⟩,
  ⟨none, .store 1 (.t 73) (.t 68), none⟩])
 (.seq (.reg [⟨(some 74), .fad 15 (.t 4), none⟩,
  ⟨(some 75), .load false 1 (.t 74), none⟩,
  ⟨(some 76), .mv (.t 75), none⟩,
  ⟨(some 77), .fad 4 (.t 4), (some (76, true))⟩,
  ⟨(some 78), .load false 1 (.t 77), (some (76, true))⟩,
  ⟨(some 79), .fad 1 (.t 3), (some (76, true))⟩,
  ⟨(some 80), .load false 1 (.t 79), (some (76, true))⟩,
  ⟨(some 81), .bin .sub (.t 80) (.k (D.int .i64 (1))), (some (76, true))⟩,
  ⟨(some 82), .bin .eql (.t 78) (.t 81), (some (76, true))⟩,
  ⟨(some 83), .pick (.t 76) (.t 82) (.k (D.bool false)), none⟩,
  ⟨(some 84), .mv (.t 83), none⟩,
  ⟨(some 85), .mv (.t 5), (some (84, true))⟩,
  ⟨(some 86), .bin .and (.t 85) (.k (D.int .i64 (32))), (some (84, true))⟩,
  ⟨(some 87), .bin .eql (.t 86) (.k (D.int .i64 (32))), (some (84, true))⟩,
  ⟨(some 88), .pick (.t 84) (.t 87) (.k (D.bool false)), none⟩,
  ⟨(some 89), .fad 5 (.t 4), none⟩,
  ⟨none, .store 1 (.t 89) (.t 88), none⟩])
 (.seq (.seq (.reg [⟨(some 90), .mv (.t 5), none⟩,
  ⟨(some 91), .bin .and (.t 90) (.k (D.int .i64 (64))), none⟩,
  ⟨(some 92), .bin .eql (.t 91) (.k (D.int .i64 (64))), none⟩])
 (.cond (.t 92)
 (.reg [⟨(some 93), .fad 12 (.t 4), none⟩,
  ⟨(some 94), .ixa 2 1 (.t 93) (.k (D.int .i64 (0))), none⟩,
  ⟨none, .store 1 (.t 94) (.k (D.int .u8 (48))), none⟩])
 .skip))
 (.seq (.seq (.reg [⟨(some 95), .mv (.t 5), none⟩,
  ⟨(some 96), .bin .and (.t 95) (.k (D.int .i64 (128))), none⟩,
  ⟨(some 97), .bin .eql (.t 96) (.k (D.int .i64 (128))), none⟩])
 (.cond (.t 97)
 (.reg [⟨(some 98), .fad 14 (.t 4), none⟩,
  ⟨none, .store 1 (.t 98) (.k (D.int .i64 (1))), none⟩])
 .skip))
 (.seq (.dreg [([], false, ⟨(some 99), .fad 5 (.t 1), none⟩),
  ([], false, ⟨(some 100), .load false 1 (.t 99), none⟩),
  ([0, 1], false, ⟨(some 101), .fad 0 (.t 3), none⟩),
  ([0, 1], false, ⟨(some 102), .load false 1 (.t 101), none⟩),
  ([0, 1], false, ⟨(some 103), .bin .sub (.t 102) (.k (D.int .i64 (1))), none⟩),
  ([], false, ⟨(some 104), .callr 174 [(.t 100), (.k (D.int .i64 (0))), (.t 103)], none⟩),
  ([0, 1, 2, 3, 4, 5], false, ⟨(some 105), .fad 4 (.t 1), none⟩),
  ([0, 1, 2, 3, 4, 5], false, ⟨(some 106), .load false 1 (.t 105), none⟩),
  ([0, 1, 2, 3, 4, 5, 6, 7], false, ⟨(some 107), .fad 1 (.t 3), none⟩),
  ([0, 1, 2, 3, 4, 5, 6, 7], false, ⟨(some 108), .load false 1 (.t 107), none⟩),
  ([0, 1, 2, 3, 4, 5, 6, 7], false, ⟨(some 109), .bin .sub (.t 108) (.k (D.int .i64 (1))), none⟩),
  ([], false, ⟨(some 110), .callr 174 [(.t 106), (.k (D.int .i64 (0))), (.t 109)], none⟩),
  ([0, 1, 2, 3, 4, 5, 6, 7, 8, 9, 10, 11], false, ⟨(some 111), .fad 8 (.t 1), none⟩),
  ([0, 1, 2, 3, 4, 5, 6, 7, 8, 9, 10, 11], false, ⟨(some 112), .load false 1 (.t 111), none⟩),
  ([0, 1, 2, 3, 4, 5, 6, 7, 8, 9, 10, 11], false, ⟨(some 113), .build [(D.int .i64 (0)), (D.int .i64 (0)), (D.int .i64 (0))] [(0, 1, (.t 112))], none⟩),
  ([], false, ⟨(some 114), .callr 65 [(.t 113)], none⟩),
  ([0, 1, 2, 3, 4, 5, 6, 7, 8, 9, 10, 11, 12, 13, 14, 15], false, ⟨(some 115), .build [(D.int .u8 (0)), (D.int .u8 (0))] [(0, 1, (.k (D.int .u8 (66)))), (1, 1, (.k (D.int .u8 (48))))], none⟩),
  ([0, 1, 2, 3, 4, 5, 6, 7, 8, 9, 10, 11, 12, 13, 14, 15, 16], false, ⟨(some 116), .mv (.t 5), none⟩),
  ([0, 1, 2, 3, 4, 5, 6, 7, 8, 9, 10, 11, 12, 13, 14, 15, 16], false, ⟨(some 117), .bin .and (.t 116) (.k (D.int .i64 (256))), none⟩),
  ([0, 1, 2, 3, 4, 5, 6, 7, 8, 9, 10, 11, 12, 13, 14, 15, 16], false, ⟨(some 118), .bin .eql (.t 117) (.k (D.int .i64 (256))), none⟩),
  ([], true, ⟨(some 119), .build [(D.int .i64 (0)), (D.int .i64 (0)), (D.int .i64 (0)), (D.int .i64 (0)), (D.int .i64 (0)), (D.int .u8 (0)), (D.int .u8 (0)), (D.int .i64 (0)), (D.bool false)] [(0, 1, (.t 104)), (1, 1, (.t 110)), (2, 3, (.t 114)), (5, 2, (.t 115)), (8, 1, (.t 118))], none⟩),
  ([], true, ⟨(some 120), .fad 20 (.t 4), none⟩),
  ([], true, ⟨none, .store 9 (.t 120) (.t 119), none⟩)])
 (.seq (.reg [⟨(some 121), .load true 29 (.t 4), none⟩,
  ⟨none, .store 29 (.t 2) (.t 121), none⟩])
 .ret)))))))))))⟩
def a457 : Ann := ⟨[(4, [(0, ⟨false, 0, false⟩), (1, ⟨false, 0, false⟩), (4, ⟨false, 0, false⟩), (12, ⟨false, 0, false⟩), (13, ⟨false, 0, false⟩)])], [⟨false, 0, false⟩], []⟩
def s457 : SFun := ⟨2, 26, [], [(.tmp 4, ⟨false, 0, false⟩)],
 (.seq (.reg [⟨(some 4), .mv (.k (D.bool false)), none⟩])
 (.seq (.seq (.reg [⟨(some 6), .mv (.t 0), none⟩,
  ⟨(some 7), .len (.t 6), none⟩,
  ⟨(some 8), .mv (.t 1), none⟩,
  ⟨(some 9), .len (.t 8), none⟩,
  ⟨(some 10), .bin .neq (.t 7) (.t 9), none⟩])
 (.cond (.t 10)
 (.seq (.reg [⟨(some 4), .mv (.k (D.bool false)), none⟩])
 .ret)
 .skip))
 (.seq (.seq (.reg [⟨(some 11), .mv (.t 0), none⟩,
  ⟨(some 12), .len (.t 11), none⟩,
  ⟨(some 13), .mv (.k (D.int .i64 (0))), none⟩])
 (.block 0 (.loop [(0, ⟨false, 0, false⟩), (1, ⟨false, 0, false⟩), (4, ⟨false, 0, false⟩), (12, ⟨false, 0, false⟩), (13, ⟨false, 0, false⟩)]
 (.seq (.reg [⟨(some 14), .bin .lss (.t 13) (.t 12), none⟩])
 (.seq (.cond (.t 14)
 .skip
 (.exit 0))
 (.seq (.block 1 (.seq (.reg [⟨(some 15), .mv (.t 13), none⟩,
  ⟨(some 5), .mv (.t 15), none⟩])
 (.seq (.dreg [([], false, ⟨(some 16), .mv (.t 0), none⟩),
  ([0], false, ⟨(some 17), .mv (.t 5), none⟩),
  ([], false, ⟨(some 18), .ixs 1 (.t 16) (.t 17), none⟩),
  ([], false, ⟨(some 19), .load false 1 (.t 18), none⟩),
  ([0, 1, 2, 3], false, ⟨(some 20), .mv (.t 1), none⟩),
  ([0, 1, 2, 3, 4], false, ⟨(some 21), .mv (.t 5), none⟩),
  ([0, 1, 2, 3], false, ⟨(some 22), .ixs 1 (.t 20) (.t 21), none⟩),
  ([0, 1, 2, 3], false, ⟨(some 23), .load false 1 (.t 22), none⟩),
  ([], true, ⟨(some 24), .bin .neq (.t 19) (.t 23), none⟩)])
 (.cond (.t 24)
 (.seq (.reg [⟨(some 4), .mv (.k (D.bool false)), none⟩])
 .ret)
 .skip))))
 (.reg [⟨(some 25), .bin .add (.t 13) (.k (D.int .i64 (1))), none⟩,
  ⟨(some 13), .mv (.t 25), none⟩])))))))
 (.seq (.reg [⟨(some 4), .mv (.k (D.bool true)), none⟩])
 .ret))))⟩
def a450 : Ann := ⟨[], [⟨true, 1, false⟩], []⟩
def n450 : NFun := ⟨1, 8, [], [(.tmp 2, ⟨true, 1, false⟩)],
 (.reg [⟨(some 2), .mv (.k .sn), none⟩]), ⟨(some 3), .mv (.t 0), none⟩, 4, (.t 3), (.cond (.t 4)
 (.seq (.reg [⟨(some 2), .mv (.k .sn), none⟩])
 .ret)
 .skip), (.seq (.reg [⟨(some 5), .bsl true 1 0 [(D.int .i64 (0))] [], none⟩,
  ⟨(some 6), .mv (.t 0), none⟩,
  ⟨(some 7), .append 1 8 (.t 5) (.t 6), none⟩,
  ⟨(some 2), .mv (.t 7), none⟩])
 .ret)⟩
def a382 : Ann := ⟨[], [⟨false, 0, false⟩], []⟩
def s382 : SFun := ⟨2, 16, [], [(.cell 4 true 7, ⟨false, 0, false⟩)],
 (.seq (.reg [⟨(some 4), .alloc [(D.int .i64 (0)), (D.int .i32 (0)), (D.int .u8 (0)), (D.int .u8 (0)), (D.int .u8 (0)), .sn, (D.str [])], none⟩])
 (.seq (.reg [⟨(some 6), .mv (.t 0), none⟩,
  ⟨(some 7), .build [(D.int .i64 (0)), (D.int .i32 (0)), (D.int .u8 (0)), (D.int .u8 (0)), (D.int .u8 (0)), .sn, (D.str [])] [(0, 1, (.k (D.int .i64 (4)))), (4, 1, (.t 6))], none⟩,
  ⟨(some 5), .alloc [(D.int .i64 (0)), (D.int .i32 (0)), (D.int .u8 (0)), (D.int .u8 (0)), (D.int .u8 (0)), .sn, (D.str [])], none⟩,
  ⟨none, .store 7 (.t 5) (.t 7), none⟩])
 (.seq (.seq (.reg [⟨(some 8), .mv (.t 1), none⟩,
  ⟨(some 9), .bsl false 1 1 [(D.int .i64 (0))] [(0, (.k (D.int .i64 (-1))))], none⟩,
  ⟨(some 10), .call false 457 [(.t 8), (.t 9)], none⟩,
  ⟨(some 11), .una .not (.t 10), none⟩])
 (.cond (.t 11)
 (.reg [⟨(some 12), .mv (.t 1), none⟩,
  ⟨(some 13), .call false 450 [(.t 12)], none⟩,
  ⟨(some 14), .fad 5 (.t 5), none⟩,
  ⟨none, .store 1 (.t 14) (.t 13), none⟩])
 .skip))
 (.seq (.reg [⟨(some 15), .load true 7 (.t 5), none⟩,
  ⟨none, .store 7 (.t 4) (.t 15), none⟩])
 .ret))))⟩
def a381 : Ann := ⟨[], [⟨false, 0, false⟩], []⟩
def s381 : SFun := ⟨5, 52, [], [(.tmp 10, ⟨false, 0, false⟩)],
 (.seq (.reg [⟨(some 5), .box 7 (.t 0), none⟩,
  ⟨(some 10), .mv (.k (D.int .i64 (0))), none⟩])
 (.seq (.reg [⟨(some 12), .mv (.t 2), none⟩,
  ⟨(some 11), .mv (.t 12), none⟩])
 (.seq (.seq (.reg [⟨(some 13), .mv (.t 1), none⟩,
  ⟨(some 14), .bin .geq (.t 13) (.k (D.int .i64 (0))), none⟩,
  ⟨(some 15), .mv (.t 14), none⟩,
  ⟨(some 16), .mv (.t 1), (some (15, true))⟩,
  ⟨(some 17), .fad 5 (.t 5), (some (15, true))⟩,
  ⟨(some 18), .load false 1 (.t 17), (some (15, true))⟩,
  ⟨(some 19), .len (.t 18), (some (15, true))⟩,
  ⟨(some 20), .bin .lss (.t 16) (.t 19), (some (15, true))⟩,
  ⟨(some 21), .pick (.t 15) (.t 20) (.k (D.bool false)), none⟩,
  ⟨(some 22), .mv (.t 21), none⟩,
  ⟨(some 23), .fad 5 (.t 5), (some (22, true))⟩,
  ⟨(some 24), .load false 1 (.t 23), (some (22, true))⟩,
  ⟨(some 25), .mv (.t 1), (some (22, true))⟩,
  ⟨(some 26), .ixs 1 (.t 24) (.t 25), (some (22, true))⟩,
  ⟨(some 27), .load false 1 (.t 26), (some (22, true))⟩,
  ⟨(some 28), .bin .neq (.t 27) (.k (D.int .i64 (-1))), (some (22, true))⟩,
  ⟨(some 29), .pick (.t 22) (.t 28) (.k (D.bool false)), none⟩,
  ⟨(some 30), .mv (.t 29), none⟩,
  ⟨(some 31), .fad 5 (.t 5), (some (30, true))⟩,
  ⟨(some 32), .load false 1 (.t 31), (some (30, true))⟩,
  ⟨(some 33), .mv (.t 1), (some (30, true))⟩,
  ⟨(some 34), .ixs 1 (.t 32) (.t 33), (some (30, true))⟩,
  ⟨(some 35), .load false 1 (.t 34), (some (30, true))⟩,
  ⟨(some 36), .bin .neq (.t 35) (.k (D.int .i64 (0))), (some (30, true))⟩,
  ⟨(some 37), .mv (.t 36), (some (30, true))⟩,
  ⟨(some 38), .mv (.t 3), (some (37, false))⟩,
  ⟨(some 39), .bin .leq (.t 38) (.k (D.int .i64 (0))), (some (37, false))⟩,
  ⟨(some 40), .pick (.t 37) (.k (D.bool true)) (.t 39), (some (30, true))⟩,
  ⟨(some 41), .pick (.t 30) (.t 40) (.k (D.bool false)), none⟩])
 (.cond (.t 41)
 (.reg [⟨(some 42), .fad 5 (.t 5), none⟩,
  ⟨(some 43), .load false 1 (.t 42), none⟩,
  ⟨(some 44), .mv (.t 1), none⟩,
  ⟨(some 45), .ixs 1 (.t 43) (.t 44), none⟩,
  ⟨(some 46), .load false 1 (.t 45), none⟩,
  ⟨(some 11), .mv (.t 46), none⟩])
 .skip))
 (.seq (.reg [⟨(some 47), .mv (.t 3), none⟩,
  ⟨(some 48), .mv (.t 11), none⟩,
  ⟨(some 49), .mv (.t 4), none⟩,
  ⟨(some 50), .mn [(.t 48), (.t 49)], none⟩,
  ⟨(some 51), .mx [(.t 47), (.t 50)], none⟩,
  ⟨(some 10), .mv (.t 51), none⟩])
 .ret))))⟩
def a358 : Ann := ⟨[], [⟨false, 0, false⟩, ⟨false, 0, false⟩], []⟩
def s358 : SFun := ⟨1, 71, [], [(.tmp 2, ⟨false, 0, false⟩), (.tmp 3, ⟨false, 0, false⟩)],
 (.seq (.reg [⟨(some 1), .box 7 (.t 0), none⟩,
  ⟨(some 2), .mv (.k (D.int .i64 (0))), none⟩,
  ⟨(some 3), .mv (.k (D.int .i64 (0))), none⟩])
 (.seq (.reg [⟨(some 6), .load true 7 (.t 1), none⟩,
  ⟨(some 7), .call false 381 [(.t 6), (.k (D.int .i64 (0))), (.k (D.int .i64 (0))), (.k (D.int .i64 (0))), (.k (D.int .i64 (65535)))], none⟩,
  ⟨(some 4), .mv (.t 7), none⟩])
 (.seq (.reg [⟨(some 8), .fad 2 (.t 1), none⟩,
  ⟨(some 9), .load false 1 (.t 8), none⟩,
  ⟨(some 10), .bin .eql (.t 9) (.k (D.int .u8 (0))), none⟩,
  ⟨(some 11), .mv (.t 10), none⟩,
  ⟨(some 12), .fad 3 (.t 1), (some (11, true))⟩,
  ⟨(some 13), .load false 1 (.t 12), (some (11, true))⟩,
  ⟨(some 14), .bin .eql (.t 13) (.k (D.int .u8 (0))), (some (11, true))⟩,
  ⟨(some 15), .pick (.t 11) (.t 14) (.k (D.bool false)), none⟩,
  ⟨(some 5), .mv (.t 15), none⟩])
 (.seq (.block 0 (.seq (.reg [⟨(some 17), .fad 0 (.t 1), none⟩,
  ⟨(some 18), .load false 1 (.t 17), none⟩,
  ⟨(some 19), .bin .neq (.t 18) (.k (D.int .i64 (4))), none⟩,
  ⟨(some 16), .mv (.t 19), none⟩])
 (.cond (.t 16)
 .skip
 (.seq (.reg [⟨(some 21), .mv (.t 5), none⟩,
  ⟨(some 22), .mv (.t 21), none⟩,
  ⟨(some 23), .fad 4 (.t 1), (some (22, true))⟩,
  ⟨(some 24), .load false 1 (.t 23), (some (22, true))⟩,
  ⟨(some 25), .bin .eql (.t 24) (.k (D.int .u8 (110))), (some (22, true))⟩,
  ⟨(some 26), .pick (.t 22) (.t 25) (.k (D.bool false)), none⟩,
  ⟨(some 27), .mv (.t 26), none⟩,
  ⟨(some 28), .mv (.t 4), (some (27, true))⟩,
  ⟨(some 29), .bin .eql (.t 28) (.k (D.int .i64 (5))), (some (27, true))⟩,
  ⟨(some 30), .pick (.t 27) (.t 29) (.k (D.bool false)), none⟩,
  ⟨(some 20), .mv (.t 30), none⟩])
 (.cond (.t 20)
 (.seq (.reg [⟨(some 31), .mv (.t 4), none⟩,
  ⟨(some 2), .mv (.k (D.int .i64 (1))), none⟩,
  ⟨(some 3), .mv (.t 31), none⟩])
 .ret)
 (.seq (.reg [⟨(some 33), .mv (.t 5), none⟩,
  ⟨(some 34), .mv (.t 33), none⟩,
  ⟨(some 35), .fad 4 (.t 1), (some (34, true))⟩,
  ⟨(some 36), .load false 1 (.t 35), (some (34, true))⟩,
  ⟨(some 37), .bin .eql (.t 36) (.k (D.int .u8 (110))), (some (34, true))⟩,
  ⟨(some 38), .pick (.t 34) (.t 37) (.k (D.bool false)), none⟩,
  ⟨(some 39), .mv (.t 38), none⟩,
  ⟨(some 40), .mv (.t 4), (some (39, true))⟩,
  ⟨(some 41), .bin .eql (.t 40) (.k (D.int .i64 (6))), (some (39, true))⟩,
  ⟨(some 42), .pick (.t 39) (.t 41) (.k (D.bool false)), none⟩,
  ⟨(some 32), .mv (.t 42), none⟩])
 (.cond (.t 32)
 (.seq (.reg [⟨(some 43), .mv (.t 4), none⟩,
  ⟨(some 2), .mv (.k (D.int .i64 (2))), none⟩,
  ⟨(some 3), .mv (.t 43), none⟩])
 .ret)
 (.seq (.reg [⟨(some 45), .mv (.t 5), none⟩,
  ⟨(some 46), .mv (.t 45), none⟩,
  ⟨(some 47), .fad 4 (.t 1), (some (46, true))⟩,
  ⟨(some 48), .load false 1 (.t 47), (some (46, true))⟩,
  ⟨(some 49), .bin .eql (.t 48) (.k (D.int .u8 (99))), (some (46, true))⟩,
  ⟨(some 50), .pick (.t 46) (.t 49) (.k (D.bool false)), none⟩,
  ⟨(some 51), .mv (.t 50), none⟩,
  ⟨(some 52), .mv (.t 4), (some (51, true))⟩,
  ⟨(some 53), .bin .eql (.t 52) (.k (D.int .i64 (0))), (some (51, true))⟩,
  ⟨(some 54), .pick (.t 51) (.t 53) (.k (D.bool false)), none⟩,
  ⟨(some 44), .mv (.t 54), none⟩])
 (.cond (.t 44)
 (.seq (.reg [⟨(some 55), .mv (.t 4), none⟩,
  ⟨(some 2), .mv (.k (D.int .i64 (3))), none⟩,
  ⟨(some 3), .mv (.t 55), none⟩])
 .ret)
 (.seq (.reg [⟨(some 57), .fad 2 (.t 1), none⟩,
  ⟨(some 58), .load false 1 (.t 57), none⟩,
  ⟨(some 59), .bin .eql (.t 58) (.k (D.int .u8 (63))), none⟩,
  ⟨(some 60), .mv (.t 59), none⟩,
  ⟨(some 61), .fad 3 (.t 1), (some (60, true))⟩,
  ⟨(some 62), .load false 1 (.t 61), (some (60, true))⟩,
  ⟨(some 63), .bin .eql (.t 62) (.k (D.int .u8 (36))), (some (60, true))⟩,
  ⟨(some 64), .pick (.t 60) (.t 63) (.k (D.bool false)), none⟩,
  ⟨(some 65), .mv (.t 64), none⟩,
  ⟨(some 66), .fad 4 (.t 1), (some (65, true))⟩,
  ⟨(some 67), .load false 1 (.t 66), (some (65, true))⟩,
  ⟨(some 68), .bin .eql (.t 67) (.k (D.int .u8 (112))), (some (65, true))⟩,
  ⟨(some 69), .pick (.t 65) (.t 68) (.k (D.bool false)), none⟩,
  ⟨(some 56), .mv (.t 69), none⟩])
 (.cond (.t 56)
 (.seq (.reg [⟨(some 70), .mv (.t 4), none⟩,
  ⟨(some 2), .mv (.k (D.int .i64 (4))), none⟩,
  ⟨(some 3), .mv (.t 70), none⟩])
 .ret)
 .skip)))))))))))
 (.seq (.reg [⟨(some 2), .mv (.k (D.int .i64 (0))), none⟩,
  ⟨(some 3), .mv (.k (D.int .i64 (0))), none⟩])
 .ret)))))⟩
def a102 : Ann := ⟨[], [⟨false, 0, false⟩], []⟩
def s102 : SFun := ⟨1, 15, [], [(.tmp 2, ⟨false, 0, false⟩)],
 (.seq (.reg [⟨(some 2), .mv (.k (D.str [])), none⟩])
 (.seq (.seq (.reg [⟨(some 3), .mv (.t 0), none⟩,
  ⟨(some 4), .bin .lss (.t 3) (.k (D.int .i64 (10))), none⟩])
 (.cond (.t 4)
 (.seq (.reg [⟨(some 5), .mv (.t 0), none⟩,
  ⟨(some 6), .mv (.t 0), none⟩,
  ⟨(some 7), .bin .add (.t 6) (.k (D.int .i64 (1))), none⟩,
  ⟨(some 8), .sls (.k (D.str [48, 49, 50, 51, 52, 53, 54, 55, 56, 57, 97, 98, 99, 100, 101, 102, 103, 104, 105, 106, 107, 108, 109, 110, 111, 112, 113, 114, 115, 116, 117, 118, 119, 120, 121, 122])) (some (.t 5)) (some (.t 7)), none⟩,
  ⟨(some 2), .mv (.t 8), none⟩])
 .ret)
 .skip))
 (.seq (.reg [⟨(some 9), .mv (.t 0), none⟩,
  ⟨(some 10), .bin .mul (.t 9) (.k (D.int .i64 (2))), none⟩,
  ⟨(some 11), .mv (.t 0), none⟩,
  ⟨(some 12), .bin .mul (.t 11) (.k (D.int .i64 (2))), none⟩,
  ⟨(some 13), .bin .add (.t 12) (.k (D.int .i64 (2))), none⟩,
  ⟨(some 14), .sls (.k (D.str [48, 48, 48, 49, 48, 50, 48, 51, 48, 52, 48, 53, 48, 54, 48, 55, 48, 56, 48, 57, 49, 48, 49, 49, 49, 50, 49, 51, 49, 52, 49, 53, 49, 54, 49, 55, 49, 56, 49, 57, 50, 48, 50, 49, 50, 50, 50, 51, 50, 52, 50, 53, 50, 54, 50, 55, 50, 56, 50, 57, 51, 48, 51, 49, 51, 50, 51, 51, 51, 52, 51, 53, 51, 54, 51, 55, 51, 56, 51, 57, 52, 48, 52, 49, 52, 50, 52, 51, 52, 52, 52, 53, 52, 54, 52, 55, 52, 56, 52, 57, 53, 48, 53, 49, 53, 50, 53, 51, 53, 52, 53, 53, 53, 54, 53, 55, 53, 56, 53, 57, 54, 48, 54, 49, 54, 50, 54, 51, 54, 52, 54, 53, 54, 54, 54, 55, 54, 56, 54, 57, 55, 48, 55, 49, 55, 50, 55, 51, 55, 52, 55, 53, 55, 54, 55, 55, 55, 56, 55, 57, 56, 48, 56, 49, 56, 50, 56, 51, 56, 52, 56, 53, 56, 54, 56, 55, 56, 56, 56, 57, 57, 48, 57, 49, 57, 50, 57, 51, 57, 52, 57, 53, 57, 54, 57, 55, 57, 56, 57, 57])) (some (.t 10)) (some (.t 13)), none⟩,
  ⟨(some 2), .mv (.t 14), none⟩])
 .ret)))⟩
def a442 : Ann := ⟨[], [⟨false, 0, false⟩], []⟩
def s442 : SFun := ⟨1, 25, [], [(.tmp 2, ⟨false, 0, false⟩)],
 (.seq (.reg [⟨(some 2), .mv (.k (D.int .i64 (0))), none⟩])
 (.seq (.seq (.reg [⟨(some 3), .mv (.t 0), none⟩,
  ⟨(some 4), .bin .geq (.t 3) (.k (D.int .u64 (4294967296))), none⟩])
 (.cond (.t 4)
 (.seq (.reg [⟨(some 5), .mv (.t 0), none⟩,
  ⟨(some 6), .bin .shr (.t 5) (.k (D.int .u64 (32))), none⟩,
  ⟨(some 0), .mv (.t 6), none⟩])
 (.reg [⟨(some 2), .mv (.k (D.int .i64 (32))), none⟩]))
 .skip))
 (.seq (.seq (.reg [⟨(some 7), .mv (.t 0), none⟩,
  ⟨(some 8), .bin .geq (.t 7) (.k (D.int .u64 (65536))), none⟩])
 (.cond (.t 8)
 (.seq (.reg [⟨(some 9), .mv (.t 0), none⟩,
  ⟨(some 10), .bin .shr (.t 9) (.k (D.int .u64 (16))), none⟩,
  ⟨(some 0), .mv (.t 10), none⟩])
 (.reg [⟨(some 11), .mv (.t 2), none⟩,
  ⟨(some 12), .bin .add (.t 11) (.k (D.int .i64 (16))), none⟩,
  ⟨(some 2), .mv (.t 12), none⟩]))
 .skip))
 (.seq (.seq (.reg [⟨(some 13), .mv (.t 0), none⟩,
  ⟨(some 14), .bin .geq (.t 13) (.k (D.int .u64 (256))), none⟩])
 (.cond (.t 14)
 (.seq (.reg [⟨(some 15), .mv (.t 0), none⟩,
  ⟨(some 16), .bin .shr (.t 15) (.k (D.int .u64 (8))), none⟩,
  ⟨(some 0), .mv (.t 16), none⟩])
 (.reg [⟨(some 17), .mv (.t 2), none⟩,
  ⟨(some 18), .bin .add (.t 17) (.k (D.int .i64 (8))), none⟩,
  ⟨(some 2), .mv (.t 18), none⟩]))
 .skip))
 (.seq (.reg [⟨(some 19), .mv (.t 2), none⟩,
  ⟨(some 20), .mv (.t 0), none⟩,
  ⟨(some 21), .cvi .u8 (.t 20), none⟩,
  ⟨(some 22), .ixt (.k (D.str [0, 1, 2, 2, 3, 3, 3, 3, 4, 4, 4, 4, 4, 4, 4, 4, 5, 5, 5, 5, 5, 5, 5, 5, 5, 5, 5, 5, 5, 5, 5, 5, 6, 6, 6, 6, 6, 6, 6, 6, 6, 6, 6, 6, 6, 6, 6, 6, 6, 6, 6, 6, 6, 6, 6, 6, 6, 6, 6, 6, 6, 6, 6, 6, 7, 7, 7, 7, 7, 7, 7, 7, 7, 7, 7, 7, 7, 7, 7, 7, 7, 7, 7, 7, 7, 7, 7, 7, 7, 7, 7, 7, 7, 7, 7, 7, 7, 7, 7, 7, 7, 7, 7, 7, 7, 7, 7, 7, 7, 7, 7, 7, 7, 7, 7, 7, 7, 7, 7, 7, 7, 7, 7, 7, 7, 7, 7, 7, 8, 8, 8, 8, 8, 8, 8, 8, 8, 8, 8, 8, 8, 8, 8, 8, 8, 8, 8, 8, 8, 8, 8, 8, 8, 8, 8, 8, 8, 8, 8, 8, 8, 8, 8, 8, 8, 8, 8, 8, 8, 8, 8, 8, 8, 8, 8, 8, 8, 8, 8, 8, 8, 8, 8, 8, 8, 8, 8, 8, 8, 8, 8, 8, 8, 8, 8, 8, 8, 8, 8, 8, 8, 8, 8, 8, 8, 8, 8, 8, 8, 8, 8, 8, 8, 8, 8, 8, 8, 8, 8, 8, 8, 8, 8, 8, 8, 8, 8, 8, 8, 8, 8, 8, 8, 8, 8, 8, 8, 8, 8, 8, 8, 8, 8, 8, 8, 8, 8, 8, 8, 8, 8, 8, 8, 8, 8, 8])) (.t 21), none⟩,
  ⟨(some 23), .cvi .i64 (.t 22), none⟩,
  ⟨(some 24), .bin .add (.t 19) (.t 23), none⟩,
  ⟨(some 2), .mv (.t 24), none⟩])
 .ret)))))⟩
def a100 : Ann := ⟨[], [⟨false, 0, false⟩], []⟩
def s100 : SFun := ⟨1, 6, [], [(.tmp 2, ⟨false, 0, false⟩)],
 (.seq (.reg [⟨(some 2), .mv (.k (D.int .i64 (0))), none⟩])
 (.seq (.reg [⟨(some 3), .mv (.t 0), none⟩,
  ⟨(some 4), .bin .mul (.t 3) (.k (D.int .i64 (78913))), none⟩,
  ⟨(some 5), .bin .shr (.t 4) (.k (D.int .u64 (18))), none⟩,
  ⟨(some 2), .mv (.t 5), none⟩])
 .ret))⟩
def a96 : Ann := ⟨[], [⟨false, 0, false⟩], []⟩
def s96 : SFun := ⟨1, 4, [], [(.tmp 2, ⟨false, 0, false⟩)],
 (.seq (.reg [⟨(some 2), .mv (.k (D.int .i64 (0))), none⟩])
 (.seq (.seq (.reg [⟨(some 3), .mv (.t 0), none⟩])
 (.cond (.t 3)
 (.seq (.reg [⟨(some 2), .mv (.k (D.int .i64 (1))), none⟩])
 .ret)
 .skip))
 (.seq (.reg [⟨(some 2), .mv (.k (D.int .i64 (0))), none⟩])
 .ret)))⟩
def a101 : Ann := ⟨[], [⟨false, 0, false⟩], []⟩
def s101 : SFun := ⟨1, 15, [], [(.tmp 2, ⟨false, 0, false⟩)],
 (.seq (.reg [⟨(some 2), .mv (.k (D.int .i64 (0))), none⟩])
 (.seq (.reg [⟨(some 4), .mv (.t 0), none⟩,
  ⟨(some 5), .call false 442 [(.t 4)], none⟩,
  ⟨(some 6), .call false 100 [(.t 5)], none⟩,
  ⟨(some 3), .mv (.t 6), none⟩])
 (.seq (.reg [⟨(some 7), .mv (.t 3), none⟩,
  ⟨(some 8), .mv (.t 0), none⟩,
  ⟨(some 9), .mv (.t 3), none⟩,
  ⟨(some 10), .ixa 20 1 (.k .un) (.t 9), none⟩,
  ⟨(some 11), .load false 1 (.t 10), none⟩,
  ⟨(some 12), .bin .geq (.t 8) (.t 11), none⟩,
  ⟨(some 13), .call false 96 [(.t 12)], none⟩,
  ⟨(some 14), .bin .add (.t 7) (.t 13), none⟩,
  ⟨(some 2), .mv (.t 14), none⟩])
 .ret)))⟩
def a97 : Ann := ⟨[(1, [(1, ⟨false, 0, false⟩), (4, ⟨false, 0, false⟩), (0, ⟨true, 1, false⟩)])], [], []⟩
def s97 : SFun := ⟨2, 167, [], [],
 (.seq (.reg [⟨(some 17), .mv (.t 0), none⟩,
  ⟨(some 18), .len (.t 17), none⟩,
  ⟨(some 4), .mv (.t 18), none⟩])
 (.seq (.block 0 (.loop [(1, ⟨false, 0, false⟩), (4, ⟨false, 0, false⟩), (0, ⟨true, 1, false⟩)]
 (.seq (.seq (.reg [⟨(some 19), .mv (.t 4), none⟩,
  ⟨(some 20), .bin .geq (.t 19) (.k (D.int .i64 (8))), none⟩])
 (.cond (.t 20)
 .skip
 (.exit 0)))
 (.block 1 (.seq (.reg [⟨(some 21), .mv (.t 1), none⟩,
  ⟨(some 22), .bin .rem (.t 21) (.k (D.int .u64 (100000000))), none⟩,
  ⟨(some 23), .cvi .u32 (.t 22), none⟩,
  ⟨(some 5), .mv (.t 23), none⟩])
 (.seq (.reg [⟨(some 24), .mv (.t 1), none⟩,
  ⟨(some 25), .bin .quo (.t 24) (.k (D.int .u64 (100000000))), none⟩,
  ⟨(some 1), .mv (.t 25), none⟩])
 (.seq (.reg [⟨(some 26), .mv (.t 5), none⟩,
  ⟨(some 27), .bin .quo (.t 26) (.k (D.int .u32 (10000))), none⟩,
  ⟨(some 28), .mv (.t 5), none⟩,
  ⟨(some 29), .bin .rem (.t 28) (.k (D.int .u32 (10000))), none⟩,
  ⟨(some 6), .mv (.t 27), none⟩,
  ⟨(some 7), .mv (.t 29), none⟩])
 (.seq (.reg [⟨(some 30), .mv (.t 7), none⟩,
  ⟨(some 31), .bin .quo (.t 30) (.k (D.int .u32 (100))), none⟩,
  ⟨(some 32), .bin .mul (.t 31) (.k (D.int .u32 (2))), none⟩,
  ⟨(some 33), .mv (.t 7), none⟩,
  ⟨(some 34), .bin .rem (.t 33) (.k (D.int .u32 (100))), none⟩,
  ⟨(some 35), .bin .mul (.t 34) (.k (D.int .u32 (2))), none⟩,
  ⟨(some 8), .mv (.t 32), none⟩,
  ⟨(some 9), .mv (.t 35), none⟩])
 (.seq (.reg [⟨(some 36), .mv (.t 6), none⟩,
  ⟨(some 37), .bin .quo (.t 36) (.k (D.int .u32 (100))), none⟩,
  ⟨(some 38), .bin .mul (.t 37) (.k (D.int .u32 (2))), none⟩,
  ⟨(some 39), .mv (.t 6), none⟩,
  ⟨(some 40), .bin .rem (.t 39) (.k (D.int .u32 (100))), none⟩,
  ⟨(some 41), .bin .mul (.t 40) (.k (D.int .u32 (2))), none⟩,
  ⟨(some 10), .mv (.t 38), none⟩,
  ⟨(some 11), .mv (.t 41), none⟩])
 (.seq (.dreg [([], false, ⟨(some 42), .mv (.t 0), none⟩),
  ([0], false, ⟨(some 43), .mv (.t 4), none⟩),
  ([0], false, ⟨(some 44), .bin .sub (.t 43) (.k (D.int .i64 (1))), none⟩),
  ([0, 1, 2], false, ⟨(some 45), .mv (.t 0), none⟩),
  ([0, 1, 2, 3], false, ⟨(some 46), .mv (.t 4), none⟩),
  ([0, 1, 2, 3], false, ⟨(some 47), .bin .sub (.t 46) (.k (D.int .i64 (2))), none⟩),
  ([0, 1, 2, 3, 4, 5], false, ⟨(some 48), .mv (.t 9), none⟩),
  ([0, 1, 2, 3, 4, 5], false, ⟨(some 49), .bin .add (.t 48) (.k (D.int .u32 (1))), none⟩),
  ([0, 1, 2, 3, 4, 5], false, ⟨(some 50), .ixt (.k (D.str [48, 48, 48, 49, 48, 50, 48, 51, 48, 52, 48, 53, 48, 54, 48, 55, 48, 56, 48, 57, 49, 48, 49, 49, 49, 50, 49, 51, 49, 52, 49, 53, 49, 54, 49, 55, 49, 56, 49, 57, 50, 48, 50, 49, 50, 50, 50, 51, 50, 52, 50, 53, 50, 54, 50, 55, 50, 56, 50, 57, 51, 48, 51, 49, 51, 50, 51, 51, 51, 52, 51, 53, 51, 54, 51, 55, 51, 56, 51, 57, 52, 48, 52, 49, 52, 50, 52, 51, 52, 52, 52, 53, 52, 54, 52, 55, 52, 56, 52, 57, 53, 48, 53, 49, 53, 50, 53, 51, 53, 52, 53, 53, 53, 54, 53, 55, 53, 56, 53, 57, 54, 48, 54, 49, 54, 50, 54, 51, 54, 52, 54, 53, 54, 54, 54, 55, 54, 56, 54, 57, 55, 48, 55, 49, 55, 50, 55, 51, 55, 52, 55, 53, 55, 54, 55, 55, 55, 56, 55, 57, 56, 48, 56, 49, 56, 50, 56, 51, 56, 52, 56, 53, 56, 54, 56, 55, 56, 56, 56, 57, 57, 48, 57, 49, 57, 50, 57, 51, 57, 52, 57, 53, 57, 54, 57, 55, 57, 56, 57, 57])) (.t 49), none⟩),
  ([0, 1, 2, 3, 4, 5, 6, 7, 8], false, ⟨(some 51), .mv (.t 9), none⟩),
  ([0, 1, 2, 3, 4, 5, 6, 7, 8], false, ⟨(some 52), .ixt (.k (D.str [48, 48, 48, 49, 48, 50, 48, 51, 48, 52, 48, 53, 48, 54, 48, 55, 48, 56, 48, 57, 49, 48, 49, 49, 49, 50, 49, 51, 49, 52, 49, 53, 49, 54, 49, 55, 49, 56, 49, 57, 50, 48, 50, 49, 50, 50, 50, 51, 50, 52, 50, 53, 50, 54, 50, 55, 50, 56, 50, 57, 51, 48, 51, 49, 51, 50, 51, 51, 51, 52, 51, 53, 51, 54, 51, 55, 51, 56, 51, 57, 52, 48, 52, 49, 52, 50, 52, 51, 52, 52, 52, 53, 52, 54, 52, 55, 52, 56, 52, 57, 53, 48, 53, 49, 53, 50, 53, 51, 53, 52, 53, 53, 53, 54, 53, 55, 53, 56, 53, 57, 54, 48, 54, 49, 54, 50, 54, 51, 54, 52, 54, 53, 54, 54, 54, 55, 54, 56, 54, 57, 55, 48, 55, 49, 55, 50, 55, 51, 55, 52, 55, 53, 55, 54, 55, 55, 55, 56, 55, 57, 56, 48, 56, 49, 56, 50, 56, 51, 56, 52, 56, 53, 56, 54, 56, 55, 56, 56, 56, 57, 57, 48, 57, 49, 57, 50, 57, 51, 57, 52, 57, 53, 57, 54, 57, 55, 57, 56, 57, 57])) (.t 51), none⟩),
  ([3, 4, 5, 9, 10], false, ⟨(some 53), .ixs 1 (.t 42) (.t 44), none⟩),
  ([3, 4, 5, 9, 10], false, ⟨none, .store 1 (.t 53) (.t 50), none⟩),
  ([], true, ⟨(some 54), .ixs 1 (.t 45) (.t 47), none⟩),
  ([], true, ⟨none, .store 1 (.t 54) (.t 52), none⟩)])
 (.seq (.dreg [([], false, ⟨(some 55), .mv (.t 0), none⟩),
  ([0], false, ⟨(some 56), .mv (.t 4), none⟩),
  ([0], false, ⟨(some 57), .bin .sub (.t 56) (.k (D.int .i64 (3))), none⟩),
  ([0, 1, 2], false, ⟨(some 58), .mv (.t 0), none⟩),
  ([0, 1, 2, 3], false, ⟨(some 59), .mv (.t 4), none⟩),
  ([0, 1, 2, 3], false, ⟨(some 60), .bin .sub (.t 59) (.k (D.int .i64 (4))), none⟩),
  ([0, 1, 2, 3, 4, 5], false, ⟨(some 61), .mv (.t 8), none⟩),
  ([0, 1, 2, 3, 4, 5], false, ⟨(some 62), .bin .add (.t 61) (.k (D.int .u32 (1))), none⟩),
  ([0, 1, 2, 3, 4, 5], false, ⟨(some 63), .ixt (.k (D.str [48, 48, 48, 49, 48, 50, 48, 51, 48, 52, 48, 53, 48, 54, 48, 55, 48, 56, 48, 57, 49, 48, 49, 49, 49, 50, 49, 51, 49, 52, 49, 53, 49, 54, 49, 55, 49, 56, 49, 57, 50, 48, 50, 49, 50, 50, 50, 51, 50, 52, 50, 53, 50, 54, 50, 55, 50, 56, 50, 57, 51, 48, 51, 49, 51, 50, 51, 51, 51, 52, 51, 53, 51, 54, 51, 55, 51, 56, 51, 57, 52, 48, 52, 49, 52, 50, 52, 51, 52, 52, 52, 53, 52, 54, 52, 55, 52, 56, 52, 57, 53, 48, 53, 49, 53, 50, 53, 51, 53, 52, 53, 53, 53, 54, 53, 55, 53, 56, 53, 57, 54, 48, 54, 49, 54, 50, 54, 51, 54, 52, 54, 53, 54, 54, 54, 55, 54, 56, 54, 57, 55, 48, 55, 49, 55, 50, 55, 51, 55, 52, 55, 53, 55, 54, 55, 55, 55, 56, 55, 57, 56, 48, 56, 49, 56, 50, 56, 51, 56, 52, 56, 53, 56, 54, 56, 55, 56, 56, 56, 57, 57, 48, 57, 49, 57, 50, 57, 51, 57, 52, 57, 53, 57, 54, 57, 55, 57, 56, 57, 57])) (.t 62), none⟩),
  ([0, 1, 2, 3, 4, 5, 6, 7, 8], false, ⟨(some 64), .mv (.t 8), none⟩),
  ([0, 1, 2, 3, 4, 5, 6, 7, 8], false, ⟨(some 65), .ixt (.k (D.str [48, 48, 48, 49, 48, 50, 48, 51, 48, 52, 48, 53, 48, 54, 48, 55, 48, 56, 48, 57, 49, 48, 49, 49, 49, 50, 49, 51, 49, 52, 49, 53, 49, 54, 49, 55, 49, 56, 49, 57, 50, 48, 50, 49, 50, 50, 50, 51, 50, 52, 50, 53, 50, 54, 50, 55, 50, 56, 50, 57, 51, 48, 51, 49, 51, 50, 51, 51, 51, 52, 51, 53, 51, 54, 51, 55, 51, 56, 51, 57, 52, 48, 52, 49, 52, 50, 52, 51, 52, 52, 52, 53, 52, 54, 52, 55, 52, 56, 52, 57, 53, 48, 53, 49, 53, 50, 53, 51, 53, 52, 53, 53, 53, 54, 53, 55, 53, 56, 53, 57, 54, 48, 54, 49, 54, 50, 54, 51, 54, 52, 54, 53, 54, 54, 54, 55, 54, 56, 54, 57, 55, 48, 55, 49, 55, 50, 55, 51, 55, 52, 55, 53, 55, 54, 55, 55, 55, 56, 55, 57, 56, 48, 56, 49, 56, 50, 56, 51, 56, 52, 56, 53, 56, 54, 56, 55, 56, 56, 56, 57, 57, 48, 57, 49, 57, 50, 57, 51, 57, 52, 57, 53, 57, 54, 57, 55, 57, 56, 57, 57])) (.t 64), none⟩),
  ([3, 4, 5, 9, 10], false, ⟨(some 66), .ixs 1 (.t 55) (.t 57), none⟩),
  ([3, 4, 5, 9, 10], false, ⟨none, .store 1 (.t 66) (.t 63), none⟩),
  ([], true, ⟨(some 67), .ixs 1 (.t 58) (.t 60), none⟩),
  ([], true, ⟨none, .store 1 (.t 67) (.t 65), none⟩)])
 (.seq (.dreg [([], false, ⟨(some 68), .mv (.t 0), none⟩),
  ([0], false, ⟨(some 69), .mv (.t 4), none⟩),
  ([0], false, ⟨(some 70), .bin .sub (.t 69) (.k (D.int .i64 (5))), none⟩),
  ([0, 1, 2], false, ⟨(some 71), .mv (.t 0), none⟩),
  ([0, 1, 2, 3], false, ⟨(some 72), .mv (.t 4), none⟩),
  ([0, 1, 2, 3], false, ⟨(some 73), .bin .sub (.t 72) (.k (D.int .i64 (6))), none⟩),
  ([0, 1, 2, 3, 4, 5], false, ⟨(some 74), .mv (.t 11), none⟩),
  ([0, 1, 2, 3, 4, 5], false, ⟨(some 75), .bin .add (.t 74) (.k (D.int .u32 (1))), none⟩),
  ([0, 1, 2, 3, 4, 5], false, ⟨(some 76), .ixt (.k (D.str [48, 48, 48, 49, 48, 50, 48, 51, 48, 52, 48, 53, 48, 54, 48, 55, 48, 56, 48, 57, 49, 48, 49, 49, 49, 50, 49, 51, 49, 52, 49, 53, 49, 54, 49, 55, 49, 56, 49, 57, 50, 48, 50, 49, 50, 50, 50, 51, 50, 52, 50, 53, 50, 54, 50, 55, 50, 56, 50, 57, 51, 48, 51, 49, 51, 50, 51, 51, 51, 52, 51, 53, 51, 54, 51, 55, 51, 56, 51, 57, 52, 48, 52, 49, 52, 50, 52, 51, 52, 52, 52, 53, 52, 54, 52, 55, 52, 56, 52, 57, 53, 48, 53, 49, 53, 50, 53, 51, 53, 52, 53, 53, 53, 54, 53, 55, 53, 56, 53, 57, 54, 48, 54, 49, 54, 50, 54, 51, 54, 52, 54, 53, 54, 54, 54, 55, 54, 56, 54, 57, 55, 48, 55, 49, 55, 50, 55, 51, 55, 52, 55, 53, 55, 54, 55, 55, 55, 56, 55, 57, 56, 48, 56, 49, 56, 50, 56, 51, 56, 52, 56, 53, 56, 54, 56, 55, 56, 56, 56, 57, 57, 48, 57, 49, 57, 50, 57, 51, 57, 52, 57, 53, 57, 54, 57, 55, 57, 56, 57, 57])) (.t 75), none⟩),
  ([0, 1, 2, 3, 4, 5, 6, 7, 8], false, ⟨(some 77), .mv (.t 11), none⟩),
  ([0, 1, 2, 3, 4, 5, 6, 7, 8], false, ⟨(some 78), .ixt (.k (D.str [48, 48, 48, 49, 48, 50, 48, 51, 48, 52, 48, 53, 48, 54, 48, 55, 48, 56, 48, 57, 49, 48, 49, 49, 49, 50, 49, 51, 49, 52, 49, 53, 49, 54, 49, 55, 49, 56, 49, 57, 50, 48, 50, 49, 50, 50, 50, 51, 50, 52, 50, 53, 50, 54, 50, 55, 50, 56, 50, 57, 51, 48, 51, 49, 51, 50, 51, 51, 51, 52, 51, 53, 51, 54, 51, 55, 51, 56, 51, 57, 52, 48, 52, 49, 52, 50, 52, 51, 52, 52, 52, 53, 52, 54, 52, 55, 52, 56, 52, 57, 53, 48, 53, 49, 53, 50, 53, 51, 53, 52, 53, 53, 53, 54, 53, 55, 53, 56, 53, 57, 54, 48, 54, 49, 54, 50, 54, 51, 54, 52, 54, 53, 54, 54, 54, 55, 54, 56, 54, 57, 55, 48, 55, 49, 55, 50, 55, 51, 55, 52, 55, 53, 55, 54, 55, 55, 55, 56, 55, 57, 56, 48, 56, 49, 56, 50, 56, 51, 56, 52, 56, 53, 56, 54, 56, 55, 56, 56, 56, 57, 57, 48, 57, 49, 57, 50, 57, 51, 57, 52, 57, 53, 57, 54, 57, 55, 57, 56, 57, 57])) (.t 77), none⟩),
  ([3, 4, 5, 9, 10], false, ⟨(some 79), .ixs 1 (.t 68) (.t 70), none⟩),
  ([3, 4, 5, 9, 10], false, ⟨none, .store 1 (.t 79) (.t 76), none⟩),
  ([], true, ⟨(some 80), .ixs 1 (.t 71) (.t 73), none⟩),
  ([], true, ⟨none, .store 1 (.t 80) (.t 78), none⟩)])
 (.seq (.dreg [([], false, ⟨(some 81), .mv (.t 0), none⟩),
  ([0], false, ⟨(some 82), .mv (.t 4), none⟩),
  ([0], false, ⟨(some 83), .bin .sub (.t 82) (.k (D.int .i64 (7))), none⟩),
  ([0, 1, 2], false, ⟨(some 84), .mv (.t 0), none⟩),
  ([0, 1, 2, 3], false, ⟨(some 85), .mv (.t 4), none⟩),
  ([0, 1, 2, 3], false, ⟨(some 86), .bin .sub (.t 85) (.k (D.int .i64 (8))), none⟩),
  ([0, 1, 2, 3, 4, 5], false, ⟨(some 87), .mv (.t 10), none⟩),
  ([0, 1, 2, 3, 4, 5], false, ⟨(some 88), .bin .add (.t 87) (.k (D.int .u32 (1))), none⟩),
  ([0, 1, 2, 3, 4, 5], false, ⟨(some 89), .ixt (.k (D.str [48, 48, 48, 49, 48, 50, 48, 51, 48, 52, 48, 53, 48, 54, 48, 55, 48, 56, 48, 57, 49, 48, 49, 49, 49, 50, 49, 51, 49, 52, 49, 53, 49, 54, 49, 55, 49, 56, 49, 57, 50, 48, 50, 49, 50, 50, 50, 51, 50, 52, 50, 53, 50, 54, 50, 55, 50, 56, 50, 57, 51, 48, 51, 49, 51, 50, 51, 51, 51, 52, 51, 53, 51, 54, 51, 55, 51, 56, 51, 57, 52, 48, 52, 49, 52, 50, 52, 51, 52, 52, 52, 53, 52, 54, 52, 55, 52, 56, 52, 57, 53, 48, 53, 49, 53, 50, 53, 51, 53, 52, 53, 53, 53, 54, 53, 55, 53, 56, 53, 57, 54, 48, 54, 49, 54, 50, 54, 51, 54, 52, 54, 53, 54, 54, 54, 55, 54, 56, 54, 57, 55, 48, 55, 49, 55, 50, 55, 51, 55, 52, 55, 53, 55, 54, 55, 55, 55, 56, 55, 57, 56, 48, 56, 49, 56, 50, 56, 51, 56, 52, 56, 53, 56, 54, 56, 55, 56, 56, 56, 57, 57, 48, 57, 49, 57, 50, 57, 51, 57, 52, 57, 53, 57, 54, 57, 55, 57, 56, 57, 57])) (.t 88), none⟩),
  ([0, 1, 2, 3, 4, 5, 6, 7, 8], false, ⟨(some 90), .mv (.t 10), none⟩),
  ([0, 1, 2, 3, 4, 5, 6, 7, 8], false, ⟨(some 91), .ixt (.k (D.str [48, 48, 48, 49, 48, 50, 48, 51, 48, 52, 48, 53, 48, 54, 48, 55, 48, 56, 48, 57, 49, 48, 49, 49, 49, 50, 49, 51, 49, 52, 49, 53, 49, 54, 49, 55, 49, 56, 49, 57, 50, 48, 50, 49, 50, 50, 50, 51, 50, 52, 50, 53, 50, 54, 50, 55, 50, 56, 50, 57, 51, 48, 51, 49, 51, 50, 51, 51, 51, 52, 51, 53, 51, 54, 51, 55, 51, 56, 51, 57, 52, 48, 52, 49, 52, 50, 52, 51, 52, 52, 52, 53, 52, 54, 52, 55, 52, 56, 52, 57, 53, 48, 53, 49, 53, 50, 53, 51, 53, 52, 53, 53, 53, 54, 53, 55, 53, 56, 53, 57, 54, 48, 54, 49, 54, 50, 54, 51, 54, 52, 54, 53, 54, 54, 54, 55, 54, 56, 54, 57, 55, 48, 55, 49, 55, 50, 55, 51, 55, 52, 55, 53, 55, 54, 55, 55, 55, 56, 55, 57, 56, 48, 56, 49, 56, 50, 56, 51, 56, 52, 56, 53, 56, 54, 56, 55, 56, 56, 56, 57, 57, 48, 57, 49, 57, 50, 57, 51, 57, 52, 57, 53, 57, 54, 57, 55, 57, 56, 57, 57])) (.t 90), none⟩),
  ([3, 4, 5, 9, 10], false, ⟨(some 92), .ixs 1 (.t 81) (.t 83), none⟩),
  ([3, 4, 5, 9, 10], false, ⟨none, .store 1 (.t 92) (.t 89), none⟩),
  ([], true, ⟨(some 93), .ixs 1 (.t 84) (.t 86), none⟩),
  ([], true, ⟨none, .store 1 (.t 93) (.t 91), none⟩)])
 (.reg [⟨(some 94), .mv (.t 4), none⟩,
  ⟨(some 95), .bin .sub (.t 94) (.k (D.int .i64 (8))), none⟩,
  ⟨(some 4), .mv (.t 95), none⟩]))))))))))))))
 (.seq (.reg [⟨(some 96), .mv (.t 1), none⟩,
  ⟨(some 97), .cvi .u32 (.t 96), none⟩,
  ⟨(some 12), .mv (.t 97), none⟩])
 (.seq (.seq (.reg [⟨(some 98), .mv (.t 4), none⟩,
  ⟨(some 99), .bin .geq (.t 98) (.k (D.int .i64 (4))), none⟩])
 (.cond (.t 99)
 (.seq (.reg [⟨(some 100), .mv (.t 12), none⟩,
  ⟨(some 101), .bin .rem (.t 100) (.k (D.int .u32 (10000))), none⟩,
  ⟨(some 13), .mv (.t 101), none⟩])
 (.seq (.reg [⟨(some 102), .mv (.t 12), none⟩,
  ⟨(some 103), .bin .quo (.t 102) (.k (D.int .u32 (10000))), none⟩,
  ⟨(some 12), .mv (.t 103), none⟩])
 (.seq (.reg [⟨(some 104), .mv (.t 13), none⟩,
  ⟨(some 105), .bin .quo (.t 104) (.k (D.int .u32 (100))), none⟩,
  ⟨(some 106), .bin .mul (.t 105) (.k (D.int .u32 (2))), none⟩,
  ⟨(some 107), .mv (.t 13), none⟩,
  ⟨(some 108), .bin .rem (.t 107) (.k (D.int .u32 (100))), none⟩,
  ⟨(some 109), .bin .mul (.t 108) (.k (D.int .u32 (2))), none⟩,
  ⟨(some 14), .mv (.t 106), none⟩,
  ⟨(some 15), .mv (.t 109), none⟩])
 (.seq (.dreg [([], false, ⟨(some 110), .mv (.t 0), none⟩),
  ([0], false, ⟨(some 111), .mv (.t 4), none⟩),
  ([0], false, ⟨(some 112), .bin .sub (.t 111) (.k (D.int .i64 (1))), none⟩),
  ([0, 1, 2], false, ⟨(some 113), .mv (.t 0), none⟩),
  ([0, 1, 2, 3], false, ⟨(some 114), .mv (.t 4), none⟩),
  ([0, 1, 2, 3], false, ⟨(some 115), .bin .sub (.t 114) (.k (D.int .i64 (2))), none⟩),
  ([0, 1, 2, 3, 4, 5], false, ⟨(some 116), .mv (.t 15), none⟩),
  ([0, 1, 2, 3, 4, 5], false, ⟨(some 117), .bin .add (.t 116) (.k (D.int .u32 (1))), none⟩),
  ([0, 1, 2, 3, 4, 5], false, ⟨(some 118), .ixt (.k (D.str [48, 48, 48, 49, 48, 50, 48, 51, 48, 52, 48, 53, 48, 54, 48, 55, 48, 56, 48, 57, 49, 48, 49, 49, 49, 50, 49, 51, 49, 52, 49, 53, 49, 54, 49, 55, 49, 56, 49, 57, 50, 48, 50, 49, 50, 50, 50, 51, 50, 52, 50, 53, 50, 54, 50, 55, 50, 56, 50, 57, 51, 48, 51, 49, 51, 50, 51, 51, 51, 52, 51, 53, 51, 54, 51, 55, 51, 56, 51, 57, 52, 48, 52, 49, 52, 50, 52, 51, 52, 52, 52, 53, 52, 54, 52, 55, 52, 56, 52, 57, 53, 48, 53, 49, 53, 50, 53, 51, 53, 52, 53, 53, 53, 54, 53, 55, 53, 56, 53, 57, 54, 48, 54, 49, 54, 50, 54, 51, 54, 52, 54, 53, 54, 54, 54, 55, 54, 56, 54, 57, 55, 48, 55, 49, 55, 50, 55, 51, 55, 52, 55, 53, 55, 54, 55, 55, 55, 56, 55, 57, 56, 48, 56, 49, 56, 50, 56, 51, 56, 52, 56, 53, 56, 54, 56, 55, 56, 56, 56, 57, 57, 48, 57, 49, 57, 50, 57, 51, 57, 52, 57, 53, 57, 54, 57, 55, 57, 56, 57, 57])) (.t 117), none⟩),
  ([0, 1, 2, 3, 4, 5, 6, 7, 8], false, ⟨(some 119), .mv (.t 15), none⟩),
  ([0, 1, 2, 3, 4, 5, 6, 7, 8], false, ⟨(some 120), .ixt (.k (D.str [48, 48, 48, 49, 48, 50, 48, 51, 48, 52, 48, 53, 48, 54, 48, 55, 48, 56, 48, 57, 49, 48, 49, 49, 49, 50, 49, 51, 49, 52, 49, 53, 49, 54, 49, 55, 49, 56, 49, 57, 50, 48, 50, 49, 50, 50, 50, 51, 50, 52, 50, 53, 50, 54, 50, 55, 50, 56, 50, 57, 51, 48, 51, 49, 51, 50, 51, 51, 51, 52, 51, 53, 51, 54, 51, 55, 51, 56, 51, 57, 52, 48, 52, 49, 52, 50, 52, 51, 52, 52, 52, 53, 52, 54, 52, 55, 52, 56, 52, 57, 53, 48, 53, 49, 53, 50, 53, 51, 53, 52, 53, 53, 53, 54, 53, 55, 53, 56, 53, 57, 54, 48, 54, 49, 54, 50, 54, 51, 54, 52, 54, 53, 54, 54, 54, 55, 54, 56, 54, 57, 55, 48, 55, 49, 55, 50, 55, 51, 55, 52, 55, 53, 55, 54, 55, 55, 55, 56, 55, 57, 56, 48, 56, 49, 56, 50, 56, 51, 56, 52, 56, 53, 56, 54, 56, 55, 56, 56, 56, 57, 57, 48, 57, 49, 57, 50, 57, 51, 57, 52, 57, 53, 57, 54, 57, 55, 57, 56, 57, 57])) (.t 119), none⟩),
  ([3, 4, 5, 9, 10], false, ⟨(some 121), .ixs 1 (.t 110) (.t 112), none⟩),
  ([3, 4, 5, 9, 10], false, ⟨none, .store 1 (.t 121) (.t 118), none⟩),
  ([], true, ⟨(some 122), .ixs 1 (.t 113) (.t 115), none⟩),
  ([], true, ⟨none, .store 1 (.t 122) (.t 120), none⟩)])
 (.seq (.dreg [([], false, ⟨(some 123), .mv (.t 0), none⟩),
  ([0], false, ⟨(some 124), .mv (.t 4), none⟩),
  ([0], false, ⟨(some 125), .bin .sub (.t 124) (.k (D.int .i64 (3))), none⟩),
  ([0, 1, 2], false, ⟨(some 126), .mv (.t 0), none⟩),
  ([0, 1, 2, 3], false, ⟨(some 127), .mv (.t 4), none⟩),
  ([0, 1, 2, 3], false, ⟨(some 128), .bin .sub (.t 127) (.k (D.int .i64 (4))), none⟩),
  ([0, 1, 2, 3, 4, 5], false, ⟨(some 129), .mv (.t 14), none⟩),
  ([0, 1, 2, 3, 4, 5], false, ⟨(some 130), .bin .add (.t 129) (.k (D.int .u32 (1))), none⟩),
  ([0, 1, 2, 3, 4, 5], false, ⟨(some 131), .ixt (.k (D.str [48, 48, 48, 49, 48, 50, 48, 51, 48, 52, 48, 53, 48, 54, 48, 55, 48, 56, 48, 57, 49, 48, 49, 49, 49, 50, 49, 51, 49, 52, 49, 53, 49, 54, 49, 55, 49, 56, 49, 57, 50, 48, 50, 49, 50, 50, 50, 51, 50, 52, 50, 53, 50, 54, 50, 55, 50, 56, 50, 57, 51, 48, 51, 49, 51, 50, 51, 51, 51, 52, 51, 53, 51, 54, 51, 55, 51, 56, 51, 57, 52, 48, 52, 49, 52, 50, 52, 51, 52, 52, 52, 53, 52, 54, 52, 55, 52, 56, 52, 57, 53, 48, 53, 49, 53, 50, 53, 51, 53, 52, 53, 53, 53, 54, 53, 55, 53, 56, 53, 57, 54, 48, 54, 49, 54, 50, 54, 51, 54, 52, 54, 53, 54, 54, 54, 55, 54, 56, 54, 57, 55, 48, 55, 49, 55, 50, 55, 51, 55, 52, 55, 53, 55, 54, 55, 55, 55, 56, 55, 57, 56, 48, 56, 49, 56, 50, 56, 51, 56, 52, 56, 53, 56, 54, 56, 55, 56, 56, 56, 57, 57, 48, 57, 49, 57, 50, 57, 51, 57, 52, 57, 53, 57, 54, 57, 55, 57, 56, 57, 57])) (.t 130), none⟩),
  ([0, 1, 2, 3, 4, 5, 6, 7, 8], false, ⟨(some 132), .mv (.t 14), none⟩),
  ([0, 1, 2, 3, 4, 5, 6, 7, 8], false, ⟨(some 133), .ixt (.k (D.str [48, 48, 48, 49, 48, 50, 48, 51, 48, 52, 48, 53, 48, 54, 48, 55, 48, 56, 48, 57, 49, 48, 49, 49, 49, 50, 49, 51, 49, 52, 49, 53, 49, 54, 49, 55, 49, 56, 49, 57, 50, 48, 50, 49, 50, 50, 50, 51, 50, 52, 50, 53, 50, 54, 50, 55, 50, 56, 50, 57, 51, 48, 51, 49, 51, 50, 51, 51, 51, 52, 51, 53, 51, 54, 51, 55, 51, 56, 51, 57, 52, 48, 52, 49, 52, 50, 52, 51, 52, 52, 52, 53, 52, 54, 52, 55, 52, 56, 52, 57, 53, 48, 53, 49, 53, 50, 53, 51, 53, 52, 53, 53, 53, 54, 53, 55, 53, 56, 53, 57, 54, 48, 54, 49, 54, 50, 54, 51, 54, 52, 54, 53, 54, 54, 54, 55, 54, 56, 54, 57, 55, 48, 55, 49, 55, 50, 55, 51, 55, 52, 55, 53, 55, 54, 55, 55, 55, 56, 55, 57, 56, 48, 56, 49, 56, 50, 56, 51, 56, 52, 56, 53, 56, 54, 56, 55, 56, 56, 56, 57, 57, 48, 57, 49, 57, 50, 57, 51, 57, 52, 57, 53, 57, 54, 57, 55, 57, 56, 57, 57])) (.t 132), none⟩),
  ([3, 4, 5, 9, 10], false, ⟨(some 134), .ixs 1 (.t 123) (.t 125), none⟩),
  ([3, 4, 5, 9, 10], false, ⟨none, .store 1 (.t 134) (.t 131), none⟩),
  ([], true, ⟨(some 135), .ixs 1 (.t 126) (.t 128), none⟩),
  ([], true, ⟨none, .store 1 (.t 135) (.t 133), none⟩)])
 (.reg [⟨(some 136), .mv (.t 4), none⟩,
  ⟨(some 137), .bin .sub (.t 136) (.k (D.int .i64 (4))), none⟩,
  ⟨(some 4), .mv (.t 137), none⟩]))))))
 .skip))
 (.seq (.seq (.reg [⟨(some 138), .mv (.t 4), none⟩,
  ⟨(some 139), .bin .geq (.t 138) (.k (D.int .i64 (2))), none⟩])
 (.cond (.t 139)
 (.seq (.reg [⟨(some 140), .mv (.t 12), none⟩,
  ⟨(some 141), .bin .rem (.t 140) (.k (D.int .u32 (100))), none⟩,
  ⟨(some 142), .bin .mul (.t 141) (.k (D.int .u32 (2))), none⟩,
  ⟨(some 16), .mv (.t 142), none⟩])
 (.seq (.reg [⟨(some 143), .mv (.t 12), none⟩,
  ⟨(some 144), .bin .quo (.t 143) (.k (D.int .u32 (100))), none⟩,
  ⟨(some 12), .mv (.t 144), none⟩])
 (.seq (.dreg [([], false, ⟨(some 145), .mv (.t 0), none⟩),
  ([0], false, ⟨(some 146), .mv (.t 4), none⟩),
  ([0], false, ⟨(some 147), .bin .sub (.t 146) (.k (D.int .i64 (1))), none⟩),
  ([0, 1, 2], false, ⟨(some 148), .mv (.t 0), none⟩),
  ([0, 1, 2, 3], false, ⟨(some 149), .mv (.t 4), none⟩),
  ([0, 1, 2, 3], false, ⟨(some 150), .bin .sub (.t 149) (.k (D.int .i64 (2))), none⟩),
  ([0, 1, 2, 3, 4, 5], false, ⟨(some 151), .mv (.t 16), none⟩),
  ([0, 1, 2, 3, 4, 5], false, ⟨(some 152), .bin .add (.t 151) (.k (D.int .u32 (1))), none⟩),
  ([0, 1, 2, 3, 4, 5], false, ⟨(some 153), .ixt (.k (D.str [48, 48, 48, 49, 48, 50, 48, 51, 48, 52, 48, 53, 48, 54, 48, 55, 48, 56, 48, 57, 49, 48, 49, 49, 49, 50, 49, 51, 49, 52, 49, 53, 49, 54, 49, 55, 49, 56, 49, 57, 50, 48, 50, 49, 50, 50, 50, 51, 50, 52, 50, 53, 50, 54, 50, 55, 50, 56, 50, 57, 51, 48, 51, 49, 51, 50, 51, 51, 51, 52, 51, 53, 51, 54, 51, 55, 51, 56, 51, 57, 52, 48, 52, 49, 52, 50, 52, 51, 52, 52, 52, 53, 52, 54, 52, 55, 52, 56, 52, 57, 53, 48, 53, 49, 53, 50, 53, 51, 53, 52, 53, 53, 53, 54, 53, 55, 53, 56, 53, 57, 54, 48, 54, 49, 54, 50, 54, 51, 54, 52, 54, 53, 54, 54, 54, 55, 54, 56, 54, 57, 55, 48, 55, 49, 55, 50, 55, 51, 55, 52, 55, 53, 55, 54, 55, 55, 55, 56, 55, 57, 56, 48, 56, 49, 56, 50, 56, 51, 56, 52, 56, 53, 56, 54, 56, 55, 56, 56, 56, 57, 57, 48, 57, 49, 57, 50, 57, 51, 57, 52, 57, 53, 57, 54, 57, 55, 57, 56, 57, 57])) (.t 152), none⟩),
  ([0, 1, 2, 3, 4, 5, 6, 7, 8], false, ⟨(some 154), .mv (.t 16), none⟩),
  ([0, 1, 2, 3, 4, 5, 6, 7, 8], false, ⟨(some 155), .ixt (.k (D.str [48, 48, 48, 49, 48, 50, 48, 51, 48, 52, 48, 53, 48, 54, 48, 55, 48, 56, 48, 57, 49, 48, 49, 49, 49, 50, 49, 51, 49, 52, 49, 53, 49, 54, 49, 55, 49, 56, 49, 57, 50, 48, 50, 49, 50, 50, 50, 51, 50, 52, 50, 53, 50, 54, 50, 55, 50, 56, 50, 57, 51, 48, 51, 49, 51, 50, 51, 51, 51, 52, 51, 53, 51, 54, 51, 55, 51, 56, 51, 57, 52, 48, 52, 49, 52, 50, 52, 51, 52, 52, 52, 53, 52, 54, 52, 55, 52, 56, 52, 57, 53, 48, 53, 49, 53, 50, 53, 51, 53, 52, 53, 53, 53, 54, 53, 55, 53, 56, 53, 57, 54, 48, 54, 49, 54, 50, 54, 51, 54, 52, 54, 53, 54, 54, 54, 55, 54, 56, 54, 57, 55, 48, 55, 49, 55, 50, 55, 51, 55, 52, 55, 53, 55, 54, 55, 55, 55, 56, 55, 57, 56, 48, 56, 49, 56, 50, 56, 51, 56, 52, 56, 53, 56, 54, 56, 55, 56, 56, 56, 57, 57, 48, 57, 49, 57, 50, 57, 51, 57, 52, 57, 53, 57, 54, 57, 55, 57, 56, 57, 57])) (.t 154), none⟩),
  ([3, 4, 5, 9, 10], false, ⟨(some 156), .ixs 1 (.t 145) (.t 147), none⟩),
  ([3, 4, 5, 9, 10], false, ⟨none, .store 1 (.t 156) (.t 153), none⟩),
  ([], true, ⟨(some 157), .ixs 1 (.t 148) (.t 150), none⟩),
  ([], true, ⟨none, .store 1 (.t 157) (.t 155), none⟩)])
 (.reg [⟨(some 158), .mv (.t 4), none⟩,
  ⟨(some 159), .bin .sub (.t 158) (.k (D.int .i64 (2))), none⟩,
  ⟨(some 4), .mv (.t 159), none⟩]))))
 .skip))
 (.seq (.reg [⟨(some 160), .mv (.t 4), none⟩,
  ⟨(some 161), .bin .gtr (.t 160) (.k (D.int .i64 (0))), none⟩])
 (.cond (.t 161)
 (.reg [⟨(some 162), .mv (.t 0), none⟩,
  ⟨(some 163), .mv (.t 12), none⟩,
  ⟨(some 164), .bin .add (.k (D.int .u32 (48))) (.t 163), none⟩,
  ⟨(some 165), .cvi .u8 (.t 164), none⟩,
  ⟨(some 166), .ixs 1 (.t 162) (.k (D.int .i64 (0))), none⟩,
  ⟨none, .store 1 (.t 166) (.t 165), none⟩])
 .skip)))))))⟩
def a99 : Ann := ⟨[], [⟨false, 0, false⟩], []⟩
def s99 : SFun := ⟨1, 8, [], [(.tmp 2, ⟨false, 0, false⟩)],
 (.seq (.reg [⟨(some 2), .mv (.k (D.bool false)), none⟩])
 (.seq (.reg [⟨(some 3), .mv (.t 0), none⟩,
  ⟨(some 4), .mv (.t 0), none⟩,
  ⟨(some 5), .bin .sub (.t 4) (.k (D.int .i64 (1))), none⟩,
  ⟨(some 6), .bin .and (.t 3) (.t 5), none⟩,
  ⟨(some 7), .bin .eql (.t 6) (.k (D.int .i64 (0))), none⟩,
  ⟨(some 2), .mv (.t 7), none⟩])
 .ret))⟩
def a447 : Ann := ⟨[], [⟨false, 0, false⟩], []⟩
def s447 : SFun := ⟨1, 14, [], [(.tmp 2, ⟨false, 0, false⟩)],
 (.seq (.reg [⟨(some 2), .mv (.k (D.int .i64 (0))), none⟩])
 (.seq (.seq (.reg [⟨(some 3), .mv (.t 0), none⟩,
  ⟨(some 4), .bin .eql (.t 3) (.k (D.int .u32 (0))), none⟩])
 (.cond (.t 4)
 (.seq (.reg [⟨(some 2), .mv (.k (D.int .i64 (32))), none⟩])
 .ret)
 .skip))
 (.seq (.reg [⟨(some 5), .mv (.t 0), none⟩,
  ⟨(some 6), .mv (.t 0), none⟩,
  ⟨(some 7), .una .neg (.t 6), none⟩,
  ⟨(some 8), .bin .and (.t 5) (.t 7), none⟩,
  ⟨(some 9), .bin .mul (.t 8) (.k (D.int .u32 (125613361))), none⟩,
  ⟨(some 10), .bin .shr (.t 9) (.k (D.int .u64 (27))), none⟩,
  ⟨(some 11), .ixa 32 1 (.k .un) (.t 10), none⟩,
  ⟨(some 12), .load false 1 (.t 11), none⟩,
  ⟨(some 13), .cvi .i64 (.t 12), none⟩,
  ⟨(some 2), .mv (.t 13), none⟩])
 .ret)))⟩
def a448 : Ann := ⟨[], [⟨false, 0, false⟩], []⟩
def s448 : SFun := ⟨1, 14, [], [(.tmp 2, ⟨false, 0, false⟩)],
 (.seq (.reg [⟨(some 2), .mv (.k (D.int .i64 (0))), none⟩])
 (.seq (.seq (.reg [⟨(some 3), .mv (.t 0), none⟩,
  ⟨(some 4), .bin .eql (.t 3) (.k (D.int .u64 (0))), none⟩])
 (.cond (.t 4)
 (.seq (.reg [⟨(some 2), .mv (.k (D.int .i64 (64))), none⟩])
 .ret)
 .skip))
 (.seq (.reg [⟨(some 5), .mv (.t 0), none⟩,
  ⟨(some 6), .mv (.t 0), none⟩,
  ⟨(some 7), .una .neg (.t 6), none⟩,
  ⟨(some 8), .bin .and (.t 5) (.t 7), none⟩,
  ⟨(some 9), .bin .mul (.t 8) (.k (D.int .u64 (285870213051353865))), none⟩,
  ⟨(some 10), .bin .shr (.t 9) (.k (D.int .u64 (58))), none⟩,
  ⟨(some 11), .ixa 64 1 (.k .un) (.t 10), none⟩,
  ⟨(some 12), .load false 1 (.t 11), none⟩,
  ⟨(some 13), .cvi .i64 (.t 12), none⟩,
  ⟨(some 2), .mv (.t 13), none⟩])
 .ret)))⟩
def a446 : Ann := ⟨[], [⟨false, 0, false⟩], []⟩
def s446 : SFun := ⟨1, 8, [], [(.tmp 2, ⟨false, 0, false⟩)],
 (.seq (.reg [⟨(some 2), .mv (.k (D.int .i64 (0))), none⟩])
 (.seq (.cond (.k (D.bool false))
 (.seq (.reg [⟨(some 3), .mv (.t 0), none⟩,
  ⟨(some 4), .cvi .u32 (.t 3), none⟩,
  ⟨(some 5), .call false 447 [(.t 4)], none⟩,
  ⟨(some 2), .mv (.t 5), none⟩])
 .ret)
 .skip)
 (.seq (.reg [⟨(some 6), .mv (.t 0), none⟩,
  ⟨(some 7), .call false 448 [(.t 6)], none⟩,
  ⟨(some 2), .mv (.t 7), none⟩])
 .ret)))⟩
def a98 : Ann := ⟨[(11, [(1, ⟨false, 0, false⟩), (3, ⟨false, 0, false⟩), (4, ⟨false, 0, false⟩), (10, ⟨false, 0, false⟩), (11, ⟨false, 0, false⟩), (13, ⟨false, 0, false⟩), (14, ⟨false, 0, false⟩), (15, ⟨false, 0, false⟩), (16, ⟨false, 0, false⟩), (0, ⟨true, 1, false⟩), (12, ⟨true, 0, false⟩)]), (18, [(1, ⟨false, 0, false⟩), (3, ⟨false, 0, false⟩), (4, ⟨false, 0, false⟩), (10, ⟨false, 0, false⟩), (11, ⟨false, 0, false⟩), (13, ⟨false, 0, false⟩), (17, ⟨false, 0, false⟩), (0, ⟨true, 1, false⟩), (12, ⟨true, 0, false⟩)])], [⟨true, 1, false⟩, ⟨false, 0, false⟩], []⟩
def s98 : SFun := ⟨5, 102, [], [(.tmp 10, ⟨true, 1, false⟩), (.tmp 11, ⟨false, 0, false⟩)],
 (.seq (.reg [⟨(some 10), .mv (.k .sn), none⟩,
  ⟨(some 11), .mv (.k (D.str [])), none⟩])
 (.seq (.seq (.reg [⟨(some 19), .mv (.t 2), none⟩,
  ⟨(some 20), .bin .lss (.t 19) (.k (D.int .i64 (2))), none⟩,
  ⟨(some 21), .mv (.t 20), none⟩,
  ⟨(some 22), .mv (.t 2), (some (21, false))⟩,
  ⟨(some 23), .bin .eql (.t 22) (.k (D.int .i64 (10))), (some (21, false))⟩,
  ⟨(some 24), .pick (.t 21) (.k (D.bool true)) (.t 23), none⟩,
  ⟨(some 25), .mv (.t 24), none⟩,
  ⟨(some 26), .mv (.t 2), (some (25, false))⟩,
  ⟨(some 27), .bin .gtr (.t 26) (.k (D.int .i64 (36))), (some (25, false))⟩,
  ⟨(some 28), .pick (.t 25) (.k (D.bool true)) (.t 27), none⟩])
 (.cond (.t 28)
 (.reg [⟨(some 29), .bad, none⟩,
  ⟨none, .bad, none⟩])
 .skip))
 (.seq (.reg [⟨(some 12), .alloc [(D.int .u8 (0)), (D.int .u8 (0)), (D.int .u8 (0)), (D.int .u8 (0)), (D.int .u8 (0)), (D.int .u8 (0)), (D.int .u8 (0)), (D.int .u8 (0)), (D.int .u8 (0)), (D.int .u8 (0)), (D.int .u8 (0)), (D.int .u8 (0)), (D.int .u8 (0)), (D.int .u8 (0)), (D.int .u8 (0)), (D.int .u8 (0)), (D.int .u8 (0)), (D.int .u8 (0)), (D.int .u8 (0)), (D.int .u8 (0)), (D.int .u8 (0)), (D.int .u8 (0)), (D.int .u8 (0)), (D.int .u8 (0)), (D.int .u8 (0)), (D.int .u8 (0)), (D.int .u8 (0)), (D.int .u8 (0)), (D.int .u8 (0)), (D.int .u8 (0)), (D.int .u8 (0)), (D.int .u8 (0)), (D.int .u8 (0)), (D.int .u8 (0)), (D.int .u8 (0)), (D.int .u8 (0)), (D.int .u8 (0)), (D.int .u8 (0)), (D.int .u8 (0)), (D.int .u8 (0)), (D.int .u8 (0)), (D.int .u8 (0)), (D.int .u8 (0)), (D.int .u8 (0)), (D.int .u8 (0)), (D.int .u8 (0)), (D.int .u8 (0)), (D.int .u8 (0)), (D.int .u8 (0)), (D.int .u8 (0)), (D.int .u8 (0)), (D.int .u8 (0)), (D.int .u8 (0)), (D.int .u8 (0)), (D.int .u8 (0)), (D.int .u8 (0)), (D.int .u8 (0)), (D.int .u8 (0)), (D.int .u8 (0)), (D.int .u8 (0)), (D.int .u8 (0)), (D.int .u8 (0)), (D.int .u8 (0)), (D.int .u8 (0)), (D.int .u8 (0))], none⟩])
 (.seq (.reg [⟨(some 13), .mv (.k (D.int .i64 (65))), none⟩])
 (.seq (.seq (.reg [⟨(some 30), .mv (.t 3), none⟩])
 (.cond (.t 30)
 (.reg [⟨(some 31), .mv (.t 1), none⟩,
  ⟨(some 32), .una .neg (.t 31), none⟩,
  ⟨(some 1), .mv (.t 32), none⟩])
 .skip))
 (.seq (.seq (.reg [⟨(some 33), .mv (.t 2), none⟩,
  ⟨(some 34), .call false 99 [(.t 33)], none⟩])
 (.cond (.t 34)
 (.seq (.reg [⟨(some 35), .mv (.t 2), none⟩,
  ⟨(some 36), .cvi .u64 (.t 35), none⟩,
  ⟨(some 37), .call false 446 [(.t 36)], none⟩,
  ⟨(some 38), .cvi .u64 (.t 37), none⟩,
  ⟨(some 14), .mv (.t 38), none⟩])
 (.seq (.reg [⟨(some 39), .mv (.t 2), none⟩,
  ⟨(some 40), .cvi .u64 (.t 39), none⟩,
  ⟨(some 15), .mv (.t 40), none⟩])
 (.seq (.reg [⟨(some 41), .mv (.t 2), none⟩,
  ⟨(some 42), .cvi .u64 (.t 41), none⟩,
  ⟨(some 43), .bin .sub (.t 42) (.k (D.int .u64 (1))), none⟩,
  ⟨(some 16), .mv (.t 43), none⟩])
 (.seq (.block 0 (.loop [(1, ⟨false, 0, false⟩), (3, ⟨false, 0, false⟩), (4, ⟨false, 0, false⟩), (10, ⟨false, 0, false⟩), (11, ⟨false, 0, false⟩), (13, ⟨false, 0, false⟩), (14, ⟨false, 0, false⟩), (15, ⟨false, 0, false⟩), (16, ⟨false, 0, false⟩), (0, ⟨true, 1, false⟩), (12, ⟨true, 0, false⟩)]
 (.seq (.seq (.reg [⟨(some 44), .mv (.t 1), none⟩,
  ⟨(some 45), .mv (.t 15), none⟩,
  ⟨(some 46), .bin .geq (.t 44) (.t 45), none⟩])
 (.cond (.t 46)
 .skip
 (.exit 0)))
 (.block 1 (.seq (.reg [⟨(some 47), .mv (.t 13), none⟩,
  ⟨(some 48), .bin .sub (.t 47) (.k (D.int .i64 (1))), none⟩,
  ⟨(some 13), .mv (.t 48), none⟩])
 (.seq (.reg [⟨(some 49), .mv (.t 13), none⟩,
  ⟨(some 50), .mv (.t 1), none⟩,
  ⟨(some 51), .mv (.t 16), none⟩,
  ⟨(some 52), .bin .and (.t 50) (.t 51), none⟩,
  ⟨(some 53), .ixt (.k (D.str [48, 49, 50, 51, 52, 53, 54, 55, 56, 57, 97, 98, 99, 100, 101, 102, 103, 104, 105, 106, 107, 108, 109, 110, 111, 112, 113, 114, 115, 116, 117, 118, 119, 120, 121, 122])) (.t 52), none⟩,
  ⟨(some 54), .ixa 65 1 (.t 12) (.t 49), none⟩,
  ⟨none, .store 1 (.t 54) (.t 53), none⟩])
 (.reg [⟨(some 55), .mv (.t 1), none⟩,
  ⟨(some 56), .mv (.t 14), none⟩,
  ⟨(some 57), .bin .shr (.t 55) (.t 56), none⟩,
  ⟨(some 1), .mv (.t 57), none⟩])))))))
 (.seq (.reg [⟨(some 58), .mv (.t 13), none⟩,
  ⟨(some 59), .bin .sub (.t 58) (.k (D.int .i64 (1))), none⟩,
  ⟨(some 13), .mv (.t 59), none⟩])
 (.reg [⟨(some 60), .mv (.t 13), none⟩,
  ⟨(some 61), .mv (.t 1), none⟩,
  ⟨(some 62), .ixt (.k (D.str [48, 49, 50, 51, 52, 53, 54, 55, 56, 57, 97, 98, 99, 100, 101, 102, 103, 104, 105, 106, 107, 108, 109, 110, 111, 112, 113, 114, 115, 116, 117, 118, 119, 120, 121, 122])) (.t 61), none⟩,
  ⟨(some 63), .ixa 65 1 (.t 12) (.t 60), none⟩,
  ⟨none, .store 1 (.t 63) (.t 62), none⟩]))))))
 (.seq (.reg [⟨(some 64), .mv (.t 2), none⟩,
  ⟨(some 65), .cvi .u64 (.t 64), none⟩,
  ⟨(some 17), .mv (.t 65), none⟩])
 (.seq (.block 2 (.loop [(1, ⟨false, 0, false⟩), (3, ⟨false, 0, false⟩), (4, ⟨false, 0, false⟩), (10, ⟨false, 0, false⟩), (11, ⟨false, 0, false⟩), (13, ⟨false, 0, false⟩), (17, ⟨false, 0, false⟩), (0, ⟨true, 1, false⟩), (12, ⟨true, 0, false⟩)]
 (.seq (.seq (.reg [⟨(some 66), .mv (.t 1), none⟩,
  ⟨(some 67), .mv (.t 17), none⟩,
  ⟨(some 68), .bin .geq (.t 66) (.t 67), none⟩])
 (.cond (.t 68)
 .skip
 (.exit 2)))
 (.block 3 (.seq (.reg [⟨(some 69), .mv (.t 13), none⟩,
  ⟨(some 70), .bin .sub (.t 69) (.k (D.int .i64 (1))), none⟩,
  ⟨(some 13), .mv (.t 70), none⟩])
 (.seq (.reg [⟨(some 71), .mv (.t 1), none⟩,
  ⟨(some 72), .mv (.t 17), none⟩,
  ⟨(some 73), .bin .quo (.t 71) (.t 72), none⟩,
  ⟨(some 18), .mv (.t 73), none⟩])
 (.seq (.reg [⟨(some 74), .mv (.t 13), none⟩,
  ⟨(some 75), .mv (.t 1), none⟩,
  ⟨(some 76), .mv (.t 18), none⟩,
  ⟨(some 77), .mv (.t 17), none⟩,
  ⟨(some 78), .bin .mul (.t 76) (.t 77), none⟩,
  ⟨(some 79), .bin .sub (.t 75) (.t 78), none⟩,
  ⟨(some 80), .ixt (.k (D.str [48, 49, 50, 51, 52, 53, 54, 55, 56, 57, 97, 98, 99, 100, 101, 102, 103, 104, 105, 106, 107, 108, 109, 110, 111, 112, 113, 114, 115, 116, 117, 118, 119, 120, 121, 122])) (.t 79), none⟩,
  ⟨(some 81), .ixa 65 1 (.t 12) (.t 74), none⟩,
  ⟨none, .store 1 (.t 81) (.t 80), none⟩])
 (.reg [⟨(some 82), .mv (.t 18), none⟩,
  ⟨(some 1), .mv (.t 82), none⟩]))))))))
 (.seq (.reg [⟨(some 83), .mv (.t 13), none⟩,
  ⟨(some 84), .bin .sub (.t 83) (.k (D.int .i64 (1))), none⟩,
  ⟨(some 13), .mv (.t 84), none⟩])
 (.reg [⟨(some 85), .mv (.t 13), none⟩,
  ⟨(some 86), .mv (.t 1), none⟩,
  ⟨(some 87), .ixt (.k (D.str [48, 49, 50, 51, 52, 53, 54, 55, 56, 57, 97, 98, 99, 100, 101, 102, 103, 104, 105, 106, 107, 108, 109, 110, 111, 112, 113, 114, 115, 116, 117, 118, 119, 120, 121, 122])) (.t 86), none⟩,
  ⟨(some 88), .ixa 65 1 (.t 12) (.t 85), none⟩,
  ⟨none, .store 1 (.t 88) (.t 87), none⟩]))))))
 (.seq (.seq (.reg [⟨(some 89), .mv (.t 3), none⟩])
 (.cond (.t 89)
 (.seq (.reg [⟨(some 90), .mv (.t 13), none⟩,
  ⟨(some 91), .bin .sub (.t 90) (.k (D.int .i64 (1))), none⟩,
  ⟨(some 13), .mv (.t 91), none⟩])
 (.reg [⟨(some 92), .mv (.t 13), none⟩,
  ⟨(some 93), .ixa 65 1 (.t 12) (.t 92), none⟩,
  ⟨none, .store 1 (.t 93) (.k (D.int .u8 (45))), none⟩]))
 .skip))
 (.seq (.seq (.reg [⟨(some 94), .mv (.t 4), none⟩])
 (.cond (.t 94)
 (.seq (.reg [⟨(some 95), .mv (.t 0), none⟩,
  ⟨(some 96), .mv (.t 13), none⟩,
  ⟨(some 97), .bad, none⟩,
  ⟨(some 98), .append 1 1 (.t 95) (.t 97), none⟩,
  ⟨(some 10), .mv (.t 98), none⟩])
 .ret)
 .skip))
 (.seq (.reg [⟨(some 99), .mv (.t 13), none⟩,
  ⟨(some 100), .bad, none⟩,
  ⟨(some 101), .b2s (.t 100), none⟩,
  ⟨(some 11), .mv (.t 101), none⟩])
 .ret)))))))))⟩
def a94 : Ann := ⟨[], [⟨false, 0, false⟩], []⟩
def s94 : SFun := ⟨2, 54, [], [(.tmp 4, ⟨false, 0, false⟩)],
 (.seq (.reg [⟨(some 4), .mv (.k (D.str [])), none⟩])
 (.seq (.seq (.reg [⟨(some 10), .mv (.t 1), none⟩,
  ⟨(some 11), .bin .eql (.t 10) (.k (D.int .i64 (10))), none⟩])
 (.cond (.t 11)
 (.seq (.seq (.reg [⟨(some 12), .mv (.t 0), none⟩,
  ⟨(some 13), .bin .leq (.k (D.int .i64 (0))) (.t 12), none⟩,
  ⟨(some 14), .mv (.t 13), none⟩,
  ⟨(some 15), .mv (.t 0), (some (14, true))⟩,
  ⟨(some 16), .bin .lss (.t 15) (.k (D.int .i64 (100))), (some (14, true))⟩,
  ⟨(some 17), .pick (.t 14) (.t 16) (.k (D.bool false)), none⟩])
 (.cond (.t 17)
 (.seq (.reg [⟨(some 18), .mv (.t 0), none⟩,
  ⟨(some 19), .call false 102 [(.t 18)], none⟩,
  ⟨(some 4), .mv (.t 19), none⟩])
 .ret)
 .skip))
 (.seq (.reg [⟨(some 5), .alloc [(D.int .u8 (0)), (D.int .u8 (0)), (D.int .u8 (0)), (D.int .u8 (0)), (D.int .u8 (0)), (D.int .u8 (0)), (D.int .u8 (0)), (D.int .u8 (0)), (D.int .u8 (0)), (D.int .u8 (0)), (D.int .u8 (0)), (D.int .u8 (0)), (D.int .u8 (0)), (D.int .u8 (0)), (D.int .u8 (0)), (D.int .u8 (0)), (D.int .u8 (0)), (D.int .u8 (0)), (D.int .u8 (0)), (D.int .u8 (0)), (D.int .u8 (0)), (D.int .u8 (0)), (D.int .u8 (0)), (D.int .u8 (0))], none⟩])
 (.seq (.reg [⟨(some 20), .mv (.t 0), none⟩,
  ⟨(some 21), .cvi .u64 (.t 20), none⟩,
  ⟨(some 6), .mv (.t 21), none⟩])
 (.seq (.seq (.reg [⟨(some 22), .mv (.t 0), none⟩,
  ⟨(some 23), .bin .lss (.t 22) (.k (D.int .i64 (0))), none⟩])
 (.cond (.t 23)
 (.reg [⟨(some 24), .mv (.t 6), none⟩,
  ⟨(some 25), .una .neg (.t 24), none⟩,
  ⟨(some 6), .mv (.t 25), none⟩])
 .skip))
 (.seq (.reg [⟨(some 26), .mv (.t 6), none⟩,
  ⟨(some 27), .call false 101 [(.t 26)], none⟩,
  ⟨(some 7), .mv (.t 27), none⟩])
 (.seq (.reg [⟨(some 28), .mv (.t 7), none⟩,
  ⟨(some 29), .bin .add (.k (D.int .i64 (1))) (.t 28), none⟩,
  ⟨(some 30), .bad, none⟩,
  ⟨(some 31), .mv (.t 6), none⟩,
  ⟨(some 32), .call false 97 [(.t 30), (.t 31)], none⟩])
 (.seq (.seq (.reg [⟨(some 33), .mv (.t 0), none⟩,
  ⟨(some 34), .bin .lss (.t 33) (.k (D.int .i64 (0))), none⟩])
 (.cond (.t 34)
 (.seq (.reg [⟨(some 35), .ixa 24 1 (.t 5) (.k (D.int .i64 (0))), none⟩,
  ⟨none, .store 1 (.t 35) (.k (D.int .u8 (45))), none⟩])
 (.seq (.reg [⟨(some 36), .mv (.t 7), none⟩,
  ⟨(some 37), .bin .add (.k (D.int .i64 (1))) (.t 36), none⟩,
  ⟨(some 38), .bad, none⟩,
  ⟨(some 39), .b2s (.t 38), none⟩,
  ⟨(some 4), .mv (.t 39), none⟩])
 .ret))
 .skip))
 (.seq (.reg [⟨(some 40), .mv (.t 7), none⟩,
  ⟨(some 41), .bin .add (.k (D.int .i64 (1))) (.t 40), none⟩,
  ⟨(some 42), .bad, none⟩,
  ⟨(some 43), .b2s (.t 42), none⟩,
  ⟨(some 4), .mv (.t 43), none⟩])
 .ret))))))))
 .skip))
 (.seq (.reg [⟨(some 45), .mv (.t 0), none⟩,
  ⟨(some 46), .cvi .u64 (.t 45), none⟩,
  ⟨(some 47), .mv (.t 1), none⟩,
  ⟨(some 48), .mv (.t 0), none⟩,
  ⟨(some 49), .bin .lss (.t 48) (.k (D.int .i64 (0))), none⟩,
  ⟨(some 50), .call false 98 [(.k .sn), (.t 46), (.t 47), (.t 49), (.k (D.bool false))], none⟩,
  ⟨(some 44), .mv (.t 50), none⟩,
  ⟨(some 51), .ext (.t 44) 0, none⟩,
  ⟨(some 52), .ext (.t 44) 1, none⟩,
  ⟨(some 8), .mv (.t 51), none⟩,
  ⟨(some 9), .mv (.t 52), none⟩])
 (.seq (.reg [⟨(some 53), .mv (.t 9), none⟩,
  ⟨(some 4), .mv (.t 53), none⟩])
 .ret))))⟩
def a95 : Ann := ⟨[], [⟨false, 0, false⟩], []⟩
def s95 : SFun := ⟨1, 5, [], [(.tmp 2, ⟨false, 0, false⟩)],
 (.seq (.reg [⟨(some 2), .mv (.k (D.str [])), none⟩])
 (.seq (.reg [⟨(some 3), .mv (.t 0), none⟩,
  ⟨(some 4), .call false 94 [(.t 3), (.k (D.int .i64 (10)))], none⟩,
  ⟨(some 2), .mv (.t 4), none⟩])
 .ret))⟩
def a466 : Ann := ⟨[], [⟨false, 0, false⟩], []⟩
def s466 : SFun := ⟨1, 5, [], [(.tmp 2, ⟨false, 0, false⟩)],
 (.seq (.reg [⟨(some 2), .mv (.k (D.str [])), none⟩])
 (.seq (.reg [⟨(some 3), .mv (.t 0), none⟩,
  ⟨(some 4), .call false 95 [(.t 3)], none⟩,
  ⟨(some 2), .mv (.t 4), none⟩])
 .ret))⟩
def a357 : Ann := ⟨[], [⟨false, 0, false⟩], []⟩
def s357 : SFun := ⟨2, 11, [], [(.tmp 4, ⟨false, 0, false⟩)],
 (.seq (.reg [⟨(some 4), .mv (.k (D.str [])), none⟩])
 (.seq (.reg [⟨(some 5), .mv (.t 0), none⟩,
  ⟨(some 6), .call false 466 [(.t 5)], none⟩,
  ⟨(some 7), .bin .add (.t 6) (.k (D.str [59])), none⟩,
  ⟨(some 8), .mv (.t 1), none⟩,
  ⟨(some 9), .call false 466 [(.t 8)], none⟩,
  ⟨(some 10), .bin .add (.t 7) (.t 9), none⟩,
  ⟨(some 4), .mv (.t 10), none⟩])
 .ret))⟩
def a336 : Ann := ⟨[], [⟨false, 0, false⟩], []⟩
def s336 : SFun := ⟨2, 29, [], [(.tmp 4, ⟨false, 0, false⟩)],
 (.seq (.reg [⟨(some 2), .box 29 (.t 0), none⟩,
  ⟨(some 4), .mv (.k (D.int .i64 (0))), none⟩])
 (.seq (.reg [⟨(some 8), .mkm, none⟩,
  ⟨(some 9), .fad 18 (.t 2), none⟩,
  ⟨(some 10), .load false 1 (.t 9), none⟩,
  ⟨none, .mup false [1] (.t 8) (.k (D.int .i64 (1))) (.t 10), none⟩,
  ⟨(some 11), .fad 16 (.t 2), none⟩,
  ⟨(some 12), .load false 1 (.t 11), none⟩,
  ⟨none, .mup false [1] (.t 8) (.k (D.int .i64 (6))) (.t 12), none⟩,
  ⟨(some 13), .fad 15 (.t 2), none⟩,
  ⟨(some 14), .load false 1 (.t 13), none⟩,
  ⟨none, .mup false [1] (.t 8) (.k (D.int .i64 (7))) (.t 14), none⟩,
  ⟨(some 15), .fad 17 (.t 2), none⟩,
  ⟨(some 16), .load false 1 (.t 15), none⟩,
  ⟨none, .mup false [1] (.t 8) (.k (D.int .i64 (25))) (.t 16), none⟩,
  ⟨(some 17), .mv (.t 8), none⟩,
  ⟨(some 5), .mv (.t 17), none⟩])
 (.seq (.reg [⟨(some 19), .mv (.t 5), none⟩,
  ⟨(some 20), .mv (.t 1), none⟩,
  ⟨(some 21), .lkp true false [1] (D.bool false) (.t 19) (.t 20), none⟩,
  ⟨(some 18), .mv (.t 21), none⟩,
  ⟨(some 22), .ext (.t 18) 0, none⟩,
  ⟨(some 23), .ext (.t 18) 1, none⟩,
  ⟨(some 6), .mv (.t 22), none⟩,
  ⟨(some 7), .mv (.t 23), none⟩])
 (.seq (.block 0 (.seq (.reg [⟨(some 25), .mv (.t 7), none⟩,
  ⟨(some 26), .una .not (.t 25), none⟩,
  ⟨(some 24), .mv (.t 26), none⟩])
 (.cond (.t 24)
 (.seq (.reg [⟨(some 4), .mv (.k (D.int .i64 (0))), none⟩])
 .ret)
 (.seq (.reg [⟨(some 28), .mv (.t 6), none⟩,
  ⟨(some 27), .mv (.t 28), none⟩])
 (.cond (.t 27)
 (.seq (.reg [⟨(some 4), .mv (.k (D.int .i64 (1))), none⟩])
 .ret)
 .skip)))))
 (.seq (.reg [⟨(some 4), .mv (.k (D.int .i64 (2))), none⟩])
 .ret)))))⟩
def a356 : Ann := ⟨[], [⟨true, 1, false⟩], []⟩
def s356 : SFun := ⟨2, 52, [], [(.tmp 4, ⟨true, 1, false⟩)],
 (.seq (.reg [⟨(some 2), .box 29 (.t 0), none⟩,
  ⟨(some 3), .box 7 (.t 1), none⟩,
  ⟨(some 4), .mv (.k .sn), none⟩])
 (.seq (.seq (.reg [⟨(some 9), .load true 7 (.t 3), none⟩,
  ⟨(some 10), .call false 358 [(.t 9)], none⟩,
  ⟨(some 8), .mv (.t 10), none⟩,
  ⟨(some 11), .ext (.t 8) 0, none⟩,
  ⟨(some 12), .ext (.t 8) 1, none⟩,
  ⟨(some 5), .mv (.t 11), none⟩,
  ⟨(some 6), .mv (.t 12), none⟩])
 (.seq (.reg [⟨(some 13), .mv (.t 5), none⟩])
 (.block 0 (.seq (.reg [⟨(some 15), .bin .eql (.t 13) (.k (D.int .i64 (1))), none⟩,
  ⟨(some 14), .mv (.t 15), none⟩])
 (.cond (.t 14)
 (.seq (.reg [⟨(some 16), .bsl true 1 4 [(D.int .u8 (0))] [(0, (.k (D.int .u8 (27)))), (1, (.k (D.int .u8 (91)))), (2, (.k (D.int .u8 (48)))), (3, (.k (D.int .u8 (110))))], none⟩,
  ⟨(some 17), .cvb (.t 16), none⟩,
  ⟨(some 4), .mv (.t 17), none⟩])
 .ret)
 (.seq (.reg [⟨(some 19), .bin .eql (.t 13) (.k (D.int .i64 (2))), none⟩,
  ⟨(some 18), .mv (.t 19), none⟩])
 (.cond (.t 18)
 (.seq (.reg [⟨(some 20), .fad 3 (.t 2), none⟩,
  ⟨(some 21), .load false 1 (.t 20), none⟩,
  ⟨(some 7), .mv (.t 21), none⟩])
 (.seq (.seq (.reg [⟨(some 22), .fad 16 (.t 2), none⟩,
  ⟨(some 23), .load false 1 (.t 22), none⟩])
 (.cond (.t 23)
 (.reg [⟨(some 24), .mv (.t 7), none⟩,
  ⟨(some 25), .fad 6 (.t 2), none⟩,
  ⟨(some 26), .load false 1 (.t 25), none⟩,
  ⟨(some 27), .bin .sub (.t 24) (.t 26), none⟩,
  ⟨(some 28), .mx [(.t 27), (.k (D.int .i64 (0)))], none⟩,
  ⟨(some 7), .mv (.t 28), none⟩])
 .skip))
 (.seq (.reg [⟨(some 29), .mv (.t 7), none⟩,
  ⟨(some 30), .bin .add (.t 29) (.k (D.int .i64 (1))), none⟩,
  ⟨(some 31), .fad 4 (.t 2), none⟩,
  ⟨(some 32), .load false 1 (.t 31), none⟩,
  ⟨(some 33), .bin .add (.t 32) (.k (D.int .i64 (1))), none⟩,
  ⟨(some 34), .call false 357 [(.t 30), (.t 33)], none⟩,
  ⟨(some 35), .bin .add (.k (D.str [27, 91])) (.t 34), none⟩,
  ⟨(some 36), .bin .add (.t 35) (.k (D.str [82])), none⟩,
  ⟨(some 37), .s2b (.t 36), none⟩,
  ⟨(some 4), .mv (.t 37), none⟩])
 .ret)))
 (.seq (.reg [⟨(some 39), .bin .eql (.t 13) (.k (D.int .i64 (3))), none⟩,
  ⟨(some 38), .mv (.t 39), none⟩])
 (.cond (.t 38)
 (.seq (.reg [⟨(some 40), .bsl true 1 5 [(D.int .u8 (0))] [(0, (.k (D.int .u8 (27)))), (1, (.k (D.int .u8 (91)))), (2, (.k (D.int .u8 (63)))), (3, (.k (D.int .u8 (54)))), (4, (.k (D.int .u8 (99))))], none⟩,
  ⟨(some 41), .cvb (.t 40), none⟩,
  ⟨(some 4), .mv (.t 41), none⟩])
 .ret)
 (.seq (.reg [⟨(some 43), .bin .eql (.t 13) (.k (D.int .i64 (4))), none⟩,
  ⟨(some 42), .mv (.t 43), none⟩])
 (.cond (.t 42)
 (.seq (.reg [⟨(some 44), .mv (.t 6), none⟩,
  ⟨(some 45), .load true 29 (.t 2), none⟩,
  ⟨(some 46), .mv (.t 6), none⟩,
  ⟨(some 47), .call false 336 [(.t 45), (.t 46)], none⟩,
  ⟨(some 48), .call false 357 [(.t 44), (.t 47)], none⟩,
  ⟨(some 49), .bin .add (.k (D.str [27, 91, 63])) (.t 48), none⟩,
  ⟨(some 50), .bin .add (.t 49) (.k (D.str [36, 121])), none⟩,
  ⟨(some 51), .s2b (.t 50), none⟩,
  ⟨(some 4), .mv (.t 51), none⟩])
 .ret)
 .skip)))))))))))
 (.seq (.reg [⟨(some 4), .mv (.k .sn), none⟩])
 .ret)))⟩
def a176 : Ann := ⟨[], [⟨false, 0, false⟩], []⟩
def s176 : SFun := ⟨1, 26, [], [(.tmp 2, ⟨false, 0, false⟩)],
 (.seq (.reg [⟨(some 2), .mv (.k (D.str [])), none⟩])
 (.seq (.seq (.reg [⟨(some 3), .mv (.t 0), none⟩,
  ⟨(some 4), .bin .lss (.t 3) (.k (D.int .i64 (0))), none⟩])
 (.cond (.t 4)
 (.seq (.reg [⟨(some 5), .mv (.t 0), none⟩,
  ⟨(some 6), .una .neg (.t 5), none⟩,
  ⟨(some 7), .call false 176 [(.t 6)], none⟩,
  ⟨(some 8), .bin .add (.k (D.str [45])) (.t 7), none⟩,
  ⟨(some 2), .mv (.t 8), none⟩])
 .ret)
 .skip))
 (.seq (.seq (.reg [⟨(some 9), .mv (.t 0), none⟩,
  ⟨(some 10), .bin .lss (.t 9) (.k (D.int .i64 (10))), none⟩])
 (.cond (.t 10)
 (.seq (.reg [⟨(some 11), .mv (.t 0), none⟩,
  ⟨(some 12), .bin .add (.k (D.int .i64 (48))) (.t 11), none⟩,
  ⟨(some 13), .cvi .u8 (.t 12), none⟩,
  ⟨(some 14), .bsl true 1 1 [(D.int .u8 (0))] [(0, (.t 13))], none⟩,
  ⟨(some 15), .b2s (.t 14), none⟩,
  ⟨(some 2), .mv (.t 15), none⟩])
 .ret)
 .skip))
 (.seq (.dreg [([], false, ⟨(some 16), .mv (.t 0), none⟩),
  ([], false, ⟨(some 17), .bin .quo (.t 16) (.k (D.int .i64 (10))), none⟩),
  ([], false, ⟨(some 18), .call true 176 [(.t 17)], none⟩),
  ([0, 1, 2], false, ⟨(some 19), .mv (.t 0), none⟩),
  ([0, 1, 2], false, ⟨(some 20), .bin .rem (.t 19) (.k (D.int .i64 (10))), none⟩),
  ([0, 1, 2], false, ⟨(some 21), .bin .add (.k (D.int .i64 (48))) (.t 20), none⟩),
  ([0, 1, 2], false, ⟨(some 22), .cvi .u8 (.t 21), none⟩),
  ([0, 1, 2], false, ⟨(some 23), .bsl true 1 1 [(D.int .u8 (0))] [(0, (.t 22))], none⟩),
  ([0, 1, 2], false, ⟨(some 24), .b2s (.t 23), none⟩),
  ([], true, ⟨(some 25), .bin .add (.t 18) (.t 24), none⟩),
  ([], true, ⟨(some 2), .mv (.t 25), none⟩)])
 .ret))))⟩
def a451 : Ann := ⟨[], [⟨true, 5, false⟩], []⟩
def n451 : NFun := ⟨1, 8, [], [(.tmp 2, ⟨true, 5, false⟩)],
 (.reg [⟨(some 2), .mv (.k .sn), none⟩]), ⟨(some 3), .mv (.t 0), none⟩, 4, (.t 3), (.cond (.t 4)
 (.seq (.reg [⟨(some 2), .mv (.k .sn), none⟩])
 .ret)
 .skip), (.seq (.reg [⟨(some 5), .bsl true 5 0 [(D.int .i32 (0)), (D.int .i64 (0)), (D.int .i64 (0)), (D.int .i64 (0)), (D.int .i64 (0))] [], none⟩,
  ⟨(some 6), .mv (.t 0), none⟩,
  ⟨(some 7), .append 5 40 (.t 5) (.t 6), none⟩,
  ⟨(some 2), .mv (.t 7), none⟩])
 .ret)⟩
def a370 : Ann := ⟨[], [⟨false, 0, false⟩], []⟩
def s370 : SFun := ⟨1, 10, [], [(.cell 2 true 29, ⟨false, 0, false⟩)],
 (.seq (.reg [⟨(some 1), .box 29 (.t 0), none⟩,
  ⟨(some 2), .alloc [(D.int .i64 (0)), (D.int .i64 (0)), .sn, (D.int .i64 (0)), (D.int .i64 (0)), (D.bool false), (D.int .i64 (0)), (D.int .i64 (0)), (D.int .i64 (0)), (D.int .i64 (0)), (D.int .i64 (0)), (D.int .u64 (0)), (D.int .u8 (0)), (D.int .u8 (0)), (D.int .i64 (0)), (D.bool false), (D.bool false), (D.bool false), (D.bool false), (D.bool false), (D.int .i64 (0)), (D.int .i64 (0)), (D.int .i64 (0)), (D.int .i64 (0)), (D.int .i64 (0)), (D.int .u8 (0)), (D.int .u8 (0)), (D.int .i64 (0)), (D.bool false)], none⟩])
 (.seq (.reg [⟨(some 3), .fad 0 (.t 1), none⟩,
  ⟨(some 4), .fad 2 (.t 3), none⟩,
  ⟨(some 5), .load false 1 (.t 4), none⟩,
  ⟨(some 6), .call false 451 [(.t 5)], none⟩,
  ⟨(some 7), .fad 0 (.t 1), none⟩,
  ⟨(some 8), .fad 2 (.t 7), none⟩,
  ⟨none, .store 1 (.t 8) (.t 6), none⟩])
 (.seq (.reg [⟨(some 9), .load true 29 (.t 1), none⟩,
  ⟨none, .store 29 (.t 2) (.t 9), none⟩])
 .ret)))⟩
def a115 : Ann := ⟨[], [⟨true, 1, false⟩], []⟩
def s115 : SFun := ⟨0, 2, [], [(.tmp 0, ⟨true, 1, false⟩)],
 (.seq (.reg [⟨(some 0), .mv (.k .sn), none⟩])
 (.seq (.reg [⟨(some 1), .bsl true 1 31 [(D.int .i32 (0))] [(0, (.k (D.int .i32 (9670)))), (1, (.k (D.int .i32 (9618)))), (2, (.k (D.int .i32 (9225)))), (3, (.k (D.int .i32 (9228)))), (4, (.k (D.int .i32 (9229)))), (5, (.k (D.int .i32 (9226)))), (6, (.k (D.int .i32 (176)))), (7, (.k (D.int .i32 (177)))), (8, (.k (D.int .i32 (9252)))), (9, (.k (D.int .i32 (9227)))), (10, (.k (D.int .i32 (9496)))), (11, (.k (D.int .i32 (9488)))), (12, (.k (D.int .i32 (9484)))), (13, (.k (D.int .i32 (9492)))), (14, (.k (D.int .i32 (9532)))), (15, (.k (D.int .i32 (9146)))), (16, (.k (D.int .i32 (9147)))), (17, (.k (D.int .i32 (9472)))), (18, (.k (D.int .i32 (9148)))), (19, (.k (D.int .i32 (9149)))), (20, (.k (D.int .i32 (9500)))), (21, (.k (D.int .i32 (9508)))), (22, (.k (D.int .i32 (9524)))), (23, (.k (D.int .i32 (9516)))), (24, (.k (D.int .i32 (9474)))), (25, (.k (D.int .i32 (8804)))), (26, (.k (D.int .i32 (8805)))), (27, (.k (D.int .i32 (960)))), (28, (.k (D.int .i32 (8800)))), (29, (.k (D.int .i32 (163)))), (30, (.k (D.int .i32 (183))))], none⟩,
  ⟨(some 0), .mv (.t 1), none⟩])
 .ret))⟩
def a114 : Ann := ⟨[], [⟨false, 0, false⟩], []⟩
def s114 : SFun := ⟨1, 26, [], [(.tmp 2, ⟨false, 0, false⟩)],
 (.seq (.reg [⟨(some 2), .mv (.k (D.int .i32 (0))), none⟩])
 (.seq (.seq (.reg [⟨(some 4), .call false 115 [], none⟩,
  ⟨(some 3), .mv (.t 4), none⟩])
 (.block 0 (.seq (.reg [⟨(some 6), .mv (.t 0), none⟩,
  ⟨(some 7), .bin .eql (.t 6) (.k (D.int .u8 (95))), none⟩,
  ⟨(some 5), .mv (.t 7), none⟩])
 (.cond (.t 5)
 (.seq (.reg [⟨(some 2), .mv (.k (D.int .i32 (32))), none⟩])
 .ret)
 (.seq (.reg [⟨(some 9), .mv (.t 0), none⟩,
  ⟨(some 10), .bin .geq (.t 9) (.k (D.int .u8 (96))), none⟩,
  ⟨(some 11), .mv (.t 10), none⟩,
  ⟨(some 12), .mv (.t 0), (some (11, true))⟩,
  ⟨(some 13), .cvi .i64 (.t 12), (some (11, true))⟩,
  ⟨(some 14), .mv (.t 3), (some (11, true))⟩,
  ⟨(some 15), .len (.t 14), (some (11, true))⟩,
  ⟨(some 16), .bin .add (.k (D.int .i64 (96))) (.t 15), (some (11, true))⟩,
  ⟨(some 17), .bin .lss (.t 13) (.t 16), (some (11, true))⟩,
  ⟨(some 18), .pick (.t 11) (.t 17) (.k (D.bool false)), none⟩,
  ⟨(some 8), .mv (.t 18), none⟩])
 (.cond (.t 8)
 (.seq (.reg [⟨(some 19), .mv (.t 3), none⟩,
  ⟨(some 20), .mv (.t 0), none⟩,
  ⟨(some 21), .bin .sub (.t 20) (.k (D.int .u8 (96))), none⟩,
  ⟨(some 22), .ixs 1 (.t 19) (.t 21), none⟩,
  ⟨(some 23), .load false 1 (.t 22), none⟩,
  ⟨(some 2), .mv (.t 23), none⟩])
 .ret)
 .skip))))))
 (.seq (.reg [⟨(some 24), .mv (.t 0), none⟩,
  ⟨(some 25), .cvi .i32 (.t 24), none⟩,
  ⟨(some 2), .mv (.t 25), none⟩])
 .ret)))⟩
def a407 : Ann := ⟨[], [⟨false, 0, false⟩], []⟩
def s407 : SFun := ⟨2, 23, [], [(.tmp 4, ⟨false, 0, false⟩)],
 (.seq (.reg [⟨(some 2), .box 29 (.t 0), none⟩,
  ⟨(some 4), .mv (.k (D.int .i32 (0))), none⟩])
 (.seq (.seq (.reg [⟨(some 5), .fad 14 (.t 2), none⟩,
  ⟨(some 6), .load false 1 (.t 5), none⟩,
  ⟨(some 7), .fad 12 (.t 2), none⟩,
  ⟨(some 8), .ixa 2 1 (.t 7) (.t 6), none⟩,
  ⟨(some 9), .load false 1 (.t 8), none⟩,
  ⟨(some 10), .bin .eql (.t 9) (.k (D.int .u8 (48))), none⟩,
  ⟨(some 11), .mv (.t 10), none⟩,
  ⟨(some 12), .mv (.t 1), (some (11, true))⟩,
  ⟨(some 13), .bin .geq (.t 12) (.k (D.int .i32 (95))), (some (11, true))⟩,
  ⟨(some 14), .pick (.t 11) (.t 13) (.k (D.bool false)), none⟩,
  ⟨(some 15), .mv (.t 14), none⟩,
  ⟨(some 16), .mv (.t 1), (some (15, true))⟩,
  ⟨(some 17), .bin .leq (.t 16) (.k (D.int .i32 (126))), (some (15, true))⟩,
  ⟨(some 18), .pick (.t 15) (.t 17) (.k (D.bool false)), none⟩])
 (.cond (.t 18)
 (.seq (.reg [⟨(some 19), .mv (.t 1), none⟩,
  ⟨(some 20), .cvi .u8 (.t 19), none⟩,
  ⟨(some 21), .call false 114 [(.t 20)], none⟩,
  ⟨(some 4), .mv (.t 21), none⟩])
 .ret)
 .skip))
 (.seq (.reg [⟨(some 22), .mv (.t 1), none⟩,
  ⟨(some 4), .mv (.t 22), none⟩])
 .ret)))⟩
def a110 : Ann := ⟨[], [⟨false, 0, false⟩], []⟩
def s110 : SFun := ⟨3, 15, [], [(.tmp 6, ⟨false, 0, false⟩)],
 (.seq (.reg [⟨(some 6), .mv (.k (D.bool false)), none⟩])
 (.seq (.reg [⟨(some 7), .mv (.t 0), none⟩,
  ⟨(some 8), .mv (.t 1), none⟩,
  ⟨(some 9), .bin .geq (.t 7) (.t 8), none⟩,
  ⟨(some 10), .mv (.t 9), none⟩,
  ⟨(some 11), .mv (.t 0), (some (10, true))⟩,
  ⟨(some 12), .mv (.t 2), (some (10, true))⟩,
  ⟨(some 13), .bin .leq (.t 11) (.t 12), (some (10, true))⟩,
  ⟨(some 14), .pick (.t 10) (.t 13) (.k (D.bool false)), none⟩,
  ⟨(some 6), .mv (.t 14), none⟩])
 .ret))⟩
def a112 : Ann := ⟨[], [⟨false, 0, false⟩], []⟩
def s112 : SFun := ⟨1, 21, [], [(.tmp 2, ⟨false, 0, false⟩)],
 (.seq (.reg [⟨(some 2), .mv (.k (D.bool false)), none⟩])
 (.seq (.reg [⟨(some 3), .mv (.t 0), none⟩,
  ⟨(some 4), .bin .lss (.t 3) (.k (D.int .i32 (32))), none⟩,
  ⟨(some 5), .mv (.t 4), none⟩,
  ⟨(some 6), .mv (.t 0), (some (5, false))⟩,
  ⟨(some 7), .call false 110 [(.t 6), (.k (D.int .i32 (127))), (.k (D.int .i32 (159)))], (some (5, false))⟩,
  ⟨(some 8), .pick (.t 5) (.k (D.bool true)) (.t 7), none⟩,
  ⟨(some 9), .mv (.t 8), none⟩,
  ⟨(some 10), .mv (.t 0), (some (9, false))⟩,
  ⟨(some 11), .call false 110 [(.t 10), (.k (D.int .i32 (768))), (.k (D.int .i32 (879)))], (some (9, false))⟩,
  ⟨(some 12), .pick (.t 9) (.k (D.bool true)) (.t 11), none⟩,
  ⟨(some 13), .mv (.t 12), none⟩,
  ⟨(some 14), .mv (.t 0), (some (13, false))⟩,
  ⟨(some 15), .call false 110 [(.t 14), (.k (D.int .i32 (55296))), (.k (D.int .i32 (57343)))], (some (13, false))⟩,
  ⟨(some 16), .pick (.t 13) (.k (D.bool true)) (.t 15), none⟩,
  ⟨(some 17), .mv (.t 16), none⟩,
  ⟨(some 18), .mv (.t 0), (some (17, false))⟩,
  ⟨(some 19), .bin .gtr (.t 18) (.k (D.int .i32 (1114111))), (some (17, false))⟩,
  ⟨(some 20), .pick (.t 17) (.k (D.bool true)) (.t 19), none⟩,
  ⟨(some 2), .mv (.t 20), none⟩])
 .ret))⟩
def a113 : Ann := ⟨[(2, [(0, ⟨false, 0, false⟩), (2, ⟨false, 0, false⟩), (14, ⟨false, 0, false⟩), (15, ⟨false, 0, false⟩), (16, ⟨false, 0, false⟩)])], [⟨false, 0, false⟩], []⟩
def s113 : SFun := ⟨1, 27, [], [(.tmp 2, ⟨false, 0, false⟩)],
 (.seq (.reg [⟨(some 2), .mv (.k (D.bool false)), none⟩])
 (.seq (.seq (.reg [⟨(some 5), .build [(D.int .i32 (0)), (D.int .i32 (0))] [(0, 1, (.k (D.int .i32 (4352)))), (1, 1, (.k (D.int .i32 (4447))))], none⟩,
  ⟨(some 6), .build [(D.int .i32 (0)), (D.int .i32 (0))] [(0, 1, (.k (D.int .i32 (11904)))), (1, 1, (.k (D.int .i32 (42191))))], none⟩,
  ⟨(some 7), .build [(D.int .i32 (0)), (D.int .i32 (0))] [(0, 1, (.k (D.int .i32 (44032)))), (1, 1, (.k (D.int .i32 (55203))))], none⟩,
  ⟨(some 8), .build [(D.int .i32 (0)), (D.int .i32 (0))] [(0, 1, (.k (D.int .i32 (63744)))), (1, 1, (.k (D.int .i32 (64255))))], none⟩,
  ⟨(some 9), .build [(D.int .i32 (0)), (D.int .i32 (0))] [(0, 1, (.k (D.int .i32 (65072)))), (1, 1, (.k (D.int .i32 (65135))))], none⟩,
  ⟨(some 10), .build [(D.int .i32 (0)), (D.int .i32 (0))] [(0, 1, (.k (D.int .i32 (65280)))), (1, 1, (.k (D.int .i32 (65376))))], none⟩,
  ⟨(some 11), .build [(D.int .i32 (0)), (D.int .i32 (0))] [(0, 1, (.k (D.int .i32 (65504)))), (1, 1, (.k (D.int .i32 (65510))))], none⟩,
  ⟨(some 12), .build [(D.int .i32 (0)), (D.int .i32 (0))] [(0, 1, (.k (D.int .i32 (127744)))), (1, 1, (.k (D.int .i32 (129791))))], none⟩,
  ⟨(some 13), .build [(D.int .i32 (0)), (D.int .i32 (0))] [(0, 1, (.k (D.int .i32 (131072)))), (1, 1, (.k (D.int .i32 (262141))))], none⟩,
  ⟨(some 14), .bsl false 2 9 [(D.int .i32 (0)), (D.int .i32 (0))] [(0, (.t 5)), (1, (.t 6)), (2, (.t 7)), (3, (.t 8)), (4, (.t 9)), (5, (.t 10)), (6, (.t 11)), (7, (.t 12)), (8, (.t 13))], none⟩,
  ⟨(some 15), .len (.t 14), none⟩,
  ⟨(some 16), .mv (.k (D.int .i64 (0))), none⟩])
 (.block 0 (.loop [(0, ⟨false, 0, false⟩), (2, ⟨false, 0, false⟩), (14, ⟨false, 0, false⟩), (15, ⟨false, 0, false⟩), (16, ⟨false, 0, false⟩)]
 (.seq (.reg [⟨(some 17), .bin .lss (.t 16) (.t 15), none⟩])
 (.seq (.cond (.t 17)
 .skip
 (.exit 0))
 (.seq (.block 1 (.seq (.reg [⟨(some 18), .ixs 2 (.t 14) (.t 16), none⟩,
  ⟨(some 19), .load true 2 (.t 18), none⟩,
  ⟨(some 4), .alloc [(D.int .i32 (0)), (D.int .i32 (0))], none⟩,
  ⟨none, .store 2 (.t 4) (.t 19), none⟩])
 (.seq (.reg [⟨(some 20), .mv (.t 0), none⟩,
  ⟨(some 21), .ixa 2 1 (.t 4) (.k (D.int .i64 (0))), none⟩,
  ⟨(some 22), .load false 1 (.t 21), none⟩,
  ⟨(some 23), .ixa 2 1 (.t 4) (.k (D.int .i64 (1))), none⟩,
  ⟨(some 24), .load false 1 (.t 23), none⟩,
  ⟨(some 25), .call false 110 [(.t 20), (.t 22), (.t 24)], none⟩])
 (.cond (.t 25)
 (.seq (.reg [⟨(some 2), .mv (.k (D.bool true)), none⟩])
 .ret)
 .skip))))
 (.reg [⟨(some 26), .bin .add (.t 16) (.k (D.int .i64 (1))), none⟩,
  ⟨(some 16), .mv (.t 26), none⟩])))))))
 (.seq (.reg [⟨(some 2), .mv (.k (D.bool false)), none⟩])
 .ret)))⟩
def a109 : Ann := ⟨[], [⟨false, 0, false⟩], []⟩
def s109 : SFun := ⟨1, 9, [], [(.tmp 2, ⟨false, 0, false⟩)],
 (.seq (.reg [⟨(some 2), .mv (.k (D.int .i64 (0))), none⟩])
 (.seq (.block 0 (.seq (.reg [⟨(some 4), .mv (.t 0), none⟩,
  ⟨(some 5), .call false 112 [(.t 4)], none⟩,
  ⟨(some 3), .mv (.t 5), none⟩])
 (.cond (.t 3)
 (.seq (.reg [⟨(some 2), .mv (.k (D.int .i64 (0))), none⟩])
 .ret)
 (.seq (.reg [⟨(some 7), .mv (.t 0), none⟩,
  ⟨(some 8), .call false 113 [(.t 7)], none⟩,
  ⟨(some 6), .mv (.t 8), none⟩])
 (.cond (.t 6)
 (.seq (.reg [⟨(some 2), .mv (.k (D.int .i64 (2))), none⟩])
 .ret)
 .skip)))))
 (.seq (.reg [⟨(some 2), .mv (.k (D.int .i64 (1))), none⟩])
 .ret)))⟩
def a122 : Ann := ⟨[], [⟨false, 0, false⟩], []⟩
def s122 : SFun := ⟨3, 27, [], [(.cell 6 true 29, ⟨false, 0, false⟩)],
 (.seq (.reg [⟨(some 3), .box 29 (.t 0), none⟩,
  ⟨(some 6), .alloc [(D.int .i64 (0)), (D.int .i64 (0)), .sn, (D.int .i64 (0)), (D.int .i64 (0)), (D.bool false), (D.int .i64 (0)), (D.int .i64 (0)), (D.int .i64 (0)), (D.int .i64 (0)), (D.int .i64 (0)), (D.int .u64 (0)), (D.int .u8 (0)), (D.int .u8 (0)), (D.int .i64 (0)), (D.bool false), (D.bool false), (D.bool false), (D.bool false), (D.bool false), (D.int .i64 (0)), (D.int .i64 (0)), (D.int .i64 (0)), (D.int .i64 (0)), (D.int .i64 (0)), (D.int .u8 (0)), (D.int .u8 (0)), (D.int .i64 (0)), (D.bool false)], none⟩])
 (.seq (.reg [⟨(some 7), .load true 29 (.t 3), none⟩,
  ⟨(some 8), .call false 370 [(.t 7)], none⟩,
  ⟨none, .store 29 (.t 3) (.t 8), none⟩])
 (.seq (.reg [⟨(some 9), .mv (.t 1), none⟩,
  ⟨(some 10), .fad 0 (.t 3), none⟩,
  ⟨(some 11), .fad 0 (.t 10), none⟩,
  ⟨(some 12), .load false 1 (.t 11), none⟩,
  ⟨(some 13), .bin .sub (.t 12) (.k (D.int .i64 (1))), none⟩,
  ⟨(some 14), .mn [(.t 9), (.t 13)], none⟩,
  ⟨(some 15), .mx [(.k (D.int .i64 (0))), (.t 14)], none⟩,
  ⟨(some 16), .mv (.t 2), none⟩,
  ⟨(some 17), .fad 0 (.t 3), none⟩,
  ⟨(some 18), .fad 1 (.t 17), none⟩,
  ⟨(some 19), .load false 1 (.t 18), none⟩,
  ⟨(some 20), .bin .sub (.t 19) (.k (D.int .i64 (1))), none⟩,
  ⟨(some 21), .mn [(.t 16), (.t 20)], none⟩,
  ⟨(some 22), .mx [(.k (D.int .i64 (0))), (.t 21)], none⟩,
  ⟨(some 23), .fad 3 (.t 3), none⟩,
  ⟨none, .store 1 (.t 23) (.t 15), none⟩,
  ⟨(some 24), .fad 4 (.t 3), none⟩,
  ⟨none, .store 1 (.t 24) (.t 22), none⟩,
  ⟨(some 25), .fad 5 (.t 3), none⟩,
  ⟨none, .store 1 (.t 25) (.k (D.bool false)), none⟩])
 (.seq (.reg [⟨(some 26), .load true 29 (.t 3), none⟩,
  ⟨none, .store 29 (.t 6) (.t 26), none⟩])
 .ret))))⟩
def a404 : Ann := ⟨[], [⟨false, 0, false⟩], []⟩
def s404 : SFun := ⟨2, 10, [], [(.cell 4 true 29, ⟨false, 0, false⟩)],
 (.seq (.reg [⟨(some 2), .box 29 (.t 0), none⟩,
  ⟨(some 4), .alloc [(D.int .i64 (0)), (D.int .i64 (0)), .sn, (D.int .i64 (0)), (D.int .i64 (0)), (D.bool false), (D.int .i64 (0)), (D.int .i64 (0)), (D.int .i64 (0)), (D.int .i64 (0)), (D.int .i64 (0)), (D.int .u64 (0)), (D.int .u8 (0)), (D.int .u8 (0)), (D.int .i64 (0)), (D.bool false), (D.bool false), (D.bool false), (D.bool false), (D.bool false), (D.int .i64 (0)), (D.int .i64 (0)), (D.int .i64 (0)), (D.int .i64 (0)), (D.int .i64 (0)), (D.int .u8 (0)), (D.int .u8 (0)), (D.int .i64 (0)), (D.bool false)], none⟩])
 (.seq (.reg [⟨(some 5), .load true 29 (.t 2), none⟩,
  ⟨(some 6), .fad 3 (.t 2), none⟩,
  ⟨(some 7), .load false 1 (.t 6), none⟩,
  ⟨(some 8), .mv (.t 1), none⟩,
  ⟨(some 9), .call false 122 [(.t 5), (.t 7), (.t 8)], none⟩,
  ⟨none, .store 29 (.t 4) (.t 9), none⟩])
 .ret))⟩
def a144 : Ann := ⟨[], [⟨true, 0, false⟩], []⟩
def s144 : SFun := ⟨1, 8, [], [(.cell 2 true 3, ⟨true, 0, false⟩)],
 (.seq (.reg [⟨(some 1), .box 3 (.t 0), none⟩,
  ⟨(some 2), .alloc [(D.int .i64 (0)), (D.int .i64 (0)), .sn], none⟩])
 (.seq (.reg [⟨(some 3), .fad 2 (.t 1), none⟩,
  ⟨(some 4), .load false 1 (.t 3), none⟩,
  ⟨(some 5), .call false 451 [(.t 4)], none⟩,
  ⟨(some 6), .fad 2 (.t 1), none⟩,
  ⟨none, .store 1 (.t 6) (.t 5), none⟩])
 (.seq (.reg [⟨(some 7), .load true 3 (.t 1), none⟩,
  ⟨none, .store 3 (.t 2) (.t 7), none⟩])
 .ret)))⟩
def a106 : Ann := ⟨[], [⟨false, 0, false⟩], []⟩
def s106 : SFun := ⟨1, 5, [], [(.cell 2 true 5, ⟨false, 0, false⟩)],
 (.seq (.reg [⟨(some 1), .box 3 (.t 0), none⟩,
  ⟨(some 2), .alloc [(D.int .i32 (0)), (D.int .i64 (0)), (D.int .i64 (0)), (D.int .i64 (0)), (D.int .i64 (0))], none⟩])
 (.seq (.reg [⟨(some 3), .load true 3 (.t 1), none⟩,
  ⟨(some 4), .build [(D.int .i32 (0)), (D.int .i64 (0)), (D.int .i64 (0)), (D.int .i64 (0)), (D.int .i64 (0))] [(0, 1, (.k (D.int .i32 (32)))), (2, 3, (.t 3))], none⟩,
  ⟨none, .store 5 (.t 2) (.t 4), none⟩])
 .ret))⟩
def a444 : Ann := ⟨[], [⟨false, 0, false⟩, ⟨false, 0, false⟩], []⟩
def s444 : SFun := ⟨2, 17, [], [(.tmp 4, ⟨false, 0, false⟩), (.tmp 5, ⟨false, 0, false⟩)],
 (.seq (.reg [⟨(some 4), .mv (.k (D.int .u32 (0))), none⟩,
  ⟨(some 5), .mv (.k (D.int .u32 (0))), none⟩])
 (.seq (.reg [⟨(some 7), .mv (.t 0), none⟩,
  ⟨(some 8), .cvi .u64 (.t 7), none⟩,
  ⟨(some 9), .mv (.t 1), none⟩,
  ⟨(some 10), .cvi .u64 (.t 9), none⟩,
  ⟨(some 11), .bin .mul (.t 8) (.t 10), none⟩,
  ⟨(some 6), .mv (.t 11), none⟩])
 (.seq (.reg [⟨(some 12), .mv (.t 6), none⟩,
  ⟨(some 13), .bin .shr (.t 12) (.k (D.int .u64 (32))), none⟩,
  ⟨(some 14), .cvi .u32 (.t 13), none⟩,
  ⟨(some 15), .mv (.t 6), none⟩,
  ⟨(some 16), .cvi .u32 (.t 15), none⟩,
  ⟨(some 4), .mv (.t 14), none⟩,
  ⟨(some 5), .mv (.t 16), none⟩])
 .ret)))⟩
def a445 : Ann := ⟨[], [⟨false, 0, false⟩, ⟨false, 0, false⟩], []⟩
def s445 : SFun := ⟨2, 51, [], [(.tmp 4, ⟨false, 0, false⟩), (.tmp 5, ⟨false, 0, false⟩)],
 (.seq (.reg [⟨(some 4), .mv (.k (D.int .u64 (0))), none⟩,
  ⟨(some 5), .mv (.k (D.int .u64 (0))), none⟩])
 (.seq (.reg [⟨(some 14), .mv (.t 0), none⟩,
  ⟨(some 15), .bin .and (.t 14) (.k (D.int .u64 (4294967295))), none⟩,
  ⟨(some 6), .mv (.t 15), none⟩])
 (.seq (.reg [⟨(some 16), .mv (.t 0), none⟩,
  ⟨(some 17), .bin .shr (.t 16) (.k (D.int .u64 (32))), none⟩,
  ⟨(some 7), .mv (.t 17), none⟩])
 (.seq (.reg [⟨(some 18), .mv (.t 1), none⟩,
  ⟨(some 19), .bin .and (.t 18) (.k (D.int .u64 (4294967295))), none⟩,
  ⟨(some 8), .mv (.t 19), none⟩])
 (.seq (.reg [⟨(some 20), .mv (.t 1), none⟩,
  ⟨(some 21), .bin .shr (.t 20) (.k (D.int .u64 (32))), none⟩,
  ⟨(some 9), .mv (.t 21), none⟩])
 (.seq (.reg [⟨(some 22), .mv (.t 6), none⟩,
  ⟨(some 23), .mv (.t 8), none⟩,
  ⟨(some 24), .bin .mul (.t 22) (.t 23), none⟩,
  ⟨(some 10), .mv (.t 24), none⟩])
 (.seq (.reg [⟨(some 25), .mv (.t 7), none⟩,
  ⟨(some 26), .mv (.t 8), none⟩,
  ⟨(some 27), .bin .mul (.t 25) (.t 26), none⟩,
  ⟨(some 28), .mv (.t 10), none⟩,
  ⟨(some 29), .bin .shr (.t 28) (.k (D.int .u64 (32))), none⟩,
  ⟨(some 30), .bin .add (.t 27) (.t 29), none⟩,
  ⟨(some 11), .mv (.t 30), none⟩])
 (.seq (.reg [⟨(some 31), .mv (.t 11), none⟩,
  ⟨(some 32), .bin .and (.t 31) (.k (D.int .u64 (4294967295))), none⟩,
  ⟨(some 12), .mv (.t 32), none⟩])
 (.seq (.reg [⟨(some 33), .mv (.t 11), none⟩,
  ⟨(some 34), .bin .shr (.t 33) (.k (D.int .u64 (32))), none⟩,
  ⟨(some 13), .mv (.t 34), none⟩])
 (.seq (.reg [⟨(some 35), .mv (.t 12), none⟩,
  ⟨(some 36), .mv (.t 6), none⟩,
  ⟨(some 37), .mv (.t 9), none⟩,
  ⟨(some 38), .bin .mul (.t 36) (.t 37), none⟩,
  ⟨(some 39), .bin .add (.t 35) (.t 38), none⟩,
  ⟨(some 12), .mv (.t 39), none⟩])
 (.seq (.reg [⟨(some 40), .mv (.t 7), none⟩,
  ⟨(some 41), .mv (.t 9), none⟩,
  ⟨(some 42), .bin .mul (.t 40) (.t 41), none⟩,
  ⟨(some 43), .mv (.t 13), none⟩,
  ⟨(some 44), .bin .add (.t 42) (.t 43), none⟩,
  ⟨(some 45), .mv (.t 12), none⟩,
  ⟨(some 46), .bin .shr (.t 45) (.k (D.int .u64 (32))), none⟩,
  ⟨(some 47), .bin .add (.t 44) (.t 46), none⟩,
  ⟨(some 4), .mv (.t 47), none⟩])
 (.seq (.reg [⟨(some 48), .mv (.t 0), none⟩,
  ⟨(some 49), .mv (.t 1), none⟩,
  ⟨(some 50), .bin .mul (.t 48) (.t 49), none⟩,
  ⟨(some 5), .mv (.t 50), none⟩])
 .ret))))))))))))⟩
def a443 : Ann := ⟨[], [⟨false, 0, false⟩, ⟨false, 0, false⟩], []⟩
def s443 : SFun := ⟨2, 30, [], [(.tmp 4, ⟨false, 0, false⟩), (.tmp 5, ⟨false, 0, false⟩)],
 (.seq (.reg [⟨(some 4), .mv (.k (D.int .u64 (0))), none⟩,
  ⟨(some 5), .mv (.k (D.int .u64 (0))), none⟩])
 (.seq (.cond (.k (D.bool false))
 (.seq (.reg [⟨(some 11), .mv (.t 0), none⟩,
  ⟨(some 12), .cvi .u32 (.t 11), none⟩,
  ⟨(some 13), .mv (.t 1), none⟩,
  ⟨(some 14), .cvi .u32 (.t 13), none⟩,
  ⟨(some 15), .call false 444 [(.t 12), (.t 14)], none⟩,
  ⟨(some 10), .mv (.t 15), none⟩,
  ⟨(some 16), .ext (.t 10) 0, none⟩,
  ⟨(some 17), .ext (.t 10) 1, none⟩,
  ⟨(some 6), .mv (.t 16), none⟩,
  ⟨(some 7), .mv (.t 17), none⟩])
 (.seq (.reg [⟨(some 18), .mv (.t 6), none⟩,
  ⟨(some 19), .cvi .u64 (.t 18), none⟩,
  ⟨(some 20), .mv (.t 7), none⟩,
  ⟨(some 21), .cvi .u64 (.t 20), none⟩,
  ⟨(some 4), .mv (.t 19), none⟩,
  ⟨(some 5), .mv (.t 21), none⟩])
 .ret))
 .skip)
 (.seq (.reg [⟨(some 23), .mv (.t 0), none⟩,
  ⟨(some 24), .mv (.t 1), none⟩,
  ⟨(some 25), .call false 445 [(.t 23), (.t 24)], none⟩,
  ⟨(some 22), .mv (.t 25), none⟩,
  ⟨(some 26), .ext (.t 22) 0, none⟩,
  ⟨(some 27), .ext (.t 22) 1, none⟩,
  ⟨(some 8), .mv (.t 26), none⟩,
  ⟨(some 9), .mv (.t 27), none⟩])
 (.seq (.reg [⟨(some 28), .mv (.t 8), none⟩,
  ⟨(some 29), .mv (.t 9), none⟩,
  ⟨(some 4), .mv (.t 28), none⟩,
  ⟨(some 5), .mv (.t 29), none⟩])
 .ret))))⟩
def a465 : Ann := ⟨[(8, [(8, ⟨false, 0, false⟩), (7, ⟨true, 5, false⟩)])], [⟨true, 5, false⟩], []⟩
def s465 : SFun := ⟨2, 48, [], [(.tmp 4, ⟨true, 5, false⟩)],
 (.seq (.reg [⟨(some 4), .mv (.k .sn), none⟩])
 (.seq (.seq (.reg [⟨(some 9), .mv (.t 1), none⟩,
  ⟨(some 10), .bin .lss (.t 9) (.k (D.int .i64 (0))), none⟩])
 (.cond (.t 10)
 (.reg [⟨(some 11), .bad, none⟩,
  ⟨none, .bad, none⟩])
 .skip))
 (.seq (.reg [⟨(some 13), .mv (.t 0), none⟩,
  ⟨(some 14), .len (.t 13), none⟩,
  ⟨(some 15), .cvi .u64 (.t 14), none⟩,
  ⟨(some 16), .mv (.t 1), none⟩,
  ⟨(some 17), .cvi .u64 (.t 16), none⟩,
  ⟨(some 18), .call false 443 [(.t 15), (.t 17)], none⟩,
  ⟨(some 12), .mv (.t 18), none⟩,
  ⟨(some 19), .ext (.t 12) 0, none⟩,
  ⟨(some 20), .ext (.t 12) 1, none⟩,
  ⟨(some 5), .mv (.t 19), none⟩,
  ⟨(some 6), .mv (.t 20), none⟩])
 (.seq (.seq (.reg [⟨(some 21), .mv (.t 5), none⟩,
  ⟨(some 22), .bin .gtr (.t 21) (.k (D.int .u64 (0))), none⟩,
  ⟨(some 23), .mv (.t 22), none⟩,
  ⟨(some 24), .mv (.t 6), (some (23, false))⟩,
  ⟨(some 25), .bin .gtr (.t 24) (.k (D.int .u64 (9223372036854775807))), (some (23, false))⟩,
  ⟨(some 26), .pick (.t 23) (.k (D.bool true)) (.t 25), none⟩])
 (.cond (.t 26)
 (.reg [⟨(some 27), .bad, none⟩,
  ⟨none, .bad, none⟩])
 .skip))
 (.seq (.reg [⟨(some 28), .mv (.t 6), none⟩,
  ⟨(some 29), .cvi .i64 (.t 28), none⟩,
  ⟨(some 30), .mksl 5 40 [(D.int .i32 (0)), (D.int .i64 (0)), (D.int .i64 (0)), (D.int .i64 (0)), (D.int .i64 (0))] (.t 29), none⟩,
  ⟨(some 7), .mv (.t 30), none⟩])
 (.seq (.reg [⟨(some 31), .mv (.t 7), none⟩,
  ⟨(some 32), .mv (.t 0), none⟩,
  ⟨(some 33), .copy 5 (.t 31) (.t 32), none⟩,
  ⟨(some 8), .mv (.t 33), none⟩])
 (.seq (.block 0 (.loop [(8, ⟨false, 0, false⟩), (7, ⟨true, 5, false⟩)]
 (.seq (.seq (.reg [⟨(some 34), .mv (.t 8), none⟩,
  ⟨(some 35), .mv (.t 7), none⟩,
  ⟨(some 36), .len (.t 35), none⟩,
  ⟨(some 37), .bin .lss (.t 34) (.t 36), none⟩])
 (.cond (.t 37)
 .skip
 (.exit 0)))
 (.block 1 (.dreg [([], false, ⟨(some 38), .mv (.t 8), none⟩),
  ([0], false, ⟨(some 39), .mv (.t 7), none⟩),
  ([0, 1], false, ⟨(some 40), .mv (.t 8), none⟩),
  ([0], false, ⟨(some 41), .slc 5 (.t 39) (some (.t 40)) none, none⟩),
  ([0, 1, 2, 3], false, ⟨(some 42), .mv (.t 7), none⟩),
  ([0, 1, 2, 3, 4], false, ⟨(some 43), .mv (.t 8), none⟩),
  ([0, 1, 2, 3], false, ⟨(some 44), .slc 5 (.t 42) none (some (.t 43)), none⟩),
  ([0], false, ⟨(some 45), .copy 5 (.t 41) (.t 44), none⟩),
  ([], true, ⟨(some 46), .bin .add (.t 38) (.t 45), none⟩),
  ([], true, ⟨(some 8), .mv (.t 46), none⟩)])))))
 (.seq (.reg [⟨(some 47), .mv (.t 7), none⟩,
  ⟨(some 4), .mv (.t 47), none⟩])
 .ret))))))))⟩
def a143 : Ann := ⟨[], [⟨true, 5, false⟩], []⟩
def s143 : SFun := ⟨2, 10, [], [(.tmp 4, ⟨true, 5, false⟩)],
 (.seq (.reg [⟨(some 3), .box 3 (.t 1), none⟩,
  ⟨(some 4), .mv (.k .sn), none⟩])
 (.seq (.reg [⟨(some 5), .load true 3 (.t 3), none⟩,
  ⟨(some 6), .call false 106 [(.t 5)], none⟩,
  ⟨(some 7), .bsl false 5 1 [(D.int .i32 (0)), (D.int .i64 (0)), (D.int .i64 (0)), (D.int .i64 (0)), (D.int .i64 (0))] [(0, (.t 6))], none⟩,
  ⟨(some 8), .mv (.t 0), none⟩,
  ⟨(some 9), .call false 465 [(.t 7), (.t 8)], none⟩,
  ⟨(some 4), .mv (.t 9), none⟩])
 .ret))⟩
def a147 : Ann := ⟨[(5, [(1, ⟨false, 0, false⟩), (2, ⟨false, 0, false⟩), (3, ⟨false, 0, false⟩), (12, ⟨false, 0, false⟩), (5, ⟨true, 0, false⟩), (9, ⟨true, 0, false⟩), (10, ⟨true, 0, false⟩), (11, ⟨true, 0, false⟩)])], [⟨false, 0, false⟩], []⟩
def s147 : SFun := ⟨5, 74, [], [(.cell 10 true 3, ⟨false, 0, false⟩)],
 (.seq (.reg [⟨(some 5), .box 3 (.t 0), none⟩,
  ⟨(some 9), .box 3 (.t 4), none⟩,
  ⟨(some 10), .alloc [(D.int .i64 (0)), (D.int .i64 (0)), .sn], none⟩])
 (.seq (.reg [⟨(some 15), .load true 3 (.t 5), none⟩,
  ⟨(some 16), .call false 144 [(.t 15)], none⟩,
  ⟨(some 11), .alloc [(D.int .i64 (0)), (D.int .i64 (0)), .sn], none⟩,
  ⟨none, .store 3 (.t 11) (.t 16), none⟩])
 (.seq (.seq (.reg [⟨(some 17), .mv (.t 1), none⟩,
  ⟨(some 18), .bin .lss (.t 17) (.k (D.int .i64 (0))), none⟩,
  ⟨(some 19), .mv (.t 18), none⟩,
  ⟨(some 20), .mv (.t 2), (some (19, false))⟩,
  ⟨(some 21), .fad 0 (.t 5), (some (19, false))⟩,
  ⟨(some 22), .load false 1 (.t 21), (some (19, false))⟩,
  ⟨(some 23), .bin .geq (.t 20) (.t 22), (some (19, false))⟩,
  ⟨(some 24), .pick (.t 19) (.k (D.bool true)) (.t 23), none⟩,
  ⟨(some 25), .mv (.t 24), none⟩,
  ⟨(some 26), .mv (.t 1), (some (25, false))⟩,
  ⟨(some 27), .mv (.t 2), (some (25, false))⟩,
  ⟨(some 28), .bin .gtr (.t 26) (.t 27), (some (25, false))⟩,
  ⟨(some 29), .pick (.t 25) (.k (D.bool true)) (.t 28), none⟩])
 (.cond (.t 29)
 (.seq (.reg [⟨(some 30), .load true 3 (.t 11), none⟩,
  ⟨none, .store 3 (.t 10) (.t 30), none⟩])
 .ret)
 .skip))
 (.seq (.seq (.reg [⟨(some 31), .mv (.t 1), none⟩,
  ⟨(some 12), .mv (.t 31), none⟩])
 (.block 0 (.loop [(1, ⟨false, 0, false⟩), (2, ⟨false, 0, false⟩), (3, ⟨false, 0, false⟩), (12, ⟨false, 0, false⟩), (5, ⟨true, 0, false⟩), (9, ⟨true, 0, false⟩), (10, ⟨true, 0, false⟩), (11, ⟨true, 0, false⟩)]
 (.seq (.seq (.reg [⟨(some 32), .mv (.t 12), none⟩,
  ⟨(some 33), .mv (.t 2), none⟩,
  ⟨(some 34), .bin .leq (.t 32) (.t 33), none⟩])
 (.cond (.t 34)
 .skip
 (.exit 0)))
 (.seq (.block 1 (.seq (.reg [⟨(some 37), .fad 1 (.t 5), none⟩,
  ⟨(some 38), .load false 1 (.t 37), none⟩,
  ⟨(some 39), .load true 3 (.t 9), none⟩,
  ⟨(some 40), .call false 143 [(.t 38), (.t 39)], none⟩,
  ⟨(some 13), .mv (.t 40), none⟩])
 (.seq (.seq (.reg [⟨(some 41), .mv (.t 12), none⟩,
  ⟨(some 42), .mv (.t 3), none⟩,
  ⟨(some 43), .bin .add (.t 41) (.t 42), none⟩,
  ⟨(some 14), .mv (.t 43), none⟩])
 (.seq (.reg [⟨(some 44), .mv (.t 14), none⟩,
  ⟨(some 45), .mv (.t 1), none⟩,
  ⟨(some 46), .bin .geq (.t 44) (.t 45), none⟩,
  ⟨(some 47), .mv (.t 46), none⟩,
  ⟨(some 48), .mv (.t 14), (some (47, true))⟩,
  ⟨(some 49), .mv (.t 2), (some (47, true))⟩,
  ⟨(some 50), .bin .leq (.t 48) (.t 49), (some (47, true))⟩,
  ⟨(some 51), .pick (.t 47) (.t 50) (.k (D.bool false)), none⟩])
 (.cond (.t 51)
 (.reg [⟨(some 52), .fad 2 (.t 5), none⟩,
  ⟨(some 53), .load false 1 (.t 52), none⟩,
  ⟨(some 54), .mv (.t 14), none⟩,
  ⟨(some 55), .fad 1 (.t 5), none⟩,
  ⟨(some 56), .load false 1 (.t 55), none⟩,
  ⟨(some 57), .bin .mul (.t 54) (.t 56), none⟩,
  ⟨(some 58), .mv (.t 14), none⟩,
  ⟨(some 59), .bin .add (.t 58) (.k (D.int .i64 (1))), none⟩,
  ⟨(some 60), .fad 1 (.t 5), none⟩,
  ⟨(some 61), .load false 1 (.t 60), none⟩,
  ⟨(some 62), .bin .mul (.t 59) (.t 61), none⟩,
  ⟨(some 63), .slc 5 (.t 53) (some (.t 57)) (some (.t 62)), none⟩,
  ⟨(some 13), .mv (.t 63), none⟩])
 .skip)))
 (.reg [⟨(some 64), .fad 2 (.t 11), none⟩,
  ⟨(some 65), .load false 1 (.t 64), none⟩,
  ⟨(some 66), .mv (.t 12), none⟩,
  ⟨(some 67), .fad 1 (.t 5), none⟩,
  ⟨(some 68), .load false 1 (.t 67), none⟩,
  ⟨(some 69), .bin .mul (.t 66) (.t 68), none⟩,
  ⟨(some 70), .slc 5 (.t 65) (some (.t 69)) none, none⟩,
  ⟨(some 71), .mv (.t 13), none⟩,
  ⟨(some 72), .copy 5 (.t 70) (.t 71), none⟩]))))
 (.reg [⟨(some 35), .mv (.t 12), none⟩,
  ⟨(some 36), .bin .add (.t 35) (.k (D.int .i64 (1))), none⟩,
  ⟨(some 12), .mv (.t 36), none⟩]))))))
 (.seq (.reg [⟨(some 73), .load true 3 (.t 11), none⟩,
  ⟨none, .store 3 (.t 10) (.t 73), none⟩])
 .ret)))))⟩
def a145 : Ann := ⟨[], [⟨false, 0, false⟩], []⟩
def s145 : SFun := ⟨1, 6, [], [(.tmp 2, ⟨false, 0, false⟩)],
 (.seq (.reg [⟨(some 2), .mv (.k (D.int .i64 (0))), none⟩])
 (.seq (.reg [⟨(some 3), .mv (.t 0), none⟩,
  ⟨(some 4), .mn [(.t 3), (.k (D.int .i64 (40)))], none⟩,
  ⟨(some 5), .mx [(.k (D.int .i64 (0))), (.t 4)], none⟩,
  ⟨(some 2), .mv (.t 5), none⟩])
 .ret))⟩
def a142 : Ann := ⟨[], [⟨false, 0, false⟩], []⟩
def s142 : SFun := ⟨5, 18, [], [(.cell 10 true 3, ⟨false, 0, false⟩)],
 (.seq (.reg [⟨(some 5), .box 3 (.t 0), none⟩,
  ⟨(some 9), .box 3 (.t 4), none⟩,
  ⟨(some 10), .alloc [(D.int .i64 (0)), (D.int .i64 (0)), .sn], none⟩])
 (.seq (.dreg [([], false, ⟨(some 11), .load true 3 (.t 5), none⟩),
  ([0], false, ⟨(some 12), .mv (.t 1), none⟩),
  ([0, 1], false, ⟨(some 13), .mv (.t 2), none⟩),
  ([0, 1, 2], false, ⟨(some 14), .mv (.t 3), none⟩),
  ([0, 1, 2], false, ⟨(some 15), .callr 145 [(.t 14)], none⟩),
  ([0, 1, 2, 3, 4], false, ⟨(some 16), .load true 3 (.t 9), none⟩),
  ([], true, ⟨(some 17), .call false 147 [(.t 11), (.t 12), (.t 13), (.t 15), (.t 16)], none⟩),
  ([], true, ⟨none, .store 3 (.t 10) (.t 17), none⟩)])
 .ret))⟩
def a371 : Ann := ⟨[], [⟨false, 0, false⟩], []⟩
def s371 : SFun := ⟨1, 7, [], [(.cell 2 true 3, ⟨false, 0, false⟩)],
 (.seq (.reg [⟨(some 1), .box 29 (.t 0), none⟩,
  ⟨(some 2), .alloc [(D.int .i64 (0)), (D.int .i64 (0)), (D.int .i64 (0))], none⟩])
 (.seq (.reg [⟨(some 3), .fad 8 (.t 1), none⟩,
  ⟨(some 4), .fad 1 (.t 3), none⟩,
  ⟨(some 5), .load false 1 (.t 4), none⟩,
  ⟨(some 6), .build [(D.int .i64 (0)), (D.int .i64 (0)), (D.int .i64 (0))] [(0, 1, (.k (D.int .i64 (-1)))), (1, 1, (.t 5))], none⟩,
  ⟨none, .store 3 (.t 2) (.t 6), none⟩])
 .ret))⟩
def a125 : Ann := ⟨[], [⟨false, 0, false⟩], []⟩
def s125 : SFun := ⟨1, 27, [], [(.cell 2 true 29, ⟨false, 0, false⟩)],
 (.seq (.reg [⟨(some 1), .box 29 (.t 0), none⟩,
  ⟨(some 2), .alloc [(D.int .i64 (0)), (D.int .i64 (0)), .sn, (D.int .i64 (0)), (D.int .i64 (0)), (D.bool false), (D.int .i64 (0)), (D.int .i64 (0)), (D.int .i64 (0)), (D.int .i64 (0)), (D.int .i64 (0)), (D.int .u64 (0)), (D.int .u8 (0)), (D.int .u8 (0)), (D.int .i64 (0)), (D.bool false), (D.bool false), (D.bool false), (D.bool false), (D.bool false), (D.int .i64 (0)), (D.int .i64 (0)), (D.int .i64 (0)), (D.int .i64 (0)), (D.int .i64 (0)), (D.int .u8 (0)), (D.int .u8 (0)), (D.int .i64 (0)), (D.bool false)], none⟩])
 (.seq (.seq (.reg [⟨(some 3), .fad 3 (.t 1), none⟩,
  ⟨(some 4), .load false 1 (.t 3), none⟩,
  ⟨(some 5), .fad 7 (.t 1), none⟩,
  ⟨(some 6), .load false 1 (.t 5), none⟩,
  ⟨(some 7), .bin .neq (.t 4) (.t 6), none⟩])
 (.cond (.t 7)
 (.seq (.reg [⟨(some 8), .load true 29 (.t 1), none⟩,
  ⟨(some 9), .fad 3 (.t 1), none⟩,
  ⟨(some 10), .load false 1 (.t 9), none⟩,
  ⟨(some 11), .bin .add (.t 10) (.k (D.int .i64 (1))), none⟩,
  ⟨(some 12), .fad 4 (.t 1), none⟩,
  ⟨(some 13), .load false 1 (.t 12), none⟩,
  ⟨(some 14), .call false 122 [(.t 8), (.t 11), (.t 13)], none⟩,
  ⟨none, .store 29 (.t 2) (.t 14), none⟩])
 .ret)
 .skip))
 (.seq (.dreg [([], false, ⟨(some 15), .fad 0 (.t 1), none⟩),
  ([], false, ⟨(some 16), .load true 3 (.t 15), none⟩),
  ([0, 1], false, ⟨(some 17), .fad 6 (.t 1), none⟩),
  ([0, 1], false, ⟨(some 18), .load false 1 (.t 17), none⟩),
  ([0, 1, 2, 3], false, ⟨(some 19), .fad 7 (.t 1), none⟩),
  ([0, 1, 2, 3], false, ⟨(some 20), .load false 1 (.t 19), none⟩),
  ([0, 1, 2, 3, 4, 5], false, ⟨(some 21), .load true 29 (.t 1), none⟩),
  ([0, 1, 2, 3, 4, 5], false, ⟨(some 22), .callr 371 [(.t 21)], none⟩),
  ([], true, ⟨(some 23), .call false 142 [(.t 16), (.t 18), (.t 20), (.k (D.int .i64 (1))), (.t 22)], none⟩),
  ([], true, ⟨(some 24), .fad 0 (.t 1), none⟩),
  ([], true, ⟨none, .store 3 (.t 24) (.t 23), none⟩),
  ([], true, ⟨(some 25), .fad 5 (.t 1), none⟩),
  ([], true, ⟨none, .store 1 (.t 25) (.k (D.bool false)), none⟩)])
 (.seq (.reg [⟨(some 26), .load true 29 (.t 1), none⟩,
  ⟨none, .store 29 (.t 2) (.t 26), none⟩])
 .ret))))⟩
def a158 : Ann := ⟨[], [⟨true, 0, false⟩], []⟩
def s158 : SFun := ⟨1, 8, [], [(.cell 2 true 3, ⟨true, 0, false⟩)],
 (.seq (.reg [⟨(some 1), .box 3 (.t 0), none⟩,
  ⟨(some 2), .alloc [(D.int .i64 (0)), (D.int .i64 (0)), .sn], none⟩])
 (.seq (.reg [⟨(some 3), .fad 2 (.t 1), none⟩,
  ⟨(some 4), .load false 1 (.t 3), none⟩,
  ⟨(some 5), .call false 451 [(.t 4)], none⟩,
  ⟨(some 6), .fad 2 (.t 1), none⟩,
  ⟨none, .store 1 (.t 6) (.t 5), none⟩])
 (.seq (.reg [⟨(some 7), .load true 3 (.t 1), none⟩,
  ⟨none, .store 3 (.t 2) (.t 7), none⟩])
 .ret)))⟩
def a162 : Ann := ⟨[], [⟨false, 0, false⟩], []⟩
def s162 : SFun := ⟨3, 25, [], [(.tmp 6, ⟨false, 0, false⟩)],
 (.seq (.reg [⟨(some 3), .box 3 (.t 0), none⟩,
  ⟨(some 6), .mv (.k (D.bool false)), none⟩])
 (.seq (.reg [⟨(some 7), .mv (.t 1), none⟩,
  ⟨(some 8), .bin .geq (.t 7) (.k (D.int .i64 (0))), none⟩,
  ⟨(some 9), .mv (.t 8), none⟩,
  ⟨(some 10), .mv (.t 1), (some (9, true))⟩,
  ⟨(some 11), .fad 0 (.t 3), (some (9, true))⟩,
  ⟨(some 12), .load false 1 (.t 11), (some (9, true))⟩,
  ⟨(some 13), .bin .lss (.t 10) (.t 12), (some (9, true))⟩,
  ⟨(some 14), .pick (.t 9) (.t 13) (.k (D.bool false)), none⟩,
  ⟨(some 15), .mv (.t 14), none⟩,
  ⟨(some 16), .mv (.t 2), (some (15, true))⟩,
  ⟨(some 17), .bin .geq (.t 16) (.k (D.int .i64 (0))), (some (15, true))⟩,
  ⟨(some 18), .pick (.t 15) (.t 17) (.k (D.bool false)), none⟩,
  ⟨(some 19), .mv (.t 18), none⟩,
  ⟨(some 20), .mv (.t 2), (some (19, true))⟩,
  ⟨(some 21), .fad 1 (.t 3), (some (19, true))⟩,
  ⟨(some 22), .load false 1 (.t 21), (some (19, true))⟩,
  ⟨(some 23), .bin .lss (.t 20) (.t 22), (some (19, true))⟩,
  ⟨(some 24), .pick (.t 19) (.t 23) (.k (D.bool false)), none⟩,
  ⟨(some 6), .mv (.t 24), none⟩])
 .ret))⟩
def a163 : Ann := ⟨[], [⟨true, 5, false⟩], []⟩
def s163 : SFun := ⟨2, 17, [], [(.tmp 4, ⟨true, 5, false⟩)],
 (.seq (.reg [⟨(some 2), .box 3 (.t 0), none⟩,
  ⟨(some 4), .mv (.k .sn), none⟩])
 (.seq (.reg [⟨(some 5), .fad 2 (.t 2), none⟩,
  ⟨(some 6), .load false 1 (.t 5), none⟩,
  ⟨(some 7), .mv (.t 1), none⟩,
  ⟨(some 8), .fad 1 (.t 2), none⟩,
  ⟨(some 9), .load false 1 (.t 8), none⟩,
  ⟨(some 10), .bin .mul (.t 7) (.t 9), none⟩,
  ⟨(some 11), .mv (.t 1), none⟩,
  ⟨(some 12), .bin .add (.t 11) (.k (D.int .i64 (1))), none⟩,
  ⟨(some 13), .fad 1 (.t 2), none⟩,
  ⟨(some 14), .load false 1 (.t 13), none⟩,
  ⟨(some 15), .bin .mul (.t 12) (.t 14), none⟩,
  ⟨(some 16), .slc 5 (.t 6) (some (.t 10)) (some (.t 15)), none⟩,
  ⟨(some 4), .mv (.t 16), none⟩])
 .ret))⟩
def a159 : Ann := ⟨[], [⟨false, 0, false⟩], []⟩
def s159 : SFun := ⟨2, 39, [], [(.tmp 4, ⟨false, 0, false⟩)],
 (.seq (.reg [⟨(some 4), .mv (.k (D.bool false)), none⟩])
 (.seq (.seq (.reg [⟨(some 5), .mv (.t 0), none⟩,
  ⟨(some 6), .mv (.t 1), none⟩,
  ⟨(some 7), .ixs 5 (.t 5) (.t 6), none⟩,
  ⟨(some 8), .fad 1 (.t 7), none⟩,
  ⟨(some 9), .load false 1 (.t 8), none⟩])
 (.block 0 (.seq (.reg [⟨(some 11), .bin .eql (.t 9) (.k (D.int .i64 (1))), none⟩,
  ⟨(some 10), .mv (.t 11), none⟩])
 (.cond (.t 10)
 (.seq (.reg [⟨(some 12), .mv (.t 1), none⟩,
  ⟨(some 13), .bin .add (.t 12) (.k (D.int .i64 (1))), none⟩,
  ⟨(some 14), .mv (.t 0), none⟩,
  ⟨(some 15), .len (.t 14), none⟩,
  ⟨(some 16), .bin .eql (.t 13) (.t 15), none⟩,
  ⟨(some 17), .mv (.t 16), none⟩,
  ⟨(some 18), .mv (.t 0), (some (17, false))⟩,
  ⟨(some 19), .mv (.t 1), (some (17, false))⟩,
  ⟨(some 20), .bin .add (.t 19) (.k (D.int .i64 (1))), (some (17, false))⟩,
  ⟨(some 21), .ixs 5 (.t 18) (.t 20), (some (17, false))⟩,
  ⟨(some 22), .fad 1 (.t 21), (some (17, false))⟩,
  ⟨(some 23), .load false 1 (.t 22), (some (17, false))⟩,
  ⟨(some 24), .bin .neq (.t 23) (.k (D.int .i64 (2))), (some (17, false))⟩,
  ⟨(some 25), .pick (.t 17) (.k (D.bool true)) (.t 24), none⟩,
  ⟨(some 4), .mv (.t 25), none⟩])
 .ret)
 (.seq (.reg [⟨(some 27), .bin .eql (.t 9) (.k (D.int .i64 (2))), none⟩,
  ⟨(some 26), .mv (.t 27), none⟩])
 (.cond (.t 26)
 (.seq (.reg [⟨(some 28), .mv (.t 1), none⟩,
  ⟨(some 29), .bin .eql (.t 28) (.k (D.int .i64 (0))), none⟩,
  ⟨(some 30), .mv (.t 29), none⟩,
  ⟨(some 31), .mv (.t 0), (some (30, false))⟩,
  ⟨(some 32), .mv (.t 1), (some (30, false))⟩,
  ⟨(some 33), .bin .sub (.t 32) (.k (D.int .i64 (1))), (some (30, false))⟩,
  ⟨(some 34), .ixs 5 (.t 31) (.t 33), (some (30, false))⟩,
  ⟨(some 35), .fad 1 (.t 34), (some (30, false))⟩,
  ⟨(some 36), .load false 1 (.t 35), (some (30, false))⟩,
  ⟨(some 37), .bin .neq (.t 36) (.k (D.int .i64 (1))), (some (30, false))⟩,
  ⟨(some 38), .pick (.t 30) (.k (D.bool true)) (.t 37), none⟩,
  ⟨(some 4), .mv (.t 38), none⟩])
 .ret)
 .skip))))))
 (.seq (.reg [⟨(some 4), .mv (.k (D.bool false)), none⟩])
 .ret)))⟩
def a150 : Ann := ⟨[(3, [(0, ⟨false, 0, false⟩), (8, ⟨false, 0, false⟩), (9, ⟨false, 0, false⟩), (10, ⟨false, 0, false⟩), (3, ⟨true, 5, false⟩)])], [⟨true, 5, false⟩], []⟩
def s150 : SFun := ⟨1, 26, [], [(.tmp 2, ⟨true, 5, false⟩)],
 (.seq (.reg [⟨(some 2), .mv (.k .sn), none⟩])
 (.seq (.reg [⟨(some 6), .mv (.t 0), none⟩,
  ⟨(some 7), .call false 451 [(.t 6)], none⟩,
  ⟨(some 3), .mv (.t 7), none⟩])
 (.seq (.seq (.reg [⟨(some 8), .mv (.t 0), none⟩,
  ⟨(some 9), .len (.t 8), none⟩,
  ⟨(some 10), .mv (.k (D.int .i64 (0))), none⟩])
 (.block 0 (.loop [(0, ⟨false, 0, false⟩), (8, ⟨false, 0, false⟩), (9, ⟨false, 0, false⟩), (10, ⟨false, 0, false⟩), (3, ⟨true, 5, false⟩)]
 (.seq (.reg [⟨(some 11), .bin .lss (.t 10) (.t 9), none⟩])
 (.seq (.cond (.t 11)
 .skip
 (.exit 0))
 (.seq (.block 1 (.seq (.reg [⟨(some 12), .mv (.t 10), none⟩,
  ⟨(some 13), .ixs 5 (.t 8) (.t 10), none⟩,
  ⟨(some 14), .load true 5 (.t 13), none⟩,
  ⟨(some 5), .alloc [(D.int .i32 (0)), (D.int .i64 (0)), (D.int .i64 (0)), (D.int .i64 (0)), (D.int .i64 (0))], none⟩,
  ⟨(some 4), .mv (.t 12), none⟩,
  ⟨none, .store 5 (.t 5) (.t 14), none⟩])
 (.seq (.reg [⟨(some 15), .mv (.t 0), none⟩,
  ⟨(some 16), .mv (.t 4), none⟩,
  ⟨(some 17), .call false 159 [(.t 15), (.t 16)], none⟩])
 (.cond (.t 17)
 (.reg [⟨(some 18), .mv (.t 3), none⟩,
  ⟨(some 19), .mv (.t 4), none⟩,
  ⟨(some 20), .fad 2 (.t 5), none⟩,
  ⟨(some 21), .load true 3 (.t 20), none⟩,
  ⟨(some 22), .call false 106 [(.t 21)], none⟩,
  ⟨(some 23), .ixs 5 (.t 18) (.t 19), none⟩,
  ⟨none, .store 5 (.t 23) (.t 22), none⟩])
 .skip))))
 (.reg [⟨(some 24), .bin .add (.t 10) (.k (D.int .i64 (1))), none⟩,
  ⟨(some 10), .mv (.t 24), none⟩])))))))
 (.seq (.reg [⟨(some 25), .mv (.t 3), none⟩,
  ⟨(some 2), .mv (.t 25), none⟩])
 .ret))))⟩
def a161 : Ann := ⟨[], [⟨false, 0, false⟩], []⟩
def s161 : SFun := ⟨2, 14, [], [(.cell 4 true 3, ⟨false, 0, false⟩)],
 (.seq (.reg [⟨(some 2), .box 3 (.t 0), none⟩,
  ⟨(some 4), .alloc [(D.int .i64 (0)), (D.int .i64 (0)), .sn], none⟩])
 (.seq (.dreg [([], false, ⟨(some 5), .load true 3 (.t 2), none⟩),
  ([0], false, ⟨(some 6), .mv (.t 1), none⟩),
  ([], false, ⟨(some 7), .call true 163 [(.t 5), (.t 6)], none⟩),
  ([0, 1, 2], false, ⟨(some 8), .load true 3 (.t 2), none⟩),
  ([0, 1, 2, 3], false, ⟨(some 9), .mv (.t 1), none⟩),
  ([], true, ⟨(some 10), .call false 163 [(.t 8), (.t 9)], none⟩),
  ([], true, ⟨(some 11), .call false 150 [(.t 10)], none⟩),
  ([], true, ⟨(some 12), .copy 5 (.t 7) (.t 11), none⟩)])
 (.seq (.reg [⟨(some 13), .load true 3 (.t 2), none⟩,
  ⟨none, .store 3 (.t 4) (.t 13), none⟩])
 .ret)))⟩
def a152 : Ann := ⟨[], [⟨false, 0, false⟩], []⟩
def s152 : SFun := ⟨5, 59, [], [(.cell 10 true 3, ⟨false, 0, false⟩)],
 (.seq (.reg [⟨(some 5), .box 3 (.t 0), none⟩,
  ⟨(some 9), .box 3 (.t 4), none⟩,
  ⟨(some 10), .alloc [(D.int .i64 (0)), (D.int .i64 (0)), .sn], none⟩])
 (.seq (.reg [⟨(some 13), .load true 3 (.t 5), none⟩,
  ⟨(some 14), .call false 158 [(.t 13)], none⟩,
  ⟨none, .store 3 (.t 5) (.t 14), none⟩])
 (.seq (.reg [⟨(some 15), .mv (.t 3), none⟩,
  ⟨(some 16), .call false 109 [(.t 15)], none⟩,
  ⟨(some 11), .mv (.t 16), none⟩])
 (.seq (.seq (.reg [⟨(some 17), .mv (.t 11), none⟩,
  ⟨(some 18), .bin .eql (.t 17) (.k (D.int .i64 (0))), none⟩,
  ⟨(some 19), .mv (.t 18), none⟩,
  ⟨(some 20), .load true 3 (.t 5), (some (19, false))⟩,
  ⟨(some 21), .mv (.t 1), (some (19, false))⟩,
  ⟨(some 22), .mv (.t 2), (some (19, false))⟩,
  ⟨(some 23), .call false 162 [(.t 20), (.t 21), (.t 22)], (some (19, false))⟩,
  ⟨(some 24), .una .not (.t 23), (some (19, false))⟩,
  ⟨(some 25), .pick (.t 19) (.k (D.bool true)) (.t 24), none⟩,
  ⟨(some 26), .mv (.t 25), none⟩,
  ⟨(some 27), .mv (.t 2), (some (26, false))⟩,
  ⟨(some 28), .mv (.t 11), (some (26, false))⟩,
  ⟨(some 29), .bin .add (.t 27) (.t 28), (some (26, false))⟩,
  ⟨(some 30), .fad 1 (.t 5), (some (26, false))⟩,
  ⟨(some 31), .load false 1 (.t 30), (some (26, false))⟩,
  ⟨(some 32), .bin .gtr (.t 29) (.t 31), (some (26, false))⟩,
  ⟨(some 33), .pick (.t 26) (.k (D.bool true)) (.t 32), none⟩])
 (.cond (.t 33)
 (.seq (.reg [⟨(some 34), .load true 3 (.t 5), none⟩,
  ⟨none, .store 3 (.t 10) (.t 34), none⟩])
 .ret)
 .skip))
 (.seq (.reg [⟨(some 35), .load true 3 (.t 5), none⟩,
  ⟨(some 36), .mv (.t 1), none⟩,
  ⟨(some 37), .call false 163 [(.t 35), (.t 36)], none⟩,
  ⟨(some 12), .mv (.t 37), none⟩])
 (.seq (.reg [⟨(some 38), .mv (.t 12), none⟩,
  ⟨(some 39), .mv (.t 2), none⟩,
  ⟨(some 40), .mv (.t 3), none⟩,
  ⟨(some 41), .load true 3 (.t 9), none⟩,
  ⟨(some 42), .build [(D.int .i32 (0)), (D.int .i64 (0)), (D.int .i64 (0)), (D.int .i64 (0)), (D.int .i64 (0))] [(0, 1, (.t 40)), (2, 3, (.t 41))], none⟩,
  ⟨(some 43), .ixs 5 (.t 38) (.t 39), none⟩,
  ⟨none, .store 5 (.t 43) (.t 42), none⟩])
 (.seq (.seq (.reg [⟨(some 44), .mv (.t 11), none⟩,
  ⟨(some 45), .bin .eql (.t 44) (.k (D.int .i64 (2))), none⟩])
 (.cond (.t 45)
 (.seq (.reg [⟨(some 46), .mv (.t 12), none⟩,
  ⟨(some 47), .mv (.t 2), none⟩,
  ⟨(some 48), .ixs 5 (.t 46) (.t 47), none⟩,
  ⟨(some 49), .fad 1 (.t 48), none⟩,
  ⟨none, .store 1 (.t 49) (.k (D.int .i64 (1))), none⟩])
 (.reg [⟨(some 50), .mv (.t 12), none⟩,
  ⟨(some 51), .mv (.t 2), none⟩,
  ⟨(some 52), .bin .add (.t 51) (.k (D.int .i64 (1))), none⟩,
  ⟨(some 53), .load true 3 (.t 9), none⟩,
  ⟨(some 54), .build [(D.int .i32 (0)), (D.int .i64 (0)), (D.int .i64 (0)), (D.int .i64 (0)), (D.int .i64 (0))] [(1, 1, (.k (D.int .i64 (2)))), (2, 3, (.t 53))], none⟩,
  ⟨(some 55), .ixs 5 (.t 50) (.t 52), none⟩,
  ⟨none, .store 5 (.t 55) (.t 54), none⟩]))
 .skip))
 (.seq (.reg [⟨(some 56), .load true 3 (.t 5), none⟩,
  ⟨(some 57), .mv (.t 1), none⟩,
  ⟨(some 58), .call false 161 [(.t 56), (.t 57)], none⟩,
  ⟨none, .store 3 (.t 10) (.t 58), none⟩])
 .ret))))))))⟩
def a402 : Ann := ⟨[], [⟨false, 0, false⟩], []⟩
def s402 : SFun := ⟨2, 86, [], [(.cell 4 true 29, ⟨false, 0, false⟩)],
 (.seq (.reg [⟨(some 2), .box 29 (.t 0), none⟩,
  ⟨(some 4), .alloc [(D.int .i64 (0)), (D.int .i64 (0)), .sn, (D.int .i64 (0)), (D.int .i64 (0)), (D.bool false), (D.int .i64 (0)), (D.int .i64 (0)), (D.int .i64 (0)), (D.int .i64 (0)), (D.int .i64 (0)), (D.int .u64 (0)), (D.int .u8 (0)), (D.int .u8 (0)), (D.int .i64 (0)), (D.bool false), (D.bool false), (D.bool false), (D.bool false), (D.bool false), (D.int .i64 (0)), (D.int .i64 (0)), (D.int .i64 (0)), (D.int .i64 (0)), (D.int .i64 (0)), (D.int .u8 (0)), (D.int .u8 (0)), (D.int .i64 (0)), (D.bool false)], none⟩])
 (.seq (.reg [⟨(some 7), .load true 29 (.t 2), none⟩,
  ⟨(some 8), .call false 370 [(.t 7)], none⟩,
  ⟨none, .store 29 (.t 2) (.t 8), none⟩])
 (.seq (.reg [⟨(some 9), .load true 29 (.t 2), none⟩,
  ⟨(some 10), .mv (.t 1), none⟩,
  ⟨(some 11), .call false 407 [(.t 9), (.t 10)], none⟩,
  ⟨(some 1), .mv (.t 11), none⟩])
 (.seq (.dreg [([], false, ⟨(some 12), .mv (.t 1), none⟩),
  ([], false, ⟨(some 13), .call true 109 [(.t 12)], none⟩),
  ([0, 1], false, ⟨(some 14), .fad 0 (.t 2), none⟩),
  ([0, 1], false, ⟨(some 15), .fad 1 (.t 14), none⟩),
  ([0, 1], false, ⟨(some 16), .load false 1 (.t 15), none⟩),
  ([2, 3, 4], false, ⟨(some 5), .mv (.t 13), none⟩),
  ([], true, ⟨(some 6), .mv (.t 16), none⟩)])
 (.seq (.seq (.reg [⟨(some 17), .mv (.t 5), none⟩,
  ⟨(some 18), .bin .eql (.t 17) (.k (D.int .i64 (0))), none⟩,
  ⟨(some 19), .mv (.t 18), none⟩,
  ⟨(some 20), .mv (.t 5), (some (19, false))⟩,
  ⟨(some 21), .mv (.t 6), (some (19, false))⟩,
  ⟨(some 22), .bin .gtr (.t 20) (.t 21), (some (19, false))⟩,
  ⟨(some 23), .pick (.t 19) (.k (D.bool true)) (.t 22), none⟩])
 (.cond (.t 23)
 (.seq (.reg [⟨(some 24), .load true 29 (.t 2), none⟩,
  ⟨none, .store 29 (.t 4) (.t 24), none⟩])
 .ret)
 .skip))
 (.seq (.block 0 (.seq (.reg [⟨(some 26), .fad 15 (.t 2), none⟩,
  ⟨(some 27), .load false 1 (.t 26), none⟩,
  ⟨(some 28), .mv (.t 27), none⟩,
  ⟨(some 29), .fad 5 (.t 2), (some (28, true))⟩,
  ⟨(some 30), .load false 1 (.t 29), (some (28, true))⟩,
  ⟨(some 31), .mv (.t 30), (some (28, true))⟩,
  ⟨(some 32), .fad 4 (.t 2), (some (31, false))⟩,
  ⟨(some 33), .load false 1 (.t 32), (some (31, false))⟩,
  ⟨(some 34), .mv (.t 5), (some (31, false))⟩,
  ⟨(some 35), .bin .add (.t 33) (.t 34), (some (31, false))⟩,
  ⟨(some 36), .mv (.t 6), (some (31, false))⟩,
  ⟨(some 37), .bin .gtr (.t 35) (.t 36), (some (31, false))⟩,
  ⟨(some 38), .pick (.t 31) (.k (D.bool true)) (.t 37), (some (28, true))⟩,
  ⟨(some 39), .pick (.t 28) (.t 38) (.k (D.bool false)), none⟩,
  ⟨(some 25), .mv (.t 39), none⟩])
 (.cond (.t 25)
 (.reg [⟨(some 40), .load true 29 (.t 2), none⟩,
  ⟨(some 41), .call false 404 [(.t 40), (.k (D.int .i64 (0)))], none⟩,
  ⟨(some 42), .call false 125 [(.t 41)], none⟩,
  ⟨none, .store 29 (.t 2) (.t 42), none⟩])
 (.seq (.reg [⟨(some 44), .fad 4 (.t 2), none⟩,
  ⟨(some 45), .load false 1 (.t 44), none⟩,
  ⟨(some 46), .mv (.t 5), none⟩,
  ⟨(some 47), .bin .add (.t 45) (.t 46), none⟩,
  ⟨(some 48), .mv (.t 6), none⟩,
  ⟨(some 49), .bin .gtr (.t 47) (.t 48), none⟩,
  ⟨(some 43), .mv (.t 49), none⟩])
 (.cond (.t 43)
 (.reg [⟨(some 50), .mv (.t 6), none⟩,
  ⟨(some 51), .mv (.t 5), none⟩,
  ⟨(some 52), .bin .sub (.t 50) (.t 51), none⟩,
  ⟨(some 53), .fad 4 (.t 2), none⟩,
  ⟨none, .store 1 (.t 53) (.t 52), none⟩])
 .skip)))))
 (.seq (.reg [⟨(some 54), .fad 0 (.t 2), none⟩,
  ⟨(some 55), .load true 3 (.t 54), none⟩,
  ⟨(some 56), .fad 3 (.t 2), none⟩,
  ⟨(some 57), .load false 1 (.t 56), none⟩,
  ⟨(some 58), .fad 4 (.t 2), none⟩,
  ⟨(some 59), .load false 1 (.t 58), none⟩,
  ⟨(some 60), .mv (.t 1), none⟩,
  ⟨(some 61), .fad 8 (.t 2), none⟩,
  ⟨(some 62), .load true 3 (.t 61), none⟩,
  ⟨(some 63), .call false 152 [(.t 55), (.t 57), (.t 59), (.t 60), (.t 62)], none⟩,
  ⟨(some 64), .fad 0 (.t 2), none⟩,
  ⟨none, .store 3 (.t 64) (.t 63), none⟩])
 (.seq (.reg [⟨(some 65), .fad 4 (.t 2), none⟩,
  ⟨(some 66), .load false 1 (.t 65), none⟩,
  ⟨(some 67), .mv (.t 5), none⟩,
  ⟨(some 68), .bin .add (.t 66) (.t 67), none⟩,
  ⟨(some 69), .fad 4 (.t 2), none⟩,
  ⟨none, .store 1 (.t 69) (.t 68), none⟩])
 (.seq (.reg [⟨(some 70), .fad 4 (.t 2), none⟩,
  ⟨(some 71), .load false 1 (.t 70), none⟩,
  ⟨(some 72), .mv (.t 6), none⟩,
  ⟨(some 73), .bin .geq (.t 71) (.t 72), none⟩,
  ⟨(some 74), .mv (.t 73), none⟩,
  ⟨(some 75), .fad 15 (.t 2), (some (74, true))⟩,
  ⟨(some 76), .load false 1 (.t 75), (some (74, true))⟩,
  ⟨(some 77), .pick (.t 74) (.t 76) (.k (D.bool false)), none⟩,
  ⟨(some 78), .fad 5 (.t 2), none⟩,
  ⟨none, .store 1 (.t 78) (.t 77), none⟩])
 (.seq (.reg [⟨(some 79), .fad 4 (.t 2), none⟩,
  ⟨(some 80), .load false 1 (.t 79), none⟩,
  ⟨(some 81), .mv (.t 6), none⟩,
  ⟨(some 82), .bin .sub (.t 81) (.k (D.int .i64 (1))), none⟩,
  ⟨(some 83), .mn [(.t 80), (.t 82)], none⟩,
  ⟨(some 84), .fad 4 (.t 2), none⟩,
  ⟨none, .store 1 (.t 84) (.t 83), none⟩])
 (.seq (.reg [⟨(some 85), .load true 29 (.t 2), none⟩,
  ⟨none, .store 29 (.t 4) (.t 85), none⟩])
 .ret)))))))))))⟩
def a422 : Ann := ⟨[], [⟨false, 0, false⟩], []⟩
def s422 : SFun := ⟨1, 11, [], [(.tmp 2, ⟨false, 0, false⟩)],
 (.seq (.reg [⟨(some 2), .mv (.k (D.int .u64 (0))), none⟩])
 (.seq (.seq (.reg [⟨(some 3), .mv (.t 0), none⟩,
  ⟨(some 4), .bin .lss (.t 3) (.k (D.int .i64 (0))), none⟩,
  ⟨(some 5), .mv (.t 4), none⟩,
  ⟨(some 6), .mv (.t 0), (some (5, false))⟩,
  ⟨(some 7), .bin .geq (.t 6) (.k (D.int .i64 (64))), (some (5, false))⟩,
  ⟨(some 8), .pick (.t 5) (.k (D.bool true)) (.t 7), none⟩])
 (.cond (.t 8)
 (.seq (.reg [⟨(some 2), .mv (.k (D.int .u64 (0))), none⟩])
 .ret)
 .skip))
 (.seq (.reg [⟨(some 9), .mv (.t 0), none⟩,
  ⟨(some 10), .bin .shl (.k (D.int .u64 (1))) (.t 9), none⟩,
  ⟨(some 2), .mv (.t 10), none⟩])
 .ret)))⟩
def a417 : Ann := ⟨[], [⟨false, 0, false⟩], []⟩
def s417 : SFun := ⟨2, 10, [], [(.tmp 4, ⟨false, 0, false⟩)],
 (.seq (.reg [⟨(some 4), .mv (.k (D.bool false)), none⟩])
 (.seq (.reg [⟨(some 5), .mv (.t 0), none⟩,
  ⟨(some 6), .mv (.t 1), none⟩,
  ⟨(some 7), .call false 422 [(.t 6)], none⟩,
  ⟨(some 8), .bin .and (.t 5) (.t 7), none⟩,
  ⟨(some 9), .bin .neq (.t 8) (.k (D.int .u64 (0))), none⟩,
  ⟨(some 4), .mv (.t 9), none⟩])
 .ret))⟩
def a418 : Ann := ⟨[(3, [(0, ⟨false, 0, false⟩), (5, ⟨false, 0, false⟩), (3, ⟨true, 1, false⟩)])], [⟨true, 1, false⟩], []⟩
def s418 : SFun := ⟨1, 17, [], [(.tmp 2, ⟨true, 1, false⟩)],
 (.seq (.reg [⟨(some 2), .mv (.k .sn), none⟩])
 (.seq (.reg [⟨(some 3), .mv (.k .sn), none⟩])
 (.seq (.seq (.reg [⟨(some 5), .mv (.k (D.int .i64 (0))), none⟩])
 (.block 0 (.loop [(0, ⟨false, 0, false⟩), (5, ⟨false, 0, false⟩), (3, ⟨true, 1, false⟩)]
 (.seq (.reg [⟨(some 6), .bin .lss (.t 5) (.k (D.int .i64 (64))), none⟩])
 (.seq (.cond (.t 6)
 .skip
 (.exit 0))
 (.seq (.block 1 (.seq (.reg [⟨(some 7), .mv (.t 5), none⟩,
  ⟨(some 4), .mv (.t 7), none⟩])
 (.seq (.reg [⟨(some 8), .mv (.t 0), none⟩,
  ⟨(some 9), .mv (.t 4), none⟩,
  ⟨(some 10), .call false 417 [(.t 8), (.t 9)], none⟩])
 (.cond (.t 10)
 (.reg [⟨(some 11), .mv (.t 3), none⟩,
  ⟨(some 12), .mv (.t 4), none⟩,
  ⟨(some 13), .bsl false 1 1 [(D.int .i64 (0))] [(0, (.t 12))], none⟩,
  ⟨(some 14), .append 1 8 (.t 11) (.t 13), none⟩,
  ⟨(some 3), .mv (.t 14), none⟩])
 .skip))))
 (.reg [⟨(some 15), .bin .add (.t 5) (.k (D.int .i64 (1))), none⟩,
  ⟨(some 5), .mv (.t 15), none⟩])))))))
 (.seq (.reg [⟨(some 16), .mv (.t 3), none⟩,
  ⟨(some 2), .mv (.t 16), none⟩])
 .ret))))⟩
def a420 : Ann := ⟨[(2, [(1, ⟨false, 0, false⟩), (2, ⟨false, 0, false⟩), (6, ⟨false, 0, false⟩), (10, ⟨false, 0, false⟩), (11, ⟨false, 0, false⟩), (12, ⟨false, 0, false⟩)])], [⟨false, 0, false⟩], []⟩
def s420 : SFun := ⟨3, 28, [], [(.tmp 6, ⟨false, 0, false⟩)],
 (.seq (.reg [⟨(some 6), .mv (.k (D.int .i64 (0))), none⟩])
 (.seq (.seq (.reg [⟨(some 9), .mv (.t 0), none⟩,
  ⟨(some 10), .call false 418 [(.t 9)], none⟩,
  ⟨(some 11), .len (.t 10), none⟩,
  ⟨(some 12), .mv (.k (D.int .i64 (0))), none⟩])
 (.block 0 (.loop [(1, ⟨false, 0, false⟩), (2, ⟨false, 0, false⟩), (6, ⟨false, 0, false⟩), (10, ⟨false, 0, false⟩), (11, ⟨false, 0, false⟩), (12, ⟨false, 0, false⟩)]
 (.seq (.reg [⟨(some 13), .bin .lss (.t 12) (.t 11), none⟩])
 (.seq (.cond (.t 13)
 .skip
 (.exit 0))
 (.seq (.block 1 (.seq (.reg [⟨(some 14), .ixs 1 (.t 10) (.t 12), none⟩,
  ⟨(some 15), .load false 1 (.t 14), none⟩,
  ⟨(some 8), .mv (.t 15), none⟩])
 (.seq (.reg [⟨(some 16), .mv (.t 8), none⟩,
  ⟨(some 17), .mv (.t 1), none⟩,
  ⟨(some 18), .bin .gtr (.t 16) (.t 17), none⟩,
  ⟨(some 19), .mv (.t 18), none⟩,
  ⟨(some 20), .mv (.t 8), (some (19, true))⟩,
  ⟨(some 21), .mv (.t 2), (some (19, true))⟩,
  ⟨(some 22), .bin .lss (.t 20) (.t 21), (some (19, true))⟩,
  ⟨(some 23), .pick (.t 19) (.t 22) (.k (D.bool false)), none⟩])
 (.cond (.t 23)
 (.seq (.reg [⟨(some 24), .mv (.t 8), none⟩,
  ⟨(some 6), .mv (.t 24), none⟩])
 .ret)
 .skip))))
 (.reg [⟨(some 25), .bin .add (.t 12) (.k (D.int .i64 (1))), none⟩,
  ⟨(some 12), .mv (.t 25), none⟩])))))))
 (.seq (.reg [⟨(some 26), .mv (.t 2), none⟩,
  ⟨(some 27), .bin .sub (.t 26) (.k (D.int .i64 (1))), none⟩,
  ⟨(some 6), .mv (.t 27), none⟩])
 .ret)))⟩
def a410 : Ann := ⟨[], [⟨false, 0, false⟩], []⟩
def s410 : SFun := ⟨2, 49, [], [(.cell 4 true 29, ⟨false, 0, false⟩)],
 (.seq (.reg [⟨(some 2), .box 29 (.t 0), none⟩,
  ⟨(some 4), .alloc [(D.int .i64 (0)), (D.int .i64 (0)), .sn, (D.int .i64 (0)), (D.int .i64 (0)), (D.bool false), (D.int .i64 (0)), (D.int .i64 (0)), (D.int .i64 (0)), (D.int .i64 (0)), (D.int .i64 (0)), (D.int .u64 (0)), (D.int .u8 (0)), (D.int .u8 (0)), (D.int .i64 (0)), (D.bool false), (D.bool false), (D.bool false), (D.bool false), (D.bool false), (D.int .i64 (0)), (D.int .i64 (0)), (D.int .i64 (0)), (D.int .i64 (0)), (D.int .i64 (0)), (D.int .u8 (0)), (D.int .u8 (0)), (D.int .i64 (0)), (D.bool false)], none⟩])
 (.seq (.block 0 (.seq (.reg [⟨(some 6), .mv (.t 1), none⟩,
  ⟨(some 7), .bin .eql (.t 6) (.k (D.int .u8 (8))), none⟩,
  ⟨(some 5), .mv (.t 7), none⟩])
 (.cond (.t 5)
 (.seq (.reg [⟨(some 8), .load true 29 (.t 2), none⟩,
  ⟨(some 9), .fad 4 (.t 2), none⟩,
  ⟨(some 10), .load false 1 (.t 9), none⟩,
  ⟨(some 11), .bin .sub (.t 10) (.k (D.int .i64 (1))), none⟩,
  ⟨(some 12), .call false 404 [(.t 8), (.t 11)], none⟩,
  ⟨none, .store 29 (.t 4) (.t 12), none⟩])
 .ret)
 (.seq (.reg [⟨(some 14), .mv (.t 1), none⟩,
  ⟨(some 15), .bin .eql (.t 14) (.k (D.int .u8 (9))), none⟩,
  ⟨(some 13), .mv (.t 15), none⟩])
 (.cond (.t 13)
 (.seq (.dreg [([], false, ⟨(some 16), .load true 29 (.t 2), none⟩),
  ([0], false, ⟨(some 17), .fad 11 (.t 2), none⟩),
  ([0], false, ⟨(some 18), .load false 1 (.t 17), none⟩),
  ([0, 1, 2], false, ⟨(some 19), .fad 4 (.t 2), none⟩),
  ([0, 1, 2], false, ⟨(some 20), .load false 1 (.t 19), none⟩),
  ([0, 1, 2, 3, 4], false, ⟨(some 21), .fad 0 (.t 2), none⟩),
  ([0, 1, 2, 3, 4], false, ⟨(some 22), .fad 1 (.t 21), none⟩),
  ([0, 1, 2, 3, 4], false, ⟨(some 23), .load false 1 (.t 22), none⟩),
  ([0], false, ⟨(some 24), .callr 420 [(.t 18), (.t 20), (.t 23)], none⟩),
  ([], true, ⟨(some 25), .call false 404 [(.t 16), (.t 24)], none⟩),
  ([], true, ⟨none, .store 29 (.t 4) (.t 25), none⟩)])
 .ret)
 (.seq (.reg [⟨(some 27), .mv (.t 1), none⟩,
  ⟨(some 28), .bin .geq (.t 27) (.k (D.int .u8 (10))), none⟩,
  ⟨(some 29), .mv (.t 28), none⟩,
  ⟨(some 30), .mv (.t 1), (some (29, true))⟩,
  ⟨(some 31), .bin .leq (.t 30) (.k (D.int .u8 (12))), (some (29, true))⟩,
  ⟨(some 32), .pick (.t 29) (.t 31) (.k (D.bool false)), none⟩,
  ⟨(some 26), .mv (.t 32), none⟩])
 (.cond (.t 26)
 (.seq (.reg [⟨(some 33), .load true 29 (.t 2), none⟩,
  ⟨(some 34), .call false 125 [(.t 33)], none⟩,
  ⟨none, .store 29 (.t 4) (.t 34), none⟩])
 .ret)
 (.seq (.reg [⟨(some 36), .mv (.t 1), none⟩,
  ⟨(some 37), .bin .eql (.t 36) (.k (D.int .u8 (13))), none⟩,
  ⟨(some 35), .mv (.t 37), none⟩])
 (.cond (.t 35)
 (.seq (.reg [⟨(some 38), .load true 29 (.t 2), none⟩,
  ⟨(some 39), .call false 404 [(.t 38), (.k (D.int .i64 (0)))], none⟩,
  ⟨none, .store 29 (.t 4) (.t 39), none⟩])
 .ret)
 (.seq (.reg [⟨(some 41), .mv (.t 1), none⟩,
  ⟨(some 42), .bin .eql (.t 41) (.k (D.int .u8 (14))), none⟩,
  ⟨(some 40), .mv (.t 42), none⟩])
 (.cond (.t 40)
 (.reg [⟨(some 43), .fad 14 (.t 2), none⟩,
  ⟨none, .store 1 (.t 43) (.k (D.int .i64 (1))), none⟩])
 (.seq (.reg [⟨(some 45), .mv (.t 1), none⟩,
  ⟨(some 46), .bin .eql (.t 45) (.k (D.int .u8 (15))), none⟩,
  ⟨(some 44), .mv (.t 46), none⟩])
 (.cond (.t 44)
 (.reg [⟨(some 47), .fad 14 (.t 2), none⟩,
  ⟨none, .store 1 (.t 47) (.k (D.int .i64 (0))), none⟩])
 .skip)))))))))))))
 (.seq (.reg [⟨(some 48), .load true 29 (.t 2), none⟩,
  ⟨none, .store 29 (.t 4) (.t 48), none⟩])
 .ret)))⟩
def a406 : Ann := ⟨[], [⟨false, 0, false⟩], []⟩
def s406 : SFun := ⟨3, 26, [], [(.cell 6 true 29, ⟨false, 0, false⟩)],
 (.seq (.reg [⟨(some 3), .box 29 (.t 0), none⟩,
  ⟨(some 6), .alloc [(D.int .i64 (0)), (D.int .i64 (0)), .sn, (D.int .i64 (0)), (D.int .i64 (0)), (D.bool false), (D.int .i64 (0)), (D.int .i64 (0)), (D.int .i64 (0)), (D.int .i64 (0)), (D.int .i64 (0)), (D.int .u64 (0)), (D.int .u8 (0)), (D.int .u8 (0)), (D.int .i64 (0)), (D.bool false), (D.bool false), (D.bool false), (D.bool false), (D.bool false), (D.int .i64 (0)), (D.int .i64 (0)), (D.int .i64 (0)), (D.int .i64 (0)), (D.int .i64 (0)), (D.int .u8 (0)), (D.int .u8 (0)), (D.int .i64 (0)), (D.bool false)], none⟩])
 (.seq (.seq (.reg [⟨(some 7), .mv (.t 2), none⟩,
  ⟨(some 8), .bin .neq (.t 7) (.k (D.int .u8 (48))), none⟩,
  ⟨(some 9), .mv (.t 8), none⟩,
  ⟨(some 10), .mv (.t 2), (some (9, true))⟩,
  ⟨(some 11), .bin .neq (.t 10) (.k (D.int .u8 (66))), (some (9, true))⟩,
  ⟨(some 12), .pick (.t 9) (.t 11) (.k (D.bool false)), none⟩])
 (.cond (.t 12)
 (.seq (.reg [⟨(some 13), .load true 29 (.t 3), none⟩,
  ⟨none, .store 29 (.t 6) (.t 13), none⟩])
 .ret)
 .skip))
 (.seq (.seq (.reg [⟨(some 14), .mv (.t 1), none⟩])
 (.block 0 (.seq (.reg [⟨(some 16), .bin .eql (.t 14) (.k (D.int .u8 (40))), none⟩,
  ⟨(some 15), .mv (.t 16), none⟩])
 (.cond (.t 15)
 (.reg [⟨(some 17), .mv (.t 2), none⟩,
  ⟨(some 18), .fad 12 (.t 3), none⟩,
  ⟨(some 19), .ixa 2 1 (.t 18) (.k (D.int .i64 (0))), none⟩,
  ⟨none, .store 1 (.t 19) (.t 17), none⟩])
 (.seq (.reg [⟨(some 21), .bin .eql (.t 14) (.k (D.int .u8 (41))), none⟩,
  ⟨(some 20), .mv (.t 21), none⟩])
 (.cond (.t 20)
 (.reg [⟨(some 22), .mv (.t 2), none⟩,
  ⟨(some 23), .fad 12 (.t 3), none⟩,
  ⟨(some 24), .ixa 2 1 (.t 23) (.k (D.int .i64 (1))), none⟩,
  ⟨none, .store 1 (.t 24) (.t 22), none⟩])
 .skip))))))
 (.seq (.reg [⟨(some 25), .load true 29 (.t 3), none⟩,
  ⟨none, .store 29 (.t 6) (.t 25), none⟩])
 .ret))))⟩
def a129 : Ann := ⟨[], [⟨false, 0, false⟩], []⟩
def s129 : SFun := ⟨1, 20, [], [(.cell 2 true 29, ⟨false, 0, false⟩)],
 (.seq (.reg [⟨(some 1), .box 29 (.t 0), none⟩,
  ⟨(some 2), .alloc [(D.int .i64 (0)), (D.int .i64 (0)), .sn, (D.int .i64 (0)), (D.int .i64 (0)), (D.bool false), (D.int .i64 (0)), (D.int .i64 (0)), (D.int .i64 (0)), (D.int .i64 (0)), (D.int .i64 (0)), (D.int .u64 (0)), (D.int .u8 (0)), (D.int .u8 (0)), (D.int .i64 (0)), (D.bool false), (D.bool false), (D.bool false), (D.bool false), (D.bool false), (D.int .i64 (0)), (D.int .i64 (0)), (D.int .i64 (0)), (D.int .i64 (0)), (D.int .i64 (0)), (D.int .u8 (0)), (D.int .u8 (0)), (D.int .i64 (0)), (D.bool false)], none⟩])
 (.seq (.reg [⟨(some 3), .load true 29 (.t 1), none⟩,
  ⟨(some 4), .call false 370 [(.t 3)], none⟩,
  ⟨none, .store 29 (.t 1) (.t 4), none⟩])
 (.seq (.reg [⟨(some 5), .fad 3 (.t 1), none⟩,
  ⟨(some 6), .load false 1 (.t 5), none⟩,
  ⟨(some 7), .fad 4 (.t 1), none⟩,
  ⟨(some 8), .load false 1 (.t 7), none⟩,
  ⟨(some 9), .fad 8 (.t 1), none⟩,
  ⟨(some 10), .load true 3 (.t 9), none⟩,
  ⟨(some 11), .fad 12 (.t 1), none⟩,
  ⟨(some 12), .load true 2 (.t 11), none⟩,
  ⟨(some 13), .fad 14 (.t 1), none⟩,
  ⟨(some 14), .load false 1 (.t 13), none⟩,
  ⟨(some 15), .fad 16 (.t 1), none⟩,
  ⟨(some 16), .load false 1 (.t 15), none⟩,
  ⟨(some 17), .build [(D.int .i64 (0)), (D.int .i64 (0)), (D.int .i64 (0)), (D.int .i64 (0)), (D.int .i64 (0)), (D.int .u8 (0)), (D.int .u8 (0)), (D.int .i64 (0)), (D.bool false)] [(0, 1, (.t 6)), (1, 1, (.t 8)), (2, 3, (.t 10)), (5, 2, (.t 12)), (7, 1, (.t 14)), (8, 1, (.t 16))], none⟩,
  ⟨(some 18), .fad 20 (.t 1), none⟩,
  ⟨none, .store 9 (.t 18) (.t 17), none⟩])
 (.seq (.reg [⟨(some 19), .load true 29 (.t 1), none⟩,
  ⟨none, .store 29 (.t 2) (.t 19), none⟩])
 .ret))))⟩
def a128 : Ann := ⟨[], [⟨false, 0, false⟩], []⟩
def s128 : SFun := ⟨1, 24, [], [(.cell 2 true 29, ⟨false, 0, false⟩)],
 (.seq (.reg [⟨(some 1), .box 29 (.t 0), none⟩,
  ⟨(some 2), .alloc [(D.int .i64 (0)), (D.int .i64 (0)), .sn, (D.int .i64 (0)), (D.int .i64 (0)), (D.bool false), (D.int .i64 (0)), (D.int .i64 (0)), (D.int .i64 (0)), (D.int .i64 (0)), (D.int .i64 (0)), (D.int .u64 (0)), (D.int .u8 (0)), (D.int .u8 (0)), (D.int .i64 (0)), (D.bool false), (D.bool false), (D.bool false), (D.bool false), (D.bool false), (D.int .i64 (0)), (D.int .i64 (0)), (D.int .i64 (0)), (D.int .i64 (0)), (D.int .i64 (0)), (D.int .u8 (0)), (D.int .u8 (0)), (D.int .i64 (0)), (D.bool false)], none⟩])
 (.seq (.reg [⟨(some 4), .fad 20 (.t 1), none⟩,
  ⟨(some 5), .load true 9 (.t 4), none⟩,
  ⟨(some 3), .alloc [(D.int .i64 (0)), (D.int .i64 (0)), (D.int .i64 (0)), (D.int .i64 (0)), (D.int .i64 (0)), (D.int .u8 (0)), (D.int .u8 (0)), (D.int .i64 (0)), (D.bool false)], none⟩,
  ⟨none, .store 9 (.t 3) (.t 5), none⟩])
 (.seq (.dreg [([], false, ⟨(some 6), .fad 2 (.t 3), none⟩),
  ([], false, ⟨(some 7), .load true 3 (.t 6), none⟩),
  ([0, 1], false, ⟨(some 8), .fad 5 (.t 3), none⟩),
  ([0, 1], false, ⟨(some 9), .load true 2 (.t 8), none⟩),
  ([0, 1, 2, 3], false, ⟨(some 10), .fad 7 (.t 3), none⟩),
  ([0, 1, 2, 3], false, ⟨(some 11), .load false 1 (.t 10), none⟩),
  ([0, 1, 2, 3, 4, 5], false, ⟨(some 12), .fad 8 (.t 3), none⟩),
  ([0, 1, 2, 3, 4, 5], false, ⟨(some 13), .load false 1 (.t 12), none⟩),
  ([2, 3, 4, 5, 6, 7], false, ⟨(some 14), .fad 8 (.t 1), none⟩),
  ([2, 3, 4, 5, 6, 7], false, ⟨none, .store 3 (.t 14) (.t 7), none⟩),
  ([4, 5, 6, 7], false, ⟨(some 15), .fad 12 (.t 1), none⟩),
  ([4, 5, 6, 7], false, ⟨none, .store 2 (.t 15) (.t 9), none⟩),
  ([6, 7], false, ⟨(some 16), .fad 14 (.t 1), none⟩),
  ([6, 7], false, ⟨none, .store 1 (.t 16) (.t 11), none⟩),
  ([], true, ⟨(some 17), .fad 16 (.t 1), none⟩),
  ([], true, ⟨none, .store 1 (.t 17) (.t 13), none⟩)])
 (.seq (.reg [⟨(some 18), .load true 29 (.t 1), none⟩,
  ⟨(some 19), .fad 0 (.t 3), none⟩,
  ⟨(some 20), .load false 1 (.t 19), none⟩,
  ⟨(some 21), .fad 1 (.t 3), none⟩,
  ⟨(some 22), .load false 1 (.t 21), none⟩,
  ⟨(some 23), .call false 122 [(.t 18), (.t 20), (.t 22)], none⟩,
  ⟨none, .store 29 (.t 2) (.t 23), none⟩])
 .ret))))⟩
def a138 : Ann := ⟨[], [⟨false, 0, false⟩], []⟩
def s138 : SFun := ⟨5, 19, [], [(.cell 10 true 3, ⟨false, 0, false⟩)],
 (.seq (.reg [⟨(some 5), .box 3 (.t 0), none⟩,
  ⟨(some 9), .box 3 (.t 4), none⟩,
  ⟨(some 10), .alloc [(D.int .i64 (0)), (D.int .i64 (0)), .sn], none⟩])
 (.seq (.dreg [([], false, ⟨(some 11), .load true 3 (.t 5), none⟩),
  ([0], false, ⟨(some 12), .mv (.t 1), none⟩),
  ([0, 1], false, ⟨(some 13), .mv (.t 2), none⟩),
  ([0, 1, 2], false, ⟨(some 14), .mv (.t 3), none⟩),
  ([0, 1, 2], false, ⟨(some 15), .call true 145 [(.t 14)], none⟩),
  ([0, 1, 2], false, ⟨(some 16), .una .neg (.t 15), none⟩),
  ([0, 1, 2, 3, 4, 5], false, ⟨(some 17), .load true 3 (.t 9), none⟩),
  ([], true, ⟨(some 18), .call false 147 [(.t 11), (.t 12), (.t 13), (.t 16), (.t 17)], none⟩),
  ([], true, ⟨none, .store 3 (.t 10) (.t 18), none⟩)])
 .ret))⟩
def a123 : Ann := ⟨[], [⟨false, 0, false⟩], []⟩
def s123 : SFun := ⟨1, 27, [], [(.cell 2 true 29, ⟨false, 0, false⟩)],
 (.seq (.reg [⟨(some 1), .box 29 (.t 0), none⟩,
  ⟨(some 2), .alloc [(D.int .i64 (0)), (D.int .i64 (0)), .sn, (D.int .i64 (0)), (D.int .i64 (0)), (D.bool false), (D.int .i64 (0)), (D.int .i64 (0)), (D.int .i64 (0)), (D.int .i64 (0)), (D.int .i64 (0)), (D.int .u64 (0)), (D.int .u8 (0)), (D.int .u8 (0)), (D.int .i64 (0)), (D.bool false), (D.bool false), (D.bool false), (D.bool false), (D.bool false), (D.int .i64 (0)), (D.int .i64 (0)), (D.int .i64 (0)), (D.int .i64 (0)), (D.int .i64 (0)), (D.int .u8 (0)), (D.int .u8 (0)), (D.int .i64 (0)), (D.bool false)], none⟩])
 (.seq (.seq (.reg [⟨(some 3), .fad 3 (.t 1), none⟩,
  ⟨(some 4), .load false 1 (.t 3), none⟩,
  ⟨(some 5), .fad 6 (.t 1), none⟩,
  ⟨(some 6), .load false 1 (.t 5), none⟩,
  ⟨(some 7), .bin .neq (.t 4) (.t 6), none⟩])
 (.cond (.t 7)
 (.seq (.reg [⟨(some 8), .load true 29 (.t 1), none⟩,
  ⟨(some 9), .fad 3 (.t 1), none⟩,
  ⟨(some 10), .load false 1 (.t 9), none⟩,
  ⟨(some 11), .bin .sub (.t 10) (.k (D.int .i64 (1))), none⟩,
  ⟨(some 12), .fad 4 (.t 1), none⟩,
  ⟨(some 13), .load false 1 (.t 12), none⟩,
  ⟨(some 14), .call false 122 [(.t 8), (.t 11), (.t 13)], none⟩,
  ⟨none, .store 29 (.t 2) (.t 14), none⟩])
 .ret)
 .skip))
 (.seq (.dreg [([], false, ⟨(some 15), .fad 0 (.t 1), none⟩),
  ([], false, ⟨(some 16), .load true 3 (.t 15), none⟩),
  ([0, 1], false, ⟨(some 17), .fad 6 (.t 1), none⟩),
  ([0, 1], false, ⟨(some 18), .load false 1 (.t 17), none⟩),
  ([0, 1, 2, 3], false, ⟨(some 19), .fad 7 (.t 1), none⟩),
  ([0, 1, 2, 3], false, ⟨(some 20), .load false 1 (.t 19), none⟩),
  ([0, 1, 2, 3, 4, 5], false, ⟨(some 21), .load true 29 (.t 1), none⟩),
  ([0, 1, 2, 3, 4, 5], false, ⟨(some 22), .callr 371 [(.t 21)], none⟩),
  ([], true, ⟨(some 23), .call false 138 [(.t 16), (.t 18), (.t 20), (.k (D.int .i64 (1))), (.t 22)], none⟩),
  ([], true, ⟨(some 24), .fad 0 (.t 1), none⟩),
  ([], true, ⟨none, .store 3 (.t 24) (.t 23), none⟩),
  ([], true, ⟨(some 25), .fad 5 (.t 1), none⟩),
  ([], true, ⟨none, .store 1 (.t 25) (.k (D.bool false)), none⟩)])
 (.seq (.reg [⟨(some 26), .load true 29 (.t 1), none⟩,
  ⟨none, .store 29 (.t 2) (.t 26), none⟩])
 .ret))))⟩
def a421 : Ann := ⟨[(2, [(0, ⟨false, 0, false⟩), (7, ⟨false, 0, false⟩), (8, ⟨false, 0, false⟩), (9, ⟨false, 0, false⟩)])], [⟨false, 0, false⟩], []⟩
def s421 : SFun := ⟨2, 19, [], [(.tmp 4, ⟨false, 0, false⟩)],
 (.seq (.reg [⟨(some 4), .mv (.k (D.int .u64 (0))), none⟩])
 (.seq (.seq (.reg [⟨(some 7), .mv (.t 1), none⟩,
  ⟨(some 8), .len (.t 7), none⟩,
  ⟨(some 9), .mv (.k (D.int .i64 (0))), none⟩])
 (.block 0 (.loop [(0, ⟨false, 0, false⟩), (7, ⟨false, 0, false⟩), (8, ⟨false, 0, false⟩), (9, ⟨false, 0, false⟩)]
 (.seq (.reg [⟨(some 10), .bin .lss (.t 9) (.t 8), none⟩])
 (.seq (.cond (.t 10)
 .skip
 (.exit 0))
 (.seq (.block 1 (.seq (.reg [⟨(some 11), .ixs 1 (.t 7) (.t 9), none⟩,
  ⟨(some 12), .load false 1 (.t 11), none⟩,
  ⟨(some 6), .mv (.t 12), none⟩])
 (.reg [⟨(some 13), .mv (.t 0), none⟩,
  ⟨(some 14), .mv (.t 6), none⟩,
  ⟨(some 15), .call false 422 [(.t 14)], none⟩,
  ⟨(some 16), .bin .or (.t 13) (.t 15), none⟩,
  ⟨(some 0), .mv (.t 16), none⟩])))
 (.reg [⟨(some 17), .bin .add (.t 9) (.k (D.int .i64 (1))), none⟩,
  ⟨(some 9), .mv (.t 17), none⟩])))))))
 (.seq (.reg [⟨(some 18), .mv (.t 0), none⟩,
  ⟨(some 4), .mv (.t 18), none⟩])
 .ret)))⟩
def a107 : Ann := ⟨[], [⟨false, 0, false⟩], []⟩
def s107 : SFun := ⟨0, 2, [], [(.cell 0 true 3, ⟨false, 0, false⟩)],
 (.seq (.reg [⟨(some 0), .alloc [(D.int .i64 (0)), (D.int .i64 (0)), (D.int .i64 (0))], none⟩])
 (.seq (.reg [⟨(some 1), .build [(D.int .i64 (0)), (D.int .i64 (0)), (D.int .i64 (0))] [(0, 1, (.k (D.int .i64 (-1)))), (1, 1, (.k (D.int .i64 (-1))))], none⟩,
  ⟨none, .store 3 (.t 0) (.t 1), none⟩])
 .ret))⟩
def a151 : Ann := ⟨[], [⟨true, 0, false⟩], []⟩
def s151 : SFun := ⟨3, 23, [], [(.cell 6 true 3, ⟨true, 0, false⟩)],
 (.seq (.reg [⟨(some 5), .box 3 (.t 2), none⟩,
  ⟨(some 6), .alloc [(D.int .i64 (0)), (D.int .i64 (0)), .sn], none⟩])
 (.seq (.reg [⟨(some 7), .mv (.t 0), none⟩,
  ⟨(some 8), .mn [(.t 7), (.k (D.int .i64 (40)))], none⟩,
  ⟨(some 9), .mx [(.k (D.int .i64 (1))), (.t 8)], none⟩,
  ⟨(some 10), .mv (.t 1), none⟩,
  ⟨(some 11), .mn [(.t 10), (.k (D.int .i64 (60)))], none⟩,
  ⟨(some 12), .mx [(.k (D.int .i64 (1))), (.t 11)], none⟩,
  ⟨(some 0), .mv (.t 9), none⟩,
  ⟨(some 1), .mv (.t 12), none⟩])
 (.seq (.reg [⟨(some 13), .mv (.t 0), none⟩,
  ⟨(some 14), .mv (.t 1), none⟩,
  ⟨(some 15), .load true 3 (.t 5), none⟩,
  ⟨(some 16), .call false 106 [(.t 15)], none⟩,
  ⟨(some 17), .bsl false 5 1 [(D.int .i32 (0)), (D.int .i64 (0)), (D.int .i64 (0)), (D.int .i64 (0)), (D.int .i64 (0))] [(0, (.t 16))], none⟩,
  ⟨(some 18), .mv (.t 0), none⟩,
  ⟨(some 19), .mv (.t 1), none⟩,
  ⟨(some 20), .bin .mul (.t 18) (.t 19), none⟩,
  ⟨(some 21), .call false 465 [(.t 17), (.t 20)], none⟩,
  ⟨(some 22), .build [(D.int .i64 (0)), (D.int .i64 (0)), .sn] [(0, 1, (.t 13)), (1, 1, (.t 14)), (2, 1, (.t 21))], none⟩,
  ⟨none, .store 3 (.t 6) (.t 22), none⟩])
 .ret)))⟩
def a419 : Ann := ⟨[(3, [(0, ⟨false, 0, false⟩), (3, ⟨false, 0, false⟩), (4, ⟨false, 0, false⟩)])], [⟨false, 0, false⟩], []⟩
def s419 : SFun := ⟨1, 16, [], [(.tmp 2, ⟨false, 0, false⟩)],
 (.seq (.reg [⟨(some 2), .mv (.k (D.int .u64 (0))), none⟩])
 (.seq (.reg [⟨(some 3), .mv (.k (D.int .u64 (0))), none⟩])
 (.seq (.seq (.reg [⟨(some 4), .mv (.k (D.int .i64 (8))), none⟩])
 (.block 0 (.loop [(0, ⟨false, 0, false⟩), (3, ⟨false, 0, false⟩), (4, ⟨false, 0, false⟩)]
 (.seq (.seq (.reg [⟨(some 5), .mv (.t 4), none⟩,
  ⟨(some 6), .mv (.t 0), none⟩,
  ⟨(some 7), .mn [(.t 6), (.k (D.int .i64 (64)))], none⟩,
  ⟨(some 8), .bin .lss (.t 5) (.t 7), none⟩])
 (.cond (.t 8)
 .skip
 (.exit 0)))
 (.seq (.block 1 (.reg [⟨(some 11), .mv (.t 3), none⟩,
  ⟨(some 12), .mv (.t 4), none⟩,
  ⟨(some 13), .call false 422 [(.t 12)], none⟩,
  ⟨(some 14), .bin .or (.t 11) (.t 13), none⟩,
  ⟨(some 3), .mv (.t 14), none⟩]))
 (.reg [⟨(some 9), .mv (.t 4), none⟩,
  ⟨(some 10), .bin .add (.t 9) (.k (D.int .i64 (8))), none⟩,
  ⟨(some 4), .mv (.t 10), none⟩]))))))
 (.seq (.reg [⟨(some 15), .mv (.t 3), none⟩,
  ⟨(some 2), .mv (.t 15), none⟩])
 .ret))))⟩
def a372 : Ann := ⟨[], [⟨false, 0, false⟩], []⟩
def s372 : SFun := ⟨2, 25, [], [(.cell 4 true 29, ⟨false, 0, false⟩)],
 (.seq (.reg [⟨(some 4), .alloc [(D.int .i64 (0)), (D.int .i64 (0)), .sn, (D.int .i64 (0)), (D.int .i64 (0)), (D.bool false), (D.int .i64 (0)), (D.int .i64 (0)), (D.int .i64 (0)), (D.int .i64 (0)), (D.int .i64 (0)), (D.int .u64 (0)), (D.int .u8 (0)), (D.int .u8 (0)), (D.int .i64 (0)), (D.bool false), (D.bool false), (D.bool false), (D.bool false), (D.bool false), (D.int .i64 (0)), (D.int .i64 (0)), (D.int .i64 (0)), (D.int .i64 (0)), (D.int .i64 (0)), (D.int .u8 (0)), (D.int .u8 (0)), (D.int .i64 (0)), (D.bool false)], none⟩])
 (.seq (.reg [⟨(some 7), .mv (.t 0), none⟩,
  ⟨(some 8), .mv (.t 1), none⟩,
  ⟨(some 9), .call false 107 [], none⟩,
  ⟨(some 10), .call false 151 [(.t 7), (.t 8), (.t 9)], none⟩,
  ⟨(some 5), .alloc [(D.int .i64 (0)), (D.int .i64 (0)), .sn], none⟩,
  ⟨none, .store 3 (.t 5) (.t 10), none⟩])
 (.seq (.reg [⟨(some 11), .build [(D.int .u8 (0)), (D.int .u8 (0))] [(0, 1, (.k (D.int .u8 (66)))), (1, 1, (.k (D.int .u8 (66))))], none⟩,
  ⟨(some 6), .alloc [(D.int .u8 (0)), (D.int .u8 (0))], none⟩,
  ⟨none, .store 2 (.t 6) (.t 11), none⟩])
 (.seq (.dreg [([], false, ⟨(some 12), .load true 3 (.t 5), none⟩),
  ([0], false, ⟨(some 13), .fad 0 (.t 5), none⟩),
  ([0], false, ⟨(some 14), .load false 1 (.t 13), none⟩),
  ([0], false, ⟨(some 15), .bin .sub (.t 14) (.k (D.int .i64 (1))), none⟩),
  ([0, 1, 2, 3], false, ⟨(some 16), .callr 107 [], none⟩),
  ([0, 1, 2, 3, 4], false, ⟨(some 17), .fad 1 (.t 5), none⟩),
  ([0, 1, 2, 3, 4], false, ⟨(some 18), .load false 1 (.t 17), none⟩),
  ([0, 1, 2, 3], false, ⟨(some 19), .callr 419 [(.t 18)], none⟩),
  ([0, 1, 2, 3, 4, 5, 6, 7], false, ⟨(some 20), .load true 2 (.t 6), none⟩),
  ([0, 1, 2, 3, 8], false, ⟨(some 21), .callr 107 [], none⟩),
  ([0, 1, 2, 3, 4, 5, 6, 7, 8, 9], false, ⟨(some 22), .load true 2 (.t 6), none⟩),
  ([0, 1, 2, 3, 8], false, ⟨(some 23), .build [(D.int .i64 (0)), (D.int .i64 (0)), (D.int .i64 (0)), (D.int .i64 (0)), (D.int .i64 (0)), (D.int .u8 (0)), (D.int .u8 (0)), (D.int .i64 (0)), (D.bool false)] [(2, 3, (.t 21)), (5, 2, (.t 22))], none⟩),
  ([], true, ⟨(some 24), .build [(D.int .i64 (0)), (D.int .i64 (0)), .sn, (D.int .i64 (0)), (D.int .i64 (0)), (D.bool false), (D.int .i64 (0)), (D.int .i64 (0)), (D.int .i64 (0)), (D.int .i64 (0)), (D.int .i64 (0)), (D.int .u64 (0)), (D.int .u8 (0)), (D.int .u8 (0)), (D.int .i64 (0)), (D.bool false), (D.bool false), (D.bool false), (D.bool false), (D.bool false), (D.int .i64 (0)), (D.int .i64 (0)), (D.int .i64 (0)), (D.int .i64 (0)), (D.int .i64 (0)), (D.int .u8 (0)), (D.int .u8 (0)), (D.int .i64 (0)), (D.bool false)] [(0, 3, (.t 12)), (7, 1, (.t 15)), (8, 3, (.t 16)), (11, 1, (.t 19)), (12, 2, (.t 20)), (15, 1, (.k (D.bool true))), (17, 1, (.k (D.bool true))), (20, 9, (.t 23))], none⟩),
  ([], true, ⟨none, .store 29 (.t 4) (.t 24), none⟩)])
 .ret))))⟩
def a409 : Ann := ⟨[], [⟨false, 0, false⟩], []⟩
def s409 : SFun := ⟨2, 62, [], [(.cell 4 true 29, ⟨false, 0, false⟩)],
 (.seq (.reg [⟨(some 2), .box 29 (.t 0), none⟩,
  ⟨(some 3), .box 7 (.t 1), none⟩,
  ⟨(some 4), .alloc [(D.int .i64 (0)), (D.int .i64 (0)), .sn, (D.int .i64 (0)), (D.int .i64 (0)), (D.bool false), (D.int .i64 (0)), (D.int .i64 (0)), (D.int .i64 (0)), (D.int .i64 (0)), (D.int .i64 (0)), (D.int .u64 (0)), (D.int .u8 (0)), (D.int .u8 (0)), (D.int .i64 (0)), (D.bool false), (D.bool false), (D.bool false), (D.bool false), (D.bool false), (D.int .i64 (0)), (D.int .i64 (0)), (D.int .i64 (0)), (D.int .i64 (0)), (D.int .i64 (0)), (D.int .u8 (0)), (D.int .u8 (0)), (D.int .i64 (0)), (D.bool false)], none⟩])
 (.seq (.seq (.reg [⟨(some 5), .fad 3 (.t 3), none⟩,
  ⟨(some 6), .load false 1 (.t 5), none⟩,
  ⟨(some 7), .bin .neq (.t 6) (.k (D.int .u8 (0))), none⟩])
 (.cond (.t 7)
 (.seq (.reg [⟨(some 8), .load true 29 (.t 2), none⟩,
  ⟨(some 9), .fad 3 (.t 3), none⟩,
  ⟨(some 10), .load false 1 (.t 9), none⟩,
  ⟨(some 11), .fad 4 (.t 3), none⟩,
  ⟨(some 12), .load false 1 (.t 11), none⟩,
  ⟨(some 13), .call false 406 [(.t 8), (.t 10), (.t 12)], none⟩,
  ⟨none, .store 29 (.t 4) (.t 13), none⟩])
 .ret)
 .skip))
 (.seq (.seq (.reg [⟨(some 14), .fad 4 (.t 3), none⟩,
  ⟨(some 15), .load false 1 (.t 14), none⟩])
 (.block 0 (.seq (.reg [⟨(some 17), .bin .eql (.t 15) (.k (D.int .u8 (55))), none⟩,
  ⟨(some 16), .mv (.t 17), none⟩])
 (.cond (.t 16)
 (.seq (.reg [⟨(some 18), .load true 29 (.t 2), none⟩,
  ⟨(some 19), .call false 129 [(.t 18)], none⟩,
  ⟨none, .store 29 (.t 4) (.t 19), none⟩])
 .ret)
 (.seq (.reg [⟨(some 21), .bin .eql (.t 15) (.k (D.int .u8 (56))), none⟩,
  ⟨(some 20), .mv (.t 21), none⟩])
 (.cond (.t 20)
 (.seq (.reg [⟨(some 22), .load true 29 (.t 2), none⟩,
  ⟨(some 23), .call false 128 [(.t 22)], none⟩,
  ⟨none, .store 29 (.t 4) (.t 23), none⟩])
 .ret)
 (.seq (.reg [⟨(some 25), .bin .eql (.t 15) (.k (D.int .u8 (68))), none⟩,
  ⟨(some 24), .mv (.t 25), none⟩])
 (.cond (.t 24)
 (.seq (.reg [⟨(some 26), .load true 29 (.t 2), none⟩,
  ⟨(some 27), .call false 125 [(.t 26)], none⟩,
  ⟨none, .store 29 (.t 4) (.t 27), none⟩])
 .ret)
 (.seq (.reg [⟨(some 29), .bin .eql (.t 15) (.k (D.int .u8 (69))), none⟩,
  ⟨(some 28), .mv (.t 29), none⟩])
 (.cond (.t 28)
 (.seq (.reg [⟨(some 30), .load true 29 (.t 2), none⟩,
  ⟨(some 31), .call false 404 [(.t 30), (.k (D.int .i64 (0)))], none⟩,
  ⟨(some 32), .call false 125 [(.t 31)], none⟩,
  ⟨none, .store 29 (.t 4) (.t 32), none⟩])
 .ret)
 (.seq (.reg [⟨(some 34), .bin .eql (.t 15) (.k (D.int .u8 (77))), none⟩,
  ⟨(some 33), .mv (.t 34), none⟩])
 (.cond (.t 33)
 (.seq (.reg [⟨(some 35), .load true 29 (.t 2), none⟩,
  ⟨(some 36), .call false 123 [(.t 35)], none⟩,
  ⟨none, .store 29 (.t 4) (.t 36), none⟩])
 .ret)
 (.seq (.reg [⟨(some 38), .bin .eql (.t 15) (.k (D.int .u8 (72))), none⟩,
  ⟨(some 37), .mv (.t 38), none⟩])
 (.cond (.t 37)
 (.reg [⟨(some 39), .fad 11 (.t 2), none⟩,
  ⟨(some 40), .load false 1 (.t 39), none⟩,
  ⟨(some 41), .fad 4 (.t 2), none⟩,
  ⟨(some 42), .load false 1 (.t 41), none⟩,
  ⟨(some 43), .bsl false 1 1 [(D.int .i64 (0))] [(0, (.t 42))], none⟩,
  ⟨(some 44), .call false 421 [(.t 40), (.t 43)], none⟩,
  ⟨(some 45), .fad 11 (.t 2), none⟩,
  ⟨none, .store 1 (.t 45) (.t 44), none⟩])
 (.seq (.reg [⟨(some 47), .bin .eql (.t 15) (.k (D.int .u8 (99))), none⟩,
  ⟨(some 46), .mv (.t 47), none⟩])
 (.cond (.t 46)
 (.seq (.reg [⟨(some 48), .fad 0 (.t 2), none⟩,
  ⟨(some 49), .fad 0 (.t 48), none⟩,
  ⟨(some 50), .load false 1 (.t 49), none⟩,
  ⟨(some 51), .fad 0 (.t 2), none⟩,
  ⟨(some 52), .fad 1 (.t 51), none⟩,
  ⟨(some 53), .load false 1 (.t 52), none⟩,
  ⟨(some 54), .call false 372 [(.t 50), (.t 53)], none⟩,
  ⟨none, .store 29 (.t 4) (.t 54), none⟩])
 .ret)
 (.seq (.reg [⟨(some 56), .bin .eql (.t 15) (.k (D.int .u8 (61))), none⟩,
  ⟨(some 55), .mv (.t 56), none⟩])
 (.cond (.t 55)
 (.reg [⟨(some 57), .fad 19 (.t 2), none⟩,
  ⟨none, .store 1 (.t 57) (.k (D.bool true)), none⟩])
 (.seq (.reg [⟨(some 59), .bin .eql (.t 15) (.k (D.int .u8 (62))), none⟩,
  ⟨(some 58), .mv (.t 59), none⟩])
 (.cond (.t 58)
 (.reg [⟨(some 60), .fad 19 (.t 2), none⟩,
  ⟨none, .store 1 (.t 60) (.k (D.bool false)), none⟩])
 .skip))))))))))))))))))))
 (.seq (.reg [⟨(some 61), .load true 29 (.t 2), none⟩,
  ⟨none, .store 29 (.t 4) (.t 61), none⟩])
 .ret))))⟩
def a127 : Ann := ⟨[], [⟨false, 0, false⟩], []⟩
def s127 : SFun := ⟨1, 11, [], [(.cell 2 true 29, ⟨false, 0, false⟩)],
 (.seq (.reg [⟨(some 1), .box 29 (.t 0), none⟩,
  ⟨(some 2), .alloc [(D.int .i64 (0)), (D.int .i64 (0)), .sn, (D.int .i64 (0)), (D.int .i64 (0)), (D.bool false), (D.int .i64 (0)), (D.int .i64 (0)), (D.int .i64 (0)), (D.int .i64 (0)), (D.int .i64 (0)), (D.int .u64 (0)), (D.int .u8 (0)), (D.int .u8 (0)), (D.int .i64 (0)), (D.bool false), (D.bool false), (D.bool false), (D.bool false), (D.bool false), (D.int .i64 (0)), (D.int .i64 (0)), (D.int .i64 (0)), (D.int .i64 (0)), (D.int .i64 (0)), (D.int .u8 (0)), (D.int .u8 (0)), (D.int .i64 (0)), (D.bool false)], none⟩])
 (.seq (.seq (.reg [⟨(some 3), .fad 16 (.t 1), none⟩,
  ⟨(some 4), .load false 1 (.t 3), none⟩])
 (.cond (.t 4)
 (.seq (.reg [⟨(some 5), .load true 29 (.t 1), none⟩,
  ⟨(some 6), .fad 6 (.t 1), none⟩,
  ⟨(some 7), .load false 1 (.t 6), none⟩,
  ⟨(some 8), .call false 122 [(.t 5), (.t 7), (.k (D.int .i64 (0)))], none⟩,
  ⟨none, .store 29 (.t 2) (.t 8), none⟩])
 .ret)
 .skip))
 (.seq (.reg [⟨(some 9), .load true 29 (.t 1), none⟩,
  ⟨(some 10), .call false 122 [(.t 9), (.k (D.int .i64 (0))), (.k (D.int .i64 (0)))], none⟩,
  ⟨none, .store 29 (.t 2) (.t 10), none⟩])
 .ret)))⟩
def a337 : Ann := ⟨[], [⟨false, 0, false⟩], []⟩
def s337 : SFun := ⟨3, 35, [], [(.cell 6 true 29, ⟨false, 0, false⟩)],
 (.seq (.reg [⟨(some 3), .box 29 (.t 0), none⟩,
  ⟨(some 6), .alloc [(D.int .i64 (0)), (D.int .i64 (0)), .sn, (D.int .i64 (0)), (D.int .i64 (0)), (D.bool false), (D.int .i64 (0)), (D.int .i64 (0)), (D.int .i64 (0)), (D.int .i64 (0)), (D.int .i64 (0)), (D.int .u64 (0)), (D.int .u8 (0)), (D.int .u8 (0)), (D.int .i64 (0)), (D.bool false), (D.bool false), (D.bool false), (D.bool false), (D.bool false), (D.int .i64 (0)), (D.int .i64 (0)), (D.int .i64 (0)), (D.int .i64 (0)), (D.int .i64 (0)), (D.int .u8 (0)), (D.int .u8 (0)), (D.int .i64 (0)), (D.bool false)], none⟩])
 (.seq (.reg [⟨(some 7), .load true 29 (.t 3), none⟩,
  ⟨(some 8), .call false 370 [(.t 7)], none⟩,
  ⟨none, .store 29 (.t 3) (.t 8), none⟩])
 (.seq (.seq (.reg [⟨(some 9), .mv (.t 1), none⟩])
 (.block 0 (.seq (.reg [⟨(some 11), .bin .eql (.t 9) (.k (D.int .i64 (1))), none⟩,
  ⟨(some 10), .mv (.t 11), none⟩])
 (.cond (.t 10)
 (.reg [⟨(some 12), .mv (.t 2), none⟩,
  ⟨(some 13), .fad 18 (.t 3), none⟩,
  ⟨none, .store 1 (.t 13) (.t 12), none⟩])
 (.seq (.reg [⟨(some 15), .bin .eql (.t 9) (.k (D.int .i64 (6))), none⟩,
  ⟨(some 14), .mv (.t 15), none⟩])
 (.cond (.t 14)
 (.seq (.reg [⟨(some 16), .mv (.t 2), none⟩,
  ⟨(some 17), .fad 16 (.t 3), none⟩,
  ⟨none, .store 1 (.t 17) (.t 16), none⟩])
 (.seq (.reg [⟨(some 18), .load true 29 (.t 3), none⟩,
  ⟨(some 19), .call false 127 [(.t 18)], none⟩,
  ⟨none, .store 29 (.t 6) (.t 19), none⟩])
 .ret))
 (.seq (.reg [⟨(some 21), .bin .eql (.t 9) (.k (D.int .i64 (7))), none⟩,
  ⟨(some 20), .mv (.t 21), none⟩])
 (.cond (.t 20)
 (.seq (.reg [⟨(some 22), .mv (.t 2), none⟩,
  ⟨(some 23), .fad 15 (.t 3), none⟩,
  ⟨none, .store 1 (.t 23) (.t 22), none⟩])
 (.reg [⟨(some 24), .fad 5 (.t 3), none⟩,
  ⟨(some 25), .load false 1 (.t 24), none⟩,
  ⟨(some 26), .mv (.t 25), none⟩,
  ⟨(some 27), .mv (.t 2), (some (26, true))⟩,
  ⟨(some 28), .pick (.t 26) (.t 27) (.k (D.bool false)), none⟩,
  ⟨(some 29), .fad 5 (.t 3), none⟩,
  ⟨none, .store 1 (.t 29) (.t 28), none⟩]))
 (.seq (.reg [⟨(some 31), .bin .eql (.t 9) (.k (D.int .i64 (25))), none⟩,
  ⟨(some 30), .mv (.t 31), none⟩])
 (.cond (.t 30)
 (.reg [⟨(some 32), .mv (.t 2), none⟩,
  ⟨(some 33), .fad 17 (.t 3), none⟩,
  ⟨none, .store 1 (.t 33) (.t 32), none⟩])
 .skip))))))))))
 (.seq (.reg [⟨(some 34), .load true 29 (.t 3), none⟩,
  ⟨none, .store 29 (.t 6) (.t 34), none⟩])
 .ret))))⟩
def a415 : Ann := ⟨[(4, [(17, ⟨false, 0, false⟩), (18, ⟨false, 0, false⟩), (19, ⟨false, 0, false⟩), (2, ⟨true, 0, false⟩), (3, ⟨true, 0, false⟩), (4, ⟨true, 0, false⟩)])], [⟨false, 0, false⟩], []⟩
def s415 : SFun := ⟨2, 31, [], [(.cell 4 true 29, ⟨false, 0, false⟩)],
 (.seq (.reg [⟨(some 2), .box 29 (.t 0), none⟩,
  ⟨(some 3), .box 7 (.t 1), none⟩,
  ⟨(some 4), .alloc [(D.int .i64 (0)), (D.int .i64 (0)), .sn, (D.int .i64 (0)), (D.int .i64 (0)), (D.bool false), (D.int .i64 (0)), (D.int .i64 (0)), (D.int .i64 (0)), (D.int .i64 (0)), (D.int .i64 (0)), (D.int .u64 (0)), (D.int .u8 (0)), (D.int .u8 (0)), (D.int .i64 (0)), (D.bool false), (D.bool false), (D.bool false), (D.bool false), (D.bool false), (D.int .i64 (0)), (D.int .i64 (0)), (D.int .i64 (0)), (D.int .i64 (0)), (D.int .i64 (0)), (D.int .u8 (0)), (D.int .u8 (0)), (D.int .i64 (0)), (D.bool false)], none⟩])
 (.seq (.seq (.reg [⟨(some 7), .fad 4 (.t 3), none⟩,
  ⟨(some 8), .load false 1 (.t 7), none⟩,
  ⟨(some 9), .bin .neq (.t 8) (.k (D.int .u8 (104))), none⟩,
  ⟨(some 10), .mv (.t 9), none⟩,
  ⟨(some 11), .fad 4 (.t 3), (some (10, true))⟩,
  ⟨(some 12), .load false 1 (.t 11), (some (10, true))⟩,
  ⟨(some 13), .bin .neq (.t 12) (.k (D.int .u8 (108))), (some (10, true))⟩,
  ⟨(some 14), .pick (.t 10) (.t 13) (.k (D.bool false)), none⟩])
 (.cond (.t 14)
 (.seq (.reg [⟨(some 15), .load true 29 (.t 2), none⟩,
  ⟨none, .store 29 (.t 4) (.t 15), none⟩])
 .ret)
 .skip))
 (.seq (.seq (.reg [⟨(some 16), .fad 5 (.t 3), none⟩,
  ⟨(some 17), .load false 1 (.t 16), none⟩,
  ⟨(some 18), .len (.t 17), none⟩,
  ⟨(some 19), .mv (.k (D.int .i64 (0))), none⟩])
 (.block 0 (.loop [(17, ⟨false, 0, false⟩), (18, ⟨false, 0, false⟩), (19, ⟨false, 0, false⟩), (2, ⟨true, 0, false⟩), (3, ⟨true, 0, false⟩), (4, ⟨true, 0, false⟩)]
 (.seq (.reg [⟨(some 20), .bin .lss (.t 19) (.t 18), none⟩])
 (.seq (.cond (.t 20)
 .skip
 (.exit 0))
 (.seq (.block 1 (.seq (.reg [⟨(some 21), .ixs 1 (.t 17) (.t 19), none⟩,
  ⟨(some 22), .load false 1 (.t 21), none⟩,
  ⟨(some 6), .mv (.t 22), none⟩])
 (.reg [⟨(some 23), .load true 29 (.t 2), none⟩,
  ⟨(some 24), .mv (.t 6), none⟩,
  ⟨(some 25), .fad 4 (.t 3), none⟩,
  ⟨(some 26), .load false 1 (.t 25), none⟩,
  ⟨(some 27), .bin .eql (.t 26) (.k (D.int .u8 (104))), none⟩,
  ⟨(some 28), .call false 337 [(.t 23), (.t 24), (.t 27)], none⟩,
  ⟨none, .store 29 (.t 2) (.t 28), none⟩])))
 (.reg [⟨(some 29), .bin .add (.t 19) (.k (D.int .i64 (1))), none⟩,
  ⟨(some 19), .mv (.t 29), none⟩])))))))
 (.seq (.reg [⟨(some 30), .load true 29 (.t 2), none⟩,
  ⟨none, .store 29 (.t 4) (.t 30), none⟩])
 .ret))))⟩
def a411 : Ann := ⟨[], [⟨false, 0, false⟩], []⟩
def s411 : SFun := ⟨2, 8, [], [(.tmp 4, ⟨false, 0, false⟩)],
 (.seq (.reg [⟨(some 2), .box 7 (.t 0), none⟩,
  ⟨(some 4), .mv (.k (D.int .i64 (0))), none⟩])
 (.seq (.reg [⟨(some 5), .load true 7 (.t 2), none⟩,
  ⟨(some 6), .mv (.t 1), none⟩,
  ⟨(some 7), .call false 381 [(.t 5), (.t 6), (.k (D.int .i64 (1))), (.k (D.int .i64 (1))), (.k (D.int .i64 (65535)))], none⟩,
  ⟨(some 4), .mv (.t 7), none⟩])
 .ret))⟩
def a130 : Ann := ⟨[], [⟨false, 0, false⟩], []⟩
def s130 : SFun := ⟨2, 24, [], [(.cell 4 true 29, ⟨false, 0, false⟩)],
 (.seq (.reg [⟨(some 2), .box 29 (.t 0), none⟩,
  ⟨(some 4), .alloc [(D.int .i64 (0)), (D.int .i64 (0)), .sn, (D.int .i64 (0)), (D.int .i64 (0)), (D.bool false), (D.int .i64 (0)), (D.int .i64 (0)), (D.int .i64 (0)), (D.int .i64 (0)), (D.int .i64 (0)), (D.int .u64 (0)), (D.int .u8 (0)), (D.int .u8 (0)), (D.int .i64 (0)), (D.bool false), (D.bool false), (D.bool false), (D.bool false), (D.bool false), (D.int .i64 (0)), (D.int .i64 (0)), (D.int .i64 (0)), (D.int .i64 (0)), (D.int .i64 (0)), (D.int .u8 (0)), (D.int .u8 (0)), (D.int .i64 (0)), (D.bool false)], none⟩])
 (.seq (.reg [⟨(some 6), .fad 3 (.t 2), none⟩,
  ⟨(some 7), .load false 1 (.t 6), none⟩,
  ⟨(some 8), .mv (.t 1), none⟩,
  ⟨(some 9), .bin .sub (.t 7) (.t 8), none⟩,
  ⟨(some 5), .mv (.t 9), none⟩])
 (.seq (.seq (.reg [⟨(some 10), .fad 3 (.t 2), none⟩,
  ⟨(some 11), .load false 1 (.t 10), none⟩,
  ⟨(some 12), .fad 6 (.t 2), none⟩,
  ⟨(some 13), .load false 1 (.t 12), none⟩,
  ⟨(some 14), .bin .geq (.t 11) (.t 13), none⟩])
 (.cond (.t 14)
 (.reg [⟨(some 15), .mv (.t 5), none⟩,
  ⟨(some 16), .fad 6 (.t 2), none⟩,
  ⟨(some 17), .load false 1 (.t 16), none⟩,
  ⟨(some 18), .mx [(.t 15), (.t 17)], none⟩,
  ⟨(some 5), .mv (.t 18), none⟩])
 .skip))
 (.seq (.reg [⟨(some 19), .load true 29 (.t 2), none⟩,
  ⟨(some 20), .mv (.t 5), none⟩,
  ⟨(some 21), .fad 4 (.t 2), none⟩,
  ⟨(some 22), .load false 1 (.t 21), none⟩,
  ⟨(some 23), .call false 122 [(.t 19), (.t 20), (.t 22)], none⟩,
  ⟨none, .store 29 (.t 4) (.t 23), none⟩])
 .ret))))⟩
def a124 : Ann := ⟨[], [⟨false, 0, false⟩], []⟩
def s124 : SFun := ⟨2, 24, [], [(.cell 4 true 29, ⟨false, 0, false⟩)],
 (.seq (.reg [⟨(some 2), .box 29 (.t 0), none⟩,
  ⟨(some 4), .alloc [(D.int .i64 (0)), (D.int .i64 (0)), .sn, (D.int .i64 (0)), (D.int .i64 (0)), (D.bool false), (D.int .i64 (0)), (D.int .i64 (0)), (D.int .i64 (0)), (D.int .i64 (0)), (D.int .i64 (0)), (D.int .u64 (0)), (D.int .u8 (0)), (D.int .u8 (0)), (D.int .i64 (0)), (D.bool false), (D.bool false), (D.bool false), (D.bool false), (D.bool false), (D.int .i64 (0)), (D.int .i64 (0)), (D.int .i64 (0)), (D.int .i64 (0)), (D.int .i64 (0)), (D.int .u8 (0)), (D.int .u8 (0)), (D.int .i64 (0)), (D.bool false)], none⟩])
 (.seq (.reg [⟨(some 6), .fad 3 (.t 2), none⟩,
  ⟨(some 7), .load false 1 (.t 6), none⟩,
  ⟨(some 8), .mv (.t 1), none⟩,
  ⟨(some 9), .bin .add (.t 7) (.t 8), none⟩,
  ⟨(some 5), .mv (.t 9), none⟩])
 (.seq (.seq (.reg [⟨(some 10), .fad 3 (.t 2), none⟩,
  ⟨(some 11), .load false 1 (.t 10), none⟩,
  ⟨(some 12), .fad 7 (.t 2), none⟩,
  ⟨(some 13), .load false 1 (.t 12), none⟩,
  ⟨(some 14), .bin .leq (.t 11) (.t 13), none⟩])
 (.cond (.t 14)
 (.reg [⟨(some 15), .mv (.t 5), none⟩,
  ⟨(some 16), .fad 7 (.t 2), none⟩,
  ⟨(some 17), .load false 1 (.t 16), none⟩,
  ⟨(some 18), .mn [(.t 15), (.t 17)], none⟩,
  ⟨(some 5), .mv (.t 18), none⟩])
 .skip))
 (.seq (.reg [⟨(some 19), .load true 29 (.t 2), none⟩,
  ⟨(some 20), .mv (.t 5), none⟩,
  ⟨(some 21), .fad 4 (.t 2), none⟩,
  ⟨(some 22), .load false 1 (.t 21), none⟩,
  ⟨(some 23), .call false 122 [(.t 19), (.t 20), (.t 22)], none⟩,
  ⟨none, .store 29 (.t 4) (.t 23), none⟩])
 .ret))))⟩
def a126 : Ann := ⟨[], [⟨false, 0, false⟩], []⟩
def s126 : SFun := ⟨3, 20, [], [(.cell 6 true 29, ⟨false, 0, false⟩)],
 (.seq (.reg [⟨(some 3), .box 29 (.t 0), none⟩,
  ⟨(some 6), .alloc [(D.int .i64 (0)), (D.int .i64 (0)), .sn, (D.int .i64 (0)), (D.int .i64 (0)), (D.bool false), (D.int .i64 (0)), (D.int .i64 (0)), (D.int .i64 (0)), (D.int .i64 (0)), (D.int .i64 (0)), (D.int .u64 (0)), (D.int .u8 (0)), (D.int .u8 (0)), (D.int .i64 (0)), (D.bool false), (D.bool false), (D.bool false), (D.bool false), (D.bool false), (D.int .i64 (0)), (D.int .i64 (0)), (D.int .i64 (0)), (D.int .i64 (0)), (D.int .i64 (0)), (D.int .u8 (0)), (D.int .u8 (0)), (D.int .i64 (0)), (D.bool false)], none⟩])
 (.seq (.seq (.reg [⟨(some 7), .fad 16 (.t 3), none⟩,
  ⟨(some 8), .load false 1 (.t 7), none⟩])
 (.cond (.t 8)
 (.reg [⟨(some 9), .fad 6 (.t 3), none⟩,
  ⟨(some 10), .load false 1 (.t 9), none⟩,
  ⟨(some 11), .mv (.t 1), none⟩,
  ⟨(some 12), .bin .add (.t 10) (.t 11), none⟩,
  ⟨(some 13), .fad 7 (.t 3), none⟩,
  ⟨(some 14), .load false 1 (.t 13), none⟩,
  ⟨(some 15), .mn [(.t 12), (.t 14)], none⟩,
  ⟨(some 1), .mv (.t 15), none⟩])
 .skip))
 (.seq (.reg [⟨(some 16), .load true 29 (.t 3), none⟩,
  ⟨(some 17), .mv (.t 1), none⟩,
  ⟨(some 18), .mv (.t 2), none⟩,
  ⟨(some 19), .call false 122 [(.t 16), (.t 17), (.t 18)], none⟩,
  ⟨none, .store 29 (.t 6) (.t 19), none⟩])
 .ret)))⟩
def a413 : Ann := ⟨[], [⟨false, 0, false⟩], []⟩
def s413 : SFun := ⟨2, 70, [], [(.cell 4 true 29, ⟨false, 0, false⟩)],
 (.seq (.reg [⟨(some 2), .box 29 (.t 0), none⟩,
  ⟨(some 3), .box 7 (.t 1), none⟩,
  ⟨(some 4), .alloc [(D.int .i64 (0)), (D.int .i64 (0)), .sn, (D.int .i64 (0)), (D.int .i64 (0)), (D.bool false), (D.int .i64 (0)), (D.int .i64 (0)), (D.int .i64 (0)), (D.int .i64 (0)), (D.int .i64 (0)), (D.int .u64 (0)), (D.int .u8 (0)), (D.int .u8 (0)), (D.int .i64 (0)), (D.bool false), (D.bool false), (D.bool false), (D.bool false), (D.bool false), (D.int .i64 (0)), (D.int .i64 (0)), (D.int .i64 (0)), (D.int .i64 (0)), (D.int .i64 (0)), (D.int .u8 (0)), (D.int .u8 (0)), (D.int .i64 (0)), (D.bool false)], none⟩])
 (.seq (.reg [⟨(some 6), .load true 7 (.t 3), none⟩,
  ⟨(some 7), .call false 411 [(.t 6), (.k (D.int .i64 (0)))], none⟩,
  ⟨(some 5), .mv (.t 7), none⟩])
 (.seq (.seq (.reg [⟨(some 8), .fad 4 (.t 3), none⟩,
  ⟨(some 9), .load false 1 (.t 8), none⟩])
 (.block 0 (.seq (.reg [⟨(some 11), .bin .eql (.t 9) (.k (D.int .u8 (65))), none⟩,
  ⟨(some 10), .mv (.t 11), none⟩])
 (.cond (.t 10)
 (.seq (.reg [⟨(some 12), .load true 29 (.t 2), none⟩,
  ⟨(some 13), .mv (.t 5), none⟩,
  ⟨(some 14), .call false 130 [(.t 12), (.t 13)], none⟩,
  ⟨none, .store 29 (.t 4) (.t 14), none⟩])
 .ret)
 (.seq (.reg [⟨(some 16), .bin .eql (.t 9) (.k (D.int .u8 (66))), none⟩,
  ⟨(some 15), .mv (.t 16), none⟩])
 (.cond (.t 15)
 (.seq (.reg [⟨(some 17), .load true 29 (.t 2), none⟩,
  ⟨(some 18), .mv (.t 5), none⟩,
  ⟨(some 19), .call false 124 [(.t 17), (.t 18)], none⟩,
  ⟨none, .store 29 (.t 4) (.t 19), none⟩])
 .ret)
 (.seq (.reg [⟨(some 21), .bin .eql (.t 9) (.k (D.int .u8 (67))), none⟩,
  ⟨(some 20), .mv (.t 21), none⟩])
 (.cond (.t 20)
 (.seq (.reg [⟨(some 22), .load true 29 (.t 2), none⟩,
  ⟨(some 23), .fad 4 (.t 2), none⟩,
  ⟨(some 24), .load false 1 (.t 23), none⟩,
  ⟨(some 25), .mv (.t 5), none⟩,
  ⟨(some 26), .bin .add (.t 24) (.t 25), none⟩,
  ⟨(some 27), .call false 404 [(.t 22), (.t 26)], none⟩,
  ⟨none, .store 29 (.t 4) (.t 27), none⟩])
 .ret)
 (.seq (.reg [⟨(some 29), .bin .eql (.t 9) (.k (D.int .u8 (68))), none⟩,
  ⟨(some 28), .mv (.t 29), none⟩])
 (.cond (.t 28)
 (.seq (.reg [⟨(some 30), .load true 29 (.t 2), none⟩,
  ⟨(some 31), .fad 4 (.t 2), none⟩,
  ⟨(some 32), .load false 1 (.t 31), none⟩,
  ⟨(some 33), .mv (.t 5), none⟩,
  ⟨(some 34), .bin .sub (.t 32) (.t 33), none⟩,
  ⟨(some 35), .call false 404 [(.t 30), (.t 34)], none⟩,
  ⟨none, .store 29 (.t 4) (.t 35), none⟩])
 .ret)
 (.seq (.reg [⟨(some 37), .bin .eql (.t 9) (.k (D.int .u8 (69))), none⟩,
  ⟨(some 36), .mv (.t 37), none⟩])
 (.cond (.t 36)
 (.seq (.reg [⟨(some 38), .load true 29 (.t 2), none⟩,
  ⟨(some 39), .mv (.t 5), none⟩,
  ⟨(some 40), .call false 124 [(.t 38), (.t 39)], none⟩,
  ⟨(some 41), .call false 404 [(.t 40), (.k (D.int .i64 (0)))], none⟩,
  ⟨none, .store 29 (.t 4) (.t 41), none⟩])
 .ret)
 (.seq (.reg [⟨(some 43), .bin .eql (.t 9) (.k (D.int .u8 (70))), none⟩,
  ⟨(some 42), .mv (.t 43), none⟩])
 (.cond (.t 42)
 (.seq (.reg [⟨(some 44), .load true 29 (.t 2), none⟩,
  ⟨(some 45), .mv (.t 5), none⟩,
  ⟨(some 46), .call false 130 [(.t 44), (.t 45)], none⟩,
  ⟨(some 47), .call false 404 [(.t 46), (.k (D.int .i64 (0)))], none⟩,
  ⟨none, .store 29 (.t 4) (.t 47), none⟩])
 .ret)
 (.seq (.seq (.reg [⟨(some 49), .bin .eql (.t 9) (.k (D.int .u8 (71))), none⟩,
  ⟨(some 48), .mv (.t 49), none⟩])
 (.cond (.t 48)
 .skip
 (.reg [⟨(some 50), .bin .eql (.t 9) (.k (D.int .u8 (96))), none⟩,
  ⟨(some 48), .mv (.t 50), none⟩])))
 (.cond (.t 48)
 (.seq (.reg [⟨(some 51), .load true 29 (.t 2), none⟩,
  ⟨(some 52), .mv (.t 5), none⟩,
  ⟨(some 53), .bin .sub (.t 52) (.k (D.int .i64 (1))), none⟩,
  ⟨(some 54), .call false 404 [(.t 51), (.t 53)], none⟩,
  ⟨none, .store 29 (.t 4) (.t 54), none⟩])
 .ret)
 (.seq (.reg [⟨(some 56), .bin .eql (.t 9) (.k (D.int .u8 (100))), none⟩,
  ⟨(some 55), .mv (.t 56), none⟩])
 (.cond (.t 55)
 (.seq (.reg [⟨(some 57), .load true 29 (.t 2), none⟩,
  ⟨(some 58), .mv (.t 5), none⟩,
  ⟨(some 59), .bin .sub (.t 58) (.k (D.int .i64 (1))), none⟩,
  ⟨(some 60), .fad 4 (.t 2), none⟩,
  ⟨(some 61), .load false 1 (.t 60), none⟩,
  ⟨(some 62), .call false 126 [(.t 57), (.t 59), (.t 61)], none⟩,
  ⟨none, .store 29 (.t 4) (.t 62), none⟩])
 .ret)
 .skip))))))))))))))))))
 (.seq (.dreg [([], false, ⟨(some 63), .load true 29 (.t 2), none⟩),
  ([0], false, ⟨(some 64), .mv (.t 5), none⟩),
  ([0], false, ⟨(some 65), .bin .sub (.t 64) (.k (D.int .i64 (1))), none⟩),
  ([0, 1, 2], false, ⟨(some 66), .load true 7 (.t 3), none⟩),
  ([0, 1, 2], false, ⟨(some 67), .call true 411 [(.t 66), (.k (D.int .i64 (1)))], none⟩),
  ([0, 1, 2], false, ⟨(some 68), .bin .sub (.t 67) (.k (D.int .i64 (1))), none⟩),
  ([], true, ⟨(some 69), .call false 126 [(.t 63), (.t 65), (.t 68)], none⟩),
  ([], true, ⟨none, .store 29 (.t 4) (.t 69), none⟩)])
 .ret))))⟩
def a149 : Ann := ⟨[], [⟨false, 0, false⟩, ⟨false, 0, false⟩], []⟩
def s149 : SFun := ⟨3, 20, [], [(.cell 6 true 5, ⟨false, 0, false⟩), (.tmp 7, ⟨false, 0, false⟩)],
 (.seq (.reg [⟨(some 3), .box 3 (.t 0), none⟩,
  ⟨(some 6), .alloc [(D.int .i32 (0)), (D.int .i64 (0)), (D.int .i64 (0)), (D.int .i64 (0)), (D.int .i64 (0))], none⟩,
  ⟨(some 7), .mv (.k (D.bool false)), none⟩])
 (.seq (.seq (.reg [⟨(some 8), .load true 3 (.t 3), none⟩,
  ⟨(some 9), .mv (.t 1), none⟩,
  ⟨(some 10), .mv (.t 2), none⟩,
  ⟨(some 11), .call false 162 [(.t 8), (.t 9), (.t 10)], none⟩,
  ⟨(some 12), .una .not (.t 11), none⟩])
 (.cond (.t 12)
 (.seq (.reg [⟨(some 13), .build [(D.int .i32 (0)), (D.int .i64 (0)), (D.int .i64 (0)), (D.int .i64 (0)), (D.int .i64 (0))] [], none⟩,
  ⟨none, .store 5 (.t 6) (.t 13), none⟩,
  ⟨(some 7), .mv (.k (D.bool false)), none⟩])
 .ret)
 .skip))
 (.seq (.reg [⟨(some 14), .load true 3 (.t 3), none⟩,
  ⟨(some 15), .mv (.t 1), none⟩,
  ⟨(some 16), .call false 163 [(.t 14), (.t 15)], none⟩,
  ⟨(some 17), .mv (.t 2), none⟩,
  ⟨(some 18), .ixs 5 (.t 16) (.t 17), none⟩,
  ⟨(some 19), .load true 5 (.t 18), none⟩,
  ⟨none, .store 5 (.t 6) (.t 19), none⟩,
  ⟨(some 7), .mv (.k (D.bool true)), none⟩])
 .ret)))⟩
def a157 : Ann := ⟨[(6, [(1, ⟨false, 0, false⟩), (3, ⟨false, 0, false⟩), (12, ⟨false, 0, false⟩), (5, ⟨true, 0, false⟩), (9, ⟨true, 0, false⟩), (10, ⟨true, 0, false⟩), (11, ⟨true, 5, false⟩)])], [⟨false, 0, false⟩], []⟩
def s157 : SFun := ⟨5, 41, [], [(.cell 10 true 3, ⟨false, 0, false⟩)],
 (.seq (.reg [⟨(some 5), .box 3 (.t 0), none⟩,
  ⟨(some 9), .box 3 (.t 4), none⟩,
  ⟨(some 10), .alloc [(D.int .i64 (0)), (D.int .i64 (0)), .sn], none⟩])
 (.seq (.reg [⟨(some 13), .load true 3 (.t 5), none⟩,
  ⟨(some 14), .call false 158 [(.t 13)], none⟩,
  ⟨none, .store 3 (.t 5) (.t 14), none⟩])
 (.seq (.seq (.reg [⟨(some 15), .load true 3 (.t 5), none⟩,
  ⟨(some 16), .mv (.t 1), none⟩,
  ⟨(some 17), .call false 162 [(.t 15), (.t 16), (.k (D.int .i64 (0)))], none⟩,
  ⟨(some 18), .una .not (.t 17), none⟩])
 (.cond (.t 18)
 (.seq (.reg [⟨(some 19), .load true 3 (.t 5), none⟩,
  ⟨none, .store 3 (.t 10) (.t 19), none⟩])
 .ret)
 .skip))
 (.seq (.reg [⟨(some 20), .load true 3 (.t 5), none⟩,
  ⟨(some 21), .mv (.t 1), none⟩,
  ⟨(some 22), .call false 163 [(.t 20), (.t 21)], none⟩,
  ⟨(some 11), .mv (.t 22), none⟩])
 (.seq (.seq (.reg [⟨(some 23), .mv (.t 2), none⟩,
  ⟨(some 24), .mx [(.t 23), (.k (D.int .i64 (0)))], none⟩,
  ⟨(some 12), .mv (.t 24), none⟩])
 (.block 0 (.loop [(1, ⟨false, 0, false⟩), (3, ⟨false, 0, false⟩), (12, ⟨false, 0, false⟩), (5, ⟨true, 0, false⟩), (9, ⟨true, 0, false⟩), (10, ⟨true, 0, false⟩), (11, ⟨true, 5, false⟩)]
 (.seq (.seq (.reg [⟨(some 25), .mv (.t 12), none⟩,
  ⟨(some 26), .mv (.t 3), none⟩,
  ⟨(some 27), .fad 1 (.t 5), none⟩,
  ⟨(some 28), .load false 1 (.t 27), none⟩,
  ⟨(some 29), .mn [(.t 26), (.t 28)], none⟩,
  ⟨(some 30), .bin .lss (.t 25) (.t 29), none⟩])
 (.cond (.t 30)
 .skip
 (.exit 0)))
 (.seq (.block 1 (.reg [⟨(some 33), .mv (.t 11), none⟩,
  ⟨(some 34), .mv (.t 12), none⟩,
  ⟨(some 35), .load true 3 (.t 9), none⟩,
  ⟨(some 36), .call false 106 [(.t 35)], none⟩,
  ⟨(some 37), .ixs 5 (.t 33) (.t 34), none⟩,
  ⟨none, .store 5 (.t 37) (.t 36), none⟩]))
 (.reg [⟨(some 31), .mv (.t 12), none⟩,
  ⟨(some 32), .bin .add (.t 31) (.k (D.int .i64 (1))), none⟩,
  ⟨(some 12), .mv (.t 32), none⟩]))))))
 (.seq (.reg [⟨(some 38), .load true 3 (.t 5), none⟩,
  ⟨(some 39), .mv (.t 1), none⟩,
  ⟨(some 40), .call false 161 [(.t 38), (.t 39)], none⟩,
  ⟨none, .store 3 (.t 10) (.t 40), none⟩])
 .ret))))))⟩
def a141 : Ann := ⟨[], [⟨false, 0, false⟩], []⟩
def s141 : SFun := ⟨5, 52, [], [(.cell 10 true 3, ⟨false, 0, false⟩)],
 (.seq (.reg [⟨(some 5), .box 3 (.t 0), none⟩,
  ⟨(some 9), .box 3 (.t 4), none⟩,
  ⟨(some 10), .alloc [(D.int .i64 (0)), (D.int .i64 (0)), .sn], none⟩])
 (.seq (.seq (.reg [⟨(some 14), .load true 3 (.t 5), none⟩,
  ⟨(some 15), .mv (.t 1), none⟩,
  ⟨(some 16), .mv (.t 2), none⟩,
  ⟨(some 17), .call false 149 [(.t 14), (.t 15), (.t 16)], none⟩,
  ⟨(some 13), .mv (.t 17), none⟩,
  ⟨(some 18), .ext (.t 13) 0, none⟩,
  ⟨(some 19), .ext (.t 13) 1, none⟩,
  ⟨(some 11), .alloc [(D.int .i32 (0)), (D.int .i64 (0)), (D.int .i64 (0)), (D.int .i64 (0)), (D.int .i64 (0))], none⟩,
  ⟨none, .store 5 (.t 11) (.t 18), none⟩,
  ⟨(some 12), .mv (.t 19), none⟩])
 (.seq (.reg [⟨(some 20), .mv (.t 12), none⟩,
  ⟨(some 21), .una .not (.t 20), none⟩])
 (.cond (.t 21)
 (.seq (.reg [⟨(some 22), .load true 3 (.t 5), none⟩,
  ⟨(some 23), .call false 144 [(.t 22)], none⟩,
  ⟨none, .store 3 (.t 10) (.t 23), none⟩])
 .ret)
 .skip)))
 (.seq (.seq (.reg [⟨(some 24), .mv (.t 3), none⟩])
 (.block 0 (.seq (.reg [⟨(some 26), .bin .eql (.t 24) (.k (D.int .i64 (0))), none⟩,
  ⟨(some 25), .mv (.t 26), none⟩])
 (.cond (.t 25)
 (.seq (.reg [⟨(some 27), .load true 3 (.t 5), none⟩,
  ⟨(some 28), .mv (.t 1), none⟩,
  ⟨(some 29), .mv (.t 2), none⟩,
  ⟨(some 30), .fad 1 (.t 5), none⟩,
  ⟨(some 31), .load false 1 (.t 30), none⟩,
  ⟨(some 32), .load true 3 (.t 9), none⟩,
  ⟨(some 33), .call false 157 [(.t 27), (.t 28), (.t 29), (.t 31), (.t 32)], none⟩,
  ⟨none, .store 3 (.t 10) (.t 33), none⟩])
 .ret)
 (.seq (.reg [⟨(some 35), .bin .eql (.t 24) (.k (D.int .i64 (1))), none⟩,
  ⟨(some 34), .mv (.t 35), none⟩])
 (.cond (.t 34)
 (.seq (.reg [⟨(some 36), .load true 3 (.t 5), none⟩,
  ⟨(some 37), .mv (.t 1), none⟩,
  ⟨(some 38), .mv (.t 2), none⟩,
  ⟨(some 39), .bin .add (.t 38) (.k (D.int .i64 (1))), none⟩,
  ⟨(some 40), .load true 3 (.t 9), none⟩,
  ⟨(some 41), .call false 157 [(.t 36), (.t 37), (.k (D.int .i64 (0))), (.t 39), (.t 40)], none⟩,
  ⟨none, .store 3 (.t 10) (.t 41), none⟩])
 .ret)
 (.seq (.reg [⟨(some 43), .bin .eql (.t 24) (.k (D.int .i64 (2))), none⟩,
  ⟨(some 42), .mv (.t 43), none⟩])
 (.cond (.t 42)
 (.seq (.reg [⟨(some 44), .load true 3 (.t 5), none⟩,
  ⟨(some 45), .mv (.t 1), none⟩,
  ⟨(some 46), .fad 1 (.t 5), none⟩,
  ⟨(some 47), .load false 1 (.t 46), none⟩,
  ⟨(some 48), .load true 3 (.t 9), none⟩,
  ⟨(some 49), .call false 157 [(.t 44), (.t 45), (.k (D.int .i64 (0))), (.t 47), (.t 48)], none⟩,
  ⟨none, .store 3 (.t 10) (.t 49), none⟩])
 .ret)
 .skip))))))))
 (.seq (.reg [⟨(some 50), .load true 3 (.t 5), none⟩,
  ⟨(some 51), .call false 144 [(.t 50)], none⟩,
  ⟨none, .store 3 (.t 10) (.t 51), none⟩])
 .ret))))⟩
def a139 : Ann := ⟨[(6, [(1, ⟨false, 0, false⟩), (3, ⟨false, 0, false⟩), (41, ⟨false, 0, false⟩), (42, ⟨false, 0, false⟩), (5, ⟨true, 0, false⟩), (9, ⟨true, 0, false⟩), (10, ⟨true, 0, false⟩), (13, ⟨true, 0, false⟩)])], [⟨false, 0, false⟩], []⟩
def s139 : SFun := ⟨5, 69, [], [(.cell 10 true 3, ⟨false, 0, false⟩)],
 (.seq (.reg [⟨(some 5), .box 3 (.t 0), none⟩,
  ⟨(some 9), .box 3 (.t 4), none⟩,
  ⟨(some 10), .alloc [(D.int .i64 (0)), (D.int .i64 (0)), .sn], none⟩])
 (.seq (.seq (.reg [⟨(some 16), .load true 3 (.t 5), none⟩,
  ⟨(some 17), .mv (.t 1), none⟩,
  ⟨(some 18), .mv (.t 2), none⟩,
  ⟨(some 19), .call false 149 [(.t 16), (.t 17), (.t 18)], none⟩,
  ⟨(some 15), .mv (.t 19), none⟩,
  ⟨(some 20), .ext (.t 15) 0, none⟩,
  ⟨(some 21), .ext (.t 15) 1, none⟩,
  ⟨(some 11), .alloc [(D.int .i32 (0)), (D.int .i64 (0)), (D.int .i64 (0)), (D.int .i64 (0)), (D.int .i64 (0))], none⟩,
  ⟨none, .store 5 (.t 11) (.t 20), none⟩,
  ⟨(some 12), .mv (.t 21), none⟩])
 (.seq (.reg [⟨(some 22), .mv (.t 12), none⟩,
  ⟨(some 23), .una .not (.t 22), none⟩,
  ⟨(some 24), .mv (.t 23), none⟩,
  ⟨(some 25), .mv (.t 3), (some (24, false))⟩,
  ⟨(some 26), .bin .lss (.t 25) (.k (D.int .i64 (0))), (some (24, false))⟩,
  ⟨(some 27), .pick (.t 24) (.k (D.bool true)) (.t 26), none⟩,
  ⟨(some 28), .mv (.t 27), none⟩,
  ⟨(some 29), .mv (.t 3), (some (28, false))⟩,
  ⟨(some 30), .bin .gtr (.t 29) (.k (D.int .i64 (2))), (some (28, false))⟩,
  ⟨(some 31), .pick (.t 28) (.k (D.bool true)) (.t 30), none⟩])
 (.cond (.t 31)
 (.seq (.reg [⟨(some 32), .load true 3 (.t 5), none⟩,
  ⟨(some 33), .call false 144 [(.t 32)], none⟩,
  ⟨none, .store 3 (.t 10) (.t 33), none⟩])
 .ret)
 .skip)))
 (.seq (.reg [⟨(some 34), .load true 3 (.t 5), none⟩,
  ⟨(some 35), .mv (.t 1), none⟩,
  ⟨(some 36), .mv (.t 2), none⟩,
  ⟨(some 37), .mv (.t 3), none⟩,
  ⟨(some 38), .load true 3 (.t 9), none⟩,
  ⟨(some 39), .call false 141 [(.t 34), (.t 35), (.t 36), (.t 37), (.t 38)], none⟩,
  ⟨(some 13), .alloc [(D.int .i64 (0)), (D.int .i64 (0)), .sn], none⟩,
  ⟨none, .store 3 (.t 13) (.t 39), none⟩])
 (.seq (.seq (.reg [⟨(some 40), .fad 0 (.t 5), none⟩,
  ⟨(some 41), .load false 1 (.t 40), none⟩,
  ⟨(some 42), .mv (.k (D.int .i64 (0))), none⟩])
 (.block 0 (.loop [(1, ⟨false, 0, false⟩), (3, ⟨false, 0, false⟩), (41, ⟨false, 0, false⟩), (42, ⟨false, 0, false⟩), (5, ⟨true, 0, false⟩), (9, ⟨true, 0, false⟩), (10, ⟨true, 0, false⟩), (13, ⟨true, 0, false⟩)]
 (.seq (.reg [⟨(some 43), .bin .lss (.t 42) (.t 41), none⟩])
 (.seq (.cond (.t 43)
 .skip
 (.exit 0))
 (.seq (.block 1 (.seq (.reg [⟨(some 44), .mv (.t 42), none⟩,
  ⟨(some 14), .mv (.t 44), none⟩])
 (.seq (.reg [⟨(some 45), .mv (.t 14), none⟩,
  ⟨(some 46), .mv (.t 1), none⟩,
  ⟨(some 47), .bin .gtr (.t 45) (.t 46), none⟩,
  ⟨(some 48), .mv (.t 47), none⟩,
  ⟨(some 49), .mv (.t 3), (some (48, true))⟩,
  ⟨(some 50), .bin .neq (.t 49) (.k (D.int .i64 (1))), (some (48, true))⟩,
  ⟨(some 51), .pick (.t 48) (.t 50) (.k (D.bool false)), none⟩,
  ⟨(some 52), .mv (.t 51), none⟩,
  ⟨(some 53), .mv (.t 14), (some (52, false))⟩,
  ⟨(some 54), .mv (.t 1), (some (52, false))⟩,
  ⟨(some 55), .bin .lss (.t 53) (.t 54), (some (52, false))⟩,
  ⟨(some 56), .mv (.t 55), (some (52, false))⟩,
  ⟨(some 57), .mv (.t 3), (some (56, true))⟩,
  ⟨(some 58), .bin .neq (.t 57) (.k (D.int .i64 (0))), (some (56, true))⟩,
  ⟨(some 59), .pick (.t 56) (.t 58) (.k (D.bool false)), (some (52, false))⟩,
  ⟨(some 60), .pick (.t 52) (.k (D.bool true)) (.t 59), none⟩])
 (.cond (.t 60)
 (.reg [⟨(some 61), .load true 3 (.t 13), none⟩,
  ⟨(some 62), .mv (.t 14), none⟩,
  ⟨(some 63), .fad 1 (.t 5), none⟩,
  ⟨(some 64), .load false 1 (.t 63), none⟩,
  ⟨(some 65), .load true 3 (.t 9), none⟩,
  ⟨(some 66), .call false 157 [(.t 61), (.t 62), (.k (D.int .i64 (0))), (.t 64), (.t 65)], none⟩,
  ⟨none, .store 3 (.t 13) (.t 66), none⟩])
 .skip))))
 (.reg [⟨(some 67), .bin .add (.t 42) (.k (D.int .i64 (1))), none⟩,
  ⟨(some 42), .mv (.t 67), none⟩])))))))
 (.seq (.reg [⟨(some 68), .load true 3 (.t 13), none⟩,
  ⟨none, .store 3 (.t 10) (.t 68), none⟩])
 .ret)))))⟩
def a146 : Ann := ⟨[], [⟨true, 5, false⟩], []⟩
def s146 : SFun := ⟨3, 52, [], [(.tmp 6, ⟨true, 5, false⟩)],
 (.seq (.reg [⟨(some 3), .box 3 (.t 0), none⟩,
  ⟨(some 6), .mv (.k .sn), none⟩])
 (.seq (.reg [⟨(some 8), .fad 2 (.t 3), none⟩,
  ⟨(some 9), .load false 1 (.t 8), none⟩,
  ⟨(some 10), .mv (.t 1), none⟩,
  ⟨(some 11), .fad 1 (.t 3), none⟩,
  ⟨(some 12), .load false 1 (.t 11), none⟩,
  ⟨(some 13), .bin .mul (.t 10) (.t 12), none⟩,
  ⟨(some 14), .mv (.t 1), none⟩,
  ⟨(some 15), .bin .add (.t 14) (.k (D.int .i64 (1))), none⟩,
  ⟨(some 16), .fad 1 (.t 3), none⟩,
  ⟨(some 17), .load false 1 (.t 16), none⟩,
  ⟨(some 18), .bin .mul (.t 15) (.t 17), none⟩,
  ⟨(some 19), .slc 5 (.t 9) (some (.t 13)) (some (.t 18)), none⟩,
  ⟨(some 20), .call false 451 [(.t 19)], none⟩,
  ⟨(some 7), .mv (.t 20), none⟩])
 (.seq (.seq (.reg [⟨(some 21), .mv (.t 7), none⟩,
  ⟨(some 22), .mv (.t 2), none⟩,
  ⟨(some 23), .ixs 5 (.t 21) (.t 22), none⟩,
  ⟨(some 24), .fad 1 (.t 23), none⟩,
  ⟨(some 25), .load false 1 (.t 24), none⟩,
  ⟨(some 26), .bin .eql (.t 25) (.k (D.int .i64 (2))), none⟩,
  ⟨(some 27), .mv (.t 26), none⟩,
  ⟨(some 28), .mv (.t 2), (some (27, true))⟩,
  ⟨(some 29), .bin .gtr (.t 28) (.k (D.int .i64 (0))), (some (27, true))⟩,
  ⟨(some 30), .pick (.t 27) (.t 29) (.k (D.bool false)), none⟩])
 (.cond (.t 30)
 (.dreg [([], false, ⟨(some 31), .mv (.t 7), none⟩),
  ([0], false, ⟨(some 32), .mv (.t 2), none⟩),
  ([0], false, ⟨(some 33), .bin .sub (.t 32) (.k (D.int .i64 (1))), none⟩),
  ([0, 1, 2], false, ⟨(some 34), .mv (.t 7), none⟩),
  ([0, 1, 2, 3], false, ⟨(some 35), .mv (.t 2), none⟩),
  ([0, 1, 2, 3, 4], false, ⟨(some 36), .mv (.t 7), none⟩),
  ([0, 1, 2, 3, 4, 5], false, ⟨(some 37), .mv (.t 2), none⟩),
  ([0, 1, 2, 3, 4, 5], false, ⟨(some 38), .bin .sub (.t 37) (.k (D.int .i64 (1))), none⟩),
  ([0, 1, 2, 3, 4], false, ⟨(some 39), .ixs 5 (.t 36) (.t 38), none⟩),
  ([0, 1, 2, 3, 4], false, ⟨(some 40), .fad 2 (.t 39), none⟩),
  ([0, 1, 2, 3, 4], false, ⟨(some 41), .load true 3 (.t 40), none⟩),
  ([0, 1, 2, 3, 4], false, ⟨(some 42), .call true 106 [(.t 41)], none⟩),
  ([0, 1, 2, 3, 4, 5, 6, 7, 8, 9, 10, 11], false, ⟨(some 43), .mv (.t 7), none⟩),
  ([0, 1, 2, 3, 4, 5, 6, 7, 8, 9, 10, 11, 12], false, ⟨(some 44), .mv (.t 2), none⟩),
  ([0, 1, 2, 3, 4, 5, 6, 7, 8, 9, 10, 11], false, ⟨(some 45), .ixs 5 (.t 43) (.t 44), none⟩),
  ([0, 1, 2, 3, 4, 5, 6, 7, 8, 9, 10, 11], false, ⟨(some 46), .fad 2 (.t 45), none⟩),
  ([0, 1, 2, 3, 4, 5, 6, 7, 8, 9, 10, 11], false, ⟨(some 47), .load true 3 (.t 46), none⟩),
  ([0, 1, 2, 3, 4], false, ⟨(some 48), .call true 106 [(.t 47)], none⟩),
  ([3, 4], false, ⟨(some 49), .ixs 5 (.t 31) (.t 33), none⟩),
  ([3, 4], false, ⟨none, .store 5 (.t 49) (.t 42), none⟩),
  ([], true, ⟨(some 50), .ixs 5 (.t 34) (.t 35), none⟩),
  ([], true, ⟨none, .store 5 (.t 50) (.t 48), none⟩)])
 .skip))
 (.seq (.reg [⟨(some 51), .mv (.t 7), none⟩,
  ⟨(some 6), .mv (.t 51), none⟩])
 .ret))))⟩
def a148 : Ann := ⟨[], [⟨false, 0, false⟩], []⟩
def s148 : SFun := ⟨3, 22, [], [(.cell 6 true 3, ⟨false, 0, false⟩)],
 (.seq (.reg [⟨(some 3), .box 3 (.t 0), none⟩,
  ⟨(some 6), .alloc [(D.int .i64 (0)), (D.int .i64 (0)), .sn], none⟩])
 (.seq (.reg [⟨(some 7), .fad 2 (.t 3), none⟩,
  ⟨(some 8), .load false 1 (.t 7), none⟩,
  ⟨(some 9), .call false 451 [(.t 8)], none⟩,
  ⟨(some 10), .fad 2 (.t 3), none⟩,
  ⟨none, .store 1 (.t 10) (.t 9), none⟩])
 (.seq (.dreg [([], false, ⟨(some 11), .fad 2 (.t 3), none⟩),
  ([], false, ⟨(some 12), .load false 1 (.t 11), none⟩),
  ([0, 1], false, ⟨(some 13), .mv (.t 1), none⟩),
  ([0, 1, 2], false, ⟨(some 14), .fad 1 (.t 3), none⟩),
  ([0, 1, 2], false, ⟨(some 15), .load false 1 (.t 14), none⟩),
  ([0, 1], false, ⟨(some 16), .bin .mul (.t 13) (.t 15), none⟩),
  ([], false, ⟨(some 17), .slc 5 (.t 12) (some (.t 16)) none, none⟩),
  ([0, 1, 2, 3, 4, 5, 6], false, ⟨(some 18), .mv (.t 2), none⟩),
  ([0, 1, 2, 3, 4, 5, 6], false, ⟨(some 19), .callr 150 [(.t 18)], none⟩),
  ([], true, ⟨(some 20), .copy 5 (.t 17) (.t 19), none⟩)])
 (.seq (.reg [⟨(some 21), .load true 3 (.t 3), none⟩,
  ⟨none, .store 3 (.t 6) (.t 21), none⟩])
 .ret))))⟩
def a459 : Ann := ⟨[], [⟨true, 5, false⟩], []⟩
def s459 : SFun := ⟨2, 27, [], [(.tmp 4, ⟨true, 5, false⟩)],
 (.seq (.reg [⟨(some 4), .mv (.k .sn), none⟩])
 (.seq (.seq (.reg [⟨(some 5), .mv (.t 1), none⟩,
  ⟨(some 6), .bin .lss (.t 5) (.k (D.int .i64 (0))), none⟩])
 (.cond (.t 6)
 (.reg [⟨(some 7), .bad, none⟩,
  ⟨none, .bad, none⟩])
 .skip))
 (.seq (.seq (.reg [⟨(some 8), .mv (.t 1), none⟩,
  ⟨(some 9), .mv (.t 0), none⟩,
  ⟨(some 10), .capn (.t 9), none⟩,
  ⟨(some 11), .mv (.t 0), none⟩,
  ⟨(some 12), .len (.t 11), none⟩,
  ⟨(some 13), .bin .sub (.t 10) (.t 12), none⟩,
  ⟨(some 14), .bin .sub (.t 8) (.t 13), none⟩,
  ⟨(some 1), .mv (.t 14), none⟩])
 (.seq (.reg [⟨(some 15), .mv (.t 1), none⟩,
  ⟨(some 16), .bin .gtr (.t 15) (.k (D.int .i64 (0))), none⟩])
 (.cond (.t 16)
 (.reg [⟨(some 17), .mv (.t 0), none⟩,
  ⟨(some 18), .mv (.t 0), none⟩,
  ⟨(some 19), .capn (.t 18), none⟩,
  ⟨(some 20), .slc 5 (.t 17) none (some (.t 19)), none⟩,
  ⟨(some 21), .mv (.t 1), none⟩,
  ⟨(some 22), .appz 5 40 [(D.int .i32 (0)), (D.int .i64 (0)), (D.int .i64 (0)), (D.int .i64 (0)), (D.int .i64 (0))] (.t 20) (.t 21), none⟩,
  ⟨(some 23), .mv (.t 0), none⟩,
  ⟨(some 24), .len (.t 23), none⟩,
  ⟨(some 25), .slc 5 (.t 22) none (some (.t 24)), none⟩,
  ⟨(some 0), .mv (.t 25), none⟩])
 .skip)))
 (.seq (.reg [⟨(some 26), .mv (.t 0), none⟩,
  ⟨(some 4), .mv (.t 26), none⟩])
 .ret))))⟩
def a452 : Ann := ⟨[(3, [(0, ⟨false, 0, false⟩), (3, ⟨false, 0, false⟩), (9, ⟨false, 0, false⟩), (10, ⟨false, 0, false⟩), (11, ⟨false, 0, false⟩)]), (11, [(25, ⟨false, 0, false⟩), (26, ⟨false, 0, false⟩), (27, ⟨false, 0, false⟩), (6, ⟨true, 5, false⟩)])], [⟨true, 5, false⟩], []⟩
def s452 : SFun := ⟨1, 36, [], [(.tmp 2, ⟨true, 5, false⟩)],
 (.seq (.reg [⟨(some 2), .mv (.k .sn), none⟩])
 (.seq (.reg [⟨(some 3), .mv (.k (D.int .i64 (0))), none⟩])
 (.seq (.seq (.reg [⟨(some 9), .mv (.t 0), none⟩,
  ⟨(some 10), .len (.t 9), none⟩,
  ⟨(some 11), .mv (.k (D.int .i64 (0))), none⟩])
 (.block 0 (.loop [(0, ⟨false, 0, false⟩), (3, ⟨false, 0, false⟩), (9, ⟨false, 0, false⟩), (10, ⟨false, 0, false⟩), (11, ⟨false, 0, false⟩)]
 (.seq (.reg [⟨(some 12), .bin .lss (.t 11) (.t 10), none⟩])
 (.seq (.cond (.t 12)
 .skip
 (.exit 0))
 (.seq (.block 1 (.seq (.reg [⟨(some 13), .ixs 1 (.t 9) (.t 11), none⟩,
  ⟨(some 14), .load false 1 (.t 13), none⟩,
  ⟨(some 5), .mv (.t 14), none⟩])
 (.seq (.reg [⟨(some 15), .mv (.t 3), none⟩,
  ⟨(some 16), .mv (.t 5), none⟩,
  ⟨(some 17), .len (.t 16), none⟩,
  ⟨(some 18), .bin .add (.t 15) (.t 17), none⟩,
  ⟨(some 3), .mv (.t 18), none⟩])
 (.seq (.reg [⟨(some 19), .mv (.t 3), none⟩,
  ⟨(some 20), .bin .lss (.t 19) (.k (D.int .i64 (0))), none⟩])
 (.cond (.t 20)
 (.reg [⟨(some 21), .bad, none⟩,
  ⟨none, .bad, none⟩])
 .skip)))))
 (.reg [⟨(some 22), .bin .add (.t 11) (.k (D.int .i64 (1))), none⟩,
  ⟨(some 11), .mv (.t 22), none⟩])))))))
 (.seq (.reg [⟨(some 23), .mv (.t 3), none⟩,
  ⟨(some 24), .call false 459 [(.k .sn), (.t 23)], none⟩,
  ⟨(some 6), .mv (.t 24), none⟩])
 (.seq (.seq (.reg [⟨(some 25), .mv (.t 0), none⟩,
  ⟨(some 26), .len (.t 25), none⟩,
  ⟨(some 27), .mv (.k (D.int .i64 (0))), none⟩])
 (.block 2 (.loop [(25, ⟨false, 0, false⟩), (26, ⟨false, 0, false⟩), (27, ⟨false, 0, false⟩), (6, ⟨true, 5, false⟩)]
 (.seq (.reg [⟨(some 28), .bin .lss (.t 27) (.t 26), none⟩])
 (.seq (.cond (.t 28)
 .skip
 (.exit 2))
 (.seq (.block 3 (.seq (.reg [⟨(some 29), .ixs 1 (.t 25) (.t 27), none⟩,
  ⟨(some 30), .load false 1 (.t 29), none⟩,
  ⟨(some 8), .mv (.t 30), none⟩])
 (.reg [⟨(some 31), .mv (.t 6), none⟩,
  ⟨(some 32), .mv (.t 8), none⟩,
  ⟨(some 33), .append 5 40 (.t 31) (.t 32), none⟩,
  ⟨(some 6), .mv (.t 33), none⟩])))
 (.reg [⟨(some 34), .bin .add (.t 27) (.k (D.int .i64 (1))), none⟩,
  ⟨(some 27), .mv (.t 34), none⟩])))))))
 (.seq (.reg [⟨(some 35), .mv (.t 6), none⟩,
  ⟨(some 2), .mv (.t 35), none⟩])
 .ret))))))⟩
def a140 : Ann := ⟨[], [⟨false, 0, false⟩], []⟩
def s140 : SFun := ⟨5, 54, [], [(.cell 10 true 3, ⟨false, 0, false⟩)],
 (.seq (.reg [⟨(some 5), .box 3 (.t 0), none⟩,
  ⟨(some 9), .box 3 (.t 4), none⟩,
  ⟨(some 10), .alloc [(D.int .i64 (0)), (D.int .i64 (0)), .sn], none⟩])
 (.seq (.seq (.reg [⟨(some 15), .load true 3 (.t 5), none⟩,
  ⟨(some 16), .mv (.t 1), none⟩,
  ⟨(some 17), .mv (.t 2), none⟩,
  ⟨(some 18), .call false 149 [(.t 15), (.t 16), (.t 17)], none⟩,
  ⟨(some 14), .mv (.t 18), none⟩,
  ⟨(some 19), .ext (.t 14) 0, none⟩,
  ⟨(some 20), .ext (.t 14) 1, none⟩,
  ⟨(some 11), .alloc [(D.int .i32 (0)), (D.int .i64 (0)), (D.int .i64 (0)), (D.int .i64 (0)), (D.int .i64 (0))], none⟩,
  ⟨none, .store 5 (.t 11) (.t 19), none⟩,
  ⟨(some 12), .mv (.t 20), none⟩])
 (.seq (.reg [⟨(some 21), .mv (.t 12), none⟩,
  ⟨(some 22), .una .not (.t 21), none⟩])
 (.cond (.t 22)
 (.seq (.reg [⟨(some 23), .load true 3 (.t 5), none⟩,
  ⟨(some 24), .call false 144 [(.t 23)], none⟩,
  ⟨none, .store 3 (.t 10) (.t 24), none⟩])
 .ret)
 .skip)))
 (.seq (.reg [⟨(some 25), .load true 3 (.t 5), none⟩,
  ⟨(some 26), .mv (.t 1), none⟩,
  ⟨(some 27), .mv (.t 2), none⟩,
  ⟨(some 28), .call false 146 [(.t 25), (.t 26), (.t 27)], none⟩,
  ⟨(some 13), .mv (.t 28), none⟩])
 (.seq (.reg [⟨(some 29), .mv (.t 3), none⟩,
  ⟨(some 30), .fad 1 (.t 5), none⟩,
  ⟨(some 31), .load false 1 (.t 30), none⟩,
  ⟨(some 32), .mv (.t 2), none⟩,
  ⟨(some 33), .bin .sub (.t 31) (.t 32), none⟩,
  ⟨(some 34), .mn [(.t 29), (.t 33)], none⟩,
  ⟨(some 35), .mx [(.k (D.int .i64 (0))), (.t 34)], none⟩,
  ⟨(some 3), .mv (.t 35), none⟩])
 (.seq (.dreg [([], false, ⟨(some 36), .load true 3 (.t 5), none⟩),
  ([0], false, ⟨(some 37), .mv (.t 1), none⟩),
  ([0, 1], false, ⟨(some 38), .mv (.t 13), none⟩),
  ([0, 1, 2], false, ⟨(some 39), .mv (.t 2), none⟩),
  ([0, 1], false, ⟨(some 40), .slc 5 (.t 38) none (some (.t 39)), none⟩),
  ([0, 1, 2, 3, 4], false, ⟨(some 41), .mv (.t 3), none⟩),
  ([0, 1, 2, 3, 4, 5], false, ⟨(some 42), .load true 3 (.t 9), none⟩),
  ([0, 1, 2, 3, 4], false, ⟨(some 43), .callr 143 [(.t 41), (.t 42)], none⟩),
  ([0, 1, 2, 3, 4, 5, 6, 7], false, ⟨(some 44), .mv (.t 13), none⟩),
  ([0, 1, 2, 3, 4, 5, 6, 7, 8], false, ⟨(some 45), .mv (.t 2), none⟩),
  ([0, 1, 2, 3, 4, 5, 6, 7, 8, 9], false, ⟨(some 46), .fad 1 (.t 5), none⟩),
  ([0, 1, 2, 3, 4, 5, 6, 7, 8, 9], false, ⟨(some 47), .load false 1 (.t 46), none⟩),
  ([0, 1, 2, 3, 4, 5, 6, 7, 8, 9, 10, 11], false, ⟨(some 48), .mv (.t 3), none⟩),
  ([0, 1, 2, 3, 4, 5, 6, 7, 8, 9], false, ⟨(some 49), .bin .sub (.t 47) (.t 48), none⟩),
  ([0, 1, 2, 3, 4, 5, 6, 7], false, ⟨(some 50), .slc 5 (.t 44) (some (.t 45)) (some (.t 49)), none⟩),
  ([0, 1], false, ⟨(some 51), .bsl false 1 3 [.sn] [(0, (.t 40)), (1, (.t 43)), (2, (.t 50))], none⟩),
  ([0, 1], false, ⟨(some 52), .callr 452 [(.t 51)], none⟩),
  ([], true, ⟨(some 53), .call false 148 [(.t 36), (.t 37), (.t 52)], none⟩),
  ([], true, ⟨none, .store 3 (.t 10) (.t 53), none⟩)])
 .ret)))))⟩
def a137 : Ann := ⟨[], [⟨false, 0, false⟩], []⟩
def s137 : SFun := ⟨5, 52, [], [(.cell 10 true 3, ⟨false, 0, false⟩)],
 (.seq (.reg [⟨(some 5), .box 3 (.t 0), none⟩,
  ⟨(some 9), .box 3 (.t 4), none⟩,
  ⟨(some 10), .alloc [(D.int .i64 (0)), (D.int .i64 (0)), .sn], none⟩])
 (.seq (.seq (.reg [⟨(some 15), .load true 3 (.t 5), none⟩,
  ⟨(some 16), .mv (.t 1), none⟩,
  ⟨(some 17), .mv (.t 2), none⟩,
  ⟨(some 18), .call false 149 [(.t 15), (.t 16), (.t 17)], none⟩,
  ⟨(some 14), .mv (.t 18), none⟩,
  ⟨(some 19), .ext (.t 14) 0, none⟩,
  ⟨(some 20), .ext (.t 14) 1, none⟩,
  ⟨(some 11), .alloc [(D.int .i32 (0)), (D.int .i64 (0)), (D.int .i64 (0)), (D.int .i64 (0)), (D.int .i64 (0))], none⟩,
  ⟨none, .store 5 (.t 11) (.t 19), none⟩,
  ⟨(some 12), .mv (.t 20), none⟩])
 (.seq (.reg [⟨(some 21), .mv (.t 12), none⟩,
  ⟨(some 22), .una .not (.t 21), none⟩])
 (.cond (.t 22)
 (.seq (.reg [⟨(some 23), .load true 3 (.t 5), none⟩,
  ⟨(some 24), .call false 144 [(.t 23)], none⟩,
  ⟨none, .store 3 (.t 10) (.t 24), none⟩])
 .ret)
 .skip)))
 (.seq (.reg [⟨(some 25), .load true 3 (.t 5), none⟩,
  ⟨(some 26), .mv (.t 1), none⟩,
  ⟨(some 27), .mv (.t 2), none⟩,
  ⟨(some 28), .call false 146 [(.t 25), (.t 26), (.t 27)], none⟩,
  ⟨(some 13), .mv (.t 28), none⟩])
 (.seq (.reg [⟨(some 29), .mv (.t 3), none⟩,
  ⟨(some 30), .fad 1 (.t 5), none⟩,
  ⟨(some 31), .load false 1 (.t 30), none⟩,
  ⟨(some 32), .mv (.t 2), none⟩,
  ⟨(some 33), .bin .sub (.t 31) (.t 32), none⟩,
  ⟨(some 34), .mn [(.t 29), (.t 33)], none⟩,
  ⟨(some 35), .mx [(.k (D.int .i64 (0))), (.t 34)], none⟩,
  ⟨(some 3), .mv (.t 35), none⟩])
 (.seq (.dreg [([], false, ⟨(some 36), .load true 3 (.t 5), none⟩),
  ([0], false, ⟨(some 37), .mv (.t 1), none⟩),
  ([0, 1], false, ⟨(some 38), .mv (.t 13), none⟩),
  ([0, 1, 2], false, ⟨(some 39), .mv (.t 2), none⟩),
  ([0, 1], false, ⟨(some 40), .slc 5 (.t 38) none (some (.t 39)), none⟩),
  ([0, 1, 2, 3, 4], false, ⟨(some 41), .mv (.t 13), none⟩),
  ([0, 1, 2, 3, 4, 5], false, ⟨(some 42), .mv (.t 2), none⟩),
  ([0, 1, 2, 3, 4, 5, 6], false, ⟨(some 43), .mv (.t 3), none⟩),
  ([0, 1, 2, 3, 4, 5], false, ⟨(some 44), .bin .add (.t 42) (.t 43), none⟩),
  ([0, 1, 2, 3, 4], false, ⟨(some 45), .slc 5 (.t 41) (some (.t 44)) none, none⟩),
  ([0, 1, 2, 3, 4, 5, 6, 7, 8, 9], false, ⟨(some 46), .mv (.t 3), none⟩),
  ([0, 1, 2, 3, 4, 5, 6, 7, 8, 9, 10], false, ⟨(some 47), .load true 3 (.t 9), none⟩),
  ([0, 1, 2, 3, 4, 5, 6, 7, 8, 9], false, ⟨(some 48), .callr 143 [(.t 46), (.t 47)], none⟩),
  ([0, 1], false, ⟨(some 49), .bsl false 1 3 [.sn] [(0, (.t 40)), (1, (.t 45)), (2, (.t 48))], none⟩),
  ([0, 1], false, ⟨(some 50), .callr 452 [(.t 49)], none⟩),
  ([], true, ⟨(some 51), .call false 148 [(.t 36), (.t 37), (.t 50)], none⟩),
  ([], true, ⟨none, .store 3 (.t 10) (.t 51), none⟩)])
 .ret)))))⟩
def a403 : Ann := ⟨[], [⟨false, 0, false⟩], []⟩
def s403 : SFun := ⟨2, 76, [], [(.cell 4 true 29, ⟨false, 0, false⟩)],
 (.seq (.reg [⟨(some 2), .box 29 (.t 0), none⟩,
  ⟨(some 3), .box 7 (.t 1), none⟩,
  ⟨(some 4), .alloc [(D.int .i64 (0)), (D.int .i64 (0)), .sn, (D.int .i64 (0)), (D.int .i64 (0)), (D.bool false), (D.int .i64 (0)), (D.int .i64 (0)), (D.int .i64 (0)), (D.int .i64 (0)), (D.int .i64 (0)), (D.int .u64 (0)), (D.int .u8 (0)), (D.int .u8 (0)), (D.int .i64 (0)), (D.bool false), (D.bool false), (D.bool false), (D.bool false), (D.bool false), (D.int .i64 (0)), (D.int .i64 (0)), (D.int .i64 (0)), (D.int .i64 (0)), (D.int .i64 (0)), (D.int .u8 (0)), (D.int .u8 (0)), (D.int .i64 (0)), (D.bool false)], none⟩])
 (.seq (.dreg [([], false, ⟨(some 9), .load true 7 (.t 3), none⟩),
  ([], false, ⟨(some 10), .call true 411 [(.t 9), (.k (D.int .i64 (0)))], none⟩),
  ([0, 1], false, ⟨(some 11), .load true 7 (.t 3), none⟩),
  ([], false, ⟨(some 12), .call true 381 [(.t 11), (.k (D.int .i64 (0))), (.k (D.int .i64 (0))), (.k (D.int .i64 (0))), (.k (D.int .i64 (65535)))], none⟩),
  ([0, 1, 2, 3], false, ⟨(some 13), .load true 29 (.t 2), none⟩),
  ([], false, ⟨(some 14), .call true 371 [(.t 13)], none⟩),
  ([0, 1, 2, 3, 4, 5], false, ⟨(some 7), .alloc [(D.int .i64 (0)), (D.int .i64 (0)), (D.int .i64 (0))], none⟩),
  ([], true, ⟨(some 5), .mv (.t 10), none⟩),
  ([], true, ⟨(some 6), .mv (.t 12), none⟩),
  ([], true, ⟨none, .store 3 (.t 7) (.t 14), none⟩)])
 (.seq (.reg [⟨(some 15), .fad 0 (.t 2), none⟩,
  ⟨(some 16), .load true 3 (.t 15), none⟩,
  ⟨(some 8), .alloc [(D.int .i64 (0)), (D.int .i64 (0)), .sn], none⟩,
  ⟨none, .store 3 (.t 8) (.t 16), none⟩])
 (.seq (.seq (.reg [⟨(some 17), .fad 4 (.t 3), none⟩,
  ⟨(some 18), .load false 1 (.t 17), none⟩])
 (.block 0 (.seq (.reg [⟨(some 20), .bin .eql (.t 18) (.k (D.int .u8 (74))), none⟩,
  ⟨(some 19), .mv (.t 20), none⟩])
 (.cond (.t 19)
 (.reg [⟨(some 21), .load true 3 (.t 8), none⟩,
  ⟨(some 22), .fad 3 (.t 2), none⟩,
  ⟨(some 23), .load false 1 (.t 22), none⟩,
  ⟨(some 24), .fad 4 (.t 2), none⟩,
  ⟨(some 25), .load false 1 (.t 24), none⟩,
  ⟨(some 26), .mv (.t 6), none⟩,
  ⟨(some 27), .load true 3 (.t 7), none⟩,
  ⟨(some 28), .call false 139 [(.t 21), (.t 23), (.t 25), (.t 26), (.t 27)], none⟩,
  ⟨none, .store 3 (.t 8) (.t 28), none⟩])
 (.seq (.reg [⟨(some 30), .bin .eql (.t 18) (.k (D.int .u8 (75))), none⟩,
  ⟨(some 29), .mv (.t 30), none⟩])
 (.cond (.t 29)
 (.reg [⟨(some 31), .load true 3 (.t 8), none⟩,
  ⟨(some 32), .fad 3 (.t 2), none⟩,
  ⟨(some 33), .load false 1 (.t 32), none⟩,
  ⟨(some 34), .fad 4 (.t 2), none⟩,
  ⟨(some 35), .load false 1 (.t 34), none⟩,
  ⟨(some 36), .mv (.t 6), none⟩,
  ⟨(some 37), .load true 3 (.t 7), none⟩,
  ⟨(some 38), .call false 141 [(.t 31), (.t 33), (.t 35), (.t 36), (.t 37)], none⟩,
  ⟨none, .store 3 (.t 8) (.t 38), none⟩])
 (.seq (.reg [⟨(some 40), .bin .eql (.t 18) (.k (D.int .u8 (64))), none⟩,
  ⟨(some 39), .mv (.t 40), none⟩])
 (.cond (.t 39)
 (.reg [⟨(some 41), .load true 3 (.t 8), none⟩,
  ⟨(some 42), .fad 3 (.t 2), none⟩,
  ⟨(some 43), .load false 1 (.t 42), none⟩,
  ⟨(some 44), .fad 4 (.t 2), none⟩,
  ⟨(some 45), .load false 1 (.t 44), none⟩,
  ⟨(some 46), .mv (.t 5), none⟩,
  ⟨(some 47), .load true 3 (.t 7), none⟩,
  ⟨(some 48), .call false 140 [(.t 41), (.t 43), (.t 45), (.t 46), (.t 47)], none⟩,
  ⟨none, .store 3 (.t 8) (.t 48), none⟩])
 (.seq (.reg [⟨(some 50), .bin .eql (.t 18) (.k (D.int .u8 (80))), none⟩,
  ⟨(some 49), .mv (.t 50), none⟩])
 (.cond (.t 49)
 (.reg [⟨(some 51), .load true 3 (.t 8), none⟩,
  ⟨(some 52), .fad 3 (.t 2), none⟩,
  ⟨(some 53), .load false 1 (.t 52), none⟩,
  ⟨(some 54), .fad 4 (.t 2), none⟩,
  ⟨(some 55), .load false 1 (.t 54), none⟩,
  ⟨(some 56), .mv (.t 5), none⟩,
  ⟨(some 57), .load true 3 (.t 7), none⟩,
  ⟨(some 58), .call false 137 [(.t 51), (.t 53), (.t 55), (.t 56), (.t 57)], none⟩,
  ⟨none, .store 3 (.t 8) (.t 58), none⟩])
 (.seq (.reg [⟨(some 60), .bin .eql (.t 18) (.k (D.int .u8 (88))), none⟩,
  ⟨(some 59), .mv (.t 60), none⟩])
 (.cond (.t 59)
 (.reg [⟨(some 61), .load true 3 (.t 8), none⟩,
  ⟨(some 62), .fad 3 (.t 2), none⟩,
  ⟨(some 63), .load false 1 (.t 62), none⟩,
  ⟨(some 64), .fad 4 (.t 2), none⟩,
  ⟨(some 65), .load false 1 (.t 64), none⟩,
  ⟨(some 66), .fad 4 (.t 2), none⟩,
  ⟨(some 67), .load false 1 (.t 66), none⟩,
  ⟨(some 68), .mv (.t 5), none⟩,
  ⟨(some 69), .bin .add (.t 67) (.t 68), none⟩,
  ⟨(some 70), .load true 3 (.t 7), none⟩,
  ⟨(some 71), .call false 157 [(.t 61), (.t 63), (.t 65), (.t 69), (.t 70)], none⟩,
  ⟨none, .store 3 (.t 8) (.t 71), none⟩])
 .skip))))))))))))
 (.seq (.reg [⟨(some 72), .load true 3 (.t 8), none⟩,
  ⟨(some 73), .fad 0 (.t 2), none⟩,
  ⟨none, .store 3 (.t 73) (.t 72), none⟩,
  ⟨(some 74), .fad 5 (.t 2), none⟩,
  ⟨none, .store 1 (.t 74) (.k (D.bool false)), none⟩])
 (.seq (.reg [⟨(some 75), .load true 29 (.t 2), none⟩,
  ⟨none, .store 29 (.t 4) (.t 75), none⟩])
 .ret))))))⟩
def a414 : Ann := ⟨[], [⟨false, 0, false⟩], []⟩
def s414 : SFun := ⟨2, 77, [], [(.cell 4 true 29, ⟨false, 0, false⟩)],
 (.seq (.reg [⟨(some 2), .box 29 (.t 0), none⟩,
  ⟨(some 3), .box 7 (.t 1), none⟩,
  ⟨(some 4), .alloc [(D.int .i64 (0)), (D.int .i64 (0)), .sn, (D.int .i64 (0)), (D.int .i64 (0)), (D.bool false), (D.int .i64 (0)), (D.int .i64 (0)), (D.int .i64 (0)), (D.int .i64 (0)), (D.int .i64 (0)), (D.int .u64 (0)), (D.int .u8 (0)), (D.int .u8 (0)), (D.int .i64 (0)), (D.bool false), (D.bool false), (D.bool false), (D.bool false), (D.bool false), (D.int .i64 (0)), (D.int .i64 (0)), (D.int .i64 (0)), (D.int .i64 (0)), (D.int .i64 (0)), (D.int .u8 (0)), (D.int .u8 (0)), (D.int .i64 (0)), (D.bool false)], none⟩])
 (.seq (.dreg [([], false, ⟨(some 7), .load true 7 (.t 3), none⟩),
  ([], false, ⟨(some 8), .call true 411 [(.t 7), (.k (D.int .i64 (0)))], none⟩),
  ([0, 1], false, ⟨(some 9), .load true 29 (.t 2), none⟩),
  ([], false, ⟨(some 10), .call true 371 [(.t 9)], none⟩),
  ([0, 1, 2, 3], false, ⟨(some 6), .alloc [(D.int .i64 (0)), (D.int .i64 (0)), (D.int .i64 (0))], none⟩),
  ([], true, ⟨(some 5), .mv (.t 8), none⟩),
  ([], true, ⟨none, .store 3 (.t 6) (.t 10), none⟩)])
 (.seq (.seq (.reg [⟨(some 11), .fad 4 (.t 3), none⟩,
  ⟨(some 12), .load false 1 (.t 11), none⟩])
 (.block 0 (.seq (.reg [⟨(some 14), .bin .eql (.t 12) (.k (D.int .u8 (83))), none⟩,
  ⟨(some 13), .mv (.t 14), none⟩])
 (.cond (.t 13)
 (.seq (.reg [⟨(some 15), .fad 0 (.t 2), none⟩,
  ⟨(some 16), .load true 3 (.t 15), none⟩,
  ⟨(some 17), .fad 6 (.t 2), none⟩,
  ⟨(some 18), .load false 1 (.t 17), none⟩,
  ⟨(some 19), .fad 7 (.t 2), none⟩,
  ⟨(some 20), .load false 1 (.t 19), none⟩,
  ⟨(some 21), .mv (.t 5), none⟩,
  ⟨(some 22), .load true 3 (.t 6), none⟩,
  ⟨(some 23), .call false 142 [(.t 16), (.t 18), (.t 20), (.t 21), (.t 22)], none⟩,
  ⟨(some 24), .fad 0 (.t 2), none⟩,
  ⟨none, .store 3 (.t 24) (.t 23), none⟩])
 (.seq (.reg [⟨(some 25), .load true 29 (.t 2), none⟩,
  ⟨none, .store 29 (.t 4) (.t 25), none⟩])
 .ret))
 (.seq (.reg [⟨(some 27), .bin .eql (.t 12) (.k (D.int .u8 (84))), none⟩,
  ⟨(some 26), .mv (.t 27), none⟩])
 (.cond (.t 26)
 (.seq (.reg [⟨(some 28), .fad 0 (.t 2), none⟩,
  ⟨(some 29), .load true 3 (.t 28), none⟩,
  ⟨(some 30), .fad 6 (.t 2), none⟩,
  ⟨(some 31), .load false 1 (.t 30), none⟩,
  ⟨(some 32), .fad 7 (.t 2), none⟩,
  ⟨(some 33), .load false 1 (.t 32), none⟩,
  ⟨(some 34), .mv (.t 5), none⟩,
  ⟨(some 35), .load true 3 (.t 6), none⟩,
  ⟨(some 36), .call false 138 [(.t 29), (.t 31), (.t 33), (.t 34), (.t 35)], none⟩,
  ⟨(some 37), .fad 0 (.t 2), none⟩,
  ⟨none, .store 3 (.t 37) (.t 36), none⟩])
 (.seq (.reg [⟨(some 38), .load true 29 (.t 2), none⟩,
  ⟨none, .store 29 (.t 4) (.t 38), none⟩])
 .ret))
 .skip))))))
 (.seq (.seq (.reg [⟨(some 39), .fad 3 (.t 2), none⟩,
  ⟨(some 40), .load false 1 (.t 39), none⟩,
  ⟨(some 41), .fad 6 (.t 2), none⟩,
  ⟨(some 42), .load false 1 (.t 41), none⟩,
  ⟨(some 43), .bin .lss (.t 40) (.t 42), none⟩,
  ⟨(some 44), .mv (.t 43), none⟩,
  ⟨(some 45), .fad 3 (.t 2), (some (44, false))⟩,
  ⟨(some 46), .load false 1 (.t 45), (some (44, false))⟩,
  ⟨(some 47), .fad 7 (.t 2), (some (44, false))⟩,
  ⟨(some 48), .load false 1 (.t 47), (some (44, false))⟩,
  ⟨(some 49), .bin .gtr (.t 46) (.t 48), (some (44, false))⟩,
  ⟨(some 50), .pick (.t 44) (.k (D.bool true)) (.t 49), none⟩])
 (.cond (.t 50)
 (.seq (.reg [⟨(some 51), .load true 29 (.t 2), none⟩,
  ⟨none, .store 29 (.t 4) (.t 51), none⟩])
 .ret)
 .skip))
 (.seq (.seq (.reg [⟨(some 52), .fad 4 (.t 3), none⟩,
  ⟨(some 53), .load false 1 (.t 52), none⟩,
  ⟨(some 54), .bin .eql (.t 53) (.k (D.int .u8 (76))), none⟩])
 (.cond (.t 54)
 (.reg [⟨(some 55), .fad 0 (.t 2), none⟩,
  ⟨(some 56), .load true 3 (.t 55), none⟩,
  ⟨(some 57), .fad 3 (.t 2), none⟩,
  ⟨(some 58), .load false 1 (.t 57), none⟩,
  ⟨(some 59), .fad 7 (.t 2), none⟩,
  ⟨(some 60), .load false 1 (.t 59), none⟩,
  ⟨(some 61), .mv (.t 5), none⟩,
  ⟨(some 62), .load true 3 (.t 6), none⟩,
  ⟨(some 63), .call false 138 [(.t 56), (.t 58), (.t 60), (.t 61), (.t 62)], none⟩,
  ⟨(some 64), .fad 0 (.t 2), none⟩,
  ⟨none, .store 3 (.t 64) (.t 63), none⟩])
 (.reg [⟨(some 65), .fad 0 (.t 2), none⟩,
  ⟨(some 66), .load true 3 (.t 65), none⟩,
  ⟨(some 67), .fad 3 (.t 2), none⟩,
  ⟨(some 68), .load false 1 (.t 67), none⟩,
  ⟨(some 69), .fad 7 (.t 2), none⟩,
  ⟨(some 70), .load false 1 (.t 69), none⟩,
  ⟨(some 71), .mv (.t 5), none⟩,
  ⟨(some 72), .load true 3 (.t 6), none⟩,
  ⟨(some 73), .call false 142 [(.t 66), (.t 68), (.t 70), (.t 71), (.t 72)], none⟩,
  ⟨(some 74), .fad 0 (.t 2), none⟩,
  ⟨none, .store 3 (.t 74) (.t 73), none⟩])))
 (.seq (.reg [⟨(some 75), .load true 29 (.t 2), none⟩,
  ⟨(some 76), .call false 404 [(.t 75), (.k (D.int .i64 (0)))], none⟩,
  ⟨none, .store 29 (.t 4) (.t 76), none⟩])
 .ret))))))⟩
end Go.Proofs.YtbnpiancagebbaaGreatDoor.LgTab
