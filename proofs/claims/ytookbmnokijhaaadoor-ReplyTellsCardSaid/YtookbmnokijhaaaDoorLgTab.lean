import Derived.Test.YtookbmnokijhaaaDoorRows
import Derived.Test.YtookbmnokijhaaaDoorLgW1
import Derived.RowKit
/-
  The seat's functions, as this work's tool printed them.
-/
namespace Go.Proofs.YtookbmnokijhaaaDoor.LgTab
open Go Lg
set_option maxRecDepth 100000
def a174 : Ann := ⟨[], [⟨false, 0, false⟩], []⟩
def s174 : SFun := ⟨3, 24, [], [(.tmp 6, ⟨false, 0, false⟩)],
 (.seq (.reg [⟨(some 6), .mv (.k (D.int .i64 (0))), none⟩])
 (.seq (.reg [⟨(some 7), .mv (.t 0), none⟩,
  ⟨(some 8), .mv (.t 2), none⟩,
  ⟨(some 9), .mv (.t 1), none⟩,
  ⟨(some 10), .bin .sub (.t 8) (.t 9), none⟩,
  ⟨(some 11), .bin .add (.t 10) (.k (D.int .i64 (1))), none⟩,
  ⟨(some 12), .bin .rem (.t 7) (.t 11), none⟩,
  ⟨(some 0), .mv (.t 12), none⟩])
 (.seq (.seq (.reg [⟨(some 13), .mv (.t 0), none⟩,
  ⟨(some 14), .bin .lss (.t 13) (.k (D.int .i64 (0))), none⟩])
 (.cond (.t 14)
 (.reg [⟨(some 15), .mv (.t 0), none⟩,
  ⟨(some 16), .mv (.t 2), none⟩,
  ⟨(some 17), .bin .add (.t 15) (.t 16), none⟩,
  ⟨(some 18), .mv (.t 1), none⟩,
  ⟨(some 19), .bin .sub (.t 17) (.t 18), none⟩,
  ⟨(some 20), .bin .add (.t 19) (.k (D.int .i64 (1))), none⟩,
  ⟨(some 0), .mv (.t 20), none⟩])
 .skip))
 (.seq (.reg [⟨(some 21), .mv (.t 1), none⟩,
  ⟨(some 22), .mv (.t 0), none⟩,
  ⟨(some 23), .bin .add (.t 21) (.t 22), none⟩,
  ⟨(some 6), .mv (.t 23), none⟩])
 .ret))))⟩
def a181 : Ann := ⟨[], [⟨false, 0, false⟩], []⟩
def s181 : SFun := ⟨2, 15, [], [(.tmp 4, ⟨false, 0, false⟩)],
 (.seq (.reg [⟨(some 4), .mv (.k (D.int .i64 (0))), none⟩])
 (.seq (.seq (.reg [⟨(some 5), .mv (.t 0), none⟩,
  ⟨(some 6), .len (.t 5), none⟩,
  ⟨(some 7), .bin .eql (.t 6) (.k (D.int .i64 (0))), none⟩])
 (.cond (.t 7)
 (.seq (.reg [⟨(some 4), .mv (.k (D.int .i64 (0))), none⟩])
 .ret)
 .skip))
 (.seq (.reg [⟨(some 8), .mv (.t 0), none⟩,
  ⟨(some 9), .mv (.t 1), none⟩,
  ⟨(some 10), .mv (.t 0), none⟩,
  ⟨(some 11), .len (.t 10), none⟩,
  ⟨(some 12), .bin .rem (.t 9) (.t 11), none⟩,
  ⟨(some 13), .ixs 1 (.t 8) (.t 12), none⟩,
  ⟨(some 14), .load false 1 (.t 13), none⟩,
  ⟨(some 4), .mv (.t 14), none⟩])
 .ret)))⟩
def a180 : Ann := ⟨[], [⟨false, 0, false⟩], []⟩
def s180 : SFun := ⟨1, 21, [], [(.tmp 2, ⟨false, 0, false⟩)],
 (.seq (.reg [⟨(some 2), .mv (.k (D.int .i64 (0))), none⟩])
 (.seq (.seq (.reg [⟨(some 3), .mv (.t 0), none⟩,
  ⟨(some 4), .call false 174 [(.t 3), (.k (D.int .i64 (0))), (.k (D.int .i64 (3)))], none⟩])
 (.block 0 (.seq (.reg [⟨(some 6), .bin .eql (.t 4) (.k (D.int .i64 (0))), none⟩,
  ⟨(some 5), .mv (.t 6), none⟩])
 (.cond (.t 5)
 (.seq (.reg [⟨(some 2), .mv (.k (D.int .i64 (-1))), none⟩])
 .ret)
 (.seq (.reg [⟨(some 8), .bin .eql (.t 4) (.k (D.int .i64 (1))), none⟩,
  ⟨(some 7), .mv (.t 8), none⟩])
 (.cond (.t 7)
 (.seq (.reg [⟨(some 9), .mv (.t 0), none⟩,
  ⟨(some 10), .bin .quo (.t 9) (.k (D.int .i64 (4))), none⟩,
  ⟨(some 11), .call false 174 [(.t 10), (.k (D.int .i64 (0))), (.k (D.int .i64 (15)))], none⟩,
  ⟨(some 2), .mv (.t 11), none⟩])
 .ret)
 (.seq (.reg [⟨(some 13), .bin .eql (.t 4) (.k (D.int .i64 (2))), none⟩,
  ⟨(some 12), .mv (.t 13), none⟩])
 (.cond (.t 12)
 (.seq (.reg [⟨(some 14), .mv (.t 0), none⟩,
  ⟨(some 15), .bin .quo (.t 14) (.k (D.int .i64 (4))), none⟩,
  ⟨(some 16), .call false 174 [(.t 15), (.k (D.int .i64 (0))), (.k (D.int .i64 (255)))], none⟩,
  ⟨(some 2), .mv (.t 16), none⟩])
 .ret)
 .skip))))))))
 (.seq (.reg [⟨(some 17), .mv (.t 0), none⟩,
  ⟨(some 18), .bin .quo (.t 17) (.k (D.int .i64 (4))), none⟩,
  ⟨(some 19), .call false 174 [(.t 18), (.k (D.int .i64 (0))), (.k (D.int .i64 (16777215)))], none⟩,
  ⟨(some 20), .bin .add (.k (D.int .i64 (16777216))) (.t 19), none⟩,
  ⟨(some 2), .mv (.t 20), none⟩])
 .ret)))⟩
def a65 : Ann := ⟨[], [⟨false, 0, false⟩], []⟩
def s65 : SFun := ⟨1, 13, [], [(.cell 2 true 3, ⟨false, 0, false⟩)],
 (.seq (.reg [⟨(some 1), .box 3 (.t 0), none⟩,
  ⟨(some 2), .alloc [(D.int .i64 (0)), (D.int .i64 (0)), (D.int .i64 (0))], none⟩])
 (.seq (.dreg [([], false, ⟨(some 3), .fad 0 (.t 1), none⟩),
  ([], false, ⟨(some 4), .load false 1 (.t 3), none⟩),
  ([], false, ⟨(some 5), .callr 180 [(.t 4)], none⟩),
  ([0, 1, 2], false, ⟨(some 6), .fad 1 (.t 1), none⟩),
  ([0, 1, 2], false, ⟨(some 7), .load false 1 (.t 6), none⟩),
  ([], false, ⟨(some 8), .callr 180 [(.t 7)], none⟩),
  ([0, 1, 2, 3, 4, 5], false, ⟨(some 9), .fad 2 (.t 1), none⟩),
  ([0, 1, 2, 3, 4, 5], false, ⟨(some 10), .load false 1 (.t 9), none⟩),
  ([], true, ⟨(some 11), .call false 174 [(.t 10), (.k (D.int .i64 (0))), (.k (D.int .i64 (255)))], none⟩),
  ([], true, ⟨(some 12), .build [(D.int .i64 (0)), (D.int .i64 (0)), (D.int .i64 (0))] [(0, 1, (.t 5)), (1, 1, (.t 8)), (2, 1, (.t 11))], none⟩),
  ([], true, ⟨none, .store 3 (.t 2) (.t 12), none⟩)])
 .ret))⟩
def a64 : Ann := ⟨[(4, [(3, ⟨false, 0, false⟩), (4, ⟨false, 0, false⟩), (6, ⟨false, 0, false⟩), (1, ⟨true, 0, false⟩), (2, ⟨true, 0, false⟩), (5, ⟨true, 0, false⟩)])], [⟨false, 0, false⟩], []⟩
def s64 : SFun := ⟨1, 79, [], [(.cell 2 true 3, ⟨false, 0, false⟩)],
 (.seq (.reg [⟨(some 1), .box 4 (.t 0), none⟩,
  ⟨(some 2), .alloc [(D.int .i64 (0)), (D.int .i64 (0)), .sn], none⟩])
 (.seq (.dreg [([], false, ⟨(some 10), .fad 0 (.t 1), none⟩),
  ([], false, ⟨(some 11), .load false 1 (.t 10), none⟩),
  ([], false, ⟨(some 12), .call true 174 [(.t 11), (.k (D.int .i64 (1))), (.k (D.int .i64 (5)))], none⟩),
  ([0, 1, 2], false, ⟨(some 13), .fad 1 (.t 1), none⟩),
  ([0, 1, 2], false, ⟨(some 14), .load false 1 (.t 13), none⟩),
  ([], true, ⟨(some 15), .call false 174 [(.t 14), (.k (D.int .i64 (1))), (.k (D.int .i64 (9)))], none⟩),
  ([], true, ⟨(some 3), .mv (.t 12), none⟩),
  ([], true, ⟨(some 4), .mv (.t 15), none⟩)])
 (.seq (.reg [⟨(some 16), .mv (.t 3), none⟩,
  ⟨(some 17), .mv (.t 4), none⟩,
  ⟨(some 18), .build [(D.int .i64 (0)), (D.int .i64 (0)), .sn] [(0, 1, (.t 16)), (1, 1, (.t 17))], none⟩,
  ⟨(some 5), .alloc [(D.int .i64 (0)), (D.int .i64 (0)), .sn], none⟩,
  ⟨none, .store 3 (.t 5) (.t 18), none⟩])
 (.seq (.seq (.reg [⟨(some 6), .mv (.k (D.int .i64 (0))), none⟩])
 (.block 0 (.loop [(3, ⟨false, 0, false⟩), (4, ⟨false, 0, false⟩), (6, ⟨false, 0, false⟩), (1, ⟨true, 0, false⟩), (2, ⟨true, 0, false⟩), (5, ⟨true, 0, false⟩)]
 (.seq (.seq (.reg [⟨(some 19), .mv (.t 6), none⟩,
  ⟨(some 20), .mv (.t 3), none⟩,
  ⟨(some 21), .mv (.t 4), none⟩,
  ⟨(some 22), .bin .mul (.t 20) (.t 21), none⟩,
  ⟨(some 23), .bin .lss (.t 19) (.t 22), none⟩])
 (.cond (.t 23)
 .skip
 (.exit 0)))
 (.seq (.block 1 (.seq (.reg [⟨(some 26), .fad 2 (.t 1), none⟩,
  ⟨(some 27), .load false 1 (.t 26), none⟩,
  ⟨(some 28), .mv (.t 6), none⟩,
  ⟨(some 29), .call false 181 [(.t 27), (.t 28)], none⟩,
  ⟨(some 7), .mv (.t 29), none⟩])
 (.seq (.reg [⟨(some 30), .fad 3 (.t 1), none⟩,
  ⟨(some 31), .load false 1 (.t 30), none⟩,
  ⟨(some 32), .mv (.t 6), none⟩,
  ⟨(some 33), .bin .quo (.t 32) (.k (D.int .i64 (3))), none⟩,
  ⟨(some 34), .call false 181 [(.t 31), (.t 33)], none⟩,
  ⟨(some 8), .mv (.t 34), none⟩])
 (.seq (.reg [⟨(some 35), .mv (.t 8), none⟩,
  ⟨(some 36), .mv (.t 8), none⟩,
  ⟨(some 37), .bin .quo (.t 36) (.k (D.int .i64 (16))), none⟩,
  ⟨(some 38), .mv (.t 8), none⟩,
  ⟨(some 39), .bin .quo (.t 38) (.k (D.int .i64 (64))), none⟩,
  ⟨(some 40), .build [(D.int .i64 (0)), (D.int .i64 (0)), (D.int .i64 (0))] [(0, 1, (.t 35)), (1, 1, (.t 37)), (2, 1, (.t 39))], none⟩,
  ⟨(some 41), .call false 65 [(.t 40)], none⟩,
  ⟨(some 9), .alloc [(D.int .i64 (0)), (D.int .i64 (0)), (D.int .i64 (0))], none⟩,
  ⟨none, .store 3 (.t 9) (.t 41), none⟩])
 (.seq (.seq (.reg [⟨(some 42), .mv (.t 7), none⟩,
  ⟨(some 43), .bin .rem (.t 42) (.k (D.int .i64 (5))), none⟩,
  ⟨(some 44), .bin .eql (.t 43) (.k (D.int .i64 (4))), none⟩,
  ⟨(some 45), .mv (.t 44), none⟩,
  ⟨(some 46), .mv (.t 6), (some (45, true))⟩,
  ⟨(some 47), .bin .add (.t 46) (.k (D.int .i64 (1))), (some (45, true))⟩,
  ⟨(some 48), .mv (.t 4), (some (45, true))⟩,
  ⟨(some 49), .bin .rem (.t 47) (.t 48), (some (45, true))⟩,
  ⟨(some 50), .bin .neq (.t 49) (.k (D.int .i64 (0))), (some (45, true))⟩,
  ⟨(some 51), .pick (.t 45) (.t 50) (.k (D.bool false)), none⟩])
 (.cond (.t 51)
 (.seq (.reg [⟨(some 52), .fad 2 (.t 5), none⟩,
  ⟨(some 53), .load false 1 (.t 52), none⟩,
  ⟨(some 54), .mv (.t 7), none⟩,
  ⟨(some 55), .bin .rem (.t 54) (.k (D.int .i64 (9))), none⟩,
  ⟨(some 56), .bin .add (.k (D.int .i64 (19968))) (.t 55), none⟩,
  ⟨(some 57), .cvi .i32 (.t 56), none⟩,
  ⟨(some 58), .load true 3 (.t 9), none⟩,
  ⟨(some 59), .build [(D.int .i32 (0)), (D.int .i64 (0)), (D.int .i64 (0)), (D.int .i64 (0)), (D.int .i64 (0))] [(0, 1, (.t 57)), (1, 1, (.k (D.int .i64 (1)))), (2, 3, (.t 58))], none⟩,
  ⟨(some 60), .load true 3 (.t 9), none⟩,
  ⟨(some 61), .build [(D.int .i32 (0)), (D.int .i64 (0)), (D.int .i64 (0)), (D.int .i64 (0)), (D.int .i64 (0))] [(1, 1, (.k (D.int .i64 (2)))), (2, 3, (.t 60))], none⟩,
  ⟨(some 62), .bsl false 5 2 [(D.int .i32 (0)), (D.int .i64 (0)), (D.int .i64 (0)), (D.int .i64 (0)), (D.int .i64 (0))] [(0, (.t 59)), (1, (.t 61))], none⟩,
  ⟨(some 63), .append 5 40 (.t 53) (.t 62), none⟩,
  ⟨(some 64), .fad 2 (.t 5), none⟩,
  ⟨none, .store 1 (.t 64) (.t 63), none⟩])
 (.seq (.reg [⟨(some 65), .mv (.t 6), none⟩,
  ⟨(some 66), .bin .add (.t 65) (.k (D.int .i64 (1))), none⟩,
  ⟨(some 6), .mv (.t 66), none⟩])
 (.exit 1)))
 .skip))
 (.dreg [([], false, ⟨(some 67), .fad 2 (.t 5), none⟩),
  ([], false, ⟨(some 68), .load false 1 (.t 67), none⟩),
  ([0, 1], false, ⟨(some 69), .mv (.t 7), none⟩),
  ([0, 1], false, ⟨(some 70), .call true 174 [(.t 69), (.k (D.int .i64 (0))), (.k (D.int .i64 (9)))], none⟩),
  ([0, 1], false, ⟨(some 71), .bin .add (.k (D.int .i64 (97))) (.t 70), none⟩),
  ([0, 1], false, ⟨(some 72), .cvi .i32 (.t 71), none⟩),
  ([0, 1, 2, 3, 4, 5], false, ⟨(some 73), .load true 3 (.t 9), none⟩),
  ([0, 1], false, ⟨(some 74), .build [(D.int .i32 (0)), (D.int .i64 (0)), (D.int .i64 (0)), (D.int .i64 (0)), (D.int .i64 (0))] [(0, 1, (.t 72)), (2, 3, (.t 73))], none⟩),
  ([0, 1], false, ⟨(some 75), .bsl false 5 1 [(D.int .i32 (0)), (D.int .i64 (0)), (D.int .i64 (0)), (D.int .i64 (0)), (D.int .i64 (0))] [(0, (.t 74))], none⟩),
  ([], true, ⟨(some 76), .append 5 40 (.t 68) (.t 75), none⟩),
  ([], true, ⟨(some 77), .fad 2 (.t 5), none⟩),
  ([], true, ⟨none, .store 1 (.t 77) (.t 76), none⟩)]))))))
 (.reg [⟨(some 24), .mv (.t 6), none⟩,
  ⟨(some 25), .bin .add (.t 24) (.k (D.int .i64 (1))), none⟩,
  ⟨(some 6), .mv (.t 25), none⟩]))))))
 (.seq (.reg [⟨(some 78), .load true 3 (.t 5), none⟩,
  ⟨none, .store 3 (.t 2) (.t 78), none⟩])
 .ret)))))⟩
def a66 : Ann := ⟨[], [⟨false, 0, false⟩], []⟩
def s66 : SFun := ⟨1, 122, [], [(.cell 2 true 29, ⟨false, 0, false⟩)],
 (.seq (.reg [⟨(some 1), .box 13 (.t 0), none⟩,
  ⟨(some 2), .alloc [(D.int .i64 (0)), (D.int .i64 (0)), .sn, (D.int .i64 (0)), (D.int .i64 (0)), (D.bool false), (D.int .i64 (0)), (D.int .i64 (0)), (D.int .i64 (0)), (D.int .i64 (0)), (D.int .i64 (0)), (D.int .u64 (0)), (D.int .u8 (0)), (D.int .u8 (0)), (D.int .i64 (0)), (D.bool false), (D.bool false), (D.bool false), (D.bool false), (D.bool false), (D.int .i64 (0)), (D.int .i64 (0)), (D.int .i64 (0)), (D.int .i64 (0)), (D.int .i64 (0)), (D.int .u8 (0)), (D.int .u8 (0)), (D.int .i64 (0)), (D.bool false)], none⟩])
 (.seq (.reg [⟨(some 6), .fad 0 (.t 1), none⟩,
  ⟨(some 7), .load true 4 (.t 6), none⟩,
  ⟨(some 8), .call false 64 [(.t 7)], none⟩,
  ⟨(some 3), .alloc [(D.int .i64 (0)), (D.int .i64 (0)), .sn], none⟩,
  ⟨none, .store 3 (.t 3) (.t 8), none⟩])
 (.seq (.dreg [([], false, ⟨(some 9), .load true 3 (.t 3), none⟩),
  ([0], false, ⟨(some 10), .fad 4 (.t 1), none⟩),
  ([0], false, ⟨(some 11), .load false 1 (.t 10), none⟩),
  ([0, 1, 2], false, ⟨(some 12), .fad 0 (.t 3), none⟩),
  ([0, 1, 2], false, ⟨(some 13), .load false 1 (.t 12), none⟩),
  ([0, 1, 2], false, ⟨(some 14), .bin .sub (.t 13) (.k (D.int .i64 (1))), none⟩),
  ([0], false, ⟨(some 15), .callr 174 [(.t 11), (.k (D.int .i64 (0))), (.t 14)], none⟩),
  ([0, 1, 2, 3, 4, 5, 6], false, ⟨(some 16), .fad 5 (.t 1), none⟩),
  ([0, 1, 2, 3, 4, 5, 6], false, ⟨(some 17), .load false 1 (.t 16), none⟩),
  ([0, 1, 2, 3, 4, 5, 6, 7, 8], false, ⟨(some 18), .fad 1 (.t 3), none⟩),
  ([0, 1, 2, 3, 4, 5, 6, 7, 8], false, ⟨(some 19), .load false 1 (.t 18), none⟩),
  ([0, 1, 2, 3, 4, 5, 6, 7, 8], false, ⟨(some 20), .bin .sub (.t 19) (.k (D.int .i64 (1))), none⟩),
  ([0], false, ⟨(some 21), .callr 174 [(.t 17), (.k (D.int .i64 (0))), (.t 20)], none⟩),
  ([0, 1, 2, 3, 4, 5, 6, 7, 8, 9, 10, 11, 12], false, ⟨(some 22), .fad 0 (.t 3), none⟩),
  ([0, 1, 2, 3, 4, 5, 6, 7, 8, 9, 10, 11, 12], false, ⟨(some 23), .load false 1 (.t 22), none⟩),
  ([0, 1, 2, 3, 4, 5, 6, 7, 8, 9, 10, 11, 12], false, ⟨(some 24), .bin .sub (.t 23) (.k (D.int .i64 (1))), none⟩),
  ([0, 1, 2, 3, 4, 5, 6, 7, 8, 9, 10, 11, 12, 13, 14, 15], false, ⟨(some 25), .fad 9 (.t 1), none⟩),
  ([0, 1, 2, 3, 4, 5, 6, 7, 8, 9, 10, 11, 12, 13, 14, 15], false, ⟨(some 26), .load true 3 (.t 25), none⟩),
  ([0, 13, 14, 15], false, ⟨(some 27), .callr 65 [(.t 26)], none⟩),
  ([0, 1, 2, 3, 4, 5, 6, 7, 8, 9, 10, 11, 12, 13, 14, 15, 16, 17, 18], false, ⟨(some 28), .fad 12 (.t 1), none⟩),
  ([0, 1, 2, 3, 4, 5, 6, 7, 8, 9, 10, 11, 12, 13, 14, 15, 16, 17, 18], false, ⟨(some 29), .load false 1 (.t 28), none⟩),
  ([0, 1, 2, 3, 4, 5, 6, 7, 8, 9, 10, 11, 12, 13, 14, 15, 16, 17, 18, 19, 20], false, ⟨(some 30), .build [(D.int .u8 (0)), (D.int .u8 (0))] [(0, 1, (.k (D.int .u8 (66)))), (1, 1, (.k (D.int .u8 (66))))], none⟩),
  ([], false, ⟨(some 31), .build [(D.int .i64 (0)), (D.int .i64 (0)), .sn, (D.int .i64 (0)), (D.int .i64 (0)), (D.bool false), (D.int .i64 (0)), (D.int .i64 (0)), (D.int .i64 (0)), (D.int .i64 (0)), (D.int .i64 (0)), (D.int .u64 (0)), (D.int .u8 (0)), (D.int .u8 (0)), (D.int .i64 (0)), (D.bool false), (D.bool false), (D.bool false), (D.bool false), (D.bool false), (D.int .i64 (0)), (D.int .i64 (0)), (D.int .i64 (0)), (D.int .i64 (0)), (D.int .i64 (0)), (D.int .u8 (0)), (D.int .u8 (0)), (D.int .i64 (0)), (D.bool false)] [(0, 3, (.t 9)), (3, 1, (.t 15)), (4, 1, (.t 21)), (7, 1, (.t 24)), (8, 3, (.t 27)), (11, 1, (.t 29)), (12, 2, (.t 30))], none⟩),
  ([0, 1, 2, 3, 4, 5, 6, 7, 8, 9, 10, 11, 12, 13, 14, 15, 16, 17, 18, 19, 20, 21, 22], false, ⟨(some 4), .alloc [(D.int .i64 (0)), (D.int .i64 (0)), .sn, (D.int .i64 (0)), (D.int .i64 (0)), (D.bool false), (D.int .i64 (0)), (D.int .i64 (0)), (D.int .i64 (0)), (D.int .i64 (0)), (D.int .i64 (0)), (D.int .u64 (0)), (D.int .u8 (0)), (D.int .u8 (0)), (D.int .i64 (0)), (D.bool false), (D.bool false), (D.bool false), (D.bool false), (D.bool false), (D.int .i64 (0)), (D.int .i64 (0)), (D.int .i64 (0)), (D.int .i64 (0)), (D.int .i64 (0)), (D.int .u8 (0)), (D.int .u8 (0)), (D.int .i64 (0)), (D.bool false)], none⟩),
  ([], true, ⟨none, .store 29 (.t 4) (.t 31), none⟩)])
 (.seq (.seq (.reg [⟨(some 32), .fad 0 (.t 3), none⟩,
  ⟨(some 33), .load false 1 (.t 32), none⟩,
  ⟨(some 34), .bin .gtr (.t 33) (.k (D.int .i64 (1))), none⟩])
 (.cond (.t 34)
 (.seq (.reg [⟨(some 35), .fad 6 (.t 1), none⟩,
  ⟨(some 36), .load false 1 (.t 35), none⟩,
  ⟨(some 37), .fad 0 (.t 3), none⟩,
  ⟨(some 38), .load false 1 (.t 37), none⟩,
  ⟨(some 39), .bin .sub (.t 38) (.k (D.int .i64 (2))), none⟩,
  ⟨(some 40), .call false 174 [(.t 36), (.k (D.int .i64 (0))), (.t 39)], none⟩,
  ⟨(some 41), .fad 6 (.t 4), none⟩,
  ⟨none, .store 1 (.t 41) (.t 40), none⟩])
 (.reg [⟨(some 42), .fad 7 (.t 1), none⟩,
  ⟨(some 43), .load false 1 (.t 42), none⟩,
  ⟨(some 44), .fad 6 (.t 4), none⟩,
  ⟨(some 45), .load false 1 (.t 44), none⟩,
  ⟨(some 46), .bin .add (.t 45) (.k (D.int .i64 (1))), none⟩,
  ⟨(some 47), .fad 0 (.t 3), none⟩,
  ⟨(some 48), .load false 1 (.t 47), none⟩,
  ⟨(some 49), .bin .sub (.t 48) (.k (D.int .i64 (1))), none⟩,
  ⟨(some 50), .call false 174 [(.t 43), (.t 46), (.t 49)], none⟩,
  ⟨(some 51), .fad 7 (.t 4), none⟩,
  ⟨none, .store 1 (.t 51) (.t 50), none⟩]))
 .skip))
 (.seq (.reg [⟨(some 52), .fad 8 (.t 1), none⟩,
  ⟨(some 53), .load false 1 (.t 52), none⟩,
  ⟨(some 5), .mv (.t 53), none⟩])
 (.seq (.reg [⟨(some 54), .mv (.t 5), none⟩,
  ⟨(some 55), .bin .and (.t 54) (.k (D.int .i64 (1))), none⟩,
  ⟨(some 56), .bin .eql (.t 55) (.k (D.int .i64 (0))), none⟩,
  ⟨(some 57), .mv (.t 5), none⟩,
  ⟨(some 58), .bin .and (.t 57) (.k (D.int .i64 (2))), none⟩,
  ⟨(some 59), .bin .eql (.t 58) (.k (D.int .i64 (2))), none⟩,
  ⟨(some 60), .mv (.t 5), none⟩,
  ⟨(some 61), .bin .and (.t 60) (.k (D.int .i64 (4))), none⟩,
  ⟨(some 62), .bin .eql (.t 61) (.k (D.int .i64 (0))), none⟩,
  ⟨(some 63), .mv (.t 5), none⟩,
  ⟨(some 64), .bin .and (.t 63) (.k (D.int .i64 (8))), none⟩,
  ⟨(some 65), .bin .eql (.t 64) (.k (D.int .i64 (8))), none⟩,
  ⟨(some 66), .mv (.t 5), none⟩,
  ⟨(some 67), .bin .and (.t 66) (.k (D.int .i64 (16))), none⟩,
  ⟨(some 68), .bin .eql (.t 67) (.k (D.int .i64 (16))), none⟩,
  ⟨(some 69), .fad 15 (.t 4), none⟩,
  ⟨none, .store 1 (.t 69) (.t 56), none⟩,
  ⟨(some 70), .fad 16 (.t 4), none⟩,
  ⟨none, .store 1 (.t 70) (.t 59), none⟩,
  ⟨(some 71), .fad 17 (.t 4), none⟩,
  ⟨none, .store 1 (.t 71) (.t 62), none⟩,
  ⟨(some 72), .fad 18 (.t 4), none⟩,
  ⟨none, .store 1 (.t 72) (.t 65), none⟩,
  ⟨(some 73), .fad 19 (.t 4), none⟩,
  ⟨none, .store 1 (.t 73) (.t 68), none⟩])
 (.seq (.reg [⟨(some 74), .fad 15 (.t 4), none⟩,
  ⟨(some 75), .load false 1 (.t 74), none⟩,
  ⟨(some 76), .mv (.t 75), none⟩,
  ⟨(some 77), .fad 4 (.t 4), (some (76, true))⟩,
  ⟨(some 78), .load false 1 (.t 77), (some (76, true))⟩,
  ⟨(some 79), .fad 1 (.t 3), (some (76, true))⟩,
  ⟨(some 80), .load false 1 (.t 79), (some (76, true))⟩,
  ⟨(some 81), .bin .sub (.t 80) (.k (D.int .i64 (1))), (some (76, true))⟩,
  ⟨(some 82), .bin .eql (.t 78) (.t 81), (some (76, true))⟩,
  ⟨(some 83), .pick (.t 76) (.t 82) (.k (D.bool false)), none⟩,
  ⟨(some 84), .mv (.t 83), none⟩,
  ⟨(some 85), .mv (.t 5), (some (84, true))⟩,
  ⟨(some 86), .bin .and (.t 85) (.k (D.int .i64 (32))), (some (84, true))⟩,
  ⟨(some 87), .bin .eql (.t 86) (.k (D.int .i64 (32))), (some (84, true))⟩,
  ⟨(some 88), .pick (.t 84) (.t 87) (.k (D.bool false)), none⟩,
  ⟨(some 89), .fad 5 (.t 4), none⟩,
  ⟨none, .store 1 (.t 89) (.t 88), none⟩])
 (.seq (.seq (.reg [⟨(some 90), .mv (.t 5), none⟩,
  ⟨(some 91), .bin .and (.t 90) (.k (D.int .i64 (64))), none⟩,
  ⟨(some 92), .bin .eql (.t 91) (.k (D.int .i64 (64))), none⟩])
 (.cond (.t 92)
 (.reg [⟨(some 93), .fad 12 (.t 4), none⟩,
  ⟨(some 94), .ixa 2 1 (.t 93) (.k (D.int .i64 (0))), none⟩,
  ⟨none, .store 1 (.t 94) (.k (D.int .u8 (48))), none⟩])
 .skip))
 (.seq (.seq (.reg [⟨(some 95), .mv (.t 5), none⟩,
  ⟨(some 96), .bin .and (.t 95) (.k (D.int .i64 (128))), none⟩,
  ⟨(some 97), .bin .eql (.t 96) (.k (D.int .i64 (128))), none⟩])
 (.cond (.t 97)
 (.reg [⟨(some 98), .fad 14 (.t 4), none⟩,
  ⟨none, .store 1 (.t 98) (.k (D.int .i64 (1))), none⟩])
 .skip))
 (.seq (.dreg [([], false, ⟨(some 99), .fad 5 (.t 1), none⟩),
  ([], false, ⟨(some 100), .load false 1 (.t 99), none⟩),
  ([0, 1], false, ⟨(some 101), .fad 0 (.t 3), none⟩),
  ([0, 1], false, ⟨(some 102), .load false 1 (.t 101), none⟩),
  ([0, 1], false, ⟨(some 103), .bin .sub (.t 102) (.k (D.int .i64 (1))), none⟩),
  ([], false, ⟨(some 104), .callr 174 [(.t 100), (.k (D.int .i64 (0))), (.t 103)], none⟩),
  ([0, 1, 2, 3, 4, 5], false, ⟨(some 105), .fad 4 (.t 1), none⟩),
  ([0, 1, 2, 3, 4, 5], false, ⟨(some 106), .load false 1 (.t 105), none⟩),
  ([0, 1, 2, 3, 4, 5, 6, 7], false, ⟨(some 107), .fad 1 (.t 3), none⟩),
  ([0, 1, 2, 3, 4, 5, 6, 7], false, ⟨(some 108), .load false 1 (.t 107), none⟩),
  ([0, 1, 2, 3, 4, 5, 6, 7], false, ⟨(some 109), .bin .sub (.t 108) (.k (D.int .i64 (1))), none⟩),
  ([], false, ⟨(some 110), .callr 174 [(.t 106), (.k (D.int .i64 (0))), (.t 109)], none⟩),
  ([0, 1, 2, 3, 4, 5, 6, 7, 8, 9, 10, 11], false, ⟨(some 111), .fad 8 (.t 1), none⟩),
  ([0, 1, 2, 3, 4, 5, 6, 7, 8, 9, 10, 11], false, ⟨(some 112), .load false 1 (.t 111), none⟩),
  ([0, 1, 2, 3, 4, 5, 6, 7, 8, 9, 10, 11], false, ⟨(some 113), .build [(D.int .i64 (0)), (D.int .i64 (0)), (D.int .i64 (0))] [(0, 1, (.t 112))], none⟩),
  ([], false, ⟨(some 114), .callr 65 [(.t 113)], none⟩),
  ([0, 1, 2, 3, 4, 5, 6, 7, 8, 9, 10, 11, 12, 13, 14, 15], false, ⟨(some 115), .build [(D.int .u8 (0)), (D.int .u8 (0))] [(0, 1, (.k (D.int .u8 (66)))), (1, 1, (.k (D.int .u8 (48))))], none⟩),
  ([0, 1, 2, 3, 4, 5, 6, 7, 8, 9, 10, 11, 12, 13, 14, 15, 16], false, ⟨(some 116), .mv (.t 5), none⟩),
  ([0, 1, 2, 3, 4, 5, 6, 7, 8, 9, 10, 11, 12, 13, 14, 15, 16], false, ⟨(some 117), .bin .and (.t 116) (.k (D.int .i64 (256))), none⟩),
  ([0, 1, 2, 3, 4, 5, 6, 7, 8, 9, 10, 11, 12, 13, 14, 15, 16], false, ⟨(some 118), .bin .eql (.t 117) (.k (D.int .i64 (256))), none⟩),
  ([], true, ⟨(some 119), .build [(D.int .i64 (0)), (D.int .i64 (0)), (D.int .i64 (0)), (D.int .i64 (0)), (D.int .i64 (0)), (D.int .u8 (0)), (D.int .u8 (0)), (D.int .i64 (0)), (D.bool false)] [(0, 1, (.t 104)), (1, 1, (.t 110)), (2, 3, (.t 114)), (5, 2, (.t 115)), (8, 1, (.t 118))], none⟩),
  ([], true, ⟨(some 120), .fad 20 (.t 4), none⟩),
  ([], true, ⟨none, .store 9 (.t 120) (.t 119), none⟩)])
 (.seq (.reg [⟨(some 121), .load true 29 (.t 4), none⟩,
  ⟨none, .store 29 (.t 2) (.t 121), none⟩])
 .ret)))))))))))⟩
def a63 : Ann := ⟨[(15, [(6, ⟨false, 0, false⟩), (1, ⟨true, 0, false⟩), (2, ⟨true, 0, false⟩), (5, ⟨true, 1, false⟩)]), (21, [(8, ⟨false, 0, false⟩), (1, ⟨true, 0, false⟩), (2, ⟨true, 0, false⟩), (7, ⟨true, 0, false⟩)])], [⟨false, 0, false⟩], []⟩
def s63 : SFun := ⟨1, 140, [], [(.cell 2 true 7, ⟨false, 0, false⟩)],
 (.seq (.reg [⟨(some 1), .box 5 (.t 0), none⟩,
  ⟨(some 2), .alloc [(D.int .i64 (0)), (D.int .i32 (0)), (D.int .u8 (0)), (D.int .u8 (0)), (D.int .u8 (0)), .sn, (D.str [])], none⟩])
 (.seq (.reg [⟨(some 9), .fad 2 (.t 1), none⟩,
  ⟨(some 10), .load false 1 (.t 9), none⟩,
  ⟨(some 3), .mv (.t 10), none⟩])
 (.seq (.seq (.reg [⟨(some 11), .fad 0 (.t 1), none⟩,
  ⟨(some 12), .load false 1 (.t 11), none⟩,
  ⟨(some 13), .call false 174 [(.t 12), (.k (D.int .i64 (0))), (.k (D.int .i64 (5)))], none⟩])
 (.block 0 (.seq (.reg [⟨(some 15), .bin .eql (.t 13) (.k (D.int .i64 (0))), none⟩,
  ⟨(some 14), .mv (.t 15), none⟩])
 (.cond (.t 14)
 (.seq (.reg [⟨(some 16), .fad 1 (.t 1), none⟩,
  ⟨(some 17), .load false 1 (.t 16), none⟩,
  ⟨(some 18), .call false 174 [(.t 17), (.k (D.int .i64 (0))), (.k (D.int .i64 (94)))], none⟩,
  ⟨(some 4), .mv (.t 18), none⟩])
 (.seq (.seq (.reg [⟨(some 19), .fad 1 (.t 1), none⟩,
  ⟨(some 20), .load false 1 (.t 19), none⟩,
  ⟨(some 21), .bin .rem (.t 20) (.k (D.int .i64 (7))), none⟩,
  ⟨(some 22), .bin .eql (.t 21) (.k (D.int .i64 (3))), none⟩])
 (.cond (.t 22)
 (.seq (.reg [⟨(some 23), .bsl false 1 6 [(D.int .i32 (0))] [(0, (.k (D.int .i32 (228)))), (1, (.k (D.int .i32 (9472)))), (2, (.k (D.int .i32 (19968)))), (3, (.k (D.int .i32 (769)))), (4, (.k (D.int .i32 (128512)))), (5, (.k (D.int .i32 (128))))], none⟩,
  ⟨(some 24), .fad 2 (.t 1), none⟩,
  ⟨(some 25), .load false 1 (.t 24), none⟩,
  ⟨(some 26), .call false 174 [(.t 25), (.k (D.int .i64 (0))), (.k (D.int .i64 (5)))], none⟩,
  ⟨(some 27), .ixs 1 (.t 23) (.t 26), none⟩,
  ⟨(some 28), .load false 1 (.t 27), none⟩,
  ⟨(some 29), .build [(D.int .i64 (0)), (D.int .i32 (0)), (D.int .u8 (0)), (D.int .u8 (0)), (D.int .u8 (0)), .sn, (D.str [])] [(0, 1, (.k (D.int .i64 (1)))), (1, 1, (.t 28))], none⟩,
  ⟨none, .store 7 (.t 2) (.t 29), none⟩])
 .ret)
 .skip))
 (.seq (.reg [⟨(some 30), .mv (.t 4), none⟩,
  ⟨(some 31), .bin .add (.k (D.int .i64 (32))) (.t 30), none⟩,
  ⟨(some 32), .cvi .i32 (.t 31), none⟩,
  ⟨(some 33), .build [(D.int .i64 (0)), (D.int .i32 (0)), (D.int .u8 (0)), (D.int .u8 (0)), (D.int .u8 (0)), .sn, (D.str [])] [(0, 1, (.k (D.int .i64 (1)))), (1, 1, (.t 32))], none⟩,
  ⟨none, .store 7 (.t 2) (.t 33), none⟩])
 .ret)))
 (.seq (.reg [⟨(some 35), .bin .eql (.t 13) (.k (D.int .i64 (1))), none⟩,
  ⟨(some 34), .mv (.t 35), none⟩])
 (.cond (.t 34)
 (.seq (.reg [⟨(some 36), .bsl false 1 9 [(D.int .u8 (0))] [(0, (.k (D.int .u8 (7)))), (1, (.k (D.int .u8 (8)))), (2, (.k (D.int .u8 (9)))), (3, (.k (D.int .u8 (10)))), (4, (.k (D.int .u8 (13)))), (5, (.k (D.int .u8 (14)))), (6, (.k (D.int .u8 (15)))), (7, (.k (D.int .u8 (0)))), (8, (.k (D.int .u8 (11))))], none⟩,
  ⟨(some 37), .mv (.t 3), none⟩,
  ⟨(some 38), .call false 174 [(.t 37), (.k (D.int .i64 (0))), (.k (D.int .i64 (8)))], none⟩,
  ⟨(some 39), .ixs 1 (.t 36) (.t 38), none⟩,
  ⟨(some 40), .load false 1 (.t 39), none⟩,
  ⟨(some 41), .build [(D.int .i64 (0)), (D.int .i32 (0)), (D.int .u8 (0)), (D.int .u8 (0)), (D.int .u8 (0)), .sn, (D.str [])] [(0, 1, (.k (D.int .i64 (2)))), (4, 1, (.t 40))], none⟩,
  ⟨none, .store 7 (.t 2) (.t 41), none⟩])
 .ret)
 (.seq (.reg [⟨(some 43), .bin .eql (.t 13) (.k (D.int .i64 (2))), none⟩,
  ⟨(some 42), .mv (.t 43), none⟩])
 (.cond (.t 42)
 (.seq (.reg [⟨(some 44), .build [(D.int .i64 (0)), (D.int .i32 (0)), (D.int .u8 (0)), (D.int .u8 (0)), (D.int .u8 (0)), .sn, (D.str [])] [(0, 1, (.k (D.int .i64 (3)))), (4, 1, (.k (D.int .u8 (77))))], none⟩,
  ⟨(some 45), .build [(D.int .i64 (0)), (D.int .i32 (0)), (D.int .u8 (0)), (D.int .u8 (0)), (D.int .u8 (0)), .sn, (D.str [])] [(0, 1, (.k (D.int .i64 (3)))), (3, 1, (.k (D.int .u8 (40)))), (4, 1, (.k (D.int .u8 (48))))], none⟩,
  ⟨(some 46), .build [(D.int .i64 (0)), (D.int .i32 (0)), (D.int .u8 (0)), (D.int .u8 (0)), (D.int .u8 (0)), .sn, (D.str [])] [(0, 1, (.k (D.int .i64 (3)))), (3, 1, (.k (D.int .u8 (40)))), (4, 1, (.k (D.int .u8 (66))))], none⟩,
  ⟨(some 47), .build [(D.int .i64 (0)), (D.int .i32 (0)), (D.int .u8 (0)), (D.int .u8 (0)), (D.int .u8 (0)), .sn, (D.str [])] [(0, 1, (.k (D.int .i64 (3)))), (4, 1, (.k (D.int .u8 (55))))], none⟩,
  ⟨(some 48), .build [(D.int .i64 (0)), (D.int .i32 (0)), (D.int .u8 (0)), (D.int .u8 (0)), (D.int .u8 (0)), .sn, (D.str [])] [(0, 1, (.k (D.int .i64 (3)))), (4, 1, (.k (D.int .u8 (56))))], none⟩,
  ⟨(some 49), .build [(D.int .i64 (0)), (D.int .i32 (0)), (D.int .u8 (0)), (D.int .u8 (0)), (D.int .u8 (0)), .sn, (D.str [])] [(0, 1, (.k (D.int .i64 (3)))), (4, 1, (.k (D.int .u8 (68))))], none⟩,
  ⟨(some 50), .build [(D.int .i64 (0)), (D.int .i32 (0)), (D.int .u8 (0)), (D.int .u8 (0)), (D.int .u8 (0)), .sn, (D.str [])] [(0, 1, (.k (D.int .i64 (3)))), (4, 1, (.k (D.int .u8 (69))))], none⟩,
  ⟨(some 51), .build [(D.int .i64 (0)), (D.int .i32 (0)), (D.int .u8 (0)), (D.int .u8 (0)), (D.int .u8 (0)), .sn, (D.str [])] [(0, 1, (.k (D.int .i64 (3)))), (4, 1, (.k (D.int .u8 (99))))], none⟩,
  ⟨(some 52), .build [(D.int .i64 (0)), (D.int .i32 (0)), (D.int .u8 (0)), (D.int .u8 (0)), (D.int .u8 (0)), .sn, (D.str [])] [(0, 1, (.k (D.int .i64 (3)))), (3, 1, (.k (D.int .u8 (35)))), (4, 1, (.k (D.int .u8 (56))))], none⟩,
  ⟨(some 53), .build [(D.int .i64 (0)), (D.int .i32 (0)), (D.int .u8 (0)), (D.int .u8 (0)), (D.int .u8 (0)), .sn, (D.str [])] [(0, 1, (.k (D.int .i64 (3)))), (4, 1, (.k (D.int .u8 (72))))], none⟩,
  ⟨(some 54), .bsl false 7 10 [(D.int .i64 (0)), (D.int .i32 (0)), (D.int .u8 (0)), (D.int .u8 (0)), (D.int .u8 (0)), .sn, (D.str [])] [(0, (.t 44)), (1, (.t 45)), (2, (.t 46)), (3, (.t 47)), (4, (.t 48)), (5, (.t 49)), (6, (.t 50)), (7, (.t 51)), (8, (.t 52)), (9, (.t 53))], none⟩,
  ⟨(some 55), .mv (.t 3), none⟩,
  ⟨(some 56), .call false 174 [(.t 55), (.k (D.int .i64 (0))), (.k (D.int .i64 (9)))], none⟩,
  ⟨(some 57), .ixs 7 (.t 54) (.t 56), none⟩,
  ⟨(some 58), .load true 7 (.t 57), none⟩,
  ⟨none, .store 7 (.t 2) (.t 58), none⟩])
 .ret)
 (.seq (.reg [⟨(some 60), .bin .eql (.t 13) (.k (D.int .i64 (3))), none⟩,
  ⟨(some 59), .mv (.t 60), none⟩])
 (.cond (.t 59)
 (.seq (.reg [⟨(some 5), .mv (.k .sn), none⟩])
 (.seq (.seq (.reg [⟨(some 6), .mv (.k (D.int .i64 (0))), none⟩])
 (.block 1 (.loop [(6, ⟨false, 0, false⟩), (1, ⟨true, 0, false⟩), (2, ⟨true, 0, false⟩), (5, ⟨true, 1, false⟩)]
 (.seq (.seq (.reg [⟨(some 61), .mv (.t 6), none⟩,
  ⟨(some 62), .fad 4 (.t 1), none⟩,
  ⟨(some 63), .load false 1 (.t 62), none⟩,
  ⟨(some 64), .len (.t 63), none⟩,
  ⟨(some 65), .bin .lss (.t 61) (.t 64), none⟩,
  ⟨(some 66), .mv (.t 65), none⟩,
  ⟨(some 67), .mv (.t 6), (some (66, true))⟩,
  ⟨(some 68), .bin .lss (.t 67) (.k (D.int .i64 (20))), (some (66, true))⟩,
  ⟨(some 69), .pick (.t 66) (.t 68) (.k (D.bool false)), none⟩])
 (.cond (.t 69)
 .skip
 (.exit 1)))
 (.seq (.block 2 (.reg [⟨(some 72), .mv (.t 5), none⟩,
  ⟨(some 73), .fad 4 (.t 1), none⟩,
  ⟨(some 74), .load false 1 (.t 73), none⟩,
  ⟨(some 75), .mv (.t 6), none⟩,
  ⟨(some 76), .ixs 1 (.t 74) (.t 75), none⟩,
  ⟨(some 77), .load false 1 (.t 76), none⟩,
  ⟨(some 78), .cvi .i64 (.t 77), none⟩,
  ⟨(some 79), .call false 174 [(.t 78), (.k (D.int .i64 (32))), (.k (D.int .i64 (255)))], none⟩,
  ⟨(some 80), .cvi .u8 (.t 79), none⟩,
  ⟨(some 81), .bsl false 1 1 [(D.int .u8 (0))] [(0, (.t 80))], none⟩,
  ⟨(some 82), .append 1 1 (.t 72) (.t 81), none⟩,
  ⟨(some 5), .mv (.t 82), none⟩]))
 (.reg [⟨(some 70), .mv (.t 6), none⟩,
  ⟨(some 71), .bin .add (.t 70) (.k (D.int .i64 (1))), none⟩,
  ⟨(some 6), .mv (.t 71), none⟩]))))))
 (.seq (.reg [⟨(some 83), .mv (.t 5), none⟩,
  ⟨(some 84), .b2s (.t 83), none⟩,
  ⟨(some 85), .build [(D.int .i64 (0)), (D.int .i32 (0)), (D.int .u8 (0)), (D.int .u8 (0)), (D.int .u8 (0)), .sn, (D.str [])] [(0, 1, (.k (D.int .i64 (5)))), (6, 1, (.t 84))], none⟩,
  ⟨none, .store 7 (.t 2) (.t 85), none⟩])
 .ret)))
 .skip))))))))))
 (.seq (.reg [⟨(some 86), .mv (.t 3), none⟩,
  ⟨(some 87), .call false 174 [(.t 86), (.k (D.int .i64 (0))), (.k (D.int .i64 (22)))], none⟩,
  ⟨(some 88), .ixt (.k (D.str [72, 65, 66, 67, 68, 71, 100, 74, 75, 76, 77, 80, 88, 64, 83, 84, 114, 109, 104, 108, 110, 99, 115])) (.t 87), none⟩,
  ⟨(some 89), .build [(D.int .i64 (0)), (D.int .i32 (0)), (D.int .u8 (0)), (D.int .u8 (0)), (D.int .u8 (0)), .sn, (D.str [])] [(0, 1, (.k (D.int .i64 (4)))), (4, 1, (.t 88))], none⟩,
  ⟨(some 7), .alloc [(D.int .i64 (0)), (D.int .i32 (0)), (D.int .u8 (0)), (D.int .u8 (0)), (D.int .u8 (0)), .sn, (D.str [])], none⟩,
  ⟨none, .store 7 (.t 7) (.t 89), none⟩])
 (.seq (.seq (.reg [⟨(some 8), .mv (.k (D.int .i64 (0))), none⟩])
 (.block 3 (.loop [(8, ⟨false, 0, false⟩), (1, ⟨true, 0, false⟩), (2, ⟨true, 0, false⟩), (7, ⟨true, 0, false⟩)]
 (.seq (.seq (.reg [⟨(some 90), .mv (.t 8), none⟩,
  ⟨(some 91), .fad 3 (.t 1), none⟩,
  ⟨(some 92), .load false 1 (.t 91), none⟩,
  ⟨(some 93), .len (.t 92), none⟩,
  ⟨(some 94), .bin .lss (.t 90) (.t 93), none⟩,
  ⟨(some 95), .mv (.t 94), none⟩,
  ⟨(some 96), .mv (.t 8), (some (95, true))⟩,
  ⟨(some 97), .bin .lss (.t 96) (.k (D.int .i64 (5))), (some (95, true))⟩,
  ⟨(some 98), .pick (.t 95) (.t 97) (.k (D.bool false)), none⟩])
 (.cond (.t 98)
 .skip
 (.exit 3)))
 (.seq (.block 4 (.dreg [([], false, ⟨(some 101), .fad 5 (.t 7), none⟩),
  ([], false, ⟨(some 102), .load false 1 (.t 101), none⟩),
  ([0, 1], false, ⟨(some 103), .fad 3 (.t 1), none⟩),
  ([0, 1], false, ⟨(some 104), .load false 1 (.t 103), none⟩),
  ([0, 1, 2, 3], false, ⟨(some 105), .mv (.t 8), none⟩),
  ([0, 1], false, ⟨(some 106), .ixs 1 (.t 104) (.t 105), none⟩),
  ([0, 1], false, ⟨(some 107), .load false 1 (.t 106), none⟩),
  ([0, 1], false, ⟨(some 108), .callr 174 [(.t 107), (.k (D.int .i64 (-1))), (.k (D.int .i64 (60)))], none⟩),
  ([0, 1], false, ⟨(some 109), .bsl false 1 1 [(D.int .i64 (0))] [(0, (.t 108))], none⟩),
  ([], true, ⟨(some 110), .append 1 8 (.t 102) (.t 109), none⟩),
  ([], true, ⟨(some 111), .fad 5 (.t 7), none⟩),
  ([], true, ⟨none, .store 1 (.t 111) (.t 110), none⟩)]))
 (.reg [⟨(some 99), .mv (.t 8), none⟩,
  ⟨(some 100), .bin .add (.t 99) (.k (D.int .i64 (1))), none⟩,
  ⟨(some 8), .mv (.t 100), none⟩]))))))
 (.seq (.seq (.reg [⟨(some 112), .fad 4 (.t 7), none⟩,
  ⟨(some 113), .load false 1 (.t 112), none⟩,
  ⟨(some 114), .bin .eql (.t 113) (.k (D.int .u8 (104))), none⟩,
  ⟨(some 115), .mv (.t 114), none⟩,
  ⟨(some 116), .fad 4 (.t 7), (some (115, false))⟩,
  ⟨(some 117), .load false 1 (.t 116), (some (115, false))⟩,
  ⟨(some 118), .bin .eql (.t 117) (.k (D.int .u8 (108))), (some (115, false))⟩,
  ⟨(some 119), .pick (.t 115) (.k (D.bool true)) (.t 118), none⟩,
  ⟨(some 120), .mv (.t 119), none⟩,
  ⟨(some 121), .fad 1 (.t 1), (some (120, false))⟩,
  ⟨(some 122), .load false 1 (.t 121), (some (120, false))⟩,
  ⟨(some 123), .bin .and (.t 122) (.k (D.int .i64 (7))), (some (120, false))⟩,
  ⟨(some 124), .bin .eql (.t 123) (.k (D.int .i64 (7))), (some (120, false))⟩,
  ⟨(some 125), .pick (.t 120) (.k (D.bool true)) (.t 124), none⟩])
 (.cond (.t 125)
 (.reg [⟨(some 126), .fad 2 (.t 7), none⟩,
  ⟨none, .store 1 (.t 126) (.k (D.int .u8 (63))), none⟩])
 .skip))
 (.seq (.seq (.reg [⟨(some 127), .fad 5 (.t 7), none⟩,
  ⟨(some 128), .load false 1 (.t 127), none⟩,
  ⟨(some 129), .len (.t 128), none⟩,
  ⟨(some 130), .bin .eql (.t 129) (.k (D.int .i64 (1))), none⟩,
  ⟨(some 131), .mv (.t 130), none⟩,
  ⟨(some 132), .fad 5 (.t 7), (some (131, true))⟩,
  ⟨(some 133), .load false 1 (.t 132), (some (131, true))⟩,
  ⟨(some 134), .ixs 1 (.t 133) (.k (D.int .i64 (0))), (some (131, true))⟩,
  ⟨(some 135), .load false 1 (.t 134), (some (131, true))⟩,
  ⟨(some 136), .bin .eql (.t 135) (.k (D.int .i64 (-1))), (some (131, true))⟩,
  ⟨(some 137), .pick (.t 131) (.t 136) (.k (D.bool false)), none⟩])
 (.cond (.t 137)
 (.reg [⟨(some 138), .fad 5 (.t 7), none⟩,
  ⟨none, .store 1 (.t 138) (.k .sn), none⟩])
 .skip))
 (.seq (.reg [⟨(some 139), .load true 7 (.t 7), none⟩,
  ⟨none, .store 7 (.t 2) (.t 139), none⟩])
 .ret))))))))⟩
def a457 : Ann := ⟨[(4, [(0, ⟨false, 0, false⟩), (1, ⟨false, 0, false⟩), (4, ⟨false, 0, false⟩), (12, ⟨false, 0, false⟩), (13, ⟨false, 0, false⟩)])], [⟨false, 0, false⟩], []⟩
def s457 : SFun := ⟨2, 26, [], [(.tmp 4, ⟨false, 0, false⟩)],
 (.seq (.reg [⟨(some 4), .mv (.k (D.bool false)), none⟩])
 (.seq (.seq (.reg [⟨(some 6), .mv (.t 0), none⟩,
  ⟨(some 7), .len (.t 6), none⟩,
  ⟨(some 8), .mv (.t 1), none⟩,
  ⟨(some 9), .len (.t 8), none⟩,
  ⟨(some 10), .bin .neq (.t 7) (.t 9), none⟩])
 (.cond (.t 10)
 (.seq (.reg [⟨(some 4), .mv (.k (D.bool false)), none⟩])
 .ret)
 .skip))
 (.seq (.seq (.reg [⟨(some 11), .mv (.t 0), none⟩,
  ⟨(some 12), .len (.t 11), none⟩,
  ⟨(some 13), .mv (.k (D.int .i64 (0))), none⟩])
 (.block 0 (.loop [(0, ⟨false, 0, false⟩), (1, ⟨false, 0, false⟩), (4, ⟨false, 0, false⟩), (12, ⟨false, 0, false⟩), (13, ⟨false, 0, false⟩)]
 (.seq (.reg [⟨(some 14), .bin .lss (.t 13) (.t 12), none⟩])
 (.seq (.cond (.t 14)
 .skip
 (.exit 0))
 (.seq (.block 1 (.seq (.reg [⟨(some 15), .mv (.t 13), none⟩,
  ⟨(some 5), .mv (.t 15), none⟩])
 (.seq (.dreg [([], false, ⟨(some 16), .mv (.t 0), none⟩),
  ([0], false, ⟨(some 17), .mv (.t 5), none⟩),
  ([], false, ⟨(some 18), .ixs 1 (.t 16) (.t 17), none⟩),
  ([], false, ⟨(some 19), .load false 1 (.t 18), none⟩),
  ([0, 1, 2, 3], false, ⟨(some 20), .mv (.t 1), none⟩),
  ([0, 1, 2, 3, 4], false, ⟨(some 21), .mv (.t 5), none⟩),
  ([0, 1, 2, 3], false, ⟨(some 22), .ixs 1 (.t 20) (.t 21), none⟩),
  ([0, 1, 2, 3], false, ⟨(some 23), .load false 1 (.t 22), none⟩),
  ([], true, ⟨(some 24), .bin .neq (.t 19) (.t 23), none⟩)])
 (.cond (.t 24)
 (.seq (.reg [⟨(some 4), .mv (.k (D.bool false)), none⟩])
 .ret)
 .skip))))
 (.reg [⟨(some 25), .bin .add (.t 13) (.k (D.int .i64 (1))), none⟩,
  ⟨(some 13), .mv (.t 25), none⟩])))))))
 (.seq (.reg [⟨(some 4), .mv (.k (D.bool true)), none⟩])
 .ret))))⟩
def a450 : Ann := ⟨[], [⟨true, 1, false⟩], []⟩
def n450 : NFun := ⟨1, 8, [], [(.tmp 2, ⟨true, 1, false⟩)],
 (.reg [⟨(some 2), .mv (.k .sn), none⟩]), ⟨(some 3), .mv (.t 0), none⟩, 4, (.t 3), (.cond (.t 4)
 (.seq (.reg [⟨(some 2), .mv (.k .sn), none⟩])
 .ret)
 .skip), (.seq (.reg [⟨(some 5), .bsl true 1 0 [(D.int .i64 (0))] [], none⟩,
  ⟨(some 6), .mv (.t 0), none⟩,
  ⟨(some 7), .append 1 8 (.t 5) (.t 6), none⟩,
  ⟨(some 2), .mv (.t 7), none⟩])
 .ret)⟩
def a382 : Ann := ⟨[], [⟨false, 0, false⟩], []⟩
def s382 : SFun := ⟨2, 16, [], [(.cell 4 true 7, ⟨false, 0, false⟩)],
 (.seq (.reg [⟨(some 4), .alloc [(D.int .i64 (0)), (D.int .i32 (0)), (D.int .u8 (0)), (D.int .u8 (0)), (D.int .u8 (0)), .sn, (D.str [])], none⟩])
 (.seq (.reg [⟨(some 6), .mv (.t 0), none⟩,
  ⟨(some 7), .build [(D.int .i64 (0)), (D.int .i32 (0)), (D.int .u8 (0)), (D.int .u8 (0)), (D.int .u8 (0)), .sn, (D.str [])] [(0, 1, (.k (D.int .i64 (4)))), (4, 1, (.t 6))], none⟩,
  ⟨(some 5), .alloc [(D.int .i64 (0)), (D.int .i32 (0)), (D.int .u8 (0)), (D.int .u8 (0)), (D.int .u8 (0)), .sn, (D.str [])], none⟩,
  ⟨none, .store 7 (.t 5) (.t 7), none⟩])
 (.seq (.seq (.reg [⟨(some 8), .mv (.t 1), none⟩,
  ⟨(some 9), .bsl false 1 1 [(D.int .i64 (0))] [(0, (.k (D.int .i64 (-1))))], none⟩,
  ⟨(some 10), .call false 457 [(.t 8), (.t 9)], none⟩,
  ⟨(some 11), .una .not (.t 10), none⟩])
 (.cond (.t 11)
 (.reg [⟨(some 12), .mv (.t 1), none⟩,
  ⟨(some 13), .call false 450 [(.t 12)], none⟩,
  ⟨(some 14), .fad 5 (.t 5), none⟩,
  ⟨none, .store 1 (.t 14) (.t 13), none⟩])
 .skip))
 (.seq (.reg [⟨(some 15), .load true 7 (.t 5), none⟩,
  ⟨none, .store 7 (.t 4) (.t 15), none⟩])
 .ret))))⟩
def a276 : Ann := ⟨[], [⟨false, 0, false⟩], []⟩
def s276 : SFun := ⟨1, 20, [], [(.tmp 2, ⟨false, 0, false⟩)],
 (.seq (.reg [⟨(some 2), .mv (.k (D.str [])), none⟩])
 (.seq (.seq (.reg [⟨(some 3), .mv (.t 0), none⟩,
  ⟨(some 4), .bin .lss (.t 3) (.k (D.int .i64 (10))), none⟩])
 (.cond (.t 4)
 (.seq (.reg [⟨(some 5), .mv (.t 0), none⟩,
  ⟨(some 6), .bin .add (.k (D.int .i64 (48))) (.t 5), none⟩,
  ⟨(some 7), .cvi .u8 (.t 6), none⟩,
  ⟨(some 8), .bsl true 1 1 [(D.int .u8 (0))] [(0, (.t 7))], none⟩,
  ⟨(some 9), .b2s (.t 8), none⟩,
  ⟨(some 2), .mv (.t 9), none⟩])
 .ret)
 .skip))
 (.seq (.dreg [([], false, ⟨(some 10), .mv (.t 0), none⟩),
  ([], false, ⟨(some 11), .bin .quo (.t 10) (.k (D.int .i64 (10))), none⟩),
  ([], false, ⟨(some 12), .call true 276 [(.t 11)], none⟩),
  ([0, 1, 2], false, ⟨(some 13), .mv (.t 0), none⟩),
  ([0, 1, 2], false, ⟨(some 14), .bin .rem (.t 13) (.k (D.int .i64 (10))), none⟩),
  ([0, 1, 2], false, ⟨(some 15), .bin .add (.k (D.int .i64 (48))) (.t 14), none⟩),
  ([0, 1, 2], false, ⟨(some 16), .cvi .u8 (.t 15), none⟩),
  ([0, 1, 2], false, ⟨(some 17), .bsl true 1 1 [(D.int .u8 (0))] [(0, (.t 16))], none⟩),
  ([0, 1, 2], false, ⟨(some 18), .b2s (.t 17), none⟩),
  ([], true, ⟨(some 19), .bin .add (.t 12) (.t 18), none⟩),
  ([], true, ⟨(some 2), .mv (.t 19), none⟩)])
 .ret)))⟩
def a265 : Ann := ⟨[], [⟨false, 0, false⟩], []⟩
def s265 : SFun := ⟨2, 118, [], [(.tmp 4, ⟨false, 0, false⟩)],
 (.seq (.reg [⟨(some 2), .box 29 (.t 0), none⟩,
  ⟨(some 3), .box 7 (.t 1), none⟩,
  ⟨(some 4), .mv (.k (D.str [])), none⟩])
 (.seq (.reg [⟨(some 5), .mv (.k (D.int .i64 (0))), none⟩])
 (.seq (.seq (.reg [⟨(some 10), .fad 5 (.t 3), none⟩,
  ⟨(some 11), .load false 1 (.t 10), none⟩,
  ⟨(some 12), .len (.t 11), none⟩,
  ⟨(some 13), .bin .gtr (.t 12) (.k (D.int .i64 (0))), none⟩])
 (.cond (.t 13)
 (.reg [⟨(some 14), .fad 5 (.t 3), none⟩,
  ⟨(some 15), .load false 1 (.t 14), none⟩,
  ⟨(some 16), .ixs 1 (.t 15) (.k (D.int .i64 (0))), none⟩,
  ⟨(some 17), .load false 1 (.t 16), none⟩,
  ⟨(some 18), .mx [(.t 17), (.k (D.int .i64 (0)))], none⟩,
  ⟨(some 5), .mv (.t 18), none⟩])
 .skip))
 (.seq (.seq (.reg [⟨(some 19), .fad 0 (.t 3), none⟩,
  ⟨(some 20), .load false 1 (.t 19), none⟩,
  ⟨(some 21), .bin .neq (.t 20) (.k (D.int .i64 (4))), none⟩])
 (.cond (.t 21)
 (.seq (.reg [⟨(some 4), .mv (.k (D.str [])), none⟩])
 .ret)
 .skip))
 (.seq (.reg [⟨(some 22), .fad 3 (.t 2), none⟩,
  ⟨(some 23), .load false 1 (.t 22), none⟩,
  ⟨(some 24), .bin .add (.t 23) (.k (D.int .i64 (1))), none⟩,
  ⟨(some 6), .mv (.t 24), none⟩])
 (.seq (.seq (.reg [⟨(some 25), .fad 16 (.t 2), none⟩,
  ⟨(some 26), .load false 1 (.t 25), none⟩])
 (.cond (.t 26)
 (.reg [⟨(some 27), .fad 3 (.t 2), none⟩,
  ⟨(some 28), .load false 1 (.t 27), none⟩,
  ⟨(some 29), .fad 6 (.t 2), none⟩,
  ⟨(some 30), .load false 1 (.t 29), none⟩,
  ⟨(some 31), .bin .sub (.t 28) (.t 30), none⟩,
  ⟨(some 32), .mx [(.t 31), (.k (D.int .i64 (0)))], none⟩,
  ⟨(some 33), .bin .add (.t 32) (.k (D.int .i64 (1))), none⟩,
  ⟨(some 6), .mv (.t 33), none⟩])
 .skip))
 (.seq (.block 0 (.seq (.reg [⟨(some 35), .fad 3 (.t 3), none⟩,
  ⟨(some 36), .load false 1 (.t 35), none⟩,
  ⟨(some 37), .bin .eql (.t 36) (.k (D.int .u8 (36))), none⟩,
  ⟨(some 38), .mv (.t 37), none⟩,
  ⟨(some 39), .fad 2 (.t 3), (some (38, true))⟩,
  ⟨(some 40), .load false 1 (.t 39), (some (38, true))⟩,
  ⟨(some 41), .bin .eql (.t 40) (.k (D.int .u8 (63))), (some (38, true))⟩,
  ⟨(some 42), .pick (.t 38) (.t 41) (.k (D.bool false)), none⟩,
  ⟨(some 43), .mv (.t 42), none⟩,
  ⟨(some 44), .fad 4 (.t 3), (some (43, true))⟩,
  ⟨(some 45), .load false 1 (.t 44), (some (43, true))⟩,
  ⟨(some 46), .bin .eql (.t 45) (.k (D.int .u8 (112))), (some (43, true))⟩,
  ⟨(some 47), .pick (.t 43) (.t 46) (.k (D.bool false)), none⟩,
  ⟨(some 34), .mv (.t 47), none⟩])
 (.cond (.t 34)
 (.seq (.reg [⟨(some 7), .mv (.k (D.bool false)), none⟩,
  ⟨(some 8), .mv (.k (D.bool true)), none⟩])
 (.seq (.seq (.reg [⟨(some 48), .mv (.t 5), none⟩])
 (.block 1 (.seq (.reg [⟨(some 50), .bin .eql (.t 48) (.k (D.int .i64 (1))), none⟩,
  ⟨(some 49), .mv (.t 50), none⟩])
 (.cond (.t 49)
 (.reg [⟨(some 51), .fad 18 (.t 2), none⟩,
  ⟨(some 52), .load false 1 (.t 51), none⟩,
  ⟨(some 7), .mv (.t 52), none⟩])
 (.seq (.reg [⟨(some 54), .bin .eql (.t 48) (.k (D.int .i64 (6))), none⟩,
  ⟨(some 53), .mv (.t 54), none⟩])
 (.cond (.t 53)
 (.reg [⟨(some 55), .fad 16 (.t 2), none⟩,
  ⟨(some 56), .load false 1 (.t 55), none⟩,
  ⟨(some 7), .mv (.t 56), none⟩])
 (.seq (.reg [⟨(some 58), .bin .eql (.t 48) (.k (D.int .i64 (7))), none⟩,
  ⟨(some 57), .mv (.t 58), none⟩])
 (.cond (.t 57)
 (.reg [⟨(some 59), .fad 15 (.t 2), none⟩,
  ⟨(some 60), .load false 1 (.t 59), none⟩,
  ⟨(some 7), .mv (.t 60), none⟩])
 (.seq (.reg [⟨(some 62), .bin .eql (.t 48) (.k (D.int .i64 (25))), none⟩,
  ⟨(some 61), .mv (.t 62), none⟩])
 (.cond (.t 61)
 (.reg [⟨(some 63), .fad 17 (.t 2), none⟩,
  ⟨(some 64), .load false 1 (.t 63), none⟩,
  ⟨(some 7), .mv (.t 64), none⟩])
 (.reg [⟨(some 8), .mv (.k (D.bool false)), none⟩])))))))))))
 (.seq (.reg [⟨(some 9), .mv (.k (D.str [50])), none⟩])
 (.seq (.seq (.reg [⟨(some 65), .mv (.t 7), none⟩])
 (.cond (.t 65)
 (.reg [⟨(some 9), .mv (.k (D.str [49])), none⟩])
 .skip))
 (.seq (.seq (.reg [⟨(some 66), .mv (.t 8), none⟩,
  ⟨(some 67), .una .not (.t 66), none⟩])
 (.cond (.t 67)
 (.reg [⟨(some 9), .mv (.k (D.str [48])), none⟩])
 .skip))
 (.seq (.reg [⟨(some 68), .mv (.t 5), none⟩,
  ⟨(some 69), .call false 276 [(.t 68)], none⟩,
  ⟨(some 70), .bin .add (.k (D.str [27, 91, 63])) (.t 69), none⟩,
  ⟨(some 71), .bin .add (.t 70) (.k (D.str [59])), none⟩,
  ⟨(some 72), .mv (.t 9), none⟩,
  ⟨(some 73), .bin .add (.t 71) (.t 72), none⟩,
  ⟨(some 74), .bin .add (.t 73) (.k (D.str [36, 121])), none⟩,
  ⟨(some 4), .mv (.t 74), none⟩])
 .ret))))))
 (.seq (.reg [⟨(some 76), .fad 3 (.t 3), none⟩,
  ⟨(some 77), .load false 1 (.t 76), none⟩,
  ⟨(some 78), .bin .neq (.t 77) (.k (D.int .u8 (0))), none⟩,
  ⟨(some 79), .mv (.t 78), none⟩,
  ⟨(some 80), .fad 2 (.t 3), (some (79, false))⟩,
  ⟨(some 81), .load false 1 (.t 80), (some (79, false))⟩,
  ⟨(some 82), .bin .neq (.t 81) (.k (D.int .u8 (0))), (some (79, false))⟩,
  ⟨(some 83), .pick (.t 79) (.k (D.bool true)) (.t 82), none⟩,
  ⟨(some 75), .mv (.t 83), none⟩])
 (.cond (.t 75)
 (.seq (.reg [⟨(some 4), .mv (.k (D.str [])), none⟩])
 .ret)
 (.seq (.reg [⟨(some 85), .fad 4 (.t 3), none⟩,
  ⟨(some 86), .load false 1 (.t 85), none⟩,
  ⟨(some 87), .bin .eql (.t 86) (.k (D.int .u8 (110))), none⟩,
  ⟨(some 88), .mv (.t 87), none⟩,
  ⟨(some 89), .mv (.t 5), (some (88, true))⟩,
  ⟨(some 90), .bin .eql (.t 89) (.k (D.int .i64 (5))), (some (88, true))⟩,
  ⟨(some 91), .pick (.t 88) (.t 90) (.k (D.bool false)), none⟩,
  ⟨(some 84), .mv (.t 91), none⟩])
 (.cond (.t 84)
 (.seq (.reg [⟨(some 4), .mv (.k (D.str [27, 91, 48, 110])), none⟩])
 .ret)
 (.seq (.reg [⟨(some 93), .fad 4 (.t 3), none⟩,
  ⟨(some 94), .load false 1 (.t 93), none⟩,
  ⟨(some 95), .bin .eql (.t 94) (.k (D.int .u8 (110))), none⟩,
  ⟨(some 96), .mv (.t 95), none⟩,
  ⟨(some 97), .mv (.t 5), (some (96, true))⟩,
  ⟨(some 98), .bin .eql (.t 97) (.k (D.int .i64 (6))), (some (96, true))⟩,
  ⟨(some 99), .pick (.t 96) (.t 98) (.k (D.bool false)), none⟩,
  ⟨(some 92), .mv (.t 99), none⟩])
 (.cond (.t 92)
 (.seq (.dreg [([], false, ⟨(some 100), .mv (.t 6), none⟩),
  ([], false, ⟨(some 101), .call true 276 [(.t 100)], none⟩),
  ([], false, ⟨(some 102), .bin .add (.k (D.str [27, 91])) (.t 101), none⟩),
  ([], false, ⟨(some 103), .bin .add (.t 102) (.k (D.str [59])), none⟩),
  ([0, 1, 2, 3], false, ⟨(some 104), .fad 4 (.t 2), none⟩),
  ([0, 1, 2, 3], false, ⟨(some 105), .load false 1 (.t 104), none⟩),
  ([0, 1, 2, 3], false, ⟨(some 106), .bin .add (.t 105) (.k (D.int .i64 (1))), none⟩),
  ([2, 3], false, ⟨(some 107), .call true 276 [(.t 106)], none⟩),
  ([], true, ⟨(some 108), .bin .add (.t 103) (.t 107), none⟩),
  ([], true, ⟨(some 109), .bin .add (.t 108) (.k (D.str [82])), none⟩),
  ([], true, ⟨(some 4), .mv (.t 109), none⟩)])
 .ret)
 (.seq (.reg [⟨(some 111), .fad 4 (.t 3), none⟩,
  ⟨(some 112), .load false 1 (.t 111), none⟩,
  ⟨(some 113), .bin .eql (.t 112) (.k (D.int .u8 (99))), none⟩,
  ⟨(some 114), .mv (.t 113), none⟩,
  ⟨(some 115), .mv (.t 5), (some (114, true))⟩,
  ⟨(some 116), .bin .eql (.t 115) (.k (D.int .i64 (0))), (some (114, true))⟩,
  ⟨(some 117), .pick (.t 114) (.t 116) (.k (D.bool false)), none⟩,
  ⟨(some 110), .mv (.t 117), none⟩])
 (.cond (.t 110)
 (.seq (.reg [⟨(some 4), .mv (.k (D.str [27, 91, 63, 54, 99])), none⟩])
 .ret)
 .skip)))))))))))
 (.seq (.reg [⟨(some 4), .mv (.k (D.str [])), none⟩])
 .ret))))))))⟩
def a381 : Ann := ⟨[], [⟨false, 0, false⟩], []⟩
def s381 : SFun := ⟨5, 52, [], [(.tmp 10, ⟨false, 0, false⟩)],
 (.seq (.reg [⟨(some 5), .box 7 (.t 0), none⟩,
  ⟨(some 10), .mv (.k (D.int .i64 (0))), none⟩])
 (.seq (.reg [⟨(some 12), .mv (.t 2), none⟩,
  ⟨(some 11), .mv (.t 12), none⟩])
 (.seq (.seq (.reg [⟨(some 13), .mv (.t 1), none⟩,
  ⟨(some 14), .bin .geq (.t 13) (.k (D.int .i64 (0))), none⟩,
  ⟨(some 15), .mv (.t 14), none⟩,
  ⟨(some 16), .mv (.t 1), (some (15, true))⟩,
  ⟨(some 17), .fad 5 (.t 5), (some (15, true))⟩,
  ⟨(some 18), .load false 1 (.t 17), (some (15, true))⟩,
  ⟨(some 19), .len (.t 18), (some (15, true))⟩,
  ⟨(some 20), .bin .lss (.t 16) (.t 19), (some (15, true))⟩,
  ⟨(some 21), .pick (.t 15) (.t 20) (.k (D.bool false)), none⟩,
  ⟨(some 22), .mv (.t 21), none⟩,
  ⟨(some 23), .fad 5 (.t 5), (some (22, true))⟩,
  ⟨(some 24), .load false 1 (.t 23), (some (22, true))⟩,
  ⟨(some 25), .mv (.t 1), (some (22, true))⟩,
  ⟨(some 26), .ixs 1 (.t 24) (.t 25), (some (22, true))⟩,
  ⟨(some 27), .load false 1 (.t 26), (some (22, true))⟩,
  ⟨(some 28), .bin .neq (.t 27) (.k (D.int .i64 (-1))), (some (22, true))⟩,
  ⟨(some 29), .pick (.t 22) (.t 28) (.k (D.bool false)), none⟩,
  ⟨(some 30), .mv (.t 29), none⟩,
  ⟨(some 31), .fad 5 (.t 5), (some (30, true))⟩,
  ⟨(some 32), .load false 1 (.t 31), (some (30, true))⟩,
  ⟨(some 33), .mv (.t 1), (some (30, true))⟩,
  ⟨(some 34), .ixs 1 (.t 32) (.t 33), (some (30, true))⟩,
  ⟨(some 35), .load false 1 (.t 34), (some (30, true))⟩,
  ⟨(some 36), .bin .neq (.t 35) (.k (D.int .i64 (0))), (some (30, true))⟩,
  ⟨(some 37), .mv (.t 36), (some (30, true))⟩,
  ⟨(some 38), .mv (.t 3), (some (37, false))⟩,
  ⟨(some 39), .bin .leq (.t 38) (.k (D.int .i64 (0))), (some (37, false))⟩,
  ⟨(some 40), .pick (.t 37) (.k (D.bool true)) (.t 39), (some (30, true))⟩,
  ⟨(some 41), .pick (.t 30) (.t 40) (.k (D.bool false)), none⟩])
 (.cond (.t 41)
 (.reg [⟨(some 42), .fad 5 (.t 5), none⟩,
  ⟨(some 43), .load false 1 (.t 42), none⟩,
  ⟨(some 44), .mv (.t 1), none⟩,
  ⟨(some 45), .ixs 1 (.t 43) (.t 44), none⟩,
  ⟨(some 46), .load false 1 (.t 45), none⟩,
  ⟨(some 11), .mv (.t 46), none⟩])
 .skip))
 (.seq (.reg [⟨(some 47), .mv (.t 3), none⟩,
  ⟨(some 48), .mv (.t 11), none⟩,
  ⟨(some 49), .mv (.t 4), none⟩,
  ⟨(some 50), .mn [(.t 48), (.t 49)], none⟩,
  ⟨(some 51), .mx [(.t 47), (.t 50)], none⟩,
  ⟨(some 10), .mv (.t 51), none⟩])
 .ret))))⟩
def a358 : Ann := ⟨[], [⟨false, 0, false⟩, ⟨false, 0, false⟩], []⟩
def s358 : SFun := ⟨1, 71, [], [(.tmp 2, ⟨false, 0, false⟩), (.tmp 3, ⟨false, 0, false⟩)],
 (.seq (.reg [⟨(some 1), .box 7 (.t 0), none⟩,
  ⟨(some 2), .mv (.k (D.int .i64 (0))), none⟩,
  ⟨(some 3), .mv (.k (D.int .i64 (0))), none⟩])
 (.seq (.reg [⟨(some 6), .load true 7 (.t 1), none⟩,
  ⟨(some 7), .call false 381 [(.t 6), (.k (D.int .i64 (0))), (.k (D.int .i64 (0))), (.k (D.int .i64 (0))), (.k (D.int .i64 (65535)))], none⟩,
  ⟨(some 4), .mv (.t 7), none⟩])
 (.seq (.reg [⟨(some 8), .fad 2 (.t 1), none⟩,
  ⟨(some 9), .load false 1 (.t 8), none⟩,
  ⟨(some 10), .bin .eql (.t 9) (.k (D.int .u8 (0))), none⟩,
  ⟨(some 11), .mv (.t 10), none⟩,
  ⟨(some 12), .fad 3 (.t 1), (some (11, true))⟩,
  ⟨(some 13), .load false 1 (.t 12), (some (11, true))⟩,
  ⟨(some 14), .bin .eql (.t 13) (.k (D.int .u8 (0))), (some (11, true))⟩,
  ⟨(some 15), .pick (.t 11) (.t 14) (.k (D.bool false)), none⟩,
  ⟨(some 5), .mv (.t 15), none⟩])
 (.seq (.block 0 (.seq (.reg [⟨(some 17), .fad 0 (.t 1), none⟩,
  ⟨(some 18), .load false 1 (.t 17), none⟩,
  ⟨(some 19), .bin .neq (.t 18) (.k (D.int .i64 (4))), none⟩,
  ⟨(some 16), .mv (.t 19), none⟩])
 (.cond (.t 16)
 .skip
 (.seq (.reg [⟨(some 21), .mv (.t 5), none⟩,
  ⟨(some 22), .mv (.t 21), none⟩,
  ⟨(some 23), .fad 4 (.t 1), (some (22, true))⟩,
  ⟨(some 24), .load false 1 (.t 23), (some (22, true))⟩,
  ⟨(some 25), .bin .eql (.t 24) (.k (D.int .u8 (110))), (some (22, true))⟩,
  ⟨(some 26), .pick (.t 22) (.t 25) (.k (D.bool false)), none⟩,
  ⟨(some 27), .mv (.t 26), none⟩,
  ⟨(some 28), .mv (.t 4), (some (27, true))⟩,
  ⟨(some 29), .bin .eql (.t 28) (.k (D.int .i64 (5))), (some (27, true))⟩,
  ⟨(some 30), .pick (.t 27) (.t 29) (.k (D.bool false)), none⟩,
  ⟨(some 20), .mv (.t 30), none⟩])
 (.cond (.t 20)
 (.seq (.reg [⟨(some 31), .mv (.t 4), none⟩,
  ⟨(some 2), .mv (.k (D.int .i64 (1))), none⟩,
  ⟨(some 3), .mv (.t 31), none⟩])
 .ret)
 (.seq (.reg [⟨(some 33), .mv (.t 5), none⟩,
  ⟨(some 34), .mv (.t 33), none⟩,
  ⟨(some 35), .fad 4 (.t 1), (some (34, true))⟩,
  ⟨(some 36), .load false 1 (.t 35), (some (34, true))⟩,
  ⟨(some 37), .bin .eql (.t 36) (.k (D.int .u8 (110))), (some (34, true))⟩,
  ⟨(some 38), .pick (.t 34) (.t 37) (.k (D.bool false)), none⟩,
  ⟨(some 39), .mv (.t 38), none⟩,
  ⟨(some 40), .mv (.t 4), (some (39, true))⟩,
  ⟨(some 41), .bin .eql (.t 40) (.k (D.int .i64 (6))), (some (39, true))⟩,
  ⟨(some 42), .pick (.t 39) (.t 41) (.k (D.bool false)), none⟩,
  ⟨(some 32), .mv (.t 42), none⟩])
 (.cond (.t 32)
 (.seq (.reg [⟨(some 43), .mv (.t 4), none⟩,
  ⟨(some 2), .mv (.k (D.int .i64 (2))), none⟩,
  ⟨(some 3), .mv (.t 43), none⟩])
 .ret)
 (.seq (.reg [⟨(some 45), .mv (.t 5), none⟩,
  ⟨(some 46), .mv (.t 45), none⟩,
  ⟨(some 47), .fad 4 (.t 1), (some (46, true))⟩,
  ⟨(some 48), .load false 1 (.t 47), (some (46, true))⟩,
  ⟨(some 49), .bin .eql (.t 48) (.k (D.int .u8 (99))), (some (46, true))⟩,
  ⟨(some 50), .pick (.t 46) (.t 49) (.k (D.bool false)), none⟩,
  ⟨(some 51), .mv (.t 50), none⟩,
  ⟨(some 52), .mv (.t 4), (some (51, true))⟩,
  ⟨(some 53), .bin .eql (.t 52) (.k (D.int .i64 (0))), (some (51, true))⟩,
  ⟨(some 54), .pick (.t 51) (.t 53) (.k (D.bool false)), none⟩,
  ⟨(some 44), .mv (.t 54), none⟩])
 (.cond (.t 44)
 (.seq (.reg [⟨(some 55), .mv (.t 4), none⟩,
  ⟨(some 2), .mv (.k (D.int .i64 (3))), none⟩,
  ⟨(some 3), .mv (.t 55), none⟩])
 .ret)
 (.seq (.reg [⟨(some 57), .fad 2 (.t 1), none⟩,
  ⟨(some 58), .load false 1 (.t 57), none⟩,
  ⟨(some 59), .bin .eql (.t 58) (.k (D.int .u8 (63))), none⟩,
  ⟨(some 60), .mv (.t 59), none⟩,
  ⟨(some 61), .fad 3 (.t 1), (some (60, true))⟩,
  ⟨(some 62), .load false 1 (.t 61), (some (60, true))⟩,
  ⟨(some 63), .bin .eql (.t 62) (.k (D.int .u8 (36))), (some (60, true))⟩,
  ⟨(some 64), .pick (.t 60) (.t 63) (.k (D.bool false)), none⟩,
  ⟨(some 65), .mv (.t 64), none⟩,
  ⟨(some 66), .fad 4 (.t 1), (some (65, true))⟩,
  ⟨(some 67), .load false 1 (.t 66), (some (65, true))⟩,
  ⟨(some 68), .bin .eql (.t 67) (.k (D.int .u8 (112))), (some (65, true))⟩,
  ⟨(some 69), .pick (.t 65) (.t 68) (.k (D.bool false)), none⟩,
  ⟨(some 56), .mv (.t 69), none⟩])
 (.cond (.t 56)
 (.seq (.reg [⟨(some 70), .mv (.t 4), none⟩,
  ⟨(some 2), .mv (.k (D.int .i64 (4))), none⟩,
  ⟨(some 3), .mv (.t 70), none⟩])
 .ret)
 .skip)))))))))))
 (.seq (.reg [⟨(some 2), .mv (.k (D.int .i64 (0))), none⟩,
  ⟨(some 3), .mv (.k (D.int .i64 (0))), none⟩])
 .ret)))))⟩
def a102 : Ann := ⟨[], [⟨false, 0, false⟩], []⟩
def s102 : SFun := ⟨1, 15, [], [(.tmp 2, ⟨false, 0, false⟩)],
 (.seq (.reg [⟨(some 2), .mv (.k (D.str [])), none⟩])
 (.seq (.seq (.reg [⟨(some 3), .mv (.t 0), none⟩,
  ⟨(some 4), .bin .lss (.t 3) (.k (D.int .i64 (10))), none⟩])
 (.cond (.t 4)
 (.seq (.reg [⟨(some 5), .mv (.t 0), none⟩,
  ⟨(some 6), .mv (.t 0), none⟩,
  ⟨(some 7), .bin .add (.t 6) (.k (D.int .i64 (1))), none⟩,
  ⟨(some 8), .sls (.k (D.str [48, 49, 50, 51, 52, 53, 54, 55, 56, 57, 97, 98, 99, 100, 101, 102, 103, 104, 105, 106, 107, 108, 109, 110, 111, 112, 113, 114, 115, 116, 117, 118, 119, 120, 121, 122])) (some (.t 5)) (some (.t 7)), none⟩,
  ⟨(some 2), .mv (.t 8), none⟩])
 .ret)
 .skip))
 (.seq (.reg [⟨(some 9), .mv (.t 0), none⟩,
  ⟨(some 10), .bin .mul (.t 9) (.k (D.int .i64 (2))), none⟩,
  ⟨(some 11), .mv (.t 0), none⟩,
  ⟨(some 12), .bin .mul (.t 11) (.k (D.int .i64 (2))), none⟩,
  ⟨(some 13), .bin .add (.t 12) (.k (D.int .i64 (2))), none⟩,
  ⟨(some 14), .sls (.k (D.str [48, 48, 48, 49, 48, 50, 48, 51, 48, 52, 48, 53, 48, 54, 48, 55, 48, 56, 48, 57, 49, 48, 49, 49, 49, 50, 49, 51, 49, 52, 49, 53, 49, 54, 49, 55, 49, 56, 49, 57, 50, 48, 50, 49, 50, 50, 50, 51, 50, 52, 50, 53, 50, 54, 50, 55, 50, 56, 50, 57, 51, 48, 51, 49, 51, 50, 51, 51, 51, 52, 51, 53, 51, 54, 51, 55, 51, 56, 51, 57, 52, 48, 52, 49, 52, 50, 52, 51, 52, 52, 52, 53, 52, 54, 52, 55, 52, 56, 52, 57, 53, 48, 53, 49, 53, 50, 53, 51, 53, 52, 53, 53, 53, 54, 53, 55, 53, 56, 53, 57, 54, 48, 54, 49, 54, 50, 54, 51, 54, 52, 54, 53, 54, 54, 54, 55, 54, 56, 54, 57, 55, 48, 55, 49, 55, 50, 55, 51, 55, 52, 55, 53, 55, 54, 55, 55, 55, 56, 55, 57, 56, 48, 56, 49, 56, 50, 56, 51, 56, 52, 56, 53, 56, 54, 56, 55, 56, 56, 56, 57, 57, 48, 57, 49, 57, 50, 57, 51, 57, 52, 57, 53, 57, 54, 57, 55, 57, 56, 57, 57])) (some (.t 10)) (some (.t 13)), none⟩,
  ⟨(some 2), .mv (.t 14), none⟩])
 .ret)))⟩
def a442 : Ann := ⟨[], [⟨false, 0, false⟩], []⟩
def s442 : SFun := ⟨1, 25, [], [(.tmp 2, ⟨false, 0, false⟩)],
 (.seq (.reg [⟨(some 2), .mv (.k (D.int .i64 (0))), none⟩])
 (.seq (.seq (.reg [⟨(some 3), .mv (.t 0), none⟩,
  ⟨(some 4), .bin .geq (.t 3) (.k (D.int .u64 (4294967296))), none⟩])
 (.cond (.t 4)
 (.seq (.reg [⟨(some 5), .mv (.t 0), none⟩,
  ⟨(some 6), .bin .shr (.t 5) (.k (D.int .u64 (32))), none⟩,
  ⟨(some 0), .mv (.t 6), none⟩])
 (.reg [⟨(some 2), .mv (.k (D.int .i64 (32))), none⟩]))
 .skip))
 (.seq (.seq (.reg [⟨(some 7), .mv (.t 0), none⟩,
  ⟨(some 8), .bin .geq (.t 7) (.k (D.int .u64 (65536))), none⟩])
 (.cond (.t 8)
 (.seq (.reg [⟨(some 9), .mv (.t 0), none⟩,
  ⟨(some 10), .bin .shr (.t 9) (.k (D.int .u64 (16))), none⟩,
  ⟨(some 0), .mv (.t 10), none⟩])
 (.reg [⟨(some 11), .mv (.t 2), none⟩,
  ⟨(some 12), .bin .add (.t 11) (.k (D.int .i64 (16))), none⟩,
  ⟨(some 2), .mv (.t 12), none⟩]))
 .skip))
 (.seq (.seq (.reg [⟨(some 13), .mv (.t 0), none⟩,
  ⟨(some 14), .bin .geq (.t 13) (.k (D.int .u64 (256))), none⟩])
 (.cond (.t 14)
 (.seq (.reg [⟨(some 15), .mv (.t 0), none⟩,
  ⟨(some 16), .bin .shr (.t 15) (.k (D.int .u64 (8))), none⟩,
  ⟨(some 0), .mv (.t 16), none⟩])
 (.reg [⟨(some 17), .mv (.t 2), none⟩,
  ⟨(some 18), .bin .add (.t 17) (.k (D.int .i64 (8))), none⟩,
  ⟨(some 2), .mv (.t 18), none⟩]))
 .skip))
 (.seq (.reg [⟨(some 19), .mv (.t 2), none⟩,
  ⟨(some 20), .mv (.t 0), none⟩,
  ⟨(some 21), .cvi .u8 (.t 20), none⟩,
  ⟨(some 22), .ixt (.k (D.str [0, 1, 2, 2, 3, 3, 3, 3, 4, 4, 4, 4, 4, 4, 4, 4, 5, 5, 5, 5, 5, 5, 5, 5, 5, 5, 5, 5, 5, 5, 5, 5, 6, 6, 6, 6, 6, 6, 6, 6, 6, 6, 6, 6, 6, 6, 6, 6, 6, 6, 6, 6, 6, 6, 6, 6, 6, 6, 6, 6, 6, 6, 6, 6, 7, 7, 7, 7, 7, 7, 7, 7, 7, 7, 7, 7, 7, 7, 7, 7, 7, 7, 7, 7, 7, 7, 7, 7, 7, 7, 7, 7, 7, 7, 7, 7, 7, 7, 7, 7, 7, 7, 7, 7, 7, 7, 7, 7, 7, 7, 7, 7, 7, 7, 7, 7, 7, 7, 7, 7, 7, 7, 7, 7, 7, 7, 7, 7, 8, 8, 8, 8, 8, 8, 8, 8, 8, 8, 8, 8, 8, 8, 8, 8, 8, 8, 8, 8, 8, 8, 8, 8, 8, 8, 8, 8, 8, 8, 8, 8, 8, 8, 8, 8, 8, 8, 8, 8, 8, 8, 8, 8, 8, 8, 8, 8, 8, 8, 8, 8, 8, 8, 8, 8, 8, 8, 8, 8, 8, 8, 8, 8, 8, 8, 8, 8, 8, 8, 8, 8, 8, 8, 8, 8, 8, 8, 8, 8, 8, 8, 8, 8, 8, 8, 8, 8, 8, 8, 8, 8, 8, 8, 8, 8, 8, 8, 8, 8, 8, 8, 8, 8, 8, 8, 8, 8, 8, 8, 8, 8, 8, 8, 8, 8, 8, 8, 8, 8, 8, 8, 8, 8, 8, 8, 8, 8])) (.t 21), none⟩,
  ⟨(some 23), .cvi .i64 (.t 22), none⟩,
  ⟨(some 24), .bin .add (.t 19) (.t 23), none⟩,
  ⟨(some 2), .mv (.t 24), none⟩])
 .ret)))))⟩
def a100 : Ann := ⟨[], [⟨false, 0, false⟩], []⟩
def s100 : SFun := ⟨1, 6, [], [(.tmp 2, ⟨false, 0, false⟩)],
 (.seq (.reg [⟨(some 2), .mv (.k (D.int .i64 (0))), none⟩])
 (.seq (.reg [⟨(some 3), .mv (.t 0), none⟩,
  ⟨(some 4), .bin .mul (.t 3) (.k (D.int .i64 (78913))), none⟩,
  ⟨(some 5), .bin .shr (.t 4) (.k (D.int .u64 (18))), none⟩,
  ⟨(some 2), .mv (.t 5), none⟩])
 .ret))⟩
def a96 : Ann := ⟨[], [⟨false, 0, false⟩], []⟩
def s96 : SFun := ⟨1, 4, [], [(.tmp 2, ⟨false, 0, false⟩)],
 (.seq (.reg [⟨(some 2), .mv (.k (D.int .i64 (0))), none⟩])
 (.seq (.seq (.reg [⟨(some 3), .mv (.t 0), none⟩])
 (.cond (.t 3)
 (.seq (.reg [⟨(some 2), .mv (.k (D.int .i64 (1))), none⟩])
 .ret)
 .skip))
 (.seq (.reg [⟨(some 2), .mv (.k (D.int .i64 (0))), none⟩])
 .ret)))⟩
def a101 : Ann := ⟨[], [⟨false, 0, false⟩], []⟩
def s101 : SFun := ⟨1, 15, [], [(.tmp 2, ⟨false, 0, false⟩)],
 (.seq (.reg [⟨(some 2), .mv (.k (D.int .i64 (0))), none⟩])
 (.seq (.reg [⟨(some 4), .mv (.t 0), none⟩,
  ⟨(some 5), .call false 442 [(.t 4)], none⟩,
  ⟨(some 6), .call false 100 [(.t 5)], none⟩,
  ⟨(some 3), .mv (.t 6), none⟩])
 (.seq (.reg [⟨(some 7), .mv (.t 3), none⟩,
  ⟨(some 8), .mv (.t 0), none⟩,
  ⟨(some 9), .mv (.t 3), none⟩,
  ⟨(some 10), .ixa 20 1 (.k .un) (.t 9), none⟩,
  ⟨(some 11), .load false 1 (.t 10), none⟩,
  ⟨(some 12), .bin .geq (.t 8) (.t 11), none⟩,
  ⟨(some 13), .call false 96 [(.t 12)], none⟩,
  ⟨(some 14), .bin .add (.t 7) (.t 13), none⟩,
  ⟨(some 2), .mv (.t 14), none⟩])
 .ret)))⟩
def a97 : Ann := ⟨[(1, [(1, ⟨false, 0, false⟩), (4, ⟨false, 0, false⟩), (0, ⟨true, 1, false⟩)])], [], []⟩
def s97 : SFun := ⟨2, 167, [], [],
 (.seq (.reg [⟨(some 17), .mv (.t 0), none⟩,
  ⟨(some 18), .len (.t 17), none⟩,
  ⟨(some 4), .mv (.t 18), none⟩])
 (.seq (.block 0 (.loop [(1, ⟨false, 0, false⟩), (4, ⟨false, 0, false⟩), (0, ⟨true, 1, false⟩)]
 (.seq (.seq (.reg [⟨(some 19), .mv (.t 4), none⟩,
  ⟨(some 20), .bin .geq (.t 19) (.k (D.int .i64 (8))), none⟩])
 (.cond (.t 20)
 .skip
 (.exit 0)))
 (.block 1 (.seq (.reg [⟨(some 21), .mv (.t 1), none⟩,
  ⟨(some 22), .bin .rem (.t 21) (.k (D.int .u64 (100000000))), none⟩,
  ⟨(some 23), .cvi .u32 (.t 22), none⟩,
  ⟨(some 5), .mv (.t 23), none⟩])
 (.seq (.reg [⟨(some 24), .mv (.t 1), none⟩,
  ⟨(some 25), .bin .quo (.t 24) (.k (D.int .u64 (100000000))), none⟩,
  ⟨(some 1), .mv (.t 25), none⟩])
 (.seq (.reg [⟨(some 26), .mv (.t 5), none⟩,
  ⟨(some 27), .bin .quo (.t 26) (.k (D.int .u32 (10000))), none⟩,
  ⟨(some 28), .mv (.t 5), none⟩,
  ⟨(some 29), .bin .rem (.t 28) (.k (D.int .u32 (10000))), none⟩,
  ⟨(some 6), .mv (.t 27), none⟩,
  ⟨(some 7), .mv (.t 29), none⟩])
 (.seq (.reg [⟨(some 30), .mv (.t 7), none⟩,
  ⟨(some 31), .bin .quo (.t 30) (.k (D.int .u32 (100))), none⟩,
  ⟨(some 32), .bin .mul (.t 31) (.k (D.int .u32 (2))), none⟩,
  ⟨(some 33), .mv (.t 7), none⟩,
  ⟨(some 34), .bin .rem (.t 33) (.k (D.int .u32 (100))), none⟩,
  ⟨(some 35), .bin .mul (.t 34) (.k (D.int .u32 (2))), none⟩,
  ⟨(some 8), .mv (.t 32), none⟩,
  ⟨(some 9), .mv (.t 35), none⟩])
 (.seq (.reg [⟨(some 36), .mv (.t 6), none⟩,
  ⟨(some 37), .bin .quo (.t 36) (.k (D.int .u32 (100))), none⟩,
  ⟨(some 38), .bin .mul (.t 37) (.k (D.int .u32 (2))), none⟩,
  ⟨(some 39), .mv (.t 6), none⟩,
  ⟨(some 40), .bin .rem (.t 39) (.k (D.int .u32 (100))), none⟩,
  ⟨(some 41), .bin .mul (.t 40) (.k (D.int .u32 (2))), none⟩,
  ⟨(some 10), .mv (.t 38), none⟩,
  ⟨(some 11), .mv (.t 41), none⟩])
 (.seq (.dreg [([], false, ⟨(some 42), .mv (.t 0), none⟩),
  ([0], false, ⟨(some 43), .mv (.t 4), none⟩),
  ([0], false, ⟨(some 44), .bin .sub (.t 43) (.k (D.int .i64 (1))), none⟩),
  ([0, 1, 2], false, ⟨(some 45), .mv (.t 0), none⟩),
  ([0, 1, 2, 3], false, ⟨(some 46), .mv (.t 4), none⟩),
  ([0, 1, 2, 3], false, ⟨(some 47), .bin .sub (.t 46) (.k (D.int .i64 (2))), none⟩),
  ([0, 1, 2, 3, 4, 5], false, ⟨(some 48), .mv (.t 9), none⟩),
  ([0, 1, 2, 3, 4, 5], false, ⟨(some 49), .bin .add (.t 48) (.k (D.int .u32 (1))), none⟩),
  ([0, 1, 2, 3, 4, 5], false, ⟨(some 50), .ixt (.k (D.str [48, 48, 48, 49, 48, 50, 48, 51, 48, 52, 48, 53, 48, 54, 48, 55, 48, 56, 48, 57, 49, 48, 49, 49, 49, 50, 49, 51, 49, 52, 49, 53, 49, 54, 49, 55, 49, 56, 49, 57, 50, 48, 50, 49, 50, 50, 50, 51, 50, 52, 50, 53, 50, 54, 50, 55, 50, 56, 50, 57, 51, 48, 51, 49, 51, 50, 51, 51, 51, 52, 51, 53, 51, 54, 51, 55, 51, 56, 51, 57, 52, 48, 52, 49, 52, 50, 52, 51, 52, 52, 52, 53, 52, 54, 52, 55, 52, 56, 52, 57, 53, 48, 53, 49, 53, 50, 53, 51, 53, 52, 53, 53, 53, 54, 53, 55, 53, 56, 53, 57, 54, 48, 54, 49, 54, 50, 54, 51, 54, 52, 54, 53, 54, 54, 54, 55, 54, 56, 54, 57, 55, 48, 55, 49, 55, 50, 55, 51, 55, 52, 55, 53, 55, 54, 55, 55, 55, 56, 55, 57, 56, 48, 56, 49, 56, 50, 56, 51, 56, 52, 56, 53, 56, 54, 56, 55, 56, 56, 56, 57, 57, 48, 57, 49, 57, 50, 57, 51, 57, 52, 57, 53, 57, 54, 57, 55, 57, 56, 57, 57])) (.t 49), none⟩),
  ([0, 1, 2, 3, 4, 5, 6, 7, 8], false, ⟨(some 51), .mv (.t 9), none⟩),
  ([0, 1, 2, 3, 4, 5, 6, 7, 8], false, ⟨(some 52), .ixt (.k (D.str [48, 48, 48, 49, 48, 50, 48, 51, 48, 52, 48, 53, 48, 54, 48, 55, 48, 56, 48, 57, 49, 48, 49, 49, 49, 50, 49, 51, 49, 52, 49, 53, 49, 54, 49, 55, 49, 56, 49, 57, 50, 48, 50, 49, 50, 50, 50, 51, 50, 52, 50, 53, 50, 54, 50, 55, 50, 56, 50, 57, 51, 48, 51, 49, 51, 50, 51, 51, 51, 52, 51, 53, 51, 54, 51, 55, 51, 56, 51, 57, 52, 48, 52, 49, 52, 50, 52, 51, 52, 52, 52, 53, 52, 54, 52, 55, 52, 56, 52, 57, 53, 48, 53, 49, 53, 50, 53, 51, 53, 52, 53, 53, 53, 54, 53, 55, 53, 56, 53, 57, 54, 48, 54, 49, 54, 50, 54, 51, 54, 52, 54, 53, 54, 54, 54, 55, 54, 56, 54, 57, 55, 48, 55, 49, 55, 50, 55, 51, 55, 52, 55, 53, 55, 54, 55, 55, 55, 56, 55, 57, 56, 48, 56, 49, 56, 50, 56, 51, 56, 52, 56, 53, 56, 54, 56, 55, 56, 56, 56, 57, 57, 48, 57, 49, 57, 50, 57, 51, 57, 52, 57, 53, 57, 54, 57, 55, 57, 56, 57, 57])) (.t 51), none⟩),
  ([3, 4, 5, 9, 10], false, ⟨(some 53), .ixs 1 (.t 42) (.t 44), none⟩),
  ([3, 4, 5, 9, 10], false, ⟨none, .store 1 (.t 53) (.t 50), none⟩),
  ([], true, ⟨(some 54), .ixs 1 (.t 45) (.t 47), none⟩),
  ([], true, ⟨none, .store 1 (.t 54) (.t 52), none⟩)])
 (.seq (.dreg [([], false, ⟨(some 55), .mv (.t 0), none⟩),
  ([0], false, ⟨(some 56), .mv (.t 4), none⟩),
  ([0], false, ⟨(some 57), .bin .sub (.t 56) (.k (D.int .i64 (3))), none⟩),
  ([0, 1, 2], false, ⟨(some 58), .mv (.t 0), none⟩),
  ([0, 1, 2, 3], false, ⟨(some 59), .mv (.t 4), none⟩),
  ([0, 1, 2, 3], false, ⟨(some 60), .bin .sub (.t 59) (.k (D.int .i64 (4))), none⟩),
  ([0, 1, 2, 3, 4, 5], false, ⟨(some 61), .mv (.t 8), none⟩),
  ([0, 1, 2, 3, 4, 5], false, ⟨(some 62), .bin .add (.t 61) (.k (D.int .u32 (1))), none⟩),
  ([0, 1, 2, 3, 4, 5], false, ⟨(some 63), .ixt (.k (D.str [48, 48, 48, 49, 48, 50, 48, 51, 48, 52, 48, 53, 48, 54, 48, 55, 48, 56, 48, 57, 49, 48, 49, 49, 49, 50, 49, 51, 49, 52, 49, 53, 49, 54, 49, 55, 49, 56, 49, 57, 50, 48, 50, 49, 50, 50, 50, 51, 50, 52, 50, 53, 50, 54, 50, 55, 50, 56, 50, 57, 51, 48, 51, 49, 51, 50, 51, 51, 51, 52, 51, 53, 51, 54, 51, 55, 51, 56, 51, 57, 52, 48, 52, 49, 52, 50, 52, 51, 52, 52, 52, 53, 52, 54, 52, 55, 52, 56, 52, 57, 53, 48, 53, 49, 53, 50, 53, 51, 53, 52, 53, 53, 53, 54, 53, 55, 53, 56, 53, 57, 54, 48, 54, 49, 54, 50, 54, 51, 54, 52, 54, 53, 54, 54, 54, 55, 54, 56, 54, 57, 55, 48, 55, 49, 55, 50, 55, 51, 55, 52, 55, 53, 55, 54, 55, 55, 55, 56, 55, 57, 56, 48, 56, 49, 56, 50, 56, 51, 56, 52, 56, 53, 56, 54, 56, 55, 56, 56, 56, 57, 57, 48, 57, 49, 57, 50, 57, 51, 57, 52, 57, 53, 57, 54, 57, 55, 57, 56, 57, 57])) (.t 62), none⟩),
  ([0, 1, 2, 3, 4, 5, 6, 7, 8], false, ⟨(some 64), .mv (.t 8), none⟩),
  ([0, 1, 2, 3, 4, 5, 6, 7, 8], false, ⟨(some 65), .ixt (.k (D.str [48, 48, 48, 49, 48, 50, 48, 51, 48, 52, 48, 53, 48, 54, 48, 55, 48, 56, 48, 57, 49, 48, 49, 49, 49, 50, 49, 51, 49, 52, 49, 53, 49, 54, 49, 55, 49, 56, 49, 57, 50, 48, 50, 49, 50, 50, 50, 51, 50, 52, 50, 53, 50, 54, 50, 55, 50, 56, 50, 57, 51, 48, 51, 49, 51, 50, 51, 51, 51, 52, 51, 53, 51, 54, 51, 55, 51, 56, 51, 57, 52, 48, 52, 49, 52, 50, 52, 51, 52, 52, 52, 53, 52, 54, 52, 55, 52, 56, 52, 57, 53, 48, 53, 49, 53, 50, 53, 51, 53, 52, 53, 53, 53, 54, 53, 55, 53, 56, 53, 57, 54, 48, 54, 49, 54, 50, 54, 51, 54, 52, 54, 53, 54, 54, 54, 55, 54, 56, 54, 57, 55, 48, 55, 49, 55, 50, 55, 51, 55, 52, 55, 53, 55, 54, 55, 55, 55, 56, 55, 57, 56, 48, 56, 49, 56, 50, 56, 51, 56, 52, 56, 53, 56, 54, 56, 55, 56, 56, 56, 57, 57, 48, 57, 49, 57, 50, 57, 51, 57, 52, 57, 53, 57, 54, 57, 55, 57, 56, 57, 57])) (.t 64), none⟩),
  ([3, 4, 5, 9, 10], false, ⟨(some 66), .ixs 1 (.t 55) (.t 57), none⟩),
  ([3, 4, 5, 9, 10], false, ⟨none, .store 1 (.t 66) (.t 63), none⟩),
  ([], true, ⟨(some 67), .ixs 1 (.t 58) (.t 60), none⟩),
  ([], true, ⟨none, .store 1 (.t 67) (.t 65), none⟩)])
 (.seq (.dreg [([], false, ⟨(some 68), .mv (.t 0), none⟩),
  ([0], false, ⟨(some 69), .mv (.t 4), none⟩),
  ([0], false, ⟨(some 70), .bin .sub (.t 69) (.k (D.int .i64 (5))), none⟩),
  ([0, 1, 2], false, ⟨(some 71), .mv (.t 0), none⟩),
  ([0, 1, 2, 3], false, ⟨(some 72), .mv (.t 4), none⟩),
  ([0, 1, 2, 3], false, ⟨(some 73), .bin .sub (.t 72) (.k (D.int .i64 (6))), none⟩),
  ([0, 1, 2, 3, 4, 5], false, ⟨(some 74), .mv (.t 11), none⟩),
  ([0, 1, 2, 3, 4, 5], false, ⟨(some 75), .bin .add (.t 74) (.k (D.int .u32 (1))), none⟩),
  ([0, 1, 2, 3, 4, 5], false, ⟨(some 76), .ixt (.k (D.str [48, 48, 48, 49, 48, 50, 48, 51, 48, 52, 48, 53, 48, 54, 48, 55, 48, 56, 48, 57, 49, 48, 49, 49, 49, 50, 49, 51, 49, 52, 49, 53, 49, 54, 49, 55, 49, 56, 49, 57, 50, 48, 50, 49, 50, 50, 50, 51, 50, 52, 50, 53, 50, 54, 50, 55, 50, 56, 50, 57, 51, 48, 51, 49, 51, 50, 51, 51, 51, 52, 51, 53, 51, 54, 51, 55, 51, 56, 51, 57, 52, 48, 52, 49, 52, 50, 52, 51, 52, 52, 52, 53, 52, 54, 52, 55, 52, 56, 52, 57, 53, 48, 53, 49, 53, 50, 53, 51, 53, 52, 53, 53, 53, 54, 53, 55, 53, 56, 53, 57, 54, 48, 54, 49, 54, 50, 54, 51, 54, 52, 54, 53, 54, 54, 54, 55, 54, 56, 54, 57, 55, 48, 55, 49, 55, 50, 55, 51, 55, 52, 55, 53, 55, 54, 55, 55, 55, 56, 55, 57, 56, 48, 56, 49, 56, 50, 56, 51, 56, 52, 56, 53, 56, 54, 56, 55, 56, 56, 56, 57, 57, 48, 57, 49, 57, 50, 57, 51, 57, 52, 57, 53, 57, 54, 57, 55, 57, 56, 57, 57])) (.t 75), none⟩),
  ([0, 1, 2, 3, 4, 5, 6, 7, 8], false, ⟨(some 77), .mv (.t 11), none⟩),
  ([0, 1, 2, 3, 4, 5, 6, 7, 8], false, ⟨(some 78), .ixt (.k (D.str [48, 48, 48, 49, 48, 50, 48, 51, 48, 52, 48, 53, 48, 54, 48, 55, 48, 56, 48, 57, 49, 48, 49, 49, 49, 50, 49, 51, 49, 52, 49, 53, 49, 54, 49, 55, 49, 56, 49, 57, 50, 48, 50, 49, 50, 50, 50, 51, 50, 52, 50, 53, 50, 54, 50, 55, 50, 56, 50, 57, 51, 48, 51, 49, 51, 50, 51, 51, 51, 52, 51, 53, 51, 54, 51, 55, 51, 56, 51, 57, 52, 48, 52, 49, 52, 50, 52, 51, 52, 52, 52, 53, 52, 54, 52, 55, 52, 56, 52, 57, 53, 48, 53, 49, 53, 50, 53, 51, 53, 52, 53, 53, 53, 54, 53, 55, 53, 56, 53, 57, 54, 48, 54, 49, 54, 50, 54, 51, 54, 52, 54, 53, 54, 54, 54, 55, 54, 56, 54, 57, 55, 48, 55, 49, 55, 50, 55, 51, 55, 52, 55, 53, 55, 54, 55, 55, 55, 56, 55, 57, 56, 48, 56, 49, 56, 50, 56, 51, 56, 52, 56, 53, 56, 54, 56, 55, 56, 56, 56, 57, 57, 48, 57, 49, 57, 50, 57, 51, 57, 52, 57, 53, 57, 54, 57, 55, 57, 56, 57, 57])) (.t 77), none⟩),
  ([3, 4, 5, 9, 10], false, ⟨(some 79), .ixs 1 (.t 68) (.t 70), none⟩),
  ([3, 4, 5, 9, 10], false, ⟨none, .store 1 (.t 79) (.t 76), none⟩),
  ([], true, ⟨(some 80), .ixs 1 (.t 71) (.t 73), none⟩),
  ([], true, ⟨none, .store 1 (.t 80) (.t 78), none⟩)])
 (.seq (.dreg [([], false, ⟨(some 81), .mv (.t 0), none⟩),
  ([0], false, ⟨(some 82), .mv (.t 4), none⟩),
  ([0], false, ⟨(some 83), .bin .sub (.t 82) (.k (D.int .i64 (7))), none⟩),
  ([0, 1, 2], false, ⟨(some 84), .mv (.t 0), none⟩),
  ([0, 1, 2, 3], false, ⟨(some 85), .mv (.t 4), none⟩),
  ([0, 1, 2, 3], false, ⟨(some 86), .bin .sub (.t 85) (.k (D.int .i64 (8))), none⟩),
  ([0, 1, 2, 3, 4, 5], false, ⟨(some 87), .mv (.t 10), none⟩),
  ([0, 1, 2, 3, 4, 5], false, ⟨(some 88), .bin .add (.t 87) (.k (D.int .u32 (1))), none⟩),
  ([0, 1, 2, 3, 4, 5], false, ⟨(some 89), .ixt (.k (D.str [48, 48, 48, 49, 48, 50, 48, 51, 48, 52, 48, 53, 48, 54, 48, 55, 48, 56, 48, 57, 49, 48, 49, 49, 49, 50, 49, 51, 49, 52, 49, 53, 49, 54, 49, 55, 49, 56, 49, 57, 50, 48, 50, 49, 50, 50, 50, 51, 50, 52, 50, 53, 50, 54, 50, 55, 50, 56, 50, 57, 51, 48, 51, 49, 51, 50, 51, 51, 51, 52, 51, 53, 51, 54, 51, 55, 51, 56, 51, 57, 52, 48, 52, 49, 52, 50, 52, 51, 52, 52, 52, 53, 52, 54, 52, 55, 52, 56, 52, 57, 53, 48, 53, 49, 53, 50, 53, 51, 53, 52, 53, 53, 53, 54, 53, 55, 53, 56, 53, 57, 54, 48, 54, 49, 54, 50, 54, 51, 54, 52, 54, 53, 54, 54, 54, 55, 54, 56, 54, 57, 55, 48, 55, 49, 55, 50, 55, 51, 55, 52, 55, 53, 55, 54, 55, 55, 55, 56, 55, 57, 56, 48, 56, 49, 56, 50, 56, 51, 56, 52, 56, 53, 56, 54, 56, 55, 56, 56, 56, 57, 57, 48, 57, 49, 57, 50, 57, 51, 57, 52, 57, 53, 57, 54, 57, 55, 57, 56, 57, 57])) (.t 88), none⟩),
  ([0, 1, 2, 3, 4, 5, 6, 7, 8], false, ⟨(some 90), .mv (.t 10), none⟩),
  ([0, 1, 2, 3, 4, 5, 6, 7, 8], false, ⟨(some 91), .ixt (.k (D.str [48, 48, 48, 49, 48, 50, 48, 51, 48, 52, 48, 53, 48, 54, 48, 55, 48, 56, 48, 57, 49, 48, 49, 49, 49, 50, 49, 51, 49, 52, 49, 53, 49, 54, 49, 55, 49, 56, 49, 57, 50, 48, 50, 49, 50, 50, 50, 51, 50, 52, 50, 53, 50, 54, 50, 55, 50, 56, 50, 57, 51, 48, 51, 49, 51, 50, 51, 51, 51, 52, 51, 53, 51, 54, 51, 55, 51, 56, 51, 57, 52, 48, 52, 49, 52, 50, 52, 51, 52, 52, 52, 53, 52, 54, 52, 55, 52, 56, 52, 57, 53, 48, 53, 49, 53, 50, 53, 51, 53, 52, 53, 53, 53, 54, 53, 55, 53, 56, 53, 57, 54, 48, 54, 49, 54, 50, 54, 51, 54, 52, 54, 53, 54, 54, 54, 55, 54, 56, 54, 57, 55, 48, 55, 49, 55, 50, 55, 51, 55, 52, 55, 53, 55, 54, 55, 55, 55, 56, 55, 57, 56, 48, 56, 49, 56, 50, 56, 51, 56, 52, 56, 53, 56, 54, 56, 55, 56, 56, 56, 57, 57, 48, 57, 49, 57, 50, 57, 51, 57, 52, 57, 53, 57, 54, 57, 55, 57, 56, 57, 57])) (.t 90), none⟩),
  ([3, 4, 5, 9, 10], false, ⟨(some 92), .ixs 1 (.t 81) (.t 83), none⟩),
  ([3, 4, 5, 9, 10], false, ⟨none, .store 1 (.t 92) (.t 89), none⟩),
  ([], true, ⟨(some 93), .ixs 1 (.t 84) (.t 86), none⟩),
  ([], true, ⟨none, .store 1 (.t 93) (.t 91), none⟩)])
 (.reg [⟨(some 94), .mv (.t 4), none⟩,
  ⟨(some 95), .bin .sub (.t 94) (.k (D.int .i64 (8))), none⟩,
  ⟨(some 4), .mv (.t 95), none⟩]))))))))))))))
 (.seq (.reg [⟨(some 96), .mv (.t 1), none⟩,
  ⟨(some 97), .cvi .u32 (.t 96), none⟩,
  ⟨(some 12), .mv (.t 97), none⟩])
 (.seq (.seq (.reg [⟨(some 98), .mv (.t 4), none⟩,
  ⟨(some 99), .bin .geq (.t 98) (.k (D.int .i64 (4))), none⟩])
 (.cond (.t 99)
 (.seq (.reg [⟨(some 100), .mv (.t 12), none⟩,
  ⟨(some 101), .bin .rem (.t 100) (.k (D.int .u32 (10000))), none⟩,
  ⟨(some 13), .mv (.t 101), none⟩])
 (.seq (.reg [⟨(some 102), .mv (.t 12), none⟩,
  ⟨(some 103), .bin .quo (.t 102) (.k (D.int .u32 (10000))), none⟩,
  ⟨(some 12), .mv (.t 103), none⟩])
 (.seq (.reg [⟨(some 104), .mv (.t 13), none⟩,
  ⟨(some 105), .bin .quo (.t 104) (.k (D.int .u32 (100))), none⟩,
  ⟨(some 106), .bin .mul (.t 105) (.k (D.int .u32 (2))), none⟩,
  ⟨(some 107), .mv (.t 13), none⟩,
  ⟨(some 108), .bin .rem (.t 107) (.k (D.int .u32 (100))), none⟩,
  ⟨(some 109), .bin .mul (.t 108) (.k (D.int .u32 (2))), none⟩,
  ⟨(some 14), .mv (.t 106), none⟩,
  ⟨(some 15), .mv (.t 109), none⟩])
 (.seq (.dreg [([], false, ⟨(some 110), .mv (.t 0), none⟩),
  ([0], false, ⟨(some 111), .mv (.t 4), none⟩),
  ([0], false, ⟨(some 112), .bin .sub (.t 111) (.k (D.int .i64 (1))), none⟩),
  ([0, 1, 2], false, ⟨(some 113), .mv (.t 0), none⟩),
  ([0, 1, 2, 3], false, ⟨(some 114), .mv (.t 4), none⟩),
  ([0, 1, 2, 3], false, ⟨(some 115), .bin .sub (.t 114) (.k (D.int .i64 (2))), none⟩),
  ([0, 1, 2, 3, 4, 5], false, ⟨(some 116), .mv (.t 15), none⟩),
  ([0, 1, 2, 3, 4, 5], false, ⟨(some 117), .bin .add (.t 116) (.k (D.int .u32 (1))), none⟩),
  ([0, 1, 2, 3, 4, 5], false, ⟨(some 118), .ixt (.k (D.str [48, 48, 48, 49, 48, 50, 48, 51, 48, 52, 48, 53, 48, 54, 48, 55, 48, 56, 48, 57, 49, 48, 49, 49, 49, 50, 49, 51, 49, 52, 49, 53, 49, 54, 49, 55, 49, 56, 49, 57, 50, 48, 50, 49, 50, 50, 50, 51, 50, 52, 50, 53, 50, 54, 50, 55, 50, 56, 50, 57, 51, 48, 51, 49, 51, 50, 51, 51, 51, 52, 51, 53, 51, 54, 51, 55, 51, 56, 51, 57, 52, 48, 52, 49, 52, 50, 52, 51, 52, 52, 52, 53, 52, 54, 52, 55, 52, 56, 52, 57, 53, 48, 53, 49, 53, 50, 53, 51, 53, 52, 53, 53, 53, 54, 53, 55, 53, 56, 53, 57, 54, 48, 54, 49, 54, 50, 54, 51, 54, 52, 54, 53, 54, 54, 54, 55, 54, 56, 54, 57, 55, 48, 55, 49, 55, 50, 55, 51, 55, 52, 55, 53, 55, 54, 55, 55, 55, 56, 55, 57, 56, 48, 56, 49, 56, 50, 56, 51, 56, 52, 56, 53, 56, 54, 56, 55, 56, 56, 56, 57, 57, 48, 57, 49, 57, 50, 57, 51, 57, 52, 57, 53, 57, 54, 57, 55, 57, 56, 57, 57])) (.t 117), none⟩),
  ([0, 1, 2, 3, 4, 5, 6, 7, 8], false, ⟨(some 119), .mv (.t 15), none⟩),
  ([0, 1, 2, 3, 4, 5, 6, 7, 8], false, ⟨(some 120), .ixt (.k (D.str [48, 48, 48, 49, 48, 50, 48, 51, 48, 52, 48, 53, 48, 54, 48, 55, 48, 56, 48, 57, 49, 48, 49, 49, 49, 50, 49, 51, 49, 52, 49, 53, 49, 54, 49, 55, 49, 56, 49, 57, 50, 48, 50, 49, 50, 50, 50, 51, 50, 52, 50, 53, 50, 54, 50, 55, 50, 56, 50, 57, 51, 48, 51, 49, 51, 50, 51, 51, 51, 52, 51, 53, 51, 54, 51, 55, 51, 56, 51, 57, 52, 48, 52, 49, 52, 50, 52, 51, 52, 52, 52, 53, 52, 54, 52, 55, 52, 56, 52, 57, 53, 48, 53, 49, 53, 50, 53, 51, 53, 52, 53, 53, 53, 54, 53, 55, 53, 56, 53, 57, 54, 48, 54, 49, 54, 50, 54, 51, 54, 52, 54, 53, 54, 54, 54, 55, 54, 56, 54, 57, 55, 48, 55, 49, 55, 50, 55, 51, 55, 52, 55, 53, 55, 54, 55, 55, 55, 56, 55, 57, 56, 48, 56, 49, 56, 50, 56, 51, 56, 52, 56, 53, 56, 54, 56, 55, 56, 56, 56, 57, 57, 48, 57, 49, 57, 50, 57, 51, 57, 52, 57, 53, 57, 54, 57, 55, 57, 56, 57, 57])) (.t 119), none⟩),
  ([3, 4, 5, 9, 10], false, ⟨(some 121), .ixs 1 (.t 110) (.t 112), none⟩),
  ([3, 4, 5, 9, 10], false, ⟨none, .store 1 (.t 121) (.t 118), none⟩),
  ([], true, ⟨(some 122), .ixs 1 (.t 113) (.t 115), none⟩),
  ([], true, ⟨none, .store 1 (.t 122) (.t 120), none⟩)])
 (.seq (.dreg [([], false, ⟨(some 123), .mv (.t 0), none⟩),
  ([0], false, ⟨(some 124), .mv (.t 4), none⟩),
  ([0], false, ⟨(some 125), .bin .sub (.t 124) (.k (D.int .i64 (3))), none⟩),
  ([0, 1, 2], false, ⟨(some 126), .mv (.t 0), none⟩),
  ([0, 1, 2, 3], false, ⟨(some 127), .mv (.t 4), none⟩),
  ([0, 1, 2, 3], false, ⟨(some 128), .bin .sub (.t 127) (.k (D.int .i64 (4))), none⟩),
  ([0, 1, 2, 3, 4, 5], false, ⟨(some 129), .mv (.t 14), none⟩),
  ([0, 1, 2, 3, 4, 5], false, ⟨(some 130), .bin .add (.t 129) (.k (D.int .u32 (1))), none⟩),
  ([0, 1, 2, 3, 4, 5], false, ⟨(some 131), .ixt (.k (D.str [48, 48, 48, 49, 48, 50, 48, 51, 48, 52, 48, 53, 48, 54, 48, 55, 48, 56, 48, 57, 49, 48, 49, 49, 49, 50, 49, 51, 49, 52, 49, 53, 49, 54, 49, 55, 49, 56, 49, 57, 50, 48, 50, 49, 50, 50, 50, 51, 50, 52, 50, 53, 50, 54, 50, 55, 50, 56, 50, 57, 51, 48, 51, 49, 51, 50, 51, 51, 51, 52, 51, 53, 51, 54, 51, 55, 51, 56, 51, 57, 52, 48, 52, 49, 52, 50, 52, 51, 52, 52, 52, 53, 52, 54, 52, 55, 52, 56, 52, 57, 53, 48, 53, 49, 53, 50, 53, 51, 53, 52, 53, 53, 53, 54, 53, 55, 53, 56, 53, 57, 54, 48, 54, 49, 54, 50, 54, 51, 54, 52, 54, 53, 54, 54, 54, 55, 54, 56, 54, 57, 55, 48, 55, 49, 55, 50, 55, 51, 55, 52, 55, 53, 55, 54, 55, 55, 55, 56, 55, 57, 56, 48, 56, 49, 56, 50, 56, 51, 56, 52, 56, 53, 56, 54, 56, 55, 56, 56, 56, 57, 57, 48, 57, 49, 57, 50, 57, 51, 57, 52, 57, 53, 57, 54, 57, 55, 57, 56, 57, 57])) (.t 130), none⟩),
  ([0, 1, 2, 3, 4, 5, 6, 7, 8], false, ⟨(some 132), .mv (.t 14), none⟩),
  ([0, 1, 2, 3, 4, 5, 6, 7, 8], false, ⟨(some 133), .ixt (.k (D.str [48, 48, 48, 49, 48, 50, 48, 51, 48, 52, 48, 53, 48, 54, 48, 55, 48, 56, 48, 57, 49, 48, 49, 49, 49, 50, 49, 51, 49, 52, 49, 53, 49, 54, 49, 55, 49, 56, 49, 57, 50, 48, 50, 49, 50, 50, 50, 51, 50, 52, 50, 53, 50, 54, 50, 55, 50, 56, 50, 57, 51, 48, 51, 49, 51, 50, 51, 51, 51, 52, 51, 53, 51, 54, 51, 55, 51, 56, 51, 57, 52, 48, 52, 49, 52, 50, 52, 51, 52, 52, 52, 53, 52, 54, 52, 55, 52, 56, 52, 57, 53, 48, 53, 49, 53, 50, 53, 51, 53, 52, 53, 53, 53, 54, 53, 55, 53, 56, 53, 57, 54, 48, 54, 49, 54, 50, 54, 51, 54, 52, 54, 53, 54, 54, 54, 55, 54, 56, 54, 57, 55, 48, 55, 49, 55, 50, 55, 51, 55, 52, 55, 53, 55, 54, 55, 55, 55, 56, 55, 57, 56, 48, 56, 49, 56, 50, 56, 51, 56, 52, 56, 53, 56, 54, 56, 55, 56, 56, 56, 57, 57, 48, 57, 49, 57, 50, 57, 51, 57, 52, 57, 53, 57, 54, 57, 55, 57, 56, 57, 57])) (.t 132), none⟩),
  ([3, 4, 5, 9, 10], false, ⟨(some 134), .ixs 1 (.t 123) (.t 125), none⟩),
  ([3, 4, 5, 9, 10], false, ⟨none, .store 1 (.t 134) (.t 131), none⟩),
  ([], true, ⟨(some 135), .ixs 1 (.t 126) (.t 128), none⟩),
  ([], true, ⟨none, .store 1 (.t 135) (.t 133), none⟩)])
 (.reg [⟨(some 136), .mv (.t 4), none⟩,
  ⟨(some 137), .bin .sub (.t 136) (.k (D.int .i64 (4))), none⟩,
  ⟨(some 4), .mv (.t 137), none⟩]))))))
 .skip))
 (.seq (.seq (.reg [⟨(some 138), .mv (.t 4), none⟩,
  ⟨(some 139), .bin .geq (.t 138) (.k (D.int .i64 (2))), none⟩])
 (.cond (.t 139)
 (.seq (.reg [⟨(some 140), .mv (.t 12), none⟩,
  ⟨(some 141), .bin .rem (.t 140) (.k (D.int .u32 (100))), none⟩,
  ⟨(some 142), .bin .mul (.t 141) (.k (D.int .u32 (2))), none⟩,
  ⟨(some 16), .mv (.t 142), none⟩])
 (.seq (.reg [⟨(some 143), .mv (.t 12), none⟩,
  ⟨(some 144), .bin .quo (.t 143) (.k (D.int .u32 (100))), none⟩,
  ⟨(some 12), .mv (.t 144), none⟩])
 (.seq (.dreg [([], false, ⟨(some 145), .mv (.t 0), none⟩),
  ([0], false, ⟨(some 146), .mv (.t 4), none⟩),
  ([0], false, ⟨(some 147), .bin .sub (.t 146) (.k (D.int .i64 (1))), none⟩),
  ([0, 1, 2], false, ⟨(some 148), .mv (.t 0), none⟩),
  ([0, 1, 2, 3], false, ⟨(some 149), .mv (.t 4), none⟩),
  ([0, 1, 2, 3], false, ⟨(some 150), .bin .sub (.t 149) (.k (D.int .i64 (2))), none⟩),
  ([0, 1, 2, 3, 4, 5], false, ⟨(some 151), .mv (.t 16), none⟩),
  ([0, 1, 2, 3, 4, 5], false, ⟨(some 152), .bin .add (.t 151) (.k (D.int .u32 (1))), none⟩),
  ([0, 1, 2, 3, 4, 5], false, ⟨(some 153), .ixt (.k (D.str [48, 48, 48, 49, 48, 50, 48, 51, 48, 52, 48, 53, 48, 54, 48, 55, 48, 56, 48, 57, 49, 48, 49, 49, 49, 50, 49, 51, 49, 52, 49, 53, 49, 54, 49, 55, 49, 56, 49, 57, 50, 48, 50, 49, 50, 50, 50, 51, 50, 52, 50, 53, 50, 54, 50, 55, 50, 56, 50, 57, 51, 48, 51, 49, 51, 50, 51, 51, 51, 52, 51, 53, 51, 54, 51, 55, 51, 56, 51, 57, 52, 48, 52, 49, 52, 50, 52, 51, 52, 52, 52, 53, 52, 54, 52, 55, 52, 56, 52, 57, 53, 48, 53, 49, 53, 50, 53, 51, 53, 52, 53, 53, 53, 54, 53, 55, 53, 56, 53, 57, 54, 48, 54, 49, 54, 50, 54, 51, 54, 52, 54, 53, 54, 54, 54, 55, 54, 56, 54, 57, 55, 48, 55, 49, 55, 50, 55, 51, 55, 52, 55, 53, 55, 54, 55, 55, 55, 56, 55, 57, 56, 48, 56, 49, 56, 50, 56, 51, 56, 52, 56, 53, 56, 54, 56, 55, 56, 56, 56, 57, 57, 48, 57, 49, 57, 50, 57, 51, 57, 52, 57, 53, 57, 54, 57, 55, 57, 56, 57, 57])) (.t 152), none⟩),
  ([0, 1, 2, 3, 4, 5, 6, 7, 8], false, ⟨(some 154), .mv (.t 16), none⟩),
  ([0, 1, 2, 3, 4, 5, 6, 7, 8], false, ⟨(some 155), .ixt (.k (D.str [48, 48, 48, 49, 48, 50, 48, 51, 48, 52, 48, 53, 48, 54, 48, 55, 48, 56, 48, 57, 49, 48, 49, 49, 49, 50, 49, 51, 49, 52, 49, 53, 49, 54, 49, 55, 49, 56, 49, 57, 50, 48, 50, 49, 50, 50, 50, 51, 50, 52, 50, 53, 50, 54, 50, 55, 50, 56, 50, 57, 51, 48, 51, 49, 51, 50, 51, 51, 51, 52, 51, 53, 51, 54, 51, 55, 51, 56, 51, 57, 52, 48, 52, 49, 52, 50, 52, 51, 52, 52, 52, 53, 52, 54, 52, 55, 52, 56, 52, 57, 53, 48, 53, 49, 53, 50, 53, 51, 53, 52, 53, 53, 53, 54, 53, 55, 53, 56, 53, 57, 54, 48, 54, 49, 54, 50, 54, 51, 54, 52, 54, 53, 54, 54, 54, 55, 54, 56, 54, 57, 55, 48, 55, 49, 55, 50, 55, 51, 55, 52, 55, 53, 55, 54, 55, 55, 55, 56, 55, 57, 56, 48, 56, 49, 56, 50, 56, 51, 56, 52, 56, 53, 56, 54, 56, 55, 56, 56, 56, 57, 57, 48, 57, 49, 57, 50, 57, 51, 57, 52, 57, 53, 57, 54, 57, 55, 57, 56, 57, 57])) (.t 154), none⟩),
  ([3, 4, 5, 9, 10], false, ⟨(some 156), .ixs 1 (.t 145) (.t 147), none⟩),
  ([3, 4, 5, 9, 10], false, ⟨none, .store 1 (.t 156) (.t 153), none⟩),
  ([], true, ⟨(some 157), .ixs 1 (.t 148) (.t 150), none⟩),
  ([], true, ⟨none, .store 1 (.t 157) (.t 155), none⟩)])
 (.reg [⟨(some 158), .mv (.t 4), none⟩,
  ⟨(some 159), .bin .sub (.t 158) (.k (D.int .i64 (2))), none⟩,
  ⟨(some 4), .mv (.t 159), none⟩]))))
 .skip))
 (.seq (.reg [⟨(some 160), .mv (.t 4), none⟩,
  ⟨(some 161), .bin .gtr (.t 160) (.k (D.int .i64 (0))), none⟩])
 (.cond (.t 161)
 (.reg [⟨(some 162), .mv (.t 0), none⟩,
  ⟨(some 163), .mv (.t 12), none⟩,
  ⟨(some 164), .bin .add (.k (D.int .u32 (48))) (.t 163), none⟩,
  ⟨(some 165), .cvi .u8 (.t 164), none⟩,
  ⟨(some 166), .ixs 1 (.t 162) (.k (D.int .i64 (0))), none⟩,
  ⟨none, .store 1 (.t 166) (.t 165), none⟩])
 .skip)))))))⟩
def a99 : Ann := ⟨[], [⟨false, 0, false⟩], []⟩
def s99 : SFun := ⟨1, 8, [], [(.tmp 2, ⟨false, 0, false⟩)],
 (.seq (.reg [⟨(some 2), .mv (.k (D.bool false)), none⟩])
 (.seq (.reg [⟨(some 3), .mv (.t 0), none⟩,
  ⟨(some 4), .mv (.t 0), none⟩,
  ⟨(some 5), .bin .sub (.t 4) (.k (D.int .i64 (1))), none⟩,
  ⟨(some 6), .bin .and (.t 3) (.t 5), none⟩,
  ⟨(some 7), .bin .eql (.t 6) (.k (D.int .i64 (0))), none⟩,
  ⟨(some 2), .mv (.t 7), none⟩])
 .ret))⟩
def a447 : Ann := ⟨[], [⟨false, 0, false⟩], []⟩
def s447 : SFun := ⟨1, 14, [], [(.tmp 2, ⟨false, 0, false⟩)],
 (.seq (.reg [⟨(some 2), .mv (.k (D.int .i64 (0))), none⟩])
 (.seq (.seq (.reg [⟨(some 3), .mv (.t 0), none⟩,
  ⟨(some 4), .bin .eql (.t 3) (.k (D.int .u32 (0))), none⟩])
 (.cond (.t 4)
 (.seq (.reg [⟨(some 2), .mv (.k (D.int .i64 (32))), none⟩])
 .ret)
 .skip))
 (.seq (.reg [⟨(some 5), .mv (.t 0), none⟩,
  ⟨(some 6), .mv (.t 0), none⟩,
  ⟨(some 7), .una .neg (.t 6), none⟩,
  ⟨(some 8), .bin .and (.t 5) (.t 7), none⟩,
  ⟨(some 9), .bin .mul (.t 8) (.k (D.int .u32 (125613361))), none⟩,
  ⟨(some 10), .bin .shr (.t 9) (.k (D.int .u64 (27))), none⟩,
  ⟨(some 11), .ixa 32 1 (.k .un) (.t 10), none⟩,
  ⟨(some 12), .load false 1 (.t 11), none⟩,
  ⟨(some 13), .cvi .i64 (.t 12), none⟩,
  ⟨(some 2), .mv (.t 13), none⟩])
 .ret)))⟩
def a448 : Ann := ⟨[], [⟨false, 0, false⟩], []⟩
def s448 : SFun := ⟨1, 14, [], [(.tmp 2, ⟨false, 0, false⟩)],
 (.seq (.reg [⟨(some 2), .mv (.k (D.int .i64 (0))), none⟩])
 (.seq (.seq (.reg [⟨(some 3), .mv (.t 0), none⟩,
  ⟨(some 4), .bin .eql (.t 3) (.k (D.int .u64 (0))), none⟩])
 (.cond (.t 4)
 (.seq (.reg [⟨(some 2), .mv (.k (D.int .i64 (64))), none⟩])
 .ret)
 .skip))
 (.seq (.reg [⟨(some 5), .mv (.t 0), none⟩,
  ⟨(some 6), .mv (.t 0), none⟩,
  ⟨(some 7), .una .neg (.t 6), none⟩,
  ⟨(some 8), .bin .and (.t 5) (.t 7), none⟩,
  ⟨(some 9), .bin .mul (.t 8) (.k (D.int .u64 (285870213051353865))), none⟩,
  ⟨(some 10), .bin .shr (.t 9) (.k (D.int .u64 (58))), none⟩,
  ⟨(some 11), .ixa 64 1 (.k .un) (.t 10), none⟩,
  ⟨(some 12), .load false 1 (.t 11), none⟩,
  ⟨(some 13), .cvi .i64 (.t 12), none⟩,
  ⟨(some 2), .mv (.t 13), none⟩])
 .ret)))⟩
def a446 : Ann := ⟨[], [⟨false, 0, false⟩], []⟩
def s446 : SFun := ⟨1, 8, [], [(.tmp 2, ⟨false, 0, false⟩)],
 (.seq (.reg [⟨(some 2), .mv (.k (D.int .i64 (0))), none⟩])
 (.seq (.cond (.k (D.bool false))
 (.seq (.reg [⟨(some 3), .mv (.t 0), none⟩,
  ⟨(some 4), .cvi .u32 (.t 3), none⟩,
  ⟨(some 5), .call false 447 [(.t 4)], none⟩,
  ⟨(some 2), .mv (.t 5), none⟩])
 .ret)
 .skip)
 (.seq (.reg [⟨(some 6), .mv (.t 0), none⟩,
  ⟨(some 7), .call false 448 [(.t 6)], none⟩,
  ⟨(some 2), .mv (.t 7), none⟩])
 .ret)))⟩
def a98 : Ann := ⟨[(11, [(1, ⟨false, 0, false⟩), (3, ⟨false, 0, false⟩), (4, ⟨false, 0, false⟩), (10, ⟨false, 0, false⟩), (11, ⟨false, 0, false⟩), (13, ⟨false, 0, false⟩), (14, ⟨false, 0, false⟩), (15, ⟨false, 0, false⟩), (16, ⟨false, 0, false⟩), (0, ⟨true, 1, false⟩), (12, ⟨true, 0, false⟩)]), (18, [(1, ⟨false, 0, false⟩), (3, ⟨false, 0, false⟩), (4, ⟨false, 0, false⟩), (10, ⟨false, 0, false⟩), (11, ⟨false, 0, false⟩), (13, ⟨false, 0, false⟩), (17, ⟨false, 0, false⟩), (0, ⟨true, 1, false⟩), (12, ⟨true, 0, false⟩)])], [⟨true, 1, false⟩, ⟨false, 0, false⟩], []⟩
def s98 : SFun := ⟨5, 102, [], [(.tmp 10, ⟨true, 1, false⟩), (.tmp 11, ⟨false, 0, false⟩)],
 (.seq (.reg [⟨(some 10), .mv (.k .sn), none⟩,
  ⟨(some 11), .mv (.k (D.str [])), none⟩])
 (.seq (.seq (.reg [⟨(some 19), .mv (.t 2), none⟩,
  ⟨(some 20), .bin .lss (.t 19) (.k (D.int .i64 (2))), none⟩,
  ⟨(some 21), .mv (.t 20), none⟩,
  ⟨(some 22), .mv (.t 2), (some (21, false))⟩,
  ⟨(some 23), .bin .eql (.t 22) (.k (D.int .i64 (10))), (some (21, false))⟩,
  ⟨(some 24), .pick (.t 21) (.k (D.bool true)) (.t 23), none⟩,
  ⟨(some 25), .mv (.t 24), none⟩,
  ⟨(some 26), .mv (.t 2), (some (25, false))⟩,
  ⟨(some 27), .bin .gtr (.t 26) (.k (D.int .i64 (36))), (some (25, false))⟩,
  ⟨(some 28), .pick (.t 25) (.k (D.bool true)) (.t 27), none⟩])
 (.cond (.t 28)
 (.reg [⟨(some 29), .bad, none⟩,
  ⟨none, .bad, none⟩])
 .skip))
 (.seq (.reg [⟨(some 12), .alloc [(D.int .u8 (0)), (D.int .u8 (0)), (D.int .u8 (0)), (D.int .u8 (0)), (D.int .u8 (0)), (D.int .u8 (0)), (D.int .u8 (0)), (D.int .u8 (0)), (D.int .u8 (0)), (D.int .u8 (0)), (D.int .u8 (0)), (D.int .u8 (0)), (D.int .u8 (0)), (D.int .u8 (0)), (D.int .u8 (0)), (D.int .u8 (0)), (D.int .u8 (0)), (D.int .u8 (0)), (D.int .u8 (0)), (D.int .u8 (0)), (D.int .u8 (0)), (D.int .u8 (0)), (D.int .u8 (0)), (D.int .u8 (0)), (D.int .u8 (0)), (D.int .u8 (0)), (D.int .u8 (0)), (D.int .u8 (0)), (D.int .u8 (0)), (D.int .u8 (0)), (D.int .u8 (0)), (D.int .u8 (0)), (D.int .u8 (0)), (D.int .u8 (0)), (D.int .u8 (0)), (D.int .u8 (0)), (D.int .u8 (0)), (D.int .u8 (0)), (D.int .u8 (0)), (D.int .u8 (0)), (D.int .u8 (0)), (D.int .u8 (0)), (D.int .u8 (0)), (D.int .u8 (0)), (D.int .u8 (0)), (D.int .u8 (0)), (D.int .u8 (0)), (D.int .u8 (0)), (D.int .u8 (0)), (D.int .u8 (0)), (D.int .u8 (0)), (D.int .u8 (0)), (D.int .u8 (0)), (D.int .u8 (0)), (D.int .u8 (0)), (D.int .u8 (0)), (D.int .u8 (0)), (D.int .u8 (0)), (D.int .u8 (0)), (D.int .u8 (0)), (D.int .u8 (0)), (D.int .u8 (0)), (D.int .u8 (0)), (D.int .u8 (0)), (D.int .u8 (0))], none⟩])
 (.seq (.reg [⟨(some 13), .mv (.k (D.int .i64 (65))), none⟩])
 (.seq (.seq (.reg [⟨(some 30), .mv (.t 3), none⟩])
 (.cond (.t 30)
 (.reg [⟨(some 31), .mv (.t 1), none⟩,
  ⟨(some 32), .una .neg (.t 31), none⟩,
  ⟨(some 1), .mv (.t 32), none⟩])
 .skip))
 (.seq (.seq (.reg [⟨(some 33), .mv (.t 2), none⟩,
  ⟨(some 34), .call false 99 [(.t 33)], none⟩])
 (.cond (.t 34)
 (.seq (.reg [⟨(some 35), .mv (.t 2), none⟩,
  ⟨(some 36), .cvi .u64 (.t 35), none⟩,
  ⟨(some 37), .call false 446 [(.t 36)], none⟩,
  ⟨(some 38), .cvi .u64 (.t 37), none⟩,
  ⟨(some 14), .mv (.t 38), none⟩])
 (.seq (.reg [⟨(some 39), .mv (.t 2), none⟩,
  ⟨(some 40), .cvi .u64 (.t 39), none⟩,
  ⟨(some 15), .mv (.t 40), none⟩])
 (.seq (.reg [⟨(some 41), .mv (.t 2), none⟩,
  ⟨(some 42), .cvi .u64 (.t 41), none⟩,
  ⟨(some 43), .bin .sub (.t 42) (.k (D.int .u64 (1))), none⟩,
  ⟨(some 16), .mv (.t 43), none⟩])
 (.seq (.block 0 (.loop [(1, ⟨false, 0, false⟩), (3, ⟨false, 0, false⟩), (4, ⟨false, 0, false⟩), (10, ⟨false, 0, false⟩), (11, ⟨false, 0, false⟩), (13, ⟨false, 0, false⟩), (14, ⟨false, 0, false⟩), (15, ⟨false, 0, false⟩), (16, ⟨false, 0, false⟩), (0, ⟨true, 1, false⟩), (12, ⟨true, 0, false⟩)]
 (.seq (.seq (.reg [⟨(some 44), .mv (.t 1), none⟩,
  ⟨(some 45), .mv (.t 15), none⟩,
  ⟨(some 46), .bin .geq (.t 44) (.t 45), none⟩])
 (.cond (.t 46)
 .skip
 (.exit 0)))
 (.block 1 (.seq (.reg [⟨(some 47), .mv (.t 13), none⟩,
  ⟨(some 48), .bin .sub (.t 47) (.k (D.int .i64 (1))), none⟩,
  ⟨(some 13), .mv (.t 48), none⟩])
 (.seq (.reg [⟨(some 49), .mv (.t 13), none⟩,
  ⟨(some 50), .mv (.t 1), none⟩,
  ⟨(some 51), .mv (.t 16), none⟩,
  ⟨(some 52), .bin .and (.t 50) (.t 51), none⟩,
  ⟨(some 53), .ixt (.k (D.str [48, 49, 50, 51, 52, 53, 54, 55, 56, 57, 97, 98, 99, 100, 101, 102, 103, 104, 105, 106, 107, 108, 109, 110, 111, 112, 113, 114, 115, 116, 117, 118, 119, 120, 121, 122])) (.t 52), none⟩,
  ⟨(some 54), .ixa 65 1 (.t 12) (.t 49), none⟩,
  ⟨none, .store 1 (.t 54) (.t 53), none⟩])
 (.reg [⟨(some 55), .mv (.t 1), none⟩,
  ⟨(some 56), .mv (.t 14), none⟩,
  ⟨(some 57), .bin .shr (.t 55) (.t 56), none⟩,
  ⟨(some 1), .mv (.t 57), none⟩])))))))
 (.seq (.reg [⟨(some 58), .mv (.t 13), none⟩,
  ⟨(some 59), .bin .sub (.t 58) (.k (D.int .i64 (1))), none⟩,
  ⟨(some 13), .mv (.t 59), none⟩])
 (.reg [⟨(some 60), .mv (.t 13), none⟩,
  ⟨(some 61), .mv (.t 1), none⟩,
  ⟨(some 62), .ixt (.k (D.str [48, 49, 50, 51, 52, 53, 54, 55, 56, 57, 97, 98, 99, 100, 101, 102, 103, 104, 105, 106, 107, 108, 109, 110, 111, 112, 113, 114, 115, 116, 117, 118, 119, 120, 121, 122])) (.t 61), none⟩,
  ⟨(some 63), .ixa 65 1 (.t 12) (.t 60), none⟩,
  ⟨none, .store 1 (.t 63) (.t 62), none⟩]))))))
 (.seq (.reg [⟨(some 64), .mv (.t 2), none⟩,
  ⟨(some 65), .cvi .u64 (.t 64), none⟩,
  ⟨(some 17), .mv (.t 65), none⟩])
 (.seq (.block 2 (.loop [(1, ⟨false, 0, false⟩), (3, ⟨false, 0, false⟩), (4, ⟨false, 0, false⟩), (10, ⟨false, 0, false⟩), (11, ⟨false, 0, false⟩), (13, ⟨false, 0, false⟩), (17, ⟨false, 0, false⟩), (0, ⟨true, 1, false⟩), (12, ⟨true, 0, false⟩)]
 (.seq (.seq (.reg [⟨(some 66), .mv (.t 1), none⟩,
  ⟨(some 67), .mv (.t 17), none⟩,
  ⟨(some 68), .bin .geq (.t 66) (.t 67), none⟩])
 (.cond (.t 68)
 .skip
 (.exit 2)))
 (.block 3 (.seq (.reg [⟨(some 69), .mv (.t 13), none⟩,
  ⟨(some 70), .bin .sub (.t 69) (.k (D.int .i64 (1))), none⟩,
  ⟨(some 13), .mv (.t 70), none⟩])
 (.seq (.reg [⟨(some 71), .mv (.t 1), none⟩,
  ⟨(some 72), .mv (.t 17), none⟩,
  ⟨(some 73), .bin .quo (.t 71) (.t 72), none⟩,
  ⟨(some 18), .mv (.t 73), none⟩])
 (.seq (.reg [⟨(some 74), .mv (.t 13), none⟩,
  ⟨(some 75), .mv (.t 1), none⟩,
  ⟨(some 76), .mv (.t 18), none⟩,
  ⟨(some 77), .mv (.t 17), none⟩,
  ⟨(some 78), .bin .mul (.t 76) (.t 77), none⟩,
  ⟨(some 79), .bin .sub (.t 75) (.t 78), none⟩,
  ⟨(some 80), .ixt (.k (D.str [48, 49, 50, 51, 52, 53, 54, 55, 56, 57, 97, 98, 99, 100, 101, 102, 103, 104, 105, 106, 107, 108, 109, 110, 111, 112, 113, 114, 115, 116, 117, 118, 119, 120, 121, 122])) (.t 79), none⟩,
  ⟨(some 81), .ixa 65 1 (.t 12) (.t 74), none⟩,
  ⟨none, .store 1 (.t 81) (.t 80), none⟩])
 (.reg [⟨(some 82), .mv (.t 18), none⟩,
  ⟨(some 1), .mv (.t 82), none⟩]))))))))
 (.seq (.reg [⟨(some 83), .mv (.t 13), none⟩,
  ⟨(some 84), .bin .sub (.t 83) (.k (D.int .i64 (1))), none⟩,
  ⟨(some 13), .mv (.t 84), none⟩])
 (.reg [⟨(some 85), .mv (.t 13), none⟩,
  ⟨(some 86), .mv (.t 1), none⟩,
  ⟨(some 87), .ixt (.k (D.str [48, 49, 50, 51, 52, 53, 54, 55, 56, 57, 97, 98, 99, 100, 101, 102, 103, 104, 105, 106, 107, 108, 109, 110, 111, 112, 113, 114, 115, 116, 117, 118, 119, 120, 121, 122])) (.t 86), none⟩,
  ⟨(some 88), .ixa 65 1 (.t 12) (.t 85), none⟩,
  ⟨none, .store 1 (.t 88) (.t 87), none⟩]))))))
 (.seq (.seq (.reg [⟨(some 89), .mv (.t 3), none⟩])
 (.cond (.t 89)
 (.seq (.reg [⟨(some 90), .mv (.t 13), none⟩,
  ⟨(some 91), .bin .sub (.t 90) (.k (D.int .i64 (1))), none⟩,
  ⟨(some 13), .mv (.t 91), none⟩])
 (.reg [⟨(some 92), .mv (.t 13), none⟩,
  ⟨(some 93), .ixa 65 1 (.t 12) (.t 92), none⟩,
  ⟨none, .store 1 (.t 93) (.k (D.int .u8 (45))), none⟩]))
 .skip))
 (.seq (.seq (.reg [⟨(some 94), .mv (.t 4), none⟩])
 (.cond (.t 94)
 (.seq (.reg [⟨(some 95), .mv (.t 0), none⟩,
  ⟨(some 96), .mv (.t 13), none⟩,
  ⟨(some 97), .bad, none⟩,
  ⟨(some 98), .append 1 1 (.t 95) (.t 97), none⟩,
  ⟨(some 10), .mv (.t 98), none⟩])
 .ret)
 .skip))
 (.seq (.reg [⟨(some 99), .mv (.t 13), none⟩,
  ⟨(some 100), .bad, none⟩,
  ⟨(some 101), .b2s (.t 100), none⟩,
  ⟨(some 11), .mv (.t 101), none⟩])
 .ret)))))))))⟩
def a94 : Ann := ⟨[], [⟨false, 0, false⟩], []⟩
def s94 : SFun := ⟨2, 54, [], [(.tmp 4, ⟨false, 0, false⟩)],
 (.seq (.reg [⟨(some 4), .mv (.k (D.str [])), none⟩])
 (.seq (.seq (.reg [⟨(some 10), .mv (.t 1), none⟩,
  ⟨(some 11), .bin .eql (.t 10) (.k (D.int .i64 (10))), none⟩])
 (.cond (.t 11)
 (.seq (.seq (.reg [⟨(some 12), .mv (.t 0), none⟩,
  ⟨(some 13), .bin .leq (.k (D.int .i64 (0))) (.t 12), none⟩,
  ⟨(some 14), .mv (.t 13), none⟩,
  ⟨(some 15), .mv (.t 0), (some (14, true))⟩,
  ⟨(some 16), .bin .lss (.t 15) (.k (D.int .i64 (100))), (some (14, true))⟩,
  ⟨(some 17), .pick (.t 14) (.t 16) (.k (D.bool false)), none⟩])
 (.cond (.t 17)
 (.seq (.reg [⟨(some 18), .mv (.t 0), none⟩,
  ⟨(some 19), .call false 102 [(.t 18)], none⟩,
  ⟨(some 4), .mv (.t 19), none⟩])
 .ret)
 .skip))
 (.seq (.reg [⟨(some 5), .alloc [(D.int .u8 (0)), (D.int .u8 (0)), (D.int .u8 (0)), (D.int .u8 (0)), (D.int .u8 (0)), (D.int .u8 (0)), (D.int .u8 (0)), (D.int .u8 (0)), (D.int .u8 (0)), (D.int .u8 (0)), (D.int .u8 (0)), (D.int .u8 (0)), (D.int .u8 (0)), (D.int .u8 (0)), (D.int .u8 (0)), (D.int .u8 (0)), (D.int .u8 (0)), (D.int .u8 (0)), (D.int .u8 (0)), (D.int .u8 (0)), (D.int .u8 (0)), (D.int .u8 (0)), (D.int .u8 (0)), (D.int .u8 (0))], none⟩])
 (.seq (.reg [⟨(some 20), .mv (.t 0), none⟩,
  ⟨(some 21), .cvi .u64 (.t 20), none⟩,
  ⟨(some 6), .mv (.t 21), none⟩])
 (.seq (.seq (.reg [⟨(some 22), .mv (.t 0), none⟩,
  ⟨(some 23), .bin .lss (.t 22) (.k (D.int .i64 (0))), none⟩])
 (.cond (.t 23)
 (.reg [⟨(some 24), .mv (.t 6), none⟩,
  ⟨(some 25), .una .neg (.t 24), none⟩,
  ⟨(some 6), .mv (.t 25), none⟩])
 .skip))
 (.seq (.reg [⟨(some 26), .mv (.t 6), none⟩,
  ⟨(some 27), .call false 101 [(.t 26)], none⟩,
  ⟨(some 7), .mv (.t 27), none⟩])
 (.seq (.reg [⟨(some 28), .mv (.t 7), none⟩,
  ⟨(some 29), .bin .add (.k (D.int .i64 (1))) (.t 28), none⟩,
  ⟨(some 30), .bad, none⟩,
  ⟨(some 31), .mv (.t 6), none⟩,
  ⟨(some 32), .call false 97 [(.t 30), (.t 31)], none⟩])
 (.seq (.seq (.reg [⟨(some 33), .mv (.t 0), none⟩,
  ⟨(some 34), .bin .lss (.t 33) (.k (D.int .i64 (0))), none⟩])
 (.cond (.t 34)
 (.seq (.reg [⟨(some 35), .ixa 24 1 (.t 5) (.k (D.int .i64 (0))), none⟩,
  ⟨none, .store 1 (.t 35) (.k (D.int .u8 (45))), none⟩])
 (.seq (.reg [⟨(some 36), .mv (.t 7), none⟩,
  ⟨(some 37), .bin .add (.k (D.int .i64 (1))) (.t 36), none⟩,
  ⟨(some 38), .bad, none⟩,
  ⟨(some 39), .b2s (.t 38), none⟩,
  ⟨(some 4), .mv (.t 39), none⟩])
 .ret))
 .skip))
 (.seq (.reg [⟨(some 40), .mv (.t 7), none⟩,
  ⟨(some 41), .bin .add (.k (D.int .i64 (1))) (.t 40), none⟩,
  ⟨(some 42), .bad, none⟩,
  ⟨(some 43), .b2s (.t 42), none⟩,
  ⟨(some 4), .mv (.t 43), none⟩])
 .ret))))))))
 .skip))
 (.seq (.reg [⟨(some 45), .mv (.t 0), none⟩,
  ⟨(some 46), .cvi .u64 (.t 45), none⟩,
  ⟨(some 47), .mv (.t 1), none⟩,
  ⟨(some 48), .mv (.t 0), none⟩,
  ⟨(some 49), .bin .lss (.t 48) (.k (D.int .i64 (0))), none⟩,
  ⟨(some 50), .call false 98 [(.k .sn), (.t 46), (.t 47), (.t 49), (.k (D.bool false))], none⟩,
  ⟨(some 44), .mv (.t 50), none⟩,
  ⟨(some 51), .ext (.t 44) 0, none⟩,
  ⟨(some 52), .ext (.t 44) 1, none⟩,
  ⟨(some 8), .mv (.t 51), none⟩,
  ⟨(some 9), .mv (.t 52), none⟩])
 (.seq (.reg [⟨(some 53), .mv (.t 9), none⟩,
  ⟨(some 4), .mv (.t 53), none⟩])
 .ret))))⟩
def a95 : Ann := ⟨[], [⟨false, 0, false⟩], []⟩
def s95 : SFun := ⟨1, 5, [], [(.tmp 2, ⟨false, 0, false⟩)],
 (.seq (.reg [⟨(some 2), .mv (.k (D.str [])), none⟩])
 (.seq (.reg [⟨(some 3), .mv (.t 0), none⟩,
  ⟨(some 4), .call false 94 [(.t 3), (.k (D.int .i64 (10)))], none⟩,
  ⟨(some 2), .mv (.t 4), none⟩])
 .ret))⟩
def a466 : Ann := ⟨[], [⟨false, 0, false⟩], []⟩
def s466 : SFun := ⟨1, 5, [], [(.tmp 2, ⟨false, 0, false⟩)],
 (.seq (.reg [⟨(some 2), .mv (.k (D.str [])), none⟩])
 (.seq (.reg [⟨(some 3), .mv (.t 0), none⟩,
  ⟨(some 4), .call false 95 [(.t 3)], none⟩,
  ⟨(some 2), .mv (.t 4), none⟩])
 .ret))⟩
def a357 : Ann := ⟨[], [⟨false, 0, false⟩], []⟩
def s357 : SFun := ⟨2, 11, [], [(.tmp 4, ⟨false, 0, false⟩)],
 (.seq (.reg [⟨(some 4), .mv (.k (D.str [])), none⟩])
 (.seq (.reg [⟨(some 5), .mv (.t 0), none⟩,
  ⟨(some 6), .call false 466 [(.t 5)], none⟩,
  ⟨(some 7), .bin .add (.t 6) (.k (D.str [59])), none⟩,
  ⟨(some 8), .mv (.t 1), none⟩,
  ⟨(some 9), .call false 466 [(.t 8)], none⟩,
  ⟨(some 10), .bin .add (.t 7) (.t 9), none⟩,
  ⟨(some 4), .mv (.t 10), none⟩])
 .ret))⟩
def a336 : Ann := ⟨[], [⟨false, 0, false⟩], []⟩
def s336 : SFun := ⟨2, 29, [], [(.tmp 4, ⟨false, 0, false⟩)],
 (.seq (.reg [⟨(some 2), .box 29 (.t 0), none⟩,
  ⟨(some 4), .mv (.k (D.int .i64 (0))), none⟩])
 (.seq (.reg [⟨(some 8), .mkm, none⟩,
  ⟨(some 9), .fad 18 (.t 2), none⟩,
  ⟨(some 10), .load false 1 (.t 9), none⟩,
  ⟨none, .mup false [1] (.t 8) (.k (D.int .i64 (1))) (.t 10), none⟩,
  ⟨(some 11), .fad 16 (.t 2), none⟩,
  ⟨(some 12), .load false 1 (.t 11), none⟩,
  ⟨none, .mup false [1] (.t 8) (.k (D.int .i64 (6))) (.t 12), none⟩,
  ⟨(some 13), .fad 15 (.t 2), none⟩,
  ⟨(some 14), .load false 1 (.t 13), none⟩,
  ⟨none, .mup false [1] (.t 8) (.k (D.int .i64 (7))) (.t 14), none⟩,
  ⟨(some 15), .fad 17 (.t 2), none⟩,
  ⟨(some 16), .load false 1 (.t 15), none⟩,
  ⟨none, .mup false [1] (.t 8) (.k (D.int .i64 (25))) (.t 16), none⟩,
  ⟨(some 17), .mv (.t 8), none⟩,
  ⟨(some 5), .mv (.t 17), none⟩])
 (.seq (.reg [⟨(some 19), .mv (.t 5), none⟩,
  ⟨(some 20), .mv (.t 1), none⟩,
  ⟨(some 21), .lkp true false [1] (D.bool false) (.t 19) (.t 20), none⟩,
  ⟨(some 18), .mv (.t 21), none⟩,
  ⟨(some 22), .ext (.t 18) 0, none⟩,
  ⟨(some 23), .ext (.t 18) 1, none⟩,
  ⟨(some 6), .mv (.t 22), none⟩,
  ⟨(some 7), .mv (.t 23), none⟩])
 (.seq (.block 0 (.seq (.reg [⟨(some 25), .mv (.t 7), none⟩,
  ⟨(some 26), .una .not (.t 25), none⟩,
  ⟨(some 24), .mv (.t 26), none⟩])
 (.cond (.t 24)
 (.seq (.reg [⟨(some 4), .mv (.k (D.int .i64 (0))), none⟩])
 .ret)
 (.seq (.reg [⟨(some 28), .mv (.t 6), none⟩,
  ⟨(some 27), .mv (.t 28), none⟩])
 (.cond (.t 27)
 (.seq (.reg [⟨(some 4), .mv (.k (D.int .i64 (1))), none⟩])
 .ret)
 .skip)))))
 (.seq (.reg [⟨(some 4), .mv (.k (D.int .i64 (2))), none⟩])
 .ret)))))⟩
def a356 : Ann := ⟨[], [⟨true, 1, false⟩], []⟩
def s356 : SFun := ⟨2, 52, [], [(.tmp 4, ⟨true, 1, false⟩)],
 (.seq (.reg [⟨(some 2), .box 29 (.t 0), none⟩,
  ⟨(some 3), .box 7 (.t 1), none⟩,
  ⟨(some 4), .mv (.k .sn), none⟩])
 (.seq (.seq (.reg [⟨(some 9), .load true 7 (.t 3), none⟩,
  ⟨(some 10), .call false 358 [(.t 9)], none⟩,
  ⟨(some 8), .mv (.t 10), none⟩,
  ⟨(some 11), .ext (.t 8) 0, none⟩,
  ⟨(some 12), .ext (.t 8) 1, none⟩,
  ⟨(some 5), .mv (.t 11), none⟩,
  ⟨(some 6), .mv (.t 12), none⟩])
 (.seq (.reg [⟨(some 13), .mv (.t 5), none⟩])
 (.block 0 (.seq (.reg [⟨(some 15), .bin .eql (.t 13) (.k (D.int .i64 (1))), none⟩,
  ⟨(some 14), .mv (.t 15), none⟩])
 (.cond (.t 14)
 (.seq (.reg [⟨(some 16), .bsl true 1 4 [(D.int .u8 (0))] [(0, (.k (D.int .u8 (27)))), (1, (.k (D.int .u8 (91)))), (2, (.k (D.int .u8 (48)))), (3, (.k (D.int .u8 (110))))], none⟩,
  ⟨(some 17), .cvb (.t 16), none⟩,
  ⟨(some 4), .mv (.t 17), none⟩])
 .ret)
 (.seq (.reg [⟨(some 19), .bin .eql (.t 13) (.k (D.int .i64 (2))), none⟩,
  ⟨(some 18), .mv (.t 19), none⟩])
 (.cond (.t 18)
 (.seq (.reg [⟨(some 20), .fad 3 (.t 2), none⟩,
  ⟨(some 21), .load false 1 (.t 20), none⟩,
  ⟨(some 7), .mv (.t 21), none⟩])
 (.seq (.seq (.reg [⟨(some 22), .fad 16 (.t 2), none⟩,
  ⟨(some 23), .load false 1 (.t 22), none⟩])
 (.cond (.t 23)
 (.reg [⟨(some 24), .mv (.t 7), none⟩,
  ⟨(some 25), .fad 6 (.t 2), none⟩,
  ⟨(some 26), .load false 1 (.t 25), none⟩,
  ⟨(some 27), .bin .sub (.t 24) (.t 26), none⟩,
  ⟨(some 28), .mx [(.t 27), (.k (D.int .i64 (0)))], none⟩,
  ⟨(some 7), .mv (.t 28), none⟩])
 .skip))
 (.seq (.reg [⟨(some 29), .mv (.t 7), none⟩,
  ⟨(some 30), .bin .add (.t 29) (.k (D.int .i64 (1))), none⟩,
  ⟨(some 31), .fad 4 (.t 2), none⟩,
  ⟨(some 32), .load false 1 (.t 31), none⟩,
  ⟨(some 33), .bin .add (.t 32) (.k (D.int .i64 (1))), none⟩,
  ⟨(some 34), .call false 357 [(.t 30), (.t 33)], none⟩,
  ⟨(some 35), .bin .add (.k (D.str [27, 91])) (.t 34), none⟩,
  ⟨(some 36), .bin .add (.t 35) (.k (D.str [82])), none⟩,
  ⟨(some 37), .s2b (.t 36), none⟩,
  ⟨(some 4), .mv (.t 37), none⟩])
 .ret)))
 (.seq (.reg [⟨(some 39), .bin .eql (.t 13) (.k (D.int .i64 (3))), none⟩,
  ⟨(some 38), .mv (.t 39), none⟩])
 (.cond (.t 38)
 (.seq (.reg [⟨(some 40), .bsl true 1 5 [(D.int .u8 (0))] [(0, (.k (D.int .u8 (27)))), (1, (.k (D.int .u8 (91)))), (2, (.k (D.int .u8 (63)))), (3, (.k (D.int .u8 (54)))), (4, (.k (D.int .u8 (99))))], none⟩,
  ⟨(some 41), .cvb (.t 40), none⟩,
  ⟨(some 4), .mv (.t 41), none⟩])
 .ret)
 (.seq (.reg [⟨(some 43), .bin .eql (.t 13) (.k (D.int .i64 (4))), none⟩,
  ⟨(some 42), .mv (.t 43), none⟩])
 (.cond (.t 42)
 (.seq (.reg [⟨(some 44), .mv (.t 6), none⟩,
  ⟨(some 45), .load true 29 (.t 2), none⟩,
  ⟨(some 46), .mv (.t 6), none⟩,
  ⟨(some 47), .call false 336 [(.t 45), (.t 46)], none⟩,
  ⟨(some 48), .call false 357 [(.t 44), (.t 47)], none⟩,
  ⟨(some 49), .bin .add (.k (D.str [27, 91, 63])) (.t 48), none⟩,
  ⟨(some 50), .bin .add (.t 49) (.k (D.str [36, 121])), none⟩,
  ⟨(some 51), .s2b (.t 50), none⟩,
  ⟨(some 4), .mv (.t 51), none⟩])
 .ret)
 .skip)))))))))))
 (.seq (.reg [⟨(some 4), .mv (.k .sn), none⟩])
 .ret)))⟩
def a355 : Ann := ⟨[], [⟨false, 0, false⟩], []⟩
def s355 : SFun := ⟨1, 12, [], [(.tmp 2, ⟨false, 0, false⟩)],
 (.seq (.reg [⟨(some 1), .box 7 (.t 0), none⟩,
  ⟨(some 2), .mv (.k (D.bool false)), none⟩])
 (.seq (.reg [⟨(some 6), .load true 7 (.t 1), none⟩,
  ⟨(some 7), .call false 358 [(.t 6)], none⟩,
  ⟨(some 5), .mv (.t 7), none⟩,
  ⟨(some 8), .ext (.t 5) 0, none⟩,
  ⟨(some 9), .ext (.t 5) 1, none⟩,
  ⟨(some 3), .mv (.t 8), none⟩,
  ⟨(some 4), .mv (.t 9), none⟩])
 (.seq (.reg [⟨(some 10), .mv (.t 3), none⟩,
  ⟨(some 11), .bin .neq (.t 10) (.k (D.int .i64 (0))), none⟩,
  ⟨(some 2), .mv (.t 11), none⟩])
 .ret)))⟩
def a107 : Ann := ⟨[], [⟨false, 0, false⟩], []⟩
def s107 : SFun := ⟨0, 2, [], [(.cell 0 true 3, ⟨false, 0, false⟩)],
 (.seq (.reg [⟨(some 0), .alloc [(D.int .i64 (0)), (D.int .i64 (0)), (D.int .i64 (0))], none⟩])
 (.seq (.reg [⟨(some 1), .build [(D.int .i64 (0)), (D.int .i64 (0)), (D.int .i64 (0))] [(0, 1, (.k (D.int .i64 (-1)))), (1, 1, (.k (D.int .i64 (-1))))], none⟩,
  ⟨none, .store 3 (.t 0) (.t 1), none⟩])
 .ret))⟩
def a106 : Ann := ⟨[], [⟨false, 0, false⟩], []⟩
def s106 : SFun := ⟨1, 5, [], [(.cell 2 true 5, ⟨false, 0, false⟩)],
 (.seq (.reg [⟨(some 1), .box 3 (.t 0), none⟩,
  ⟨(some 2), .alloc [(D.int .i32 (0)), (D.int .i64 (0)), (D.int .i64 (0)), (D.int .i64 (0)), (D.int .i64 (0))], none⟩])
 (.seq (.reg [⟨(some 3), .load true 3 (.t 1), none⟩,
  ⟨(some 4), .build [(D.int .i32 (0)), (D.int .i64 (0)), (D.int .i64 (0)), (D.int .i64 (0)), (D.int .i64 (0))] [(0, 1, (.k (D.int .i32 (32)))), (2, 3, (.t 3))], none⟩,
  ⟨none, .store 5 (.t 2) (.t 4), none⟩])
 .ret))⟩
def a444 : Ann := ⟨[], [⟨false, 0, false⟩, ⟨false, 0, false⟩], []⟩
def s444 : SFun := ⟨2, 17, [], [(.tmp 4, ⟨false, 0, false⟩), (.tmp 5, ⟨false, 0, false⟩)],
 (.seq (.reg [⟨(some 4), .mv (.k (D.int .u32 (0))), none⟩,
  ⟨(some 5), .mv (.k (D.int .u32 (0))), none⟩])
 (.seq (.reg [⟨(some 7), .mv (.t 0), none⟩,
  ⟨(some 8), .cvi .u64 (.t 7), none⟩,
  ⟨(some 9), .mv (.t 1), none⟩,
  ⟨(some 10), .cvi .u64 (.t 9), none⟩,
  ⟨(some 11), .bin .mul (.t 8) (.t 10), none⟩,
  ⟨(some 6), .mv (.t 11), none⟩])
 (.seq (.reg [⟨(some 12), .mv (.t 6), none⟩,
  ⟨(some 13), .bin .shr (.t 12) (.k (D.int .u64 (32))), none⟩,
  ⟨(some 14), .cvi .u32 (.t 13), none⟩,
  ⟨(some 15), .mv (.t 6), none⟩,
  ⟨(some 16), .cvi .u32 (.t 15), none⟩,
  ⟨(some 4), .mv (.t 14), none⟩,
  ⟨(some 5), .mv (.t 16), none⟩])
 .ret)))⟩
def a445 : Ann := ⟨[], [⟨false, 0, false⟩, ⟨false, 0, false⟩], []⟩
def s445 : SFun := ⟨2, 51, [], [(.tmp 4, ⟨false, 0, false⟩), (.tmp 5, ⟨false, 0, false⟩)],
 (.seq (.reg [⟨(some 4), .mv (.k (D.int .u64 (0))), none⟩,
  ⟨(some 5), .mv (.k (D.int .u64 (0))), none⟩])
 (.seq (.reg [⟨(some 14), .mv (.t 0), none⟩,
  ⟨(some 15), .bin .and (.t 14) (.k (D.int .u64 (4294967295))), none⟩,
  ⟨(some 6), .mv (.t 15), none⟩])
 (.seq (.reg [⟨(some 16), .mv (.t 0), none⟩,
  ⟨(some 17), .bin .shr (.t 16) (.k (D.int .u64 (32))), none⟩,
  ⟨(some 7), .mv (.t 17), none⟩])
 (.seq (.reg [⟨(some 18), .mv (.t 1), none⟩,
  ⟨(some 19), .bin .and (.t 18) (.k (D.int .u64 (4294967295))), none⟩,
  ⟨(some 8), .mv (.t 19), none⟩])
 (.seq (.reg [⟨(some 20), .mv (.t 1), none⟩,
  ⟨(some 21), .bin .shr (.t 20) (.k (D.int .u64 (32))), none⟩,
  ⟨(some 9), .mv (.t 21), none⟩])
 (.seq (.reg [⟨(some 22), .mv (.t 6), none⟩,
  ⟨(some 23), .mv (.t 8), none⟩,
  ⟨(some 24), .bin .mul (.t 22) (.t 23), none⟩,
  ⟨(some 10), .mv (.t 24), none⟩])
 (.seq (.reg [⟨(some 25), .mv (.t 7), none⟩,
  ⟨(some 26), .mv (.t 8), none⟩,
  ⟨(some 27), .bin .mul (.t 25) (.t 26), none⟩,
  ⟨(some 28), .mv (.t 10), none⟩,
  ⟨(some 29), .bin .shr (.t 28) (.k (D.int .u64 (32))), none⟩,
  ⟨(some 30), .bin .add (.t 27) (.t 29), none⟩,
  ⟨(some 11), .mv (.t 30), none⟩])
 (.seq (.reg [⟨(some 31), .mv (.t 11), none⟩,
  ⟨(some 32), .bin .and (.t 31) (.k (D.int .u64 (4294967295))), none⟩,
  ⟨(some 12), .mv (.t 32), none⟩])
 (.seq (.reg [⟨(some 33), .mv (.t 11), none⟩,
  ⟨(some 34), .bin .shr (.t 33) (.k (D.int .u64 (32))), none⟩,
  ⟨(some 13), .mv (.t 34), none⟩])
 (.seq (.reg [⟨(some 35), .mv (.t 12), none⟩,
  ⟨(some 36), .mv (.t 6), none⟩,
  ⟨(some 37), .mv (.t 9), none⟩,
  ⟨(some 38), .bin .mul (.t 36) (.t 37), none⟩,
  ⟨(some 39), .bin .add (.t 35) (.t 38), none⟩,
  ⟨(some 12), .mv (.t 39), none⟩])
 (.seq (.reg [⟨(some 40), .mv (.t 7), none⟩,
  ⟨(some 41), .mv (.t 9), none⟩,
  ⟨(some 42), .bin .mul (.t 40) (.t 41), none⟩,
  ⟨(some 43), .mv (.t 13), none⟩,
  ⟨(some 44), .bin .add (.t 42) (.t 43), none⟩,
  ⟨(some 45), .mv (.t 12), none⟩,
  ⟨(some 46), .bin .shr (.t 45) (.k (D.int .u64 (32))), none⟩,
  ⟨(some 47), .bin .add (.t 44) (.t 46), none⟩,
  ⟨(some 4), .mv (.t 47), none⟩])
 (.seq (.reg [⟨(some 48), .mv (.t 0), none⟩,
  ⟨(some 49), .mv (.t 1), none⟩,
  ⟨(some 50), .bin .mul (.t 48) (.t 49), none⟩,
  ⟨(some 5), .mv (.t 50), none⟩])
 .ret))))))))))))⟩
def a443 : Ann := ⟨[], [⟨false, 0, false⟩, ⟨false, 0, false⟩], []⟩
def s443 : SFun := ⟨2, 30, [], [(.tmp 4, ⟨false, 0, false⟩), (.tmp 5, ⟨false, 0, false⟩)],
 (.seq (.reg [⟨(some 4), .mv (.k (D.int .u64 (0))), none⟩,
  ⟨(some 5), .mv (.k (D.int .u64 (0))), none⟩])
 (.seq (.cond (.k (D.bool false))
 (.seq (.reg [⟨(some 11), .mv (.t 0), none⟩,
  ⟨(some 12), .cvi .u32 (.t 11), none⟩,
  ⟨(some 13), .mv (.t 1), none⟩,
  ⟨(some 14), .cvi .u32 (.t 13), none⟩,
  ⟨(some 15), .call false 444 [(.t 12), (.t 14)], none⟩,
  ⟨(some 10), .mv (.t 15), none⟩,
  ⟨(some 16), .ext (.t 10) 0, none⟩,
  ⟨(some 17), .ext (.t 10) 1, none⟩,
  ⟨(some 6), .mv (.t 16), none⟩,
  ⟨(some 7), .mv (.t 17), none⟩])
 (.seq (.reg [⟨(some 18), .mv (.t 6), none⟩,
  ⟨(some 19), .cvi .u64 (.t 18), none⟩,
  ⟨(some 20), .mv (.t 7), none⟩,
  ⟨(some 21), .cvi .u64 (.t 20), none⟩,
  ⟨(some 4), .mv (.t 19), none⟩,
  ⟨(some 5), .mv (.t 21), none⟩])
 .ret))
 .skip)
 (.seq (.reg [⟨(some 23), .mv (.t 0), none⟩,
  ⟨(some 24), .mv (.t 1), none⟩,
  ⟨(some 25), .call false 445 [(.t 23), (.t 24)], none⟩,
  ⟨(some 22), .mv (.t 25), none⟩,
  ⟨(some 26), .ext (.t 22) 0, none⟩,
  ⟨(some 27), .ext (.t 22) 1, none⟩,
  ⟨(some 8), .mv (.t 26), none⟩,
  ⟨(some 9), .mv (.t 27), none⟩])
 (.seq (.reg [⟨(some 28), .mv (.t 8), none⟩,
  ⟨(some 29), .mv (.t 9), none⟩,
  ⟨(some 4), .mv (.t 28), none⟩,
  ⟨(some 5), .mv (.t 29), none⟩])
 .ret))))⟩
def a465 : Ann := ⟨[(8, [(8, ⟨false, 0, false⟩), (7, ⟨true, 5, false⟩)])], [⟨true, 5, false⟩], []⟩
def s465 : SFun := ⟨2, 48, [], [(.tmp 4, ⟨true, 5, false⟩)],
 (.seq (.reg [⟨(some 4), .mv (.k .sn), none⟩])
 (.seq (.seq (.reg [⟨(some 9), .mv (.t 1), none⟩,
  ⟨(some 10), .bin .lss (.t 9) (.k (D.int .i64 (0))), none⟩])
 (.cond (.t 10)
 (.reg [⟨(some 11), .bad, none⟩,
  ⟨none, .bad, none⟩])
 .skip))
 (.seq (.reg [⟨(some 13), .mv (.t 0), none⟩,
  ⟨(some 14), .len (.t 13), none⟩,
  ⟨(some 15), .cvi .u64 (.t 14), none⟩,
  ⟨(some 16), .mv (.t 1), none⟩,
  ⟨(some 17), .cvi .u64 (.t 16), none⟩,
  ⟨(some 18), .call false 443 [(.t 15), (.t 17)], none⟩,
  ⟨(some 12), .mv (.t 18), none⟩,
  ⟨(some 19), .ext (.t 12) 0, none⟩,
  ⟨(some 20), .ext (.t 12) 1, none⟩,
  ⟨(some 5), .mv (.t 19), none⟩,
  ⟨(some 6), .mv (.t 20), none⟩])
 (.seq (.seq (.reg [⟨(some 21), .mv (.t 5), none⟩,
  ⟨(some 22), .bin .gtr (.t 21) (.k (D.int .u64 (0))), none⟩,
  ⟨(some 23), .mv (.t 22), none⟩,
  ⟨(some 24), .mv (.t 6), (some (23, false))⟩,
  ⟨(some 25), .bin .gtr (.t 24) (.k (D.int .u64 (9223372036854775807))), (some (23, false))⟩,
  ⟨(some 26), .pick (.t 23) (.k (D.bool true)) (.t 25), none⟩])
 (.cond (.t 26)
 (.reg [⟨(some 27), .bad, none⟩,
  ⟨none, .bad, none⟩])
 .skip))
 (.seq (.reg [⟨(some 28), .mv (.t 6), none⟩,
  ⟨(some 29), .cvi .i64 (.t 28), none⟩,
  ⟨(some 30), .mksl 5 40 [(D.int .i32 (0)), (D.int .i64 (0)), (D.int .i64 (0)), (D.int .i64 (0)), (D.int .i64 (0))] (.t 29), none⟩,
  ⟨(some 7), .mv (.t 30), none⟩])
 (.seq (.reg [⟨(some 31), .mv (.t 7), none⟩,
  ⟨(some 32), .mv (.t 0), none⟩,
  ⟨(some 33), .copy 5 (.t 31) (.t 32), none⟩,
  ⟨(some 8), .mv (.t 33), none⟩])
 (.seq (.block 0 (.loop [(8, ⟨false, 0, false⟩), (7, ⟨true, 5, false⟩)]
 (.seq (.seq (.reg [⟨(some 34), .mv (.t 8), none⟩,
  ⟨(some 35), .mv (.t 7), none⟩,
  ⟨(some 36), .len (.t 35), none⟩,
  ⟨(some 37), .bin .lss (.t 34) (.t 36), none⟩])
 (.cond (.t 37)
 .skip
 (.exit 0)))
 (.block 1 (.dreg [([], false, ⟨(some 38), .mv (.t 8), none⟩),
  ([0], false, ⟨(some 39), .mv (.t 7), none⟩),
  ([0, 1], false, ⟨(some 40), .mv (.t 8), none⟩),
  ([0], false, ⟨(some 41), .slc 5 (.t 39) (some (.t 40)) none, none⟩),
  ([0, 1, 2, 3], false, ⟨(some 42), .mv (.t 7), none⟩),
  ([0, 1, 2, 3, 4], false, ⟨(some 43), .mv (.t 8), none⟩),
  ([0, 1, 2, 3], false, ⟨(some 44), .slc 5 (.t 42) none (some (.t 43)), none⟩),
  ([0], false, ⟨(some 45), .copy 5 (.t 41) (.t 44), none⟩),
  ([], true, ⟨(some 46), .bin .add (.t 38) (.t 45), none⟩),
  ([], true, ⟨(some 8), .mv (.t 46), none⟩)])))))
 (.seq (.reg [⟨(some 47), .mv (.t 7), none⟩,
  ⟨(some 4), .mv (.t 47), none⟩])
 .ret))))))))⟩
def a151 : Ann := ⟨[], [⟨true, 0, false⟩], []⟩
def s151 : SFun := ⟨3, 23, [], [(.cell 6 true 3, ⟨true, 0, false⟩)],
 (.seq (.reg [⟨(some 5), .box 3 (.t 2), none⟩,
  ⟨(some 6), .alloc [(D.int .i64 (0)), (D.int .i64 (0)), .sn], none⟩])
 (.seq (.reg [⟨(some 7), .mv (.t 0), none⟩,
  ⟨(some 8), .mn [(.t 7), (.k (D.int .i64 (40)))], none⟩,
  ⟨(some 9), .mx [(.k (D.int .i64 (1))), (.t 8)], none⟩,
  ⟨(some 10), .mv (.t 1), none⟩,
  ⟨(some 11), .mn [(.t 10), (.k (D.int .i64 (60)))], none⟩,
  ⟨(some 12), .mx [(.k (D.int .i64 (1))), (.t 11)], none⟩,
  ⟨(some 0), .mv (.t 9), none⟩,
  ⟨(some 1), .mv (.t 12), none⟩])
 (.seq (.reg [⟨(some 13), .mv (.t 0), none⟩,
  ⟨(some 14), .mv (.t 1), none⟩,
  ⟨(some 15), .load true 3 (.t 5), none⟩,
  ⟨(some 16), .call false 106 [(.t 15)], none⟩,
  ⟨(some 17), .bsl false 5 1 [(D.int .i32 (0)), (D.int .i64 (0)), (D.int .i64 (0)), (D.int .i64 (0)), (D.int .i64 (0))] [(0, (.t 16))], none⟩,
  ⟨(some 18), .mv (.t 0), none⟩,
  ⟨(some 19), .mv (.t 1), none⟩,
  ⟨(some 20), .bin .mul (.t 18) (.t 19), none⟩,
  ⟨(some 21), .call false 465 [(.t 17), (.t 20)], none⟩,
  ⟨(some 22), .build [(D.int .i64 (0)), (D.int .i64 (0)), .sn] [(0, 1, (.t 13)), (1, 1, (.t 14)), (2, 1, (.t 21))], none⟩,
  ⟨none, .store 3 (.t 6) (.t 22), none⟩])
 .ret)))⟩
def a422 : Ann := ⟨[], [⟨false, 0, false⟩], []⟩
def s422 : SFun := ⟨1, 11, [], [(.tmp 2, ⟨false, 0, false⟩)],
 (.seq (.reg [⟨(some 2), .mv (.k (D.int .u64 (0))), none⟩])
 (.seq (.seq (.reg [⟨(some 3), .mv (.t 0), none⟩,
  ⟨(some 4), .bin .lss (.t 3) (.k (D.int .i64 (0))), none⟩,
  ⟨(some 5), .mv (.t 4), none⟩,
  ⟨(some 6), .mv (.t 0), (some (5, false))⟩,
  ⟨(some 7), .bin .geq (.t 6) (.k (D.int .i64 (64))), (some (5, false))⟩,
  ⟨(some 8), .pick (.t 5) (.k (D.bool true)) (.t 7), none⟩])
 (.cond (.t 8)
 (.seq (.reg [⟨(some 2), .mv (.k (D.int .u64 (0))), none⟩])
 .ret)
 .skip))
 (.seq (.reg [⟨(some 9), .mv (.t 0), none⟩,
  ⟨(some 10), .bin .shl (.k (D.int .u64 (1))) (.t 9), none⟩,
  ⟨(some 2), .mv (.t 10), none⟩])
 .ret)))⟩
def a419 : Ann := ⟨[(3, [(0, ⟨false, 0, false⟩), (3, ⟨false, 0, false⟩), (4, ⟨false, 0, false⟩)])], [⟨false, 0, false⟩], []⟩
def s419 : SFun := ⟨1, 16, [], [(.tmp 2, ⟨false, 0, false⟩)],
 (.seq (.reg [⟨(some 2), .mv (.k (D.int .u64 (0))), none⟩])
 (.seq (.reg [⟨(some 3), .mv (.k (D.int .u64 (0))), none⟩])
 (.seq (.seq (.reg [⟨(some 4), .mv (.k (D.int .i64 (8))), none⟩])
 (.block 0 (.loop [(0, ⟨false, 0, false⟩), (3, ⟨false, 0, false⟩), (4, ⟨false, 0, false⟩)]
 (.seq (.seq (.reg [⟨(some 5), .mv (.t 4), none⟩,
  ⟨(some 6), .mv (.t 0), none⟩,
  ⟨(some 7), .mn [(.t 6), (.k (D.int .i64 (64)))], none⟩,
  ⟨(some 8), .bin .lss (.t 5) (.t 7), none⟩])
 (.cond (.t 8)
 .skip
 (.exit 0)))
 (.seq (.block 1 (.reg [⟨(some 11), .mv (.t 3), none⟩,
  ⟨(some 12), .mv (.t 4), none⟩,
  ⟨(some 13), .call false 422 [(.t 12)], none⟩,
  ⟨(some 14), .bin .or (.t 11) (.t 13), none⟩,
  ⟨(some 3), .mv (.t 14), none⟩]))
 (.reg [⟨(some 9), .mv (.t 4), none⟩,
  ⟨(some 10), .bin .add (.t 9) (.k (D.int .i64 (8))), none⟩,
  ⟨(some 4), .mv (.t 10), none⟩]))))))
 (.seq (.reg [⟨(some 15), .mv (.t 3), none⟩,
  ⟨(some 2), .mv (.t 15), none⟩])
 .ret))))⟩
def a372 : Ann := ⟨[], [⟨false, 0, false⟩], []⟩
def s372 : SFun := ⟨2, 25, [], [(.cell 4 true 29, ⟨false, 0, false⟩)],
 (.seq (.reg [⟨(some 4), .alloc [(D.int .i64 (0)), (D.int .i64 (0)), .sn, (D.int .i64 (0)), (D.int .i64 (0)), (D.bool false), (D.int .i64 (0)), (D.int .i64 (0)), (D.int .i64 (0)), (D.int .i64 (0)), (D.int .i64 (0)), (D.int .u64 (0)), (D.int .u8 (0)), (D.int .u8 (0)), (D.int .i64 (0)), (D.bool false), (D.bool false), (D.bool false), (D.bool false), (D.bool false), (D.int .i64 (0)), (D.int .i64 (0)), (D.int .i64 (0)), (D.int .i64 (0)), (D.int .i64 (0)), (D.int .u8 (0)), (D.int .u8 (0)), (D.int .i64 (0)), (D.bool false)], none⟩])
 (.seq (.reg [⟨(some 7), .mv (.t 0), none⟩,
  ⟨(some 8), .mv (.t 1), none⟩,
  ⟨(some 9), .call false 107 [], none⟩,
  ⟨(some 10), .call false 151 [(.t 7), (.t 8), (.t 9)], none⟩,
  ⟨(some 5), .alloc [(D.int .i64 (0)), (D.int .i64 (0)), .sn], none⟩,
  ⟨none, .store 3 (.t 5) (.t 10), none⟩])
 (.seq (.reg [⟨(some 11), .build [(D.int .u8 (0)), (D.int .u8 (0))] [(0, 1, (.k (D.int .u8 (66)))), (1, 1, (.k (D.int .u8 (66))))], none⟩,
  ⟨(some 6), .alloc [(D.int .u8 (0)), (D.int .u8 (0))], none⟩,
  ⟨none, .store 2 (.t 6) (.t 11), none⟩])
 (.seq (.dreg [([], false, ⟨(some 12), .load true 3 (.t 5), none⟩),
  ([0], false, ⟨(some 13), .fad 0 (.t 5), none⟩),
  ([0], false, ⟨(some 14), .load false 1 (.t 13), none⟩),
  ([0], false, ⟨(some 15), .bin .sub (.t 14) (.k (D.int .i64 (1))), none⟩),
  ([0, 1, 2, 3], false, ⟨(some 16), .callr 107 [], none⟩),
  ([0, 1, 2, 3, 4], false, ⟨(some 17), .fad 1 (.t 5), none⟩),
  ([0, 1, 2, 3, 4], false, ⟨(some 18), .load false 1 (.t 17), none⟩),
  ([0, 1, 2, 3], false, ⟨(some 19), .callr 419 [(.t 18)], none⟩),
  ([0, 1, 2, 3, 4, 5, 6, 7], false, ⟨(some 20), .load true 2 (.t 6), none⟩),
  ([0, 1, 2, 3, 8], false, ⟨(some 21), .callr 107 [], none⟩),
  ([0, 1, 2, 3, 4, 5, 6, 7, 8, 9], false, ⟨(some 22), .load true 2 (.t 6), none⟩),
  ([0, 1, 2, 3, 8], false, ⟨(some 23), .build [(D.int .i64 (0)), (D.int .i64 (0)), (D.int .i64 (0)), (D.int .i64 (0)), (D.int .i64 (0)), (D.int .u8 (0)), (D.int .u8 (0)), (D.int .i64 (0)), (D.bool false)] [(2, 3, (.t 21)), (5, 2, (.t 22))], none⟩),
  ([], true, ⟨(some 24), .build [(D.int .i64 (0)), (D.int .i64 (0)), .sn, (D.int .i64 (0)), (D.int .i64 (0)), (D.bool false), (D.int .i64 (0)), (D.int .i64 (0)), (D.int .i64 (0)), (D.int .i64 (0)), (D.int .i64 (0)), (D.int .u64 (0)), (D.int .u8 (0)), (D.int .u8 (0)), (D.int .i64 (0)), (D.bool false), (D.bool false), (D.bool false), (D.bool false), (D.bool false), (D.int .i64 (0)), (D.int .i64 (0)), (D.int .i64 (0)), (D.int .i64 (0)), (D.int .i64 (0)), (D.int .u8 (0)), (D.int .u8 (0)), (D.int .i64 (0)), (D.bool false)] [(0, 3, (.t 12)), (7, 1, (.t 15)), (8, 3, (.t 16)), (11, 1, (.t 19)), (12, 2, (.t 20)), (15, 1, (.k (D.bool true))), (17, 1, (.k (D.bool true))), (20, 9, (.t 23))], none⟩),
  ([], true, ⟨none, .store 29 (.t 4) (.t 24), none⟩)])
 .ret))))⟩
def a199 : Ann := ⟨[], [⟨false, 0, false⟩], []⟩
def s199 : SFun := ⟨0, 31, [], [(.tmp 0, ⟨false, 0, false⟩)],
 (.seq (.reg [⟨(some 0), .mv (.k (D.bool false)), none⟩])
 (.seq (.reg [⟨(some 2), .call false 372 [(.k (D.int .i64 (5))), (.k (D.int .i64 (9)))], none⟩,
  ⟨(some 1), .alloc [(D.int .i64 (0)), (D.int .i64 (0)), .sn, (D.int .i64 (0)), (D.int .i64 (0)), (D.bool false), (D.int .i64 (0)), (D.int .i64 (0)), (D.int .i64 (0)), (D.int .i64 (0)), (D.int .i64 (0)), (D.int .u64 (0)), (D.int .u8 (0)), (D.int .u8 (0)), (D.int .i64 (0)), (D.bool false), (D.bool false), (D.bool false), (D.bool false), (D.bool false), (D.int .i64 (0)), (D.int .i64 (0)), (D.int .i64 (0)), (D.int .i64 (0)), (D.int .i64 (0)), (D.int .u8 (0)), (D.int .u8 (0)), (D.int .i64 (0)), (D.bool false)], none⟩,
  ⟨none, .store 29 (.t 1) (.t 2), none⟩])
 (.seq (.reg [⟨(some 3), .fad 3 (.t 1), none⟩,
  ⟨none, .store 1 (.t 3) (.k (D.int .i64 (2))), none⟩,
  ⟨(some 4), .fad 4 (.t 1), none⟩,
  ⟨none, .store 1 (.t 4) (.k (D.int .i64 (4))), none⟩])
 (.seq (.dreg [([], false, ⟨(some 5), .load true 29 (.t 1), none⟩),
  ([0], false, ⟨(some 6), .bsl false 1 1 [(D.int .i64 (0))] [(0, (.k (D.int .i64 (6))))], none⟩),
  ([0], false, ⟨(some 7), .callr 382 [(.k (D.int .u8 (110))), (.t 6)], none⟩),
  ([], true, ⟨(some 8), .call false 356 [(.t 5), (.t 7)], none⟩),
  ([], true, ⟨(some 9), .b2s (.t 8), none⟩),
  ([], true, ⟨(some 10), .bin .eql (.t 9) (.k (D.str [27, 91, 51, 59, 53, 82])), none⟩),
  ([], true, ⟨(some 11), .mv (.t 10), none⟩),
  ([], false, ⟨(some 12), .load true 29 (.t 1), (some (11, true))⟩),
  ([0], false, ⟨(some 13), .bsl false 1 1 [(D.int .i64 (0))] [(0, (.k (D.int .i64 (25))))], (some (11, true))⟩),
  ([0], false, ⟨(some 14), .build [(D.int .i64 (0)), (D.int .i32 (0)), (D.int .u8 (0)), (D.int .u8 (0)), (D.int .u8 (0)), .sn, (D.str [])] [(0, 1, (.k (D.int .i64 (4)))), (2, 1, (.k (D.int .u8 (63)))), (3, 1, (.k (D.int .u8 (36)))), (4, 1, (.k (D.int .u8 (112)))), (5, 1, (.t 13))], (some (11, true))⟩),
  ([], true, ⟨(some 15), .call false 356 [(.t 12), (.t 14)], (some (11, true))⟩),
  ([], true, ⟨(some 16), .b2s (.t 15), (some (11, true))⟩),
  ([], true, ⟨(some 17), .bin .eql (.t 16) (.k (D.str [27, 91, 63, 50, 53, 59, 49, 36, 121])), (some (11, true))⟩),
  ([], true, ⟨(some 18), .pick (.t 11) (.t 17) (.k (D.bool false)), none⟩),
  ([], true, ⟨(some 19), .mv (.t 18), none⟩),
  ([], true, ⟨(some 20), .call false 382 [(.k (D.int .u8 (99))), (.k .sn)], (some (19, true))⟩),
  ([], true, ⟨(some 21), .call false 355 [(.t 20)], (some (19, true))⟩),
  ([], true, ⟨(some 22), .pick (.t 19) (.t 21) (.k (D.bool false)), none⟩),
  ([], true, ⟨(some 23), .mv (.t 22), none⟩),
  ([], false, ⟨(some 24), .load true 29 (.t 1), (some (23, true))⟩),
  ([0], false, ⟨(some 25), .bsl false 1 1 [(D.int .i64 (0))] [(0, (.k (D.int .i64 (7))))], (some (23, true))⟩),
  ([0], false, ⟨(some 26), .callr 382 [(.k (D.int .u8 (110))), (.t 25)], (some (23, true))⟩),
  ([], true, ⟨(some 27), .call false 356 [(.t 24), (.t 26)], (some (23, true))⟩),
  ([], true, ⟨(some 28), .len (.t 27), (some (23, true))⟩),
  ([], true, ⟨(some 29), .bin .eql (.t 28) (.k (D.int .i64 (0))), (some (23, true))⟩),
  ([], true, ⟨(some 30), .pick (.t 23) (.t 29) (.k (D.bool false)), none⟩),
  ([], true, ⟨(some 0), .mv (.t 30), none⟩)])
 .ret))))⟩
def a200 : Ann := ⟨[], [⟨false, 0, false⟩], []⟩
def s200 : SFun := ⟨4, 58, [], [(.tmp 8, ⟨false, 0, false⟩)],
 (.seq (.reg [⟨(some 4), .box 13 (.t 0), none⟩,
  ⟨(some 5), .box 5 (.t 1), none⟩,
  ⟨(some 8), .mv (.k (D.bool false)), none⟩])
 (.seq (.reg [⟨(some 13), .load true 13 (.t 4), none⟩,
  ⟨(some 14), .call false 66 [(.t 13)], none⟩,
  ⟨(some 9), .alloc [(D.int .i64 (0)), (D.int .i64 (0)), .sn, (D.int .i64 (0)), (D.int .i64 (0)), (D.bool false), (D.int .i64 (0)), (D.int .i64 (0)), (D.int .i64 (0)), (D.int .i64 (0)), (D.int .i64 (0)), (D.int .u64 (0)), (D.int .u8 (0)), (D.int .u8 (0)), (D.int .i64 (0)), (D.bool false), (D.bool false), (D.bool false), (D.bool false), (D.bool false), (D.int .i64 (0)), (D.int .i64 (0)), (D.int .i64 (0)), (D.int .i64 (0)), (D.int .i64 (0)), (D.int .u8 (0)), (D.int .u8 (0)), (D.int .i64 (0)), (D.bool false)], none⟩,
  ⟨none, .store 29 (.t 9) (.t 14), none⟩])
 (.seq (.reg [⟨(some 15), .load true 5 (.t 5), none⟩,
  ⟨(some 16), .call false 63 [(.t 15)], none⟩,
  ⟨(some 10), .alloc [(D.int .i64 (0)), (D.int .i32 (0)), (D.int .u8 (0)), (D.int .u8 (0)), (D.int .u8 (0)), .sn, (D.str [])], none⟩,
  ⟨none, .store 7 (.t 10) (.t 16), none⟩])
 (.seq (.reg [⟨(some 17), .mv (.t 3), none⟩,
  ⟨(some 18), .call false 174 [(.t 17), (.k (D.int .i64 (-1))), (.k (D.int .i64 (30)))], none⟩,
  ⟨(some 11), .mv (.t 18), none⟩])
 (.seq (.seq (.reg [⟨(some 19), .mv (.t 2), none⟩,
  ⟨(some 20), .call false 174 [(.t 19), (.k (D.int .i64 (0))), (.k (D.int .i64 (4)))], none⟩])
 (.block 0 (.seq (.reg [⟨(some 22), .bin .eql (.t 20) (.k (D.int .i64 (0))), none⟩,
  ⟨(some 21), .mv (.t 22), none⟩])
 (.cond (.t 21)
 (.reg [⟨(some 23), .mv (.t 11), none⟩,
  ⟨(some 24), .bsl false 1 1 [(D.int .i64 (0))] [(0, (.t 23))], none⟩,
  ⟨(some 25), .call false 382 [(.k (D.int .u8 (110))), (.t 24)], none⟩,
  ⟨none, .store 7 (.t 10) (.t 25), none⟩])
 (.seq (.reg [⟨(some 27), .bin .eql (.t 20) (.k (D.int .i64 (1))), none⟩,
  ⟨(some 26), .mv (.t 27), none⟩])
 (.cond (.t 26)
 (.reg [⟨(some 28), .mv (.t 11), none⟩,
  ⟨(some 29), .bsl false 1 1 [(D.int .i64 (0))] [(0, (.t 28))], none⟩,
  ⟨(some 30), .call false 382 [(.k (D.int .u8 (99))), (.t 29)], none⟩,
  ⟨none, .store 7 (.t 10) (.t 30), none⟩])
 (.seq (.reg [⟨(some 32), .bin .eql (.t 20) (.k (D.int .i64 (2))), none⟩,
  ⟨(some 31), .mv (.t 32), none⟩])
 (.cond (.t 31)
 (.reg [⟨(some 33), .mv (.t 11), none⟩,
  ⟨(some 34), .bsl false 1 1 [(D.int .i64 (0))] [(0, (.t 33))], none⟩,
  ⟨(some 35), .build [(D.int .i64 (0)), (D.int .i32 (0)), (D.int .u8 (0)), (D.int .u8 (0)), (D.int .u8 (0)), .sn, (D.str [])] [(0, 1, (.k (D.int .i64 (4)))), (2, 1, (.k (D.int .u8 (63)))), (3, 1, (.k (D.int .u8 (36)))), (4, 1, (.k (D.int .u8 (112)))), (5, 1, (.t 34))], none⟩,
  ⟨none, .store 7 (.t 10) (.t 35), none⟩])
 (.seq (.reg [⟨(some 37), .bin .eql (.t 20) (.k (D.int .i64 (3))), none⟩,
  ⟨(some 36), .mv (.t 37), none⟩])
 (.cond (.t 36)
 (.reg [⟨(some 38), .build [(D.int .i64 (0)), (D.int .i32 (0)), (D.int .u8 (0)), (D.int .u8 (0)), (D.int .u8 (0)), .sn, (D.str [])] [(0, 1, (.k (D.int .i64 (4)))), (2, 1, (.k (D.int .u8 (62)))), (4, 1, (.k (D.int .u8 (99))))], none⟩,
  ⟨none, .store 7 (.t 10) (.t 38), none⟩])
 .skip))))))))))
 (.seq (.reg [⟨(some 39), .load true 29 (.t 9), none⟩,
  ⟨(some 40), .load true 7 (.t 10), none⟩,
  ⟨(some 41), .call false 265 [(.t 39), (.t 40)], none⟩,
  ⟨(some 12), .mv (.t 41), none⟩])
 (.seq (.reg [⟨(some 42), .load true 29 (.t 9), none⟩,
  ⟨(some 43), .load true 7 (.t 10), none⟩,
  ⟨(some 44), .call false 356 [(.t 42), (.t 43)], none⟩,
  ⟨(some 45), .b2s (.t 44), none⟩,
  ⟨(some 46), .mv (.t 12), none⟩,
  ⟨(some 47), .bin .eql (.t 45) (.t 46), none⟩,
  ⟨(some 48), .mv (.t 47), none⟩,
  ⟨(some 49), .load true 7 (.t 10), (some (48, true))⟩,
  ⟨(some 50), .call false 355 [(.t 49)], (some (48, true))⟩,
  ⟨(some 51), .mv (.t 12), (some (48, true))⟩,
  ⟨(some 52), .bin .neq (.t 51) (.k (D.str [])), (some (48, true))⟩,
  ⟨(some 53), .binb .eql (.t 50) (.t 52), (some (48, true))⟩,
  ⟨(some 54), .pick (.t 48) (.t 53) (.k (D.bool false)), none⟩,
  ⟨(some 55), .mv (.t 54), none⟩,
  ⟨(some 56), .call false 199 [], (some (55, true))⟩,
  ⟨(some 57), .pick (.t 55) (.t 56) (.k (D.bool false)), none⟩,
  ⟨(some 8), .mv (.t 57), none⟩])
 .ret)))))))⟩
def ns : List Nat := [441, 86, 87, 200, 66, 63, 174, 382, 265, 356, 355, 199, 64, 65, 457, 450, 276, 358, 357, 336, 372, 181, 180, 381, 466, 151, 107, 419, 95, 465, 106, 422, 94, 443, 102, 101, 97, 98, 444, 445, 100, 442, 96, 99, 446, 447, 448, 78, 79, 82, 83, 84, 85, 80, 81, 49, 50, 47, 48, 0, 60, 61, 59, 484, 485, 486, 487, 488, 88]
theorem nsND : ns.Nodup := by decide +kernel
def tab : List Row := [⟨174, 6, false, a174, .fn s174⟩, ⟨181, 21, false, a181, .fn s181⟩, ⟨180, 22, false, a180, .fn s180⟩, ⟨65, 13, false, a65, .fn s65⟩, ⟨64, 12, true, a64, .fn s64⟩, ⟨66, 4, true, a66, .fn s66⟩, ⟨63, 5, true, a63, .fn s63⟩, ⟨457, 14, false, a457, .fn s457⟩, ⟨450, 15, false, a450, .nil n450⟩, ⟨382, 7, true, a382, .fn s382⟩, ⟨276, 16, false, a276, .fn s276⟩, ⟨265, 8, false, a265, .fn s265⟩, ⟨381, 23, false, a381, .fn s381⟩, ⟨358, 17, false, a358, .fn s358⟩, ⟨102, 34, false, a102, .fn s102⟩, ⟨442, 41, false, a442, .fn s442⟩, ⟨100, 40, false, a100, .fn s100⟩, ⟨96, 42, false, a96, .fn s96⟩, ⟨101, 35, false, a101, .fn s101⟩, ⟨97, 36, false, a97, .fn s97⟩, ⟨99, 43, false, a99, .fn s99⟩, ⟨447, 45, false, a447, .fn s447⟩, ⟨448, 46, false, a448, .fn s448⟩, ⟨446, 44, false, a446, .fn s446⟩, ⟨98, 37, false, a98, .fn s98⟩, ⟨94, 32, false, a94, .fn s94⟩, ⟨95, 28, false, a95, .fn s95⟩, ⟨466, 24, false, a466, .fn s466⟩, ⟨357, 18, false, a357, .fn s357⟩, ⟨336, 19, false, a336, .fn s336⟩, ⟨356, 9, false, a356, .fn s356⟩, ⟨355, 10, false, a355, .fn s355⟩, ⟨107, 26, false, a107, .fn s107⟩, ⟨106, 30, false, a106, .fn s106⟩, ⟨444, 38, false, a444, .fn s444⟩, ⟨445, 39, false, a445, .fn s445⟩, ⟨443, 33, false, a443, .fn s443⟩, ⟨465, 29, false, a465, .fn s465⟩, ⟨151, 25, true, a151, .fn s151⟩, ⟨422, 31, false, a422, .fn s422⟩, ⟨419, 27, false, a419, .fn s419⟩, ⟨372, 20, true, a372, .fn s372⟩, ⟨199, 11, false, a199, .fn s199⟩, ⟨200, 3, false, a200, .fn s200⟩]
theorem ok174 : RowOK Tryd.prog ns ⟨174, 6, false, a174, .fn s174⟩ := ⟨by kernel_rfl, by kernel_rfl, by show compF Tryd.prog (numOf ns) a174 6 = some s174; kernel_rfl⟩
theorem ok181 : RowOK Tryd.prog ns ⟨181, 21, false, a181, .fn s181⟩ := ⟨by kernel_rfl, by kernel_rfl, by show compF Tryd.prog (numOf ns) a181 21 = some s181; kernel_rfl⟩
theorem ok180 : RowOK Tryd.prog ns ⟨180, 22, false, a180, .fn s180⟩ := ⟨by kernel_rfl, by kernel_rfl, by show compF Tryd.prog (numOf ns) a180 22 = some s180; kernel_rfl⟩
theorem ok65 : RowOK Tryd.prog ns ⟨65, 13, false, a65, .fn s65⟩ := ⟨by kernel_rfl, by kernel_rfl, by show compF Tryd.prog (numOf ns) a65 13 = some s65; kernel_rfl⟩
theorem ok64 : RowOK Tryd.prog ns ⟨64, 12, true, a64, .fn s64⟩ := ⟨by kernel_rfl, by kernel_rfl, by show compF Tryd.prog (numOf ns) a64 12 = some s64; kernel_rfl⟩
theorem ok66 : RowOK Tryd.prog ns ⟨66, 4, true, a66, .fn s66⟩ := ⟨by kernel_rfl, by kernel_rfl, by show compF Tryd.prog (numOf ns) a66 4 = some s66; kernel_rfl⟩
theorem ok63 : RowOK Tryd.prog ns ⟨63, 5, true, a63, .fn s63⟩ := ⟨by kernel_rfl, by kernel_rfl, by show compF Tryd.prog (numOf ns) a63 5 = some s63; kernel_rfl⟩
theorem ok457 : RowOK Tryd.prog ns ⟨457, 14, false, a457, .fn s457⟩ := ⟨by kernel_rfl, by kernel_rfl, by show compF Tryd.prog (numOf ns) a457 14 = some s457; kernel_rfl⟩
theorem ok450 : RowOK Tryd.prog ns ⟨450, 15, false, a450, .nil n450⟩ := ⟨by kernel_rfl, by kernel_rfl, by show compN Tryd.prog (numOf ns) a450 15 = some n450; kernel_rfl⟩
theorem ok382 : RowOK Tryd.prog ns ⟨382, 7, true, a382, .fn s382⟩ := ⟨by kernel_rfl, by kernel_rfl, by show compF Tryd.prog (numOf ns) a382 7 = some s382; kernel_rfl⟩
theorem ok276 : RowOK Tryd.prog ns ⟨276, 16, false, a276, .fn s276⟩ := ⟨by kernel_rfl, by kernel_rfl, by show compF Tryd.prog (numOf ns) a276 16 = some s276; kernel_rfl⟩
theorem ok265 : RowOK Tryd.prog ns ⟨265, 8, false, a265, .fn s265⟩ := ⟨by kernel_rfl, by kernel_rfl, by show compF Tryd.prog (numOf ns) a265 8 = some s265; kernel_rfl⟩
theorem ok381 : RowOK Tryd.prog ns ⟨381, 23, false, a381, .fn s381⟩ := ⟨by kernel_rfl, by kernel_rfl, by show compF Tryd.prog (numOf ns) a381 23 = some s381; kernel_rfl⟩
theorem ok358 : RowOK Tryd.prog ns ⟨358, 17, false, a358, .fn s358⟩ := ⟨by kernel_rfl, by kernel_rfl, by show compF Tryd.prog (numOf ns) a358 17 = some s358; kernel_rfl⟩
theorem ok102 : RowOK Tryd.prog ns ⟨102, 34, false, a102, .fn s102⟩ := ⟨by kernel_rfl, by kernel_rfl, by show compF Tryd.prog (numOf ns) a102 34 = some s102; kernel_rfl⟩
theorem ok442 : RowOK Tryd.prog ns ⟨442, 41, false, a442, .fn s442⟩ := ⟨by kernel_rfl, by kernel_rfl, by show compF Tryd.prog (numOf ns) a442 41 = some s442; kernel_rfl⟩
theorem ok100 : RowOK Tryd.prog ns ⟨100, 40, false, a100, .fn s100⟩ := ⟨by kernel_rfl, by kernel_rfl, by show compF Tryd.prog (numOf ns) a100 40 = some s100; kernel_rfl⟩
theorem ok96 : RowOK Tryd.prog ns ⟨96, 42, false, a96, .fn s96⟩ := ⟨by kernel_rfl, by kernel_rfl, by show compF Tryd.prog (numOf ns) a96 42 = some s96; kernel_rfl⟩
theorem ok101 : RowOK Tryd.prog ns ⟨101, 35, false, a101, .fn s101⟩ := ⟨by kernel_rfl, by kernel_rfl, by show compF Tryd.prog (numOf ns) a101 35 = some s101; kernel_rfl⟩
theorem ok97 : RowOK Tryd.prog ns ⟨97, 36, false, a97, .fn s97⟩ := ⟨by kernel_rfl, by kernel_rfl, by show compF Tryd.prog (numOf ns) a97 36 = some s97; kernel_rfl⟩
theorem ok99 : RowOK Tryd.prog ns ⟨99, 43, false, a99, .fn s99⟩ := ⟨by kernel_rfl, by kernel_rfl, by show compF Tryd.prog (numOf ns) a99 43 = some s99; kernel_rfl⟩
theorem ok447 : RowOK Tryd.prog ns ⟨447, 45, false, a447, .fn s447⟩ := ⟨by kernel_rfl, by kernel_rfl, by show compF Tryd.prog (numOf ns) a447 45 = some s447; kernel_rfl⟩
theorem ok448 : RowOK Tryd.prog ns ⟨448, 46, false, a448, .fn s448⟩ := ⟨by kernel_rfl, by kernel_rfl, by show compF Tryd.prog (numOf ns) a448 46 = some s448; kernel_rfl⟩
theorem ok446 : RowOK Tryd.prog ns ⟨446, 44, false, a446, .fn s446⟩ := ⟨by kernel_rfl, by kernel_rfl, by show compF Tryd.prog (numOf ns) a446 44 = some s446; kernel_rfl⟩
theorem ok98 : RowOK Tryd.prog ns ⟨98, 37, false, a98, .fn s98⟩ := ⟨by kernel_rfl, by kernel_rfl, by show compF Tryd.prog (numOf ns) a98 37 = some s98; kernel_rfl⟩
theorem ok94 : RowOK Tryd.prog ns ⟨94, 32, false, a94, .fn s94⟩ := ⟨by kernel_rfl, by kernel_rfl, by show compF Tryd.prog (numOf ns) a94 32 = some s94; kernel_rfl⟩
theorem ok95 : RowOK Tryd.prog ns ⟨95, 28, false, a95, .fn s95⟩ := ⟨by kernel_rfl, by kernel_rfl, by show compF Tryd.prog (numOf ns) a95 28 = some s95; kernel_rfl⟩
theorem ok466 : RowOK Tryd.prog ns ⟨466, 24, false, a466, .fn s466⟩ := ⟨by kernel_rfl, by kernel_rfl, by show compF Tryd.prog (numOf ns) a466 24 = some s466; kernel_rfl⟩
theorem ok357 : RowOK Tryd.prog ns ⟨357, 18, false, a357, .fn s357⟩ := ⟨by kernel_rfl, by kernel_rfl, by show compF Tryd.prog (numOf ns) a357 18 = some s357; kernel_rfl⟩
theorem ok336 : RowOK Tryd.prog ns ⟨336, 19, false, a336, .fn s336⟩ := ⟨by kernel_rfl, by kernel_rfl, by show compF Tryd.prog (numOf ns) a336 19 = some s336; kernel_rfl⟩
theorem ok356 : RowOK Tryd.prog ns ⟨356, 9, false, a356, .fn s356⟩ := ⟨by kernel_rfl, by kernel_rfl, by show compF Tryd.prog (numOf ns) a356 9 = some s356; kernel_rfl⟩
theorem ok355 : RowOK Tryd.prog ns ⟨355, 10, false, a355, .fn s355⟩ := ⟨by kernel_rfl, by kernel_rfl, by show compF Tryd.prog (numOf ns) a355 10 = some s355; kernel_rfl⟩
theorem ok107 : RowOK Tryd.prog ns ⟨107, 26, false, a107, .fn s107⟩ := ⟨by kernel_rfl, by kernel_rfl, by show compF Tryd.prog (numOf ns) a107 26 = some s107; kernel_rfl⟩
theorem ok106 : RowOK Tryd.prog ns ⟨106, 30, false, a106, .fn s106⟩ := ⟨by kernel_rfl, by kernel_rfl, by show compF Tryd.prog (numOf ns) a106 30 = some s106; kernel_rfl⟩
theorem ok444 : RowOK Tryd.prog ns ⟨444, 38, false, a444, .fn s444⟩ := ⟨by kernel_rfl, by kernel_rfl, by show compF Tryd.prog (numOf ns) a444 38 = some s444; kernel_rfl⟩
theorem ok445 : RowOK Tryd.prog ns ⟨445, 39, false, a445, .fn s445⟩ := ⟨by kernel_rfl, by kernel_rfl, by show compF Tryd.prog (numOf ns) a445 39 = some s445; kernel_rfl⟩
theorem ok443 : RowOK Tryd.prog ns ⟨443, 33, false, a443, .fn s443⟩ := ⟨by kernel_rfl, by kernel_rfl, by show compF Tryd.prog (numOf ns) a443 33 = some s443; kernel_rfl⟩
theorem ok465 : RowOK Tryd.prog ns ⟨465, 29, false, a465, .fn s465⟩ := ⟨by kernel_rfl, by kernel_rfl, by show compF Tryd.prog (numOf ns) a465 29 = some s465; kernel_rfl⟩
theorem ok151 : RowOK Tryd.prog ns ⟨151, 25, true, a151, .fn s151⟩ := ⟨by kernel_rfl, by kernel_rfl, by show compF Tryd.prog (numOf ns) a151 25 = some s151; kernel_rfl⟩
theorem ok422 : RowOK Tryd.prog ns ⟨422, 31, false, a422, .fn s422⟩ := ⟨by kernel_rfl, by kernel_rfl, by show compF Tryd.prog (numOf ns) a422 31 = some s422; kernel_rfl⟩
theorem ok419 : RowOK Tryd.prog ns ⟨419, 27, false, a419, .fn s419⟩ := ⟨by kernel_rfl, by kernel_rfl, by show compF Tryd.prog (numOf ns) a419 27 = some s419; kernel_rfl⟩
theorem ok372 : RowOK Tryd.prog ns ⟨372, 20, true, a372, .fn s372⟩ := ⟨by kernel_rfl, by kernel_rfl, by show compF Tryd.prog (numOf ns) a372 20 = some s372; kernel_rfl⟩
theorem ok199 : RowOK Tryd.prog ns ⟨199, 11, false, a199, .fn s199⟩ := ⟨by kernel_rfl, by kernel_rfl, by show compF Tryd.prog (numOf ns) a199 11 = some s199; kernel_rfl⟩
theorem ok200 : RowOK Tryd.prog ns ⟨200, 3, false, a200, .fn s200⟩ := ⟨by kernel_rfl, by kernel_rfl, by show compF Tryd.prog (numOf ns) a200 3 = some s200; kernel_rfl⟩
theorem tabOK : ∀ r, r ∈ tab → RowOK Tryd.prog ns r := by
  intro r hr
  simp only [tab, List.mem_cons, List.not_mem_nil, or_false] at hr
  rcases hr with rfl | rfl | rfl | rfl | rfl | rfl | rfl | rfl | rfl | rfl | rfl | rfl | rfl | rfl | rfl | rfl | rfl | rfl | rfl | rfl | rfl | rfl | rfl | rfl | rfl | rfl | rfl | rfl | rfl | rfl | rfl | rfl | rfl | rfl | rfl | rfl | rfl | rfl | rfl | rfl | rfl | rfl | rfl | rfl
  · exact ok174
  · exact ok181
  · exact ok180
  · exact ok65
  · exact ok64
  · exact ok66
  · exact ok63
  · exact ok457
  · exact ok450
  · exact ok382
  · exact ok276
  · exact ok265
  · exact ok381
  · exact ok358
  · exact ok102
  · exact ok442
  · exact ok100
  · exact ok96
  · exact ok101
  · exact ok97
  · exact ok99
  · exact ok447
  · exact ok448
  · exact ok446
  · exact ok98
  · exact ok94
  · exact ok95
  · exact ok466
  · exact ok357
  · exact ok336
  · exact ok356
  · exact ok355
  · exact ok107
  · exact ok106
  · exact ok444
  · exact ok445
  · exact ok443
  · exact ok465
  · exact ok151
  · exact ok422
  · exact ok419
  · exact ok372
  · exact ok199
  · exact ok200
theorem mix : Tryd.prog.follows .mixedOrders = true := by kernel_rfl
theorem sound200 : SoundFn Tryd.prog (fidOf ns) 3 (evFun (clOf (modsR tab 14) 3) s200) :=
  fun_sound (num_fid nsND) mix (tab_sound nsND mix tabOK 14) 3 ok200.2.2
theorem cw174 (k n : Nat) (xs : List D) (H : List Ob) : (clOf (modsR tab (k + 1)) n).w 174 xs H = callM false (evFun (clOf (modsR tab k) 3) s174) xs H := by cases n <;> rfl
theorem cr174 (k n : Nat) (xs : List D) (H : List Ob) : (clOf (modsR tab (k + 1)) n).r 174 xs H = callQ false (evFun (clOf (modsR tab k) 3) s174) xs H := by cases n <;> rfl
theorem cw181 (k n : Nat) (xs : List D) (H : List Ob) : (clOf (modsR tab (k + 1)) n).w 181 xs H = callM false (evFun (clOf (modsR tab k) 3) s181) xs H := by cases n <;> rfl
theorem cr181 (k n : Nat) (xs : List D) (H : List Ob) : (clOf (modsR tab (k + 1)) n).r 181 xs H = callQ false (evFun (clOf (modsR tab k) 3) s181) xs H := by cases n <;> rfl
theorem cw180 (k n : Nat) (xs : List D) (H : List Ob) : (clOf (modsR tab (k + 1)) n).w 180 xs H = callM false (evFun (clOf (modsR tab k) 3) s180) xs H := by cases n <;> rfl
theorem cr180 (k n : Nat) (xs : List D) (H : List Ob) : (clOf (modsR tab (k + 1)) n).r 180 xs H = callQ false (evFun (clOf (modsR tab k) 3) s180) xs H := by cases n <;> rfl
theorem cw65 (k n : Nat) (xs : List D) (H : List Ob) : (clOf (modsR tab (k + 1)) n).w 65 xs H = callM false (evFun (clOf (modsR tab k) 3) s65) xs H := by cases n <;> rfl
theorem cr65 (k n : Nat) (xs : List D) (H : List Ob) : (clOf (modsR tab (k + 1)) n).r 65 xs H = callQ false (evFun (clOf (modsR tab k) 3) s65) xs H := by cases n <;> rfl
theorem cw64 (k n : Nat) (xs : List D) (H : List Ob) : (clOf (modsR tab (k + 1)) n).w 64 xs H = callM true (evFun (clOf (modsR tab k) 3) s64) xs H := by cases n <;> rfl
theorem cr64 (k n : Nat) (xs : List D) (H : List Ob) : (clOf (modsR tab (k + 1)) n).r 64 xs H = callQ true (evFun (clOf (modsR tab k) 3) s64) xs H := by cases n <;> rfl
theorem cw66 (k n : Nat) (xs : List D) (H : List Ob) : (clOf (modsR tab (k + 1)) n).w 66 xs H = callM true (evFun (clOf (modsR tab k) 3) s66) xs H := by cases n <;> rfl
theorem cr66 (k n : Nat) (xs : List D) (H : List Ob) : (clOf (modsR tab (k + 1)) n).r 66 xs H = callQ true (evFun (clOf (modsR tab k) 3) s66) xs H := by cases n <;> rfl
theorem cw63 (k n : Nat) (xs : List D) (H : List Ob) : (clOf (modsR tab (k + 1)) n).w 63 xs H = callM true (evFun (clOf (modsR tab k) 3) s63) xs H := by cases n <;> rfl
theorem cr63 (k n : Nat) (xs : List D) (H : List Ob) : (clOf (modsR tab (k + 1)) n).r 63 xs H = callQ true (evFun (clOf (modsR tab k) 3) s63) xs H := by cases n <;> rfl
theorem cw457 (k n : Nat) (xs : List D) (H : List Ob) : (clOf (modsR tab (k + 1)) n).w 457 xs H = callM false (evFun (clOf (modsR tab k) 3) s457) xs H := by cases n <;> rfl
theorem cr457 (k n : Nat) (xs : List D) (H : List Ob) : (clOf (modsR tab (k + 1)) n).r 457 xs H = callQ false (evFun (clOf (modsR tab k) 3) s457) xs H := by cases n <;> rfl
theorem cw450 (k n : Nat) (xs : List D) (H : List Ob) : (clOf (modsR tab (k + 1)) n).w 450 xs H = callM false (evNil (clOf (modsR tab k) 3) n450) xs H := by cases n <;> rfl
theorem cr450 (k n : Nat) (xs : List D) (H : List Ob) : (clOf (modsR tab (k + 1)) n).r 450 xs H = callQ false (evNil (clOf (modsR tab k) 3) n450) xs H := by cases n <;> rfl
theorem cw382 (k n : Nat) (xs : List D) (H : List Ob) : (clOf (modsR tab (k + 1)) n).w 382 xs H = callM true (evFun (clOf (modsR tab k) 3) s382) xs H := by cases n <;> rfl
theorem cr382 (k n : Nat) (xs : List D) (H : List Ob) : (clOf (modsR tab (k + 1)) n).r 382 xs H = callQ true (evFun (clOf (modsR tab k) 3) s382) xs H := by cases n <;> rfl
theorem cw276 (k n : Nat) (xs : List D) (H : List Ob) : (clOf (modsR tab (k + 1)) n).w 276 xs H = callM false (evFun (clOf (modsR tab k) 3) s276) xs H := by cases n <;> rfl
theorem cr276 (k n : Nat) (xs : List D) (H : List Ob) : (clOf (modsR tab (k + 1)) n).r 276 xs H = callQ false (evFun (clOf (modsR tab k) 3) s276) xs H := by cases n <;> rfl
theorem cw265 (k n : Nat) (xs : List D) (H : List Ob) : (clOf (modsR tab (k + 1)) n).w 265 xs H = callM false (evFun (clOf (modsR tab k) 3) s265) xs H := by cases n <;> rfl
theorem cr265 (k n : Nat) (xs : List D) (H : List Ob) : (clOf (modsR tab (k + 1)) n).r 265 xs H = callQ false (evFun (clOf (modsR tab k) 3) s265) xs H := by cases n <;> rfl
theorem cw381 (k n : Nat) (xs : List D) (H : List Ob) : (clOf (modsR tab (k + 1)) n).w 381 xs H = callM false (evFun (clOf (modsR tab k) 3) s381) xs H := by cases n <;> rfl
theorem cr381 (k n : Nat) (xs : List D) (H : List Ob) : (clOf (modsR tab (k + 1)) n).r 381 xs H = callQ false (evFun (clOf (modsR tab k) 3) s381) xs H := by cases n <;> rfl
theorem cw358 (k n : Nat) (xs : List D) (H : List Ob) : (clOf (modsR tab (k + 1)) n).w 358 xs H = callM false (evFun (clOf (modsR tab k) 3) s358) xs H := by cases n <;> rfl
theorem cr358 (k n : Nat) (xs : List D) (H : List Ob) : (clOf (modsR tab (k + 1)) n).r 358 xs H = callQ false (evFun (clOf (modsR tab k) 3) s358) xs H := by cases n <;> rfl
theorem cw102 (k n : Nat) (xs : List D) (H : List Ob) : (clOf (modsR tab (k + 1)) n).w 102 xs H = callM false (evFun (clOf (modsR tab k) 3) s102) xs H := by cases n <;> rfl
theorem cr102 (k n : Nat) (xs : List D) (H : List Ob) : (clOf (modsR tab (k + 1)) n).r 102 xs H = callQ false (evFun (clOf (modsR tab k) 3) s102) xs H := by cases n <;> rfl
theorem cw442 (k n : Nat) (xs : List D) (H : List Ob) : (clOf (modsR tab (k + 1)) n).w 442 xs H = callM false (evFun (clOf (modsR tab k) 3) s442) xs H := by cases n <;> rfl
theorem cr442 (k n : Nat) (xs : List D) (H : List Ob) : (clOf (modsR tab (k + 1)) n).r 442 xs H = callQ false (evFun (clOf (modsR tab k) 3) s442) xs H := by cases n <;> rfl
theorem cw100 (k n : Nat) (xs : List D) (H : List Ob) : (clOf (modsR tab (k + 1)) n).w 100 xs H = callM false (evFun (clOf (modsR tab k) 3) s100) xs H := by cases n <;> rfl
theorem cr100 (k n : Nat) (xs : List D) (H : List Ob) : (clOf (modsR tab (k + 1)) n).r 100 xs H = callQ false (evFun (clOf (modsR tab k) 3) s100) xs H := by cases n <;> rfl
theorem cw96 (k n : Nat) (xs : List D) (H : List Ob) : (clOf (modsR tab (k + 1)) n).w 96 xs H = callM false (evFun (clOf (modsR tab k) 3) s96) xs H := by cases n <;> rfl
theorem cr96 (k n : Nat) (xs : List D) (H : List Ob) : (clOf (modsR tab (k + 1)) n).r 96 xs H = callQ false (evFun (clOf (modsR tab k) 3) s96) xs H := by cases n <;> rfl
theorem cw101 (k n : Nat) (xs : List D) (H : List Ob) : (clOf (modsR tab (k + 1)) n).w 101 xs H = callM false (evFun (clOf (modsR tab k) 3) s101) xs H := by cases n <;> rfl
theorem cr101 (k n : Nat) (xs : List D) (H : List Ob) : (clOf (modsR tab (k + 1)) n).r 101 xs H = callQ false (evFun (clOf (modsR tab k) 3) s101) xs H := by cases n <;> rfl
theorem cw97 (k n : Nat) (xs : List D) (H : List Ob) : (clOf (modsR tab (k + 1)) n).w 97 xs H = callM false (evFun (clOf (modsR tab k) 3) s97) xs H := by cases n <;> rfl
theorem cr97 (k n : Nat) (xs : List D) (H : List Ob) : (clOf (modsR tab (k + 1)) n).r 97 xs H = callQ false (evFun (clOf (modsR tab k) 3) s97) xs H := by cases n <;> rfl
theorem cw99 (k n : Nat) (xs : List D) (H : List Ob) : (clOf (modsR tab (k + 1)) n).w 99 xs H = callM false (evFun (clOf (modsR tab k) 3) s99) xs H := by cases n <;> rfl
theorem cr99 (k n : Nat) (xs : List D) (H : List Ob) : (clOf (modsR tab (k + 1)) n).r 99 xs H = callQ false (evFun (clOf (modsR tab k) 3) s99) xs H := by cases n <;> rfl
theorem cw447 (k n : Nat) (xs : List D) (H : List Ob) : (clOf (modsR tab (k + 1)) n).w 447 xs H = callM false (evFun (clOf (modsR tab k) 3) s447) xs H := by cases n <;> rfl
theorem cr447 (k n : Nat) (xs : List D) (H : List Ob) : (clOf (modsR tab (k + 1)) n).r 447 xs H = callQ false (evFun (clOf (modsR tab k) 3) s447) xs H := by cases n <;> rfl
theorem cw448 (k n : Nat) (xs : List D) (H : List Ob) : (clOf (modsR tab (k + 1)) n).w 448 xs H = callM false (evFun (clOf (modsR tab k) 3) s448) xs H := by cases n <;> rfl
theorem cr448 (k n : Nat) (xs : List D) (H : List Ob) : (clOf (modsR tab (k + 1)) n).r 448 xs H = callQ false (evFun (clOf (modsR tab k) 3) s448) xs H := by cases n <;> rfl
theorem cw446 (k n : Nat) (xs : List D) (H : List Ob) : (clOf (modsR tab (k + 1)) n).w 446 xs H = callM false (evFun (clOf (modsR tab k) 3) s446) xs H := by cases n <;> rfl
theorem cr446 (k n : Nat) (xs : List D) (H : List Ob) : (clOf (modsR tab (k + 1)) n).r 446 xs H = callQ false (evFun (clOf (modsR tab k) 3) s446) xs H := by cases n <;> rfl
theorem cw98 (k n : Nat) (xs : List D) (H : List Ob) : (clOf (modsR tab (k + 1)) n).w 98 xs H = callM false (evFun (clOf (modsR tab k) 3) s98) xs H := by cases n <;> rfl
theorem cr98 (k n : Nat) (xs : List D) (H : List Ob) : (clOf (modsR tab (k + 1)) n).r 98 xs H = callQ false (evFun (clOf (modsR tab k) 3) s98) xs H := by cases n <;> rfl
theorem cw94 (k n : Nat) (xs : List D) (H : List Ob) : (clOf (modsR tab (k + 1)) n).w 94 xs H = callM false (evFun (clOf (modsR tab k) 3) s94) xs H := by cases n <;> rfl
theorem cr94 (k n : Nat) (xs : List D) (H : List Ob) : (clOf (modsR tab (k + 1)) n).r 94 xs H = callQ false (evFun (clOf (modsR tab k) 3) s94) xs H := by cases n <;> rfl
theorem cw95 (k n : Nat) (xs : List D) (H : List Ob) : (clOf (modsR tab (k + 1)) n).w 95 xs H = callM false (evFun (clOf (modsR tab k) 3) s95) xs H := by cases n <;> rfl
theorem cr95 (k n : Nat) (xs : List D) (H : List Ob) : (clOf (modsR tab (k + 1)) n).r 95 xs H = callQ false (evFun (clOf (modsR tab k) 3) s95) xs H := by cases n <;> rfl
theorem cw466 (k n : Nat) (xs : List D) (H : List Ob) : (clOf (modsR tab (k + 1)) n).w 466 xs H = callM false (evFun (clOf (modsR tab k) 3) s466) xs H := by cases n <;> rfl
theorem cr466 (k n : Nat) (xs : List D) (H : List Ob) : (clOf (modsR tab (k + 1)) n).r 466 xs H = callQ false (evFun (clOf (modsR tab k) 3) s466) xs H := by cases n <;> rfl
theorem cw357 (k n : Nat) (xs : List D) (H : List Ob) : (clOf (modsR tab (k + 1)) n).w 357 xs H = callM false (evFun (clOf (modsR tab k) 3) s357) xs H := by cases n <;> rfl
theorem cr357 (k n : Nat) (xs : List D) (H : List Ob) : (clOf (modsR tab (k + 1)) n).r 357 xs H = callQ false (evFun (clOf (modsR tab k) 3) s357) xs H := by cases n <;> rfl
theorem cw336 (k n : Nat) (xs : List D) (H : List Ob) : (clOf (modsR tab (k + 1)) n).w 336 xs H = callM false (evFun (clOf (modsR tab k) 3) s336) xs H := by cases n <;> rfl
theorem cr336 (k n : Nat) (xs : List D) (H : List Ob) : (clOf (modsR tab (k + 1)) n).r 336 xs H = callQ false (evFun (clOf (modsR tab k) 3) s336) xs H := by cases n <;> rfl
theorem cw356 (k n : Nat) (xs : List D) (H : List Ob) : (clOf (modsR tab (k + 1)) n).w 356 xs H = callM false (evFun (clOf (modsR tab k) 3) s356) xs H := by cases n <;> rfl
theorem cr356 (k n : Nat) (xs : List D) (H : List Ob) : (clOf (modsR tab (k + 1)) n).r 356 xs H = callQ false (evFun (clOf (modsR tab k) 3) s356) xs H := by cases n <;> rfl
theorem cw355 (k n : Nat) (xs : List D) (H : List Ob) : (clOf (modsR tab (k + 1)) n).w 355 xs H = callM false (evFun (clOf (modsR tab k) 3) s355) xs H := by cases n <;> rfl
theorem cr355 (k n : Nat) (xs : List D) (H : List Ob) : (clOf (modsR tab (k + 1)) n).r 355 xs H = callQ false (evFun (clOf (modsR tab k) 3) s355) xs H := by cases n <;> rfl
theorem cw107 (k n : Nat) (xs : List D) (H : List Ob) : (clOf (modsR tab (k + 1)) n).w 107 xs H = callM false (evFun (clOf (modsR tab k) 3) s107) xs H := by cases n <;> rfl
theorem cr107 (k n : Nat) (xs : List D) (H : List Ob) : (clOf (modsR tab (k + 1)) n).r 107 xs H = callQ false (evFun (clOf (modsR tab k) 3) s107) xs H := by cases n <;> rfl
theorem cw106 (k n : Nat) (xs : List D) (H : List Ob) : (clOf (modsR tab (k + 1)) n).w 106 xs H = callM false (evFun (clOf (modsR tab k) 3) s106) xs H := by cases n <;> rfl
theorem cr106 (k n : Nat) (xs : List D) (H : List Ob) : (clOf (modsR tab (k + 1)) n).r 106 xs H = callQ false (evFun (clOf (modsR tab k) 3) s106) xs H := by cases n <;> rfl
theorem cw444 (k n : Nat) (xs : List D) (H : List Ob) : (clOf (modsR tab (k + 1)) n).w 444 xs H = callM false (evFun (clOf (modsR tab k) 3) s444) xs H := by cases n <;> rfl
theorem cr444 (k n : Nat) (xs : List D) (H : List Ob) : (clOf (modsR tab (k + 1)) n).r 444 xs H = callQ false (evFun (clOf (modsR tab k) 3) s444) xs H := by cases n <;> rfl
theorem cw445 (k n : Nat) (xs : List D) (H : List Ob) : (clOf (modsR tab (k + 1)) n).w 445 xs H = callM false (evFun (clOf (modsR tab k) 3) s445) xs H := by cases n <;> rfl
theorem cr445 (k n : Nat) (xs : List D) (H : List Ob) : (clOf (modsR tab (k + 1)) n).r 445 xs H = callQ false (evFun (clOf (modsR tab k) 3) s445) xs H := by cases n <;> rfl
theorem cw443 (k n : Nat) (xs : List D) (H : List Ob) : (clOf (modsR tab (k + 1)) n).w 443 xs H = callM false (evFun (clOf (modsR tab k) 3) s443) xs H := by cases n <;> rfl
theorem cr443 (k n : Nat) (xs : List D) (H : List Ob) : (clOf (modsR tab (k + 1)) n).r 443 xs H = callQ false (evFun (clOf (modsR tab k) 3) s443) xs H := by cases n <;> rfl
theorem cw465 (k n : Nat) (xs : List D) (H : List Ob) : (clOf (modsR tab (k + 1)) n).w 465 xs H = callM false (evFun (clOf (modsR tab k) 3) s465) xs H := by cases n <;> rfl
theorem cr465 (k n : Nat) (xs : List D) (H : List Ob) : (clOf (modsR tab (k + 1)) n).r 465 xs H = callQ false (evFun (clOf (modsR tab k) 3) s465) xs H := by cases n <;> rfl
theorem cw151 (k n : Nat) (xs : List D) (H : List Ob) : (clOf (modsR tab (k + 1)) n).w 151 xs H = callM true (evFun (clOf (modsR tab k) 3) s151) xs H := by cases n <;> rfl
theorem cr151 (k n : Nat) (xs : List D) (H : List Ob) : (clOf (modsR tab (k + 1)) n).r 151 xs H = callQ true (evFun (clOf (modsR tab k) 3) s151) xs H := by cases n <;> rfl
theorem cw422 (k n : Nat) (xs : List D) (H : List Ob) : (clOf (modsR tab (k + 1)) n).w 422 xs H = callM false (evFun (clOf (modsR tab k) 3) s422) xs H := by cases n <;> rfl
theorem cr422 (k n : Nat) (xs : List D) (H : List Ob) : (clOf (modsR tab (k + 1)) n).r 422 xs H = callQ false (evFun (clOf (modsR tab k) 3) s422) xs H := by cases n <;> rfl
theorem cw419 (k n : Nat) (xs : List D) (H : List Ob) : (clOf (modsR tab (k + 1)) n).w 419 xs H = callM false (evFun (clOf (modsR tab k) 3) s419) xs H := by cases n <;> rfl
theorem cr419 (k n : Nat) (xs : List D) (H : List Ob) : (clOf (modsR tab (k + 1)) n).r 419 xs H = callQ false (evFun (clOf (modsR tab k) 3) s419) xs H := by cases n <;> rfl
theorem cw372 (k n : Nat) (xs : List D) (H : List Ob) : (clOf (modsR tab (k + 1)) n).w 372 xs H = callM true (evFun (clOf (modsR tab k) 3) s372) xs H := by cases n <;> rfl
theorem cr372 (k n : Nat) (xs : List D) (H : List Ob) : (clOf (modsR tab (k + 1)) n).r 372 xs H = callQ true (evFun (clOf (modsR tab k) 3) s372) xs H := by cases n <;> rfl
theorem cw199 (k n : Nat) (xs : List D) (H : List Ob) : (clOf (modsR tab (k + 1)) n).w 199 xs H = callM false (evFun (clOf (modsR tab k) 3) s199) xs H := by cases n <;> rfl
theorem cr199 (k n : Nat) (xs : List D) (H : List Ob) : (clOf (modsR tab (k + 1)) n).r 199 xs H = callQ false (evFun (clOf (modsR tab k) 3) s199) xs H := by cases n <;> rfl
theorem cw200 (k n : Nat) (xs : List D) (H : List Ob) : (clOf (modsR tab (k + 1)) n).w 200 xs H = callM false (evFun (clOf (modsR tab k) 3) s200) xs H := by cases n <;> rfl
theorem cr200 (k n : Nat) (xs : List D) (H : List Ob) : (clOf (modsR tab (k + 1)) n).r 200 xs H = callQ false (evFun (clOf (modsR tab k) 3) s200) xs H := by cases n <;> rfl
end Go.Proofs.YtookbmnokijhaaaDoor.LgTab
