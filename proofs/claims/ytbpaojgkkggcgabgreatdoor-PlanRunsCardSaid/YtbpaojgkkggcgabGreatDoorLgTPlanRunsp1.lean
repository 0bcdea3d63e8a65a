import Derived.Test.YtbpaojgkkggcgabGreatDoorRows
import Derived.Test.YtbpaojgkkggcgabGreatDoorLgW1
import Derived.RowKit
/-
  The seat's functions, as this work's tool printed them.
-/
namespace Go.Proofs.YtbpaojgkkggcgabGreatDoor.LgTPlanRuns
open Go Lg
set_option maxRecDepth 100000
def a5 : Ann := ⟨[(3, [(3, ⟨false, 0, false⟩), (4, ⟨false, 0, false⟩), (5, ⟨false, 0, false⟩), (0, ⟨true, 0, false⟩), (2, ⟨true, 0, false⟩), (6, ⟨true, 1, false⟩)])], [], [0]⟩
def s5 : SFun := ⟨1, 105, [0], [],
 (.seq (.reg [⟨(some 10), .build [(D.int .i64 (0)), (D.int .i32 (0)), (D.int .u8 (0)), (D.int .u8 (0)), (D.int .u8 (0)), .sn, (D.str [])] [(0, 1, (.k (D.int .i64 (4))))], none⟩,
  ⟨(some 2), .alloc [(D.int .i64 (0)), (D.int .i32 (0)), (D.int .u8 (0)), (D.int .u8 (0)), (D.int .u8 (0)), .sn, (D.str [])], none⟩,
  ⟨none, .store 7 (.t 2) (.t 10), none⟩])
 (.seq (.reg [⟨(some 3), .mv (.k (D.bool true)), none⟩,
  ⟨(some 4), .mv (.k (D.int .i64 (0))), none⟩,
  ⟨(some 5), .mv (.k (D.bool true)), none⟩])
 (.seq (.reg [⟨(some 11), .bsl true 1 1 [(D.int .i64 (0))] [(0, (.k (D.int .i64 (-1))))], none⟩,
  ⟨(some 6), .mv (.t 11), none⟩])
 (.block 0 (.loop [(3, ⟨false, 0, false⟩), (4, ⟨false, 0, false⟩), (5, ⟨false, 0, false⟩), (0, ⟨true, 0, false⟩), (2, ⟨true, 0, false⟩), (6, ⟨true, 1, false⟩)]
 (.block 1 (.seq (.reg [⟨(some 13), .mv (.t 0), none⟩,
  ⟨(some 14), .call false 8 [(.t 13)], none⟩,
  ⟨(some 12), .mv (.t 14), none⟩,
  ⟨(some 15), .ext (.t 12) 0, none⟩,
  ⟨(some 16), .ext (.t 12) 1, none⟩,
  ⟨(some 7), .mv (.t 15), none⟩,
  ⟨(some 8), .mv (.t 16), none⟩])
 (.seq (.seq (.reg [⟨(some 17), .mv (.t 8), none⟩,
  ⟨(some 18), .una .not (.t 17), none⟩])
 (.cond (.t 18)
 .ret
 .skip))
 (.seq (.block 2 (.seq (.reg [⟨(some 40), .mv (.t 7), none⟩,
  ⟨(some 41), .bin .geq (.t 40) (.k (D.int .u8 (64))), none⟩,
  ⟨(some 39), .mv (.t 41), none⟩])
 (.cond (.t 39)
 (.seq (.reg [⟨(some 42), .mv (.t 7), none⟩,
  ⟨(some 43), .fad 4 (.t 2), none⟩,
  ⟨none, .store 1 (.t 43) (.t 42), none⟩])
 (.seq (.seq (.reg [⟨(some 44), .mv (.t 6), none⟩,
  ⟨(some 45), .len (.t 44), none⟩,
  ⟨(some 46), .bin .gtr (.t 45) (.k (D.int .i64 (1))), none⟩,
  ⟨(some 47), .mv (.t 46), none⟩,
  ⟨(some 48), .mv (.t 6), (some (47, false))⟩,
  ⟨(some 49), .ixs 1 (.t 48) (.k (D.int .i64 (0))), (some (47, false))⟩,
  ⟨(some 50), .load false 1 (.t 49), (some (47, false))⟩,
  ⟨(some 51), .bin .neq (.t 50) (.k (D.int .i64 (-1))), (some (47, false))⟩,
  ⟨(some 52), .pick (.t 47) (.k (D.bool true)) (.t 51), none⟩])
 (.cond (.t 52)
 (.reg [⟨(some 53), .mv (.t 6), none⟩,
  ⟨(some 54), .mv (.t 6), none⟩,
  ⟨(some 55), .len (.t 54), none⟩,
  ⟨(some 56), .mn [(.t 55), (.k (D.int .i64 (16)))], none⟩,
  ⟨(some 57), .slc 1 (.t 53) none (some (.t 56)), none⟩,
  ⟨(some 58), .fad 5 (.t 2), none⟩,
  ⟨none, .store 1 (.t 58) (.t 57), none⟩])
 .skip))
 (.seq (.seq (.reg [⟨(some 59), .mv (.t 3), none⟩,
  ⟨(some 60), .mv (.t 59), none⟩,
  ⟨(some 61), .mv (.t 4), (some (60, true))⟩,
  ⟨(some 62), .bin .lss (.t 61) (.k (D.int .i64 (2))), (some (60, true))⟩,
  ⟨(some 63), .pick (.t 60) (.t 62) (.k (D.bool false)), none⟩])
 (.cond (.t 63)
 (.dreg [([], false, ⟨(some 64), .mv (.t 0), none⟩),
  ([0], false, ⟨(some 65), .mv (.t 0), none⟩),
  ([0], false, ⟨(some 66), .nilc (.t 65), none⟩),
  ([0], false, ⟨(some 67), .fad 2 (.t 66), none⟩),
  ([0], false, ⟨(some 68), .load false 1 (.t 67), none⟩),
  ([0, 1, 2, 3, 4], false, ⟨(some 69), .load true 7 (.t 2), none⟩),
  ([0, 1, 2, 3, 4], false, ⟨(some 70), .bsl false 7 1 [(D.int .i64 (0)), (D.int .i32 (0)), (D.int .u8 (0)), (D.int .u8 (0)), (D.int .u8 (0)), .sn, (D.str [])] [(0, (.t 69))], none⟩),
  ([0], false, ⟨(some 71), .append 7 56 (.t 68) (.t 70), none⟩),
  ([], true, ⟨(some 72), .nilc (.t 64), none⟩),
  ([], true, ⟨(some 73), .fad 2 (.t 72), none⟩),
  ([], true, ⟨none, .store 1 (.t 73) (.t 71), none⟩)])
 .skip))
 .ret)))
 (.seq (.reg [⟨(some 75), .mv (.t 7), none⟩,
  ⟨(some 76), .bin .lss (.t 75) (.k (D.int .u8 (48))), none⟩,
  ⟨(some 74), .mv (.t 76), none⟩])
 (.cond (.t 74)
 (.seq (.reg [⟨(some 77), .mv (.t 7), none⟩,
  ⟨(some 78), .fad 3 (.t 2), none⟩,
  ⟨none, .store 1 (.t 78) (.t 77), none⟩])
 (.reg [⟨(some 79), .mv (.t 4), none⟩,
  ⟨(some 80), .bin .add (.t 79) (.k (D.int .i64 (1))), none⟩,
  ⟨(some 4), .mv (.t 80), none⟩]))
 (.seq (.reg [⟨(some 82), .mv (.t 4), none⟩,
  ⟨(some 83), .bin .gtr (.t 82) (.k (D.int .i64 (0))), none⟩,
  ⟨(some 84), .mv (.t 83), none⟩,
  ⟨(some 85), .mv (.t 7), (some (84, false))⟩,
  ⟨(some 86), .bin .eql (.t 85) (.k (D.int .u8 (58))), (some (84, false))⟩,
  ⟨(some 87), .pick (.t 84) (.k (D.bool true)) (.t 86), none⟩,
  ⟨(some 81), .mv (.t 87), none⟩])
 (.cond (.t 81)
 (.reg [⟨(some 3), .mv (.k (D.bool false)), none⟩])
 (.seq (.reg [⟨(some 89), .mv (.t 7), none⟩,
  ⟨(some 90), .bin .geq (.t 89) (.k (D.int .u8 (60))), none⟩,
  ⟨(some 88), .mv (.t 90), none⟩])
 (.cond (.t 88)
 (.seq (.reg [⟨(some 91), .mv (.t 3), none⟩,
  ⟨(some 92), .mv (.t 91), none⟩,
  ⟨(some 93), .mv (.t 5), (some (92, true))⟩,
  ⟨(some 94), .pick (.t 92) (.t 93) (.k (D.bool false)), none⟩,
  ⟨(some 3), .mv (.t 94), none⟩])
 (.reg [⟨(some 95), .mv (.t 7), none⟩,
  ⟨(some 96), .fad 2 (.t 2), none⟩,
  ⟨none, .store 1 (.t 96) (.t 95), none⟩]))
 (.seq (.reg [⟨(some 98), .mv (.t 7), none⟩,
  ⟨(some 99), .bin .eql (.t 98) (.k (D.int .u8 (59))), none⟩,
  ⟨(some 97), .mv (.t 99), none⟩])
 (.cond (.t 97)
 (.reg [⟨(some 100), .bsl true 1 0 [(D.int .i64 (0))] [], none⟩,
  ⟨(some 101), .mv (.t 6), none⟩,
  ⟨(some 102), .append 1 8 (.t 100) (.t 101), none⟩,
  ⟨(some 103), .bsl false 1 1 [(D.int .i64 (0))] [(0, (.k (D.int .i64 (-1))))], none⟩,
  ⟨(some 104), .append 1 8 (.t 102) (.t 103), none⟩,
  ⟨(some 6), .mv (.t 104), none⟩])
 (.seq (.reg [⟨(some 19), .mv (.t 6), none⟩,
  ⟨(some 20), .len (.t 19), none⟩,
  ⟨(some 21), .bin .sub (.t 20) (.k (D.int .i64 (1))), none⟩,
  ⟨(some 9), .mv (.t 21), none⟩])
 (.seq (.reg [⟨(some 22), .bsl true 1 0 [(D.int .i64 (0))] [], none⟩,
  ⟨(some 23), .mv (.t 6), none⟩,
  ⟨(some 24), .append 1 8 (.t 22) (.t 23), none⟩,
  ⟨(some 6), .mv (.t 24), none⟩])
 (.reg [⟨(some 25), .mv (.t 6), none⟩,
  ⟨(some 26), .mv (.t 9), none⟩,
  ⟨(some 27), .mv (.t 6), none⟩,
  ⟨(some 28), .mv (.t 9), none⟩,
  ⟨(some 29), .ixs 1 (.t 27) (.t 28), none⟩,
  ⟨(some 30), .load false 1 (.t 29), none⟩,
  ⟨(some 31), .mx [(.t 30), (.k (D.int .i64 (0)))], none⟩,
  ⟨(some 32), .bin .mul (.t 31) (.k (D.int .i64 (10))), none⟩,
  ⟨(some 33), .mv (.t 7), none⟩,
  ⟨(some 34), .bin .sub (.t 33) (.k (D.int .u8 (48))), none⟩,
  ⟨(some 35), .cvi .i64 (.t 34), none⟩,
  ⟨(some 36), .bin .add (.t 32) (.t 35), none⟩,
  ⟨(some 37), .mn [(.t 36), (.k (D.int .i64 (65535)))], none⟩,
  ⟨(some 38), .ixs 1 (.t 25) (.t 26), none⟩,
  ⟨none, .store 1 (.t 38) (.t 37), none⟩]))))))))))))))
 (.reg [⟨(some 5), .mv (.k (D.bool false)), none⟩]))))))))))⟩
def a9 : Ann := ⟨[(2, [(1, ⟨false, 0, false⟩), (5, ⟨false, 0, false⟩), (0, ⟨true, 0, false⟩), (4, ⟨true, 1, false⟩)])], [], [0]⟩
def s9 : SFun := ⟨2, 131, [0], [],
 (.seq (.reg [⟨(some 4), .mv (.k .sn), none⟩])
 (.seq (.reg [⟨(some 5), .mv (.k (D.int .i64 (0))), none⟩])
 (.block 0 (.loop [(1, ⟨false, 0, false⟩), (5, ⟨false, 0, false⟩), (0, ⟨true, 0, false⟩), (4, ⟨true, 1, false⟩)]
 (.seq (.seq (.dreg [([], false, ⟨(some 7), .mv (.t 0), none⟩),
  ([], false, ⟨(some 8), .nilc (.t 7), none⟩),
  ([], false, ⟨(some 9), .fad 1 (.t 8), none⟩),
  ([], false, ⟨(some 10), .load false 1 (.t 9), none⟩),
  ([0, 1, 2, 3], false, ⟨(some 11), .mv (.t 0), none⟩),
  ([0, 1, 2, 3], false, ⟨(some 12), .nilc (.t 11), none⟩),
  ([0, 1, 2, 3], false, ⟨(some 13), .fad 0 (.t 12), none⟩),
  ([0, 1, 2, 3], false, ⟨(some 14), .load false 1 (.t 13), none⟩),
  ([0, 1, 2, 3], false, ⟨(some 15), .len (.t 14), none⟩),
  ([], true, ⟨(some 16), .bin .lss (.t 10) (.t 15), none⟩)])
 (.cond (.t 16)
 .skip
 (.exit 0)))
 (.block 1 (.seq (.dreg [([], false, ⟨(some 17), .mv (.t 0), none⟩),
  ([], false, ⟨(some 18), .nilc (.t 17), none⟩),
  ([], false, ⟨(some 19), .fad 0 (.t 18), none⟩),
  ([], false, ⟨(some 20), .load false 1 (.t 19), none⟩),
  ([0, 1, 2, 3], false, ⟨(some 21), .mv (.t 0), none⟩),
  ([0, 1, 2, 3], false, ⟨(some 22), .nilc (.t 21), none⟩),
  ([0, 1, 2, 3], false, ⟨(some 23), .fad 1 (.t 22), none⟩),
  ([0, 1, 2, 3], false, ⟨(some 24), .load false 1 (.t 23), none⟩),
  ([], true, ⟨(some 25), .ixs 1 (.t 20) (.t 24), none⟩),
  ([], true, ⟨(some 26), .load false 1 (.t 25), none⟩),
  ([], true, ⟨(some 6), .mv (.t 26), none⟩)])
 (.seq (.reg [⟨(some 27), .mv (.t 0), none⟩,
  ⟨(some 28), .nilc (.t 27), none⟩,
  ⟨(some 29), .fad 1 (.t 28), none⟩,
  ⟨(some 30), .load false 1 (.t 29), none⟩,
  ⟨(some 31), .bin .add (.t 30) (.k (D.int .i64 (1))), none⟩,
  ⟨(some 32), .nilc (.t 27), none⟩,
  ⟨(some 33), .fad 1 (.t 32), none⟩,
  ⟨none, .store 1 (.t 33) (.t 31), none⟩])
 (.block 2 (.seq (.reg [⟨(some 35), .mv (.t 6), none⟩,
  ⟨(some 36), .bin .eql (.t 35) (.k (D.int .u8 (24))), none⟩,
  ⟨(some 37), .mv (.t 36), none⟩,
  ⟨(some 38), .mv (.t 6), (some (37, false))⟩,
  ⟨(some 39), .bin .eql (.t 38) (.k (D.int .u8 (26))), (some (37, false))⟩,
  ⟨(some 40), .pick (.t 37) (.k (D.bool true)) (.t 39), none⟩,
  ⟨(some 34), .mv (.t 40), none⟩])
 (.cond (.t 34)
 .ret
 (.seq (.dreg [([], true, ⟨(some 42), .mv (.t 6), none⟩),
  ([], true, ⟨(some 43), .bin .eql (.t 42) (.k (D.int .u8 (27))), none⟩),
  ([], true, ⟨(some 44), .mv (.t 43), none⟩),
  ([], false, ⟨(some 45), .mv (.t 0), (some (44, true))⟩),
  ([], false, ⟨(some 46), .nilc (.t 45), (some (44, true))⟩),
  ([], false, ⟨(some 47), .fad 1 (.t 46), (some (44, true))⟩),
  ([], false, ⟨(some 48), .load false 1 (.t 47), (some (44, true))⟩),
  ([0, 1, 2, 3], false, ⟨(some 49), .mv (.t 0), (some (44, true))⟩),
  ([0, 1, 2, 3], false, ⟨(some 50), .nilc (.t 49), (some (44, true))⟩),
  ([0, 1, 2, 3], false, ⟨(some 51), .fad 0 (.t 50), (some (44, true))⟩),
  ([0, 1, 2, 3], false, ⟨(some 52), .load false 1 (.t 51), (some (44, true))⟩),
  ([0, 1, 2, 3], false, ⟨(some 53), .len (.t 52), (some (44, true))⟩),
  ([], true, ⟨(some 54), .bin .eql (.t 48) (.t 53), (some (44, true))⟩),
  ([], true, ⟨(some 55), .pick (.t 44) (.t 54) (.k (D.bool false)), none⟩),
  ([], true, ⟨(some 41), .mv (.t 55), none⟩)])
 (.cond (.t 41)
 (.seq (.reg [⟨(some 56), .mv (.t 0), none⟩,
  ⟨(some 57), .mv (.t 0), none⟩,
  ⟨(some 58), .nilc (.t 57), none⟩,
  ⟨(some 59), .fad 0 (.t 58), none⟩,
  ⟨(some 60), .load false 1 (.t 59), none⟩,
  ⟨(some 61), .len (.t 60), none⟩,
  ⟨(some 62), .nilc (.t 56), none⟩,
  ⟨(some 63), .fad 1 (.t 62), none⟩,
  ⟨none, .store 1 (.t 63) (.t 61), none⟩])
 .ret)
 (.seq (.dreg [([], true, ⟨(some 65), .mv (.t 6), none⟩),
  ([], true, ⟨(some 66), .bin .eql (.t 65) (.k (D.int .u8 (27))), none⟩),
  ([], true, ⟨(some 67), .mv (.t 66), none⟩),
  ([], false, ⟨(some 68), .mv (.t 0), (some (67, true))⟩),
  ([], false, ⟨(some 69), .nilc (.t 68), (some (67, true))⟩),
  ([], false, ⟨(some 70), .fad 0 (.t 69), (some (67, true))⟩),
  ([], false, ⟨(some 71), .load false 1 (.t 70), (some (67, true))⟩),
  ([0, 1, 2, 3], false, ⟨(some 72), .mv (.t 0), (some (67, true))⟩),
  ([0, 1, 2, 3], false, ⟨(some 73), .nilc (.t 72), (some (67, true))⟩),
  ([0, 1, 2, 3], false, ⟨(some 74), .fad 1 (.t 73), (some (67, true))⟩),
  ([0, 1, 2, 3], false, ⟨(some 75), .load false 1 (.t 74), (some (67, true))⟩),
  ([], true, ⟨(some 76), .ixs 1 (.t 71) (.t 75), (some (67, true))⟩),
  ([], true, ⟨(some 77), .load false 1 (.t 76), (some (67, true))⟩),
  ([], true, ⟨(some 78), .bin .neq (.t 77) (.k (D.int .u8 (92))), (some (67, true))⟩),
  ([], true, ⟨(some 79), .pick (.t 67) (.t 78) (.k (D.bool false)), none⟩),
  ([], true, ⟨(some 64), .mv (.t 79), none⟩)])
 (.cond (.t 64)
 (.seq (.reg [⟨(some 80), .mv (.t 0), none⟩,
  ⟨(some 81), .nilc (.t 80), none⟩,
  ⟨(some 82), .fad 1 (.t 81), none⟩,
  ⟨(some 83), .load false 1 (.t 82), none⟩,
  ⟨(some 84), .bin .sub (.t 83) (.k (D.int .i64 (1))), none⟩,
  ⟨(some 85), .nilc (.t 80), none⟩,
  ⟨(some 86), .fad 1 (.t 85), none⟩,
  ⟨none, .store 1 (.t 86) (.t 84), none⟩])
 .ret)
 (.seq (.reg [⟨(some 88), .mv (.t 6), none⟩,
  ⟨(some 89), .bin .eql (.t 88) (.k (D.int .u8 (7))), none⟩,
  ⟨(some 90), .mv (.t 89), none⟩,
  ⟨(some 91), .mv (.t 6), (some (90, false))⟩,
  ⟨(some 92), .bin .eql (.t 91) (.k (D.int .u8 (27))), (some (90, false))⟩,
  ⟨(some 93), .pick (.t 90) (.k (D.bool true)) (.t 92), none⟩,
  ⟨(some 87), .mv (.t 93), none⟩])
 (.cond (.t 87)
 (.seq (.seq (.reg [⟨(some 94), .mv (.t 6), none⟩,
  ⟨(some 95), .bin .eql (.t 94) (.k (D.int .u8 (27))), none⟩])
 (.cond (.t 95)
 (.reg [⟨(some 96), .mv (.t 0), none⟩,
  ⟨(some 97), .nilc (.t 96), none⟩,
  ⟨(some 98), .fad 1 (.t 97), none⟩,
  ⟨(some 99), .load false 1 (.t 98), none⟩,
  ⟨(some 100), .bin .add (.t 99) (.k (D.int .i64 (1))), none⟩,
  ⟨(some 101), .nilc (.t 96), none⟩,
  ⟨(some 102), .fad 1 (.t 101), none⟩,
  ⟨none, .store 1 (.t 102) (.t 100), none⟩])
 .skip))
 (.seq (.seq (.reg [⟨(some 103), .mv (.t 1), none⟩,
  ⟨(some 104), .mv (.t 103), none⟩,
  ⟨(some 105), .mv (.t 5), (some (104, true))⟩,
  ⟨(some 106), .bin .leq (.t 105) (.k (D.int .i64 (4096))), (some (104, true))⟩,
  ⟨(some 107), .pick (.t 104) (.t 106) (.k (D.bool false)), none⟩])
 (.cond (.t 107)
 (.dreg [([], false, ⟨(some 108), .mv (.t 0), none⟩),
  ([0], false, ⟨(some 109), .mv (.t 0), none⟩),
  ([0], false, ⟨(some 110), .nilc (.t 109), none⟩),
  ([0], false, ⟨(some 111), .fad 2 (.t 110), none⟩),
  ([0], false, ⟨(some 112), .load false 1 (.t 111), none⟩),
  ([0, 1, 2, 3, 4], false, ⟨(some 113), .mv (.t 4), none⟩),
  ([0, 1, 2, 3, 4], false, ⟨(some 114), .b2s (.t 113), none⟩),
  ([0, 1, 2, 3, 4], false, ⟨(some 115), .build [(D.int .i64 (0)), (D.int .i32 (0)), (D.int .u8 (0)), (D.int .u8 (0)), (D.int .u8 (0)), .sn, (D.str [])] [(0, 1, (.k (D.int .i64 (5)))), (6, 1, (.t 114))], none⟩),
  ([0, 1, 2, 3, 4], false, ⟨(some 116), .bsl false 7 1 [(D.int .i64 (0)), (D.int .i32 (0)), (D.int .u8 (0)), (D.int .u8 (0)), (D.int .u8 (0)), .sn, (D.str [])] [(0, (.t 115))], none⟩),
  ([0], false, ⟨(some 117), .append 7 56 (.t 112) (.t 116), none⟩),
  ([], true, ⟨(some 118), .nilc (.t 108), none⟩),
  ([], true, ⟨(some 119), .fad 2 (.t 118), none⟩),
  ([], true, ⟨none, .store 1 (.t 119) (.t 117), none⟩)])
 .skip))
 .ret))
 (.seq (.reg [⟨(some 121), .mv (.t 6), none⟩,
  ⟨(some 122), .bin .geq (.t 121) (.k (D.int .u8 (32))), none⟩,
  ⟨(some 120), .mv (.t 122), none⟩])
 (.cond (.t 120)
 (.seq (.reg [⟨(some 123), .mv (.t 5), none⟩,
  ⟨(some 124), .bin .add (.t 123) (.k (D.int .i64 (1))), none⟩,
  ⟨(some 5), .mv (.t 124), none⟩])
 (.seq (.reg [⟨(some 125), .mv (.t 5), none⟩,
  ⟨(some 126), .bin .leq (.t 125) (.k (D.int .i64 (4096))), none⟩])
 (.cond (.t 126)
 (.reg [⟨(some 127), .mv (.t 4), none⟩,
  ⟨(some 128), .mv (.t 6), none⟩,
  ⟨(some 129), .bsl false 1 1 [(D.int .u8 (0))] [(0, (.t 128))], none⟩,
  ⟨(some 130), .append 1 1 (.t 127) (.t 129), none⟩,
  ⟨(some 4), .mv (.t 130), none⟩])
 .skip)))
 .skip)))))))))))))))))))⟩
def a6 : Ann := ⟨[(13, [(2, ⟨false, 0, false⟩), (4, ⟨false, 0, false⟩), (5, ⟨false, 0, false⟩), (0, ⟨true, 0, false⟩)])], [], [0]⟩
def s6 : SFun := ⟨1, 55, [0], [],
 (.seq (.reg [⟨(some 7), .mv (.t 0), none⟩,
  ⟨(some 8), .call false 8 [(.t 7)], none⟩,
  ⟨(some 6), .mv (.t 8), none⟩,
  ⟨(some 9), .ext (.t 6) 0, none⟩,
  ⟨(some 10), .ext (.t 6) 1, none⟩,
  ⟨(some 2), .mv (.t 9), none⟩,
  ⟨(some 3), .mv (.t 10), none⟩])
 (.seq (.seq (.reg [⟨(some 11), .mv (.t 3), none⟩,
  ⟨(some 12), .una .not (.t 11), none⟩])
 (.cond (.t 12)
 .ret
 .skip))
 (.seq (.seq (.reg [⟨(some 13), .mv (.t 2), none⟩])
 (.block 0 (.seq (.reg [⟨(some 15), .bin .eql (.t 13) (.k (D.int .u8 (91))), none⟩,
  ⟨(some 14), .mv (.t 15), none⟩])
 (.cond (.t 14)
 (.seq (.reg [⟨(some 16), .mv (.t 0), none⟩,
  ⟨(some 17), .call false 5 [(.t 16)], none⟩])
 .ret)
 (.seq (.reg [⟨(some 19), .bin .eql (.t 13) (.k (D.int .u8 (93))), none⟩,
  ⟨(some 18), .mv (.t 19), none⟩])
 (.cond (.t 18)
 (.seq (.reg [⟨(some 20), .mv (.t 0), none⟩,
  ⟨(some 21), .call false 9 [(.t 20), (.k (D.bool true))], none⟩])
 .ret)
 (.seq (.seq (.reg [⟨(some 23), .bin .eql (.t 13) (.k (D.int .u8 (80))), none⟩,
  ⟨(some 22), .mv (.t 23), none⟩])
 (.cond (.t 22)
 .skip
 (.seq (.reg [⟨(some 24), .bin .eql (.t 13) (.k (D.int .u8 (88))), none⟩,
  ⟨(some 22), .mv (.t 24), none⟩])
 (.cond (.t 22)
 .skip
 (.seq (.reg [⟨(some 25), .bin .eql (.t 13) (.k (D.int .u8 (94))), none⟩,
  ⟨(some 22), .mv (.t 25), none⟩])
 (.cond (.t 22)
 .skip
 (.reg [⟨(some 26), .bin .eql (.t 13) (.k (D.int .u8 (95))), none⟩,
  ⟨(some 22), .mv (.t 26), none⟩])))))))
 (.cond (.t 22)
 (.seq (.reg [⟨(some 27), .mv (.t 0), none⟩,
  ⟨(some 28), .call false 9 [(.t 27), (.k (D.bool false))], none⟩])
 .ret)
 .skip))))))))
 (.seq (.reg [⟨(some 4), .mv (.k (D.int .u8 (0))), none⟩,
  ⟨(some 5), .mv (.k (D.int .i64 (0))), none⟩])
 (.seq (.block 1 (.loop [(2, ⟨false, 0, false⟩), (4, ⟨false, 0, false⟩), (5, ⟨false, 0, false⟩), (0, ⟨true, 0, false⟩)]
 (.seq (.seq (.reg [⟨(some 29), .mv (.t 2), none⟩,
  ⟨(some 30), .bin .lss (.t 29) (.k (D.int .u8 (48))), none⟩])
 (.cond (.t 30)
 .skip
 (.exit 1)))
 (.block 2 (.seq (.reg [⟨(some 31), .mv (.t 2), none⟩,
  ⟨(some 4), .mv (.t 31), none⟩])
 (.seq (.reg [⟨(some 32), .mv (.t 5), none⟩,
  ⟨(some 33), .bin .add (.t 32) (.k (D.int .i64 (1))), none⟩,
  ⟨(some 5), .mv (.t 33), none⟩])
 (.seq (.reg [⟨(some 35), .mv (.t 0), none⟩,
  ⟨(some 36), .call false 8 [(.t 35)], none⟩,
  ⟨(some 34), .mv (.t 36), none⟩,
  ⟨(some 37), .ext (.t 34) 0, none⟩,
  ⟨(some 38), .ext (.t 34) 1, none⟩,
  ⟨(some 2), .mv (.t 37), none⟩,
  ⟨(some 3), .mv (.t 38), none⟩])
 (.seq (.reg [⟨(some 39), .mv (.t 3), none⟩,
  ⟨(some 40), .una .not (.t 39), none⟩])
 (.cond (.t 40)
 .ret
 .skip)))))))))
 (.seq (.reg [⟨(some 41), .mv (.t 5), none⟩,
  ⟨(some 42), .bin .lss (.t 41) (.k (D.int .i64 (2))), none⟩])
 (.cond (.t 42)
 (.reg [⟨(some 43), .mv (.t 0), none⟩,
  ⟨(some 44), .mv (.t 0), none⟩,
  ⟨(some 45), .nilc (.t 44), none⟩,
  ⟨(some 46), .fad 2 (.t 45), none⟩,
  ⟨(some 47), .load false 1 (.t 46), none⟩,
  ⟨(some 48), .mv (.t 4), none⟩,
  ⟨(some 49), .mv (.t 2), none⟩,
  ⟨(some 50), .build [(D.int .i64 (0)), (D.int .i32 (0)), (D.int .u8 (0)), (D.int .u8 (0)), (D.int .u8 (0)), .sn, (D.str [])] [(0, 1, (.k (D.int .i64 (3)))), (3, 1, (.t 48)), (4, 1, (.t 49))], none⟩,
  ⟨(some 51), .bsl false 7 1 [(D.int .i64 (0)), (D.int .i32 (0)), (D.int .u8 (0)), (D.int .u8 (0)), (D.int .u8 (0)), .sn, (D.str [])] [(0, (.t 50))], none⟩,
  ⟨(some 52), .append 7 56 (.t 47) (.t 51), none⟩,
  ⟨(some 53), .nilc (.t 43), none⟩,
  ⟨(some 54), .fad 2 (.t 53), none⟩,
  ⟨none, .store 1 (.t 54) (.t 52), none⟩])
 .skip)))))))⟩
def a243 : Ann := ⟨[(3, [(0, ⟨false, 0, false⟩), (2, ⟨false, 0, false⟩), (3, ⟨false, 0, false⟩), (5, ⟨false, 0, false⟩), (4, ⟨true, 1, false⟩)]), (17, [(0, ⟨false, 0, false⟩), (5, ⟨false, 0, false⟩), (6, ⟨false, 0, false⟩), (7, ⟨false, 0, false⟩), (8, ⟨false, 0, false⟩), (4, ⟨true, 1, false⟩)])], [⟨true, 1, false⟩, ⟨false, 0, false⟩], []⟩
def s243 : SFun := ⟨1, 144, [], [(.tmp 2, ⟨true, 1, false⟩), (.tmp 3, ⟨false, 0, false⟩)],
 (.seq (.reg [⟨(some 2), .mv (.k .sn), none⟩,
  ⟨(some 3), .mv (.k (D.int .i64 (0))), none⟩])
 (.seq (.reg [⟨(some 4), .mv (.k .sn), none⟩])
 (.seq (.reg [⟨(some 5), .mv (.k (D.int .i64 (0))), none⟩])
 (.seq (.block 0 (.loop [(0, ⟨false, 0, false⟩), (2, ⟨false, 0, false⟩), (3, ⟨false, 0, false⟩), (5, ⟨false, 0, false⟩), (4, ⟨true, 1, false⟩)]
 (.seq (.seq (.reg [⟨(some 10), .mv (.t 5), none⟩,
  ⟨(some 11), .mv (.t 0), none⟩,
  ⟨(some 12), .len (.t 11), none⟩,
  ⟨(some 13), .bin .lss (.t 10) (.t 12), none⟩])
 (.cond (.t 13)
 .skip
 (.exit 0)))
 (.block 1 (.seq (.reg [⟨(some 14), .mv (.t 0), none⟩,
  ⟨(some 15), .mv (.t 5), none⟩,
  ⟨(some 16), .ixs 1 (.t 14) (.t 15), none⟩,
  ⟨(some 17), .load false 1 (.t 16), none⟩,
  ⟨(some 18), .cvi .i64 (.t 17), none⟩,
  ⟨(some 6), .mv (.t 18), none⟩,
  ⟨(some 7), .mv (.k (D.int .i64 (0))), none⟩])
 (.seq (.block 2 (.seq (.reg [⟨(some 25), .mv (.t 6), none⟩,
  ⟨(some 26), .bin .lss (.t 25) (.k (D.int .i64 (128))), none⟩,
  ⟨(some 24), .mv (.t 26), none⟩])
 (.cond (.t 24)
 (.seq (.reg [⟨(some 27), .mv (.t 4), none⟩,
  ⟨(some 28), .mv (.t 6), none⟩,
  ⟨(some 29), .cvi .i32 (.t 28), none⟩,
  ⟨(some 30), .bsl false 1 1 [(D.int .i32 (0))] [(0, (.t 29))], none⟩,
  ⟨(some 31), .append 1 4 (.t 27) (.t 30), none⟩,
  ⟨(some 4), .mv (.t 31), none⟩])
 (.seq (.reg [⟨(some 32), .mv (.t 5), none⟩,
  ⟨(some 33), .bin .add (.t 32) (.k (D.int .i64 (1))), none⟩,
  ⟨(some 5), .mv (.t 33), none⟩])
 (.exit 1)))
 (.seq (.reg [⟨(some 35), .mv (.t 6), none⟩,
  ⟨(some 36), .bin .geq (.t 35) (.k (D.int .i64 (194))), none⟩,
  ⟨(some 37), .mv (.t 36), none⟩,
  ⟨(some 38), .mv (.t 6), (some (37, true))⟩,
  ⟨(some 39), .bin .leq (.t 38) (.k (D.int .i64 (223))), (some (37, true))⟩,
  ⟨(some 40), .pick (.t 37) (.t 39) (.k (D.bool false)), none⟩,
  ⟨(some 34), .mv (.t 40), none⟩])
 (.cond (.t 34)
 (.reg [⟨(some 41), .mv (.t 6), none⟩,
  ⟨(some 42), .bin .and (.t 41) (.k (D.int .i64 (31))), none⟩,
  ⟨(some 6), .mv (.t 42), none⟩,
  ⟨(some 7), .mv (.k (D.int .i64 (1))), none⟩])
 (.seq (.reg [⟨(some 44), .mv (.t 6), none⟩,
  ⟨(some 45), .bin .geq (.t 44) (.k (D.int .i64 (224))), none⟩,
  ⟨(some 46), .mv (.t 45), none⟩,
  ⟨(some 47), .mv (.t 6), (some (46, true))⟩,
  ⟨(some 48), .bin .leq (.t 47) (.k (D.int .i64 (239))), (some (46, true))⟩,
  ⟨(some 49), .pick (.t 46) (.t 48) (.k (D.bool false)), none⟩,
  ⟨(some 43), .mv (.t 49), none⟩])
 (.cond (.t 43)
 (.reg [⟨(some 50), .mv (.t 6), none⟩,
  ⟨(some 51), .bin .and (.t 50) (.k (D.int .i64 (15))), none⟩,
  ⟨(some 6), .mv (.t 51), none⟩,
  ⟨(some 7), .mv (.k (D.int .i64 (2))), none⟩])
 (.seq (.reg [⟨(some 53), .mv (.t 6), none⟩,
  ⟨(some 54), .bin .geq (.t 53) (.k (D.int .i64 (240))), none⟩,
  ⟨(some 55), .mv (.t 54), none⟩,
  ⟨(some 56), .mv (.t 6), (some (55, true))⟩,
  ⟨(some 57), .bin .leq (.t 56) (.k (D.int .i64 (244))), (some (55, true))⟩,
  ⟨(some 58), .pick (.t 55) (.t 57) (.k (D.bool false)), none⟩,
  ⟨(some 52), .mv (.t 58), none⟩])
 (.cond (.t 52)
 (.reg [⟨(some 59), .mv (.t 6), none⟩,
  ⟨(some 60), .bin .and (.t 59) (.k (D.int .i64 (7))), none⟩,
  ⟨(some 6), .mv (.t 60), none⟩,
  ⟨(some 7), .mv (.k (D.int .i64 (3))), none⟩])
 (.seq (.reg [⟨(some 19), .mv (.t 4), none⟩,
  ⟨(some 20), .bsl false 1 1 [(D.int .i32 (0))] [(0, (.k (D.int .i32 (65533))))], none⟩,
  ⟨(some 21), .append 1 4 (.t 19) (.t 20), none⟩,
  ⟨(some 4), .mv (.t 21), none⟩])
 (.seq (.reg [⟨(some 22), .mv (.t 5), none⟩,
  ⟨(some 23), .bin .add (.t 22) (.k (D.int .i64 (1))), none⟩,
  ⟨(some 5), .mv (.t 23), none⟩])
 (.exit 1))))))))))))
 (.seq (.reg [⟨(some 8), .mv (.k (D.int .i64 (1))), none⟩])
 (.seq (.block 3 (.loop [(0, ⟨false, 0, false⟩), (5, ⟨false, 0, false⟩), (6, ⟨false, 0, false⟩), (7, ⟨false, 0, false⟩), (8, ⟨false, 0, false⟩), (4, ⟨true, 1, false⟩)]
 (.seq (.seq (.reg [⟨(some 61), .mv (.t 8), none⟩,
  ⟨(some 62), .mv (.t 7), none⟩,
  ⟨(some 63), .bin .leq (.t 61) (.t 62), none⟩,
  ⟨(some 64), .mv (.t 63), none⟩,
  ⟨(some 65), .mv (.t 5), (some (64, true))⟩,
  ⟨(some 66), .mv (.t 8), (some (64, true))⟩,
  ⟨(some 67), .bin .add (.t 65) (.t 66), (some (64, true))⟩,
  ⟨(some 68), .mv (.t 0), (some (64, true))⟩,
  ⟨(some 69), .len (.t 68), (some (64, true))⟩,
  ⟨(some 70), .bin .lss (.t 67) (.t 69), (some (64, true))⟩,
  ⟨(some 71), .pick (.t 64) (.t 70) (.k (D.bool false)), none⟩,
  ⟨(some 72), .mv (.t 71), none⟩,
  ⟨(some 73), .mv (.t 0), (some (72, true))⟩,
  ⟨(some 74), .mv (.t 5), (some (72, true))⟩,
  ⟨(some 75), .mv (.t 8), (some (72, true))⟩,
  ⟨(some 76), .bin .add (.t 74) (.t 75), (some (72, true))⟩,
  ⟨(some 77), .ixs 1 (.t 73) (.t 76), (some (72, true))⟩,
  ⟨(some 78), .load false 1 (.t 77), (some (72, true))⟩,
  ⟨(some 79), .bin .and (.t 78) (.k (D.int .u8 (192))), (some (72, true))⟩,
  ⟨(some 80), .bin .eql (.t 79) (.k (D.int .u8 (128))), (some (72, true))⟩,
  ⟨(some 81), .pick (.t 72) (.t 80) (.k (D.bool false)), none⟩])
 (.cond (.t 81)
 .skip
 (.exit 3)))
 (.block 4 (.seq (.reg [⟨(some 82), .mv (.t 6), none⟩,
  ⟨(some 83), .bin .shl (.t 82) (.k (D.int .u64 (6))), none⟩,
  ⟨(some 84), .mv (.t 0), none⟩,
  ⟨(some 85), .mv (.t 5), none⟩,
  ⟨(some 86), .mv (.t 8), none⟩,
  ⟨(some 87), .bin .add (.t 85) (.t 86), none⟩,
  ⟨(some 88), .ixs 1 (.t 84) (.t 87), none⟩,
  ⟨(some 89), .load false 1 (.t 88), none⟩,
  ⟨(some 90), .bin .and (.t 89) (.k (D.int .u8 (63))), none⟩,
  ⟨(some 91), .cvi .i64 (.t 90), none⟩,
  ⟨(some 92), .bin .or (.t 83) (.t 91), none⟩,
  ⟨(some 6), .mv (.t 92), none⟩])
 (.reg [⟨(some 93), .mv (.t 8), none⟩,
  ⟨(some 94), .bin .add (.t 93) (.k (D.int .i64 (1))), none⟩,
  ⟨(some 8), .mv (.t 94), none⟩]))))))
 (.seq (.seq (.reg [⟨(some 95), .mv (.t 8), none⟩,
  ⟨(some 96), .mv (.t 7), none⟩,
  ⟨(some 97), .bin .leq (.t 95) (.t 96), none⟩,
  ⟨(some 98), .mv (.t 97), none⟩,
  ⟨(some 99), .mv (.t 5), (some (98, true))⟩,
  ⟨(some 100), .mv (.t 8), (some (98, true))⟩,
  ⟨(some 101), .bin .add (.t 99) (.t 100), (some (98, true))⟩,
  ⟨(some 102), .mv (.t 0), (some (98, true))⟩,
  ⟨(some 103), .len (.t 102), (some (98, true))⟩,
  ⟨(some 104), .bin .eql (.t 101) (.t 103), (some (98, true))⟩,
  ⟨(some 105), .pick (.t 98) (.t 104) (.k (D.bool false)), none⟩])
 (.cond (.t 105)
 (.seq (.reg [⟨(some 106), .mv (.t 4), none⟩,
  ⟨(some 107), .mv (.t 0), none⟩,
  ⟨(some 108), .len (.t 107), none⟩,
  ⟨(some 109), .mv (.t 5), none⟩,
  ⟨(some 110), .bin .sub (.t 108) (.t 109), none⟩,
  ⟨(some 2), .mv (.t 106), none⟩,
  ⟨(some 3), .mv (.t 110), none⟩])
 .ret)
 .skip))
 (.seq (.reg [⟨(some 111), .mv (.t 5), none⟩,
  ⟨(some 112), .mv (.t 8), none⟩,
  ⟨(some 113), .bin .add (.t 111) (.t 112), none⟩,
  ⟨(some 5), .mv (.t 113), none⟩])
 (.seq (.reg [⟨(some 114), .bsl true 1 4 [(D.int .i64 (0))] [(0, (.k (D.int .i64 (0)))), (1, (.k (D.int .i64 (128)))), (2, (.k (D.int .i64 (2048)))), (3, (.k (D.int .i64 (65536))))], none⟩,
  ⟨(some 115), .mv (.t 7), none⟩,
  ⟨(some 116), .ixs 1 (.t 114) (.t 115), none⟩,
  ⟨(some 117), .load false 1 (.t 116), none⟩,
  ⟨(some 9), .mv (.t 117), none⟩])
 (.seq (.seq (.reg [⟨(some 118), .mv (.t 8), none⟩,
  ⟨(some 119), .mv (.t 7), none⟩,
  ⟨(some 120), .bin .leq (.t 118) (.t 119), none⟩,
  ⟨(some 121), .mv (.t 120), none⟩,
  ⟨(some 122), .mv (.t 6), (some (121, false))⟩,
  ⟨(some 123), .mv (.t 9), (some (121, false))⟩,
  ⟨(some 124), .bin .lss (.t 122) (.t 123), (some (121, false))⟩,
  ⟨(some 125), .pick (.t 121) (.k (D.bool true)) (.t 124), none⟩,
  ⟨(some 126), .mv (.t 125), none⟩,
  ⟨(some 127), .mv (.t 6), (some (126, false))⟩,
  ⟨(some 128), .bin .gtr (.t 127) (.k (D.int .i64 (1114111))), (some (126, false))⟩,
  ⟨(some 129), .pick (.t 126) (.k (D.bool true)) (.t 128), none⟩,
  ⟨(some 130), .mv (.t 129), none⟩,
  ⟨(some 131), .mv (.t 6), (some (130, false))⟩,
  ⟨(some 132), .bin .geq (.t 131) (.k (D.int .i64 (55296))), (some (130, false))⟩,
  ⟨(some 133), .mv (.t 132), (some (130, false))⟩,
  ⟨(some 134), .mv (.t 6), (some (133, true))⟩,
  ⟨(some 135), .bin .leq (.t 134) (.k (D.int .i64 (57343))), (some (133, true))⟩,
  ⟨(some 136), .pick (.t 133) (.t 135) (.k (D.bool false)), (some (130, false))⟩,
  ⟨(some 137), .pick (.t 130) (.k (D.bool true)) (.t 136), none⟩])
 (.cond (.t 137)
 (.reg [⟨(some 6), .mv (.k (D.int .i64 (65533))), none⟩])
 .skip))
 (.reg [⟨(some 138), .mv (.t 4), none⟩,
  ⟨(some 139), .mv (.t 6), none⟩,
  ⟨(some 140), .cvi .i32 (.t 139), none⟩,
  ⟨(some 141), .bsl false 1 1 [(D.int .i32 (0))] [(0, (.t 140))], none⟩,
  ⟨(some 142), .append 1 4 (.t 138) (.t 141), none⟩,
  ⟨(some 4), .mv (.t 142), none⟩])))))))))))))
 (.seq (.reg [⟨(some 143), .mv (.t 4), none⟩,
  ⟨(some 2), .mv (.t 143), none⟩,
  ⟨(some 3), .mv (.k (D.int .i64 (0))), none⟩])
 .ret)))))⟩
def a7 : Ann := ⟨[(1, [(2, ⟨false, 0, false⟩), (0, ⟨true, 0, false⟩)]), (5, [(2, ⟨false, 0, false⟩), (4, ⟨false, 0, false⟩), (44, ⟨false, 0, false⟩), (45, ⟨false, 0, false⟩), (46, ⟨false, 0, false⟩), (0, ⟨true, 0, false⟩)])], [], [0]⟩
def s7 : SFun := ⟨1, 87, [0], [],
 (.seq (.reg [⟨(some 7), .mv (.t 0), none⟩,
  ⟨(some 8), .nilc (.t 7), none⟩,
  ⟨(some 9), .fad 1 (.t 8), none⟩,
  ⟨(some 10), .load false 1 (.t 9), none⟩,
  ⟨(some 2), .mv (.t 10), none⟩])
 (.seq (.block 0 (.loop [(2, ⟨false, 0, false⟩), (0, ⟨true, 0, false⟩)]
 (.seq (.seq (.reg [⟨(some 11), .mv (.t 2), none⟩,
  ⟨(some 12), .mv (.t 0), none⟩,
  ⟨(some 13), .nilc (.t 12), none⟩,
  ⟨(some 14), .fad 0 (.t 13), none⟩,
  ⟨(some 15), .load false 1 (.t 14), none⟩,
  ⟨(some 16), .len (.t 15), none⟩,
  ⟨(some 17), .bin .lss (.t 11) (.t 16), none⟩,
  ⟨(some 18), .mv (.t 17), none⟩,
  ⟨(some 19), .mv (.t 0), (some (18, true))⟩,
  ⟨(some 20), .nilc (.t 19), (some (18, true))⟩,
  ⟨(some 21), .fad 0 (.t 20), (some (18, true))⟩,
  ⟨(some 22), .load false 1 (.t 21), (some (18, true))⟩,
  ⟨(some 23), .mv (.t 2), (some (18, true))⟩,
  ⟨(some 24), .ixs 1 (.t 22) (.t 23), (some (18, true))⟩,
  ⟨(some 25), .load false 1 (.t 24), (some (18, true))⟩,
  ⟨(some 26), .bin .geq (.t 25) (.k (D.int .u8 (128))), (some (18, true))⟩,
  ⟨(some 27), .pick (.t 18) (.t 26) (.k (D.bool false)), none⟩])
 (.cond (.t 27)
 .skip
 (.exit 0)))
 (.block 1 (.reg [⟨(some 28), .mv (.t 2), none⟩,
  ⟨(some 29), .bin .add (.t 28) (.k (D.int .i64 (1))), none⟩,
  ⟨(some 2), .mv (.t 29), none⟩])))))
 (.seq (.dreg [([], false, ⟨(some 31), .mv (.t 0), none⟩),
  ([], false, ⟨(some 32), .nilc (.t 31), none⟩),
  ([], false, ⟨(some 33), .fad 0 (.t 32), none⟩),
  ([], false, ⟨(some 34), .load false 1 (.t 33), none⟩),
  ([0, 1, 2, 3], false, ⟨(some 35), .mv (.t 0), none⟩),
  ([0, 1, 2, 3], false, ⟨(some 36), .nilc (.t 35), none⟩),
  ([0, 1, 2, 3], false, ⟨(some 37), .fad 1 (.t 36), none⟩),
  ([0, 1, 2, 3], false, ⟨(some 38), .load false 1 (.t 37), none⟩),
  ([0, 1, 2, 3, 4, 5, 6, 7], false, ⟨(some 39), .mv (.t 2), none⟩),
  ([], true, ⟨(some 40), .slc 1 (.t 34) (some (.t 38)) (some (.t 39)), none⟩),
  ([], true, ⟨(some 41), .call false 243 [(.t 40)], none⟩),
  ([], true, ⟨(some 30), .mv (.t 41), none⟩),
  ([], false, ⟨(some 42), .ext (.t 30) 0, none⟩),
  ([0], false, ⟨(some 43), .ext (.t 30) 1, none⟩),
  ([1], false, ⟨(some 3), .mv (.t 42), none⟩),
  ([], true, ⟨(some 4), .mv (.t 43), none⟩)])
 (.seq (.seq (.reg [⟨(some 44), .mv (.t 3), none⟩,
  ⟨(some 45), .len (.t 44), none⟩,
  ⟨(some 46), .mv (.k (D.int .i64 (0))), none⟩])
 (.block 2 (.loop [(2, ⟨false, 0, false⟩), (4, ⟨false, 0, false⟩), (44, ⟨false, 0, false⟩), (45, ⟨false, 0, false⟩), (46, ⟨false, 0, false⟩), (0, ⟨true, 0, false⟩)]
 (.seq (.reg [⟨(some 47), .bin .lss (.t 46) (.t 45), none⟩])
 (.seq (.cond (.t 47)
 .skip
 (.exit 2))
 (.seq (.block 3 (.seq (.reg [⟨(some 48), .ixs 1 (.t 44) (.t 46), none⟩,
  ⟨(some 49), .load false 1 (.t 48), none⟩,
  ⟨(some 6), .mv (.t 49), none⟩])
 (.reg [⟨(some 50), .mv (.t 0), none⟩,
  ⟨(some 51), .mv (.t 0), none⟩,
  ⟨(some 52), .nilc (.t 51), none⟩,
  ⟨(some 53), .fad 2 (.t 52), none⟩,
  ⟨(some 54), .load false 1 (.t 53), none⟩,
  ⟨(some 55), .mv (.t 6), none⟩,
  ⟨(some 56), .build [(D.int .i64 (0)), (D.int .i32 (0)), (D.int .u8 (0)), (D.int .u8 (0)), (D.int .u8 (0)), .sn, (D.str [])] [(0, 1, (.k (D.int .i64 (1)))), (1, 1, (.t 55))], none⟩,
  ⟨(some 57), .bsl false 7 1 [(D.int .i64 (0)), (D.int .i32 (0)), (D.int .u8 (0)), (D.int .u8 (0)), (D.int .u8 (0)), .sn, (D.str [])] [(0, (.t 56))], none⟩,
  ⟨(some 58), .append 7 56 (.t 54) (.t 57), none⟩,
  ⟨(some 59), .nilc (.t 50), none⟩,
  ⟨(some 60), .fad 2 (.t 59), none⟩,
  ⟨none, .store 1 (.t 60) (.t 58), none⟩])))
 (.reg [⟨(some 61), .bin .add (.t 46) (.k (D.int .i64 (1))), none⟩,
  ⟨(some 46), .mv (.t 61), none⟩])))))))
 (.seq (.seq (.reg [⟨(some 62), .mv (.t 4), none⟩,
  ⟨(some 63), .bin .gtr (.t 62) (.k (D.int .i64 (0))), none⟩,
  ⟨(some 64), .mv (.t 63), none⟩,
  ⟨(some 65), .mv (.t 2), (some (64, true))⟩,
  ⟨(some 66), .mv (.t 0), (some (64, true))⟩,
  ⟨(some 67), .nilc (.t 66), (some (64, true))⟩,
  ⟨(some 68), .fad 0 (.t 67), (some (64, true))⟩,
  ⟨(some 69), .load false 1 (.t 68), (some (64, true))⟩,
  ⟨(some 70), .len (.t 69), (some (64, true))⟩,
  ⟨(some 71), .bin .lss (.t 65) (.t 70), (some (64, true))⟩,
  ⟨(some 72), .pick (.t 64) (.t 71) (.k (D.bool false)), none⟩])
 (.cond (.t 72)
 (.reg [⟨(some 73), .mv (.t 0), none⟩,
  ⟨(some 74), .mv (.t 0), none⟩,
  ⟨(some 75), .nilc (.t 74), none⟩,
  ⟨(some 76), .fad 2 (.t 75), none⟩,
  ⟨(some 77), .load false 1 (.t 76), none⟩,
  ⟨(some 78), .build [(D.int .i64 (0)), (D.int .i32 (0)), (D.int .u8 (0)), (D.int .u8 (0)), (D.int .u8 (0)), .sn, (D.str [])] [(0, 1, (.k (D.int .i64 (1)))), (1, 1, (.k (D.int .i32 (65533))))], none⟩,
  ⟨(some 79), .bsl false 7 1 [(D.int .i64 (0)), (D.int .i32 (0)), (D.int .u8 (0)), (D.int .u8 (0)), (D.int .u8 (0)), .sn, (D.str [])] [(0, (.t 78))], none⟩,
  ⟨(some 80), .append 7 56 (.t 77) (.t 79), none⟩,
  ⟨(some 81), .nilc (.t 73), none⟩,
  ⟨(some 82), .fad 2 (.t 81), none⟩,
  ⟨none, .store 1 (.t 82) (.t 80), none⟩])
 .skip))
 (.reg [⟨(some 83), .mv (.t 0), none⟩,
  ⟨(some 84), .mv (.t 2), none⟩,
  ⟨(some 85), .nilc (.t 83), none⟩,
  ⟨(some 86), .fad 1 (.t 85), none⟩,
  ⟨none, .store 1 (.t 86) (.t 84), none⟩]))))))⟩
def a247 : Ann := ⟨[(2, [(3, ⟨true, 0, false⟩)])], [⟨true, 7, false⟩], []⟩
def s247 : SFun := ⟨1, 105, [], [(.tmp 2, ⟨true, 7, false⟩)],
 (.seq (.reg [⟨(some 2), .mv (.k .sn), none⟩])
 (.seq (.reg [⟨(some 5), .mv (.t 0), none⟩,
  ⟨(some 6), .build [.sn, (D.int .i64 (0)), .sn] [(0, 1, (.t 5))], none⟩,
  ⟨(some 7), .box 3 (.t 6), none⟩,
  ⟨(some 3), .mv (.t 7), none⟩])
 (.seq (.block 0 (.loop [(3, ⟨true, 0, false⟩)]
 (.seq (.seq (.dreg [([], false, ⟨(some 8), .mv (.t 3), none⟩),
  ([], false, ⟨(some 9), .nilc (.t 8), none⟩),
  ([], false, ⟨(some 10), .fad 1 (.t 9), none⟩),
  ([], false, ⟨(some 11), .load false 1 (.t 10), none⟩),
  ([0, 1, 2, 3], false, ⟨(some 12), .mv (.t 3), none⟩),
  ([0, 1, 2, 3], false, ⟨(some 13), .nilc (.t 12), none⟩),
  ([0, 1, 2, 3], false, ⟨(some 14), .fad 0 (.t 13), none⟩),
  ([0, 1, 2, 3], false, ⟨(some 15), .load false 1 (.t 14), none⟩),
  ([0, 1, 2, 3], false, ⟨(some 16), .len (.t 15), none⟩),
  ([], true, ⟨(some 17), .bin .lss (.t 11) (.t 16), none⟩)])
 (.cond (.t 17)
 .skip
 (.exit 0)))
 (.block 1 (.seq (.dreg [([], false, ⟨(some 18), .mv (.t 3), none⟩),
  ([], false, ⟨(some 19), .nilc (.t 18), none⟩),
  ([], false, ⟨(some 20), .fad 0 (.t 19), none⟩),
  ([], false, ⟨(some 21), .load false 1 (.t 20), none⟩),
  ([0, 1, 2, 3], false, ⟨(some 22), .mv (.t 3), none⟩),
  ([0, 1, 2, 3], false, ⟨(some 23), .nilc (.t 22), none⟩),
  ([0, 1, 2, 3], false, ⟨(some 24), .fad 1 (.t 23), none⟩),
  ([0, 1, 2, 3], false, ⟨(some 25), .load false 1 (.t 24), none⟩),
  ([], true, ⟨(some 26), .ixs 1 (.t 21) (.t 25), none⟩),
  ([], true, ⟨(some 27), .load false 1 (.t 26), none⟩),
  ([], true, ⟨(some 4), .mv (.t 27), none⟩)])
 (.block 2 (.seq (.reg [⟨(some 31), .mv (.t 4), none⟩,
  ⟨(some 32), .bin .eql (.t 31) (.k (D.int .u8 (27))), none⟩,
  ⟨(some 30), .mv (.t 32), none⟩])
 (.cond (.t 30)
 (.seq (.reg [⟨(some 33), .mv (.t 3), none⟩,
  ⟨(some 34), .nilc (.t 33), none⟩,
  ⟨(some 35), .fad 1 (.t 34), none⟩,
  ⟨(some 36), .load false 1 (.t 35), none⟩,
  ⟨(some 37), .bin .add (.t 36) (.k (D.int .i64 (1))), none⟩,
  ⟨(some 38), .nilc (.t 33), none⟩,
  ⟨(some 39), .fad 1 (.t 38), none⟩,
  ⟨none, .store 1 (.t 39) (.t 37), none⟩])
 (.reg [⟨(some 40), .mv (.t 3), none⟩,
  ⟨(some 41), .call false 6 [(.t 40)], none⟩]))
 (.seq (.reg [⟨(some 43), .mv (.t 4), none⟩,
  ⟨(some 44), .bin .lss (.t 43) (.k (D.int .u8 (32))), none⟩,
  ⟨(some 42), .mv (.t 44), none⟩])
 (.cond (.t 42)
 (.seq (.seq (.reg [⟨(some 45), .mv (.t 4), none⟩,
  ⟨(some 46), .bin .neq (.t 45) (.k (D.int .u8 (24))), none⟩,
  ⟨(some 47), .mv (.t 46), none⟩,
  ⟨(some 48), .mv (.t 4), (some (47, true))⟩,
  ⟨(some 49), .bin .neq (.t 48) (.k (D.int .u8 (26))), (some (47, true))⟩,
  ⟨(some 50), .pick (.t 47) (.t 49) (.k (D.bool false)), none⟩])
 (.cond (.t 50)
 (.reg [⟨(some 51), .mv (.t 3), none⟩,
  ⟨(some 52), .mv (.t 3), none⟩,
  ⟨(some 53), .nilc (.t 52), none⟩,
  ⟨(some 54), .fad 2 (.t 53), none⟩,
  ⟨(some 55), .load false 1 (.t 54), none⟩,
  ⟨(some 56), .mv (.t 4), none⟩,
  ⟨(some 57), .build [(D.int .i64 (0)), (D.int .i32 (0)), (D.int .u8 (0)), (D.int .u8 (0)), (D.int .u8 (0)), .sn, (D.str [])] [(0, 1, (.k (D.int .i64 (2)))), (4, 1, (.t 56))], none⟩,
  ⟨(some 58), .bsl false 7 1 [(D.int .i64 (0)), (D.int .i32 (0)), (D.int .u8 (0)), (D.int .u8 (0)), (D.int .u8 (0)), .sn, (D.str [])] [(0, (.t 57))], none⟩,
  ⟨(some 59), .append 7 56 (.t 55) (.t 58), none⟩,
  ⟨(some 60), .nilc (.t 51), none⟩,
  ⟨(some 61), .fad 2 (.t 60), none⟩,
  ⟨none, .store 1 (.t 61) (.t 59), none⟩])
 .skip))
 (.reg [⟨(some 62), .mv (.t 3), none⟩,
  ⟨(some 63), .nilc (.t 62), none⟩,
  ⟨(some 64), .fad 1 (.t 63), none⟩,
  ⟨(some 65), .load false 1 (.t 64), none⟩,
  ⟨(some 66), .bin .add (.t 65) (.k (D.int .i64 (1))), none⟩,
  ⟨(some 67), .nilc (.t 62), none⟩,
  ⟨(some 68), .fad 1 (.t 67), none⟩,
  ⟨none, .store 1 (.t 68) (.t 66), none⟩]))
 (.seq (.reg [⟨(some 70), .mv (.t 4), none⟩,
  ⟨(some 71), .bin .eql (.t 70) (.k (D.int .u8 (127))), none⟩,
  ⟨(some 69), .mv (.t 71), none⟩])
 (.cond (.t 69)
 (.reg [⟨(some 72), .mv (.t 3), none⟩,
  ⟨(some 73), .nilc (.t 72), none⟩,
  ⟨(some 74), .fad 1 (.t 73), none⟩,
  ⟨(some 75), .load false 1 (.t 74), none⟩,
  ⟨(some 76), .bin .add (.t 75) (.k (D.int .i64 (1))), none⟩,
  ⟨(some 77), .nilc (.t 72), none⟩,
  ⟨(some 78), .fad 1 (.t 77), none⟩,
  ⟨none, .store 1 (.t 78) (.t 76), none⟩])
 (.seq (.reg [⟨(some 80), .mv (.t 4), none⟩,
  ⟨(some 81), .bin .lss (.t 80) (.k (D.int .u8 (127))), none⟩,
  ⟨(some 79), .mv (.t 81), none⟩])
 (.cond (.t 79)
 (.seq (.reg [⟨(some 82), .mv (.t 3), none⟩,
  ⟨(some 83), .mv (.t 3), none⟩,
  ⟨(some 84), .nilc (.t 83), none⟩,
  ⟨(some 85), .fad 2 (.t 84), none⟩,
  ⟨(some 86), .load false 1 (.t 85), none⟩,
  ⟨(some 87), .mv (.t 4), none⟩,
  ⟨(some 88), .cvi .i32 (.t 87), none⟩,
  ⟨(some 89), .build [(D.int .i64 (0)), (D.int .i32 (0)), (D.int .u8 (0)), (D.int .u8 (0)), (D.int .u8 (0)), .sn, (D.str [])] [(0, 1, (.k (D.int .i64 (1)))), (1, 1, (.t 88))], none⟩,
  ⟨(some 90), .bsl false 7 1 [(D.int .i64 (0)), (D.int .i32 (0)), (D.int .u8 (0)), (D.int .u8 (0)), (D.int .u8 (0)), .sn, (D.str [])] [(0, (.t 89))], none⟩,
  ⟨(some 91), .append 7 56 (.t 86) (.t 90), none⟩,
  ⟨(some 92), .nilc (.t 82), none⟩,
  ⟨(some 93), .fad 2 (.t 92), none⟩,
  ⟨none, .store 1 (.t 93) (.t 91), none⟩])
 (.reg [⟨(some 94), .mv (.t 3), none⟩,
  ⟨(some 95), .nilc (.t 94), none⟩,
  ⟨(some 96), .fad 1 (.t 95), none⟩,
  ⟨(some 97), .load false 1 (.t 96), none⟩,
  ⟨(some 98), .bin .add (.t 97) (.k (D.int .i64 (1))), none⟩,
  ⟨(some 99), .nilc (.t 94), none⟩,
  ⟨(some 100), .fad 1 (.t 99), none⟩,
  ⟨none, .store 1 (.t 100) (.t 98), none⟩]))
 (.reg [⟨(some 28), .mv (.t 3), none⟩,
  ⟨(some 29), .call false 7 [(.t 28)], none⟩])))))))))))))))
 (.seq (.reg [⟨(some 101), .mv (.t 3), none⟩,
  ⟨(some 102), .nilc (.t 101), none⟩,
  ⟨(some 103), .fad 2 (.t 102), none⟩,
  ⟨(some 104), .load false 1 (.t 103), none⟩,
  ⟨(some 2), .mv (.t 104), none⟩])
 .ret))))⟩
def a275 : Ann := ⟨[(2, [(0, ⟨false, 0, false⟩), (1, ⟨false, 0, false⟩), (4, ⟨false, 0, false⟩), (5, ⟨false, 0, false⟩)])], [⟨false, 0, false⟩], []⟩
def s275 : SFun := ⟨2, 17, [], [(.tmp 4, ⟨false, 0, false⟩)],
 (.seq (.reg [⟨(some 4), .mv (.k (D.bool false)), none⟩])
 (.seq (.seq (.reg [⟨(some 5), .mv (.k (D.int .i64 (0))), none⟩])
 (.block 0 (.loop [(0, ⟨false, 0, false⟩), (1, ⟨false, 0, false⟩), (4, ⟨false, 0, false⟩), (5, ⟨false, 0, false⟩)]
 (.seq (.seq (.reg [⟨(some 6), .mv (.t 5), none⟩,
  ⟨(some 7), .mv (.t 0), none⟩,
  ⟨(some 8), .lens (.t 7), none⟩,
  ⟨(some 9), .bin .lss (.t 6) (.t 8), none⟩])
 (.cond (.t 9)
 .skip
 (.exit 0)))
 (.seq (.block 1 (.seq (.reg [⟨(some 12), .mv (.t 0), none⟩,
  ⟨(some 13), .mv (.t 5), none⟩,
  ⟨(some 14), .ixt (.t 12) (.t 13), none⟩,
  ⟨(some 15), .mv (.t 1), none⟩,
  ⟨(some 16), .bin .eql (.t 14) (.t 15), none⟩])
 (.cond (.t 16)
 (.seq (.reg [⟨(some 4), .mv (.k (D.bool true)), none⟩])
 .ret)
 .skip)))
 (.reg [⟨(some 10), .mv (.t 5), none⟩,
  ⟨(some 11), .bin .add (.t 10) (.k (D.int .i64 (1))), none⟩,
  ⟨(some 5), .mv (.t 11), none⟩]))))))
 (.seq (.reg [⟨(some 4), .mv (.k (D.bool false)), none⟩])
 .ret)))⟩
def a260 : Ann := ⟨[], [⟨false, 0, false⟩], []⟩
def s260 : SFun := ⟨2, 137, [], [(.tmp 4, ⟨false, 0, false⟩)],
 (.seq (.reg [⟨(some 3), .box 7 (.t 1), none⟩,
  ⟨(some 4), .mv (.k (D.bool false)), none⟩])
 (.seq (.block 0 (.seq (.reg [⟨(some 6), .mv (.t 0), none⟩,
  ⟨(some 7), .bin .lss (.t 6) (.k (D.int .i64 (1))), none⟩,
  ⟨(some 8), .mv (.t 7), none⟩,
  ⟨(some 9), .mv (.t 0), (some (8, false))⟩,
  ⟨(some 10), .bin .gtr (.t 9) (.k (D.int .i64 (3))), (some (8, false))⟩,
  ⟨(some 11), .pick (.t 8) (.k (D.bool true)) (.t 10), none⟩,
  ⟨(some 5), .mv (.t 11), none⟩])
 (.cond (.t 5)
 (.seq (.reg [⟨(some 4), .mv (.k (D.bool false)), none⟩])
 .ret)
 (.seq (.reg [⟨(some 13), .fad 0 (.t 3), none⟩,
  ⟨(some 14), .load false 1 (.t 13), none⟩,
  ⟨(some 15), .bin .eql (.t 14) (.k (D.int .i64 (1))), none⟩,
  ⟨(some 12), .mv (.t 15), none⟩])
 (.cond (.t 12)
 (.seq (.reg [⟨(some 16), .fad 1 (.t 3), none⟩,
  ⟨(some 17), .load false 1 (.t 16), none⟩,
  ⟨(some 18), .bin .geq (.t 17) (.k (D.int .i32 (32))), none⟩,
  ⟨(some 19), .mv (.t 18), none⟩,
  ⟨(some 20), .fad 1 (.t 3), (some (19, true))⟩,
  ⟨(some 21), .load false 1 (.t 20), (some (19, true))⟩,
  ⟨(some 22), .bin .lss (.t 21) (.k (D.int .i32 (127))), (some (19, true))⟩,
  ⟨(some 23), .pick (.t 19) (.t 22) (.k (D.bool false)), none⟩,
  ⟨(some 4), .mv (.t 23), none⟩])
 .ret)
 (.seq (.reg [⟨(some 25), .fad 0 (.t 3), none⟩,
  ⟨(some 26), .load false 1 (.t 25), none⟩,
  ⟨(some 27), .bin .eql (.t 26) (.k (D.int .i64 (2))), none⟩,
  ⟨(some 24), .mv (.t 27), none⟩])
 (.cond (.t 24)
 (.seq (.reg [⟨(some 28), .fad 4 (.t 3), none⟩,
  ⟨(some 29), .load false 1 (.t 28), none⟩,
  ⟨(some 30), .bin .geq (.t 29) (.k (D.int .u8 (7))), none⟩,
  ⟨(some 31), .mv (.t 30), none⟩,
  ⟨(some 32), .fad 4 (.t 3), (some (31, true))⟩,
  ⟨(some 33), .load false 1 (.t 32), (some (31, true))⟩,
  ⟨(some 34), .bin .leq (.t 33) (.k (D.int .u8 (10))), (some (31, true))⟩,
  ⟨(some 35), .pick (.t 31) (.t 34) (.k (D.bool false)), none⟩,
  ⟨(some 36), .mv (.t 35), none⟩,
  ⟨(some 37), .fad 4 (.t 3), (some (36, false))⟩,
  ⟨(some 38), .load false 1 (.t 37), (some (36, false))⟩,
  ⟨(some 39), .bin .eql (.t 38) (.k (D.int .u8 (13))), (some (36, false))⟩,
  ⟨(some 40), .pick (.t 36) (.k (D.bool true)) (.t 39), none⟩,
  ⟨(some 41), .mv (.t 40), none⟩,
  ⟨(some 42), .mv (.t 0), (some (41, false))⟩,
  ⟨(some 43), .bin .neq (.t 42) (.k (D.int .i64 (3))), (some (41, false))⟩,
  ⟨(some 44), .mv (.t 43), (some (41, false))⟩,
  ⟨(some 45), .fad 4 (.t 3), (some (44, true))⟩,
  ⟨(some 46), .load false 1 (.t 45), (some (44, true))⟩,
  ⟨(some 47), .bin .eql (.t 46) (.k (D.int .u8 (14))), (some (44, true))⟩,
  ⟨(some 48), .mv (.t 47), (some (44, true))⟩,
  ⟨(some 49), .fad 4 (.t 3), (some (48, false))⟩,
  ⟨(some 50), .load false 1 (.t 49), (some (48, false))⟩,
  ⟨(some 51), .bin .eql (.t 50) (.k (D.int .u8 (15))), (some (48, false))⟩,
  ⟨(some 52), .pick (.t 48) (.k (D.bool true)) (.t 51), (some (44, true))⟩,
  ⟨(some 53), .pick (.t 44) (.t 52) (.k (D.bool false)), (some (41, false))⟩,
  ⟨(some 54), .pick (.t 41) (.k (D.bool true)) (.t 53), none⟩,
  ⟨(some 4), .mv (.t 54), none⟩])
 .ret)
 (.seq (.reg [⟨(some 56), .mv (.t 0), none⟩,
  ⟨(some 57), .bin .eql (.t 56) (.k (D.int .i64 (3))), none⟩,
  ⟨(some 55), .mv (.t 57), none⟩])
 (.cond (.t 55)
 (.seq (.reg [⟨(some 58), .fad 0 (.t 3), none⟩,
  ⟨(some 59), .load false 1 (.t 58), none⟩,
  ⟨(some 60), .bin .eql (.t 59) (.k (D.int .i64 (3))), none⟩,
  ⟨(some 61), .mv (.t 60), none⟩,
  ⟨(some 62), .fad 3 (.t 3), (some (61, true))⟩,
  ⟨(some 63), .load false 1 (.t 62), (some (61, true))⟩,
  ⟨(some 64), .bin .eql (.t 63) (.k (D.int .u8 (0))), (some (61, true))⟩,
  ⟨(some 65), .pick (.t 61) (.t 64) (.k (D.bool false)), none⟩,
  ⟨(some 66), .mv (.t 65), none⟩,
  ⟨(some 67), .fad 4 (.t 3), (some (66, true))⟩,
  ⟨(some 68), .load false 1 (.t 67), (some (66, true))⟩,
  ⟨(some 69), .call false 275 [(.k (D.str [65, 66, 67, 68, 72, 73, 74, 75, 89])), (.t 68)], (some (66, true))⟩,
  ⟨(some 70), .pick (.t 66) (.t 69) (.k (D.bool false)), none⟩,
  ⟨(some 4), .mv (.t 70), none⟩])
 .ret)
 (.seq (.reg [⟨(some 72), .fad 0 (.t 3), none⟩,
  ⟨(some 73), .load false 1 (.t 72), none⟩,
  ⟨(some 74), .bin .eql (.t 73) (.k (D.int .i64 (3))), none⟩,
  ⟨(some 75), .mv (.t 74), none⟩,
  ⟨(some 76), .fad 3 (.t 3), (some (75, true))⟩,
  ⟨(some 77), .load false 1 (.t 76), (some (75, true))⟩,
  ⟨(some 78), .bin .eql (.t 77) (.k (D.int .u8 (0))), (some (75, true))⟩,
  ⟨(some 79), .pick (.t 75) (.t 78) (.k (D.bool false)), none⟩,
  ⟨(some 71), .mv (.t 79), none⟩])
 (.cond (.t 71)
 (.seq (.reg [⟨(some 80), .fad 4 (.t 3), none⟩,
  ⟨(some 81), .load false 1 (.t 80), none⟩,
  ⟨(some 82), .call false 275 [(.k (D.str [55, 56, 68, 69, 77, 72, 99, 61, 62])), (.t 81)], none⟩,
  ⟨(some 4), .mv (.t 82), none⟩])
 .ret)
 (.seq (.reg [⟨(some 84), .fad 0 (.t 3), none⟩,
  ⟨(some 85), .load false 1 (.t 84), none⟩,
  ⟨(some 86), .bin .eql (.t 85) (.k (D.int .i64 (3))), none⟩,
  ⟨(some 83), .mv (.t 86), none⟩])
 (.cond (.t 83)
 (.seq (.reg [⟨(some 87), .fad 3 (.t 3), none⟩,
  ⟨(some 88), .load false 1 (.t 87), none⟩,
  ⟨(some 89), .bin .eql (.t 88) (.k (D.int .u8 (40))), none⟩,
  ⟨(some 90), .mv (.t 89), none⟩,
  ⟨(some 91), .fad 3 (.t 3), (some (90, false))⟩,
  ⟨(some 92), .load false 1 (.t 91), (some (90, false))⟩,
  ⟨(some 93), .bin .eql (.t 92) (.k (D.int .u8 (41))), (some (90, false))⟩,
  ⟨(some 94), .pick (.t 90) (.k (D.bool true)) (.t 93), none⟩,
  ⟨(some 95), .mv (.t 94), none⟩,
  ⟨(some 96), .fad 4 (.t 3), (some (95, true))⟩,
  ⟨(some 97), .load false 1 (.t 96), (some (95, true))⟩,
  ⟨(some 98), .bin .eql (.t 97) (.k (D.int .u8 (48))), (some (95, true))⟩,
  ⟨(some 99), .mv (.t 98), (some (95, true))⟩,
  ⟨(some 100), .fad 4 (.t 3), (some (99, false))⟩,
  ⟨(some 101), .load false 1 (.t 100), (some (99, false))⟩,
  ⟨(some 102), .bin .eql (.t 101) (.k (D.int .u8 (66))), (some (99, false))⟩,
  ⟨(some 103), .pick (.t 99) (.k (D.bool true)) (.t 102), (some (95, true))⟩,
  ⟨(some 104), .pick (.t 95) (.t 103) (.k (D.bool false)), none⟩,
  ⟨(some 4), .mv (.t 104), none⟩])
 .ret)
 (.seq (.reg [⟨(some 106), .fad 0 (.t 3), none⟩,
  ⟨(some 107), .load false 1 (.t 106), none⟩,
  ⟨(some 108), .bin .neq (.t 107) (.k (D.int .i64 (4))), none⟩,
  ⟨(some 109), .mv (.t 108), none⟩,
  ⟨(some 110), .fad 3 (.t 3), (some (109, false))⟩,
  ⟨(some 111), .load false 1 (.t 110), (some (109, false))⟩,
  ⟨(some 112), .bin .neq (.t 111) (.k (D.int .u8 (0))), (some (109, false))⟩,
  ⟨(some 113), .pick (.t 109) (.k (D.bool true)) (.t 112), none⟩,
  ⟨(some 105), .mv (.t 113), none⟩])
 (.cond (.t 105)
 (.seq (.reg [⟨(some 4), .mv (.k (D.bool false)), none⟩])
 .ret)
 (.seq (.reg [⟨(some 115), .fad 2 (.t 3), none⟩,
  ⟨(some 116), .load false 1 (.t 115), none⟩,
  ⟨(some 117), .bin .eql (.t 116) (.k (D.int .u8 (63))), none⟩,
  ⟨(some 114), .mv (.t 117), none⟩])
 (.cond (.t 114)
 (.seq (.reg [⟨(some 118), .fad 4 (.t 3), none⟩,
  ⟨(some 119), .load false 1 (.t 118), none⟩,
  ⟨(some 120), .call false 275 [(.k (D.str [104, 108])), (.t 119)], none⟩,
  ⟨(some 4), .mv (.t 120), none⟩])
 .ret)
 (.seq (.reg [⟨(some 122), .fad 2 (.t 3), none⟩,
  ⟨(some 123), .load false 1 (.t 122), none⟩,
  ⟨(some 124), .bin .neq (.t 123) (.k (D.int .u8 (0))), none⟩,
  ⟨(some 121), .mv (.t 124), none⟩])
 (.cond (.t 121)
 (.seq (.reg [⟨(some 4), .mv (.k (D.bool false)), none⟩])
 .ret)
 .skip)))))))))))))))))))
 (.seq (.reg [⟨(some 125), .fad 4 (.t 3), none⟩,
  ⟨(some 126), .load false 1 (.t 125), none⟩,
  ⟨(some 127), .call false 275 [(.k (D.str [65, 66, 67, 68, 72, 102, 74, 75, 109, 114, 103])), (.t 126)], none⟩,
  ⟨(some 128), .mv (.t 127), none⟩,
  ⟨(some 129), .mv (.t 0), (some (128, false))⟩,
  ⟨(some 130), .bin .eql (.t 129) (.k (D.int .i64 (2))), (some (128, false))⟩,
  ⟨(some 131), .mv (.t 130), (some (128, false))⟩,
  ⟨(some 132), .fad 4 (.t 3), (some (131, true))⟩,
  ⟨(some 133), .load false 1 (.t 132), (some (131, true))⟩,
  ⟨(some 134), .call false 275 [(.k (D.str [71, 100, 69, 70, 64, 80, 76, 77, 88])), (.t 133)], (some (131, true))⟩,
  ⟨(some 135), .pick (.t 131) (.t 134) (.k (D.bool false)), (some (128, false))⟩,
  ⟨(some 136), .pick (.t 128) (.k (D.bool true)) (.t 135), none⟩,
  ⟨(some 4), .mv (.t 136), none⟩])
 .ret)))⟩
def a244 : Ann := ⟨[], [⟨true, 1, false⟩], []⟩
def s244 : SFun := ⟨0, 2, [], [(.tmp 0, ⟨true, 1, false⟩)],
 (.seq (.reg [⟨(some 0), .mv (.k .sn), none⟩])
 (.seq (.reg [⟨(some 1), .bsl true 1 31 [(D.int .i32 (0))] [(0, (.k (D.int .i32 (9670)))), (1, (.k (D.int .i32 (9618)))), (2, (.k (D.int .i32 (9225)))), (3, (.k (D.int .i32 (9228)))), (4, (.k (D.int .i32 (9229)))), (5, (.k (D.int .i32 (9226)))), (6, (.k (D.int .i32 (176)))), (7, (.k (D.int .i32 (177)))), (8, (.k (D.int .i32 (9252)))), (9, (.k (D.int .i32 (9227)))), (10, (.k (D.int .i32 (9496)))), (11, (.k (D.int .i32 (9488)))), (12, (.k (D.int .i32 (9484)))), (13, (.k (D.int .i32 (9492)))), (14, (.k (D.int .i32 (9532)))), (15, (.k (D.int .i32 (9146)))), (16, (.k (D.int .i32 (9147)))), (17, (.k (D.int .i32 (9472)))), (18, (.k (D.int .i32 (9148)))), (19, (.k (D.int .i32 (9149)))), (20, (.k (D.int .i32 (9500)))), (21, (.k (D.int .i32 (9508)))), (22, (.k (D.int .i32 (9524)))), (23, (.k (D.int .i32 (9516)))), (24, (.k (D.int .i32 (9474)))), (25, (.k (D.int .i32 (8804)))), (26, (.k (D.int .i32 (8805)))), (27, (.k (D.int .i32 (960)))), (28, (.k (D.int .i32 (8800)))), (29, (.k (D.int .i32 (163)))), (30, (.k (D.int .i32 (183))))], none⟩,
  ⟨(some 0), .mv (.t 1), none⟩])
 .ret))⟩
def a256 : Ann := ⟨[], [⟨true, 2, false⟩], []⟩
def s256 : SFun := ⟨0, 11, [], [(.tmp 0, ⟨true, 2, false⟩)],
 (.seq (.reg [⟨(some 0), .mv (.k .sn), none⟩])
 (.seq (.reg [⟨(some 1), .build [(D.int .i64 (0)), (D.int .i64 (0))] [(0, 1, (.k (D.int .i64 (4352)))), (1, 1, (.k (D.int .i64 (4447))))], none⟩,
  ⟨(some 2), .build [(D.int .i64 (0)), (D.int .i64 (0))] [(0, 1, (.k (D.int .i64 (11904)))), (1, 1, (.k (D.int .i64 (42191))))], none⟩,
  ⟨(some 3), .build [(D.int .i64 (0)), (D.int .i64 (0))] [(0, 1, (.k (D.int .i64 (44032)))), (1, 1, (.k (D.int .i64 (55203))))], none⟩,
  ⟨(some 4), .build [(D.int .i64 (0)), (D.int .i64 (0))] [(0, 1, (.k (D.int .i64 (63744)))), (1, 1, (.k (D.int .i64 (64255))))], none⟩,
  ⟨(some 5), .build [(D.int .i64 (0)), (D.int .i64 (0))] [(0, 1, (.k (D.int .i64 (65072)))), (1, 1, (.k (D.int .i64 (65135))))], none⟩,
  ⟨(some 6), .build [(D.int .i64 (0)), (D.int .i64 (0))] [(0, 1, (.k (D.int .i64 (65280)))), (1, 1, (.k (D.int .i64 (65376))))], none⟩,
  ⟨(some 7), .build [(D.int .i64 (0)), (D.int .i64 (0))] [(0, 1, (.k (D.int .i64 (65504)))), (1, 1, (.k (D.int .i64 (65510))))], none⟩,
  ⟨(some 8), .build [(D.int .i64 (0)), (D.int .i64 (0))] [(0, 1, (.k (D.int .i64 (127744)))), (1, 1, (.k (D.int .i64 (129791))))], none⟩,
  ⟨(some 9), .build [(D.int .i64 (0)), (D.int .i64 (0))] [(0, 1, (.k (D.int .i64 (131072)))), (1, 1, (.k (D.int .i64 (262141))))], none⟩,
  ⟨(some 10), .bsl true 2 9 [(D.int .i64 (0)), (D.int .i64 (0))] [(0, (.t 1)), (1, (.t 2)), (2, (.t 3)), (3, (.t 4)), (4, (.t 5)), (5, (.t 6)), (6, (.t 7)), (7, (.t 8)), (8, (.t 9))], none⟩,
  ⟨(some 0), .mv (.t 10), none⟩])
 .ret))⟩
def a251 : Ann := ⟨[(5, [(2, ⟨false, 0, false⟩), (3, ⟨false, 0, false⟩), (38, ⟨false, 0, false⟩), (39, ⟨false, 0, false⟩), (40, ⟨false, 0, false⟩)])], [⟨false, 0, false⟩], []⟩
def s251 : SFun := ⟨1, 55, [], [(.tmp 2, ⟨false, 0, false⟩)],
 (.seq (.reg [⟨(some 2), .mv (.k (D.int .i64 (0))), none⟩])
 (.seq (.reg [⟨(some 6), .mv (.t 0), none⟩,
  ⟨(some 7), .cvi .i64 (.t 6), none⟩,
  ⟨(some 3), .mv (.t 7), none⟩])
 (.seq (.seq (.reg [⟨(some 8), .mv (.t 3), none⟩,
  ⟨(some 9), .bin .lss (.t 8) (.k (D.int .i64 (32))), none⟩,
  ⟨(some 10), .mv (.t 9), none⟩,
  ⟨(some 11), .mv (.t 3), (some (10, false))⟩,
  ⟨(some 12), .bin .geq (.t 11) (.k (D.int .i64 (127))), (some (10, false))⟩,
  ⟨(some 13), .mv (.t 12), (some (10, false))⟩,
  ⟨(some 14), .mv (.t 3), (some (13, true))⟩,
  ⟨(some 15), .bin .lss (.t 14) (.k (D.int .i64 (160))), (some (13, true))⟩,
  ⟨(some 16), .pick (.t 13) (.t 15) (.k (D.bool false)), (some (10, false))⟩,
  ⟨(some 17), .pick (.t 10) (.k (D.bool true)) (.t 16), none⟩,
  ⟨(some 18), .mv (.t 17), none⟩,
  ⟨(some 19), .mv (.t 3), (some (18, false))⟩,
  ⟨(some 20), .bin .geq (.t 19) (.k (D.int .i64 (768))), (some (18, false))⟩,
  ⟨(some 21), .mv (.t 20), (some (18, false))⟩,
  ⟨(some 22), .mv (.t 3), (some (21, true))⟩,
  ⟨(some 23), .bin .leq (.t 22) (.k (D.int .i64 (879))), (some (21, true))⟩,
  ⟨(some 24), .pick (.t 21) (.t 23) (.k (D.bool false)), (some (18, false))⟩,
  ⟨(some 25), .pick (.t 18) (.k (D.bool true)) (.t 24), none⟩,
  ⟨(some 26), .mv (.t 25), none⟩,
  ⟨(some 27), .mv (.t 3), (some (26, false))⟩,
  ⟨(some 28), .bin .gtr (.t 27) (.k (D.int .i64 (1114111))), (some (26, false))⟩,
  ⟨(some 29), .pick (.t 26) (.k (D.bool true)) (.t 28), none⟩,
  ⟨(some 30), .mv (.t 29), none⟩,
  ⟨(some 31), .mv (.t 3), (some (30, false))⟩,
  ⟨(some 32), .bin .geq (.t 31) (.k (D.int .i64 (55296))), (some (30, false))⟩,
  ⟨(some 33), .mv (.t 32), (some (30, false))⟩,
  ⟨(some 34), .mv (.t 3), (some (33, true))⟩,
  ⟨(some 35), .bin .leq (.t 34) (.k (D.int .i64 (57343))), (some (33, true))⟩,
  ⟨(some 36), .pick (.t 33) (.t 35) (.k (D.bool false)), (some (30, false))⟩,
  ⟨(some 37), .pick (.t 30) (.k (D.bool true)) (.t 36), none⟩])
 (.cond (.t 37)
 (.seq (.reg [⟨(some 2), .mv (.k (D.int .i64 (0))), none⟩])
 .ret)
 .skip))
 (.seq (.seq (.reg [⟨(some 38), .call false 256 [], none⟩,
  ⟨(some 39), .len (.t 38), none⟩,
  ⟨(some 40), .mv (.k (D.int .i64 (0))), none⟩])
 (.block 0 (.loop [(2, ⟨false, 0, false⟩), (3, ⟨false, 0, false⟩), (38, ⟨false, 0, false⟩), (39, ⟨false, 0, false⟩), (40, ⟨false, 0, false⟩)]
 (.seq (.reg [⟨(some 41), .bin .lss (.t 40) (.t 39), none⟩])
 (.seq (.cond (.t 41)
 .skip
 (.exit 0))
 (.seq (.block 1 (.seq (.reg [⟨(some 42), .ixs 2 (.t 38) (.t 40), none⟩,
  ⟨(some 43), .load true 2 (.t 42), none⟩,
  ⟨(some 5), .alloc [(D.int .i64 (0)), (D.int .i64 (0))], none⟩,
  ⟨none, .store 2 (.t 5) (.t 43), none⟩])
 (.seq (.reg [⟨(some 44), .mv (.t 3), none⟩,
  ⟨(some 45), .ixa 2 1 (.t 5) (.k (D.int .i64 (0))), none⟩,
  ⟨(some 46), .load false 1 (.t 45), none⟩,
  ⟨(some 47), .bin .geq (.t 44) (.t 46), none⟩,
  ⟨(some 48), .mv (.t 47), none⟩,
  ⟨(some 49), .mv (.t 3), (some (48, true))⟩,
  ⟨(some 50), .ixa 2 1 (.t 5) (.k (D.int .i64 (1))), (some (48, true))⟩,
  ⟨(some 51), .load false 1 (.t 50), (some (48, true))⟩,
  ⟨(some 52), .bin .leq (.t 49) (.t 51), (some (48, true))⟩,
  ⟨(some 53), .pick (.t 48) (.t 52) (.k (D.bool false)), none⟩])
 (.cond (.t 53)
 (.seq (.reg [⟨(some 2), .mv (.k (D.int .i64 (2))), none⟩])
 .ret)
 .skip))))
 (.reg [⟨(some 54), .bin .add (.t 40) (.k (D.int .i64 (1))), none⟩,
  ⟨(some 40), .mv (.t 54), none⟩])))))))
 (.seq (.reg [⟨(some 2), .mv (.k (D.int .i64 (1))), none⟩])
 .ret)))))⟩
def a301 : Ann := ⟨[], [⟨true, 0, false⟩], []⟩
def s301 : SFun := ⟨1, 9, [], [(.cell 2 true 3, ⟨true, 0, false⟩)],
 (.seq (.reg [⟨(some 1), .box 3 (.t 0), none⟩,
  ⟨(some 2), .alloc [(D.int .i64 (0)), (D.int .i64 (0)), .sn], none⟩])
 (.seq (.reg [⟨(some 3), .bsl true 5 0 [(D.int .i32 (0)), (D.int .i64 (0)), (D.int .i64 (0)), (D.int .i64 (0)), (D.int .i64 (0))] [], none⟩,
  ⟨(some 4), .fad 2 (.t 1), none⟩,
  ⟨(some 5), .load false 1 (.t 4), none⟩,
  ⟨(some 6), .append 5 40 (.t 3) (.t 5), none⟩,
  ⟨(some 7), .fad 2 (.t 1), none⟩,
  ⟨none, .store 1 (.t 7) (.t 6), none⟩])
 (.seq (.reg [⟨(some 8), .load true 3 (.t 1), none⟩,
  ⟨none, .store 3 (.t 2) (.t 8), none⟩])
 .ret)))⟩
def a283 : Ann := ⟨[], [⟨false, 0, false⟩], []⟩
def s283 : SFun := ⟨1, 5, [], [(.cell 2 true 5, ⟨false, 0, false⟩)],
 (.seq (.reg [⟨(some 1), .box 3 (.t 0), none⟩,
  ⟨(some 2), .alloc [(D.int .i32 (0)), (D.int .i64 (0)), (D.int .i64 (0)), (D.int .i64 (0)), (D.int .i64 (0))], none⟩])
 (.seq (.reg [⟨(some 3), .load true 3 (.t 1), none⟩,
  ⟨(some 4), .build [(D.int .i32 (0)), (D.int .i64 (0)), (D.int .i64 (0)), (D.int .i64 (0)), (D.int .i64 (0))] [(0, 1, (.k (D.int .i32 (32)))), (2, 3, (.t 3))], none⟩,
  ⟨none, .store 5 (.t 2) (.t 4), none⟩])
 .ret))⟩
def a288 : Ann := ⟨[(3, [(13, ⟨false, 0, false⟩), (14, ⟨false, 0, false⟩), (5, ⟨true, 0, false⟩), (6, ⟨true, 0, false⟩), (7, ⟨true, 0, false⟩)])], [⟨false, 0, false⟩], []⟩
def s288 : SFun := ⟨3, 25, [], [(.cell 6 true 3, ⟨false, 0, false⟩)],
 (.seq (.reg [⟨(some 5), .box 3 (.t 2), none⟩,
  ⟨(some 6), .alloc [(D.int .i64 (0)), (D.int .i64 (0)), .sn], none⟩])
 (.seq (.reg [⟨(some 8), .mv (.t 0), none⟩,
  ⟨(some 9), .mv (.t 1), none⟩,
  ⟨(some 10), .build [(D.int .i64 (0)), (D.int .i64 (0)), .sn] [(0, 1, (.t 8)), (1, 1, (.t 9))], none⟩,
  ⟨(some 7), .alloc [(D.int .i64 (0)), (D.int .i64 (0)), .sn], none⟩,
  ⟨none, .store 3 (.t 7) (.t 10), none⟩])
 (.seq (.seq (.reg [⟨(some 11), .mv (.t 0), none⟩,
  ⟨(some 12), .mv (.t 1), none⟩,
  ⟨(some 13), .bin .mul (.t 11) (.t 12), none⟩,
  ⟨(some 14), .mv (.k (D.int .i64 (0))), none⟩])
 (.block 0 (.loop [(13, ⟨false, 0, false⟩), (14, ⟨false, 0, false⟩), (5, ⟨true, 0, false⟩), (6, ⟨true, 0, false⟩), (7, ⟨true, 0, false⟩)]
 (.seq (.reg [⟨(some 15), .bin .lss (.t 14) (.t 13), none⟩])
 (.seq (.cond (.t 15)
 .skip
 (.exit 0))
 (.seq (.block 1 (.dreg [([], false, ⟨(some 16), .fad 2 (.t 7), none⟩),
  ([], false, ⟨(some 17), .load false 1 (.t 16), none⟩),
  ([0, 1], false, ⟨(some 18), .load true 3 (.t 5), none⟩),
  ([0, 1], false, ⟨(some 19), .callr 283 [(.t 18)], none⟩),
  ([0, 1], false, ⟨(some 20), .bsl false 5 1 [(D.int .i32 (0)), (D.int .i64 (0)), (D.int .i64 (0)), (D.int .i64 (0)), (D.int .i64 (0))] [(0, (.t 19))], none⟩),
  ([], true, ⟨(some 21), .append 5 40 (.t 17) (.t 20), none⟩),
  ([], true, ⟨(some 22), .fad 2 (.t 7), none⟩),
  ([], true, ⟨none, .store 1 (.t 22) (.t 21), none⟩)]))
 (.reg [⟨(some 23), .bin .add (.t 14) (.k (D.int .i64 (1))), none⟩,
  ⟨(some 14), .mv (.t 23), none⟩])))))))
 (.seq (.reg [⟨(some 24), .load true 3 (.t 7), none⟩,
  ⟨none, .store 3 (.t 6) (.t 24), none⟩])
 .ret))))⟩
def a315 : Ann := ⟨[(3, [(1, ⟨false, 0, false⟩), (11, ⟨false, 0, false⟩), (12, ⟨false, 0, false⟩), (13, ⟨false, 0, false⟩), (3, ⟨true, 0, false⟩), (6, ⟨true, 0, false⟩)])], [⟨false, 0, false⟩], []⟩
def s315 : SFun := ⟨3, 30, [], [(.cell 6 true 3, ⟨false, 0, false⟩)],
 (.seq (.reg [⟨(some 3), .box 3 (.t 0), none⟩,
  ⟨(some 6), .alloc [(D.int .i64 (0)), (D.int .i64 (0)), .sn], none⟩])
 (.seq (.reg [⟨(some 9), .load true 3 (.t 3), none⟩,
  ⟨(some 10), .call false 301 [(.t 9)], none⟩,
  ⟨none, .store 3 (.t 3) (.t 10), none⟩])
 (.seq (.seq (.reg [⟨(some 11), .mv (.t 2), none⟩,
  ⟨(some 12), .len (.t 11), none⟩,
  ⟨(some 13), .mv (.k (D.int .i64 (0))), none⟩])
 (.block 0 (.loop [(1, ⟨false, 0, false⟩), (11, ⟨false, 0, false⟩), (12, ⟨false, 0, false⟩), (13, ⟨false, 0, false⟩), (3, ⟨true, 0, false⟩), (6, ⟨true, 0, false⟩)]
 (.seq (.reg [⟨(some 14), .bin .lss (.t 13) (.t 12), none⟩])
 (.seq (.cond (.t 14)
 .skip
 (.exit 0))
 (.seq (.block 1 (.seq (.reg [⟨(some 15), .mv (.t 13), none⟩,
  ⟨(some 16), .ixs 5 (.t 11) (.t 13), none⟩,
  ⟨(some 17), .load true 5 (.t 16), none⟩,
  ⟨(some 8), .alloc [(D.int .i32 (0)), (D.int .i64 (0)), (D.int .i64 (0)), (D.int .i64 (0)), (D.int .i64 (0))], none⟩,
  ⟨(some 7), .mv (.t 15), none⟩,
  ⟨none, .store 5 (.t 8) (.t 17), none⟩])
 (.reg [⟨(some 18), .fad 2 (.t 3), none⟩,
  ⟨(some 19), .load false 1 (.t 18), none⟩,
  ⟨(some 20), .mv (.t 1), none⟩,
  ⟨(some 21), .fad 1 (.t 3), none⟩,
  ⟨(some 22), .load false 1 (.t 21), none⟩,
  ⟨(some 23), .bin .mul (.t 20) (.t 22), none⟩,
  ⟨(some 24), .mv (.t 7), none⟩,
  ⟨(some 25), .bin .add (.t 23) (.t 24), none⟩,
  ⟨(some 26), .load true 5 (.t 8), none⟩,
  ⟨(some 27), .ixs 5 (.t 19) (.t 25), none⟩,
  ⟨none, .store 5 (.t 27) (.t 26), none⟩])))
 (.reg [⟨(some 28), .bin .add (.t 13) (.k (D.int .i64 (1))), none⟩,
  ⟨(some 13), .mv (.t 28), none⟩])))))))
 (.seq (.reg [⟨(some 29), .load true 3 (.t 3), none⟩,
  ⟨none, .store 3 (.t 6) (.t 29), none⟩])
 .ret))))⟩
def a313 : Ann := ⟨[], [⟨true, 5, false⟩], []⟩
def s313 : SFun := ⟨2, 17, [], [(.tmp 4, ⟨true, 5, false⟩)],
 (.seq (.reg [⟨(some 2), .box 3 (.t 0), none⟩,
  ⟨(some 4), .mv (.k .sn), none⟩])
 (.seq (.reg [⟨(some 5), .fad 2 (.t 2), none⟩,
  ⟨(some 6), .load false 1 (.t 5), none⟩,
  ⟨(some 7), .mv (.t 1), none⟩,
  ⟨(some 8), .fad 1 (.t 2), none⟩,
  ⟨(some 9), .load false 1 (.t 8), none⟩,
  ⟨(some 10), .bin .mul (.t 7) (.t 9), none⟩,
  ⟨(some 11), .mv (.t 1), none⟩,
  ⟨(some 12), .bin .add (.t 11) (.k (D.int .i64 (1))), none⟩,
  ⟨(some 13), .fad 1 (.t 2), none⟩,
  ⟨(some 14), .load false 1 (.t 13), none⟩,
  ⟨(some 15), .bin .mul (.t 12) (.t 14), none⟩,
  ⟨(some 16), .slc 5 (.t 6) (some (.t 10)) (some (.t 15)), none⟩,
  ⟨(some 4), .mv (.t 16), none⟩])
 .ret))⟩
def a294 : Ann := ⟨[(6, [(1, ⟨false, 0, false⟩), (2, ⟨false, 0, false⟩), (3, ⟨false, 0, false⟩), (12, ⟨false, 0, false⟩), (13, ⟨false, 0, false⟩), (5, ⟨true, 0, false⟩), (10, ⟨true, 0, false⟩), (11, ⟨true, 0, false⟩)])], [⟨false, 0, false⟩], []⟩
def s294 : SFun := ⟨5, 64, [], [(.cell 10 true 3, ⟨false, 0, false⟩)],
 (.seq (.reg [⟨(some 5), .box 3 (.t 0), none⟩,
  ⟨(some 9), .box 3 (.t 4), none⟩,
  ⟨(some 10), .alloc [(D.int .i64 (0)), (D.int .i64 (0)), .sn], none⟩])
 (.seq (.seq (.reg [⟨(some 15), .mv (.t 1), none⟩,
  ⟨(some 16), .bin .lss (.t 15) (.k (D.int .i64 (0))), none⟩,
  ⟨(some 17), .mv (.t 16), none⟩,
  ⟨(some 18), .mv (.t 2), (some (17, false))⟩,
  ⟨(some 19), .fad 0 (.t 5), (some (17, false))⟩,
  ⟨(some 20), .load false 1 (.t 19), (some (17, false))⟩,
  ⟨(some 21), .bin .geq (.t 18) (.t 20), (some (17, false))⟩,
  ⟨(some 22), .pick (.t 17) (.k (D.bool true)) (.t 21), none⟩,
  ⟨(some 23), .mv (.t 22), none⟩,
  ⟨(some 24), .mv (.t 1), (some (23, false))⟩,
  ⟨(some 25), .mv (.t 2), (some (23, false))⟩,
  ⟨(some 26), .bin .gtr (.t 24) (.t 25), (some (23, false))⟩,
  ⟨(some 27), .pick (.t 23) (.k (D.bool true)) (.t 26), none⟩])
 (.cond (.t 27)
 (.seq (.reg [⟨(some 28), .load true 3 (.t 5), none⟩,
  ⟨none, .store 3 (.t 10) (.t 28), none⟩])
 .ret)
 .skip))
 (.seq (.reg [⟨(some 29), .load true 3 (.t 5), none⟩,
  ⟨(some 30), .call false 301 [(.t 29)], none⟩,
  ⟨(some 11), .alloc [(D.int .i64 (0)), (D.int .i64 (0)), .sn], none⟩,
  ⟨none, .store 3 (.t 11) (.t 30), none⟩])
 (.seq (.reg [⟨(some 31), .fad 1 (.t 5), none⟩,
  ⟨(some 32), .load false 1 (.t 31), none⟩,
  ⟨(some 33), .load true 3 (.t 9), none⟩,
  ⟨(some 34), .call false 288 [(.k (D.int .i64 (1))), (.t 32), (.t 33)], none⟩,
  ⟨(some 35), .fld false 2 1 (.t 34), none⟩,
  ⟨(some 12), .mv (.t 35), none⟩])
 (.seq (.seq (.reg [⟨(some 36), .mv (.t 1), none⟩,
  ⟨(some 13), .mv (.t 36), none⟩])
 (.block 0 (.loop [(1, ⟨false, 0, false⟩), (2, ⟨false, 0, false⟩), (3, ⟨false, 0, false⟩), (12, ⟨false, 0, false⟩), (13, ⟨false, 0, false⟩), (5, ⟨true, 0, false⟩), (10, ⟨true, 0, false⟩), (11, ⟨true, 0, false⟩)]
 (.seq (.seq (.reg [⟨(some 37), .mv (.t 13), none⟩,
  ⟨(some 38), .mv (.t 2), none⟩,
  ⟨(some 39), .bin .leq (.t 37) (.t 38), none⟩])
 (.cond (.t 39)
 .skip
 (.exit 0)))
 (.seq (.block 1 (.seq (.reg [⟨(some 42), .mv (.t 13), none⟩,
  ⟨(some 43), .mv (.t 3), none⟩,
  ⟨(some 44), .bin .add (.t 42) (.t 43), none⟩,
  ⟨(some 14), .mv (.t 44), none⟩])
 (.seq (.reg [⟨(some 45), .mv (.t 14), none⟩,
  ⟨(some 46), .mv (.t 1), none⟩,
  ⟨(some 47), .bin .lss (.t 45) (.t 46), none⟩,
  ⟨(some 48), .mv (.t 47), none⟩,
  ⟨(some 49), .mv (.t 14), (some (48, false))⟩,
  ⟨(some 50), .mv (.t 2), (some (48, false))⟩,
  ⟨(some 51), .bin .gtr (.t 49) (.t 50), (some (48, false))⟩,
  ⟨(some 52), .pick (.t 48) (.k (D.bool true)) (.t 51), none⟩])
 (.cond (.t 52)
 (.reg [⟨(some 53), .load true 3 (.t 11), none⟩,
  ⟨(some 54), .mv (.t 13), none⟩,
  ⟨(some 55), .mv (.t 12), none⟩,
  ⟨(some 56), .call false 315 [(.t 53), (.t 54), (.t 55)], none⟩,
  ⟨none, .store 3 (.t 11) (.t 56), none⟩])
 (.dreg [([], false, ⟨(some 57), .load true 3 (.t 11), none⟩),
  ([0], false, ⟨(some 58), .mv (.t 13), none⟩),
  ([0, 1], false, ⟨(some 59), .load true 3 (.t 5), none⟩),
  ([0, 1, 2], false, ⟨(some 60), .mv (.t 14), none⟩),
  ([0, 1], false, ⟨(some 61), .callr 313 [(.t 59), (.t 60)], none⟩),
  ([], true, ⟨(some 62), .call false 315 [(.t 57), (.t 58), (.t 61)], none⟩),
  ([], true, ⟨none, .store 3 (.t 11) (.t 62), none⟩)])))))
 (.reg [⟨(some 40), .mv (.t 13), none⟩,
  ⟨(some 41), .bin .add (.t 40) (.k (D.int .i64 (1))), none⟩,
  ⟨(some 13), .mv (.t 41), none⟩]))))))
 (.seq (.reg [⟨(some 63), .load true 3 (.t 11), none⟩,
  ⟨none, .store 3 (.t 10) (.t 63), none⟩])
 .ret))))))⟩
def a300 : Ann := ⟨[], [⟨false, 0, false⟩], []⟩
def s300 : SFun := ⟨3, 25, [], [(.cell 6 true 29, ⟨false, 0, false⟩)],
 (.seq (.reg [⟨(some 3), .box 29 (.t 0), none⟩,
  ⟨(some 6), .alloc [(D.int .i64 (0)), (D.int .i64 (0)), .sn, (D.int .i64 (0)), (D.int .i64 (0)), (D.bool false), (D.int .i64 (0)), (D.int .i64 (0)), (D.int .i64 (0)), (D.int .i64 (0)), (D.int .i64 (0)), (D.int .u64 (0)), (D.int .u8 (0)), (D.int .u8 (0)), (D.int .i64 (0)), (D.bool false), (D.bool false), (D.bool false), (D.bool false), (D.bool false), (D.int .i64 (0)), (D.int .i64 (0)), (D.int .i64 (0)), (D.int .i64 (0)), (D.int .i64 (0)), (D.int .u8 (0)), (D.int .u8 (0)), (D.int .i64 (0)), (D.bool false)], none⟩])
 (.seq (.reg [⟨(some 7), .mv (.t 1), none⟩,
  ⟨(some 8), .mx [(.t 7), (.k (D.int .i64 (0)))], none⟩,
  ⟨(some 9), .fad 0 (.t 3), none⟩,
  ⟨(some 10), .fad 0 (.t 9), none⟩,
  ⟨(some 11), .load false 1 (.t 10), none⟩,
  ⟨(some 12), .bin .sub (.t 11) (.k (D.int .i64 (1))), none⟩,
  ⟨(some 13), .mn [(.t 8), (.t 12)], none⟩,
  ⟨(some 14), .mv (.t 2), none⟩,
  ⟨(some 15), .mx [(.t 14), (.k (D.int .i64 (0)))], none⟩,
  ⟨(some 16), .fad 0 (.t 3), none⟩,
  ⟨(some 17), .fad 1 (.t 16), none⟩,
  ⟨(some 18), .load false 1 (.t 17), none⟩,
  ⟨(some 19), .bin .sub (.t 18) (.k (D.int .i64 (1))), none⟩,
  ⟨(some 20), .mn [(.t 15), (.t 19)], none⟩,
  ⟨(some 21), .fad 3 (.t 3), none⟩,
  ⟨none, .store 1 (.t 21) (.t 13), none⟩,
  ⟨(some 22), .fad 4 (.t 3), none⟩,
  ⟨none, .store 1 (.t 22) (.t 20), none⟩,
  ⟨(some 23), .fad 5 (.t 3), none⟩,
  ⟨none, .store 1 (.t 23) (.k (D.bool false)), none⟩])
 (.seq (.reg [⟨(some 24), .load true 29 (.t 3), none⟩,
  ⟨none, .store 29 (.t 6) (.t 24), none⟩])
 .ret)))⟩
def a306 : Ann := ⟨[], [⟨false, 0, false⟩], []⟩
def s306 : SFun := ⟨1, 7, [], [(.cell 2 true 3, ⟨false, 0, false⟩)],
 (.seq (.reg [⟨(some 1), .box 29 (.t 0), none⟩,
  ⟨(some 2), .alloc [(D.int .i64 (0)), (D.int .i64 (0)), (D.int .i64 (0))], none⟩])
 (.seq (.reg [⟨(some 3), .fad 8 (.t 1), none⟩,
  ⟨(some 4), .fad 1 (.t 3), none⟩,
  ⟨(some 5), .load false 1 (.t 4), none⟩,
  ⟨(some 6), .build [(D.int .i64 (0)), (D.int .i64 (0)), (D.int .i64 (0))] [(0, 1, (.k (D.int .i64 (-1)))), (1, 1, (.t 5))], none⟩,
  ⟨none, .store 3 (.t 2) (.t 6), none⟩])
 .ret))⟩
def a285 : Ann := ⟨[], [⟨false, 0, false⟩], []⟩
def s285 : SFun := ⟨1, 27, [], [(.cell 2 true 29, ⟨false, 0, false⟩)],
 (.seq (.reg [⟨(some 1), .box 29 (.t 0), none⟩,
  ⟨(some 2), .alloc [(D.int .i64 (0)), (D.int .i64 (0)), .sn, (D.int .i64 (0)), (D.int .i64 (0)), (D.bool false), (D.int .i64 (0)), (D.int .i64 (0)), (D.int .i64 (0)), (D.int .i64 (0)), (D.int .i64 (0)), (D.int .u64 (0)), (D.int .u8 (0)), (D.int .u8 (0)), (D.int .i64 (0)), (D.bool false), (D.bool false), (D.bool false), (D.bool false), (D.bool false), (D.int .i64 (0)), (D.int .i64 (0)), (D.int .i64 (0)), (D.int .i64 (0)), (D.int .i64 (0)), (D.int .u8 (0)), (D.int .u8 (0)), (D.int .i64 (0)), (D.bool false)], none⟩])
 (.seq (.reg [⟨(some 3), .fad 5 (.t 1), none⟩,
  ⟨none, .store 1 (.t 3) (.k (D.bool false)), none⟩])
 (.seq (.seq (.reg [⟨(some 4), .fad 3 (.t 1), none⟩,
  ⟨(some 5), .load false 1 (.t 4), none⟩,
  ⟨(some 6), .fad 7 (.t 1), none⟩,
  ⟨(some 7), .load false 1 (.t 6), none⟩,
  ⟨(some 8), .bin .eql (.t 5) (.t 7), none⟩])
 (.cond (.t 8)
 (.seq (.dreg [([], false, ⟨(some 9), .fad 0 (.t 1), none⟩),
  ([], false, ⟨(some 10), .load true 3 (.t 9), none⟩),
  ([0, 1], false, ⟨(some 11), .fad 6 (.t 1), none⟩),
  ([0, 1], false, ⟨(some 12), .load false 1 (.t 11), none⟩),
  ([0, 1, 2, 3], false, ⟨(some 13), .fad 7 (.t 1), none⟩),
  ([0, 1, 2, 3], false, ⟨(some 14), .load false 1 (.t 13), none⟩),
  ([0, 1, 2, 3, 4, 5], false, ⟨(some 15), .load true 29 (.t 1), none⟩),
  ([0, 1, 2, 3, 4, 5], false, ⟨(some 16), .callr 306 [(.t 15)], none⟩),
  ([], true, ⟨(some 17), .call false 294 [(.t 10), (.t 12), (.t 14), (.k (D.int .i64 (1))), (.t 16)], none⟩),
  ([], true, ⟨(some 18), .fad 0 (.t 1), none⟩),
  ([], true, ⟨none, .store 3 (.t 18) (.t 17), none⟩)])
 (.seq (.reg [⟨(some 19), .load true 29 (.t 1), none⟩,
  ⟨none, .store 29 (.t 2) (.t 19), none⟩])
 .ret))
 .skip))
 (.seq (.reg [⟨(some 20), .load true 29 (.t 1), none⟩,
  ⟨(some 21), .fad 3 (.t 1), none⟩,
  ⟨(some 22), .load false 1 (.t 21), none⟩,
  ⟨(some 23), .bin .add (.t 22) (.k (D.int .i64 (1))), none⟩,
  ⟨(some 24), .fad 4 (.t 1), none⟩,
  ⟨(some 25), .load false 1 (.t 24), none⟩,
  ⟨(some 26), .call false 300 [(.t 20), (.t 23), (.t 25)], none⟩,
  ⟨none, .store 29 (.t 2) (.t 26), none⟩])
 .ret))))⟩
def a292 : Ann := ⟨[], [⟨false, 0, false⟩], []⟩
def s292 : SFun := ⟨5, 122, [], [(.cell 10 true 3, ⟨false, 0, false⟩)],
 (.seq (.reg [⟨(some 5), .box 3 (.t 0), none⟩,
  ⟨(some 9), .box 3 (.t 4), none⟩,
  ⟨(some 10), .alloc [(D.int .i64 (0)), (D.int .i64 (0)), .sn], none⟩])
 (.seq (.reg [⟨(some 14), .mv (.t 3), none⟩,
  ⟨(some 15), .call false 251 [(.t 14)], none⟩,
  ⟨(some 11), .mv (.t 15), none⟩])
 (.seq (.seq (.reg [⟨(some 16), .mv (.t 1), none⟩,
  ⟨(some 17), .bin .lss (.t 16) (.k (D.int .i64 (0))), none⟩,
  ⟨(some 18), .mv (.t 17), none⟩,
  ⟨(some 19), .mv (.t 1), (some (18, false))⟩,
  ⟨(some 20), .fad 0 (.t 5), (some (18, false))⟩,
  ⟨(some 21), .load false 1 (.t 20), (some (18, false))⟩,
  ⟨(some 22), .bin .geq (.t 19) (.t 21), (some (18, false))⟩,
  ⟨(some 23), .pick (.t 18) (.k (D.bool true)) (.t 22), none⟩,
  ⟨(some 24), .mv (.t 23), none⟩,
  ⟨(some 25), .mv (.t 2), (some (24, false))⟩,
  ⟨(some 26), .bin .lss (.t 25) (.k (D.int .i64 (0))), (some (24, false))⟩,
  ⟨(some 27), .pick (.t 24) (.k (D.bool true)) (.t 26), none⟩,
  ⟨(some 28), .mv (.t 27), none⟩,
  ⟨(some 29), .mv (.t 11), (some (28, false))⟩,
  ⟨(some 30), .bin .lss (.t 29) (.k (D.int .i64 (1))), (some (28, false))⟩,
  ⟨(some 31), .pick (.t 28) (.k (D.bool true)) (.t 30), none⟩,
  ⟨(some 32), .mv (.t 31), none⟩,
  ⟨(some 33), .mv (.t 2), (some (32, false))⟩,
  ⟨(some 34), .mv (.t 11), (some (32, false))⟩,
  ⟨(some 35), .bin .add (.t 33) (.t 34), (some (32, false))⟩,
  ⟨(some 36), .fad 1 (.t 5), (some (32, false))⟩,
  ⟨(some 37), .load false 1 (.t 36), (some (32, false))⟩,
  ⟨(some 38), .bin .gtr (.t 35) (.t 37), (some (32, false))⟩,
  ⟨(some 39), .pick (.t 32) (.k (D.bool true)) (.t 38), none⟩])
 (.cond (.t 39)
 (.seq (.reg [⟨(some 40), .load true 3 (.t 5), none⟩,
  ⟨none, .store 3 (.t 10) (.t 40), none⟩])
 .ret)
 .skip))
 (.seq (.reg [⟨(some 41), .bsl true 5 0 [(D.int .i32 (0)), (D.int .i64 (0)), (D.int .i64 (0)), (D.int .i64 (0)), (D.int .i64 (0))] [], none⟩,
  ⟨(some 42), .load true 3 (.t 5), none⟩,
  ⟨(some 43), .mv (.t 1), none⟩,
  ⟨(some 44), .call false 313 [(.t 42), (.t 43)], none⟩,
  ⟨(some 45), .append 5 40 (.t 41) (.t 44), none⟩,
  ⟨(some 12), .mv (.t 45), none⟩])
 (.seq (.reg [⟨(some 46), .mv (.t 12), none⟩,
  ⟨(some 47), .mv (.t 2), none⟩,
  ⟨(some 48), .mv (.t 3), none⟩,
  ⟨(some 49), .load true 3 (.t 9), none⟩,
  ⟨(some 50), .build [(D.int .i32 (0)), (D.int .i64 (0)), (D.int .i64 (0)), (D.int .i64 (0)), (D.int .i64 (0))] [(0, 1, (.t 48)), (2, 3, (.t 49))], none⟩,
  ⟨(some 51), .ixs 5 (.t 46) (.t 47), none⟩,
  ⟨none, .store 5 (.t 51) (.t 50), none⟩])
 (.seq (.seq (.reg [⟨(some 52), .mv (.t 11), none⟩,
  ⟨(some 53), .bin .eql (.t 52) (.k (D.int .i64 (2))), none⟩])
 (.cond (.t 53)
 (.seq (.reg [⟨(some 54), .mv (.t 12), none⟩,
  ⟨(some 55), .mv (.t 2), none⟩,
  ⟨(some 56), .ixs 5 (.t 54) (.t 55), none⟩,
  ⟨(some 57), .fad 1 (.t 56), none⟩,
  ⟨none, .store 1 (.t 57) (.k (D.int .i64 (1))), none⟩])
 (.reg [⟨(some 58), .mv (.t 12), none⟩,
  ⟨(some 59), .mv (.t 2), none⟩,
  ⟨(some 60), .bin .add (.t 59) (.k (D.int .i64 (1))), none⟩,
  ⟨(some 61), .load true 3 (.t 9), none⟩,
  ⟨(some 62), .build [(D.int .i32 (0)), (D.int .i64 (0)), (D.int .i64 (0)), (D.int .i64 (0)), (D.int .i64 (0))] [(1, 1, (.k (D.int .i64 (2)))), (2, 3, (.t 61))], none⟩,
  ⟨(some 63), .ixs 5 (.t 58) (.t 60), none⟩,
  ⟨none, .store 5 (.t 63) (.t 62), none⟩]))
 .skip))
 (.seq (.reg [⟨(some 64), .load true 3 (.t 5), none⟩,
  ⟨(some 65), .mv (.t 1), none⟩,
  ⟨(some 66), .call false 313 [(.t 64), (.t 65)], none⟩,
  ⟨(some 13), .mv (.t 66), none⟩])
 (.seq (.seq (.reg [⟨(some 67), .mv (.t 2), none⟩,
  ⟨(some 68), .bin .gtr (.t 67) (.k (D.int .i64 (0))), none⟩,
  ⟨(some 69), .mv (.t 68), none⟩,
  ⟨(some 70), .mv (.t 13), (some (69, true))⟩,
  ⟨(some 71), .mv (.t 2), (some (69, true))⟩,
  ⟨(some 72), .ixs 5 (.t 70) (.t 71), (some (69, true))⟩,
  ⟨(some 73), .fad 1 (.t 72), (some (69, true))⟩,
  ⟨(some 74), .load false 1 (.t 73), (some (69, true))⟩,
  ⟨(some 75), .bin .eql (.t 74) (.k (D.int .i64 (2))), (some (69, true))⟩,
  ⟨(some 76), .pick (.t 69) (.t 75) (.k (D.bool false)), none⟩])
 (.cond (.t 76)
 (.reg [⟨(some 77), .mv (.t 12), none⟩,
  ⟨(some 78), .mv (.t 2), none⟩,
  ⟨(some 79), .bin .sub (.t 78) (.k (D.int .i64 (1))), none⟩,
  ⟨(some 80), .mv (.t 13), none⟩,
  ⟨(some 81), .mv (.t 2), none⟩,
  ⟨(some 82), .bin .sub (.t 81) (.k (D.int .i64 (1))), none⟩,
  ⟨(some 83), .ixs 5 (.t 80) (.t 82), none⟩,
  ⟨(some 84), .fad 2 (.t 83), none⟩,
  ⟨(some 85), .load true 3 (.t 84), none⟩,
  ⟨(some 86), .call false 283 [(.t 85)], none⟩,
  ⟨(some 87), .ixs 5 (.t 77) (.t 79), none⟩,
  ⟨none, .store 5 (.t 87) (.t 86), none⟩])
 .skip))
 (.seq (.seq (.reg [⟨(some 88), .mv (.t 2), none⟩,
  ⟨(some 89), .mv (.t 11), none⟩,
  ⟨(some 90), .bin .add (.t 88) (.t 89), none⟩,
  ⟨(some 91), .fad 1 (.t 5), none⟩,
  ⟨(some 92), .load false 1 (.t 91), none⟩,
  ⟨(some 93), .bin .lss (.t 90) (.t 92), none⟩,
  ⟨(some 94), .mv (.t 93), none⟩,
  ⟨(some 95), .mv (.t 13), (some (94, true))⟩,
  ⟨(some 96), .mv (.t 2), (some (94, true))⟩,
  ⟨(some 97), .mv (.t 11), (some (94, true))⟩,
  ⟨(some 98), .bin .add (.t 96) (.t 97), (some (94, true))⟩,
  ⟨(some 99), .bin .sub (.t 98) (.k (D.int .i64 (1))), (some (94, true))⟩,
  ⟨(some 100), .ixs 5 (.t 95) (.t 99), (some (94, true))⟩,
  ⟨(some 101), .fad 1 (.t 100), (some (94, true))⟩,
  ⟨(some 102), .load false 1 (.t 101), (some (94, true))⟩,
  ⟨(some 103), .bin .eql (.t 102) (.k (D.int .i64 (1))), (some (94, true))⟩,
  ⟨(some 104), .pick (.t 94) (.t 103) (.k (D.bool false)), none⟩])
 (.cond (.t 104)
 (.reg [⟨(some 105), .mv (.t 12), none⟩,
  ⟨(some 106), .mv (.t 2), none⟩,
  ⟨(some 107), .mv (.t 11), none⟩,
  ⟨(some 108), .bin .add (.t 106) (.t 107), none⟩,
  ⟨(some 109), .mv (.t 13), none⟩,
  ⟨(some 110), .mv (.t 2), none⟩,
  ⟨(some 111), .mv (.t 11), none⟩,
  ⟨(some 112), .bin .add (.t 110) (.t 111), none⟩,
  ⟨(some 113), .ixs 5 (.t 109) (.t 112), none⟩,
  ⟨(some 114), .fad 2 (.t 113), none⟩,
  ⟨(some 115), .load true 3 (.t 114), none⟩,
  ⟨(some 116), .call false 283 [(.t 115)], none⟩,
  ⟨(some 117), .ixs 5 (.t 105) (.t 108), none⟩,
  ⟨none, .store 5 (.t 117) (.t 116), none⟩])
 .skip))
 (.seq (.reg [⟨(some 118), .load true 3 (.t 5), none⟩,
  ⟨(some 119), .mv (.t 1), none⟩,
  ⟨(some 120), .mv (.t 12), none⟩,
  ⟨(some 121), .call false 315 [(.t 118), (.t 119), (.t 120)], none⟩,
  ⟨none, .store 3 (.t 10) (.t 121), none⟩])
 .ret))))))))))⟩
def a291 : Ann := ⟨[], [⟨false, 0, false⟩], []⟩
def s291 : SFun := ⟨2, 116, [], [(.cell 4 true 29, ⟨false, 0, false⟩)],
 (.seq (.reg [⟨(some 2), .box 29 (.t 0), none⟩,
  ⟨(some 4), .alloc [(D.int .i64 (0)), (D.int .i64 (0)), .sn, (D.int .i64 (0)), (D.int .i64 (0)), (D.bool false), (D.int .i64 (0)), (D.int .i64 (0)), (D.int .i64 (0)), (D.int .i64 (0)), (D.int .i64 (0)), (D.int .u64 (0)), (D.int .u8 (0)), (D.int .u8 (0)), (D.int .i64 (0)), (D.bool false), (D.bool false), (D.bool false), (D.bool false), (D.bool false), (D.int .i64 (0)), (D.int .i64 (0)), (D.int .i64 (0)), (D.int .i64 (0)), (D.int .i64 (0)), (D.int .u8 (0)), (D.int .u8 (0)), (D.int .i64 (0)), (D.bool false)], none⟩])
 (.seq (.seq (.reg [⟨(some 6), .fad 14 (.t 2), none⟩,
  ⟨(some 7), .load false 1 (.t 6), none⟩,
  ⟨(some 8), .fad 12 (.t 2), none⟩,
  ⟨(some 9), .ixa 2 1 (.t 8) (.t 7), none⟩,
  ⟨(some 10), .load false 1 (.t 9), none⟩,
  ⟨(some 11), .bin .eql (.t 10) (.k (D.int .u8 (48))), none⟩,
  ⟨(some 12), .mv (.t 11), none⟩,
  ⟨(some 13), .mv (.t 1), (some (12, true))⟩,
  ⟨(some 14), .bin .eql (.t 13) (.k (D.int .i32 (95))), (some (12, true))⟩,
  ⟨(some 15), .pick (.t 12) (.t 14) (.k (D.bool false)), none⟩])
 (.cond (.t 15)
 (.reg [⟨(some 1), .mv (.k (D.int .i32 (32))), none⟩])
 .skip))
 (.seq (.seq (.reg [⟨(some 16), .fad 14 (.t 2), none⟩,
  ⟨(some 17), .load false 1 (.t 16), none⟩,
  ⟨(some 18), .fad 12 (.t 2), none⟩,
  ⟨(some 19), .ixa 2 1 (.t 18) (.t 17), none⟩,
  ⟨(some 20), .load false 1 (.t 19), none⟩,
  ⟨(some 21), .bin .eql (.t 20) (.k (D.int .u8 (48))), none⟩,
  ⟨(some 22), .mv (.t 21), none⟩,
  ⟨(some 23), .mv (.t 1), (some (22, true))⟩,
  ⟨(some 24), .bin .geq (.t 23) (.k (D.int .i32 (96))), (some (22, true))⟩,
  ⟨(some 25), .pick (.t 22) (.t 24) (.k (D.bool false)), none⟩,
  ⟨(some 26), .mv (.t 25), none⟩,
  ⟨(some 27), .mv (.t 1), (some (26, true))⟩,
  ⟨(some 28), .bin .leq (.t 27) (.k (D.int .i32 (126))), (some (26, true))⟩,
  ⟨(some 29), .pick (.t 26) (.t 28) (.k (D.bool false)), none⟩])
 (.cond (.t 29)
 (.reg [⟨(some 30), .call false 244 [], none⟩,
  ⟨(some 31), .mv (.t 1), none⟩,
  ⟨(some 32), .bin .sub (.t 31) (.k (D.int .i32 (96))), none⟩,
  ⟨(some 33), .ixs 1 (.t 30) (.t 32), none⟩,
  ⟨(some 34), .load false 1 (.t 33), none⟩,
  ⟨(some 1), .mv (.t 34), none⟩])
 .skip))
 (.seq (.reg [⟨(some 35), .mv (.t 1), none⟩,
  ⟨(some 36), .call false 251 [(.t 35)], none⟩,
  ⟨(some 5), .mv (.t 36), none⟩])
 (.seq (.seq (.reg [⟨(some 37), .mv (.t 5), none⟩,
  ⟨(some 38), .bin .lss (.t 37) (.k (D.int .i64 (1))), none⟩,
  ⟨(some 39), .mv (.t 38), none⟩,
  ⟨(some 40), .mv (.t 5), (some (39, false))⟩,
  ⟨(some 41), .fad 0 (.t 2), (some (39, false))⟩,
  ⟨(some 42), .fad 1 (.t 41), (some (39, false))⟩,
  ⟨(some 43), .load false 1 (.t 42), (some (39, false))⟩,
  ⟨(some 44), .bin .gtr (.t 40) (.t 43), (some (39, false))⟩,
  ⟨(some 45), .pick (.t 39) (.k (D.bool true)) (.t 44), none⟩])
 (.cond (.t 45)
 (.seq (.reg [⟨(some 46), .load true 29 (.t 2), none⟩,
  ⟨none, .store 29 (.t 4) (.t 46), none⟩])
 .ret)
 .skip))
 (.seq (.seq (.reg [⟨(some 47), .fad 5 (.t 2), none⟩,
  ⟨(some 48), .load false 1 (.t 47), none⟩,
  ⟨(some 49), .mv (.t 48), none⟩,
  ⟨(some 50), .fad 15 (.t 2), (some (49, true))⟩,
  ⟨(some 51), .load false 1 (.t 50), (some (49, true))⟩,
  ⟨(some 52), .pick (.t 49) (.t 51) (.k (D.bool false)), none⟩,
  ⟨(some 53), .mv (.t 52), none⟩,
  ⟨(some 54), .fad 4 (.t 2), (some (53, false))⟩,
  ⟨(some 55), .load false 1 (.t 54), (some (53, false))⟩,
  ⟨(some 56), .mv (.t 5), (some (53, false))⟩,
  ⟨(some 57), .bin .add (.t 55) (.t 56), (some (53, false))⟩,
  ⟨(some 58), .fad 0 (.t 2), (some (53, false))⟩,
  ⟨(some 59), .fad 1 (.t 58), (some (53, false))⟩,
  ⟨(some 60), .load false 1 (.t 59), (some (53, false))⟩,
  ⟨(some 61), .bin .gtr (.t 57) (.t 60), (some (53, false))⟩,
  ⟨(some 62), .mv (.t 61), (some (53, false))⟩,
  ⟨(some 63), .fad 15 (.t 2), (some (62, true))⟩,
  ⟨(some 64), .load false 1 (.t 63), (some (62, true))⟩,
  ⟨(some 65), .pick (.t 62) (.t 64) (.k (D.bool false)), (some (53, false))⟩,
  ⟨(some 66), .pick (.t 53) (.k (D.bool true)) (.t 65), none⟩])
 (.cond (.t 66)
 (.seq (.reg [⟨(some 67), .fad 4 (.t 2), none⟩,
  ⟨none, .store 1 (.t 67) (.k (D.int .i64 (0))), none⟩])
 (.reg [⟨(some 68), .load true 29 (.t 2), none⟩,
  ⟨(some 69), .call false 285 [(.t 68)], none⟩,
  ⟨none, .store 29 (.t 2) (.t 69), none⟩]))
 .skip))
 (.seq (.reg [⟨(some 70), .fad 5 (.t 2), none⟩,
  ⟨none, .store 1 (.t 70) (.k (D.bool false)), none⟩])
 (.seq (.seq (.reg [⟨(some 71), .fad 4 (.t 2), none⟩,
  ⟨(some 72), .load false 1 (.t 71), none⟩,
  ⟨(some 73), .mv (.t 5), none⟩,
  ⟨(some 74), .bin .add (.t 72) (.t 73), none⟩,
  ⟨(some 75), .fad 0 (.t 2), none⟩,
  ⟨(some 76), .fad 1 (.t 75), none⟩,
  ⟨(some 77), .load false 1 (.t 76), none⟩,
  ⟨(some 78), .bin .gtr (.t 74) (.t 77), none⟩])
 (.cond (.t 78)
 (.reg [⟨(some 79), .fad 0 (.t 2), none⟩,
  ⟨(some 80), .fad 1 (.t 79), none⟩,
  ⟨(some 81), .load false 1 (.t 80), none⟩,
  ⟨(some 82), .mv (.t 5), none⟩,
  ⟨(some 83), .bin .sub (.t 81) (.t 82), none⟩,
  ⟨(some 84), .fad 4 (.t 2), none⟩,
  ⟨none, .store 1 (.t 84) (.t 83), none⟩])
 .skip))
 (.seq (.reg [⟨(some 85), .fad 0 (.t 2), none⟩,
  ⟨(some 86), .load true 3 (.t 85), none⟩,
  ⟨(some 87), .fad 3 (.t 2), none⟩,
  ⟨(some 88), .load false 1 (.t 87), none⟩,
  ⟨(some 89), .fad 4 (.t 2), none⟩,
  ⟨(some 90), .load false 1 (.t 89), none⟩,
  ⟨(some 91), .mv (.t 1), none⟩,
  ⟨(some 92), .fad 8 (.t 2), none⟩,
  ⟨(some 93), .load true 3 (.t 92), none⟩,
  ⟨(some 94), .call false 292 [(.t 86), (.t 88), (.t 90), (.t 91), (.t 93)], none⟩,
  ⟨(some 95), .fad 0 (.t 2), none⟩,
  ⟨none, .store 3 (.t 95) (.t 94), none⟩])
 (.seq (.reg [⟨(some 96), .fad 4 (.t 2), none⟩,
  ⟨(some 97), .load false 1 (.t 96), none⟩,
  ⟨(some 98), .mv (.t 5), none⟩,
  ⟨(some 99), .bin .add (.t 97) (.t 98), none⟩,
  ⟨(some 100), .fad 4 (.t 2), none⟩,
  ⟨none, .store 1 (.t 100) (.t 99), none⟩])
 (.seq (.seq (.reg [⟨(some 101), .fad 4 (.t 2), none⟩,
  ⟨(some 102), .load false 1 (.t 101), none⟩,
  ⟨(some 103), .fad 0 (.t 2), none⟩,
  ⟨(some 104), .fad 1 (.t 103), none⟩,
  ⟨(some 105), .load false 1 (.t 104), none⟩,
  ⟨(some 106), .bin .geq (.t 102) (.t 105), none⟩])
 (.cond (.t 106)
 (.reg [⟨(some 107), .fad 0 (.t 2), none⟩,
  ⟨(some 108), .fad 1 (.t 107), none⟩,
  ⟨(some 109), .load false 1 (.t 108), none⟩,
  ⟨(some 110), .bin .sub (.t 109) (.k (D.int .i64 (1))), none⟩,
  ⟨(some 111), .fad 15 (.t 2), none⟩,
  ⟨(some 112), .load false 1 (.t 111), none⟩,
  ⟨(some 113), .fad 4 (.t 2), none⟩,
  ⟨none, .store 1 (.t 113) (.t 110), none⟩,
  ⟨(some 114), .fad 5 (.t 2), none⟩,
  ⟨none, .store 1 (.t 114) (.t 112), none⟩])
 .skip))
 (.seq (.reg [⟨(some 115), .load true 29 (.t 2), none⟩,
  ⟨none, .store 29 (.t 4) (.t 115), none⟩])
 .ret))))))))))))⟩
def a289 : Ann := ⟨[(2, [(0, ⟨false, 0, false⟩), (2, ⟨false, 0, false⟩), (6, ⟨false, 0, false⟩), (7, ⟨false, 0, false⟩)])], [⟨false, 0, false⟩], []⟩
def s289 : SFun := ⟨3, 24, [], [(.tmp 6, ⟨false, 0, false⟩)],
 (.seq (.reg [⟨(some 6), .mv (.k (D.int .i64 (0))), none⟩])
 (.seq (.seq (.reg [⟨(some 8), .mv (.t 1), none⟩,
  ⟨(some 9), .bin .add (.t 8) (.k (D.int .i64 (1))), none⟩,
  ⟨(some 7), .mv (.t 9), none⟩])
 (.block 0 (.loop [(0, ⟨false, 0, false⟩), (2, ⟨false, 0, false⟩), (6, ⟨false, 0, false⟩), (7, ⟨false, 0, false⟩)]
 (.seq (.seq (.reg [⟨(some 10), .mv (.t 7), none⟩,
  ⟨(some 11), .mv (.t 2), none⟩,
  ⟨(some 12), .bin .lss (.t 10) (.t 11), none⟩])
 (.cond (.t 12)
 .skip
 (.exit 0)))
 (.seq (.block 1 (.seq (.reg [⟨(some 15), .mv (.t 0), none⟩,
  ⟨(some 16), .mv (.t 7), none⟩,
  ⟨(some 17), .cvi .u64 (.t 16), none⟩,
  ⟨(some 18), .bin .shr (.t 15) (.t 17), none⟩,
  ⟨(some 19), .bin .and (.t 18) (.k (D.int .u64 (1))), none⟩,
  ⟨(some 20), .bin .eql (.t 19) (.k (D.int .u64 (1))), none⟩])
 (.cond (.t 20)
 (.seq (.reg [⟨(some 21), .mv (.t 7), none⟩,
  ⟨(some 6), .mv (.t 21), none⟩])
 .ret)
 .skip)))
 (.reg [⟨(some 13), .mv (.t 7), none⟩,
  ⟨(some 14), .bin .add (.t 13) (.k (D.int .i64 (1))), none⟩,
  ⟨(some 7), .mv (.t 14), none⟩]))))))
 (.seq (.reg [⟨(some 22), .mv (.t 2), none⟩,
  ⟨(some 23), .bin .sub (.t 22) (.k (D.int .i64 (1))), none⟩,
  ⟨(some 6), .mv (.t 23), none⟩])
 .ret)))⟩
def a305 : Ann := ⟨[], [⟨false, 0, false⟩], []⟩
def s305 : SFun := ⟨2, 48, [], [(.cell 4 true 29, ⟨false, 0, false⟩)],
 (.seq (.reg [⟨(some 2), .box 29 (.t 0), none⟩,
  ⟨(some 4), .alloc [(D.int .i64 (0)), (D.int .i64 (0)), .sn, (D.int .i64 (0)), (D.int .i64 (0)), (D.bool false), (D.int .i64 (0)), (D.int .i64 (0)), (D.int .i64 (0)), (D.int .i64 (0)), (D.int .i64 (0)), (D.int .u64 (0)), (D.int .u8 (0)), (D.int .u8 (0)), (D.int .i64 (0)), (D.bool false), (D.bool false), (D.bool false), (D.bool false), (D.bool false), (D.int .i64 (0)), (D.int .i64 (0)), (D.int .i64 (0)), (D.int .i64 (0)), (D.int .i64 (0)), (D.int .u8 (0)), (D.int .u8 (0)), (D.int .i64 (0)), (D.bool false)], none⟩])
 (.seq (.seq (.reg [⟨(some 5), .mv (.t 1), none⟩])
 (.block 0 (.seq (.reg [⟨(some 7), .bin .eql (.t 5) (.k (D.int .u8 (8))), none⟩,
  ⟨(some 6), .mv (.t 7), none⟩])
 (.cond (.t 6)
 (.seq (.reg [⟨(some 8), .load true 29 (.t 2), none⟩,
  ⟨(some 9), .fad 3 (.t 2), none⟩,
  ⟨(some 10), .load false 1 (.t 9), none⟩,
  ⟨(some 11), .fad 4 (.t 2), none⟩,
  ⟨(some 12), .load false 1 (.t 11), none⟩,
  ⟨(some 13), .bin .sub (.t 12) (.k (D.int .i64 (1))), none⟩,
  ⟨(some 14), .call false 300 [(.t 8), (.t 10), (.t 13)], none⟩,
  ⟨none, .store 29 (.t 4) (.t 14), none⟩])
 .ret)
 (.seq (.reg [⟨(some 16), .bin .eql (.t 5) (.k (D.int .u8 (9))), none⟩,
  ⟨(some 15), .mv (.t 16), none⟩])
 (.cond (.t 15)
 (.seq (.dreg [([], false, ⟨(some 17), .load true 29 (.t 2), none⟩),
  ([0], false, ⟨(some 18), .fad 3 (.t 2), none⟩),
  ([0], false, ⟨(some 19), .load false 1 (.t 18), none⟩),
  ([0, 1, 2], false, ⟨(some 20), .fad 11 (.t 2), none⟩),
  ([0, 1, 2], false, ⟨(some 21), .load false 1 (.t 20), none⟩),
  ([0, 1, 2, 3, 4], false, ⟨(some 22), .fad 4 (.t 2), none⟩),
  ([0, 1, 2, 3, 4], false, ⟨(some 23), .load false 1 (.t 22), none⟩),
  ([0, 1, 2, 3, 4, 5, 6], false, ⟨(some 24), .fad 0 (.t 2), none⟩),
  ([0, 1, 2, 3, 4, 5, 6], false, ⟨(some 25), .fad 1 (.t 24), none⟩),
  ([0, 1, 2, 3, 4, 5, 6], false, ⟨(some 26), .load false 1 (.t 25), none⟩),
  ([0, 1, 2], false, ⟨(some 27), .callr 289 [(.t 21), (.t 23), (.t 26)], none⟩),
  ([], true, ⟨(some 28), .call false 300 [(.t 17), (.t 19), (.t 27)], none⟩),
  ([], true, ⟨none, .store 29 (.t 4) (.t 28), none⟩)])
 .ret)
 (.seq (.seq (.reg [⟨(some 30), .bin .eql (.t 5) (.k (D.int .u8 (10))), none⟩,
  ⟨(some 29), .mv (.t 30), none⟩])
 (.cond (.t 29)
 .skip
 (.seq (.reg [⟨(some 31), .bin .eql (.t 5) (.k (D.int .u8 (11))), none⟩,
  ⟨(some 29), .mv (.t 31), none⟩])
 (.cond (.t 29)
 .skip
 (.reg [⟨(some 32), .bin .eql (.t 5) (.k (D.int .u8 (12))), none⟩,
  ⟨(some 29), .mv (.t 32), none⟩])))))
 (.cond (.t 29)
 (.seq (.reg [⟨(some 33), .load true 29 (.t 2), none⟩,
  ⟨(some 34), .call false 285 [(.t 33)], none⟩,
  ⟨none, .store 29 (.t 4) (.t 34), none⟩])
 .ret)
 (.seq (.reg [⟨(some 36), .bin .eql (.t 5) (.k (D.int .u8 (13))), none⟩,
  ⟨(some 35), .mv (.t 36), none⟩])
 (.cond (.t 35)
 (.seq (.reg [⟨(some 37), .load true 29 (.t 2), none⟩,
  ⟨(some 38), .fad 3 (.t 2), none⟩,
  ⟨(some 39), .load false 1 (.t 38), none⟩,
  ⟨(some 40), .call false 300 [(.t 37), (.t 39), (.k (D.int .i64 (0)))], none⟩,
  ⟨none, .store 29 (.t 4) (.t 40), none⟩])
 .ret)
 (.seq (.reg [⟨(some 42), .bin .eql (.t 5) (.k (D.int .u8 (14))), none⟩,
  ⟨(some 41), .mv (.t 42), none⟩])
 (.cond (.t 41)
 (.reg [⟨(some 43), .fad 14 (.t 2), none⟩,
  ⟨none, .store 1 (.t 43) (.k (D.int .i64 (1))), none⟩])
 (.seq (.reg [⟨(some 45), .bin .eql (.t 5) (.k (D.int .u8 (15))), none⟩,
  ⟨(some 44), .mv (.t 45), none⟩])
 (.cond (.t 44)
 (.reg [⟨(some 46), .fad 14 (.t 2), none⟩,
  ⟨none, .store 1 (.t 46) (.k (D.int .i64 (0))), none⟩])
 .skip))))))))))))))
 (.seq (.reg [⟨(some 47), .load true 29 (.t 2), none⟩,
  ⟨none, .store 29 (.t 4) (.t 47), none⟩])
 .ret)))⟩
def a314 : Ann := ⟨[], [⟨false, 0, false⟩], []⟩
def s314 : SFun := ⟨1, 18, [], [(.cell 2 true 29, ⟨false, 0, false⟩)],
 (.seq (.reg [⟨(some 1), .box 29 (.t 0), none⟩,
  ⟨(some 2), .alloc [(D.int .i64 (0)), (D.int .i64 (0)), .sn, (D.int .i64 (0)), (D.int .i64 (0)), (D.bool false), (D.int .i64 (0)), (D.int .i64 (0)), (D.int .i64 (0)), (D.int .i64 (0)), (D.int .i64 (0)), (D.int .u64 (0)), (D.int .u8 (0)), (D.int .u8 (0)), (D.int .i64 (0)), (D.bool false), (D.bool false), (D.bool false), (D.bool false), (D.bool false), (D.int .i64 (0)), (D.int .i64 (0)), (D.int .i64 (0)), (D.int .i64 (0)), (D.int .i64 (0)), (D.int .u8 (0)), (D.int .u8 (0)), (D.int .i64 (0)), (D.bool false)], none⟩])
 (.seq (.reg [⟨(some 3), .fad 3 (.t 1), none⟩,
  ⟨(some 4), .load false 1 (.t 3), none⟩,
  ⟨(some 5), .fad 4 (.t 1), none⟩,
  ⟨(some 6), .load false 1 (.t 5), none⟩,
  ⟨(some 7), .fad 8 (.t 1), none⟩,
  ⟨(some 8), .load true 3 (.t 7), none⟩,
  ⟨(some 9), .fad 12 (.t 1), none⟩,
  ⟨(some 10), .load true 2 (.t 9), none⟩,
  ⟨(some 11), .fad 14 (.t 1), none⟩,
  ⟨(some 12), .load false 1 (.t 11), none⟩,
  ⟨(some 13), .fad 16 (.t 1), none⟩,
  ⟨(some 14), .load false 1 (.t 13), none⟩,
  ⟨(some 15), .build [(D.int .i64 (0)), (D.int .i64 (0)), (D.int .i64 (0)), (D.int .i64 (0)), (D.int .i64 (0)), (D.int .u8 (0)), (D.int .u8 (0)), (D.int .i64 (0)), (D.bool false)] [(0, 1, (.t 4)), (1, 1, (.t 6)), (2, 3, (.t 8)), (5, 2, (.t 10)), (7, 1, (.t 12)), (8, 1, (.t 14))], none⟩,
  ⟨(some 16), .fad 20 (.t 1), none⟩,
  ⟨none, .store 9 (.t 16) (.t 15), none⟩])
 (.seq (.reg [⟨(some 17), .load true 29 (.t 1), none⟩,
  ⟨none, .store 29 (.t 2) (.t 17), none⟩])
 .ret)))⟩
def a312 : Ann := ⟨[], [⟨false, 0, false⟩], []⟩
def s312 : SFun := ⟨1, 24, [], [(.cell 2 true 29, ⟨false, 0, false⟩)],
 (.seq (.reg [⟨(some 1), .box 29 (.t 0), none⟩,
  ⟨(some 2), .alloc [(D.int .i64 (0)), (D.int .i64 (0)), .sn, (D.int .i64 (0)), (D.int .i64 (0)), (D.bool false), (D.int .i64 (0)), (D.int .i64 (0)), (D.int .i64 (0)), (D.int .i64 (0)), (D.int .i64 (0)), (D.int .u64 (0)), (D.int .u8 (0)), (D.int .u8 (0)), (D.int .i64 (0)), (D.bool false), (D.bool false), (D.bool false), (D.bool false), (D.bool false), (D.int .i64 (0)), (D.int .i64 (0)), (D.int .i64 (0)), (D.int .i64 (0)), (D.int .i64 (0)), (D.int .u8 (0)), (D.int .u8 (0)), (D.int .i64 (0)), (D.bool false)], none⟩])
 (.seq (.reg [⟨(some 4), .fad 20 (.t 1), none⟩,
  ⟨(some 5), .load true 9 (.t 4), none⟩,
  ⟨(some 3), .alloc [(D.int .i64 (0)), (D.int .i64 (0)), (D.int .i64 (0)), (D.int .i64 (0)), (D.int .i64 (0)), (D.int .u8 (0)), (D.int .u8 (0)), (D.int .i64 (0)), (D.bool false)], none⟩,
  ⟨none, .store 9 (.t 3) (.t 5), none⟩])
 (.seq (.dreg [([], false, ⟨(some 6), .fad 2 (.t 3), none⟩),
  ([], false, ⟨(some 7), .load true 3 (.t 6), none⟩),
  ([0, 1], false, ⟨(some 8), .fad 5 (.t 3), none⟩),
  ([0, 1], false, ⟨(some 9), .load true 2 (.t 8), none⟩),
  ([0, 1, 2, 3], false, ⟨(some 10), .fad 7 (.t 3), none⟩),
  ([0, 1, 2, 3], false, ⟨(some 11), .load false 1 (.t 10), none⟩),
  ([0, 1, 2, 3, 4, 5], false, ⟨(some 12), .fad 8 (.t 3), none⟩),
  ([0, 1, 2, 3, 4, 5], false, ⟨(some 13), .load false 1 (.t 12), none⟩),
  ([2, 3, 4, 5, 6, 7], false, ⟨(some 14), .fad 8 (.t 1), none⟩),
  ([2, 3, 4, 5, 6, 7], false, ⟨none, .store 3 (.t 14) (.t 7), none⟩),
  ([4, 5, 6, 7], false, ⟨(some 15), .fad 12 (.t 1), none⟩),
  ([4, 5, 6, 7], false, ⟨none, .store 2 (.t 15) (.t 9), none⟩),
  ([6, 7], false, ⟨(some 16), .fad 14 (.t 1), none⟩),
  ([6, 7], false, ⟨none, .store 1 (.t 16) (.t 11), none⟩),
  ([], true, ⟨(some 17), .fad 16 (.t 1), none⟩),
  ([], true, ⟨none, .store 1 (.t 17) (.t 13), none⟩)])
 (.seq (.reg [⟨(some 18), .load true 29 (.t 1), none⟩,
  ⟨(some 19), .fad 0 (.t 3), none⟩,
  ⟨(some 20), .load false 1 (.t 19), none⟩,
  ⟨(some 21), .fad 1 (.t 3), none⟩,
  ⟨(some 22), .load false 1 (.t 21), none⟩,
  ⟨(some 23), .call false 300 [(.t 18), (.t 20), (.t 22)], none⟩,
  ⟨none, .store 29 (.t 2) (.t 23), none⟩])
 .ret))))⟩
def a282 : Ann := ⟨[], [⟨false, 0, false⟩], []⟩
def s282 : SFun := ⟨1, 27, [], [(.cell 2 true 29, ⟨false, 0, false⟩)],
 (.seq (.reg [⟨(some 1), .box 29 (.t 0), none⟩,
  ⟨(some 2), .alloc [(D.int .i64 (0)), (D.int .i64 (0)), .sn, (D.int .i64 (0)), (D.int .i64 (0)), (D.bool false), (D.int .i64 (0)), (D.int .i64 (0)), (D.int .i64 (0)), (D.int .i64 (0)), (D.int .i64 (0)), (D.int .u64 (0)), (D.int .u8 (0)), (D.int .u8 (0)), (D.int .i64 (0)), (D.bool false), (D.bool false), (D.bool false), (D.bool false), (D.bool false), (D.int .i64 (0)), (D.int .i64 (0)), (D.int .i64 (0)), (D.int .i64 (0)), (D.int .i64 (0)), (D.int .u8 (0)), (D.int .u8 (0)), (D.int .i64 (0)), (D.bool false)], none⟩])
 (.seq (.reg [⟨(some 3), .fad 5 (.t 1), none⟩,
  ⟨none, .store 1 (.t 3) (.k (D.bool false)), none⟩])
 (.seq (.seq (.reg [⟨(some 4), .fad 3 (.t 1), none⟩,
  ⟨(some 5), .load false 1 (.t 4), none⟩,
  ⟨(some 6), .fad 6 (.t 1), none⟩,
  ⟨(some 7), .load false 1 (.t 6), none⟩,
  ⟨(some 8), .bin .eql (.t 5) (.t 7), none⟩])
 (.cond (.t 8)
 (.seq (.dreg [([], false, ⟨(some 9), .fad 0 (.t 1), none⟩),
  ([], false, ⟨(some 10), .load true 3 (.t 9), none⟩),
  ([0, 1], false, ⟨(some 11), .fad 6 (.t 1), none⟩),
  ([0, 1], false, ⟨(some 12), .load false 1 (.t 11), none⟩),
  ([0, 1, 2, 3], false, ⟨(some 13), .fad 7 (.t 1), none⟩),
  ([0, 1, 2, 3], false, ⟨(some 14), .load false 1 (.t 13), none⟩),
  ([0, 1, 2, 3, 4, 5], false, ⟨(some 15), .load true 29 (.t 1), none⟩),
  ([0, 1, 2, 3, 4, 5], false, ⟨(some 16), .callr 306 [(.t 15)], none⟩),
  ([], true, ⟨(some 17), .call false 294 [(.t 10), (.t 12), (.t 14), (.k (D.int .i64 (-1))), (.t 16)], none⟩),
  ([], true, ⟨(some 18), .fad 0 (.t 1), none⟩),
  ([], true, ⟨none, .store 3 (.t 18) (.t 17), none⟩)])
 (.seq (.reg [⟨(some 19), .load true 29 (.t 1), none⟩,
  ⟨none, .store 29 (.t 2) (.t 19), none⟩])
 .ret))
 .skip))
 (.seq (.reg [⟨(some 20), .load true 29 (.t 1), none⟩,
  ⟨(some 21), .fad 3 (.t 1), none⟩,
  ⟨(some 22), .load false 1 (.t 21), none⟩,
  ⟨(some 23), .bin .sub (.t 22) (.k (D.int .i64 (1))), none⟩,
  ⟨(some 24), .fad 4 (.t 1), none⟩,
  ⟨(some 25), .load false 1 (.t 24), none⟩,
  ⟨(some 26), .call false 300 [(.t 20), (.t 23), (.t 25)], none⟩,
  ⟨none, .store 29 (.t 2) (.t 26), none⟩])
 .ret))))⟩
def a290 : Ann := ⟨[], [⟨false, 0, false⟩], []⟩
def s290 : SFun := ⟨0, 2, [], [(.cell 0 true 3, ⟨false, 0, false⟩)],
 (.seq (.reg [⟨(some 0), .alloc [(D.int .i64 (0)), (D.int .i64 (0)), (D.int .i64 (0))], none⟩])
 (.seq (.reg [⟨(some 1), .build [(D.int .i64 (0)), (D.int .i64 (0)), (D.int .i64 (0))] [(0, 1, (.k (D.int .i64 (-1)))), (1, 1, (.k (D.int .i64 (-1))))], none⟩,
  ⟨none, .store 3 (.t 0) (.t 1), none⟩])
 .ret))⟩
def a297 : Ann := ⟨[(3, [(0, ⟨false, 0, false⟩), (3, ⟨false, 0, false⟩), (4, ⟨false, 0, false⟩)])], [⟨false, 0, false⟩], []⟩
def s297 : SFun := ⟨1, 16, [], [(.tmp 2, ⟨false, 0, false⟩)],
 (.seq (.reg [⟨(some 2), .mv (.k (D.int .u64 (0))), none⟩])
 (.seq (.reg [⟨(some 3), .mv (.k (D.int .u64 (0))), none⟩])
 (.seq (.seq (.reg [⟨(some 4), .mv (.k (D.int .i64 (8))), none⟩])
 (.block 0 (.loop [(0, ⟨false, 0, false⟩), (3, ⟨false, 0, false⟩), (4, ⟨false, 0, false⟩)]
 (.seq (.seq (.reg [⟨(some 5), .mv (.t 4), none⟩,
  ⟨(some 6), .mv (.t 0), none⟩,
  ⟨(some 7), .bin .lss (.t 5) (.t 6), none⟩])
 (.cond (.t 7)
 .skip
 (.exit 0)))
 (.seq (.block 1 (.reg [⟨(some 10), .mv (.t 3), none⟩,
  ⟨(some 11), .mv (.t 4), none⟩,
  ⟨(some 12), .cvi .u64 (.t 11), none⟩,
  ⟨(some 13), .bin .shl (.k (D.int .u64 (1))) (.t 12), none⟩,
  ⟨(some 14), .bin .or (.t 10) (.t 13), none⟩,
  ⟨(some 3), .mv (.t 14), none⟩]))
 (.reg [⟨(some 8), .mv (.t 4), none⟩,
  ⟨(some 9), .bin .add (.t 8) (.k (D.int .i64 (8))), none⟩,
  ⟨(some 4), .mv (.t 9), none⟩]))))))
 (.seq (.reg [⟨(some 15), .mv (.t 3), none⟩,
  ⟨(some 2), .mv (.t 15), none⟩])
 .ret))))⟩
def a286 : Ann := ⟨[], [⟨false, 0, false⟩], []⟩
def s286 : SFun := ⟨2, 19, [], [(.cell 4 true 29, ⟨false, 0, false⟩)],
 (.seq (.reg [⟨(some 4), .alloc [(D.int .i64 (0)), (D.int .i64 (0)), .sn, (D.int .i64 (0)), (D.int .i64 (0)), (D.bool false), (D.int .i64 (0)), (D.int .i64 (0)), (D.int .i64 (0)), (D.int .i64 (0)), (D.int .i64 (0)), (D.int .u64 (0)), (D.int .u8 (0)), (D.int .u8 (0)), (D.int .i64 (0)), (D.bool false), (D.bool false), (D.bool false), (D.bool false), (D.bool false), (D.int .i64 (0)), (D.int .i64 (0)), (D.int .i64 (0)), (D.int .i64 (0)), (D.int .i64 (0)), (D.int .u8 (0)), (D.int .u8 (0)), (D.int .i64 (0)), (D.bool false)], none⟩])
 (.seq (.reg [⟨(some 5), .mv (.t 0), none⟩,
  ⟨(some 6), .mv (.t 1), none⟩,
  ⟨(some 7), .call false 290 [], none⟩,
  ⟨(some 8), .call false 288 [(.t 5), (.t 6), (.t 7)], none⟩,
  ⟨(some 9), .mv (.t 0), none⟩,
  ⟨(some 10), .bin .sub (.t 9) (.k (D.int .i64 (1))), none⟩,
  ⟨(some 11), .call false 290 [], none⟩,
  ⟨(some 12), .mv (.t 1), none⟩,
  ⟨(some 13), .call false 297 [(.t 12)], none⟩,
  ⟨(some 14), .build [(D.int .u8 (0)), (D.int .u8 (0))] [(0, 1, (.k (D.int .u8 (66)))), (1, 1, (.k (D.int .u8 (66))))], none⟩,
  ⟨(some 15), .call false 290 [], none⟩,
  ⟨(some 16), .build [(D.int .u8 (0)), (D.int .u8 (0))] [(0, 1, (.k (D.int .u8 (66)))), (1, 1, (.k (D.int .u8 (66))))], none⟩,
  ⟨(some 17), .build [(D.int .i64 (0)), (D.int .i64 (0)), (D.int .i64 (0)), (D.int .i64 (0)), (D.int .i64 (0)), (D.int .u8 (0)), (D.int .u8 (0)), (D.int .i64 (0)), (D.bool false)] [(2, 3, (.t 15)), (5, 2, (.t 16))], none⟩,
  ⟨(some 18), .build [(D.int .i64 (0)), (D.int .i64 (0)), .sn, (D.int .i64 (0)), (D.int .i64 (0)), (D.bool false), (D.int .i64 (0)), (D.int .i64 (0)), (D.int .i64 (0)), (D.int .i64 (0)), (D.int .i64 (0)), (D.int .u64 (0)), (D.int .u8 (0)), (D.int .u8 (0)), (D.int .i64 (0)), (D.bool false), (D.bool false), (D.bool false), (D.bool false), (D.bool false), (D.int .i64 (0)), (D.int .i64 (0)), (D.int .i64 (0)), (D.int .i64 (0)), (D.int .i64 (0)), (D.int .u8 (0)), (D.int .u8 (0)), (D.int .i64 (0)), (D.bool false)] [(0, 3, (.t 8)), (7, 1, (.t 10)), (8, 3, (.t 11)), (11, 1, (.t 13)), (12, 2, (.t 14)), (15, 1, (.k (D.bool true))), (17, 1, (.k (D.bool true))), (20, 9, (.t 17))], none⟩,
  ⟨none, .store 29 (.t 4) (.t 18), none⟩])
 .ret))⟩
def a304 : Ann := ⟨[], [⟨false, 0, false⟩], []⟩
def s304 : SFun := ⟨2, 82, [], [(.cell 4 true 29, ⟨false, 0, false⟩)],
 (.seq (.reg [⟨(some 2), .box 29 (.t 0), none⟩,
  ⟨(some 3), .box 7 (.t 1), none⟩,
  ⟨(some 4), .alloc [(D.int .i64 (0)), (D.int .i64 (0)), .sn, (D.int .i64 (0)), (D.int .i64 (0)), (D.bool false), (D.int .i64 (0)), (D.int .i64 (0)), (D.int .i64 (0)), (D.int .i64 (0)), (D.int .i64 (0)), (D.int .u64 (0)), (D.int .u8 (0)), (D.int .u8 (0)), (D.int .i64 (0)), (D.bool false), (D.bool false), (D.bool false), (D.bool false), (D.bool false), (D.int .i64 (0)), (D.int .i64 (0)), (D.int .i64 (0)), (D.int .i64 (0)), (D.int .i64 (0)), (D.int .u8 (0)), (D.int .u8 (0)), (D.int .i64 (0)), (D.bool false)], none⟩])
 (.seq (.seq (.reg [⟨(some 5), .fad 3 (.t 3), none⟩,
  ⟨(some 6), .load false 1 (.t 5), none⟩,
  ⟨(some 7), .bin .eql (.t 6) (.k (D.int .u8 (40))), none⟩,
  ⟨(some 8), .mv (.t 7), none⟩,
  ⟨(some 9), .fad 3 (.t 3), (some (8, false))⟩,
  ⟨(some 10), .load false 1 (.t 9), (some (8, false))⟩,
  ⟨(some 11), .bin .eql (.t 10) (.k (D.int .u8 (41))), (some (8, false))⟩,
  ⟨(some 12), .pick (.t 8) (.k (D.bool true)) (.t 11), none⟩])
 (.cond (.t 12)
 (.seq (.seq (.reg [⟨(some 13), .fad 4 (.t 3), none⟩,
  ⟨(some 14), .load false 1 (.t 13), none⟩,
  ⟨(some 15), .bin .eql (.t 14) (.k (D.int .u8 (48))), none⟩,
  ⟨(some 16), .mv (.t 15), none⟩,
  ⟨(some 17), .fad 4 (.t 3), (some (16, false))⟩,
  ⟨(some 18), .load false 1 (.t 17), (some (16, false))⟩,
  ⟨(some 19), .bin .eql (.t 18) (.k (D.int .u8 (66))), (some (16, false))⟩,
  ⟨(some 20), .pick (.t 16) (.k (D.bool true)) (.t 19), none⟩])
 (.cond (.t 20)
 (.reg [⟨(some 21), .fad 3 (.t 3), none⟩,
  ⟨(some 22), .load false 1 (.t 21), none⟩,
  ⟨(some 23), .bin .sub (.t 22) (.k (D.int .u8 (40))), none⟩,
  ⟨(some 24), .fad 4 (.t 3), none⟩,
  ⟨(some 25), .load false 1 (.t 24), none⟩,
  ⟨(some 26), .fad 12 (.t 2), none⟩,
  ⟨(some 27), .ixa 2 1 (.t 26) (.t 23), none⟩,
  ⟨none, .store 1 (.t 27) (.t 25), none⟩])
 .skip))
 (.seq (.reg [⟨(some 28), .load true 29 (.t 2), none⟩,
  ⟨none, .store 29 (.t 4) (.t 28), none⟩])
 .ret))
 .skip))
 (.seq (.seq (.reg [⟨(some 29), .fad 3 (.t 3), none⟩,
  ⟨(some 30), .load false 1 (.t 29), none⟩,
  ⟨(some 31), .bin .neq (.t 30) (.k (D.int .u8 (0))), none⟩])
 (.cond (.t 31)
 (.seq (.reg [⟨(some 32), .load true 29 (.t 2), none⟩,
  ⟨none, .store 29 (.t 4) (.t 32), none⟩])
 .ret)
 .skip))
 (.seq (.seq (.reg [⟨(some 33), .fad 4 (.t 3), none⟩,
  ⟨(some 34), .load false 1 (.t 33), none⟩])
 (.block 0 (.seq (.reg [⟨(some 36), .bin .eql (.t 34) (.k (D.int .u8 (55))), none⟩,
  ⟨(some 35), .mv (.t 36), none⟩])
 (.cond (.t 35)
 (.seq (.reg [⟨(some 37), .load true 29 (.t 2), none⟩,
  ⟨(some 38), .call false 314 [(.t 37)], none⟩,
  ⟨none, .store 29 (.t 4) (.t 38), none⟩])
 .ret)
 (.seq (.reg [⟨(some 40), .bin .eql (.t 34) (.k (D.int .u8 (56))), none⟩,
  ⟨(some 39), .mv (.t 40), none⟩])
 (.cond (.t 39)
 (.seq (.reg [⟨(some 41), .load true 29 (.t 2), none⟩,
  ⟨(some 42), .call false 312 [(.t 41)], none⟩,
  ⟨none, .store 29 (.t 4) (.t 42), none⟩])
 .ret)
 (.seq (.reg [⟨(some 44), .bin .eql (.t 34) (.k (D.int .u8 (68))), none⟩,
  ⟨(some 43), .mv (.t 44), none⟩])
 (.cond (.t 43)
 (.seq (.reg [⟨(some 45), .load true 29 (.t 2), none⟩,
  ⟨(some 46), .call false 285 [(.t 45)], none⟩,
  ⟨none, .store 29 (.t 4) (.t 46), none⟩])
 .ret)
 (.seq (.reg [⟨(some 48), .bin .eql (.t 34) (.k (D.int .u8 (69))), none⟩,
  ⟨(some 47), .mv (.t 48), none⟩])
 (.cond (.t 47)
 (.seq (.reg [⟨(some 49), .fad 4 (.t 2), none⟩,
  ⟨none, .store 1 (.t 49) (.k (D.int .i64 (0))), none⟩])
 (.seq (.reg [⟨(some 50), .load true 29 (.t 2), none⟩,
  ⟨(some 51), .call false 285 [(.t 50)], none⟩,
  ⟨none, .store 29 (.t 4) (.t 51), none⟩])
 .ret))
 (.seq (.reg [⟨(some 53), .bin .eql (.t 34) (.k (D.int .u8 (77))), none⟩,
  ⟨(some 52), .mv (.t 53), none⟩])
 (.cond (.t 52)
 (.seq (.reg [⟨(some 54), .load true 29 (.t 2), none⟩,
  ⟨(some 55), .call false 282 [(.t 54)], none⟩,
  ⟨none, .store 29 (.t 4) (.t 55), none⟩])
 .ret)
 (.seq (.reg [⟨(some 57), .bin .eql (.t 34) (.k (D.int .u8 (72))), none⟩,
  ⟨(some 56), .mv (.t 57), none⟩])
 (.cond (.t 56)
 (.reg [⟨(some 58), .fad 11 (.t 2), none⟩,
  ⟨(some 59), .load false 1 (.t 58), none⟩,
  ⟨(some 60), .fad 4 (.t 2), none⟩,
  ⟨(some 61), .load false 1 (.t 60), none⟩,
  ⟨(some 62), .cvi .u64 (.t 61), none⟩,
  ⟨(some 63), .bin .shl (.k (D.int .u64 (1))) (.t 62), none⟩,
  ⟨(some 64), .bin .or (.t 59) (.t 63), none⟩,
  ⟨(some 65), .fad 11 (.t 2), none⟩,
  ⟨none, .store 1 (.t 65) (.t 64), none⟩])
 (.seq (.reg [⟨(some 67), .bin .eql (.t 34) (.k (D.int .u8 (99))), none⟩,
  ⟨(some 66), .mv (.t 67), none⟩])
 (.cond (.t 66)
 (.seq (.reg [⟨(some 68), .fad 0 (.t 2), none⟩,
  ⟨(some 69), .fad 0 (.t 68), none⟩,
  ⟨(some 70), .load false 1 (.t 69), none⟩,
  ⟨(some 71), .fad 0 (.t 2), none⟩,
  ⟨(some 72), .fad 1 (.t 71), none⟩,
  ⟨(some 73), .load false 1 (.t 72), none⟩,
  ⟨(some 74), .call false 286 [(.t 70), (.t 73)], none⟩,
  ⟨none, .store 29 (.t 4) (.t 74), none⟩])
 .ret)
 (.seq (.reg [⟨(some 76), .bin .eql (.t 34) (.k (D.int .u8 (61))), none⟩,
  ⟨(some 75), .mv (.t 76), none⟩])
 (.cond (.t 75)
 (.reg [⟨(some 77), .fad 19 (.t 2), none⟩,
  ⟨none, .store 1 (.t 77) (.k (D.bool true)), none⟩])
 (.seq (.reg [⟨(some 79), .bin .eql (.t 34) (.k (D.int .u8 (62))), none⟩,
  ⟨(some 78), .mv (.t 79), none⟩])
 (.cond (.t 78)
 (.reg [⟨(some 80), .fad 19 (.t 2), none⟩,
  ⟨none, .store 1 (.t 80) (.k (D.bool false)), none⟩])
 .skip))))))))))))))))))))
 (.seq (.reg [⟨(some 81), .load true 29 (.t 2), none⟩,
  ⟨none, .store 29 (.t 4) (.t 81), none⟩])
 .ret)))))⟩
def a308 : Ann := ⟨[], [⟨false, 0, false⟩], []⟩
def s308 : SFun := ⟨1, 11, [], [(.cell 2 true 29, ⟨false, 0, false⟩)],
 (.seq (.reg [⟨(some 1), .box 29 (.t 0), none⟩,
  ⟨(some 2), .alloc [(D.int .i64 (0)), (D.int .i64 (0)), .sn, (D.int .i64 (0)), (D.int .i64 (0)), (D.bool false), (D.int .i64 (0)), (D.int .i64 (0)), (D.int .i64 (0)), (D.int .i64 (0)), (D.int .i64 (0)), (D.int .u64 (0)), (D.int .u8 (0)), (D.int .u8 (0)), (D.int .i64 (0)), (D.bool false), (D.bool false), (D.bool false), (D.bool false), (D.bool false), (D.int .i64 (0)), (D.int .i64 (0)), (D.int .i64 (0)), (D.int .i64 (0)), (D.int .i64 (0)), (D.int .u8 (0)), (D.int .u8 (0)), (D.int .i64 (0)), (D.bool false)], none⟩])
 (.seq (.seq (.reg [⟨(some 3), .fad 16 (.t 1), none⟩,
  ⟨(some 4), .load false 1 (.t 3), none⟩])
 (.cond (.t 4)
 (.seq (.reg [⟨(some 5), .load true 29 (.t 1), none⟩,
  ⟨(some 6), .fad 6 (.t 1), none⟩,
  ⟨(some 7), .load false 1 (.t 6), none⟩,
  ⟨(some 8), .call false 300 [(.t 5), (.t 7), (.k (D.int .i64 (0)))], none⟩,
  ⟨none, .store 29 (.t 2) (.t 8), none⟩])
 .ret)
 .skip))
 (.seq (.reg [⟨(some 9), .load true 29 (.t 1), none⟩,
  ⟨(some 10), .call false 300 [(.t 9), (.k (D.int .i64 (0))), (.k (D.int .i64 (0)))], none⟩,
  ⟨none, .store 29 (.t 2) (.t 10), none⟩])
 .ret)))⟩
def a309 : Ann := ⟨[], [⟨false, 0, false⟩], []⟩
def s309 : SFun := ⟨3, 33, [], [(.cell 6 true 29, ⟨false, 0, false⟩)],
 (.seq (.reg [⟨(some 3), .box 29 (.t 0), none⟩,
  ⟨(some 6), .alloc [(D.int .i64 (0)), (D.int .i64 (0)), .sn, (D.int .i64 (0)), (D.int .i64 (0)), (D.bool false), (D.int .i64 (0)), (D.int .i64 (0)), (D.int .i64 (0)), (D.int .i64 (0)), (D.int .i64 (0)), (D.int .u64 (0)), (D.int .u8 (0)), (D.int .u8 (0)), (D.int .i64 (0)), (D.bool false), (D.bool false), (D.bool false), (D.bool false), (D.bool false), (D.int .i64 (0)), (D.int .i64 (0)), (D.int .i64 (0)), (D.int .i64 (0)), (D.int .i64 (0)), (D.int .u8 (0)), (D.int .u8 (0)), (D.int .i64 (0)), (D.bool false)], none⟩])
 (.seq (.seq (.reg [⟨(some 7), .mv (.t 1), none⟩])
 (.block 0 (.seq (.reg [⟨(some 9), .bin .eql (.t 7) (.k (D.int .i64 (1))), none⟩,
  ⟨(some 8), .mv (.t 9), none⟩])
 (.cond (.t 8)
 (.reg [⟨(some 10), .mv (.t 2), none⟩,
  ⟨(some 11), .fad 18 (.t 3), none⟩,
  ⟨none, .store 1 (.t 11) (.t 10), none⟩])
 (.seq (.reg [⟨(some 13), .bin .eql (.t 7) (.k (D.int .i64 (6))), none⟩,
  ⟨(some 12), .mv (.t 13), none⟩])
 (.cond (.t 12)
 (.seq (.reg [⟨(some 14), .mv (.t 2), none⟩,
  ⟨(some 15), .fad 16 (.t 3), none⟩,
  ⟨none, .store 1 (.t 15) (.t 14), none⟩])
 (.seq (.reg [⟨(some 16), .load true 29 (.t 3), none⟩,
  ⟨(some 17), .call false 308 [(.t 16)], none⟩,
  ⟨none, .store 29 (.t 6) (.t 17), none⟩])
 .ret))
 (.seq (.reg [⟨(some 19), .bin .eql (.t 7) (.k (D.int .i64 (7))), none⟩,
  ⟨(some 18), .mv (.t 19), none⟩])
 (.cond (.t 18)
 (.seq (.reg [⟨(some 20), .mv (.t 2), none⟩,
  ⟨(some 21), .fad 15 (.t 3), none⟩,
  ⟨none, .store 1 (.t 21) (.t 20), none⟩])
 (.reg [⟨(some 22), .fad 5 (.t 3), none⟩,
  ⟨(some 23), .load false 1 (.t 22), none⟩,
  ⟨(some 24), .mv (.t 23), none⟩,
  ⟨(some 25), .mv (.t 2), (some (24, true))⟩,
  ⟨(some 26), .pick (.t 24) (.t 25) (.k (D.bool false)), none⟩,
  ⟨(some 27), .fad 5 (.t 3), none⟩,
  ⟨none, .store 1 (.t 27) (.t 26), none⟩]))
 (.seq (.reg [⟨(some 29), .bin .eql (.t 7) (.k (D.int .i64 (25))), none⟩,
  ⟨(some 28), .mv (.t 29), none⟩])
 (.cond (.t 28)
 (.reg [⟨(some 30), .mv (.t 2), none⟩,
  ⟨(some 31), .fad 17 (.t 3), none⟩,
  ⟨none, .store 1 (.t 31) (.t 30), none⟩])
 .skip))))))))))
 (.seq (.reg [⟨(some 32), .load true 29 (.t 3), none⟩,
  ⟨none, .store 29 (.t 6) (.t 32), none⟩])
 .ret)))⟩
def a311 : Ann := ⟨[], [⟨false, 0, false⟩], []⟩
def s311 : SFun := ⟨3, 26, [], [(.tmp 6, ⟨false, 0, false⟩)],
 (.seq (.reg [⟨(some 3), .box 7 (.t 0), none⟩,
  ⟨(some 6), .mv (.k (D.int .i64 (0))), none⟩])
 (.seq (.seq (.reg [⟨(some 7), .mv (.t 1), none⟩,
  ⟨(some 8), .fad 5 (.t 3), none⟩,
  ⟨(some 9), .load false 1 (.t 8), none⟩,
  ⟨(some 10), .len (.t 9), none⟩,
  ⟨(some 11), .bin .geq (.t 7) (.t 10), none⟩,
  ⟨(some 12), .mv (.t 11), none⟩,
  ⟨(some 13), .fad 5 (.t 3), (some (12, false))⟩,
  ⟨(some 14), .load false 1 (.t 13), (some (12, false))⟩,
  ⟨(some 15), .mv (.t 1), (some (12, false))⟩,
  ⟨(some 16), .ixs 1 (.t 14) (.t 15), (some (12, false))⟩,
  ⟨(some 17), .load false 1 (.t 16), (some (12, false))⟩,
  ⟨(some 18), .bin .lss (.t 17) (.k (D.int .i64 (1))), (some (12, false))⟩,
  ⟨(some 19), .pick (.t 12) (.k (D.bool true)) (.t 18), none⟩])
 (.cond (.t 19)
 (.seq (.reg [⟨(some 20), .mv (.t 2), none⟩,
  ⟨(some 6), .mv (.t 20), none⟩])
 .ret)
 .skip))
 (.seq (.reg [⟨(some 21), .fad 5 (.t 3), none⟩,
  ⟨(some 22), .load false 1 (.t 21), none⟩,
  ⟨(some 23), .mv (.t 1), none⟩,
  ⟨(some 24), .ixs 1 (.t 22) (.t 23), none⟩,
  ⟨(some 25), .load false 1 (.t 24), none⟩,
  ⟨(some 6), .mv (.t 25), none⟩])
 .ret)))⟩
def a307 : Ann := ⟨[], [⟨false, 0, false⟩], []⟩
def s307 : SFun := ⟨3, 23, [], [(.cell 6 true 29, ⟨false, 0, false⟩)],
 (.seq (.reg [⟨(some 3), .box 29 (.t 0), none⟩,
  ⟨(some 6), .alloc [(D.int .i64 (0)), (D.int .i64 (0)), .sn, (D.int .i64 (0)), (D.int .i64 (0)), (D.bool false), (D.int .i64 (0)), (D.int .i64 (0)), (D.int .i64 (0)), (D.int .i64 (0)), (D.int .i64 (0)), (D.int .u64 (0)), (D.int .u8 (0)), (D.int .u8 (0)), (D.int .i64 (0)), (D.bool false), (D.bool false), (D.bool false), (D.bool false), (D.bool false), (D.int .i64 (0)), (D.int .i64 (0)), (D.int .i64 (0)), (D.int .i64 (0)), (D.int .i64 (0)), (D.int .u8 (0)), (D.int .u8 (0)), (D.int .i64 (0)), (D.bool false)], none⟩])
 (.seq (.seq (.reg [⟨(some 7), .fad 16 (.t 3), none⟩,
  ⟨(some 8), .load false 1 (.t 7), none⟩])
 (.cond (.t 8)
 (.seq (.reg [⟨(some 9), .load true 29 (.t 3), none⟩,
  ⟨(some 10), .fad 6 (.t 3), none⟩,
  ⟨(some 11), .load false 1 (.t 10), none⟩,
  ⟨(some 12), .mv (.t 1), none⟩,
  ⟨(some 13), .bin .add (.t 11) (.t 12), none⟩,
  ⟨(some 14), .fad 7 (.t 3), none⟩,
  ⟨(some 15), .load false 1 (.t 14), none⟩,
  ⟨(some 16), .mn [(.t 13), (.t 15)], none⟩,
  ⟨(some 17), .mv (.t 2), none⟩,
  ⟨(some 18), .call false 300 [(.t 9), (.t 16), (.t 17)], none⟩,
  ⟨none, .store 29 (.t 6) (.t 18), none⟩])
 .ret)
 .skip))
 (.seq (.reg [⟨(some 19), .load true 29 (.t 3), none⟩,
  ⟨(some 20), .mv (.t 1), none⟩,
  ⟨(some 21), .mv (.t 2), none⟩,
  ⟨(some 22), .call false 300 [(.t 19), (.t 20), (.t 21)], none⟩,
  ⟨none, .store 29 (.t 6) (.t 22), none⟩])
 .ret)))⟩
def a310 : Ann := ⟨[], [⟨false, 0, false⟩, ⟨false, 0, false⟩], []⟩
def s310 : SFun := ⟨2, 111, [], [(.cell 4 true 29, ⟨false, 0, false⟩), (.tmp 5, ⟨false, 0, false⟩)],
 (.seq (.reg [⟨(some 2), .box 29 (.t 0), none⟩,
  ⟨(some 3), .box 7 (.t 1), none⟩,
  ⟨(some 4), .alloc [(D.int .i64 (0)), (D.int .i64 (0)), .sn, (D.int .i64 (0)), (D.int .i64 (0)), (D.bool false), (D.int .i64 (0)), (D.int .i64 (0)), (D.int .i64 (0)), (D.int .i64 (0)), (D.int .i64 (0)), (D.int .u64 (0)), (D.int .u8 (0)), (D.int .u8 (0)), (D.int .i64 (0)), (D.bool false), (D.bool false), (D.bool false), (D.bool false), (D.bool false), (D.int .i64 (0)), (D.int .i64 (0)), (D.int .i64 (0)), (D.int .i64 (0)), (D.int .i64 (0)), (D.int .u8 (0)), (D.int .u8 (0)), (D.int .i64 (0)), (D.bool false)], none⟩,
  ⟨(some 5), .mv (.k (D.bool false)), none⟩])
 (.seq (.reg [⟨(some 9), .load true 7 (.t 3), none⟩,
  ⟨(some 10), .call false 311 [(.t 9), (.k (D.int .i64 (0))), (.k (D.int .i64 (1)))], none⟩,
  ⟨(some 6), .mv (.t 10), none⟩])
 (.seq (.dreg [([], false, ⟨(some 11), .fad 3 (.t 2), none⟩),
  ([], false, ⟨(some 12), .load false 1 (.t 11), none⟩),
  ([0, 1], false, ⟨(some 13), .mv (.t 6), none⟩),
  ([], false, ⟨(some 14), .bin .sub (.t 12) (.t 13), none⟩),
  ([0, 1, 2, 3], false, ⟨(some 15), .fad 3 (.t 2), none⟩),
  ([0, 1, 2, 3], false, ⟨(some 16), .load false 1 (.t 15), none⟩),
  ([0, 1, 2, 3, 4, 5], false, ⟨(some 17), .mv (.t 6), none⟩),
  ([0, 1, 2, 3], false, ⟨(some 18), .bin .add (.t 16) (.t 17), none⟩),
  ([4, 5, 6, 7], false, ⟨(some 7), .mv (.t 14), none⟩),
  ([], true, ⟨(some 8), .mv (.t 18), none⟩)])
 (.seq (.seq (.reg [⟨(some 19), .fad 3 (.t 2), none⟩,
  ⟨(some 20), .load false 1 (.t 19), none⟩,
  ⟨(some 21), .fad 6 (.t 2), none⟩,
  ⟨(some 22), .load false 1 (.t 21), none⟩,
  ⟨(some 23), .bin .geq (.t 20) (.t 22), none⟩])
 (.cond (.t 23)
 (.reg [⟨(some 24), .mv (.t 7), none⟩,
  ⟨(some 25), .fad 6 (.t 2), none⟩,
  ⟨(some 26), .load false 1 (.t 25), none⟩,
  ⟨(some 27), .mx [(.t 24), (.t 26)], none⟩,
  ⟨(some 7), .mv (.t 27), none⟩])
 .skip))
 (.seq (.seq (.reg [⟨(some 28), .fad 3 (.t 2), none⟩,
  ⟨(some 29), .load false 1 (.t 28), none⟩,
  ⟨(some 30), .fad 7 (.t 2), none⟩,
  ⟨(some 31), .load false 1 (.t 30), none⟩,
  ⟨(some 32), .bin .leq (.t 29) (.t 31), none⟩])
 (.cond (.t 32)
 (.reg [⟨(some 33), .mv (.t 8), none⟩,
  ⟨(some 34), .fad 7 (.t 2), none⟩,
  ⟨(some 35), .load false 1 (.t 34), none⟩,
  ⟨(some 36), .mn [(.t 33), (.t 35)], none⟩,
  ⟨(some 8), .mv (.t 36), none⟩])
 .skip))
 (.seq (.seq (.reg [⟨(some 37), .fad 4 (.t 3), none⟩,
  ⟨(some 38), .load false 1 (.t 37), none⟩])
 (.block 0 (.seq (.reg [⟨(some 40), .bin .eql (.t 38) (.k (D.int .u8 (65))), none⟩,
  ⟨(some 39), .mv (.t 40), none⟩])
 (.cond (.t 39)
 (.seq (.reg [⟨(some 41), .load true 29 (.t 2), none⟩,
  ⟨(some 42), .mv (.t 7), none⟩,
  ⟨(some 43), .fad 4 (.t 2), none⟩,
  ⟨(some 44), .load false 1 (.t 43), none⟩,
  ⟨(some 45), .call false 300 [(.t 41), (.t 42), (.t 44)], none⟩,
  ⟨none, .store 29 (.t 4) (.t 45), none⟩,
  ⟨(some 5), .mv (.k (D.bool true)), none⟩])
 .ret)
 (.seq (.reg [⟨(some 47), .bin .eql (.t 38) (.k (D.int .u8 (66))), none⟩,
  ⟨(some 46), .mv (.t 47), none⟩])
 (.cond (.t 46)
 (.seq (.reg [⟨(some 48), .load true 29 (.t 2), none⟩,
  ⟨(some 49), .mv (.t 8), none⟩,
  ⟨(some 50), .fad 4 (.t 2), none⟩,
  ⟨(some 51), .load false 1 (.t 50), none⟩,
  ⟨(some 52), .call false 300 [(.t 48), (.t 49), (.t 51)], none⟩,
  ⟨none, .store 29 (.t 4) (.t 52), none⟩,
  ⟨(some 5), .mv (.k (D.bool true)), none⟩])
 .ret)
 (.seq (.reg [⟨(some 54), .bin .eql (.t 38) (.k (D.int .u8 (67))), none⟩,
  ⟨(some 53), .mv (.t 54), none⟩])
 (.cond (.t 53)
 (.seq (.reg [⟨(some 55), .load true 29 (.t 2), none⟩,
  ⟨(some 56), .fad 3 (.t 2), none⟩,
  ⟨(some 57), .load false 1 (.t 56), none⟩,
  ⟨(some 58), .fad 4 (.t 2), none⟩,
  ⟨(some 59), .load false 1 (.t 58), none⟩,
  ⟨(some 60), .mv (.t 6), none⟩,
  ⟨(some 61), .bin .add (.t 59) (.t 60), none⟩,
  ⟨(some 62), .call false 300 [(.t 55), (.t 57), (.t 61)], none⟩,
  ⟨none, .store 29 (.t 4) (.t 62), none⟩,
  ⟨(some 5), .mv (.k (D.bool true)), none⟩])
 .ret)
 (.seq (.reg [⟨(some 64), .bin .eql (.t 38) (.k (D.int .u8 (68))), none⟩,
  ⟨(some 63), .mv (.t 64), none⟩])
 (.cond (.t 63)
 (.seq (.reg [⟨(some 65), .load true 29 (.t 2), none⟩,
  ⟨(some 66), .fad 3 (.t 2), none⟩,
  ⟨(some 67), .load false 1 (.t 66), none⟩,
  ⟨(some 68), .fad 4 (.t 2), none⟩,
  ⟨(some 69), .load false 1 (.t 68), none⟩,
  ⟨(some 70), .mv (.t 6), none⟩,
  ⟨(some 71), .bin .sub (.t 69) (.t 70), none⟩,
  ⟨(some 72), .call false 300 [(.t 65), (.t 67), (.t 71)], none⟩,
  ⟨none, .store 29 (.t 4) (.t 72), none⟩,
  ⟨(some 5), .mv (.k (D.bool true)), none⟩])
 .ret)
 (.seq (.reg [⟨(some 74), .bin .eql (.t 38) (.k (D.int .u8 (69))), none⟩,
  ⟨(some 73), .mv (.t 74), none⟩])
 (.cond (.t 73)
 (.seq (.reg [⟨(some 75), .load true 29 (.t 2), none⟩,
  ⟨(some 76), .mv (.t 8), none⟩,
  ⟨(some 77), .call false 300 [(.t 75), (.t 76), (.k (D.int .i64 (0)))], none⟩,
  ⟨none, .store 29 (.t 4) (.t 77), none⟩,
  ⟨(some 5), .mv (.k (D.bool true)), none⟩])
 .ret)
 (.seq (.reg [⟨(some 79), .bin .eql (.t 38) (.k (D.int .u8 (70))), none⟩,
  ⟨(some 78), .mv (.t 79), none⟩])
 (.cond (.t 78)
 (.seq (.reg [⟨(some 80), .load true 29 (.t 2), none⟩,
  ⟨(some 81), .mv (.t 7), none⟩,
  ⟨(some 82), .call false 300 [(.t 80), (.t 81), (.k (D.int .i64 (0)))], none⟩,
  ⟨none, .store 29 (.t 4) (.t 82), none⟩,
  ⟨(some 5), .mv (.k (D.bool true)), none⟩])
 .ret)
 (.seq (.seq (.reg [⟨(some 84), .bin .eql (.t 38) (.k (D.int .u8 (71))), none⟩,
  ⟨(some 83), .mv (.t 84), none⟩])
 (.cond (.t 83)
 .skip
 (.reg [⟨(some 85), .bin .eql (.t 38) (.k (D.int .u8 (96))), none⟩,
  ⟨(some 83), .mv (.t 85), none⟩])))
 (.cond (.t 83)
 (.seq (.reg [⟨(some 86), .load true 29 (.t 2), none⟩,
  ⟨(some 87), .fad 3 (.t 2), none⟩,
  ⟨(some 88), .load false 1 (.t 87), none⟩,
  ⟨(some 89), .mv (.t 6), none⟩,
  ⟨(some 90), .bin .sub (.t 89) (.k (D.int .i64 (1))), none⟩,
  ⟨(some 91), .call false 300 [(.t 86), (.t 88), (.t 90)], none⟩,
  ⟨none, .store 29 (.t 4) (.t 91), none⟩,
  ⟨(some 5), .mv (.k (D.bool true)), none⟩])
 .ret)
 (.seq (.reg [⟨(some 93), .bin .eql (.t 38) (.k (D.int .u8 (100))), none⟩,
  ⟨(some 92), .mv (.t 93), none⟩])
 (.cond (.t 92)
 (.seq (.reg [⟨(some 94), .load true 29 (.t 2), none⟩,
  ⟨(some 95), .mv (.t 6), none⟩,
  ⟨(some 96), .bin .sub (.t 95) (.k (D.int .i64 (1))), none⟩,
  ⟨(some 97), .fad 4 (.t 2), none⟩,
  ⟨(some 98), .load false 1 (.t 97), none⟩,
  ⟨(some 99), .call false 307 [(.t 94), (.t 96), (.t 98)], none⟩,
  ⟨none, .store 29 (.t 4) (.t 99), none⟩,
  ⟨(some 5), .mv (.k (D.bool true)), none⟩])
 .ret)
 (.seq (.seq (.reg [⟨(some 101), .bin .eql (.t 38) (.k (D.int .u8 (72))), none⟩,
  ⟨(some 100), .mv (.t 101), none⟩])
 (.cond (.t 100)
 .skip
 (.reg [⟨(some 102), .bin .eql (.t 38) (.k (D.int .u8 (102))), none⟩,
  ⟨(some 100), .mv (.t 102), none⟩])))
 (.cond (.t 100)
 (.seq (.dreg [([], false, ⟨(some 103), .load true 29 (.t 2), none⟩),
  ([0], false, ⟨(some 104), .mv (.t 6), none⟩),
  ([0], false, ⟨(some 105), .bin .sub (.t 104) (.k (D.int .i64 (1))), none⟩),
  ([0, 1, 2], false, ⟨(some 106), .load true 7 (.t 3), none⟩),
  ([0, 1, 2], false, ⟨(some 107), .call true 311 [(.t 106), (.k (D.int .i64 (1))), (.k (D.int .i64 (1)))], none⟩),
  ([0, 1, 2], false, ⟨(some 108), .bin .sub (.t 107) (.k (D.int .i64 (1))), none⟩),
  ([], true, ⟨(some 109), .call false 307 [(.t 103), (.t 105), (.t 108)], none⟩),
  ([], true, ⟨none, .store 29 (.t 4) (.t 109), none⟩),
  ([], true, ⟨(some 5), .mv (.k (D.bool true)), none⟩)])
 .ret)
 .skip))))))))))))))))))))
 (.seq (.reg [⟨(some 110), .load true 29 (.t 2), none⟩,
  ⟨none, .store 29 (.t 4) (.t 110), none⟩,
  ⟨(some 5), .mv (.k (D.bool false)), none⟩])
 .ret)))))))⟩
def a287 : Ann := ⟨[(3, [(0, ⟨false, 0, false⟩), (11, ⟨false, 0, false⟩), (12, ⟨false, 0, false⟩), (13, ⟨false, 0, false⟩), (3, ⟨true, 5, false⟩)])], [⟨true, 5, false⟩], []⟩
def s287 : SFun := ⟨1, 65, [], [(.tmp 2, ⟨true, 5, false⟩)],
 (.seq (.reg [⟨(some 2), .mv (.k .sn), none⟩])
 (.seq (.reg [⟨(some 8), .bsl true 5 0 [(D.int .i32 (0)), (D.int .i64 (0)), (D.int .i64 (0)), (D.int .i64 (0)), (D.int .i64 (0))] [], none⟩,
  ⟨(some 9), .mv (.t 0), none⟩,
  ⟨(some 10), .append 5 40 (.t 8) (.t 9), none⟩,
  ⟨(some 3), .mv (.t 10), none⟩])
 (.seq (.seq (.reg [⟨(some 11), .mv (.t 0), none⟩,
  ⟨(some 12), .len (.t 11), none⟩,
  ⟨(some 13), .mv (.k (D.int .i64 (0))), none⟩])
 (.block 0 (.loop [(0, ⟨false, 0, false⟩), (11, ⟨false, 0, false⟩), (12, ⟨false, 0, false⟩), (13, ⟨false, 0, false⟩), (3, ⟨true, 5, false⟩)]
 (.seq (.reg [⟨(some 14), .bin .lss (.t 13) (.t 12), none⟩])
 (.seq (.cond (.t 14)
 .skip
 (.exit 0))
 (.seq (.block 1 (.seq (.reg [⟨(some 15), .mv (.t 13), none⟩,
  ⟨(some 16), .ixs 5 (.t 11) (.t 13), none⟩,
  ⟨(some 17), .load true 5 (.t 16), none⟩,
  ⟨(some 5), .alloc [(D.int .i32 (0)), (D.int .i64 (0)), (D.int .i64 (0)), (D.int .i64 (0)), (D.int .i64 (0))], none⟩,
  ⟨(some 4), .mv (.t 15), none⟩,
  ⟨none, .store 5 (.t 5) (.t 17), none⟩])
 (.seq (.reg [⟨(some 18), .fad 1 (.t 5), none⟩,
  ⟨(some 19), .load false 1 (.t 18), none⟩,
  ⟨(some 20), .bin .eql (.t 19) (.k (D.int .i64 (1))), none⟩,
  ⟨(some 21), .mv (.t 20), none⟩,
  ⟨(some 22), .mv (.t 4), (some (21, true))⟩,
  ⟨(some 23), .bin .add (.t 22) (.k (D.int .i64 (1))), (some (21, true))⟩,
  ⟨(some 24), .mv (.t 0), (some (21, true))⟩,
  ⟨(some 25), .len (.t 24), (some (21, true))⟩,
  ⟨(some 26), .bin .eql (.t 23) (.t 25), (some (21, true))⟩,
  ⟨(some 27), .mv (.t 26), (some (21, true))⟩,
  ⟨(some 28), .mv (.t 0), (some (27, false))⟩,
  ⟨(some 29), .mv (.t 4), (some (27, false))⟩,
  ⟨(some 30), .bin .add (.t 29) (.k (D.int .i64 (1))), (some (27, false))⟩,
  ⟨(some 31), .ixs 5 (.t 28) (.t 30), (some (27, false))⟩,
  ⟨(some 32), .fad 1 (.t 31), (some (27, false))⟩,
  ⟨(some 33), .load false 1 (.t 32), (some (27, false))⟩,
  ⟨(some 34), .bin .neq (.t 33) (.k (D.int .i64 (2))), (some (27, false))⟩,
  ⟨(some 35), .pick (.t 27) (.k (D.bool true)) (.t 34), (some (21, true))⟩,
  ⟨(some 36), .pick (.t 21) (.t 35) (.k (D.bool false)), none⟩,
  ⟨(some 6), .mv (.t 36), none⟩])
 (.seq (.reg [⟨(some 37), .fad 1 (.t 5), none⟩,
  ⟨(some 38), .load false 1 (.t 37), none⟩,
  ⟨(some 39), .bin .eql (.t 38) (.k (D.int .i64 (2))), none⟩,
  ⟨(some 40), .mv (.t 39), none⟩,
  ⟨(some 41), .mv (.t 4), (some (40, true))⟩,
  ⟨(some 42), .bin .eql (.t 41) (.k (D.int .i64 (0))), (some (40, true))⟩,
  ⟨(some 43), .mv (.t 42), (some (40, true))⟩,
  ⟨(some 44), .mv (.t 0), (some (43, false))⟩,
  ⟨(some 45), .mv (.t 4), (some (43, false))⟩,
  ⟨(some 46), .bin .sub (.t 45) (.k (D.int .i64 (1))), (some (43, false))⟩,
  ⟨(some 47), .ixs 5 (.t 44) (.t 46), (some (43, false))⟩,
  ⟨(some 48), .fad 1 (.t 47), (some (43, false))⟩,
  ⟨(some 49), .load false 1 (.t 48), (some (43, false))⟩,
  ⟨(some 50), .bin .neq (.t 49) (.k (D.int .i64 (1))), (some (43, false))⟩,
  ⟨(some 51), .pick (.t 43) (.k (D.bool true)) (.t 50), (some (40, true))⟩,
  ⟨(some 52), .pick (.t 40) (.t 51) (.k (D.bool false)), none⟩,
  ⟨(some 7), .mv (.t 52), none⟩])
 (.seq (.reg [⟨(some 53), .mv (.t 6), none⟩,
  ⟨(some 54), .mv (.t 53), none⟩,
  ⟨(some 55), .mv (.t 7), (some (54, false))⟩,
  ⟨(some 56), .pick (.t 54) (.k (D.bool true)) (.t 55), none⟩])
 (.cond (.t 56)
 (.reg [⟨(some 57), .mv (.t 3), none⟩,
  ⟨(some 58), .mv (.t 4), none⟩,
  ⟨(some 59), .fad 2 (.t 5), none⟩,
  ⟨(some 60), .load true 3 (.t 59), none⟩,
  ⟨(some 61), .call false 283 [(.t 60)], none⟩,
  ⟨(some 62), .ixs 5 (.t 57) (.t 58), none⟩,
  ⟨none, .store 5 (.t 62) (.t 61), none⟩])
 .skip))))))
 (.reg [⟨(some 63), .bin .add (.t 13) (.k (D.int .i64 (1))), none⟩,
  ⟨(some 13), .mv (.t 63), none⟩])))))))
 (.seq (.reg [⟨(some 64), .mv (.t 3), none⟩,
  ⟨(some 2), .mv (.t 64), none⟩])
 .ret))))⟩
def a298 : Ann := ⟨[(6, [(1, ⟨false, 0, false⟩), (3, ⟨false, 0, false⟩), (12, ⟨false, 0, false⟩), (5, ⟨true, 0, false⟩), (9, ⟨true, 0, false⟩), (10, ⟨true, 0, false⟩), (11, ⟨true, 5, false⟩)])], [⟨false, 0, false⟩], []⟩
def s298 : SFun := ⟨5, 49, [], [(.cell 10 true 3, ⟨false, 0, false⟩)],
 (.seq (.reg [⟨(some 5), .box 3 (.t 0), none⟩,
  ⟨(some 9), .box 3 (.t 4), none⟩,
  ⟨(some 10), .alloc [(D.int .i64 (0)), (D.int .i64 (0)), .sn], none⟩])
 (.seq (.seq (.reg [⟨(some 13), .mv (.t 1), none⟩,
  ⟨(some 14), .bin .lss (.t 13) (.k (D.int .i64 (0))), none⟩,
  ⟨(some 15), .mv (.t 14), none⟩,
  ⟨(some 16), .mv (.t 1), (some (15, false))⟩,
  ⟨(some 17), .fad 0 (.t 5), (some (15, false))⟩,
  ⟨(some 18), .load false 1 (.t 17), (some (15, false))⟩,
  ⟨(some 19), .bin .geq (.t 16) (.t 18), (some (15, false))⟩,
  ⟨(some 20), .pick (.t 15) (.k (D.bool true)) (.t 19), none⟩])
 (.cond (.t 20)
 (.seq (.reg [⟨(some 21), .load true 3 (.t 5), none⟩,
  ⟨none, .store 3 (.t 10) (.t 21), none⟩])
 .ret)
 .skip))
 (.seq (.dreg [([], false, ⟨(some 22), .mv (.t 2), none⟩),
  ([], false, ⟨(some 23), .mx [(.t 22), (.k (D.int .i64 (0)))], none⟩),
  ([0, 1], false, ⟨(some 24), .mv (.t 3), none⟩),
  ([0, 1, 2], false, ⟨(some 25), .fad 1 (.t 5), none⟩),
  ([0, 1, 2], false, ⟨(some 26), .load false 1 (.t 25), none⟩),
  ([0, 1], false, ⟨(some 27), .mn [(.t 24), (.t 26)], none⟩),
  ([2, 3, 4, 5], false, ⟨(some 2), .mv (.t 23), none⟩),
  ([], true, ⟨(some 3), .mv (.t 27), none⟩)])
 (.seq (.reg [⟨(some 28), .bsl true 5 0 [(D.int .i32 (0)), (D.int .i64 (0)), (D.int .i64 (0)), (D.int .i64 (0)), (D.int .i64 (0))] [], none⟩,
  ⟨(some 29), .load true 3 (.t 5), none⟩,
  ⟨(some 30), .mv (.t 1), none⟩,
  ⟨(some 31), .call false 313 [(.t 29), (.t 30)], none⟩,
  ⟨(some 32), .append 5 40 (.t 28) (.t 31), none⟩,
  ⟨(some 11), .mv (.t 32), none⟩])
 (.seq (.seq (.reg [⟨(some 33), .mv (.t 2), none⟩,
  ⟨(some 12), .mv (.t 33), none⟩])
 (.block 0 (.loop [(1, ⟨false, 0, false⟩), (3, ⟨false, 0, false⟩), (12, ⟨false, 0, false⟩), (5, ⟨true, 0, false⟩), (9, ⟨true, 0, false⟩), (10, ⟨true, 0, false⟩), (11, ⟨true, 5, false⟩)]
 (.seq (.seq (.reg [⟨(some 34), .mv (.t 12), none⟩,
  ⟨(some 35), .mv (.t 3), none⟩,
  ⟨(some 36), .bin .lss (.t 34) (.t 35), none⟩])
 (.cond (.t 36)
 .skip
 (.exit 0)))
 (.seq (.block 1 (.reg [⟨(some 39), .mv (.t 11), none⟩,
  ⟨(some 40), .mv (.t 12), none⟩,
  ⟨(some 41), .load true 3 (.t 9), none⟩,
  ⟨(some 42), .call false 283 [(.t 41)], none⟩,
  ⟨(some 43), .ixs 5 (.t 39) (.t 40), none⟩,
  ⟨none, .store 5 (.t 43) (.t 42), none⟩]))
 (.reg [⟨(some 37), .mv (.t 12), none⟩,
  ⟨(some 38), .bin .add (.t 37) (.k (D.int .i64 (1))), none⟩,
  ⟨(some 12), .mv (.t 38), none⟩]))))))
 (.seq (.dreg [([], false, ⟨(some 44), .load true 3 (.t 5), none⟩),
  ([0], false, ⟨(some 45), .mv (.t 1), none⟩),
  ([0, 1], false, ⟨(some 46), .mv (.t 11), none⟩),
  ([0, 1], false, ⟨(some 47), .callr 287 [(.t 46)], none⟩),
  ([], true, ⟨(some 48), .call false 315 [(.t 44), (.t 45), (.t 47)], none⟩),
  ([], true, ⟨none, .store 3 (.t 10) (.t 48), none⟩)])
 .ret))))))⟩
def a303 : Ann := ⟨[(2, [(1, ⟨false, 0, false⟩), (2, ⟨false, 0, false⟩), (3, ⟨false, 0, false⟩), (4, ⟨false, 0, false⟩), (17, ⟨false, 0, false⟩), (18, ⟨false, 0, false⟩), (6, ⟨true, 0, false⟩), (11, ⟨true, 0, false⟩), (12, ⟨true, 0, false⟩)])], [⟨false, 0, false⟩], []⟩
def s303 : SFun := ⟨6, 80, [], [(.cell 12 true 3, ⟨false, 0, false⟩)],
 (.seq (.reg [⟨(some 6), .box 3 (.t 0), none⟩,
  ⟨(some 11), .box 3 (.t 5), none⟩,
  ⟨(some 12), .alloc [(D.int .i64 (0)), (D.int .i64 (0)), .sn], none⟩])
 (.seq (.seq (.reg [⟨(some 16), .fad 0 (.t 6), none⟩,
  ⟨(some 17), .load false 1 (.t 16), none⟩,
  ⟨(some 18), .mv (.k (D.int .i64 (0))), none⟩])
 (.block 0 (.loop [(1, ⟨false, 0, false⟩), (2, ⟨false, 0, false⟩), (3, ⟨false, 0, false⟩), (4, ⟨false, 0, false⟩), (17, ⟨false, 0, false⟩), (18, ⟨false, 0, false⟩), (6, ⟨true, 0, false⟩), (11, ⟨true, 0, false⟩), (12, ⟨true, 0, false⟩)]
 (.seq (.reg [⟨(some 19), .bin .lss (.t 18) (.t 17), none⟩])
 (.seq (.cond (.t 19)
 .skip
 (.exit 0))
 (.seq (.block 1 (.seq (.reg [⟨(some 20), .mv (.t 18), none⟩,
  ⟨(some 13), .mv (.t 20), none⟩])
 (.seq (.dreg [([], false, ⟨(some 21), .fad 1 (.t 6), none⟩),
  ([], false, ⟨(some 22), .load false 1 (.t 21), none⟩),
  ([0, 1], false, ⟨(some 14), .mv (.k (D.int .i64 (0))), none⟩),
  ([], true, ⟨(some 15), .mv (.t 22), none⟩)])
 (.seq (.block 2 (.seq (.reg [⟨(some 24), .mv (.t 3), none⟩,
  ⟨(some 25), .bin .gtr (.t 24) (.k (D.int .i64 (2))), none⟩,
  ⟨(some 26), .mv (.t 25), none⟩,
  ⟨(some 27), .mv (.t 4), (some (26, false))⟩,
  ⟨(some 28), .una .not (.t 27), (some (26, false))⟩,
  ⟨(some 29), .mv (.t 28), (some (26, false))⟩,
  ⟨(some 30), .mv (.t 13), (some (29, true))⟩,
  ⟨(some 31), .mv (.t 1), (some (29, true))⟩,
  ⟨(some 32), .bin .neq (.t 30) (.t 31), (some (29, true))⟩,
  ⟨(some 33), .pick (.t 29) (.t 32) (.k (D.bool false)), (some (26, false))⟩,
  ⟨(some 34), .pick (.t 26) (.k (D.bool true)) (.t 33), none⟩,
  ⟨(some 35), .mv (.t 34), none⟩,
  ⟨(some 36), .mv (.t 3), (some (35, false))⟩,
  ⟨(some 37), .bin .eql (.t 36) (.k (D.int .i64 (0))), (some (35, false))⟩,
  ⟨(some 38), .mv (.t 37), (some (35, false))⟩,
  ⟨(some 39), .mv (.t 13), (some (38, true))⟩,
  ⟨(some 40), .mv (.t 1), (some (38, true))⟩,
  ⟨(some 41), .bin .lss (.t 39) (.t 40), (some (38, true))⟩,
  ⟨(some 42), .pick (.t 38) (.t 41) (.k (D.bool false)), (some (35, false))⟩,
  ⟨(some 43), .pick (.t 35) (.k (D.bool true)) (.t 42), none⟩,
  ⟨(some 44), .mv (.t 43), none⟩,
  ⟨(some 45), .mv (.t 3), (some (44, false))⟩,
  ⟨(some 46), .bin .eql (.t 45) (.k (D.int .i64 (1))), (some (44, false))⟩,
  ⟨(some 47), .mv (.t 46), (some (44, false))⟩,
  ⟨(some 48), .mv (.t 13), (some (47, true))⟩,
  ⟨(some 49), .mv (.t 1), (some (47, true))⟩,
  ⟨(some 50), .bin .gtr (.t 48) (.t 49), (some (47, true))⟩,
  ⟨(some 51), .pick (.t 47) (.t 50) (.k (D.bool false)), (some (44, false))⟩,
  ⟨(some 52), .pick (.t 44) (.k (D.bool true)) (.t 51), none⟩,
  ⟨(some 23), .mv (.t 52), none⟩])
 (.cond (.t 23)
 (.reg [⟨(some 15), .mv (.k (D.int .i64 (0))), none⟩])
 (.seq (.reg [⟨(some 54), .mv (.t 3), none⟩,
  ⟨(some 55), .bin .eql (.t 54) (.k (D.int .i64 (0))), none⟩,
  ⟨(some 56), .mv (.t 55), none⟩,
  ⟨(some 57), .mv (.t 13), (some (56, true))⟩,
  ⟨(some 58), .mv (.t 1), (some (56, true))⟩,
  ⟨(some 59), .bin .eql (.t 57) (.t 58), (some (56, true))⟩,
  ⟨(some 60), .pick (.t 56) (.t 59) (.k (D.bool false)), none⟩,
  ⟨(some 53), .mv (.t 60), none⟩])
 (.cond (.t 53)
 (.reg [⟨(some 61), .mv (.t 2), none⟩,
  ⟨(some 14), .mv (.t 61), none⟩])
 (.seq (.reg [⟨(some 63), .mv (.t 3), none⟩,
  ⟨(some 64), .bin .eql (.t 63) (.k (D.int .i64 (1))), none⟩,
  ⟨(some 65), .mv (.t 64), none⟩,
  ⟨(some 66), .mv (.t 13), (some (65, true))⟩,
  ⟨(some 67), .mv (.t 1), (some (65, true))⟩,
  ⟨(some 68), .bin .eql (.t 66) (.t 67), (some (65, true))⟩,
  ⟨(some 69), .pick (.t 65) (.t 68) (.k (D.bool false)), none⟩,
  ⟨(some 62), .mv (.t 69), none⟩])
 (.cond (.t 62)
 (.reg [⟨(some 70), .mv (.t 2), none⟩,
  ⟨(some 71), .bin .add (.t 70) (.k (D.int .i64 (1))), none⟩,
  ⟨(some 15), .mv (.t 71), none⟩])
 .skip)))))))
 (.reg [⟨(some 72), .load true 3 (.t 6), none⟩,
  ⟨(some 73), .mv (.t 13), none⟩,
  ⟨(some 74), .mv (.t 14), none⟩,
  ⟨(some 75), .mv (.t 15), none⟩,
  ⟨(some 76), .load true 3 (.t 11), none⟩,
  ⟨(some 77), .call false 298 [(.t 72), (.t 73), (.t 74), (.t 75), (.t 76)], none⟩,
  ⟨none, .store 3 (.t 6) (.t 77), none⟩])))))
 (.reg [⟨(some 78), .bin .add (.t 18) (.k (D.int .i64 (1))), none⟩,
  ⟨(some 18), .mv (.t 78), none⟩])))))))
 (.seq (.reg [⟨(some 79), .load true 3 (.t 6), none⟩,
  ⟨none, .store 3 (.t 12) (.t 79), none⟩])
 .ret)))⟩
def a295 : Ann := ⟨[(9, [(1, ⟨false, 0, false⟩), (2, ⟨false, 0, false⟩), (3, ⟨false, 0, false⟩), (12, ⟨false, 0, false⟩), (14, ⟨false, 0, false⟩), (5, ⟨true, 0, false⟩), (9, ⟨true, 0, false⟩), (10, ⟨true, 0, false⟩), (13, ⟨true, 5, false⟩)])], [⟨false, 0, false⟩], []⟩
def s295 : SFun := ⟨5, 110, [], [(.cell 10 true 3, ⟨false, 0, false⟩)],
 (.seq (.reg [⟨(some 5), .box 3 (.t 0), none⟩,
  ⟨(some 9), .box 3 (.t 4), none⟩,
  ⟨(some 10), .alloc [(D.int .i64 (0)), (D.int .i64 (0)), .sn], none⟩])
 (.seq (.seq (.reg [⟨(some 16), .mv (.t 1), none⟩,
  ⟨(some 17), .bin .lss (.t 16) (.k (D.int .i64 (0))), none⟩,
  ⟨(some 18), .mv (.t 17), none⟩,
  ⟨(some 19), .mv (.t 1), (some (18, false))⟩,
  ⟨(some 20), .fad 0 (.t 5), (some (18, false))⟩,
  ⟨(some 21), .load false 1 (.t 20), (some (18, false))⟩,
  ⟨(some 22), .bin .geq (.t 19) (.t 21), (some (18, false))⟩,
  ⟨(some 23), .pick (.t 18) (.k (D.bool true)) (.t 22), none⟩,
  ⟨(some 24), .mv (.t 23), none⟩,
  ⟨(some 25), .mv (.t 2), (some (24, false))⟩,
  ⟨(some 26), .bin .lss (.t 25) (.k (D.int .i64 (0))), (some (24, false))⟩,
  ⟨(some 27), .pick (.t 24) (.k (D.bool true)) (.t 26), none⟩,
  ⟨(some 28), .mv (.t 27), none⟩,
  ⟨(some 29), .mv (.t 2), (some (28, false))⟩,
  ⟨(some 30), .fad 1 (.t 5), (some (28, false))⟩,
  ⟨(some 31), .load false 1 (.t 30), (some (28, false))⟩,
  ⟨(some 32), .bin .geq (.t 29) (.t 31), (some (28, false))⟩,
  ⟨(some 33), .pick (.t 28) (.k (D.bool true)) (.t 32), none⟩])
 (.cond (.t 33)
 (.seq (.reg [⟨(some 34), .load true 3 (.t 5), none⟩,
  ⟨none, .store 3 (.t 10) (.t 34), none⟩])
 .ret)
 .skip))
 (.seq (.reg [⟨(some 35), .load true 3 (.t 5), none⟩,
  ⟨(some 36), .mv (.t 1), none⟩,
  ⟨(some 37), .call false 313 [(.t 35), (.t 36)], none⟩,
  ⟨(some 11), .mv (.t 37), none⟩])
 (.seq (.reg [⟨(some 38), .bsl true 5 0 [(D.int .i32 (0)), (D.int .i64 (0)), (D.int .i64 (0)), (D.int .i64 (0)), (D.int .i64 (0))] [], none⟩,
  ⟨(some 39), .mv (.t 11), none⟩,
  ⟨(some 40), .append 5 40 (.t 38) (.t 39), none⟩,
  ⟨(some 12), .mv (.t 40), none⟩])
 (.seq (.seq (.reg [⟨(some 41), .mv (.t 11), none⟩,
  ⟨(some 42), .mv (.t 2), none⟩,
  ⟨(some 43), .ixs 5 (.t 41) (.t 42), none⟩,
  ⟨(some 44), .fad 1 (.t 43), none⟩,
  ⟨(some 45), .load false 1 (.t 44), none⟩,
  ⟨(some 46), .bin .eql (.t 45) (.k (D.int .i64 (2))), none⟩,
  ⟨(some 47), .mv (.t 46), none⟩,
  ⟨(some 48), .mv (.t 2), (some (47, true))⟩,
  ⟨(some 49), .bin .gtr (.t 48) (.k (D.int .i64 (0))), (some (47, true))⟩,
  ⟨(some 50), .pick (.t 47) (.t 49) (.k (D.bool false)), none⟩])
 (.cond (.t 50)
 (.dreg [([], false, ⟨(some 51), .mv (.t 12), none⟩),
  ([0], false, ⟨(some 52), .mv (.t 2), none⟩),
  ([0], false, ⟨(some 53), .bin .sub (.t 52) (.k (D.int .i64 (1))), none⟩),
  ([0, 1, 2], false, ⟨(some 54), .mv (.t 12), none⟩),
  ([0, 1, 2, 3], false, ⟨(some 55), .mv (.t 2), none⟩),
  ([0, 1, 2, 3, 4], false, ⟨(some 56), .mv (.t 11), none⟩),
  ([0, 1, 2, 3, 4, 5], false, ⟨(some 57), .mv (.t 2), none⟩),
  ([0, 1, 2, 3, 4, 5], false, ⟨(some 58), .bin .sub (.t 57) (.k (D.int .i64 (1))), none⟩),
  ([0, 1, 2, 3, 4], false, ⟨(some 59), .ixs 5 (.t 56) (.t 58), none⟩),
  ([0, 1, 2, 3, 4], false, ⟨(some 60), .fad 2 (.t 59), none⟩),
  ([0, 1, 2, 3, 4], false, ⟨(some 61), .load true 3 (.t 60), none⟩),
  ([0, 1, 2, 3, 4], false, ⟨(some 62), .call true 283 [(.t 61)], none⟩),
  ([0, 1, 2, 3, 4, 5, 6, 7, 8, 9, 10, 11], false, ⟨(some 63), .mv (.t 11), none⟩),
  ([0, 1, 2, 3, 4, 5, 6, 7, 8, 9, 10, 11, 12], false, ⟨(some 64), .mv (.t 2), none⟩),
  ([0, 1, 2, 3, 4, 5, 6, 7, 8, 9, 10, 11], false, ⟨(some 65), .ixs 5 (.t 63) (.t 64), none⟩),
  ([0, 1, 2, 3, 4, 5, 6, 7, 8, 9, 10, 11], false, ⟨(some 66), .fad 2 (.t 65), none⟩),
  ([0, 1, 2, 3, 4, 5, 6, 7, 8, 9, 10, 11], false, ⟨(some 67), .load true 3 (.t 66), none⟩),
  ([0, 1, 2, 3, 4], false, ⟨(some 68), .call true 283 [(.t 67)], none⟩),
  ([3, 4], false, ⟨(some 69), .ixs 5 (.t 51) (.t 53), none⟩),
  ([3, 4], false, ⟨none, .store 5 (.t 69) (.t 62), none⟩),
  ([], true, ⟨(some 70), .ixs 5 (.t 54) (.t 55), none⟩),
  ([], true, ⟨none, .store 5 (.t 70) (.t 68), none⟩)])
 .skip))
 (.seq (.reg [⟨(some 71), .bsl true 5 0 [(D.int .i32 (0)), (D.int .i64 (0)), (D.int .i64 (0)), (D.int .i64 (0)), (D.int .i64 (0))] [], none⟩,
  ⟨(some 72), .mv (.t 12), none⟩,
  ⟨(some 73), .append 5 40 (.t 71) (.t 72), none⟩,
  ⟨(some 13), .mv (.t 73), none⟩])
 (.seq (.seq (.reg [⟨(some 74), .mv (.t 2), none⟩,
  ⟨(some 14), .mv (.t 74), none⟩])
 (.block 0 (.loop [(1, ⟨false, 0, false⟩), (2, ⟨false, 0, false⟩), (3, ⟨false, 0, false⟩), (12, ⟨false, 0, false⟩), (14, ⟨false, 0, false⟩), (5, ⟨true, 0, false⟩), (9, ⟨true, 0, false⟩), (10, ⟨true, 0, false⟩), (13, ⟨true, 5, false⟩)]
 (.seq (.seq (.reg [⟨(some 75), .mv (.t 14), none⟩,
  ⟨(some 76), .fad 1 (.t 5), none⟩,
  ⟨(some 77), .load false 1 (.t 76), none⟩,
  ⟨(some 78), .bin .lss (.t 75) (.t 77), none⟩])
 (.cond (.t 78)
 .skip
 (.exit 0)))
 (.seq (.block 1 (.seq (.reg [⟨(some 81), .mv (.t 14), none⟩,
  ⟨(some 82), .mv (.t 3), none⟩,
  ⟨(some 83), .bin .sub (.t 81) (.t 82), none⟩,
  ⟨(some 15), .mv (.t 83), none⟩])
 (.seq (.reg [⟨(some 84), .mv (.t 13), none⟩,
  ⟨(some 85), .mv (.t 14), none⟩,
  ⟨(some 86), .load true 3 (.t 9), none⟩,
  ⟨(some 87), .call false 283 [(.t 86)], none⟩,
  ⟨(some 88), .ixs 5 (.t 84) (.t 85), none⟩,
  ⟨none, .store 5 (.t 88) (.t 87), none⟩])
 (.seq (.reg [⟨(some 89), .mv (.t 15), none⟩,
  ⟨(some 90), .mv (.t 2), none⟩,
  ⟨(some 91), .bin .geq (.t 89) (.t 90), none⟩,
  ⟨(some 92), .mv (.t 91), none⟩,
  ⟨(some 93), .mv (.t 15), (some (92, true))⟩,
  ⟨(some 94), .fad 1 (.t 5), (some (92, true))⟩,
  ⟨(some 95), .load false 1 (.t 94), (some (92, true))⟩,
  ⟨(some 96), .bin .lss (.t 93) (.t 95), (some (92, true))⟩,
  ⟨(some 97), .pick (.t 92) (.t 96) (.k (D.bool false)), none⟩])
 (.cond (.t 97)
 (.reg [⟨(some 98), .mv (.t 13), none⟩,
  ⟨(some 99), .mv (.t 14), none⟩,
  ⟨(some 100), .mv (.t 12), none⟩,
  ⟨(some 101), .mv (.t 15), none⟩,
  ⟨(some 102), .ixs 5 (.t 100) (.t 101), none⟩,
  ⟨(some 103), .load true 5 (.t 102), none⟩,
  ⟨(some 104), .ixs 5 (.t 98) (.t 99), none⟩,
  ⟨none, .store 5 (.t 104) (.t 103), none⟩])
 .skip)))))
 (.reg [⟨(some 79), .mv (.t 14), none⟩,
  ⟨(some 80), .bin .add (.t 79) (.k (D.int .i64 (1))), none⟩,
  ⟨(some 14), .mv (.t 80), none⟩]))))))
 (.seq (.dreg [([], false, ⟨(some 105), .load true 3 (.t 5), none⟩),
  ([0], false, ⟨(some 106), .mv (.t 1), none⟩),
  ([0, 1], false, ⟨(some 107), .mv (.t 13), none⟩),
  ([0, 1], false, ⟨(some 108), .callr 287 [(.t 107)], none⟩),
  ([], true, ⟨(some 109), .call false 315 [(.t 105), (.t 106), (.t 108)], none⟩),
  ([], true, ⟨none, .store 3 (.t 10) (.t 109), none⟩)])
 .ret))))))))⟩
def a299 : Ann := ⟨[], [⟨false, 0, false⟩], []⟩
def s299 : SFun := ⟨2, 14, [], [(.tmp 4, ⟨false, 0, false⟩)],
 (.seq (.reg [⟨(some 4), .mv (.k (D.int .i64 (0))), none⟩])
 (.seq (.seq (.reg [⟨(some 5), .mv (.t 1), none⟩,
  ⟨(some 6), .mv (.t 0), none⟩,
  ⟨(some 7), .len (.t 6), none⟩,
  ⟨(some 8), .bin .lss (.t 5) (.t 7), none⟩])
 (.cond (.t 8)
 (.seq (.reg [⟨(some 9), .mv (.t 0), none⟩,
  ⟨(some 10), .mv (.t 1), none⟩,
  ⟨(some 11), .ixs 1 (.t 9) (.t 10), none⟩,
  ⟨(some 12), .load false 1 (.t 11), none⟩,
  ⟨(some 13), .mx [(.t 12), (.k (D.int .i64 (0)))], none⟩,
  ⟨(some 4), .mv (.t 13), none⟩])
 .ret)
 .skip))
 (.seq (.reg [⟨(some 4), .mv (.k (D.int .i64 (0))), none⟩])
 .ret)))⟩
def a316 : Ann := ⟨[], [⟨false, 0, false⟩, ⟨false, 0, false⟩], []⟩
def s316 : SFun := ⟨1, 55, [], [(.tmp 2, ⟨false, 0, false⟩), (.tmp 3, ⟨false, 0, false⟩)],
 (.seq (.reg [⟨(some 2), .mv (.k (D.int .i64 (0))), none⟩,
  ⟨(some 3), .mv (.k (D.int .i64 (0))), none⟩])
 (.seq (.block 0 (.seq (.reg [⟨(some 5), .mv (.t 0), none⟩,
  ⟨(some 6), .len (.t 5), none⟩,
  ⟨(some 7), .bin .geq (.t 6) (.k (D.int .i64 (2))), none⟩,
  ⟨(some 8), .mv (.t 7), none⟩,
  ⟨(some 9), .mv (.t 0), (some (8, true))⟩,
  ⟨(some 10), .ixs 1 (.t 9) (.k (D.int .i64 (0))), (some (8, true))⟩,
  ⟨(some 11), .load false 1 (.t 10), (some (8, true))⟩,
  ⟨(some 12), .bin .eql (.t 11) (.k (D.int .i64 (5))), (some (8, true))⟩,
  ⟨(some 13), .pick (.t 8) (.t 12) (.k (D.bool false)), none⟩,
  ⟨(some 4), .mv (.t 13), none⟩])
 (.cond (.t 4)
 (.seq (.seq (.reg [⟨(some 14), .mv (.t 0), none⟩,
  ⟨(some 15), .call false 299 [(.t 14), (.k (D.int .i64 (1)))], none⟩,
  ⟨(some 16), .bin .leq (.t 15) (.k (D.int .i64 (255))), none⟩])
 (.cond (.t 16)
 (.seq (.reg [⟨(some 17), .mv (.t 0), none⟩,
  ⟨(some 18), .call false 299 [(.t 17), (.k (D.int .i64 (1)))], none⟩,
  ⟨(some 2), .mv (.t 18), none⟩,
  ⟨(some 3), .mv (.k (D.int .i64 (2))), none⟩])
 .ret)
 .skip))
 (.seq (.reg [⟨(some 2), .mv (.k (D.int .i64 (-2))), none⟩,
  ⟨(some 3), .mv (.k (D.int .i64 (2))), none⟩])
 .ret))
 (.seq (.reg [⟨(some 20), .mv (.t 0), none⟩,
  ⟨(some 21), .len (.t 20), none⟩,
  ⟨(some 22), .bin .geq (.t 21) (.k (D.int .i64 (4))), none⟩,
  ⟨(some 23), .mv (.t 22), none⟩,
  ⟨(some 24), .mv (.t 0), (some (23, true))⟩,
  ⟨(some 25), .ixs 1 (.t 24) (.k (D.int .i64 (0))), (some (23, true))⟩,
  ⟨(some 26), .load false 1 (.t 25), (some (23, true))⟩,
  ⟨(some 27), .bin .eql (.t 26) (.k (D.int .i64 (2))), (some (23, true))⟩,
  ⟨(some 28), .pick (.t 23) (.t 27) (.k (D.bool false)), none⟩,
  ⟨(some 19), .mv (.t 28), none⟩])
 (.cond (.t 19)
 (.seq (.seq (.reg [⟨(some 29), .mv (.t 0), none⟩,
  ⟨(some 30), .call false 299 [(.t 29), (.k (D.int .i64 (1)))], none⟩,
  ⟨(some 31), .bin .leq (.t 30) (.k (D.int .i64 (255))), none⟩,
  ⟨(some 32), .mv (.t 31), none⟩,
  ⟨(some 33), .mv (.t 0), (some (32, true))⟩,
  ⟨(some 34), .call false 299 [(.t 33), (.k (D.int .i64 (2)))], (some (32, true))⟩,
  ⟨(some 35), .bin .leq (.t 34) (.k (D.int .i64 (255))), (some (32, true))⟩,
  ⟨(some 36), .pick (.t 32) (.t 35) (.k (D.bool false)), none⟩,
  ⟨(some 37), .mv (.t 36), none⟩,
  ⟨(some 38), .mv (.t 0), (some (37, true))⟩,
  ⟨(some 39), .call false 299 [(.t 38), (.k (D.int .i64 (3)))], (some (37, true))⟩,
  ⟨(some 40), .bin .leq (.t 39) (.k (D.int .i64 (255))), (some (37, true))⟩,
  ⟨(some 41), .pick (.t 37) (.t 40) (.k (D.bool false)), none⟩])
 (.cond (.t 41)
 (.seq (.reg [⟨(some 42), .mv (.t 0), none⟩,
  ⟨(some 43), .call false 299 [(.t 42), (.k (D.int .i64 (1)))], none⟩,
  ⟨(some 44), .bin .mul (.t 43) (.k (D.int .i64 (65536))), none⟩,
  ⟨(some 45), .bin .add (.k (D.int .i64 (16777216))) (.t 44), none⟩,
  ⟨(some 46), .mv (.t 0), none⟩,
  ⟨(some 47), .call false 299 [(.t 46), (.k (D.int .i64 (2)))], none⟩,
  ⟨(some 48), .bin .mul (.t 47) (.k (D.int .i64 (256))), none⟩,
  ⟨(some 49), .bin .add (.t 45) (.t 48), none⟩,
  ⟨(some 50), .mv (.t 0), none⟩,
  ⟨(some 51), .call false 299 [(.t 50), (.k (D.int .i64 (3)))], none⟩,
  ⟨(some 52), .bin .add (.t 49) (.t 51), none⟩,
  ⟨(some 2), .mv (.t 52), none⟩,
  ⟨(some 3), .mv (.k (D.int .i64 (4))), none⟩])
 .ret)
 .skip))
 (.seq (.reg [⟨(some 2), .mv (.k (D.int .i64 (-2))), none⟩,
  ⟨(some 3), .mv (.k (D.int .i64 (4))), none⟩])
 .ret))
 .skip)))))
 (.seq (.reg [⟨(some 53), .mv (.t 0), none⟩,
  ⟨(some 54), .len (.t 53), none⟩,
  ⟨(some 2), .mv (.k (D.int .i64 (-2))), none⟩,
  ⟨(some 3), .mv (.t 54), none⟩])
 .ret)))⟩
def a281 : Ann := ⟨[(5, [(1, ⟨false, 0, false⟩), (5, ⟨false, 0, false⟩), (6, ⟨false, 0, false⟩), (2, ⟨true, 0, false⟩), (4, ⟨true, 0, false⟩)])], [⟨false, 0, false⟩], []⟩
def s281 : SFun := ⟨2, 144, [], [(.cell 4 true 3, ⟨false, 0, false⟩)],
 (.seq (.reg [⟨(some 2), .box 3 (.t 0), none⟩,
  ⟨(some 4), .alloc [(D.int .i64 (0)), (D.int .i64 (0)), (D.int .i64 (0))], none⟩])
 (.seq (.seq (.reg [⟨(some 10), .mv (.t 1), none⟩,
  ⟨(some 11), .len (.t 10), none⟩,
  ⟨(some 12), .bin .eql (.t 11) (.k (D.int .i64 (0))), none⟩])
 (.cond (.t 12)
 (.seq (.reg [⟨(some 13), .call false 290 [], none⟩,
  ⟨none, .store 3 (.t 4) (.t 13), none⟩])
 .ret)
 .skip))
 (.seq (.reg [⟨(some 14), .bsl true 1 9 [(D.int .i64 (0))] [(0, (.k (D.int .i64 (1)))), (1, (.k (D.int .i64 (2)))), (2, (.k (D.int .i64 (4)))), (3, (.k (D.int .i64 (8)))), (4, (.k (D.int .i64 (16)))), (5, (.k (D.int .i64 (0)))), (6, (.k (D.int .i64 (32)))), (7, (.k (D.int .i64 (64)))), (8, (.k (D.int .i64 (128))))], none⟩,
  ⟨(some 5), .mv (.t 14), none⟩])
 (.seq (.seq (.reg [⟨(some 6), .mv (.k (D.int .i64 (0))), none⟩])
 (.block 0 (.loop [(1, ⟨false, 0, false⟩), (5, ⟨false, 0, false⟩), (6, ⟨false, 0, false⟩), (2, ⟨true, 0, false⟩), (4, ⟨true, 0, false⟩)]
 (.seq (.seq (.reg [⟨(some 15), .mv (.t 6), none⟩,
  ⟨(some 16), .mv (.t 1), none⟩,
  ⟨(some 17), .len (.t 16), none⟩,
  ⟨(some 18), .bin .lss (.t 15) (.t 17), none⟩])
 (.cond (.t 18)
 .skip
 (.exit 0)))
 (.seq (.block 1 (.seq (.reg [⟨(some 21), .mv (.t 1), none⟩,
  ⟨(some 22), .mv (.t 6), none⟩,
  ⟨(some 23), .ixs 1 (.t 21) (.t 22), none⟩,
  ⟨(some 24), .load false 1 (.t 23), none⟩,
  ⟨(some 25), .mx [(.t 24), (.k (D.int .i64 (0)))], none⟩,
  ⟨(some 7), .mv (.t 25), none⟩])
 (.block 2 (.seq (.reg [⟨(some 27), .mv (.t 7), none⟩,
  ⟨(some 28), .bin .eql (.t 27) (.k (D.int .i64 (0))), none⟩,
  ⟨(some 26), .mv (.t 28), none⟩])
 (.cond (.t 26)
 (.reg [⟨(some 29), .call false 290 [], none⟩,
  ⟨none, .store 3 (.t 2) (.t 29), none⟩])
 (.seq (.reg [⟨(some 31), .mv (.t 7), none⟩,
  ⟨(some 32), .bin .leq (.t 31) (.k (D.int .i64 (9))), none⟩,
  ⟨(some 30), .mv (.t 32), none⟩])
 (.cond (.t 30)
 (.dreg [([], false, ⟨(some 33), .fad 2 (.t 2), none⟩),
  ([], false, ⟨(some 34), .load false 1 (.t 33), none⟩),
  ([0, 1], false, ⟨(some 35), .mv (.t 5), none⟩),
  ([0, 1, 2], false, ⟨(some 36), .mv (.t 7), none⟩),
  ([0, 1, 2], false, ⟨(some 37), .bin .sub (.t 36) (.k (D.int .i64 (1))), none⟩),
  ([0, 1], false, ⟨(some 38), .ixs 1 (.t 35) (.t 37), none⟩),
  ([0, 1], false, ⟨(some 39), .load false 1 (.t 38), none⟩),
  ([], true, ⟨(some 40), .bin .or (.t 34) (.t 39), none⟩),
  ([], true, ⟨(some 41), .fad 2 (.t 2), none⟩),
  ([], true, ⟨none, .store 1 (.t 41) (.t 40), none⟩)])
 (.seq (.reg [⟨(some 43), .mv (.t 7), none⟩,
  ⟨(some 44), .bin .eql (.t 43) (.k (D.int .i64 (22))), none⟩,
  ⟨(some 42), .mv (.t 44), none⟩])
 (.cond (.t 42)
 (.reg [⟨(some 45), .fad 2 (.t 2), none⟩,
  ⟨(some 46), .load false 1 (.t 45), none⟩,
  ⟨(some 47), .bin .andNot (.t 46) (.k (D.int .i64 (3))), none⟩,
  ⟨(some 48), .fad 2 (.t 2), none⟩,
  ⟨none, .store 1 (.t 48) (.t 47), none⟩])
 (.seq (.reg [⟨(some 50), .mv (.t 7), none⟩,
  ⟨(some 51), .bin .geq (.t 50) (.k (D.int .i64 (23))), none⟩,
  ⟨(some 52), .mv (.t 51), none⟩,
  ⟨(some 53), .mv (.t 7), (some (52, true))⟩,
  ⟨(some 54), .bin .leq (.t 53) (.k (D.int .i64 (29))), (some (52, true))⟩,
  ⟨(some 55), .pick (.t 52) (.t 54) (.k (D.bool false)), none⟩,
  ⟨(some 49), .mv (.t 55), none⟩])
 (.cond (.t 49)
 (.dreg [([], false, ⟨(some 56), .fad 2 (.t 2), none⟩),
  ([], false, ⟨(some 57), .load false 1 (.t 56), none⟩),
  ([0, 1], false, ⟨(some 58), .mv (.t 5), none⟩),
  ([0, 1, 2], false, ⟨(some 59), .mv (.t 7), none⟩),
  ([0, 1, 2], false, ⟨(some 60), .bin .sub (.t 59) (.k (D.int .i64 (21))), none⟩),
  ([0, 1], false, ⟨(some 61), .ixs 1 (.t 58) (.t 60), none⟩),
  ([0, 1], false, ⟨(some 62), .load false 1 (.t 61), none⟩),
  ([], true, ⟨(some 63), .bin .andNot (.t 57) (.t 62), none⟩),
  ([], true, ⟨(some 64), .fad 2 (.t 2), none⟩),
  ([], true, ⟨none, .store 1 (.t 64) (.t 63), none⟩)])
 (.seq (.reg [⟨(some 66), .mv (.t 7), none⟩,
  ⟨(some 67), .bin .geq (.t 66) (.k (D.int .i64 (30))), none⟩,
  ⟨(some 68), .mv (.t 67), none⟩,
  ⟨(some 69), .mv (.t 7), (some (68, true))⟩,
  ⟨(some 70), .bin .leq (.t 69) (.k (D.int .i64 (37))), (some (68, true))⟩,
  ⟨(some 71), .pick (.t 68) (.t 70) (.k (D.bool false)), none⟩,
  ⟨(some 65), .mv (.t 71), none⟩])
 (.cond (.t 65)
 (.reg [⟨(some 72), .mv (.t 7), none⟩,
  ⟨(some 73), .bin .sub (.t 72) (.k (D.int .i64 (30))), none⟩,
  ⟨(some 74), .fad 0 (.t 2), none⟩,
  ⟨none, .store 1 (.t 74) (.t 73), none⟩])
 (.seq (.reg [⟨(some 76), .mv (.t 7), none⟩,
  ⟨(some 77), .bin .geq (.t 76) (.k (D.int .i64 (40))), none⟩,
  ⟨(some 78), .mv (.t 77), none⟩,
  ⟨(some 79), .mv (.t 7), (some (78, true))⟩,
  ⟨(some 80), .bin .leq (.t 79) (.k (D.int .i64 (47))), (some (78, true))⟩,
  ⟨(some 81), .pick (.t 78) (.t 80) (.k (D.bool false)), none⟩,
  ⟨(some 75), .mv (.t 81), none⟩])
 (.cond (.t 75)
 (.reg [⟨(some 82), .mv (.t 7), none⟩,
  ⟨(some 83), .bin .sub (.t 82) (.k (D.int .i64 (40))), none⟩,
  ⟨(some 84), .fad 1 (.t 2), none⟩,
  ⟨none, .store 1 (.t 84) (.t 83), none⟩])
 (.seq (.reg [⟨(some 86), .mv (.t 7), none⟩,
  ⟨(some 87), .bin .geq (.t 86) (.k (D.int .i64 (90))), none⟩,
  ⟨(some 88), .mv (.t 87), none⟩,
  ⟨(some 89), .mv (.t 7), (some (88, true))⟩,
  ⟨(some 90), .bin .leq (.t 89) (.k (D.int .i64 (97))), (some (88, true))⟩,
  ⟨(some 91), .pick (.t 88) (.t 90) (.k (D.bool false)), none⟩,
  ⟨(some 85), .mv (.t 91), none⟩])
 (.cond (.t 85)
 (.reg [⟨(some 92), .mv (.t 7), none⟩,
  ⟨(some 93), .bin .sub (.t 92) (.k (D.int .i64 (82))), none⟩,
  ⟨(some 94), .fad 0 (.t 2), none⟩,
  ⟨none, .store 1 (.t 94) (.t 93), none⟩])
 (.seq (.reg [⟨(some 96), .mv (.t 7), none⟩,
  ⟨(some 97), .bin .geq (.t 96) (.k (D.int .i64 (100))), none⟩,
  ⟨(some 98), .mv (.t 97), none⟩,
  ⟨(some 99), .mv (.t 7), (some (98, true))⟩,
  ⟨(some 100), .bin .leq (.t 99) (.k (D.int .i64 (107))), (some (98, true))⟩,
  ⟨(some 101), .pick (.t 98) (.t 100) (.k (D.bool false)), none⟩,
  ⟨(some 95), .mv (.t 101), none⟩])
 (.cond (.t 95)
 (.reg [⟨(some 102), .mv (.t 7), none⟩,
  ⟨(some 103), .bin .sub (.t 102) (.k (D.int .i64 (92))), none⟩,
  ⟨(some 104), .fad 1 (.t 2), none⟩,
  ⟨none, .store 1 (.t 104) (.t 103), none⟩])
 (.seq (.reg [⟨(some 106), .mv (.t 7), none⟩,
  ⟨(some 107), .bin .eql (.t 106) (.k (D.int .i64 (39))), none⟩,
  ⟨(some 105), .mv (.t 107), none⟩])
 (.cond (.t 105)
 (.reg [⟨(some 108), .fad 0 (.t 2), none⟩,
  ⟨none, .store 1 (.t 108) (.k (D.int .i64 (-1))), none⟩])
 (.seq (.reg [⟨(some 110), .mv (.t 7), none⟩,
  ⟨(some 111), .bin .eql (.t 110) (.k (D.int .i64 (49))), none⟩,
  ⟨(some 109), .mv (.t 111), none⟩])
 (.cond (.t 109)
 (.reg [⟨(some 112), .fad 1 (.t 2), none⟩,
  ⟨none, .store 1 (.t 112) (.k (D.int .i64 (-1))), none⟩])
 (.seq (.reg [⟨(some 114), .mv (.t 7), none⟩,
  ⟨(some 115), .bin .eql (.t 114) (.k (D.int .i64 (38))), none⟩,
  ⟨(some 116), .mv (.t 115), none⟩,
  ⟨(some 117), .mv (.t 7), (some (116, false))⟩,
  ⟨(some 118), .bin .eql (.t 117) (.k (D.int .i64 (48))), (some (116, false))⟩,
  ⟨(some 119), .pick (.t 116) (.k (D.bool true)) (.t 118), none⟩,
  ⟨(some 113), .mv (.t 119), none⟩])
 (.cond (.t 113)
 (.seq (.reg [⟨(some 121), .mv (.t 1), none⟩,
  ⟨(some 122), .mv (.t 6), none⟩,
  ⟨(some 123), .bin .add (.t 122) (.k (D.int .i64 (1))), none⟩,
  ⟨(some 124), .slc 1 (.t 121) (some (.t 123)) none, none⟩,
  ⟨(some 125), .call false 316 [(.t 124)], none⟩,
  ⟨(some 120), .mv (.t 125), none⟩,
  ⟨(some 126), .ext (.t 120) 0, none⟩,
  ⟨(some 127), .ext (.t 120) 1, none⟩,
  ⟨(some 8), .mv (.t 126), none⟩,
  ⟨(some 9), .mv (.t 127), none⟩])
 (.seq (.reg [⟨(some 128), .mv (.t 6), none⟩,
  ⟨(some 129), .mv (.t 9), none⟩,
  ⟨(some 130), .bin .add (.t 128) (.t 129), none⟩,
  ⟨(some 6), .mv (.t 130), none⟩])
 (.seq (.reg [⟨(some 131), .mv (.t 8), none⟩,
  ⟨(some 132), .bin .neq (.t 131) (.k (D.int .i64 (-2))), none⟩,
  ⟨(some 133), .mv (.t 132), none⟩,
  ⟨(some 134), .mv (.t 7), (some (133, true))⟩,
  ⟨(some 135), .bin .eql (.t 134) (.k (D.int .i64 (38))), (some (133, true))⟩,
  ⟨(some 136), .pick (.t 133) (.t 135) (.k (D.bool false)), none⟩])
 (.cond (.t 136)
 (.reg [⟨(some 137), .mv (.t 8), none⟩,
  ⟨(some 138), .fad 0 (.t 2), none⟩,
  ⟨none, .store 1 (.t 138) (.t 137), none⟩])
 (.seq (.reg [⟨(some 139), .mv (.t 8), none⟩,
  ⟨(some 140), .bin .neq (.t 139) (.k (D.int .i64 (-2))), none⟩])
 (.cond (.t 140)
 (.reg [⟨(some 141), .mv (.t 8), none⟩,
  ⟨(some 142), .fad 1 (.t 2), none⟩,
  ⟨none, .store 1 (.t 142) (.t 141), none⟩])
 .skip))))))
 .skip)))))))))))))))))))))))))
 (.reg [⟨(some 19), .mv (.t 6), none⟩,
  ⟨(some 20), .bin .add (.t 19) (.k (D.int .i64 (1))), none⟩,
  ⟨(some 6), .mv (.t 20), none⟩]))))))
 (.seq (.reg [⟨(some 143), .load true 3 (.t 2), none⟩,
  ⟨none, .store 3 (.t 4) (.t 143), none⟩])
 .ret)))))⟩
def a302 : Ann := ⟨[(5, [(33, ⟨false, 0, false⟩), (34, ⟨false, 0, false⟩), (35, ⟨false, 0, false⟩), (2, ⟨true, 0, false⟩), (3, ⟨true, 0, false⟩), (4, ⟨true, 0, false⟩)])], [⟨false, 0, false⟩], []⟩
def s302 : SFun := ⟨2, 269, [], [(.cell 4 true 29, ⟨false, 0, false⟩)],
 (.seq (.reg [⟨(some 2), .box 29 (.t 0), none⟩,
  ⟨(some 3), .box 7 (.t 1), none⟩,
  ⟨(some 4), .alloc [(D.int .i64 (0)), (D.int .i64 (0)), .sn, (D.int .i64 (0)), (D.int .i64 (0)), (D.bool false), (D.int .i64 (0)), (D.int .i64 (0)), (D.int .i64 (0)), (D.int .i64 (0)), (D.int .i64 (0)), (D.int .u64 (0)), (D.int .u8 (0)), (D.int .u8 (0)), (D.int .i64 (0)), (D.bool false), (D.bool false), (D.bool false), (D.bool false), (D.bool false), (D.int .i64 (0)), (D.int .i64 (0)), (D.int .i64 (0)), (D.int .i64 (0)), (D.int .i64 (0)), (D.int .u8 (0)), (D.int .u8 (0)), (D.int .i64 (0)), (D.bool false)], none⟩])
 (.seq (.seq (.reg [⟨(some 15), .fad 3 (.t 3), none⟩,
  ⟨(some 16), .load false 1 (.t 15), none⟩,
  ⟨(some 17), .bin .neq (.t 16) (.k (D.int .u8 (0))), none⟩,
  ⟨(some 18), .mv (.t 17), none⟩,
  ⟨(some 19), .fad 2 (.t 3), (some (18, false))⟩,
  ⟨(some 20), .load false 1 (.t 19), (some (18, false))⟩,
  ⟨(some 21), .bin .neq (.t 20) (.k (D.int .u8 (0))), (some (18, false))⟩,
  ⟨(some 22), .mv (.t 21), (some (18, false))⟩,
  ⟨(some 23), .fad 2 (.t 3), (some (22, true))⟩,
  ⟨(some 24), .load false 1 (.t 23), (some (22, true))⟩,
  ⟨(some 25), .bin .neq (.t 24) (.k (D.int .u8 (63))), (some (22, true))⟩,
  ⟨(some 26), .pick (.t 22) (.t 25) (.k (D.bool false)), (some (18, false))⟩,
  ⟨(some 27), .pick (.t 18) (.k (D.bool true)) (.t 26), none⟩])
 (.cond (.t 27)
 (.seq (.reg [⟨(some 28), .load true 29 (.t 2), none⟩,
  ⟨none, .store 29 (.t 4) (.t 28), none⟩])
 .ret)
 .skip))
 (.seq (.seq (.reg [⟨(some 29), .fad 2 (.t 3), none⟩,
  ⟨(some 30), .load false 1 (.t 29), none⟩,
  ⟨(some 31), .bin .eql (.t 30) (.k (D.int .u8 (63))), none⟩])
 (.cond (.t 31)
 (.seq (.seq (.reg [⟨(some 32), .fad 5 (.t 3), none⟩,
  ⟨(some 33), .load false 1 (.t 32), none⟩,
  ⟨(some 34), .len (.t 33), none⟩,
  ⟨(some 35), .mv (.k (D.int .i64 (0))), none⟩])
 (.block 0 (.loop [(33, ⟨false, 0, false⟩), (34, ⟨false, 0, false⟩), (35, ⟨false, 0, false⟩), (2, ⟨true, 0, false⟩), (3, ⟨true, 0, false⟩), (4, ⟨true, 0, false⟩)]
 (.seq (.reg [⟨(some 36), .bin .lss (.t 35) (.t 34), none⟩])
 (.seq (.cond (.t 36)
 .skip
 (.exit 0))
 (.seq (.block 1 (.seq (.reg [⟨(some 37), .ixs 1 (.t 33) (.t 35), none⟩,
  ⟨(some 38), .load false 1 (.t 37), none⟩,
  ⟨(some 6), .mv (.t 38), none⟩])
 (.seq (.reg [⟨(some 39), .fad 4 (.t 3), none⟩,
  ⟨(some 40), .load false 1 (.t 39), none⟩,
  ⟨(some 41), .bin .eql (.t 40) (.k (D.int .u8 (104))), none⟩,
  ⟨(some 42), .mv (.t 41), none⟩,
  ⟨(some 43), .fad 4 (.t 3), (some (42, false))⟩,
  ⟨(some 44), .load false 1 (.t 43), (some (42, false))⟩,
  ⟨(some 45), .bin .eql (.t 44) (.k (D.int .u8 (108))), (some (42, false))⟩,
  ⟨(some 46), .pick (.t 42) (.k (D.bool true)) (.t 45), none⟩])
 (.cond (.t 46)
 (.reg [⟨(some 47), .load true 29 (.t 2), none⟩,
  ⟨(some 48), .mv (.t 6), none⟩,
  ⟨(some 49), .fad 4 (.t 3), none⟩,
  ⟨(some 50), .load false 1 (.t 49), none⟩,
  ⟨(some 51), .bin .eql (.t 50) (.k (D.int .u8 (104))), none⟩,
  ⟨(some 52), .call false 309 [(.t 47), (.t 48), (.t 51)], none⟩,
  ⟨none, .store 29 (.t 2) (.t 52), none⟩])
 .skip))))
 (.reg [⟨(some 53), .bin .add (.t 35) (.k (D.int .i64 (1))), none⟩,
  ⟨(some 35), .mv (.t 53), none⟩])))))))
 (.seq (.reg [⟨(some 54), .load true 29 (.t 2), none⟩,
  ⟨none, .store 29 (.t 4) (.t 54), none⟩])
 .ret))
 .skip))
 (.seq (.seq (.reg [⟨(some 56), .load true 29 (.t 2), none⟩,
  ⟨(some 57), .load true 7 (.t 3), none⟩,
  ⟨(some 58), .call false 310 [(.t 56), (.t 57)], none⟩,
  ⟨(some 55), .mv (.t 58), none⟩,
  ⟨(some 59), .ext (.t 55) 0, none⟩,
  ⟨(some 60), .ext (.t 55) 1, none⟩,
  ⟨(some 7), .alloc [(D.int .i64 (0)), (D.int .i64 (0)), .sn, (D.int .i64 (0)), (D.int .i64 (0)), (D.bool false), (D.int .i64 (0)), (D.int .i64 (0)), (D.int .i64 (0)), (D.int .i64 (0)), (D.int .i64 (0)), (D.int .u64 (0)), (D.int .u8 (0)), (D.int .u8 (0)), (D.int .i64 (0)), (D.bool false), (D.bool false), (D.bool false), (D.bool false), (D.bool false), (D.int .i64 (0)), (D.int .i64 (0)), (D.int .i64 (0)), (D.int .i64 (0)), (D.int .i64 (0)), (D.int .u8 (0)), (D.int .u8 (0)), (D.int .i64 (0)), (D.bool false)], none⟩,
  ⟨none, .store 29 (.t 7) (.t 59), none⟩,
  ⟨(some 8), .mv (.t 60), none⟩])
 (.seq (.reg [⟨(some 61), .mv (.t 8), none⟩])
 (.cond (.t 61)
 (.seq (.reg [⟨(some 62), .load true 29 (.t 7), none⟩,
  ⟨none, .store 29 (.t 4) (.t 62), none⟩])
 .ret)
 .skip)))
 (.seq (.dreg [([], false, ⟨(some 63), .load true 7 (.t 3), none⟩),
  ([], false, ⟨(some 64), .call true 311 [(.t 63), (.k (D.int .i64 (0))), (.k (D.int .i64 (1)))], none⟩),
  ([0, 1], false, ⟨(some 65), .load true 29 (.t 2), none⟩),
  ([], false, ⟨(some 66), .call true 306 [(.t 65)], none⟩),
  ([0, 1, 2, 3], false, ⟨(some 67), .load true 7 (.t 3), none⟩),
  ([], false, ⟨(some 68), .call true 311 [(.t 67), (.k (D.int .i64 (0))), (.k (D.int .i64 (0)))], none⟩),
  ([0, 1, 2, 3, 4, 5], false, ⟨(some 10), .alloc [(D.int .i64 (0)), (D.int .i64 (0)), (D.int .i64 (0))], none⟩),
  ([], true, ⟨(some 9), .mv (.t 64), none⟩),
  ([], true, ⟨none, .store 3 (.t 10) (.t 66), none⟩),
  ([], true, ⟨(some 11), .mv (.t 68), none⟩)])
 (.seq (.reg [⟨(some 69), .fad 3 (.t 2), none⟩,
  ⟨(some 70), .load false 1 (.t 69), none⟩,
  ⟨(some 71), .fad 6 (.t 2), none⟩,
  ⟨(some 72), .load false 1 (.t 71), none⟩,
  ⟨(some 73), .bin .geq (.t 70) (.t 72), none⟩,
  ⟨(some 74), .mv (.t 73), none⟩,
  ⟨(some 75), .fad 3 (.t 2), (some (74, true))⟩,
  ⟨(some 76), .load false 1 (.t 75), (some (74, true))⟩,
  ⟨(some 77), .fad 7 (.t 2), (some (74, true))⟩,
  ⟨(some 78), .load false 1 (.t 77), (some (74, true))⟩,
  ⟨(some 79), .bin .leq (.t 76) (.t 78), (some (74, true))⟩,
  ⟨(some 80), .pick (.t 74) (.t 79) (.k (D.bool false)), none⟩,
  ⟨(some 12), .mv (.t 80), none⟩])
 (.seq (.seq (.reg [⟨(some 81), .fad 4 (.t 3), none⟩,
  ⟨(some 82), .load false 1 (.t 81), none⟩])
 (.block 2 (.seq (.reg [⟨(some 84), .bin .eql (.t 82) (.k (D.int .u8 (74))), none⟩,
  ⟨(some 83), .mv (.t 84), none⟩])
 (.cond (.t 83)
 (.seq (.reg [⟨(some 85), .fad 5 (.t 2), none⟩,
  ⟨none, .store 1 (.t 85) (.k (D.bool false)), none⟩])
 (.reg [⟨(some 86), .fad 0 (.t 2), none⟩,
  ⟨(some 87), .load true 3 (.t 86), none⟩,
  ⟨(some 88), .fad 3 (.t 2), none⟩,
  ⟨(some 89), .load false 1 (.t 88), none⟩,
  ⟨(some 90), .fad 4 (.t 2), none⟩,
  ⟨(some 91), .load false 1 (.t 90), none⟩,
  ⟨(some 92), .mv (.t 11), none⟩,
  ⟨(some 93), .load true 3 (.t 10), none⟩,
  ⟨(some 94), .call false 303 [(.t 87), (.t 89), (.t 91), (.t 92), (.k (D.bool true)), (.t 93)], none⟩,
  ⟨(some 95), .fad 0 (.t 2), none⟩,
  ⟨none, .store 3 (.t 95) (.t 94), none⟩]))
 (.seq (.reg [⟨(some 97), .bin .eql (.t 82) (.k (D.int .u8 (75))), none⟩,
  ⟨(some 96), .mv (.t 97), none⟩])
 (.cond (.t 96)
 (.seq (.reg [⟨(some 98), .fad 5 (.t 2), none⟩,
  ⟨none, .store 1 (.t 98) (.k (D.bool false)), none⟩])
 (.reg [⟨(some 99), .fad 0 (.t 2), none⟩,
  ⟨(some 100), .load true 3 (.t 99), none⟩,
  ⟨(some 101), .fad 3 (.t 2), none⟩,
  ⟨(some 102), .load false 1 (.t 101), none⟩,
  ⟨(some 103), .fad 4 (.t 2), none⟩,
  ⟨(some 104), .load false 1 (.t 103), none⟩,
  ⟨(some 105), .mv (.t 11), none⟩,
  ⟨(some 106), .load true 3 (.t 10), none⟩,
  ⟨(some 107), .call false 303 [(.t 100), (.t 102), (.t 104), (.t 105), (.k (D.bool false)), (.t 106)], none⟩,
  ⟨(some 108), .fad 0 (.t 2), none⟩,
  ⟨none, .store 3 (.t 108) (.t 107), none⟩]))
 (.seq (.seq (.reg [⟨(some 110), .bin .eql (.t 82) (.k (D.int .u8 (76))), none⟩,
  ⟨(some 109), .mv (.t 110), none⟩])
 (.cond (.t 109)
 .skip
 (.reg [⟨(some 111), .bin .eql (.t 82) (.k (D.int .u8 (77))), none⟩,
  ⟨(some 109), .mv (.t 111), none⟩])))
 (.cond (.t 109)
 (.seq (.seq (.reg [⟨(some 112), .mv (.t 12), none⟩,
  ⟨(some 113), .mv (.t 112), none⟩,
  ⟨(some 114), .fad 4 (.t 3), (some (113, true))⟩,
  ⟨(some 115), .load false 1 (.t 114), (some (113, true))⟩,
  ⟨(some 116), .bin .eql (.t 115) (.k (D.int .u8 (76))), (some (113, true))⟩,
  ⟨(some 117), .pick (.t 113) (.t 116) (.k (D.bool false)), none⟩])
 (.cond (.t 117)
 (.reg [⟨(some 118), .fad 0 (.t 2), none⟩,
  ⟨(some 119), .load true 3 (.t 118), none⟩,
  ⟨(some 120), .fad 3 (.t 2), none⟩,
  ⟨(some 121), .load false 1 (.t 120), none⟩,
  ⟨(some 122), .fad 7 (.t 2), none⟩,
  ⟨(some 123), .load false 1 (.t 122), none⟩,
  ⟨(some 124), .mv (.t 9), none⟩,
  ⟨(some 125), .una .neg (.t 124), none⟩,
  ⟨(some 126), .load true 3 (.t 10), none⟩,
  ⟨(some 127), .call false 294 [(.t 119), (.t 121), (.t 123), (.t 125), (.t 126)], none⟩,
  ⟨(some 128), .fad 0 (.t 2), none⟩,
  ⟨none, .store 3 (.t 128) (.t 127), none⟩])
 (.seq (.reg [⟨(some 129), .mv (.t 12), none⟩])
 (.cond (.t 129)
 (.reg [⟨(some 130), .fad 0 (.t 2), none⟩,
  ⟨(some 131), .load true 3 (.t 130), none⟩,
  ⟨(some 132), .fad 3 (.t 2), none⟩,
  ⟨(some 133), .load false 1 (.t 132), none⟩,
  ⟨(some 134), .fad 7 (.t 2), none⟩,
  ⟨(some 135), .load false 1 (.t 134), none⟩,
  ⟨(some 136), .mv (.t 9), none⟩,
  ⟨(some 137), .load true 3 (.t 10), none⟩,
  ⟨(some 138), .call false 294 [(.t 131), (.t 133), (.t 135), (.t 136), (.t 137)], none⟩,
  ⟨(some 139), .fad 0 (.t 2), none⟩,
  ⟨none, .store 3 (.t 139) (.t 138), none⟩])
 .skip))))
 (.seq (.reg [⟨(some 140), .mv (.t 12), none⟩])
 (.cond (.t 140)
 (.reg [⟨(some 141), .load true 29 (.t 2), none⟩,
  ⟨(some 142), .fad 3 (.t 2), none⟩,
  ⟨(some 143), .load false 1 (.t 142), none⟩,
  ⟨(some 144), .call false 300 [(.t 141), (.t 143), (.k (D.int .i64 (0)))], none⟩,
  ⟨none, .store 29 (.t 2) (.t 144), none⟩])
 .skip)))
 (.seq (.reg [⟨(some 146), .bin .eql (.t 82) (.k (D.int .u8 (64))), none⟩,
  ⟨(some 145), .mv (.t 146), none⟩])
 (.cond (.t 145)
 (.seq (.reg [⟨(some 147), .fad 5 (.t 2), none⟩,
  ⟨none, .store 1 (.t 147) (.k (D.bool false)), none⟩])
 (.reg [⟨(some 148), .fad 0 (.t 2), none⟩,
  ⟨(some 149), .load true 3 (.t 148), none⟩,
  ⟨(some 150), .fad 3 (.t 2), none⟩,
  ⟨(some 151), .load false 1 (.t 150), none⟩,
  ⟨(some 152), .fad 4 (.t 2), none⟩,
  ⟨(some 153), .load false 1 (.t 152), none⟩,
  ⟨(some 154), .mv (.t 9), none⟩,
  ⟨(some 155), .load true 3 (.t 10), none⟩,
  ⟨(some 156), .call false 295 [(.t 149), (.t 151), (.t 153), (.t 154), (.t 155)], none⟩,
  ⟨(some 157), .fad 0 (.t 2), none⟩,
  ⟨none, .store 3 (.t 157) (.t 156), none⟩]))
 (.seq (.reg [⟨(some 159), .bin .eql (.t 82) (.k (D.int .u8 (80))), none⟩,
  ⟨(some 158), .mv (.t 159), none⟩])
 (.cond (.t 158)
 (.seq (.reg [⟨(some 160), .fad 5 (.t 2), none⟩,
  ⟨none, .store 1 (.t 160) (.k (D.bool false)), none⟩])
 (.reg [⟨(some 161), .fad 0 (.t 2), none⟩,
  ⟨(some 162), .load true 3 (.t 161), none⟩,
  ⟨(some 163), .fad 3 (.t 2), none⟩,
  ⟨(some 164), .load false 1 (.t 163), none⟩,
  ⟨(some 165), .fad 4 (.t 2), none⟩,
  ⟨(some 166), .load false 1 (.t 165), none⟩,
  ⟨(some 167), .mv (.t 9), none⟩,
  ⟨(some 168), .una .neg (.t 167), none⟩,
  ⟨(some 169), .load true 3 (.t 10), none⟩,
  ⟨(some 170), .call false 295 [(.t 162), (.t 164), (.t 166), (.t 168), (.t 169)], none⟩,
  ⟨(some 171), .fad 0 (.t 2), none⟩,
  ⟨none, .store 3 (.t 171) (.t 170), none⟩]))
 (.seq (.reg [⟨(some 173), .bin .eql (.t 82) (.k (D.int .u8 (88))), none⟩,
  ⟨(some 172), .mv (.t 173), none⟩])
 (.cond (.t 172)
 (.seq (.reg [⟨(some 174), .fad 5 (.t 2), none⟩,
  ⟨none, .store 1 (.t 174) (.k (D.bool false)), none⟩])
 (.reg [⟨(some 175), .fad 0 (.t 2), none⟩,
  ⟨(some 176), .load true 3 (.t 175), none⟩,
  ⟨(some 177), .fad 3 (.t 2), none⟩,
  ⟨(some 178), .load false 1 (.t 177), none⟩,
  ⟨(some 179), .fad 4 (.t 2), none⟩,
  ⟨(some 180), .load false 1 (.t 179), none⟩,
  ⟨(some 181), .fad 4 (.t 2), none⟩,
  ⟨(some 182), .load false 1 (.t 181), none⟩,
  ⟨(some 183), .mv (.t 9), none⟩,
  ⟨(some 184), .bin .add (.t 182) (.t 183), none⟩,
  ⟨(some 185), .load true 3 (.t 10), none⟩,
  ⟨(some 186), .call false 298 [(.t 176), (.t 178), (.t 180), (.t 184), (.t 185)], none⟩,
  ⟨(some 187), .fad 0 (.t 2), none⟩,
  ⟨none, .store 3 (.t 187) (.t 186), none⟩]))
 (.seq (.reg [⟨(some 189), .bin .eql (.t 82) (.k (D.int .u8 (83))), none⟩,
  ⟨(some 188), .mv (.t 189), none⟩])
 (.cond (.t 188)
 (.reg [⟨(some 190), .fad 0 (.t 2), none⟩,
  ⟨(some 191), .load true 3 (.t 190), none⟩,
  ⟨(some 192), .fad 6 (.t 2), none⟩,
  ⟨(some 193), .load false 1 (.t 192), none⟩,
  ⟨(some 194), .fad 7 (.t 2), none⟩,
  ⟨(some 195), .load false 1 (.t 194), none⟩,
  ⟨(some 196), .mv (.t 9), none⟩,
  ⟨(some 197), .load true 3 (.t 10), none⟩,
  ⟨(some 198), .call false 294 [(.t 191), (.t 193), (.t 195), (.t 196), (.t 197)], none⟩,
  ⟨(some 199), .fad 0 (.t 2), none⟩,
  ⟨none, .store 3 (.t 199) (.t 198), none⟩])
 (.seq (.reg [⟨(some 201), .bin .eql (.t 82) (.k (D.int .u8 (84))), none⟩,
  ⟨(some 200), .mv (.t 201), none⟩])
 (.cond (.t 200)
 (.reg [⟨(some 202), .fad 0 (.t 2), none⟩,
  ⟨(some 203), .load true 3 (.t 202), none⟩,
  ⟨(some 204), .fad 6 (.t 2), none⟩,
  ⟨(some 205), .load false 1 (.t 204), none⟩,
  ⟨(some 206), .fad 7 (.t 2), none⟩,
  ⟨(some 207), .load false 1 (.t 206), none⟩,
  ⟨(some 208), .mv (.t 9), none⟩,
  ⟨(some 209), .una .neg (.t 208), none⟩,
  ⟨(some 210), .load true 3 (.t 10), none⟩,
  ⟨(some 211), .call false 294 [(.t 203), (.t 205), (.t 207), (.t 209), (.t 210)], none⟩,
  ⟨(some 212), .fad 0 (.t 2), none⟩,
  ⟨none, .store 3 (.t 212) (.t 211), none⟩])
 (.seq (.reg [⟨(some 214), .bin .eql (.t 82) (.k (D.int .u8 (109))), none⟩,
  ⟨(some 213), .mv (.t 214), none⟩])
 (.cond (.t 213)
 (.reg [⟨(some 215), .fad 8 (.t 2), none⟩,
  ⟨(some 216), .load true 3 (.t 215), none⟩,
  ⟨(some 217), .fad 5 (.t 3), none⟩,
  ⟨(some 218), .load false 1 (.t 217), none⟩,
  ⟨(some 219), .call false 281 [(.t 216), (.t 218)], none⟩,
  ⟨(some 220), .fad 8 (.t 2), none⟩,
  ⟨none, .store 3 (.t 220) (.t 219), none⟩])
 (.seq (.reg [⟨(some 222), .bin .eql (.t 82) (.k (D.int .u8 (114))), none⟩,
  ⟨(some 221), .mv (.t 222), none⟩])
 (.cond (.t 221)
 (.seq (.dreg [([], false, ⟨(some 223), .load true 7 (.t 3), none⟩),
  ([], false, ⟨(some 224), .call true 311 [(.t 223), (.k (D.int .i64 (0))), (.k (D.int .i64 (1)))], none⟩),
  ([], false, ⟨(some 225), .bin .sub (.t 224) (.k (D.int .i64 (1))), none⟩),
  ([0, 1, 2], false, ⟨(some 226), .load true 7 (.t 3), none⟩),
  ([0, 1, 2, 3], false, ⟨(some 227), .fad 0 (.t 2), none⟩),
  ([0, 1, 2, 3], false, ⟨(some 228), .fad 0 (.t 227), none⟩),
  ([0, 1, 2, 3], false, ⟨(some 229), .load false 1 (.t 228), none⟩),
  ([2], false, ⟨(some 230), .callr 311 [(.t 226), (.k (D.int .i64 (1))), (.t 229)], none⟩),
  ([0, 1, 2, 3, 4, 5, 6, 7], false, ⟨(some 231), .fad 0 (.t 2), none⟩),
  ([0, 1, 2, 3, 4, 5, 6, 7], false, ⟨(some 232), .fad 0 (.t 231), none⟩),
  ([0, 1, 2, 3, 4, 5, 6, 7], false, ⟨(some 233), .load false 1 (.t 232), none⟩),
  ([2], false, ⟨(some 234), .mn [(.t 230), (.t 233)], none⟩),
  ([2], false, ⟨(some 235), .bin .sub (.t 234) (.k (D.int .i64 (1))), none⟩),
  ([8, 9, 10, 11, 12], false, ⟨(some 13), .mv (.t 225), none⟩),
  ([], true, ⟨(some 14), .mv (.t 235), none⟩)])
 (.seq (.reg [⟨(some 236), .mv (.t 13), none⟩,
  ⟨(some 237), .mv (.t 14), none⟩,
  ⟨(some 238), .bin .lss (.t 236) (.t 237), none⟩])
 (.cond (.t 238)
 (.seq (.reg [⟨(some 239), .mv (.t 13), none⟩,
  ⟨(some 240), .mv (.t 14), none⟩,
  ⟨(some 241), .fad 6 (.t 2), none⟩,
  ⟨none, .store 1 (.t 241) (.t 239), none⟩,
  ⟨(some 242), .fad 7 (.t 2), none⟩,
  ⟨none, .store 1 (.t 242) (.t 240), none⟩])
 (.reg [⟨(some 243), .load true 29 (.t 2), none⟩,
  ⟨(some 244), .call false 308 [(.t 243)], none⟩,
  ⟨none, .store 29 (.t 2) (.t 244), none⟩]))
 .skip)))
 (.seq (.reg [⟨(some 246), .bin .eql (.t 82) (.k (D.int .u8 (103))), none⟩,
  ⟨(some 245), .mv (.t 246), none⟩])
 (.cond (.t 245)
 (.seq (.seq (.reg [⟨(some 247), .mv (.t 11), none⟩,
  ⟨(some 248), .bin .eql (.t 247) (.k (D.int .i64 (0))), none⟩])
 (.cond (.t 248)
 (.reg [⟨(some 249), .fad 11 (.t 2), none⟩,
  ⟨(some 250), .load false 1 (.t 249), none⟩,
  ⟨(some 251), .fad 4 (.t 2), none⟩,
  ⟨(some 252), .load false 1 (.t 251), none⟩,
  ⟨(some 253), .cvi .u64 (.t 252), none⟩,
  ⟨(some 254), .bin .shl (.k (D.int .u64 (1))) (.t 253), none⟩,
  ⟨(some 255), .bin .andNot (.t 250) (.t 254), none⟩,
  ⟨(some 256), .fad 11 (.t 2), none⟩,
  ⟨none, .store 1 (.t 256) (.t 255), none⟩])
 .skip))
 (.seq (.reg [⟨(some 257), .mv (.t 11), none⟩,
  ⟨(some 258), .bin .eql (.t 257) (.k (D.int .i64 (3))), none⟩])
 (.cond (.t 258)
 (.reg [⟨(some 259), .fad 11 (.t 2), none⟩,
  ⟨none, .store 1 (.t 259) (.k (D.int .u64 (0))), none⟩])
 .skip)))
 (.seq (.reg [⟨(some 261), .bin .eql (.t 82) (.k (D.int .u8 (115))), none⟩,
  ⟨(some 260), .mv (.t 261), none⟩])
 (.cond (.t 260)
 (.seq (.reg [⟨(some 262), .load true 29 (.t 2), none⟩,
  ⟨(some 263), .call false 314 [(.t 262)], none⟩,
  ⟨none, .store 29 (.t 4) (.t 263), none⟩])
 .ret)
 (.seq (.reg [⟨(some 265), .bin .eql (.t 82) (.k (D.int .u8 (117))), none⟩,
  ⟨(some 264), .mv (.t 265), none⟩])
 (.cond (.t 264)
 (.seq (.reg [⟨(some 266), .load true 29 (.t 2), none⟩,
  ⟨(some 267), .call false 312 [(.t 266)], none⟩,
  ⟨none, .store 29 (.t 4) (.t 267), none⟩])
 .ret)
 .skip))))))))))))))))))))))))))))
 (.seq (.reg [⟨(some 268), .load true 29 (.t 2), none⟩,
  ⟨none, .store 29 (.t 4) (.t 268), none⟩])
 .ret))))))))⟩
def a284 : Ann := ⟨[], [⟨false, 0, false⟩], []⟩
def s284 : SFun := ⟨2, 30, [], [(.cell 4 true 29, ⟨false, 0, false⟩)],
 (.seq (.reg [⟨(some 2), .box 29 (.t 0), none⟩,
  ⟨(some 3), .box 7 (.t 1), none⟩,
  ⟨(some 4), .alloc [(D.int .i64 (0)), (D.int .i64 (0)), .sn, (D.int .i64 (0)), (D.int .i64 (0)), (D.bool false), (D.int .i64 (0)), (D.int .i64 (0)), (D.int .i64 (0)), (D.int .i64 (0)), (D.int .i64 (0)), (D.int .u64 (0)), (D.int .u8 (0)), (D.int .u8 (0)), (D.int .i64 (0)), (D.bool false), (D.bool false), (D.bool false), (D.bool false), (D.bool false), (D.int .i64 (0)), (D.int .i64 (0)), (D.int .i64 (0)), (D.int .i64 (0)), (D.int .i64 (0)), (D.int .u8 (0)), (D.int .u8 (0)), (D.int .i64 (0)), (D.bool false)], none⟩])
 (.seq (.seq (.reg [⟨(some 5), .fad 0 (.t 3), none⟩,
  ⟨(some 6), .load false 1 (.t 5), none⟩])
 (.block 0 (.seq (.reg [⟨(some 8), .bin .eql (.t 6) (.k (D.int .i64 (1))), none⟩,
  ⟨(some 7), .mv (.t 8), none⟩])
 (.cond (.t 7)
 (.seq (.reg [⟨(some 9), .load true 29 (.t 2), none⟩,
  ⟨(some 10), .fad 1 (.t 3), none⟩,
  ⟨(some 11), .load false 1 (.t 10), none⟩,
  ⟨(some 12), .call false 291 [(.t 9), (.t 11)], none⟩,
  ⟨none, .store 29 (.t 4) (.t 12), none⟩])
 .ret)
 (.seq (.reg [⟨(some 14), .bin .eql (.t 6) (.k (D.int .i64 (2))), none⟩,
  ⟨(some 13), .mv (.t 14), none⟩])
 (.cond (.t 13)
 (.seq (.reg [⟨(some 15), .load true 29 (.t 2), none⟩,
  ⟨(some 16), .fad 4 (.t 3), none⟩,
  ⟨(some 17), .load false 1 (.t 16), none⟩,
  ⟨(some 18), .call false 305 [(.t 15), (.t 17)], none⟩,
  ⟨none, .store 29 (.t 4) (.t 18), none⟩])
 .ret)
 (.seq (.reg [⟨(some 20), .bin .eql (.t 6) (.k (D.int .i64 (3))), none⟩,
  ⟨(some 19), .mv (.t 20), none⟩])
 (.cond (.t 19)
 (.seq (.reg [⟨(some 21), .load true 29 (.t 2), none⟩,
  ⟨(some 22), .load true 7 (.t 3), none⟩,
  ⟨(some 23), .call false 304 [(.t 21), (.t 22)], none⟩,
  ⟨none, .store 29 (.t 4) (.t 23), none⟩])
 .ret)
 (.seq (.reg [⟨(some 25), .bin .eql (.t 6) (.k (D.int .i64 (4))), none⟩,
  ⟨(some 24), .mv (.t 25), none⟩])
 (.cond (.t 24)
 (.seq (.reg [⟨(some 26), .load true 29 (.t 2), none⟩,
  ⟨(some 27), .load true 7 (.t 3), none⟩,
  ⟨(some 28), .call false 302 [(.t 26), (.t 27)], none⟩,
  ⟨none, .store 29 (.t 4) (.t 28), none⟩])
 .ret)
 .skip))))))))))
 (.seq (.reg [⟨(some 29), .load true 29 (.t 2), none⟩,
  ⟨none, .store 29 (.t 4) (.t 29), none⟩])
 .ret)))⟩
def a277 : Ann := ⟨[], [⟨false, 0, false⟩], []⟩
def s277 : SFun := ⟨2, 25, [], [(.cell 4 true 29, ⟨false, 0, false⟩)],
 (.seq (.reg [⟨(some 2), .box 29 (.t 0), none⟩,
  ⟨(some 4), .alloc [(D.int .i64 (0)), (D.int .i64 (0)), .sn, (D.int .i64 (0)), (D.int .i64 (0)), (D.bool false), (D.int .i64 (0)), (D.int .i64 (0)), (D.int .i64 (0)), (D.int .i64 (0)), (D.int .i64 (0)), (D.int .u64 (0)), (D.int .u8 (0)), (D.int .u8 (0)), (D.int .i64 (0)), (D.bool false), (D.bool false), (D.bool false), (D.bool false), (D.bool false), (D.int .i64 (0)), (D.int .i64 (0)), (D.int .i64 (0)), (D.int .i64 (0)), (D.int .i64 (0)), (D.int .u8 (0)), (D.int .u8 (0)), (D.int .i64 (0)), (D.bool false)], none⟩])
 (.seq (.reg [⟨(some 6), .mv (.t 1), none⟩,
  ⟨(some 7), .build [(D.int .i64 (0)), (D.int .i32 (0)), (D.int .u8 (0)), (D.int .u8 (0)), (D.int .u8 (0)), .sn, (D.str [])] [(0, 1, (.k (D.int .i64 (4)))), (4, 1, (.t 6))], none⟩,
  ⟨(some 5), .alloc [(D.int .i64 (0)), (D.int .i32 (0)), (D.int .u8 (0)), (D.int .u8 (0)), (D.int .u8 (0)), .sn, (D.str [])], none⟩,
  ⟨none, .store 7 (.t 5) (.t 7), none⟩])
 (.seq (.seq (.reg [⟨(some 8), .mv (.t 1), none⟩])
 (.block 0 (.seq (.seq (.reg [⟨(some 10), .bin .eql (.t 8) (.k (D.int .u8 (65))), none⟩,
  ⟨(some 9), .mv (.t 10), none⟩])
 (.cond (.t 9)
 .skip
 (.seq (.reg [⟨(some 11), .bin .eql (.t 8) (.k (D.int .u8 (66))), none⟩,
  ⟨(some 9), .mv (.t 11), none⟩])
 (.cond (.t 9)
 .skip
 (.seq (.reg [⟨(some 12), .bin .eql (.t 8) (.k (D.int .u8 (67))), none⟩,
  ⟨(some 9), .mv (.t 12), none⟩])
 (.cond (.t 9)
 .skip
 (.seq (.reg [⟨(some 13), .bin .eql (.t 8) (.k (D.int .u8 (68))), none⟩,
  ⟨(some 9), .mv (.t 13), none⟩])
 (.cond (.t 9)
 .skip
 (.seq (.reg [⟨(some 14), .bin .eql (.t 8) (.k (D.int .u8 (72))), none⟩,
  ⟨(some 9), .mv (.t 14), none⟩])
 (.cond (.t 9)
 .skip
 (.seq (.reg [⟨(some 15), .bin .eql (.t 8) (.k (D.int .u8 (74))), none⟩,
  ⟨(some 9), .mv (.t 15), none⟩])
 (.cond (.t 9)
 .skip
 (.reg [⟨(some 16), .bin .eql (.t 8) (.k (D.int .u8 (75))), none⟩,
  ⟨(some 9), .mv (.t 16), none⟩])))))))))))))
 (.cond (.t 9)
 (.seq (.reg [⟨(some 17), .load true 29 (.t 2), none⟩,
  ⟨(some 18), .load true 7 (.t 5), none⟩,
  ⟨(some 19), .call false 284 [(.t 17), (.t 18)], none⟩,
  ⟨none, .store 29 (.t 4) (.t 19), none⟩])
 .ret)
 (.seq (.reg [⟨(some 21), .bin .eql (.t 8) (.k (D.int .u8 (73))), none⟩,
  ⟨(some 20), .mv (.t 21), none⟩])
 (.cond (.t 20)
 (.seq (.reg [⟨(some 22), .load true 29 (.t 2), none⟩,
  ⟨(some 23), .call false 282 [(.t 22)], none⟩,
  ⟨none, .store 29 (.t 4) (.t 23), none⟩])
 .ret)
 .skip))))))
 (.seq (.reg [⟨(some 24), .load true 29 (.t 2), none⟩,
  ⟨none, .store 29 (.t 4) (.t 24), none⟩])
 .ret))))⟩
def a274 : Ann := ⟨[(3, [(0, ⟨false, 0, false⟩), (9, ⟨false, 0, false⟩), (10, ⟨false, 0, false⟩), (11, ⟨false, 0, false⟩), (5, ⟨true, 1, false⟩)])], [⟨true, 1, false⟩], []⟩
def s274 : SFun := ⟨2, 70, [], [(.tmp 4, ⟨true, 1, false⟩)],
 (.seq (.reg [⟨(some 4), .mv (.k .sn), none⟩])
 (.seq (.reg [⟨(some 5), .mv (.k .sn), none⟩])
 (.seq (.seq (.reg [⟨(some 9), .mv (.t 1), none⟩,
  ⟨(some 10), .len (.t 9), none⟩,
  ⟨(some 11), .mv (.k (D.int .i64 (0))), none⟩])
 (.block 0 (.loop [(0, ⟨false, 0, false⟩), (9, ⟨false, 0, false⟩), (10, ⟨false, 0, false⟩), (11, ⟨false, 0, false⟩), (5, ⟨true, 1, false⟩)]
 (.seq (.reg [⟨(some 12), .bin .lss (.t 11) (.t 10), none⟩])
 (.seq (.cond (.t 12)
 .skip
 (.exit 0))
 (.seq (.block 1 (.seq (.reg [⟨(some 13), .ixs 1 (.t 9) (.t 11), none⟩,
  ⟨(some 14), .load false 1 (.t 13), none⟩,
  ⟨(some 7), .mv (.t 14), none⟩])
 (.seq (.reg [⟨(some 15), .mv (.t 7), none⟩,
  ⟨(some 16), .mx [(.t 15), (.k (D.int .i64 (0)))], none⟩,
  ⟨(some 7), .mv (.t 16), none⟩])
 (.seq (.reg [⟨(some 17), .mv (.t 7), none⟩,
  ⟨(some 18), .bin .geq (.t 17) (.k (D.int .i64 (30))), none⟩,
  ⟨(some 19), .mv (.t 18), none⟩,
  ⟨(some 20), .mv (.t 7), (some (19, true))⟩,
  ⟨(some 21), .bin .leq (.t 20) (.k (D.int .i64 (37))), (some (19, true))⟩,
  ⟨(some 22), .pick (.t 19) (.t 21) (.k (D.bool false)), none⟩,
  ⟨(some 23), .mv (.t 22), none⟩,
  ⟨(some 24), .mv (.t 7), (some (23, false))⟩,
  ⟨(some 25), .bin .geq (.t 24) (.k (D.int .i64 (40))), (some (23, false))⟩,
  ⟨(some 26), .mv (.t 25), (some (23, false))⟩,
  ⟨(some 27), .mv (.t 7), (some (26, true))⟩,
  ⟨(some 28), .bin .leq (.t 27) (.k (D.int .i64 (47))), (some (26, true))⟩,
  ⟨(some 29), .pick (.t 26) (.t 28) (.k (D.bool false)), (some (23, false))⟩,
  ⟨(some 30), .pick (.t 23) (.k (D.bool true)) (.t 29), none⟩,
  ⟨(some 31), .mv (.t 30), none⟩,
  ⟨(some 32), .mv (.t 7), (some (31, false))⟩,
  ⟨(some 33), .bin .eql (.t 32) (.k (D.int .i64 (39))), (some (31, false))⟩,
  ⟨(some 34), .pick (.t 31) (.k (D.bool true)) (.t 33), none⟩,
  ⟨(some 35), .mv (.t 34), none⟩,
  ⟨(some 36), .mv (.t 7), (some (35, false))⟩,
  ⟨(some 37), .bin .eql (.t 36) (.k (D.int .i64 (49))), (some (35, false))⟩,
  ⟨(some 38), .pick (.t 35) (.k (D.bool true)) (.t 37), none⟩,
  ⟨(some 8), .mv (.t 38), none⟩])
 (.seq (.reg [⟨(some 39), .mv (.t 7), none⟩,
  ⟨(some 40), .bin .eql (.t 39) (.k (D.int .i64 (0))), none⟩,
  ⟨(some 41), .mv (.t 40), none⟩,
  ⟨(some 42), .mv (.t 7), (some (41, false))⟩,
  ⟨(some 43), .bin .eql (.t 42) (.k (D.int .i64 (1))), (some (41, false))⟩,
  ⟨(some 44), .pick (.t 41) (.k (D.bool true)) (.t 43), none⟩,
  ⟨(some 45), .mv (.t 44), none⟩,
  ⟨(some 46), .mv (.t 7), (some (45, false))⟩,
  ⟨(some 47), .bin .eql (.t 46) (.k (D.int .i64 (4))), (some (45, false))⟩,
  ⟨(some 48), .pick (.t 45) (.k (D.bool true)) (.t 47), none⟩,
  ⟨(some 49), .mv (.t 48), none⟩,
  ⟨(some 50), .mv (.t 7), (some (49, false))⟩,
  ⟨(some 51), .bin .eql (.t 50) (.k (D.int .i64 (5))), (some (49, false))⟩,
  ⟨(some 52), .pick (.t 49) (.k (D.bool true)) (.t 51), none⟩,
  ⟨(some 53), .mv (.t 52), none⟩,
  ⟨(some 54), .mv (.t 7), (some (53, false))⟩,
  ⟨(some 55), .bin .eql (.t 54) (.k (D.int .i64 (7))), (some (53, false))⟩,
  ⟨(some 56), .pick (.t 53) (.k (D.bool true)) (.t 55), none⟩,
  ⟨(some 57), .mv (.t 56), none⟩,
  ⟨(some 58), .mv (.t 0), (some (57, false))⟩,
  ⟨(some 59), .bin .eql (.t 58) (.k (D.int .i64 (2))), (some (57, false))⟩,
  ⟨(some 60), .mv (.t 59), (some (57, false))⟩,
  ⟨(some 61), .mv (.t 8), (some (60, true))⟩,
  ⟨(some 62), .pick (.t 60) (.t 61) (.k (D.bool false)), (some (57, false))⟩,
  ⟨(some 63), .pick (.t 57) (.k (D.bool true)) (.t 62), none⟩])
 (.cond (.t 63)
 (.reg [⟨(some 64), .mv (.t 5), none⟩,
  ⟨(some 65), .mv (.t 7), none⟩,
  ⟨(some 66), .bsl false 1 1 [(D.int .i64 (0))] [(0, (.t 65))], none⟩,
  ⟨(some 67), .append 1 8 (.t 64) (.t 66), none⟩,
  ⟨(some 5), .mv (.t 67), none⟩])
 .skip))))))
 (.reg [⟨(some 68), .bin .add (.t 11) (.k (D.int .i64 (1))), none⟩,
  ⟨(some 11), .mv (.t 68), none⟩])))))))
 (.seq (.reg [⟨(some 69), .mv (.t 5), none⟩,
  ⟨(some 4), .mv (.t 69), none⟩])
 .ret))))⟩
def a258 : Ann := ⟨[(13, [(64, ⟨false, 0, false⟩), (65, ⟨false, 0, false⟩), (66, ⟨false, 0, false⟩), (4, ⟨true, 0, false⟩), (5, ⟨true, 0, false⟩), (6, ⟨true, 0, false⟩), (8, ⟨true, 1, false⟩)])], [⟨false, 0, false⟩], []⟩
def s258 : SFun := ⟨3, 82, [], [(.cell 6 true 29, ⟨false, 0, false⟩)],
 (.seq (.reg [⟨(some 4), .box 29 (.t 1), none⟩,
  ⟨(some 5), .box 7 (.t 2), none⟩,
  ⟨(some 6), .alloc [(D.int .i64 (0)), (D.int .i64 (0)), .sn, (D.int .i64 (0)), (D.int .i64 (0)), (D.bool false), (D.int .i64 (0)), (D.int .i64 (0)), (D.int .i64 (0)), (D.int .i64 (0)), (D.int .i64 (0)), (D.int .u64 (0)), (D.int .u8 (0)), (D.int .u8 (0)), (D.int .i64 (0)), (D.bool false), (D.bool false), (D.bool false), (D.bool false), (D.bool false), (D.int .i64 (0)), (D.int .i64 (0)), (D.int .i64 (0)), (D.int .i64 (0)), (D.int .i64 (0)), (D.int .u8 (0)), (D.int .u8 (0)), (D.int .i64 (0)), (D.bool false)], none⟩])
 (.seq (.seq (.reg [⟨(some 11), .mv (.t 0), none⟩,
  ⟨(some 12), .load true 7 (.t 5), none⟩,
  ⟨(some 13), .call false 260 [(.t 11), (.t 12)], none⟩,
  ⟨(some 14), .una .not (.t 13), none⟩])
 (.cond (.t 14)
 (.seq (.reg [⟨(some 15), .load true 29 (.t 4), none⟩,
  ⟨none, .store 29 (.t 6) (.t 15), none⟩])
 .ret)
 .skip))
 (.seq (.seq (.reg [⟨(some 16), .mv (.t 0), none⟩,
  ⟨(some 17), .bin .eql (.t 16) (.k (D.int .i64 (3))), none⟩,
  ⟨(some 18), .mv (.t 17), none⟩,
  ⟨(some 19), .fad 0 (.t 5), (some (18, true))⟩,
  ⟨(some 20), .load false 1 (.t 19), (some (18, true))⟩,
  ⟨(some 21), .bin .eql (.t 20) (.k (D.int .i64 (3))), (some (18, true))⟩,
  ⟨(some 22), .pick (.t 18) (.t 21) (.k (D.bool false)), none⟩])
 (.cond (.t 22)
 (.seq (.reg [⟨(some 23), .load true 29 (.t 4), none⟩,
  ⟨(some 24), .fad 4 (.t 5), none⟩,
  ⟨(some 25), .load false 1 (.t 24), none⟩,
  ⟨(some 26), .call false 277 [(.t 23), (.t 25)], none⟩,
  ⟨none, .store 29 (.t 6) (.t 26), none⟩])
 .ret)
 .skip))
 (.seq (.seq (.reg [⟨(some 27), .fad 0 (.t 5), none⟩,
  ⟨(some 28), .load false 1 (.t 27), none⟩,
  ⟨(some 29), .bin .eql (.t 28) (.k (D.int .i64 (4))), none⟩,
  ⟨(some 30), .mv (.t 29), none⟩,
  ⟨(some 31), .fad 4 (.t 5), (some (30, true))⟩,
  ⟨(some 32), .load false 1 (.t 31), (some (30, true))⟩,
  ⟨(some 33), .bin .eql (.t 32) (.k (D.int .u8 (109))), (some (30, true))⟩,
  ⟨(some 34), .pick (.t 30) (.t 33) (.k (D.bool false)), none⟩])
 (.cond (.t 34)
 (.seq (.reg [⟨(some 35), .mv (.t 0), none⟩,
  ⟨(some 36), .fad 5 (.t 5), none⟩,
  ⟨(some 37), .load false 1 (.t 36), none⟩,
  ⟨(some 38), .call false 274 [(.t 35), (.t 37)], none⟩,
  ⟨(some 7), .mv (.t 38), none⟩])
 (.seq (.seq (.reg [⟨(some 39), .fad 5 (.t 5), none⟩,
  ⟨(some 40), .load false 1 (.t 39), none⟩,
  ⟨(some 41), .len (.t 40), none⟩,
  ⟨(some 42), .bin .gtr (.t 41) (.k (D.int .i64 (0))), none⟩,
  ⟨(some 43), .mv (.t 42), none⟩,
  ⟨(some 44), .mv (.t 7), (some (43, true))⟩,
  ⟨(some 45), .len (.t 44), (some (43, true))⟩,
  ⟨(some 46), .bin .eql (.t 45) (.k (D.int .i64 (0))), (some (43, true))⟩,
  ⟨(some 47), .pick (.t 43) (.t 46) (.k (D.bool false)), none⟩])
 (.cond (.t 47)
 (.seq (.reg [⟨(some 48), .load true 29 (.t 4), none⟩,
  ⟨none, .store 29 (.t 6) (.t 48), none⟩])
 .ret)
 .skip))
 (.reg [⟨(some 49), .mv (.t 7), none⟩,
  ⟨(some 50), .fad 5 (.t 5), none⟩,
  ⟨none, .store 1 (.t 50) (.t 49), none⟩])))
 .skip))
 (.seq (.seq (.reg [⟨(some 51), .fad 0 (.t 5), none⟩,
  ⟨(some 52), .load false 1 (.t 51), none⟩,
  ⟨(some 53), .bin .eql (.t 52) (.k (D.int .i64 (4))), none⟩,
  ⟨(some 54), .mv (.t 53), none⟩,
  ⟨(some 55), .fad 2 (.t 5), (some (54, true))⟩,
  ⟨(some 56), .load false 1 (.t 55), (some (54, true))⟩,
  ⟨(some 57), .bin .eql (.t 56) (.k (D.int .u8 (63))), (some (54, true))⟩,
  ⟨(some 58), .pick (.t 54) (.t 57) (.k (D.bool false)), none⟩,
  ⟨(some 59), .mv (.t 58), none⟩,
  ⟨(some 60), .mv (.t 0), (some (59, true))⟩,
  ⟨(some 61), .bin .neq (.t 60) (.k (D.int .i64 (2))), (some (59, true))⟩,
  ⟨(some 62), .pick (.t 59) (.t 61) (.k (D.bool false)), none⟩])
 (.cond (.t 62)
 (.seq (.reg [⟨(some 8), .mv (.k .sn), none⟩])
 (.seq (.seq (.reg [⟨(some 63), .fad 5 (.t 5), none⟩,
  ⟨(some 64), .load false 1 (.t 63), none⟩,
  ⟨(some 65), .len (.t 64), none⟩,
  ⟨(some 66), .mv (.k (D.int .i64 (0))), none⟩])
 (.block 0 (.loop [(64, ⟨false, 0, false⟩), (65, ⟨false, 0, false⟩), (66, ⟨false, 0, false⟩), (4, ⟨true, 0, false⟩), (5, ⟨true, 0, false⟩), (6, ⟨true, 0, false⟩), (8, ⟨true, 1, false⟩)]
 (.seq (.reg [⟨(some 67), .bin .lss (.t 66) (.t 65), none⟩])
 (.seq (.cond (.t 67)
 .skip
 (.exit 0))
 (.seq (.block 1 (.seq (.reg [⟨(some 68), .ixs 1 (.t 64) (.t 66), none⟩,
  ⟨(some 69), .load false 1 (.t 68), none⟩,
  ⟨(some 10), .mv (.t 69), none⟩])
 (.seq (.reg [⟨(some 70), .mv (.t 10), none⟩,
  ⟨(some 71), .bin .neq (.t 70) (.k (D.int .i64 (25))), none⟩])
 (.cond (.t 71)
 (.reg [⟨(some 72), .mv (.t 8), none⟩,
  ⟨(some 73), .mv (.t 10), none⟩,
  ⟨(some 74), .bsl false 1 1 [(D.int .i64 (0))] [(0, (.t 73))], none⟩,
  ⟨(some 75), .append 1 8 (.t 72) (.t 74), none⟩,
  ⟨(some 8), .mv (.t 75), none⟩])
 .skip))))
 (.reg [⟨(some 76), .bin .add (.t 66) (.k (D.int .i64 (1))), none⟩,
  ⟨(some 66), .mv (.t 76), none⟩])))))))
 (.reg [⟨(some 77), .mv (.t 8), none⟩,
  ⟨(some 78), .fad 5 (.t 5), none⟩,
  ⟨none, .store 1 (.t 78) (.t 77), none⟩])))
 .skip))
 (.seq (.reg [⟨(some 79), .load true 29 (.t 4), none⟩,
  ⟨(some 80), .load true 7 (.t 5), none⟩,
  ⟨(some 81), .call false 284 [(.t 79), (.t 80)], none⟩,
  ⟨none, .store 29 (.t 6) (.t 81), none⟩])
 .ret))))))⟩
def a280 : Ann := ⟨[(8, [(0, ⟨false, 0, false⟩), (5, ⟨false, 0, false⟩), (38, ⟨false, 0, false⟩), (39, ⟨false, 0, false⟩), (40, ⟨false, 0, false⟩)])], [⟨false, 0, false⟩], []⟩
def s280 : SFun := ⟨2, 66, [], [(.tmp 4, ⟨false, 0, false⟩)],
 (.seq (.reg [⟨(some 3), .box 7 (.t 1), none⟩,
  ⟨(some 4), .mv (.k (D.int .i64 (0))), none⟩])
 (.seq (.seq (.reg [⟨(some 8), .mv (.t 0), none⟩,
  ⟨(some 9), .load true 7 (.t 3), none⟩,
  ⟨(some 10), .call false 260 [(.t 8), (.t 9)], none⟩,
  ⟨(some 11), .una .not (.t 10), none⟩])
 (.cond (.t 11)
 (.seq (.reg [⟨(some 4), .mv (.k (D.int .i64 (1))), none⟩])
 .ret)
 .skip))
 (.seq (.reg [⟨(some 5), .mv (.k (D.int .i64 (0))), none⟩])
 (.seq (.seq (.reg [⟨(some 12), .fad 0 (.t 3), none⟩,
  ⟨(some 13), .load false 1 (.t 12), none⟩,
  ⟨(some 14), .bin .eql (.t 13) (.k (D.int .i64 (4))), none⟩,
  ⟨(some 15), .mv (.t 14), none⟩,
  ⟨(some 16), .fad 4 (.t 3), (some (15, true))⟩,
  ⟨(some 17), .load false 1 (.t 16), (some (15, true))⟩,
  ⟨(some 18), .bin .eql (.t 17) (.k (D.int .u8 (109))), (some (15, true))⟩,
  ⟨(some 19), .pick (.t 15) (.t 18) (.k (D.bool false)), none⟩])
 (.cond (.t 19)
 (.dreg [([], false, ⟨(some 20), .fad 5 (.t 3), none⟩),
  ([], false, ⟨(some 21), .load false 1 (.t 20), none⟩),
  ([], false, ⟨(some 22), .len (.t 21), none⟩),
  ([0, 1, 2], false, ⟨(some 23), .mv (.t 0), none⟩),
  ([0, 1, 2, 3], false, ⟨(some 24), .fad 5 (.t 3), none⟩),
  ([0, 1, 2, 3], false, ⟨(some 25), .load false 1 (.t 24), none⟩),
  ([0, 1, 2], false, ⟨(some 26), .callr 274 [(.t 23), (.t 25)], none⟩),
  ([0, 1, 2], false, ⟨(some 27), .len (.t 26), none⟩),
  ([], true, ⟨(some 28), .bin .sub (.t 22) (.t 27), none⟩),
  ([], true, ⟨(some 5), .mv (.t 28), none⟩)])
 .skip))
 (.seq (.seq (.reg [⟨(some 29), .fad 0 (.t 3), none⟩,
  ⟨(some 30), .load false 1 (.t 29), none⟩,
  ⟨(some 31), .bin .eql (.t 30) (.k (D.int .i64 (4))), none⟩,
  ⟨(some 32), .mv (.t 31), none⟩,
  ⟨(some 33), .fad 2 (.t 3), (some (32, true))⟩,
  ⟨(some 34), .load false 1 (.t 33), (some (32, true))⟩,
  ⟨(some 35), .bin .eql (.t 34) (.k (D.int .u8 (63))), (some (32, true))⟩,
  ⟨(some 36), .pick (.t 32) (.t 35) (.k (D.bool false)), none⟩])
 (.cond (.t 36)
 (.seq (.reg [⟨(some 37), .fad 5 (.t 3), none⟩,
  ⟨(some 38), .load false 1 (.t 37), none⟩,
  ⟨(some 39), .len (.t 38), none⟩,
  ⟨(some 40), .mv (.k (D.int .i64 (0))), none⟩])
 (.block 0 (.loop [(0, ⟨false, 0, false⟩), (5, ⟨false, 0, false⟩), (38, ⟨false, 0, false⟩), (39, ⟨false, 0, false⟩), (40, ⟨false, 0, false⟩)]
 (.seq (.reg [⟨(some 41), .bin .lss (.t 40) (.t 39), none⟩])
 (.seq (.cond (.t 41)
 .skip
 (.exit 0))
 (.seq (.block 1 (.seq (.reg [⟨(some 42), .ixs 1 (.t 38) (.t 40), none⟩,
  ⟨(some 43), .load false 1 (.t 42), none⟩,
  ⟨(some 7), .mv (.t 43), none⟩])
 (.seq (.reg [⟨(some 44), .mv (.t 7), none⟩,
  ⟨(some 45), .bin .neq (.t 44) (.k (D.int .i64 (1))), none⟩,
  ⟨(some 46), .mv (.t 45), none⟩,
  ⟨(some 47), .mv (.t 7), (some (46, true))⟩,
  ⟨(some 48), .bin .neq (.t 47) (.k (D.int .i64 (6))), (some (46, true))⟩,
  ⟨(some 49), .pick (.t 46) (.t 48) (.k (D.bool false)), none⟩,
  ⟨(some 50), .mv (.t 49), none⟩,
  ⟨(some 51), .mv (.t 7), (some (50, true))⟩,
  ⟨(some 52), .bin .neq (.t 51) (.k (D.int .i64 (7))), (some (50, true))⟩,
  ⟨(some 53), .pick (.t 50) (.t 52) (.k (D.bool false)), none⟩,
  ⟨(some 54), .mv (.t 53), none⟩,
  ⟨(some 55), .mv (.t 7), (some (54, true))⟩,
  ⟨(some 56), .bin .neq (.t 55) (.k (D.int .i64 (25))), (some (54, true))⟩,
  ⟨(some 57), .mv (.t 56), (some (54, true))⟩,
  ⟨(some 58), .mv (.t 0), (some (57, false))⟩,
  ⟨(some 59), .bin .neq (.t 58) (.k (D.int .i64 (2))), (some (57, false))⟩,
  ⟨(some 60), .pick (.t 57) (.k (D.bool true)) (.t 59), (some (54, true))⟩,
  ⟨(some 61), .pick (.t 54) (.t 60) (.k (D.bool false)), none⟩])
 (.cond (.t 61)
 (.reg [⟨(some 62), .mv (.t 5), none⟩,
  ⟨(some 63), .bin .add (.t 62) (.k (D.int .i64 (1))), none⟩,
  ⟨(some 5), .mv (.t 63), none⟩])
 .skip))))
 (.reg [⟨(some 64), .bin .add (.t 40) (.k (D.int .i64 (1))), none⟩,
  ⟨(some 40), .mv (.t 64), none⟩])))))))
 .skip))
 (.seq (.reg [⟨(some 65), .mv (.t 5), none⟩,
  ⟨(some 4), .mv (.t 65), none⟩])
 .ret))))))⟩
def a259 : Ann := ⟨[(4, [(0, ⟨false, 0, false⟩), (8, ⟨false, 0, false⟩), (17, ⟨false, 0, false⟩), (18, ⟨false, 0, false⟩), (19, ⟨false, 0, false⟩), (4, ⟨true, 0, false⟩), (6, ⟨true, 0, false⟩)]), (10, [(0, ⟨false, 0, false⟩), (2, ⟨false, 0, false⟩), (7, ⟨false, 0, false⟩), (8, ⟨false, 0, false⟩), (11, ⟨false, 0, false⟩), (4, ⟨true, 0, false⟩), (6, ⟨true, 0, false⟩)])], [⟨false, 0, false⟩, ⟨false, 0, false⟩], []⟩
def s259 : SFun := ⟨3, 135, [], [(.cell 6 true 29, ⟨false, 0, false⟩), (.tmp 7, ⟨false, 0, false⟩)],
 (.seq (.reg [⟨(some 4), .box 29 (.t 1), none⟩,
  ⟨(some 6), .alloc [(D.int .i64 (0)), (D.int .i64 (0)), .sn, (D.int .i64 (0)), (D.int .i64 (0)), (D.bool false), (D.int .i64 (0)), (D.int .i64 (0)), (D.int .i64 (0)), (D.int .i64 (0)), (D.int .i64 (0)), (D.int .u64 (0)), (D.int .u8 (0)), (D.int .u8 (0)), (D.int .i64 (0)), (D.bool false), (D.bool false), (D.bool false), (D.bool false), (D.bool false), (D.int .i64 (0)), (D.int .i64 (0)), (D.int .i64 (0)), (D.int .i64 (0)), (D.int .i64 (0)), (D.int .u8 (0)), (D.int .u8 (0)), (D.int .i64 (0)), (D.bool false)], none⟩,
  ⟨(some 7), .mv (.k (D.int .i64 (0))), none⟩])
 (.seq (.reg [⟨(some 8), .mv (.k (D.int .i64 (0))), none⟩])
 (.seq (.seq (.reg [⟨(some 14), .mv (.t 0), none⟩,
  ⟨(some 15), .bin .neq (.t 14) (.k (D.int .i64 (3))), none⟩])
 (.cond (.t 15)
 (.seq (.seq (.reg [⟨(some 16), .mv (.t 2), none⟩,
  ⟨(some 17), .call false 247 [(.t 16)], none⟩,
  ⟨(some 18), .len (.t 17), none⟩,
  ⟨(some 19), .mv (.k (D.int .i64 (0))), none⟩])
 (.block 0 (.loop [(0, ⟨false, 0, false⟩), (8, ⟨false, 0, false⟩), (17, ⟨false, 0, false⟩), (18, ⟨false, 0, false⟩), (19, ⟨false, 0, false⟩), (4, ⟨true, 0, false⟩), (6, ⟨true, 0, false⟩)]
 (.seq (.reg [⟨(some 20), .bin .lss (.t 19) (.t 18), none⟩])
 (.seq (.cond (.t 20)
 .skip
 (.exit 0))
 (.seq (.block 1 (.seq (.reg [⟨(some 21), .ixs 7 (.t 17) (.t 19), none⟩,
  ⟨(some 22), .load true 7 (.t 21), none⟩,
  ⟨(some 10), .alloc [(D.int .i64 (0)), (D.int .i32 (0)), (D.int .u8 (0)), (D.int .u8 (0)), (D.int .u8 (0)), .sn, (D.str [])], none⟩,
  ⟨none, .store 7 (.t 10) (.t 22), none⟩])
 (.dreg [([], false, ⟨(some 23), .mv (.t 0), none⟩),
  ([0], false, ⟨(some 24), .load true 29 (.t 4), none⟩),
  ([0, 1], false, ⟨(some 25), .load true 7 (.t 10), none⟩),
  ([], false, ⟨(some 26), .call true 258 [(.t 23), (.t 24), (.t 25)], none⟩),
  ([0, 1, 2, 3], false, ⟨(some 27), .mv (.t 8), none⟩),
  ([0, 1, 2, 3, 4], false, ⟨(some 28), .mv (.t 0), none⟩),
  ([0, 1, 2, 3, 4, 5], false, ⟨(some 29), .load true 7 (.t 10), none⟩),
  ([4], false, ⟨(some 30), .call true 280 [(.t 28), (.t 29)], none⟩),
  ([], false, ⟨(some 31), .bin .add (.t 27) (.t 30), none⟩),
  ([4, 8], false, ⟨none, .store 29 (.t 4) (.t 26), none⟩),
  ([], true, ⟨(some 8), .mv (.t 31), none⟩)])))
 (.reg [⟨(some 32), .bin .add (.t 19) (.k (D.int .i64 (1))), none⟩,
  ⟨(some 19), .mv (.t 32), none⟩])))))))
 (.seq (.reg [⟨(some 33), .load true 29 (.t 4), none⟩,
  ⟨(some 34), .mv (.t 8), none⟩,
  ⟨none, .store 29 (.t 6) (.t 33), none⟩,
  ⟨(some 7), .mv (.t 34), none⟩])
 .ret))
 .skip))
 (.seq (.seq (.reg [⟨(some 11), .mv (.k (D.int .i64 (0))), none⟩])
 (.block 2 (.loop [(0, ⟨false, 0, false⟩), (2, ⟨false, 0, false⟩), (7, ⟨false, 0, false⟩), (8, ⟨false, 0, false⟩), (11, ⟨false, 0, false⟩), (4, ⟨true, 0, false⟩), (6, ⟨true, 0, false⟩)]
 (.seq (.seq (.reg [⟨(some 35), .mv (.t 11), none⟩,
  ⟨(some 36), .mv (.t 2), none⟩,
  ⟨(some 37), .len (.t 36), none⟩,
  ⟨(some 38), .bin .lss (.t 35) (.t 37), none⟩])
 (.cond (.t 38)
 .skip
 (.exit 2)))
 (.seq (.block 3 (.seq (.reg [⟨(some 41), .mv (.t 2), none⟩,
  ⟨(some 42), .mv (.t 11), none⟩,
  ⟨(some 43), .ixs 1 (.t 41) (.t 42), none⟩,
  ⟨(some 44), .load false 1 (.t 43), none⟩,
  ⟨(some 12), .mv (.t 44), none⟩])
 (.seq (.reg [⟨(some 45), .mv (.t 12), none⟩,
  ⟨(some 46), .cvi .i32 (.t 45), none⟩,
  ⟨(some 47), .build [(D.int .i64 (0)), (D.int .i32 (0)), (D.int .u8 (0)), (D.int .u8 (0)), (D.int .u8 (0)), .sn, (D.str [])] [(0, 1, (.k (D.int .i64 (1)))), (1, 1, (.t 46))], none⟩,
  ⟨(some 13), .alloc [(D.int .i64 (0)), (D.int .i32 (0)), (D.int .u8 (0)), (D.int .u8 (0)), (D.int .u8 (0)), .sn, (D.str [])], none⟩,
  ⟨none, .store 7 (.t 13) (.t 47), none⟩])
 (.seq (.block 4 (.seq (.reg [⟨(some 49), .mv (.t 12), none⟩,
  ⟨(some 50), .bin .eql (.t 49) (.k (D.int .u8 (27))), none⟩,
  ⟨(some 51), .mv (.t 50), none⟩,
  ⟨(some 52), .mv (.t 11), (some (51, true))⟩,
  ⟨(some 53), .bin .add (.t 52) (.k (D.int .i64 (1))), (some (51, true))⟩,
  ⟨(some 54), .mv (.t 2), (some (51, true))⟩,
  ⟨(some 55), .len (.t 54), (some (51, true))⟩,
  ⟨(some 56), .bin .eql (.t 53) (.t 55), (some (51, true))⟩,
  ⟨(some 57), .pick (.t 51) (.t 56) (.k (D.bool false)), none⟩,
  ⟨(some 48), .mv (.t 57), none⟩])
 (.cond (.t 48)
 (.seq (.reg [⟨(some 58), .load true 29 (.t 4), none⟩,
  ⟨(some 59), .mv (.t 8), none⟩,
  ⟨none, .store 29 (.t 6) (.t 58), none⟩,
  ⟨(some 7), .mv (.t 59), none⟩])
 .ret)
 (.seq (.reg [⟨(some 61), .mv (.t 12), none⟩,
  ⟨(some 62), .bin .eql (.t 61) (.k (D.int .u8 (27))), none⟩,
  ⟨(some 63), .mv (.t 62), none⟩,
  ⟨(some 64), .mv (.t 2), (some (63, true))⟩,
  ⟨(some 65), .mv (.t 11), (some (63, true))⟩,
  ⟨(some 66), .bin .add (.t 65) (.k (D.int .i64 (1))), (some (63, true))⟩,
  ⟨(some 67), .ixs 1 (.t 64) (.t 66), (some (63, true))⟩,
  ⟨(some 68), .load false 1 (.t 67), (some (63, true))⟩,
  ⟨(some 69), .bin .eql (.t 68) (.k (D.int .u8 (89))), (some (63, true))⟩,
  ⟨(some 70), .pick (.t 63) (.t 69) (.k (D.bool false)), none⟩,
  ⟨(some 60), .mv (.t 70), none⟩])
 (.cond (.t 60)
 (.seq (.seq (.reg [⟨(some 71), .mv (.t 11), none⟩,
  ⟨(some 72), .bin .add (.t 71) (.k (D.int .i64 (3))), none⟩,
  ⟨(some 73), .mv (.t 2), none⟩,
  ⟨(some 74), .len (.t 73), none⟩,
  ⟨(some 75), .bin .geq (.t 72) (.t 74), none⟩])
 (.cond (.t 75)
 (.seq (.reg [⟨(some 76), .load true 29 (.t 4), none⟩,
  ⟨(some 77), .mv (.t 8), none⟩,
  ⟨none, .store 29 (.t 6) (.t 76), none⟩,
  ⟨(some 7), .mv (.t 77), none⟩])
 .ret)
 .skip))
 (.seq (.dreg [([], false, ⟨(some 78), .mv (.t 2), none⟩),
  ([0], false, ⟨(some 79), .mv (.t 11), none⟩),
  ([0], false, ⟨(some 80), .bin .add (.t 79) (.k (D.int .i64 (2))), none⟩),
  ([], false, ⟨(some 81), .ixs 1 (.t 78) (.t 80), none⟩),
  ([], false, ⟨(some 82), .load false 1 (.t 81), none⟩),
  ([], false, ⟨(some 83), .cvi .i64 (.t 82), none⟩),
  ([], false, ⟨(some 84), .bin .sub (.t 83) (.k (D.int .i64 (32))), none⟩),
  ([], false, ⟨(some 85), .mx [(.t 84), (.k (D.int .i64 (0)))], none⟩),
  ([0, 1, 2, 3, 4, 5, 6, 7], false, ⟨(some 86), .fad 0 (.t 4), none⟩),
  ([0, 1, 2, 3, 4, 5, 6, 7], false, ⟨(some 87), .fad 0 (.t 86), none⟩),
  ([0, 1, 2, 3, 4, 5, 6, 7], false, ⟨(some 88), .load false 1 (.t 87), none⟩),
  ([0, 1, 2, 3, 4, 5, 6, 7], false, ⟨(some 89), .bin .sub (.t 88) (.k (D.int .i64 (1))), none⟩),
  ([], false, ⟨(some 90), .mn [(.t 85), (.t 89)], none⟩),
  ([0, 1, 2, 3, 4, 5, 6, 7, 8, 9, 10, 11, 12], false, ⟨(some 91), .mv (.t 2), none⟩),
  ([0, 1, 2, 3, 4, 5, 6, 7, 8, 9, 10, 11, 12, 13], false, ⟨(some 92), .mv (.t 11), none⟩),
  ([0, 1, 2, 3, 4, 5, 6, 7, 8, 9, 10, 11, 12, 13], false, ⟨(some 93), .bin .add (.t 92) (.k (D.int .i64 (3))), none⟩),
  ([0, 1, 2, 3, 4, 5, 6, 7, 8, 9, 10, 11, 12], false, ⟨(some 94), .ixs 1 (.t 91) (.t 93), none⟩),
  ([0, 1, 2, 3, 4, 5, 6, 7, 8, 9, 10, 11, 12], false, ⟨(some 95), .load false 1 (.t 94), none⟩),
  ([0, 1, 2, 3, 4, 5, 6, 7, 8, 9, 10, 11, 12], false, ⟨(some 96), .cvi .i64 (.t 95), none⟩),
  ([0, 1, 2, 3, 4, 5, 6, 7, 8, 9, 10, 11, 12], false, ⟨(some 97), .bin .sub (.t 96) (.k (D.int .i64 (32))), none⟩),
  ([0, 1, 2, 3, 4, 5, 6, 7, 8, 9, 10, 11, 12], false, ⟨(some 98), .mx [(.t 97), (.k (D.int .i64 (0)))], none⟩),
  ([0, 1, 2, 3, 4, 5, 6, 7, 8, 9, 10, 11, 12, 13, 14, 15, 16, 17, 18, 19, 20], false, ⟨(some 99), .fad 0 (.t 4), none⟩),
  ([0, 1, 2, 3, 4, 5, 6, 7, 8, 9, 10, 11, 12, 13, 14, 15, 16, 17, 18, 19, 20], false, ⟨(some 100), .fad 1 (.t 99), none⟩),
  ([0, 1, 2, 3, 4, 5, 6, 7, 8, 9, 10, 11, 12, 13, 14, 15, 16, 17, 18, 19, 20], false, ⟨(some 101), .load false 1 (.t 100), none⟩),
  ([0, 1, 2, 3, 4, 5, 6, 7, 8, 9, 10, 11, 12, 13, 14, 15, 16, 17, 18, 19, 20], false, ⟨(some 102), .bin .sub (.t 101) (.k (D.int .i64 (1))), none⟩),
  ([0, 1, 2, 3, 4, 5, 6, 7, 8, 9, 10, 11, 12], false, ⟨(some 103), .mn [(.t 98), (.t 102)], none⟩),
  ([13, 14, 15, 16, 17, 18, 19, 20, 24, 25], false, ⟨(some 104), .fad 3 (.t 4), none⟩),
  ([13, 14, 15, 16, 17, 18, 19, 20, 24, 25], false, ⟨none, .store 1 (.t 104) (.t 90), none⟩),
  ([], true, ⟨(some 105), .fad 4 (.t 4), none⟩),
  ([], true, ⟨none, .store 1 (.t 105) (.t 103), none⟩),
  ([], true, ⟨(some 106), .fad 5 (.t 4), none⟩),
  ([], true, ⟨none, .store 1 (.t 106) (.k (D.bool false)), none⟩)])
 (.seq (.reg [⟨(some 107), .mv (.t 11), none⟩,
  ⟨(some 108), .bin .add (.t 107) (.k (D.int .i64 (3))), none⟩,
  ⟨(some 11), .mv (.t 108), none⟩])
 (.exit 3))))
 (.seq (.reg [⟨(some 110), .mv (.t 12), none⟩,
  ⟨(some 111), .bin .eql (.t 110) (.k (D.int .u8 (27))), none⟩,
  ⟨(some 109), .mv (.t 111), none⟩])
 (.cond (.t 109)
 (.seq (.reg [⟨(some 112), .mv (.t 11), none⟩,
  ⟨(some 113), .bin .add (.t 112) (.k (D.int .i64 (1))), none⟩,
  ⟨(some 11), .mv (.t 113), none⟩])
 (.reg [⟨(some 114), .mv (.t 2), none⟩,
  ⟨(some 115), .mv (.t 11), none⟩,
  ⟨(some 116), .ixs 1 (.t 114) (.t 115), none⟩,
  ⟨(some 117), .load false 1 (.t 116), none⟩,
  ⟨(some 118), .build [(D.int .i64 (0)), (D.int .i32 (0)), (D.int .u8 (0)), (D.int .u8 (0)), (D.int .u8 (0)), .sn, (D.str [])] [(0, 1, (.k (D.int .i64 (3)))), (4, 1, (.t 117))], none⟩,
  ⟨none, .store 7 (.t 13) (.t 118), none⟩]))
 (.seq (.reg [⟨(some 120), .mv (.t 12), none⟩,
  ⟨(some 121), .bin .lss (.t 120) (.k (D.int .u8 (32))), none⟩,
  ⟨(some 119), .mv (.t 121), none⟩])
 (.cond (.t 119)
 (.reg [⟨(some 122), .mv (.t 12), none⟩,
  ⟨(some 123), .build [(D.int .i64 (0)), (D.int .i32 (0)), (D.int .u8 (0)), (D.int .u8 (0)), (D.int .u8 (0)), .sn, (D.str [])] [(0, 1, (.k (D.int .i64 (2)))), (4, 1, (.t 122))], none⟩,
  ⟨none, .store 7 (.t 13) (.t 123), none⟩])
 .skip)))))))))
 (.dreg [([], false, ⟨(some 124), .mv (.t 0), none⟩),
  ([0], false, ⟨(some 125), .load true 29 (.t 4), none⟩),
  ([0, 1], false, ⟨(some 126), .load true 7 (.t 13), none⟩),
  ([], false, ⟨(some 127), .call true 258 [(.t 124), (.t 125), (.t 126)], none⟩),
  ([0, 1, 2, 3], false, ⟨(some 128), .mv (.t 8), none⟩),
  ([0, 1, 2, 3, 4], false, ⟨(some 129), .mv (.t 0), none⟩),
  ([0, 1, 2, 3, 4, 5], false, ⟨(some 130), .load true 7 (.t 13), none⟩),
  ([4], false, ⟨(some 131), .call true 280 [(.t 129), (.t 130)], none⟩),
  ([], false, ⟨(some 132), .bin .add (.t 128) (.t 131), none⟩),
  ([4, 8], false, ⟨none, .store 29 (.t 4) (.t 127), none⟩),
  ([], true, ⟨(some 8), .mv (.t 132), none⟩)])))))
 (.reg [⟨(some 39), .mv (.t 11), none⟩,
  ⟨(some 40), .bin .add (.t 39) (.k (D.int .i64 (1))), none⟩,
  ⟨(some 11), .mv (.t 40), none⟩]))))))
 (.seq (.reg [⟨(some 133), .load true 29 (.t 4), none⟩,
  ⟨(some 134), .mv (.t 8), none⟩,
  ⟨none, .store 29 (.t 6) (.t 133), none⟩,
  ⟨(some 7), .mv (.t 134), none⟩])
 .ret)))))⟩
def a173 : Ann := ⟨[(4, [(0, ⟨false, 0, false⟩), (1, ⟨false, 0, false⟩), (4, ⟨false, 0, false⟩), (5, ⟨false, 0, false⟩)])], [⟨false, 0, false⟩], []⟩
def s173 : SFun := ⟨2, 26, [], [(.tmp 4, ⟨false, 0, false⟩)],
 (.seq (.reg [⟨(some 4), .mv (.k (D.bool false)), none⟩])
 (.seq (.seq (.reg [⟨(some 6), .mv (.t 0), none⟩,
  ⟨(some 7), .len (.t 6), none⟩,
  ⟨(some 8), .mv (.t 1), none⟩,
  ⟨(some 9), .len (.t 8), none⟩,
  ⟨(some 10), .bin .neq (.t 7) (.t 9), none⟩])
 (.cond (.t 10)
 (.seq (.reg [⟨(some 4), .mv (.k (D.bool false)), none⟩])
 .ret)
 .skip))
 (.seq (.seq (.reg [⟨(some 5), .mv (.k (D.int .i64 (0))), none⟩])
 (.block 0 (.loop [(0, ⟨false, 0, false⟩), (1, ⟨false, 0, false⟩), (4, ⟨false, 0, false⟩), (5, ⟨false, 0, false⟩)]
 (.seq (.seq (.reg [⟨(some 11), .mv (.t 5), none⟩,
  ⟨(some 12), .mv (.t 0), none⟩,
  ⟨(some 13), .len (.t 12), none⟩,
  ⟨(some 14), .bin .lss (.t 11) (.t 13), none⟩])
 (.cond (.t 14)
 .skip
 (.exit 0)))
 (.seq (.block 1 (.seq (.dreg [([], false, ⟨(some 17), .mv (.t 0), none⟩),
  ([0], false, ⟨(some 18), .mv (.t 5), none⟩),
  ([], false, ⟨(some 19), .ixs 5 (.t 17) (.t 18), none⟩),
  ([], false, ⟨(some 20), .load true 5 (.t 19), none⟩),
  ([0, 1, 2, 3], false, ⟨(some 21), .mv (.t 1), none⟩),
  ([0, 1, 2, 3, 4], false, ⟨(some 22), .mv (.t 5), none⟩),
  ([0, 1, 2, 3], false, ⟨(some 23), .ixs 5 (.t 21) (.t 22), none⟩),
  ([0, 1, 2, 3], false, ⟨(some 24), .load true 5 (.t 23), none⟩),
  ([], true, ⟨(some 25), .eqa true [1, 1, 1, 1, 1] (.t 20) (.t 24), none⟩)])
 (.cond (.t 25)
 (.seq (.reg [⟨(some 4), .mv (.k (D.bool false)), none⟩])
 .ret)
 .skip)))
 (.reg [⟨(some 15), .mv (.t 5), none⟩,
  ⟨(some 16), .bin .add (.t 15) (.k (D.int .i64 (1))), none⟩,
  ⟨(some 5), .mv (.t 16), none⟩]))))))
 (.seq (.reg [⟨(some 4), .mv (.k (D.bool true)), none⟩])
 .ret))))⟩
def a179 : Ann := ⟨[], [⟨false, 0, false⟩], []⟩
def s179 : SFun := ⟨2, 51, [], [(.tmp 4, ⟨false, 0, false⟩)],
 (.seq (.reg [⟨(some 2), .box 6 (.t 0), none⟩,
  ⟨(some 3), .box 6 (.t 1), none⟩,
  ⟨(some 4), .mv (.k (D.bool false)), none⟩])
 (.seq (.reg [⟨(some 5), .fad 0 (.t 2), none⟩,
  ⟨(some 6), .fad 0 (.t 5), none⟩,
  ⟨(some 7), .load false 1 (.t 6), none⟩,
  ⟨(some 8), .fad 0 (.t 3), none⟩,
  ⟨(some 9), .fad 0 (.t 8), none⟩,
  ⟨(some 10), .load false 1 (.t 9), none⟩,
  ⟨(some 11), .bin .eql (.t 7) (.t 10), none⟩,
  ⟨(some 12), .mv (.t 11), none⟩,
  ⟨(some 13), .fad 0 (.t 2), (some (12, true))⟩,
  ⟨(some 14), .fad 1 (.t 13), (some (12, true))⟩,
  ⟨(some 15), .load false 1 (.t 14), (some (12, true))⟩,
  ⟨(some 16), .fad 0 (.t 3), (some (12, true))⟩,
  ⟨(some 17), .fad 1 (.t 16), (some (12, true))⟩,
  ⟨(some 18), .load false 1 (.t 17), (some (12, true))⟩,
  ⟨(some 19), .bin .eql (.t 15) (.t 18), (some (12, true))⟩,
  ⟨(some 20), .pick (.t 12) (.t 19) (.k (D.bool false)), none⟩,
  ⟨(some 21), .mv (.t 20), none⟩,
  ⟨(some 22), .fad 0 (.t 2), (some (21, true))⟩,
  ⟨(some 23), .fad 2 (.t 22), (some (21, true))⟩,
  ⟨(some 24), .load false 1 (.t 23), (some (21, true))⟩,
  ⟨(some 25), .fad 0 (.t 3), (some (21, true))⟩,
  ⟨(some 26), .fad 2 (.t 25), (some (21, true))⟩,
  ⟨(some 27), .load false 1 (.t 26), (some (21, true))⟩,
  ⟨(some 28), .call false 173 [(.t 24), (.t 27)], (some (21, true))⟩,
  ⟨(some 29), .pick (.t 21) (.t 28) (.k (D.bool false)), none⟩,
  ⟨(some 30), .mv (.t 29), none⟩,
  ⟨(some 31), .fad 3 (.t 2), (some (30, true))⟩,
  ⟨(some 32), .load false 1 (.t 31), (some (30, true))⟩,
  ⟨(some 33), .fad 3 (.t 3), (some (30, true))⟩,
  ⟨(some 34), .load false 1 (.t 33), (some (30, true))⟩,
  ⟨(some 35), .bin .eql (.t 32) (.t 34), (some (30, true))⟩,
  ⟨(some 36), .pick (.t 30) (.t 35) (.k (D.bool false)), none⟩,
  ⟨(some 37), .mv (.t 36), none⟩,
  ⟨(some 38), .fad 4 (.t 2), (some (37, true))⟩,
  ⟨(some 39), .load false 1 (.t 38), (some (37, true))⟩,
  ⟨(some 40), .fad 4 (.t 3), (some (37, true))⟩,
  ⟨(some 41), .load false 1 (.t 40), (some (37, true))⟩,
  ⟨(some 42), .bin .eql (.t 39) (.t 41), (some (37, true))⟩,
  ⟨(some 43), .pick (.t 37) (.t 42) (.k (D.bool false)), none⟩,
  ⟨(some 44), .mv (.t 43), none⟩,
  ⟨(some 45), .fad 5 (.t 2), (some (44, true))⟩,
  ⟨(some 46), .load false 1 (.t 45), (some (44, true))⟩,
  ⟨(some 47), .fad 5 (.t 3), (some (44, true))⟩,
  ⟨(some 48), .load false 1 (.t 47), (some (44, true))⟩,
  ⟨(some 49), .binb .eql (.t 46) (.t 48), (some (44, true))⟩,
  ⟨(some 50), .pick (.t 44) (.t 49) (.k (D.bool false)), none⟩,
  ⟨(some 4), .mv (.t 50), none⟩])
 .ret))⟩
def a350 : Ann := ⟨[], [⟨false, 0, false⟩], []⟩
def s350 : SFun := ⟨1, 12, [], [(.tmp 2, ⟨false, 0, false⟩)],
 (.seq (.reg [⟨(some 1), .box 6 (.t 0), none⟩,
  ⟨(some 2), .mv (.k (D.int .i64 (0))), none⟩])
 (.seq (.reg [⟨(some 3), .fad 0 (.t 1), none⟩,
  ⟨(some 4), .fad 0 (.t 3), none⟩,
  ⟨(some 5), .load false 1 (.t 4), none⟩,
  ⟨(some 6), .fad 0 (.t 1), none⟩,
  ⟨(some 7), .fad 1 (.t 6), none⟩,
  ⟨(some 8), .load false 1 (.t 7), none⟩,
  ⟨(some 9), .bin .mul (.t 5) (.t 8), none⟩,
  ⟨(some 10), .bin .add (.t 9) (.k (D.int .i64 (1))), none⟩,
  ⟨(some 11), .bin .mul (.k (D.int .i64 (40))) (.t 10), none⟩,
  ⟨(some 2), .mv (.t 11), none⟩])
 .ret))⟩
def a218 : Ann := ⟨[], [⟨false, 0, false⟩], []⟩
def s218 : SFun := ⟨0, 54, [], [(.tmp 0, ⟨false, 0, false⟩)],
 (.seq (.reg [⟨(some 0), .mv (.k (D.bool false)), none⟩])
 (.seq (.reg [⟨(some 6), .call false 372 [(.k (D.int .i64 (2))), (.k (D.int .i64 (2)))], none⟩,
  ⟨(some 1), .alloc [(D.int .i64 (0)), (D.int .i64 (0)), .sn, (D.int .i64 (0)), (D.int .i64 (0)), (D.bool false), (D.int .i64 (0)), (D.int .i64 (0)), (D.int .i64 (0)), (D.int .i64 (0)), (D.int .i64 (0)), (D.int .u64 (0)), (D.int .u8 (0)), (D.int .u8 (0)), (D.int .i64 (0)), (D.bool false), (D.bool false), (D.bool false), (D.bool false), (D.bool false), (D.int .i64 (0)), (D.int .i64 (0)), (D.int .i64 (0)), (D.int .i64 (0)), (D.int .i64 (0)), (D.int .u8 (0)), (D.int .u8 (0)), (D.int .i64 (0)), (D.bool false)], none⟩,
  ⟨none, .store 29 (.t 1) (.t 6), none⟩])
 (.seq (.reg [⟨(some 7), .load true 29 (.t 1), none⟩,
  ⟨(some 8), .call false 270 [(.t 7)], none⟩,
  ⟨(some 2), .alloc [(D.int .i64 (0)), (D.int .i64 (0)), .sn, (D.int .i64 (0)), (D.int .i64 (0)), (D.bool false)], none⟩,
  ⟨none, .store 6 (.t 2) (.t 8), none⟩])
 (.seq (.reg [⟨(some 9), .fad 0 (.t 2), none⟩,
  ⟨(some 10), .load true 3 (.t 9), none⟩,
  ⟨(some 11), .fad 8 (.t 1), none⟩,
  ⟨(some 12), .load true 3 (.t 11), none⟩,
  ⟨(some 13), .call false 152 [(.t 10), (.k (D.int .i64 (1))), (.k (D.int .i64 (1))), (.k (D.int .i32 (120))), (.t 12)], none⟩,
  ⟨(some 14), .fad 0 (.t 2), none⟩,
  ⟨none, .store 3 (.t 14) (.t 13), none⟩])
 (.seq (.reg [⟨(some 15), .load true 29 (.t 1), none⟩,
  ⟨(some 16), .load true 6 (.t 2), none⟩,
  ⟨(some 17), .call false 349 [(.k (D.int .i64 (1))), (.t 15), (.t 16)], none⟩,
  ⟨(some 3), .mv (.t 17), none⟩])
 (.seq (.reg [⟨(some 19), .load true 29 (.t 1), none⟩,
  ⟨(some 20), .mv (.t 3), none⟩,
  ⟨(some 21), .call false 259 [(.k (D.int .i64 (1))), (.t 19), (.t 20)], none⟩,
  ⟨(some 18), .mv (.t 21), none⟩,
  ⟨(some 22), .ext (.t 18) 0, none⟩,
  ⟨(some 23), .ext (.t 18) 1, none⟩,
  ⟨(some 4), .alloc [(D.int .i64 (0)), (D.int .i64 (0)), .sn, (D.int .i64 (0)), (D.int .i64 (0)), (D.bool false), (D.int .i64 (0)), (D.int .i64 (0)), (D.int .i64 (0)), (D.int .i64 (0)), (D.int .i64 (0)), (D.int .u64 (0)), (D.int .u8 (0)), (D.int .u8 (0)), (D.int .i64 (0)), (D.bool false), (D.bool false), (D.bool false), (D.bool false), (D.bool false), (D.int .i64 (0)), (D.int .i64 (0)), (D.int .i64 (0)), (D.int .i64 (0)), (D.int .i64 (0)), (D.int .u8 (0)), (D.int .u8 (0)), (D.int .i64 (0)), (D.bool false)], none⟩,
  ⟨none, .store 29 (.t 4) (.t 22), none⟩,
  ⟨(some 5), .mv (.t 23), none⟩])
 (.seq (.dreg [([], true, ⟨(some 24), .mv (.t 3), none⟩),
  ([], true, ⟨(some 25), .len (.t 24), none⟩),
  ([], true, ⟨(some 26), .bin .gtr (.t 25) (.k (D.int .i64 (0))), none⟩),
  ([], true, ⟨(some 27), .mv (.t 26), none⟩),
  ([], false, ⟨(some 28), .load true 29 (.t 4), (some (27, true))⟩),
  ([], false, ⟨(some 29), .callr 270 [(.t 28)], (some (27, true))⟩),
  ([0, 1], false, ⟨(some 30), .load true 6 (.t 2), (some (27, true))⟩),
  ([], true, ⟨(some 31), .call false 179 [(.t 29), (.t 30)], (some (27, true))⟩),
  ([], true, ⟨(some 32), .pick (.t 27) (.t 31) (.k (D.bool false)), none⟩),
  ([], true, ⟨(some 33), .mv (.t 32), none⟩),
  ([], true, ⟨(some 34), .mv (.t 5), (some (33, true))⟩),
  ([], true, ⟨(some 35), .bin .eql (.t 34) (.k (D.int .i64 (0))), (some (33, true))⟩),
  ([], true, ⟨(some 36), .pick (.t 33) (.t 35) (.k (D.bool false)), none⟩),
  ([], true, ⟨(some 37), .mv (.t 36), none⟩),
  ([], false, ⟨(some 38), .load true 29 (.t 4), (some (37, true))⟩),
  ([0], false, ⟨(some 39), .load true 29 (.t 4), (some (37, true))⟩),
  ([0], false, ⟨(some 40), .callr 270 [(.t 39)], (some (37, true))⟩),
  ([], true, ⟨(some 41), .call false 349 [(.k (D.int .i64 (1))), (.t 38), (.t 40)], (some (37, true))⟩),
  ([], true, ⟨(some 42), .len (.t 41), (some (37, true))⟩),
  ([], true, ⟨(some 43), .bin .eql (.t 42) (.k (D.int .i64 (0))), (some (37, true))⟩),
  ([], true, ⟨(some 44), .pick (.t 37) (.t 43) (.k (D.bool false)), none⟩),
  ([], true, ⟨(some 45), .mv (.t 44), none⟩),
  ([], true, ⟨(some 46), .load true 29 (.t 1), (some (45, true))⟩),
  ([], true, ⟨(some 47), .call false 351 [(.k (D.int .i64 (1))), (.t 46)], (some (45, true))⟩),
  ([], true, ⟨(some 48), .pick (.t 45) (.t 47) (.k (D.bool false)), none⟩),
  ([], true, ⟨(some 49), .mv (.t 48), none⟩),
  ([], true, ⟨(some 50), .load true 6 (.t 2), (some (49, true))⟩),
  ([], true, ⟨(some 51), .call false 350 [(.t 50)], (some (49, true))⟩),
  ([], true, ⟨(some 52), .bin .eql (.t 51) (.k (D.int .i64 (200))), (some (49, true))⟩),
  ([], true, ⟨(some 53), .pick (.t 49) (.t 52) (.k (D.bool false)), none⟩),
  ([], true, ⟨(some 0), .mv (.t 53), none⟩)])
 .ret)))))))⟩
end Go.Proofs.YtbpaojgkkggcgabGreatDoor.LgTPlanRuns
