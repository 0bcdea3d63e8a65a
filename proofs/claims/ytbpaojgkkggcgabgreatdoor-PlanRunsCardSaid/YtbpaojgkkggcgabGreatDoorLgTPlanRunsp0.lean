import Derived.Test.YtbpaojgkkggcgabGreatDoorRows
import Derived.Test.YtbpaojgkkggcgabGreatDoorLgW1
import Derived.RowKit
/-
  The seat's functions, as this work's tool printed them.
-/
namespace Go.Proofs.YtbpaojgkkggcgabGreatDoor.LgTPlanRuns
open Go Lg
set_option maxRecDepth 100000
def a107 : Ann := ⟨[], [⟨false, 0, false⟩], []⟩
def s107 : SFun := ⟨0, 2, [], [(.cell 0 true 3, ⟨false, 0, false⟩)],
 (.seq (.reg [⟨(some 0), .alloc [(D.int .i64 (0)), (D.int .i64 (0)), (D.int .i64 (0))], none⟩])
 (.seq (.reg [⟨(some 1), .build [(D.int .i64 (0)), (D.int .i64 (0)), (D.int .i64 (0))] [(0, 1, (.k (D.int .i64 (-1)))), (1, 1, (.k (D.int .i64 (-1))))], none⟩,
  ⟨none, .store 3 (.t 0) (.t 1), none⟩])
 .ret))⟩
def a106 : Ann := ⟨[], [⟨false, 0, false⟩], []⟩
def s106 : SFun := ⟨1, 5, [], [(.cell 2 true 5, ⟨false, 0, false⟩)],
 (.seq (.reg [⟨(some 1), .box 3 (.t 0), none⟩,
  ⟨(some 2), .alloc [(D.int .i32 (0)), (D.int .i64 (0)), (D.int .i64 (0)), (D.int .i64 (0)), (D.int .i64 (0))], none⟩])
 (.seq (.reg [⟨(some 3), .load true 3 (.t 1), none⟩,
  ⟨(some 4), .build [(D.int .i32 (0)), (D.int .i64 (0)), (D.int .i64 (0)), (D.int .i64 (0)), (D.int .i64 (0))] [(0, 1, (.k (D.int .i32 (32)))), (2, 3, (.t 3))], none⟩,
  ⟨none, .store 5 (.t 2) (.t 4), none⟩])
 .ret))⟩
def a444 : Ann := ⟨[], [⟨false, 0, false⟩, ⟨false, 0, false⟩], []⟩
def s444 : SFun := ⟨2, 17, [], [(.tmp 4, ⟨false, 0, false⟩), (.tmp 5, ⟨false, 0, false⟩)],
 (.seq (.reg [⟨(some 4), .mv (.k (D.int .u32 (0))), none⟩,
  ⟨(some 5), .mv (.k (D.int .u32 (0))), none⟩])
 (.seq (.reg [⟨(some 7), .mv (.t 0), none⟩,
  ⟨(some 8), .cvi .u64 (.t 7), none⟩,
  ⟨(some 9), .mv (.t 1), none⟩,
  ⟨(some 10), .cvi .u64 (.t 9), none⟩,
  ⟨(some 11), .bin .mul (.t 8) (.t 10), none⟩,
  ⟨(some 6), .mv (.t 11), none⟩])
 (.seq (.reg [⟨(some 12), .mv (.t 6), none⟩,
  ⟨(some 13), .bin .shr (.t 12) (.k (D.int .u64 (32))), none⟩,
  ⟨(some 14), .cvi .u32 (.t 13), none⟩,
  ⟨(some 15), .mv (.t 6), none⟩,
  ⟨(some 16), .cvi .u32 (.t 15), none⟩,
  ⟨(some 4), .mv (.t 14), none⟩,
  ⟨(some 5), .mv (.t 16), none⟩])
 .ret)))⟩
def a445 : Ann := ⟨[], [⟨false, 0, false⟩, ⟨false, 0, false⟩], []⟩
def s445 : SFun := ⟨2, 51, [], [(.tmp 4, ⟨false, 0, false⟩), (.tmp 5, ⟨false, 0, false⟩)],
 (.seq (.reg [⟨(some 4), .mv (.k (D.int .u64 (0))), none⟩,
  ⟨(some 5), .mv (.k (D.int .u64 (0))), none⟩])
 (.seq (.reg [⟨(some 14), .mv (.t 0), none⟩,
  ⟨(some 15), .bin .and (.t 14) (.k (D.int .u64 (4294967295))), none⟩,
  ⟨(some 6), .mv (.t 15), none⟩])
 (.seq (.reg [⟨(some 16), .mv (.t 0), none⟩,
  ⟨(some 17), .bin .shr (.t 16) (.k (D.int .u64 (32))), none⟩,
  ⟨(some 7), .mv (.t 17), none⟩])
 (.seq (.reg [⟨(some 18), .mv (.t 1), none⟩,
  ⟨(some 19), .bin .and (.t 18) (.k (D.int .u64 (4294967295))), none⟩,
  ⟨(some 8), .mv (.t 19), none⟩])
 (.seq (.reg [⟨(some 20), .mv (.t 1), none⟩,
  ⟨(some 21), .bin .shr (.t 20) (.k (D.int .u64 (32))), none⟩,
  ⟨(some 9), .mv (.t 21), none⟩])
 (.seq (.reg [⟨(some 22), .mv (.t 6), none⟩,
  ⟨(some 23), .mv (.t 8), none⟩,
  ⟨(some 24), .bin .mul (.t 22) (.t 23), none⟩,
  ⟨(some 10), .mv (.t 24), none⟩])
 (.seq (.reg [⟨(some 25), .mv (.t 7), none⟩,
  ⟨(some 26), .mv (.t 8), none⟩,
  ⟨(some 27), .bin .mul (.t 25) (.t 26), none⟩,
  ⟨(some 28), .mv (.t 10), none⟩,
  ⟨(some 29), .bin .shr (.t 28) (.k (D.int .u64 (32))), none⟩,
  ⟨(some 30), .bin .add (.t 27) (.t 29), none⟩,
  ⟨(some 11), .mv (.t 30), none⟩])
 (.seq (.reg [⟨(some 31), .mv (.t 11), none⟩,
  ⟨(some 32), .bin .and (.t 31) (.k (D.int .u64 (4294967295))), none⟩,
  ⟨(some 12), .mv (.t 32), none⟩])
 (.seq (.reg [⟨(some 33), .mv (.t 11), none⟩,
  ⟨(some 34), .bin .shr (.t 33) (.k (D.int .u64 (32))), none⟩,
  ⟨(some 13), .mv (.t 34), none⟩])
 (.seq (.reg [⟨(some 35), .mv (.t 12), none⟩,
  ⟨(some 36), .mv (.t 6), none⟩,
  ⟨(some 37), .mv (.t 9), none⟩,
  ⟨(some 38), .bin .mul (.t 36) (.t 37), none⟩,
  ⟨(some 39), .bin .add (.t 35) (.t 38), none⟩,
  ⟨(some 12), .mv (.t 39), none⟩])
 (.seq (.reg [⟨(some 40), .mv (.t 7), none⟩,
  ⟨(some 41), .mv (.t 9), none⟩,
  ⟨(some 42), .bin .mul (.t 40) (.t 41), none⟩,
  ⟨(some 43), .mv (.t 13), none⟩,
  ⟨(some 44), .bin .add (.t 42) (.t 43), none⟩,
  ⟨(some 45), .mv (.t 12), none⟩,
  ⟨(some 46), .bin .shr (.t 45) (.k (D.int .u64 (32))), none⟩,
  ⟨(some 47), .bin .add (.t 44) (.t 46), none⟩,
  ⟨(some 4), .mv (.t 47), none⟩])
 (.seq (.reg [⟨(some 48), .mv (.t 0), none⟩,
  ⟨(some 49), .mv (.t 1), none⟩,
  ⟨(some 50), .bin .mul (.t 48) (.t 49), none⟩,
  ⟨(some 5), .mv (.t 50), none⟩])
 .ret))))))))))))⟩
def a443 : Ann := ⟨[], [⟨false, 0, false⟩, ⟨false, 0, false⟩], []⟩
def s443 : SFun := ⟨2, 30, [], [(.tmp 4, ⟨false, 0, false⟩), (.tmp 5, ⟨false, 0, false⟩)],
 (.seq (.reg [⟨(some 4), .mv (.k (D.int .u64 (0))), none⟩,
  ⟨(some 5), .mv (.k (D.int .u64 (0))), none⟩])
 (.seq (.cond (.k (D.bool false))
 (.seq (.reg [⟨(some 11), .mv (.t 0), none⟩,
  ⟨(some 12), .cvi .u32 (.t 11), none⟩,
  ⟨(some 13), .mv (.t 1), none⟩,
  ⟨(some 14), .cvi .u32 (.t 13), none⟩,
  ⟨(some 15), .call false 444 [(.t 12), (.t 14)], none⟩,
  ⟨(some 10), .mv (.t 15), none⟩,
  ⟨(some 16), .ext (.t 10) 0, none⟩,
  ⟨(some 17), .ext (.t 10) 1, none⟩,
  ⟨(some 6), .mv (.t 16), none⟩,
  ⟨(some 7), .mv (.t 17), none⟩])
 (.seq (.reg [⟨(some 18), .mv (.t 6), none⟩,
  ⟨(some 19), .cvi .u64 (.t 18), none⟩,
  ⟨(some 20), .mv (.t 7), none⟩,
  ⟨(some 21), .cvi .u64 (.t 20), none⟩,
  ⟨(some 4), .mv (.t 19), none⟩,
  ⟨(some 5), .mv (.t 21), none⟩])
 .ret))
 .skip)
 (.seq (.reg [⟨(some 23), .mv (.t 0), none⟩,
  ⟨(some 24), .mv (.t 1), none⟩,
  ⟨(some 25), .call false 445 [(.t 23), (.t 24)], none⟩,
  ⟨(some 22), .mv (.t 25), none⟩,
  ⟨(some 26), .ext (.t 22) 0, none⟩,
  ⟨(some 27), .ext (.t 22) 1, none⟩,
  ⟨(some 8), .mv (.t 26), none⟩,
  ⟨(some 9), .mv (.t 27), none⟩])
 (.seq (.reg [⟨(some 28), .mv (.t 8), none⟩,
  ⟨(some 29), .mv (.t 9), none⟩,
  ⟨(some 4), .mv (.t 28), none⟩,
  ⟨(some 5), .mv (.t 29), none⟩])
 .ret))))⟩
def a465 : Ann := ⟨[(8, [(8, ⟨false, 0, false⟩), (7, ⟨true, 5, false⟩)])], [⟨true, 5, false⟩], []⟩
def s465 : SFun := ⟨2, 48, [], [(.tmp 4, ⟨true, 5, false⟩)],
 (.seq (.reg [⟨(some 4), .mv (.k .sn), none⟩])
 (.seq (.seq (.reg [⟨(some 9), .mv (.t 1), none⟩,
  ⟨(some 10), .bin .lss (.t 9) (.k (D.int .i64 (0))), none⟩])
 (.cond (.t 10)
 (.reg [⟨(some 11), .bad, none⟩,
  ⟨none, .bad, none⟩])
 .skip))
 (.seq (.reg [⟨(some 13), .mv (.t 0), none⟩,
  ⟨(some 14), .len (.t 13), none⟩,
  ⟨(some 15), .cvi .u64 (.t 14), none⟩,
  ⟨(some 16), .mv (.t 1), none⟩,
  ⟨(some 17), .cvi .u64 (.t 16), none⟩,
  ⟨(some 18), .call false 443 [(.t 15), (.t 17)], none⟩,
  ⟨(some 12), .mv (.t 18), none⟩,
  ⟨(some 19), .ext (.t 12) 0, none⟩,
  ⟨(some 20), .ext (.t 12) 1, none⟩,
  ⟨(some 5), .mv (.t 19), none⟩,
  ⟨(some 6), .mv (.t 20), none⟩])
 (.seq (.seq (.reg [⟨(some 21), .mv (.t 5), none⟩,
  ⟨(some 22), .bin .gtr (.t 21) (.k (D.int .u64 (0))), none⟩,
  ⟨(some 23), .mv (.t 22), none⟩,
  ⟨(some 24), .mv (.t 6), (some (23, false))⟩,
  ⟨(some 25), .bin .gtr (.t 24) (.k (D.int .u64 (9223372036854775807))), (some (23, false))⟩,
  ⟨(some 26), .pick (.t 23) (.k (D.bool true)) (.t 25), none⟩])
 (.cond (.t 26)
 (.reg [⟨(some 27), .bad, none⟩,
  ⟨none, .bad, none⟩])
 .skip))
 (.seq (.reg [⟨(some 28), .mv (.t 6), none⟩,
  ⟨(some 29), .cvi .i64 (.t 28), none⟩,
  ⟨(some 30), .mksl 5 40 [(D.int .i32 (0)), (D.int .i64 (0)), (D.int .i64 (0)), (D.int .i64 (0)), (D.int .i64 (0))] (.t 29), none⟩,
  ⟨(some 7), .mv (.t 30), none⟩])
 (.seq (.reg [⟨(some 31), .mv (.t 7), none⟩,
  ⟨(some 32), .mv (.t 0), none⟩,
  ⟨(some 33), .copy 5 (.t 31) (.t 32), none⟩,
  ⟨(some 8), .mv (.t 33), none⟩])
 (.seq (.block 0 (.loop [(8, ⟨false, 0, false⟩), (7, ⟨true, 5, false⟩)]
 (.seq (.seq (.reg [⟨(some 34), .mv (.t 8), none⟩,
  ⟨(some 35), .mv (.t 7), none⟩,
  ⟨(some 36), .len (.t 35), none⟩,
  ⟨(some 37), .bin .lss (.t 34) (.t 36), none⟩])
 (.cond (.t 37)
 .skip
 (.exit 0)))
 (.block 1 (.dreg [([], false, ⟨(some 38), .mv (.t 8), none⟩),
  ([0], false, ⟨(some 39), .mv (.t 7), none⟩),
  ([0, 1], false, ⟨(some 40), .mv (.t 8), none⟩),
  ([0], false, ⟨(some 41), .slc 5 (.t 39) (some (.t 40)) none, none⟩),
  ([0, 1, 2, 3], false, ⟨(some 42), .mv (.t 7), none⟩),
  ([0, 1, 2, 3, 4], false, ⟨(some 43), .mv (.t 8), none⟩),
  ([0, 1, 2, 3], false, ⟨(some 44), .slc 5 (.t 42) none (some (.t 43)), none⟩),
  ([0], false, ⟨(some 45), .copy 5 (.t 41) (.t 44), none⟩),
  ([], true, ⟨(some 46), .bin .add (.t 38) (.t 45), none⟩),
  ([], true, ⟨(some 8), .mv (.t 46), none⟩)])))))
 (.seq (.reg [⟨(some 47), .mv (.t 7), none⟩,
  ⟨(some 4), .mv (.t 47), none⟩])
 .ret))))))))⟩
def a151 : Ann := ⟨[], [⟨true, 0, false⟩], []⟩
def s151 : SFun := ⟨3, 23, [], [(.cell 6 true 3, ⟨true, 0, false⟩)],
 (.seq (.reg [⟨(some 5), .box 3 (.t 2), none⟩,
  ⟨(some 6), .alloc [(D.int .i64 (0)), (D.int .i64 (0)), .sn], none⟩])
 (.seq (.reg [⟨(some 7), .mv (.t 0), none⟩,
  ⟨(some 8), .mn [(.t 7), (.k (D.int .i64 (40)))], none⟩,
  ⟨(some 9), .mx [(.k (D.int .i64 (1))), (.t 8)], none⟩,
  ⟨(some 10), .mv (.t 1), none⟩,
  ⟨(some 11), .mn [(.t 10), (.k (D.int .i64 (60)))], none⟩,
  ⟨(some 12), .mx [(.k (D.int .i64 (1))), (.t 11)], none⟩,
  ⟨(some 0), .mv (.t 9), none⟩,
  ⟨(some 1), .mv (.t 12), none⟩])
 (.seq (.reg [⟨(some 13), .mv (.t 0), none⟩,
  ⟨(some 14), .mv (.t 1), none⟩,
  ⟨(some 15), .load true 3 (.t 5), none⟩,
  ⟨(some 16), .call false 106 [(.t 15)], none⟩,
  ⟨(some 17), .bsl false 5 1 [(D.int .i32 (0)), (D.int .i64 (0)), (D.int .i64 (0)), (D.int .i64 (0)), (D.int .i64 (0))] [(0, (.t 16))], none⟩,
  ⟨(some 18), .mv (.t 0), none⟩,
  ⟨(some 19), .mv (.t 1), none⟩,
  ⟨(some 20), .bin .mul (.t 18) (.t 19), none⟩,
  ⟨(some 21), .call false 465 [(.t 17), (.t 20)], none⟩,
  ⟨(some 22), .build [(D.int .i64 (0)), (D.int .i64 (0)), .sn] [(0, 1, (.t 13)), (1, 1, (.t 14)), (2, 1, (.t 21))], none⟩,
  ⟨none, .store 3 (.t 6) (.t 22), none⟩])
 .ret)))⟩
def a422 : Ann := ⟨[], [⟨false, 0, false⟩], []⟩
def s422 : SFun := ⟨1, 11, [], [(.tmp 2, ⟨false, 0, false⟩)],
 (.seq (.reg [⟨(some 2), .mv (.k (D.int .u64 (0))), none⟩])
 (.seq (.seq (.reg [⟨(some 3), .mv (.t 0), none⟩,
  ⟨(some 4), .bin .lss (.t 3) (.k (D.int .i64 (0))), none⟩,
  ⟨(some 5), .mv (.t 4), none⟩,
  ⟨(some 6), .mv (.t 0), (some (5, false))⟩,
  ⟨(some 7), .bin .geq (.t 6) (.k (D.int .i64 (64))), (some (5, false))⟩,
  ⟨(some 8), .pick (.t 5) (.k (D.bool true)) (.t 7), none⟩])
 (.cond (.t 8)
 (.seq (.reg [⟨(some 2), .mv (.k (D.int .u64 (0))), none⟩])
 .ret)
 .skip))
 (.seq (.reg [⟨(some 9), .mv (.t 0), none⟩,
  ⟨(some 10), .bin .shl (.k (D.int .u64 (1))) (.t 9), none⟩,
  ⟨(some 2), .mv (.t 10), none⟩])
 .ret)))⟩
def a419 : Ann := ⟨[(3, [(0, ⟨false, 0, false⟩), (3, ⟨false, 0, false⟩), (4, ⟨false, 0, false⟩)])], [⟨false, 0, false⟩], []⟩
def s419 : SFun := ⟨1, 16, [], [(.tmp 2, ⟨false, 0, false⟩)],
 (.seq (.reg [⟨(some 2), .mv (.k (D.int .u64 (0))), none⟩])
 (.seq (.reg [⟨(some 3), .mv (.k (D.int .u64 (0))), none⟩])
 (.seq (.seq (.reg [⟨(some 4), .mv (.k (D.int .i64 (8))), none⟩])
 (.block 0 (.loop [(0, ⟨false, 0, false⟩), (3, ⟨false, 0, false⟩), (4, ⟨false, 0, false⟩)]
 (.seq (.seq (.reg [⟨(some 5), .mv (.t 4), none⟩,
  ⟨(some 6), .mv (.t 0), none⟩,
  ⟨(some 7), .mn [(.t 6), (.k (D.int .i64 (64)))], none⟩,
  ⟨(some 8), .bin .lss (.t 5) (.t 7), none⟩])
 (.cond (.t 8)
 .skip
 (.exit 0)))
 (.seq (.block 1 (.reg [⟨(some 11), .mv (.t 3), none⟩,
  ⟨(some 12), .mv (.t 4), none⟩,
  ⟨(some 13), .call false 422 [(.t 12)], none⟩,
  ⟨(some 14), .bin .or (.t 11) (.t 13), none⟩,
  ⟨(some 3), .mv (.t 14), none⟩]))
 (.reg [⟨(some 9), .mv (.t 4), none⟩,
  ⟨(some 10), .bin .add (.t 9) (.k (D.int .i64 (8))), none⟩,
  ⟨(some 4), .mv (.t 10), none⟩]))))))
 (.seq (.reg [⟨(some 15), .mv (.t 3), none⟩,
  ⟨(some 2), .mv (.t 15), none⟩])
 .ret))))⟩
def a372 : Ann := ⟨[], [⟨false, 0, false⟩], []⟩
def s372 : SFun := ⟨2, 25, [], [(.cell 4 true 29, ⟨false, 0, false⟩)],
 (.seq (.reg [⟨(some 4), .alloc [(D.int .i64 (0)), (D.int .i64 (0)), .sn, (D.int .i64 (0)), (D.int .i64 (0)), (D.bool false), (D.int .i64 (0)), (D.int .i64 (0)), (D.int .i64 (0)), (D.int .i64 (0)), (D.int .i64 (0)), (D.int .u64 (0)), (D.int .u8 (0)), (D.int .u8 (0)), (D.int .i64 (0)), (D.bool false), (D.bool false), (D.bool false), (D.bool false), (D.bool false), (D.int .i64 (0)), (D.int .i64 (0)), (D.int .i64 (0)), (D.int .i64 (0)), (D.int .i64 (0)), (D.int .u8 (0)), (D.int .u8 (0)), (D.int .i64 (0)), (D.bool false)], none⟩])
 (.seq (.reg [⟨(some 7), .mv (.t 0), none⟩,
  ⟨(some 8), .mv (.t 1), none⟩,
  ⟨(some 9), .call false 107 [], none⟩,
  ⟨(some 10), .call false 151 [(.t 7), (.t 8), (.t 9)], none⟩,
  ⟨(some 5), .alloc [(D.int .i64 (0)), (D.int .i64 (0)), .sn], none⟩,
  ⟨none, .store 3 (.t 5) (.t 10), none⟩])
 (.seq (.reg [⟨(some 11), .build [(D.int .u8 (0)), (D.int .u8 (0))] [(0, 1, (.k (D.int .u8 (66)))), (1, 1, (.k (D.int .u8 (66))))], none⟩,
  ⟨(some 6), .alloc [(D.int .u8 (0)), (D.int .u8 (0))], none⟩,
  ⟨none, .store 2 (.t 6) (.t 11), none⟩])
 (.seq (.dreg [([], false, ⟨(some 12), .load true 3 (.t 5), none⟩),
  ([0], false, ⟨(some 13), .fad 0 (.t 5), none⟩),
  ([0], false, ⟨(some 14), .load false 1 (.t 13), none⟩),
  ([0], false, ⟨(some 15), .bin .sub (.t 14) (.k (D.int .i64 (1))), none⟩),
  ([0, 1, 2, 3], false, ⟨(some 16), .callr 107 [], none⟩),
  ([0, 1, 2, 3, 4], false, ⟨(some 17), .fad 1 (.t 5), none⟩),
  ([0, 1, 2, 3, 4], false, ⟨(some 18), .load false 1 (.t 17), none⟩),
  ([0, 1, 2, 3], false, ⟨(some 19), .callr 419 [(.t 18)], none⟩),
  ([0, 1, 2, 3, 4, 5, 6, 7], false, ⟨(some 20), .load true 2 (.t 6), none⟩),
  ([0, 1, 2, 3, 8], false, ⟨(some 21), .callr 107 [], none⟩),
  ([0, 1, 2, 3, 4, 5, 6, 7, 8, 9], false, ⟨(some 22), .load true 2 (.t 6), none⟩),
  ([0, 1, 2, 3, 8], false, ⟨(some 23), .build [(D.int .i64 (0)), (D.int .i64 (0)), (D.int .i64 (0)), (D.int .i64 (0)), (D.int .i64 (0)), (D.int .u8 (0)), (D.int .u8 (0)), (D.int .i64 (0)), (D.bool false)] [(2, 3, (.t 21)), (5, 2, (.t 22))], none⟩),
  ([], true, ⟨(some 24), .build [(D.int .i64 (0)), (D.int .i64 (0)), .sn, (D.int .i64 (0)), (D.int .i64 (0)), (D.bool false), (D.int .i64 (0)), (D.int .i64 (0)), (D.int .i64 (0)), (D.int .i64 (0)), (D.int .i64 (0)), (D.int .u64 (0)), (D.int .u8 (0)), (D.int .u8 (0)), (D.int .i64 (0)), (D.bool false), (D.bool false), (D.bool false), (D.bool false), (D.bool false), (D.int .i64 (0)), (D.int .i64 (0)), (D.int .i64 (0)), (D.int .i64 (0)), (D.int .i64 (0)), (D.int .u8 (0)), (D.int .u8 (0)), (D.int .i64 (0)), (D.bool false)] [(0, 3, (.t 12)), (7, 1, (.t 15)), (8, 3, (.t 16)), (11, 1, (.t 19)), (12, 2, (.t 20)), (15, 1, (.k (D.bool true))), (17, 1, (.k (D.bool true))), (20, 9, (.t 23))], none⟩),
  ([], true, ⟨none, .store 29 (.t 4) (.t 24), none⟩)])
 .ret))))⟩
def a270 : Ann := ⟨[], [⟨false, 0, false⟩], []⟩
def s270 : SFun := ⟨1, 12, [], [(.cell 2 true 6, ⟨false, 0, false⟩)],
 (.seq (.reg [⟨(some 1), .box 29 (.t 0), none⟩,
  ⟨(some 2), .alloc [(D.int .i64 (0)), (D.int .i64 (0)), .sn, (D.int .i64 (0)), (D.int .i64 (0)), (D.bool false)], none⟩])
 (.seq (.reg [⟨(some 3), .fad 0 (.t 1), none⟩,
  ⟨(some 4), .load true 3 (.t 3), none⟩,
  ⟨(some 5), .fad 3 (.t 1), none⟩,
  ⟨(some 6), .load false 1 (.t 5), none⟩,
  ⟨(some 7), .fad 4 (.t 1), none⟩,
  ⟨(some 8), .load false 1 (.t 7), none⟩,
  ⟨(some 9), .fad 17 (.t 1), none⟩,
  ⟨(some 10), .load false 1 (.t 9), none⟩,
  ⟨(some 11), .build [(D.int .i64 (0)), (D.int .i64 (0)), .sn, (D.int .i64 (0)), (D.int .i64 (0)), (D.bool false)] [(0, 3, (.t 4)), (3, 1, (.t 6)), (4, 1, (.t 8)), (5, 1, (.t 10))], none⟩,
  ⟨none, .store 6 (.t 2) (.t 11), none⟩])
 .ret))⟩
def a451 : Ann := ⟨[], [⟨true, 5, false⟩], []⟩
def n451 : NFun := ⟨1, 8, [], [(.tmp 2, ⟨true, 5, false⟩)],
 (.reg [⟨(some 2), .mv (.k .sn), none⟩]), ⟨(some 3), .mv (.t 0), none⟩, 4, (.t 3), (.cond (.t 4)
 (.seq (.reg [⟨(some 2), .mv (.k .sn), none⟩])
 .ret)
 .skip), (.seq (.reg [⟨(some 5), .bsl true 5 0 [(D.int .i32 (0)), (D.int .i64 (0)), (D.int .i64 (0)), (D.int .i64 (0)), (D.int .i64 (0))] [], none⟩,
  ⟨(some 6), .mv (.t 0), none⟩,
  ⟨(some 7), .append 5 40 (.t 5) (.t 6), none⟩,
  ⟨(some 2), .mv (.t 7), none⟩])
 .ret)⟩
def a158 : Ann := ⟨[], [⟨true, 0, false⟩], []⟩
def s158 : SFun := ⟨1, 8, [], [(.cell 2 true 3, ⟨true, 0, false⟩)],
 (.seq (.reg [⟨(some 1), .box 3 (.t 0), none⟩,
  ⟨(some 2), .alloc [(D.int .i64 (0)), (D.int .i64 (0)), .sn], none⟩])
 (.seq (.reg [⟨(some 3), .fad 2 (.t 1), none⟩,
  ⟨(some 4), .load false 1 (.t 3), none⟩,
  ⟨(some 5), .call false 451 [(.t 4)], none⟩,
  ⟨(some 6), .fad 2 (.t 1), none⟩,
  ⟨none, .store 1 (.t 6) (.t 5), none⟩])
 (.seq (.reg [⟨(some 7), .load true 3 (.t 1), none⟩,
  ⟨none, .store 3 (.t 2) (.t 7), none⟩])
 .ret)))⟩
def a110 : Ann := ⟨[], [⟨false, 0, false⟩], []⟩
def s110 : SFun := ⟨3, 15, [], [(.tmp 6, ⟨false, 0, false⟩)],
 (.seq (.reg [⟨(some 6), .mv (.k (D.bool false)), none⟩])
 (.seq (.reg [⟨(some 7), .mv (.t 0), none⟩,
  ⟨(some 8), .mv (.t 1), none⟩,
  ⟨(some 9), .bin .geq (.t 7) (.t 8), none⟩,
  ⟨(some 10), .mv (.t 9), none⟩,
  ⟨(some 11), .mv (.t 0), (some (10, true))⟩,
  ⟨(some 12), .mv (.t 2), (some (10, true))⟩,
  ⟨(some 13), .bin .leq (.t 11) (.t 12), (some (10, true))⟩,
  ⟨(some 14), .pick (.t 10) (.t 13) (.k (D.bool false)), none⟩,
  ⟨(some 6), .mv (.t 14), none⟩])
 .ret))⟩
def a112 : Ann := ⟨[], [⟨false, 0, false⟩], []⟩
def s112 : SFun := ⟨1, 21, [], [(.tmp 2, ⟨false, 0, false⟩)],
 (.seq (.reg [⟨(some 2), .mv (.k (D.bool false)), none⟩])
 (.seq (.reg [⟨(some 3), .mv (.t 0), none⟩,
  ⟨(some 4), .bin .lss (.t 3) (.k (D.int .i32 (32))), none⟩,
  ⟨(some 5), .mv (.t 4), none⟩,
  ⟨(some 6), .mv (.t 0), (some (5, false))⟩,
  ⟨(some 7), .call false 110 [(.t 6), (.k (D.int .i32 (127))), (.k (D.int .i32 (159)))], (some (5, false))⟩,
  ⟨(some 8), .pick (.t 5) (.k (D.bool true)) (.t 7), none⟩,
  ⟨(some 9), .mv (.t 8), none⟩,
  ⟨(some 10), .mv (.t 0), (some (9, false))⟩,
  ⟨(some 11), .call false 110 [(.t 10), (.k (D.int .i32 (768))), (.k (D.int .i32 (879)))], (some (9, false))⟩,
  ⟨(some 12), .pick (.t 9) (.k (D.bool true)) (.t 11), none⟩,
  ⟨(some 13), .mv (.t 12), none⟩,
  ⟨(some 14), .mv (.t 0), (some (13, false))⟩,
  ⟨(some 15), .call false 110 [(.t 14), (.k (D.int .i32 (55296))), (.k (D.int .i32 (57343)))], (some (13, false))⟩,
  ⟨(some 16), .pick (.t 13) (.k (D.bool true)) (.t 15), none⟩,
  ⟨(some 17), .mv (.t 16), none⟩,
  ⟨(some 18), .mv (.t 0), (some (17, false))⟩,
  ⟨(some 19), .bin .gtr (.t 18) (.k (D.int .i32 (1114111))), (some (17, false))⟩,
  ⟨(some 20), .pick (.t 17) (.k (D.bool true)) (.t 19), none⟩,
  ⟨(some 2), .mv (.t 20), none⟩])
 .ret))⟩
def a113 : Ann := ⟨[(2, [(0, ⟨false, 0, false⟩), (2, ⟨false, 0, false⟩), (14, ⟨false, 0, false⟩), (15, ⟨false, 0, false⟩), (16, ⟨false, 0, false⟩)])], [⟨false, 0, false⟩], []⟩
def s113 : SFun := ⟨1, 27, [], [(.tmp 2, ⟨false, 0, false⟩)],
 (.seq (.reg [⟨(some 2), .mv (.k (D.bool false)), none⟩])
 (.seq (.seq (.reg [⟨(some 5), .build [(D.int .i32 (0)), (D.int .i32 (0))] [(0, 1, (.k (D.int .i32 (4352)))), (1, 1, (.k (D.int .i32 (4447))))], none⟩,
  ⟨(some 6), .build [(D.int .i32 (0)), (D.int .i32 (0))] [(0, 1, (.k (D.int .i32 (11904)))), (1, 1, (.k (D.int .i32 (42191))))], none⟩,
  ⟨(some 7), .build [(D.int .i32 (0)), (D.int .i32 (0))] [(0, 1, (.k (D.int .i32 (44032)))), (1, 1, (.k (D.int .i32 (55203))))], none⟩,
  ⟨(some 8), .build [(D.int .i32 (0)), (D.int .i32 (0))] [(0, 1, (.k (D.int .i32 (63744)))), (1, 1, (.k (D.int .i32 (64255))))], none⟩,
  ⟨(some 9), .build [(D.int .i32 (0)), (D.int .i32 (0))] [(0, 1, (.k (D.int .i32 (65072)))), (1, 1, (.k (D.int .i32 (65135))))], none⟩,
  ⟨(some 10), .build [(D.int .i32 (0)), (D.int .i32 (0))] [(0, 1, (.k (D.int .i32 (65280)))), (1, 1, (.k (D.int .i32 (65376))))], none⟩,
  ⟨(some 11), .build [(D.int .i32 (0)), (D.int .i32 (0))] [(0, 1, (.k (D.int .i32 (65504)))), (1, 1, (.k (D.int .i32 (65510))))], none⟩,
  ⟨(some 12), .build [(D.int .i32 (0)), (D.int .i32 (0))] [(0, 1, (.k (D.int .i32 (127744)))), (1, 1, (.k (D.int .i32 (129791))))], none⟩,
  ⟨(some 13), .build [(D.int .i32 (0)), (D.int .i32 (0))] [(0, 1, (.k (D.int .i32 (131072)))), (1, 1, (.k (D.int .i32 (262141))))], none⟩,
  ⟨(some 14), .bsl false 2 9 [(D.int .i32 (0)), (D.int .i32 (0))] [(0, (.t 5)), (1, (.t 6)), (2, (.t 7)), (3, (.t 8)), (4, (.t 9)), (5, (.t 10)), (6, (.t 11)), (7, (.t 12)), (8, (.t 13))], none⟩,
  ⟨(some 15), .len (.t 14), none⟩,
  ⟨(some 16), .mv (.k (D.int .i64 (0))), none⟩])
 (.block 0 (.loop [(0, ⟨false, 0, false⟩), (2, ⟨false, 0, false⟩), (14, ⟨false, 0, false⟩), (15, ⟨false, 0, false⟩), (16, ⟨false, 0, false⟩)]
 (.seq (.reg [⟨(some 17), .bin .lss (.t 16) (.t 15), none⟩])
 (.seq (.cond (.t 17)
 .skip
 (.exit 0))
 (.seq (.block 1 (.seq (.reg [⟨(some 18), .ixs 2 (.t 14) (.t 16), none⟩,
  ⟨(some 19), .load true 2 (.t 18), none⟩,
  ⟨(some 4), .alloc [(D.int .i32 (0)), (D.int .i32 (0))], none⟩,
  ⟨none, .store 2 (.t 4) (.t 19), none⟩])
 (.seq (.reg [⟨(some 20), .mv (.t 0), none⟩,
  ⟨(some 21), .ixa 2 1 (.t 4) (.k (D.int .i64 (0))), none⟩,
  ⟨(some 22), .load false 1 (.t 21), none⟩,
  ⟨(some 23), .ixa 2 1 (.t 4) (.k (D.int .i64 (1))), none⟩,
  ⟨(some 24), .load false 1 (.t 23), none⟩,
  ⟨(some 25), .call false 110 [(.t 20), (.t 22), (.t 24)], none⟩])
 (.cond (.t 25)
 (.seq (.reg [⟨(some 2), .mv (.k (D.bool true)), none⟩])
 .ret)
 .skip))))
 (.reg [⟨(some 26), .bin .add (.t 16) (.k (D.int .i64 (1))), none⟩,
  ⟨(some 16), .mv (.t 26), none⟩])))))))
 (.seq (.reg [⟨(some 2), .mv (.k (D.bool false)), none⟩])
 .ret)))⟩
def a109 : Ann := ⟨[], [⟨false, 0, false⟩], []⟩
def s109 : SFun := ⟨1, 9, [], [(.tmp 2, ⟨false, 0, false⟩)],
 (.seq (.reg [⟨(some 2), .mv (.k (D.int .i64 (0))), none⟩])
 (.seq (.block 0 (.seq (.reg [⟨(some 4), .mv (.t 0), none⟩,
  ⟨(some 5), .call false 112 [(.t 4)], none⟩,
  ⟨(some 3), .mv (.t 5), none⟩])
 (.cond (.t 3)
 (.seq (.reg [⟨(some 2), .mv (.k (D.int .i64 (0))), none⟩])
 .ret)
 (.seq (.reg [⟨(some 7), .mv (.t 0), none⟩,
  ⟨(some 8), .call false 113 [(.t 7)], none⟩,
  ⟨(some 6), .mv (.t 8), none⟩])
 (.cond (.t 6)
 (.seq (.reg [⟨(some 2), .mv (.k (D.int .i64 (2))), none⟩])
 .ret)
 .skip)))))
 (.seq (.reg [⟨(some 2), .mv (.k (D.int .i64 (1))), none⟩])
 .ret)))⟩
def a162 : Ann := ⟨[], [⟨false, 0, false⟩], []⟩
def s162 : SFun := ⟨3, 25, [], [(.tmp 6, ⟨false, 0, false⟩)],
 (.seq (.reg [⟨(some 3), .box 3 (.t 0), none⟩,
  ⟨(some 6), .mv (.k (D.bool false)), none⟩])
 (.seq (.reg [⟨(some 7), .mv (.t 1), none⟩,
  ⟨(some 8), .bin .geq (.t 7) (.k (D.int .i64 (0))), none⟩,
  ⟨(some 9), .mv (.t 8), none⟩,
  ⟨(some 10), .mv (.t 1), (some (9, true))⟩,
  ⟨(some 11), .fad 0 (.t 3), (some (9, true))⟩,
  ⟨(some 12), .load false 1 (.t 11), (some (9, true))⟩,
  ⟨(some 13), .bin .lss (.t 10) (.t 12), (some (9, true))⟩,
  ⟨(some 14), .pick (.t 9) (.t 13) (.k (D.bool false)), none⟩,
  ⟨(some 15), .mv (.t 14), none⟩,
  ⟨(some 16), .mv (.t 2), (some (15, true))⟩,
  ⟨(some 17), .bin .geq (.t 16) (.k (D.int .i64 (0))), (some (15, true))⟩,
  ⟨(some 18), .pick (.t 15) (.t 17) (.k (D.bool false)), none⟩,
  ⟨(some 19), .mv (.t 18), none⟩,
  ⟨(some 20), .mv (.t 2), (some (19, true))⟩,
  ⟨(some 21), .fad 1 (.t 3), (some (19, true))⟩,
  ⟨(some 22), .load false 1 (.t 21), (some (19, true))⟩,
  ⟨(some 23), .bin .lss (.t 20) (.t 22), (some (19, true))⟩,
  ⟨(some 24), .pick (.t 19) (.t 23) (.k (D.bool false)), none⟩,
  ⟨(some 6), .mv (.t 24), none⟩])
 .ret))⟩
def a163 : Ann := ⟨[], [⟨true, 5, false⟩], []⟩
def s163 : SFun := ⟨2, 17, [], [(.tmp 4, ⟨true, 5, false⟩)],
 (.seq (.reg [⟨(some 2), .box 3 (.t 0), none⟩,
  ⟨(some 4), .mv (.k .sn), none⟩])
 (.seq (.reg [⟨(some 5), .fad 2 (.t 2), none⟩,
  ⟨(some 6), .load false 1 (.t 5), none⟩,
  ⟨(some 7), .mv (.t 1), none⟩,
  ⟨(some 8), .fad 1 (.t 2), none⟩,
  ⟨(some 9), .load false 1 (.t 8), none⟩,
  ⟨(some 10), .bin .mul (.t 7) (.t 9), none⟩,
  ⟨(some 11), .mv (.t 1), none⟩,
  ⟨(some 12), .bin .add (.t 11) (.k (D.int .i64 (1))), none⟩,
  ⟨(some 13), .fad 1 (.t 2), none⟩,
  ⟨(some 14), .load false 1 (.t 13), none⟩,
  ⟨(some 15), .bin .mul (.t 12) (.t 14), none⟩,
  ⟨(some 16), .slc 5 (.t 6) (some (.t 10)) (some (.t 15)), none⟩,
  ⟨(some 4), .mv (.t 16), none⟩])
 .ret))⟩
def a159 : Ann := ⟨[], [⟨false, 0, false⟩], []⟩
def s159 : SFun := ⟨2, 39, [], [(.tmp 4, ⟨false, 0, false⟩)],
 (.seq (.reg [⟨(some 4), .mv (.k (D.bool false)), none⟩])
 (.seq (.seq (.reg [⟨(some 5), .mv (.t 0), none⟩,
  ⟨(some 6), .mv (.t 1), none⟩,
  ⟨(some 7), .ixs 5 (.t 5) (.t 6), none⟩,
  ⟨(some 8), .fad 1 (.t 7), none⟩,
  ⟨(some 9), .load false 1 (.t 8), none⟩])
 (.block 0 (.seq (.reg [⟨(some 11), .bin .eql (.t 9) (.k (D.int .i64 (1))), none⟩,
  ⟨(some 10), .mv (.t 11), none⟩])
 (.cond (.t 10)
 (.seq (.reg [⟨(some 12), .mv (.t 1), none⟩,
  ⟨(some 13), .bin .add (.t 12) (.k (D.int .i64 (1))), none⟩,
  ⟨(some 14), .mv (.t 0), none⟩,
  ⟨(some 15), .len (.t 14), none⟩,
  ⟨(some 16), .bin .eql (.t 13) (.t 15), none⟩,
  ⟨(some 17), .mv (.t 16), none⟩,
  ⟨(some 18), .mv (.t 0), (some (17, false))⟩,
  ⟨(some 19), .mv (.t 1), (some (17, false))⟩,
  ⟨(some 20), .bin .add (.t 19) (.k (D.int .i64 (1))), (some (17, false))⟩,
  ⟨(some 21), .ixs 5 (.t 18) (.t 20), (some (17, false))⟩,
  ⟨(some 22), .fad 1 (.t 21), (some (17, false))⟩,
  ⟨(some 23), .load false 1 (.t 22), (some (17, false))⟩,
  ⟨(some 24), .bin .neq (.t 23) (.k (D.int .i64 (2))), (some (17, false))⟩,
  ⟨(some 25), .pick (.t 17) (.k (D.bool true)) (.t 24), none⟩,
  ⟨(some 4), .mv (.t 25), none⟩])
 .ret)
 (.seq (.reg [⟨(some 27), .bin .eql (.t 9) (.k (D.int .i64 (2))), none⟩,
  ⟨(some 26), .mv (.t 27), none⟩])
 (.cond (.t 26)
 (.seq (.reg [⟨(some 28), .mv (.t 1), none⟩,
  ⟨(some 29), .bin .eql (.t 28) (.k (D.int .i64 (0))), none⟩,
  ⟨(some 30), .mv (.t 29), none⟩,
  ⟨(some 31), .mv (.t 0), (some (30, false))⟩,
  ⟨(some 32), .mv (.t 1), (some (30, false))⟩,
  ⟨(some 33), .bin .sub (.t 32) (.k (D.int .i64 (1))), (some (30, false))⟩,
  ⟨(some 34), .ixs 5 (.t 31) (.t 33), (some (30, false))⟩,
  ⟨(some 35), .fad 1 (.t 34), (some (30, false))⟩,
  ⟨(some 36), .load false 1 (.t 35), (some (30, false))⟩,
  ⟨(some 37), .bin .neq (.t 36) (.k (D.int .i64 (1))), (some (30, false))⟩,
  ⟨(some 38), .pick (.t 30) (.k (D.bool true)) (.t 37), none⟩,
  ⟨(some 4), .mv (.t 38), none⟩])
 .ret)
 .skip))))))
 (.seq (.reg [⟨(some 4), .mv (.k (D.bool false)), none⟩])
 .ret)))⟩
def a150 : Ann := ⟨[(3, [(0, ⟨false, 0, false⟩), (8, ⟨false, 0, false⟩), (9, ⟨false, 0, false⟩), (10, ⟨false, 0, false⟩), (3, ⟨true, 5, false⟩)])], [⟨true, 5, false⟩], []⟩
def s150 : SFun := ⟨1, 26, [], [(.tmp 2, ⟨true, 5, false⟩)],
 (.seq (.reg [⟨(some 2), .mv (.k .sn), none⟩])
 (.seq (.reg [⟨(some 6), .mv (.t 0), none⟩,
  ⟨(some 7), .call false 451 [(.t 6)], none⟩,
  ⟨(some 3), .mv (.t 7), none⟩])
 (.seq (.seq (.reg [⟨(some 8), .mv (.t 0), none⟩,
  ⟨(some 9), .len (.t 8), none⟩,
  ⟨(some 10), .mv (.k (D.int .i64 (0))), none⟩])
 (.block 0 (.loop [(0, ⟨false, 0, false⟩), (8, ⟨false, 0, false⟩), (9, ⟨false, 0, false⟩), (10, ⟨false, 0, false⟩), (3, ⟨true, 5, false⟩)]
 (.seq (.reg [⟨(some 11), .bin .lss (.t 10) (.t 9), none⟩])
 (.seq (.cond (.t 11)
 .skip
 (.exit 0))
 (.seq (.block 1 (.seq (.reg [⟨(some 12), .mv (.t 10), none⟩,
  ⟨(some 13), .ixs 5 (.t 8) (.t 10), none⟩,
  ⟨(some 14), .load true 5 (.t 13), none⟩,
  ⟨(some 5), .alloc [(D.int .i32 (0)), (D.int .i64 (0)), (D.int .i64 (0)), (D.int .i64 (0)), (D.int .i64 (0))], none⟩,
  ⟨(some 4), .mv (.t 12), none⟩,
  ⟨none, .store 5 (.t 5) (.t 14), none⟩])
 (.seq (.reg [⟨(some 15), .mv (.t 0), none⟩,
  ⟨(some 16), .mv (.t 4), none⟩,
  ⟨(some 17), .call false 159 [(.t 15), (.t 16)], none⟩])
 (.cond (.t 17)
 (.reg [⟨(some 18), .mv (.t 3), none⟩,
  ⟨(some 19), .mv (.t 4), none⟩,
  ⟨(some 20), .fad 2 (.t 5), none⟩,
  ⟨(some 21), .load true 3 (.t 20), none⟩,
  ⟨(some 22), .call false 106 [(.t 21)], none⟩,
  ⟨(some 23), .ixs 5 (.t 18) (.t 19), none⟩,
  ⟨none, .store 5 (.t 23) (.t 22), none⟩])
 .skip))))
 (.reg [⟨(some 24), .bin .add (.t 10) (.k (D.int .i64 (1))), none⟩,
  ⟨(some 10), .mv (.t 24), none⟩])))))))
 (.seq (.reg [⟨(some 25), .mv (.t 3), none⟩,
  ⟨(some 2), .mv (.t 25), none⟩])
 .ret))))⟩
def a161 : Ann := ⟨[], [⟨false, 0, false⟩], []⟩
def s161 : SFun := ⟨2, 14, [], [(.cell 4 true 3, ⟨false, 0, false⟩)],
 (.seq (.reg [⟨(some 2), .box 3 (.t 0), none⟩,
  ⟨(some 4), .alloc [(D.int .i64 (0)), (D.int .i64 (0)), .sn], none⟩])
 (.seq (.dreg [([], false, ⟨(some 5), .load true 3 (.t 2), none⟩),
  ([0], false, ⟨(some 6), .mv (.t 1), none⟩),
  ([], false, ⟨(some 7), .call true 163 [(.t 5), (.t 6)], none⟩),
  ([0, 1, 2], false, ⟨(some 8), .load true 3 (.t 2), none⟩),
  ([0, 1, 2, 3], false, ⟨(some 9), .mv (.t 1), none⟩),
  ([], true, ⟨(some 10), .call false 163 [(.t 8), (.t 9)], none⟩),
  ([], true, ⟨(some 11), .call false 150 [(.t 10)], none⟩),
  ([], true, ⟨(some 12), .copy 5 (.t 7) (.t 11), none⟩)])
 (.seq (.reg [⟨(some 13), .load true 3 (.t 2), none⟩,
  ⟨none, .store 3 (.t 4) (.t 13), none⟩])
 .ret)))⟩
def a152 : Ann := ⟨[], [⟨false, 0, false⟩], []⟩
def s152 : SFun := ⟨5, 59, [], [(.cell 10 true 3, ⟨false, 0, false⟩)],
 (.seq (.reg [⟨(some 5), .box 3 (.t 0), none⟩,
  ⟨(some 9), .box 3 (.t 4), none⟩,
  ⟨(some 10), .alloc [(D.int .i64 (0)), (D.int .i64 (0)), .sn], none⟩])
 (.seq (.reg [⟨(some 13), .load true 3 (.t 5), none⟩,
  ⟨(some 14), .call false 158 [(.t 13)], none⟩,
  ⟨none, .store 3 (.t 5) (.t 14), none⟩])
 (.seq (.reg [⟨(some 15), .mv (.t 3), none⟩,
  ⟨(some 16), .call false 109 [(.t 15)], none⟩,
  ⟨(some 11), .mv (.t 16), none⟩])
 (.seq (.seq (.reg [⟨(some 17), .mv (.t 11), none⟩,
  ⟨(some 18), .bin .eql (.t 17) (.k (D.int .i64 (0))), none⟩,
  ⟨(some 19), .mv (.t 18), none⟩,
  ⟨(some 20), .load true 3 (.t 5), (some (19, false))⟩,
  ⟨(some 21), .mv (.t 1), (some (19, false))⟩,
  ⟨(some 22), .mv (.t 2), (some (19, false))⟩,
  ⟨(some 23), .call false 162 [(.t 20), (.t 21), (.t 22)], (some (19, false))⟩,
  ⟨(some 24), .una .not (.t 23), (some (19, false))⟩,
  ⟨(some 25), .pick (.t 19) (.k (D.bool true)) (.t 24), none⟩,
  ⟨(some 26), .mv (.t 25), none⟩,
  ⟨(some 27), .mv (.t 2), (some (26, false))⟩,
  ⟨(some 28), .mv (.t 11), (some (26, false))⟩,
  ⟨(some 29), .bin .add (.t 27) (.t 28), (some (26, false))⟩,
  ⟨(some 30), .fad 1 (.t 5), (some (26, false))⟩,
  ⟨(some 31), .load false 1 (.t 30), (some (26, false))⟩,
  ⟨(some 32), .bin .gtr (.t 29) (.t 31), (some (26, false))⟩,
  ⟨(some 33), .pick (.t 26) (.k (D.bool true)) (.t 32), none⟩])
 (.cond (.t 33)
 (.seq (.reg [⟨(some 34), .load true 3 (.t 5), none⟩,
  ⟨none, .store 3 (.t 10) (.t 34), none⟩])
 .ret)
 .skip))
 (.seq (.reg [⟨(some 35), .load true 3 (.t 5), none⟩,
  ⟨(some 36), .mv (.t 1), none⟩,
  ⟨(some 37), .call false 163 [(.t 35), (.t 36)], none⟩,
  ⟨(some 12), .mv (.t 37), none⟩])
 (.seq (.reg [⟨(some 38), .mv (.t 12), none⟩,
  ⟨(some 39), .mv (.t 2), none⟩,
  ⟨(some 40), .mv (.t 3), none⟩,
  ⟨(some 41), .load true 3 (.t 9), none⟩,
  ⟨(some 42), .build [(D.int .i32 (0)), (D.int .i64 (0)), (D.int .i64 (0)), (D.int .i64 (0)), (D.int .i64 (0))] [(0, 1, (.t 40)), (2, 3, (.t 41))], none⟩,
  ⟨(some 43), .ixs 5 (.t 38) (.t 39), none⟩,
  ⟨none, .store 5 (.t 43) (.t 42), none⟩])
 (.seq (.seq (.reg [⟨(some 44), .mv (.t 11), none⟩,
  ⟨(some 45), .bin .eql (.t 44) (.k (D.int .i64 (2))), none⟩])
 (.cond (.t 45)
 (.seq (.reg [⟨(some 46), .mv (.t 12), none⟩,
  ⟨(some 47), .mv (.t 2), none⟩,
  ⟨(some 48), .ixs 5 (.t 46) (.t 47), none⟩,
  ⟨(some 49), .fad 1 (.t 48), none⟩,
  ⟨none, .store 1 (.t 49) (.k (D.int .i64 (1))), none⟩])
 (.reg [⟨(some 50), .mv (.t 12), none⟩,
  ⟨(some 51), .mv (.t 2), none⟩,
  ⟨(some 52), .bin .add (.t 51) (.k (D.int .i64 (1))), none⟩,
  ⟨(some 53), .load true 3 (.t 9), none⟩,
  ⟨(some 54), .build [(D.int .i32 (0)), (D.int .i64 (0)), (D.int .i64 (0)), (D.int .i64 (0)), (D.int .i64 (0))] [(1, 1, (.k (D.int .i64 (2)))), (2, 3, (.t 53))], none⟩,
  ⟨(some 55), .ixs 5 (.t 50) (.t 52), none⟩,
  ⟨none, .store 5 (.t 55) (.t 54), none⟩]))
 .skip))
 (.seq (.reg [⟨(some 56), .load true 3 (.t 5), none⟩,
  ⟨(some 57), .mv (.t 1), none⟩,
  ⟨(some 58), .call false 161 [(.t 56), (.t 57)], none⟩,
  ⟨none, .store 3 (.t 10) (.t 58), none⟩])
 .ret))))))))⟩
def a134 : Ann := ⟨[], [⟨false, 0, false⟩], []⟩
def s134 : SFun := ⟨1, 9, [], [(.tmp 2, ⟨false, 0, false⟩)],
 (.seq (.reg [⟨(some 2), .mv (.k (D.bool false)), none⟩])
 (.seq (.reg [⟨(some 3), .mv (.t 0), none⟩,
  ⟨(some 4), .bin .geq (.t 3) (.k (D.int .i64 (1))), none⟩,
  ⟨(some 5), .mv (.t 4), none⟩,
  ⟨(some 6), .mv (.t 0), (some (5, true))⟩,
  ⟨(some 7), .bin .leq (.t 6) (.k (D.int .i64 (3))), (some (5, true))⟩,
  ⟨(some 8), .pick (.t 5) (.t 7) (.k (D.bool false)), none⟩,
  ⟨(some 2), .mv (.t 8), none⟩])
 .ret))⟩
def a111 : Ann := ⟨[], [⟨false, 0, false⟩], []⟩
def s111 : SFun := ⟨1, 17, [], [(.tmp 2, ⟨false, 0, false⟩)],
 (.seq (.reg [⟨(some 2), .mv (.k (D.bool false)), none⟩])
 (.seq (.reg [⟨(some 3), .mv (.t 0), none⟩,
  ⟨(some 4), .bin .geq (.t 3) (.k (D.int .i64 (-1))), none⟩,
  ⟨(some 5), .mv (.t 4), none⟩,
  ⟨(some 6), .mv (.t 0), (some (5, true))⟩,
  ⟨(some 7), .bin .leq (.t 6) (.k (D.int .i64 (255))), (some (5, true))⟩,
  ⟨(some 8), .pick (.t 5) (.t 7) (.k (D.bool false)), none⟩,
  ⟨(some 9), .mv (.t 8), none⟩,
  ⟨(some 10), .mv (.t 0), (some (9, false))⟩,
  ⟨(some 11), .bin .geq (.t 10) (.k (D.int .i64 (16777216))), (some (9, false))⟩,
  ⟨(some 12), .mv (.t 11), (some (9, false))⟩,
  ⟨(some 13), .mv (.t 0), (some (12, true))⟩,
  ⟨(some 14), .bin .lss (.t 13) (.k (D.int .i64 (33554432))), (some (12, true))⟩,
  ⟨(some 15), .pick (.t 12) (.t 14) (.k (D.bool false)), (some (9, false))⟩,
  ⟨(some 16), .pick (.t 9) (.k (D.bool true)) (.t 15), none⟩,
  ⟨(some 2), .mv (.t 16), none⟩])
 .ret))⟩
def a108 : Ann := ⟨[], [⟨false, 0, false⟩], []⟩
def s108 : SFun := ⟨1, 21, [], [(.tmp 2, ⟨false, 0, false⟩)],
 (.seq (.reg [⟨(some 1), .box 3 (.t 0), none⟩,
  ⟨(some 2), .mv (.k (D.bool false)), none⟩])
 (.seq (.reg [⟨(some 3), .fad 0 (.t 1), none⟩,
  ⟨(some 4), .load false 1 (.t 3), none⟩,
  ⟨(some 5), .call false 111 [(.t 4)], none⟩,
  ⟨(some 6), .mv (.t 5), none⟩,
  ⟨(some 7), .fad 1 (.t 1), (some (6, true))⟩,
  ⟨(some 8), .load false 1 (.t 7), (some (6, true))⟩,
  ⟨(some 9), .call false 111 [(.t 8)], (some (6, true))⟩,
  ⟨(some 10), .pick (.t 6) (.t 9) (.k (D.bool false)), none⟩,
  ⟨(some 11), .mv (.t 10), none⟩,
  ⟨(some 12), .fad 2 (.t 1), (some (11, true))⟩,
  ⟨(some 13), .load false 1 (.t 12), (some (11, true))⟩,
  ⟨(some 14), .bin .geq (.t 13) (.k (D.int .i64 (0))), (some (11, true))⟩,
  ⟨(some 15), .pick (.t 11) (.t 14) (.k (D.bool false)), none⟩,
  ⟨(some 16), .mv (.t 15), none⟩,
  ⟨(some 17), .fad 2 (.t 1), (some (16, true))⟩,
  ⟨(some 18), .load false 1 (.t 17), (some (16, true))⟩,
  ⟨(some 19), .bin .leq (.t 18) (.k (D.int .i64 (255))), (some (16, true))⟩,
  ⟨(some 20), .pick (.t 16) (.t 19) (.k (D.bool false)), none⟩,
  ⟨(some 2), .mv (.t 20), none⟩])
 .ret))⟩
def a160 : Ann := ⟨[], [⟨false, 0, false⟩], []⟩
def s160 : SFun := ⟨2, 62, [], [(.tmp 4, ⟨false, 0, false⟩)],
 (.seq (.reg [⟨(some 4), .mv (.k (D.bool false)), none⟩])
 (.seq (.reg [⟨(some 6), .mv (.t 0), none⟩,
  ⟨(some 7), .mv (.t 1), none⟩,
  ⟨(some 8), .ixs 5 (.t 6) (.t 7), none⟩,
  ⟨(some 9), .load true 5 (.t 8), none⟩,
  ⟨(some 5), .alloc [(D.int .i32 (0)), (D.int .i64 (0)), (D.int .i64 (0)), (D.int .i64 (0)), (D.int .i64 (0))], none⟩,
  ⟨none, .store 5 (.t 5) (.t 9), none⟩])
 (.seq (.seq (.reg [⟨(some 10), .fad 1 (.t 5), none⟩,
  ⟨(some 11), .load false 1 (.t 10), none⟩])
 (.block 0 (.seq (.reg [⟨(some 13), .bin .eql (.t 11) (.k (D.int .i64 (0))), none⟩,
  ⟨(some 12), .mv (.t 13), none⟩])
 (.cond (.t 12)
 (.seq (.reg [⟨(some 14), .fad 0 (.t 5), none⟩,
  ⟨(some 15), .load false 1 (.t 14), none⟩,
  ⟨(some 16), .call false 109 [(.t 15)], none⟩,
  ⟨(some 17), .bin .eql (.t 16) (.k (D.int .i64 (1))), none⟩,
  ⟨(some 18), .mv (.t 17), none⟩,
  ⟨(some 19), .fad 2 (.t 5), (some (18, true))⟩,
  ⟨(some 20), .load true 3 (.t 19), (some (18, true))⟩,
  ⟨(some 21), .call false 108 [(.t 20)], (some (18, true))⟩,
  ⟨(some 22), .pick (.t 18) (.t 21) (.k (D.bool false)), none⟩,
  ⟨(some 4), .mv (.t 22), none⟩])
 .ret)
 (.seq (.reg [⟨(some 24), .bin .eql (.t 11) (.k (D.int .i64 (1))), none⟩,
  ⟨(some 23), .mv (.t 24), none⟩])
 (.cond (.t 23)
 (.seq (.dreg [([], true, ⟨(some 25), .fad 0 (.t 5), none⟩),
  ([], true, ⟨(some 26), .load false 1 (.t 25), none⟩),
  ([], true, ⟨(some 27), .call false 109 [(.t 26)], none⟩),
  ([], true, ⟨(some 28), .bin .eql (.t 27) (.k (D.int .i64 (2))), none⟩),
  ([], true, ⟨(some 29), .mv (.t 28), none⟩),
  ([], true, ⟨(some 30), .fad 2 (.t 5), (some (29, true))⟩),
  ([], true, ⟨(some 31), .load true 3 (.t 30), (some (29, true))⟩),
  ([], true, ⟨(some 32), .call false 108 [(.t 31)], (some (29, true))⟩),
  ([], true, ⟨(some 33), .pick (.t 29) (.t 32) (.k (D.bool false)), none⟩),
  ([], true, ⟨(some 34), .mv (.t 33), none⟩),
  ([], false, ⟨(some 35), .mv (.t 0), (some (34, true))⟩),
  ([0], false, ⟨(some 36), .mv (.t 1), (some (34, true))⟩),
  ([], true, ⟨(some 37), .call false 159 [(.t 35), (.t 36)], (some (34, true))⟩),
  ([], true, ⟨(some 38), .una .not (.t 37), (some (34, true))⟩),
  ([], true, ⟨(some 39), .pick (.t 34) (.t 38) (.k (D.bool false)), none⟩),
  ([], true, ⟨(some 40), .mv (.t 39), none⟩),
  ([], false, ⟨(some 41), .mv (.t 0), (some (40, true))⟩),
  ([0], false, ⟨(some 42), .mv (.t 1), (some (40, true))⟩),
  ([0], false, ⟨(some 43), .bin .add (.t 42) (.k (D.int .i64 (1))), (some (40, true))⟩),
  ([], false, ⟨(some 44), .ixs 5 (.t 41) (.t 43), (some (40, true))⟩),
  ([], false, ⟨(some 45), .fad 2 (.t 44), (some (40, true))⟩),
  ([], false, ⟨(some 46), .load true 3 (.t 45), (some (40, true))⟩),
  ([0, 1, 2, 3, 4, 5], false, ⟨(some 47), .fad 2 (.t 5), (some (40, true))⟩),
  ([0, 1, 2, 3, 4, 5], false, ⟨(some 48), .load true 3 (.t 47), (some (40, true))⟩),
  ([], true, ⟨(some 49), .eqa false [1, 1, 1] (.t 46) (.t 48), (some (40, true))⟩),
  ([], true, ⟨(some 50), .pick (.t 40) (.t 49) (.k (D.bool false)), none⟩),
  ([], true, ⟨(some 4), .mv (.t 50), none⟩)])
 .ret)
 (.seq (.reg [⟨(some 52), .bin .eql (.t 11) (.k (D.int .i64 (2))), none⟩,
  ⟨(some 51), .mv (.t 52), none⟩])
 (.cond (.t 51)
 (.seq (.reg [⟨(some 53), .fad 0 (.t 5), none⟩,
  ⟨(some 54), .load false 1 (.t 53), none⟩,
  ⟨(some 55), .bin .eql (.t 54) (.k (D.int .i32 (0))), none⟩,
  ⟨(some 56), .mv (.t 55), none⟩,
  ⟨(some 57), .mv (.t 0), (some (56, true))⟩,
  ⟨(some 58), .mv (.t 1), (some (56, true))⟩,
  ⟨(some 59), .call false 159 [(.t 57), (.t 58)], (some (56, true))⟩,
  ⟨(some 60), .una .not (.t 59), (some (56, true))⟩,
  ⟨(some 61), .pick (.t 56) (.t 60) (.k (D.bool false)), none⟩,
  ⟨(some 4), .mv (.t 61), none⟩])
 .ret)
 .skip))))))))
 (.seq (.reg [⟨(some 4), .mv (.k (D.bool false)), none⟩])
 .ret))))⟩
def a154 : Ann := ⟨[(4, [(2, ⟨false, 0, false⟩), (35, ⟨false, 0, false⟩), (36, ⟨false, 0, false⟩), (1, ⟨true, 0, false⟩)])], [⟨false, 0, false⟩], []⟩
def s154 : SFun := ⟨1, 52, [], [(.tmp 2, ⟨false, 0, false⟩)],
 (.seq (.reg [⟨(some 1), .box 3 (.t 0), none⟩,
  ⟨(some 2), .mv (.k (D.bool false)), none⟩])
 (.seq (.seq (.reg [⟨(some 4), .fad 0 (.t 1), none⟩,
  ⟨(some 5), .load false 1 (.t 4), none⟩,
  ⟨(some 6), .bin .lss (.t 5) (.k (D.int .i64 (1))), none⟩,
  ⟨(some 7), .mv (.t 6), none⟩,
  ⟨(some 8), .fad 0 (.t 1), (some (7, false))⟩,
  ⟨(some 9), .load false 1 (.t 8), (some (7, false))⟩,
  ⟨(some 10), .bin .gtr (.t 9) (.k (D.int .i64 (40))), (some (7, false))⟩,
  ⟨(some 11), .pick (.t 7) (.k (D.bool true)) (.t 10), none⟩,
  ⟨(some 12), .mv (.t 11), none⟩,
  ⟨(some 13), .fad 1 (.t 1), (some (12, false))⟩,
  ⟨(some 14), .load false 1 (.t 13), (some (12, false))⟩,
  ⟨(some 15), .bin .lss (.t 14) (.k (D.int .i64 (1))), (some (12, false))⟩,
  ⟨(some 16), .pick (.t 12) (.k (D.bool true)) (.t 15), none⟩,
  ⟨(some 17), .mv (.t 16), none⟩,
  ⟨(some 18), .fad 1 (.t 1), (some (17, false))⟩,
  ⟨(some 19), .load false 1 (.t 18), (some (17, false))⟩,
  ⟨(some 20), .bin .gtr (.t 19) (.k (D.int .i64 (60))), (some (17, false))⟩,
  ⟨(some 21), .pick (.t 17) (.k (D.bool true)) (.t 20), none⟩,
  ⟨(some 22), .mv (.t 21), none⟩,
  ⟨(some 23), .fad 2 (.t 1), (some (22, false))⟩,
  ⟨(some 24), .load false 1 (.t 23), (some (22, false))⟩,
  ⟨(some 25), .len (.t 24), (some (22, false))⟩,
  ⟨(some 26), .fad 0 (.t 1), (some (22, false))⟩,
  ⟨(some 27), .load false 1 (.t 26), (some (22, false))⟩,
  ⟨(some 28), .fad 1 (.t 1), (some (22, false))⟩,
  ⟨(some 29), .load false 1 (.t 28), (some (22, false))⟩,
  ⟨(some 30), .bin .mul (.t 27) (.t 29), (some (22, false))⟩,
  ⟨(some 31), .bin .neq (.t 25) (.t 30), (some (22, false))⟩,
  ⟨(some 32), .pick (.t 22) (.k (D.bool true)) (.t 31), none⟩])
 (.cond (.t 32)
 (.seq (.reg [⟨(some 2), .mv (.k (D.bool false)), none⟩])
 .ret)
 .skip))
 (.seq (.seq (.reg [⟨(some 33), .fad 2 (.t 1), none⟩,
  ⟨(some 34), .load false 1 (.t 33), none⟩,
  ⟨(some 35), .len (.t 34), none⟩,
  ⟨(some 36), .mv (.k (D.int .i64 (0))), none⟩])
 (.block 0 (.loop [(2, ⟨false, 0, false⟩), (35, ⟨false, 0, false⟩), (36, ⟨false, 0, false⟩), (1, ⟨true, 0, false⟩)]
 (.seq (.reg [⟨(some 37), .bin .lss (.t 36) (.t 35), none⟩])
 (.seq (.cond (.t 37)
 .skip
 (.exit 0))
 (.seq (.block 1 (.seq (.reg [⟨(some 38), .mv (.t 36), none⟩,
  ⟨(some 3), .mv (.t 38), none⟩])
 (.seq (.dreg [([], false, ⟨(some 39), .load true 3 (.t 1), none⟩),
  ([0], false, ⟨(some 40), .mv (.t 3), none⟩),
  ([0, 1], false, ⟨(some 41), .fad 1 (.t 1), none⟩),
  ([0, 1], false, ⟨(some 42), .load false 1 (.t 41), none⟩),
  ([0], false, ⟨(some 43), .bin .quo (.t 40) (.t 42), none⟩),
  ([], false, ⟨(some 44), .callr 163 [(.t 39), (.t 43)], none⟩),
  ([0, 1, 2, 3, 4, 5], false, ⟨(some 45), .mv (.t 3), none⟩),
  ([0, 1, 2, 3, 4, 5, 6], false, ⟨(some 46), .fad 1 (.t 1), none⟩),
  ([0, 1, 2, 3, 4, 5, 6], false, ⟨(some 47), .load false 1 (.t 46), none⟩),
  ([0, 1, 2, 3, 4, 5], false, ⟨(some 48), .bin .rem (.t 45) (.t 47), none⟩),
  ([], true, ⟨(some 49), .call false 160 [(.t 44), (.t 48)], none⟩),
  ([], true, ⟨(some 50), .una .not (.t 49), none⟩)])
 (.cond (.t 50)
 (.seq (.reg [⟨(some 2), .mv (.k (D.bool false)), none⟩])
 .ret)
 .skip))))
 (.reg [⟨(some 51), .bin .add (.t 36) (.k (D.int .i64 (1))), none⟩,
  ⟨(some 36), .mv (.t 51), none⟩])))))))
 (.seq (.reg [⟨(some 2), .mv (.k (D.bool true)), none⟩])
 .ret))))⟩
def a378 : Ann := ⟨[], [⟨false, 0, false⟩], []⟩
def s378 : SFun := ⟨1, 9, [], [(.tmp 2, ⟨false, 0, false⟩)],
 (.seq (.reg [⟨(some 2), .mv (.k (D.bool false)), none⟩])
 (.seq (.reg [⟨(some 3), .mv (.t 0), none⟩,
  ⟨(some 4), .bin .eql (.t 3) (.k (D.int .u8 (66))), none⟩,
  ⟨(some 5), .mv (.t 4), none⟩,
  ⟨(some 6), .mv (.t 0), (some (5, false))⟩,
  ⟨(some 7), .bin .eql (.t 6) (.k (D.int .u8 (48))), (some (5, false))⟩,
  ⟨(some 8), .pick (.t 5) (.k (D.bool true)) (.t 7), none⟩,
  ⟨(some 2), .mv (.t 8), none⟩])
 .ret))⟩
def a377 : Ann := ⟨[], [⟨false, 0, false⟩], []⟩
def s377 : SFun := ⟨2, 57, [], [(.tmp 4, ⟨false, 0, false⟩)],
 (.seq (.reg [⟨(some 2), .box 3 (.t 0), none⟩,
  ⟨(some 3), .box 9 (.t 1), none⟩,
  ⟨(some 4), .mv (.k (D.bool false)), none⟩])
 (.seq (.reg [⟨(some 5), .mv (.k (.fn 378 [])), none⟩])
 (.seq (.reg [⟨(some 6), .fad 0 (.t 3), none⟩,
  ⟨(some 7), .load false 1 (.t 6), none⟩,
  ⟨(some 8), .bin .geq (.t 7) (.k (D.int .i64 (0))), none⟩,
  ⟨(some 9), .mv (.t 8), none⟩,
  ⟨(some 10), .fad 0 (.t 3), (some (9, true))⟩,
  ⟨(some 11), .load false 1 (.t 10), (some (9, true))⟩,
  ⟨(some 12), .fad 0 (.t 2), (some (9, true))⟩,
  ⟨(some 13), .load false 1 (.t 12), (some (9, true))⟩,
  ⟨(some 14), .bin .lss (.t 11) (.t 13), (some (9, true))⟩,
  ⟨(some 15), .pick (.t 9) (.t 14) (.k (D.bool false)), none⟩,
  ⟨(some 16), .mv (.t 15), none⟩,
  ⟨(some 17), .fad 1 (.t 3), (some (16, true))⟩,
  ⟨(some 18), .load false 1 (.t 17), (some (16, true))⟩,
  ⟨(some 19), .bin .geq (.t 18) (.k (D.int .i64 (0))), (some (16, true))⟩,
  ⟨(some 20), .pick (.t 16) (.t 19) (.k (D.bool false)), none⟩,
  ⟨(some 21), .mv (.t 20), none⟩,
  ⟨(some 22), .fad 1 (.t 3), (some (21, true))⟩,
  ⟨(some 23), .load false 1 (.t 22), (some (21, true))⟩,
  ⟨(some 24), .fad 1 (.t 2), (some (21, true))⟩,
  ⟨(some 25), .load false 1 (.t 24), (some (21, true))⟩,
  ⟨(some 26), .bin .lss (.t 23) (.t 25), (some (21, true))⟩,
  ⟨(some 27), .pick (.t 21) (.t 26) (.k (D.bool false)), none⟩,
  ⟨(some 28), .mv (.t 27), none⟩,
  ⟨(some 29), .fad 2 (.t 3), (some (28, true))⟩,
  ⟨(some 30), .load true 3 (.t 29), (some (28, true))⟩,
  ⟨(some 31), .call false 108 [(.t 30)], (some (28, true))⟩,
  ⟨(some 32), .pick (.t 28) (.t 31) (.k (D.bool false)), none⟩,
  ⟨(some 33), .mv (.t 32), none⟩,
  ⟨(some 34), .mv (.t 5), (some (33, true))⟩,
  ⟨(some 35), .fad 5 (.t 3), (some (33, true))⟩,
  ⟨(some 36), .ixa 2 1 (.t 35) (.k (D.int .i64 (0))), (some (33, true))⟩,
  ⟨(some 37), .load false 1 (.t 36), (some (33, true))⟩,
  ⟨(some 38), .callv false (.t 34) [(.t 37)], (some (33, true))⟩,
  ⟨(some 39), .pick (.t 33) (.t 38) (.k (D.bool false)), none⟩,
  ⟨(some 40), .mv (.t 39), none⟩,
  ⟨(some 41), .mv (.t 5), (some (40, true))⟩,
  ⟨(some 42), .fad 5 (.t 3), (some (40, true))⟩,
  ⟨(some 43), .ixa 2 1 (.t 42) (.k (D.int .i64 (1))), (some (40, true))⟩,
  ⟨(some 44), .load false 1 (.t 43), (some (40, true))⟩,
  ⟨(some 45), .callv false (.t 41) [(.t 44)], (some (40, true))⟩,
  ⟨(some 46), .pick (.t 40) (.t 45) (.k (D.bool false)), none⟩,
  ⟨(some 47), .mv (.t 46), none⟩,
  ⟨(some 48), .fad 7 (.t 3), (some (47, true))⟩,
  ⟨(some 49), .load false 1 (.t 48), (some (47, true))⟩,
  ⟨(some 50), .bin .eql (.t 49) (.k (D.int .i64 (0))), (some (47, true))⟩,
  ⟨(some 51), .mv (.t 50), (some (47, true))⟩,
  ⟨(some 52), .fad 7 (.t 3), (some (51, false))⟩,
  ⟨(some 53), .load false 1 (.t 52), (some (51, false))⟩,
  ⟨(some 54), .bin .eql (.t 53) (.k (D.int .i64 (1))), (some (51, false))⟩,
  ⟨(some 55), .pick (.t 51) (.k (D.bool true)) (.t 54), (some (47, true))⟩,
  ⟨(some 56), .pick (.t 47) (.t 55) (.k (D.bool false)), none⟩,
  ⟨(some 4), .mv (.t 56), none⟩])
 .ret)))⟩
def a373 : Ann := ⟨[], [⟨false, 0, false⟩], []⟩
def s373 : SFun := ⟨1, 86, [], [(.tmp 2, ⟨false, 0, false⟩)],
 (.seq (.reg [⟨(some 1), .box 29 (.t 0), none⟩,
  ⟨(some 2), .mv (.k (D.bool false)), none⟩])
 (.seq (.seq (.reg [⟨(some 4), .fad 0 (.t 1), none⟩,
  ⟨(some 5), .load true 3 (.t 4), none⟩,
  ⟨(some 6), .call false 154 [(.t 5)], none⟩,
  ⟨(some 7), .una .not (.t 6), none⟩,
  ⟨(some 8), .mv (.t 7), none⟩,
  ⟨(some 9), .fad 0 (.t 1), (some (8, false))⟩,
  ⟨(some 10), .load true 3 (.t 9), (some (8, false))⟩,
  ⟨(some 11), .fad 20 (.t 1), (some (8, false))⟩,
  ⟨(some 12), .load true 9 (.t 11), (some (8, false))⟩,
  ⟨(some 13), .call false 377 [(.t 10), (.t 12)], (some (8, false))⟩,
  ⟨(some 14), .una .not (.t 13), (some (8, false))⟩,
  ⟨(some 15), .pick (.t 8) (.k (D.bool true)) (.t 14), none⟩,
  ⟨(some 16), .mv (.t 15), none⟩,
  ⟨(some 17), .fad 0 (.t 1), (some (16, false))⟩,
  ⟨(some 18), .load true 3 (.t 17), (some (16, false))⟩,
  ⟨(some 19), .fad 3 (.t 1), (some (16, false))⟩,
  ⟨(some 20), .load false 1 (.t 19), (some (16, false))⟩,
  ⟨(some 21), .fad 4 (.t 1), (some (16, false))⟩,
  ⟨(some 22), .load false 1 (.t 21), (some (16, false))⟩,
  ⟨(some 23), .fad 8 (.t 1), (some (16, false))⟩,
  ⟨(some 24), .load true 3 (.t 23), (some (16, false))⟩,
  ⟨(some 25), .fad 12 (.t 1), (some (16, false))⟩,
  ⟨(some 26), .load true 2 (.t 25), (some (16, false))⟩,
  ⟨(some 27), .fad 14 (.t 1), (some (16, false))⟩,
  ⟨(some 28), .load false 1 (.t 27), (some (16, false))⟩,
  ⟨(some 29), .build [(D.int .i64 (0)), (D.int .i64 (0)), (D.int .i64 (0)), (D.int .i64 (0)), (D.int .i64 (0)), (D.int .u8 (0)), (D.int .u8 (0)), (D.int .i64 (0)), (D.bool false)] [(0, 1, (.t 20)), (1, 1, (.t 22)), (2, 3, (.t 24)), (5, 2, (.t 26)), (7, 1, (.t 28))], (some (16, false))⟩,
  ⟨(some 30), .call false 377 [(.t 18), (.t 29)], (some (16, false))⟩,
  ⟨(some 31), .una .not (.t 30), (some (16, false))⟩,
  ⟨(some 32), .pick (.t 16) (.k (D.bool true)) (.t 31), none⟩])
 (.cond (.t 32)
 (.seq (.reg [⟨(some 2), .mv (.k (D.bool false)), none⟩])
 .ret)
 .skip))
 (.seq (.reg [⟨(some 33), .fad 6 (.t 1), none⟩,
  ⟨(some 34), .load false 1 (.t 33), none⟩,
  ⟨(some 35), .bin .geq (.t 34) (.k (D.int .i64 (0))), none⟩,
  ⟨(some 36), .mv (.t 35), none⟩,
  ⟨(some 37), .fad 6 (.t 1), (some (36, true))⟩,
  ⟨(some 38), .load false 1 (.t 37), (some (36, true))⟩,
  ⟨(some 39), .fad 7 (.t 1), (some (36, true))⟩,
  ⟨(some 40), .load false 1 (.t 39), (some (36, true))⟩,
  ⟨(some 41), .bin .lss (.t 38) (.t 40), (some (36, true))⟩,
  ⟨(some 42), .pick (.t 36) (.t 41) (.k (D.bool false)), none⟩,
  ⟨(some 43), .mv (.t 42), none⟩,
  ⟨(some 44), .fad 7 (.t 1), (some (43, true))⟩,
  ⟨(some 45), .load false 1 (.t 44), (some (43, true))⟩,
  ⟨(some 46), .fad 0 (.t 1), (some (43, true))⟩,
  ⟨(some 47), .fad 0 (.t 46), (some (43, true))⟩,
  ⟨(some 48), .load false 1 (.t 47), (some (43, true))⟩,
  ⟨(some 49), .bin .lss (.t 45) (.t 48), (some (43, true))⟩,
  ⟨(some 50), .pick (.t 43) (.t 49) (.k (D.bool false)), none⟩,
  ⟨(some 51), .mv (.t 50), none⟩,
  ⟨(some 52), .fad 0 (.t 1), (some (51, false))⟩,
  ⟨(some 53), .fad 0 (.t 52), (some (51, false))⟩,
  ⟨(some 54), .load false 1 (.t 53), (some (51, false))⟩,
  ⟨(some 55), .bin .eql (.t 54) (.k (D.int .i64 (1))), (some (51, false))⟩,
  ⟨(some 56), .mv (.t 55), (some (51, false))⟩,
  ⟨(some 57), .fad 6 (.t 1), (some (56, true))⟩,
  ⟨(some 58), .load false 1 (.t 57), (some (56, true))⟩,
  ⟨(some 59), .bin .eql (.t 58) (.k (D.int .i64 (0))), (some (56, true))⟩,
  ⟨(some 60), .pick (.t 56) (.t 59) (.k (D.bool false)), (some (51, false))⟩,
  ⟨(some 61), .mv (.t 60), (some (51, false))⟩,
  ⟨(some 62), .fad 7 (.t 1), (some (61, true))⟩,
  ⟨(some 63), .load false 1 (.t 62), (some (61, true))⟩,
  ⟨(some 64), .bin .eql (.t 63) (.k (D.int .i64 (0))), (some (61, true))⟩,
  ⟨(some 65), .pick (.t 61) (.t 64) (.k (D.bool false)), (some (51, false))⟩,
  ⟨(some 66), .pick (.t 51) (.k (D.bool true)) (.t 65), none⟩,
  ⟨(some 3), .mv (.t 66), none⟩])
 (.seq (.reg [⟨(some 67), .mv (.t 3), none⟩,
  ⟨(some 68), .mv (.t 67), none⟩,
  ⟨(some 69), .fad 5 (.t 1), (some (68, true))⟩,
  ⟨(some 70), .load false 1 (.t 69), (some (68, true))⟩,
  ⟨(some 71), .una .not (.t 70), (some (68, true))⟩,
  ⟨(some 72), .mv (.t 71), (some (68, true))⟩,
  ⟨(some 73), .fad 15 (.t 1), (some (72, false))⟩,
  ⟨(some 74), .load false 1 (.t 73), (some (72, false))⟩,
  ⟨(some 75), .mv (.t 74), (some (72, false))⟩,
  ⟨(some 76), .fad 4 (.t 1), (some (75, true))⟩,
  ⟨(some 77), .load false 1 (.t 76), (some (75, true))⟩,
  ⟨(some 78), .fad 0 (.t 1), (some (75, true))⟩,
  ⟨(some 79), .fad 1 (.t 78), (some (75, true))⟩,
  ⟨(some 80), .load false 1 (.t 79), (some (75, true))⟩,
  ⟨(some 81), .bin .sub (.t 80) (.k (D.int .i64 (1))), (some (75, true))⟩,
  ⟨(some 82), .bin .eql (.t 77) (.t 81), (some (75, true))⟩,
  ⟨(some 83), .pick (.t 75) (.t 82) (.k (D.bool false)), (some (72, false))⟩,
  ⟨(some 84), .pick (.t 72) (.k (D.bool true)) (.t 83), (some (68, true))⟩,
  ⟨(some 85), .pick (.t 68) (.t 84) (.k (D.bool false)), none⟩,
  ⟨(some 2), .mv (.t 85), none⟩])
 .ret))))⟩
def a121 : Ann := ⟨[], [⟨false, 0, false⟩, ⟨false, 0, false⟩, ⟨false, 0, false⟩, ⟨false, 0, false⟩], []⟩
def s121 : SFun := ⟨1, 96, [], [(.tmp 2, ⟨false, 0, false⟩), (.tmp 3, ⟨false, 0, false⟩), (.tmp 4, ⟨false, 0, false⟩), (.tmp 5, ⟨false, 0, false⟩)],
 (.seq (.reg [⟨(some 2), .mv (.k (D.int .i64 (0))), none⟩,
  ⟨(some 3), .mv (.k (D.int .i64 (0))), none⟩,
  ⟨(some 4), .mv (.k (D.int .i64 (0))), none⟩,
  ⟨(some 5), .mv (.k (D.bool false)), none⟩])
 (.seq (.reg [⟨(some 10), .bsl true 1 6 [(D.int .i64 (0))] [(0, (.k (D.int .i64 (0)))), (1, (.k (D.int .i64 (95)))), (2, (.k (D.int .i64 (135)))), (3, (.k (D.int .i64 (175)))), (4, (.k (D.int .i64 (215)))), (5, (.k (D.int .i64 (255))))], none⟩,
  ⟨(some 6), .mv (.t 10), none⟩])
 (.seq (.reg [⟨(some 11), .build [(D.int .i64 (0)), (D.int .i64 (0)), (D.int .i64 (0))] [(0, 1, (.k (D.int .i64 (0)))), (1, 1, (.k (D.int .i64 (0)))), (2, 1, (.k (D.int .i64 (0))))], none⟩,
  ⟨(some 12), .build [(D.int .i64 (0)), (D.int .i64 (0)), (D.int .i64 (0))] [(0, 1, (.k (D.int .i64 (205)))), (1, 1, (.k (D.int .i64 (0)))), (2, 1, (.k (D.int .i64 (0))))], none⟩,
  ⟨(some 13), .build [(D.int .i64 (0)), (D.int .i64 (0)), (D.int .i64 (0))] [(0, 1, (.k (D.int .i64 (0)))), (1, 1, (.k (D.int .i64 (205)))), (2, 1, (.k (D.int .i64 (0))))], none⟩,
  ⟨(some 14), .build [(D.int .i64 (0)), (D.int .i64 (0)), (D.int .i64 (0))] [(0, 1, (.k (D.int .i64 (205)))), (1, 1, (.k (D.int .i64 (205)))), (2, 1, (.k (D.int .i64 (0))))], none⟩,
  ⟨(some 15), .build [(D.int .i64 (0)), (D.int .i64 (0)), (D.int .i64 (0))] [(0, 1, (.k (D.int .i64 (0)))), (1, 1, (.k (D.int .i64 (0)))), (2, 1, (.k (D.int .i64 (238))))], none⟩,
  ⟨(some 16), .build [(D.int .i64 (0)), (D.int .i64 (0)), (D.int .i64 (0))] [(0, 1, (.k (D.int .i64 (205)))), (1, 1, (.k (D.int .i64 (0)))), (2, 1, (.k (D.int .i64 (205))))], none⟩,
  ⟨(some 17), .build [(D.int .i64 (0)), (D.int .i64 (0)), (D.int .i64 (0))] [(0, 1, (.k (D.int .i64 (0)))), (1, 1, (.k (D.int .i64 (205)))), (2, 1, (.k (D.int .i64 (205))))], none⟩,
  ⟨(some 18), .build [(D.int .i64 (0)), (D.int .i64 (0)), (D.int .i64 (0))] [(0, 1, (.k (D.int .i64 (229)))), (1, 1, (.k (D.int .i64 (229)))), (2, 1, (.k (D.int .i64 (229))))], none⟩,
  ⟨(some 19), .build [(D.int .i64 (0)), (D.int .i64 (0)), (D.int .i64 (0))] [(0, 1, (.k (D.int .i64 (127)))), (1, 1, (.k (D.int .i64 (127)))), (2, 1, (.k (D.int .i64 (127))))], none⟩,
  ⟨(some 20), .build [(D.int .i64 (0)), (D.int .i64 (0)), (D.int .i64 (0))] [(0, 1, (.k (D.int .i64 (255)))), (1, 1, (.k (D.int .i64 (0)))), (2, 1, (.k (D.int .i64 (0))))], none⟩,
  ⟨(some 21), .build [(D.int .i64 (0)), (D.int .i64 (0)), (D.int .i64 (0))] [(0, 1, (.k (D.int .i64 (0)))), (1, 1, (.k (D.int .i64 (255)))), (2, 1, (.k (D.int .i64 (0))))], none⟩,
  ⟨(some 22), .build [(D.int .i64 (0)), (D.int .i64 (0)), (D.int .i64 (0))] [(0, 1, (.k (D.int .i64 (255)))), (1, 1, (.k (D.int .i64 (255)))), (2, 1, (.k (D.int .i64 (0))))], none⟩,
  ⟨(some 23), .build [(D.int .i64 (0)), (D.int .i64 (0)), (D.int .i64 (0))] [(0, 1, (.k (D.int .i64 (92)))), (1, 1, (.k (D.int .i64 (92)))), (2, 1, (.k (D.int .i64 (255))))], none⟩,
  ⟨(some 24), .build [(D.int .i64 (0)), (D.int .i64 (0)), (D.int .i64 (0))] [(0, 1, (.k (D.int .i64 (255)))), (1, 1, (.k (D.int .i64 (0)))), (2, 1, (.k (D.int .i64 (255))))], none⟩,
  ⟨(some 25), .build [(D.int .i64 (0)), (D.int .i64 (0)), (D.int .i64 (0))] [(0, 1, (.k (D.int .i64 (0)))), (1, 1, (.k (D.int .i64 (255)))), (2, 1, (.k (D.int .i64 (255))))], none⟩,
  ⟨(some 26), .build [(D.int .i64 (0)), (D.int .i64 (0)), (D.int .i64 (0))] [(0, 1, (.k (D.int .i64 (255)))), (1, 1, (.k (D.int .i64 (255)))), (2, 1, (.k (D.int .i64 (255))))], none⟩,
  ⟨(some 27), .bsl true 3 16 [(D.int .i64 (0)), (D.int .i64 (0)), (D.int .i64 (0))] [(0, (.t 11)), (1, (.t 12)), (2, (.t 13)), (3, (.t 14)), (4, (.t 15)), (5, (.t 16)), (6, (.t 17)), (7, (.t 18)), (8, (.t 19)), (9, (.t 20)), (10, (.t 21)), (11, (.t 22)), (12, (.t 23)), (13, (.t 24)), (14, (.t 25)), (15, (.t 26))], none⟩,
  ⟨(some 7), .mv (.t 27), none⟩])
 (.seq (.seq (.reg [⟨(some 28), .mv (.t 0), none⟩,
  ⟨(some 29), .bin .sub (.t 28) (.k (D.int .i64 (16))), none⟩,
  ⟨(some 8), .mv (.t 29), none⟩])
 (.block 0 (.seq (.reg [⟨(some 31), .mv (.t 0), none⟩,
  ⟨(some 32), .bin .geq (.t 31) (.k (D.int .i64 (16777216))), none⟩,
  ⟨(some 33), .mv (.t 32), none⟩,
  ⟨(some 34), .mv (.t 0), (some (33, true))⟩,
  ⟨(some 35), .bin .lss (.t 34) (.k (D.int .i64 (33554432))), (some (33, true))⟩,
  ⟨(some 36), .pick (.t 33) (.t 35) (.k (D.bool false)), none⟩,
  ⟨(some 30), .mv (.t 36), none⟩])
 (.cond (.t 30)
 (.seq (.reg [⟨(some 37), .mv (.t 0), none⟩,
  ⟨(some 38), .bin .shr (.t 37) (.k (D.int .u64 (16))), none⟩,
  ⟨(some 39), .bin .and (.t 38) (.k (D.int .i64 (255))), none⟩,
  ⟨(some 40), .mv (.t 0), none⟩,
  ⟨(some 41), .bin .shr (.t 40) (.k (D.int .u64 (8))), none⟩,
  ⟨(some 42), .bin .and (.t 41) (.k (D.int .i64 (255))), none⟩,
  ⟨(some 43), .mv (.t 0), none⟩,
  ⟨(some 44), .bin .and (.t 43) (.k (D.int .i64 (255))), none⟩,
  ⟨(some 2), .mv (.t 39), none⟩,
  ⟨(some 3), .mv (.t 42), none⟩,
  ⟨(some 4), .mv (.t 44), none⟩,
  ⟨(some 5), .mv (.k (D.bool true)), none⟩])
 .ret)
 (.seq (.reg [⟨(some 46), .mv (.t 0), none⟩,
  ⟨(some 47), .bin .lss (.t 46) (.k (D.int .i64 (0))), none⟩,
  ⟨(some 48), .mv (.t 47), none⟩,
  ⟨(some 49), .mv (.t 0), (some (48, false))⟩,
  ⟨(some 50), .bin .geq (.t 49) (.k (D.int .i64 (256))), (some (48, false))⟩,
  ⟨(some 51), .pick (.t 48) (.k (D.bool true)) (.t 50), none⟩,
  ⟨(some 45), .mv (.t 51), none⟩])
 (.cond (.t 45)
 (.seq (.reg [⟨(some 2), .mv (.k (D.int .i64 (0))), none⟩,
  ⟨(some 3), .mv (.k (D.int .i64 (0))), none⟩,
  ⟨(some 4), .mv (.k (D.int .i64 (0))), none⟩,
  ⟨(some 5), .mv (.k (D.bool false)), none⟩])
 .ret)
 (.seq (.reg [⟨(some 53), .mv (.t 0), none⟩,
  ⟨(some 54), .bin .lss (.t 53) (.k (D.int .i64 (16))), none⟩,
  ⟨(some 52), .mv (.t 54), none⟩])
 (.cond (.t 52)
 (.seq (.dreg [([], false, ⟨(some 55), .mv (.t 7), none⟩),
  ([0], false, ⟨(some 56), .mv (.t 0), none⟩),
  ([], false, ⟨(some 57), .ixs 3 (.t 55) (.t 56), none⟩),
  ([], false, ⟨(some 58), .ixa 3 1 (.t 57) (.k (D.int .i64 (0))), none⟩),
  ([], false, ⟨(some 59), .load false 1 (.t 58), none⟩),
  ([0, 1, 2, 3, 4], false, ⟨(some 60), .mv (.t 7), none⟩),
  ([0, 1, 2, 3, 4, 5], false, ⟨(some 61), .mv (.t 0), none⟩),
  ([0, 1, 2, 3, 4], false, ⟨(some 62), .ixs 3 (.t 60) (.t 61), none⟩),
  ([0, 1, 2, 3, 4], false, ⟨(some 63), .ixa 3 1 (.t 62) (.k (D.int .i64 (1))), none⟩),
  ([0, 1, 2, 3, 4], false, ⟨(some 64), .load false 1 (.t 63), none⟩),
  ([0, 1, 2, 3, 4, 5, 6, 7, 8, 9], false, ⟨(some 65), .mv (.t 7), none⟩),
  ([0, 1, 2, 3, 4, 5, 6, 7, 8, 9, 10], false, ⟨(some 66), .mv (.t 0), none⟩),
  ([0, 1, 2, 3, 4, 5, 6, 7, 8, 9], false, ⟨(some 67), .ixs 3 (.t 65) (.t 66), none⟩),
  ([0, 1, 2, 3, 4, 5, 6, 7, 8, 9], false, ⟨(some 68), .ixa 3 1 (.t 67) (.k (D.int .i64 (2))), none⟩),
  ([0, 1, 2, 3, 4, 5, 6, 7, 8, 9], false, ⟨(some 69), .load false 1 (.t 68), none⟩),
  ([5, 6, 7, 8, 9, 10, 11, 12, 13, 14], false, ⟨(some 2), .mv (.t 59), none⟩),
  ([10, 11, 12, 13, 14], false, ⟨(some 3), .mv (.t 64), none⟩),
  ([], true, ⟨(some 4), .mv (.t 69), none⟩),
  ([], true, ⟨(some 5), .mv (.k (D.bool true)), none⟩)])
 .ret)
 (.seq (.reg [⟨(some 71), .mv (.t 0), none⟩,
  ⟨(some 72), .bin .lss (.t 71) (.k (D.int .i64 (232))), none⟩,
  ⟨(some 70), .mv (.t 72), none⟩])
 (.cond (.t 70)
 (.seq (.dreg [([], false, ⟨(some 73), .mv (.t 6), none⟩),
  ([0], false, ⟨(some 74), .mv (.t 8), none⟩),
  ([0], false, ⟨(some 75), .bin .quo (.t 74) (.k (D.int .i64 (36))), none⟩),
  ([], false, ⟨(some 76), .ixs 1 (.t 73) (.t 75), none⟩),
  ([], false, ⟨(some 77), .load false 1 (.t 76), none⟩),
  ([0, 1, 2, 3, 4], false, ⟨(some 78), .mv (.t 6), none⟩),
  ([0, 1, 2, 3, 4, 5], false, ⟨(some 79), .mv (.t 8), none⟩),
  ([0, 1, 2, 3, 4, 5], false, ⟨(some 80), .bin .quo (.t 79) (.k (D.int .i64 (6))), none⟩),
  ([0, 1, 2, 3, 4, 5], false, ⟨(some 81), .bin .rem (.t 80) (.k (D.int .i64 (6))), none⟩),
  ([0, 1, 2, 3, 4], false, ⟨(some 82), .ixs 1 (.t 78) (.t 81), none⟩),
  ([0, 1, 2, 3, 4], false, ⟨(some 83), .load false 1 (.t 82), none⟩),
  ([0, 1, 2, 3, 4, 5, 6, 7, 8, 9, 10], false, ⟨(some 84), .mv (.t 6), none⟩),
  ([0, 1, 2, 3, 4, 5, 6, 7, 8, 9, 10, 11], false, ⟨(some 85), .mv (.t 8), none⟩),
  ([0, 1, 2, 3, 4, 5, 6, 7, 8, 9, 10, 11], false, ⟨(some 86), .bin .rem (.t 85) (.k (D.int .i64 (6))), none⟩),
  ([0, 1, 2, 3, 4, 5, 6, 7, 8, 9, 10], false, ⟨(some 87), .ixs 1 (.t 84) (.t 86), none⟩),
  ([0, 1, 2, 3, 4, 5, 6, 7, 8, 9, 10], false, ⟨(some 88), .load false 1 (.t 87), none⟩),
  ([5, 6, 7, 8, 9, 10, 11, 12, 13, 14, 15], false, ⟨(some 2), .mv (.t 77), none⟩),
  ([11, 12, 13, 14, 15], false, ⟨(some 3), .mv (.t 83), none⟩),
  ([], true, ⟨(some 4), .mv (.t 88), none⟩),
  ([], true, ⟨(some 5), .mv (.k (D.bool true)), none⟩)])
 .ret)
 .skip))))))))))
 (.seq (.reg [⟨(some 89), .mv (.t 0), none⟩,
  ⟨(some 90), .bin .sub (.t 89) (.k (D.int .i64 (232))), none⟩,
  ⟨(some 91), .bin .mul (.k (D.int .i64 (10))) (.t 90), none⟩,
  ⟨(some 92), .bin .add (.k (D.int .i64 (8))) (.t 91), none⟩,
  ⟨(some 9), .mv (.t 92), none⟩])
 (.seq (.reg [⟨(some 93), .mv (.t 9), none⟩,
  ⟨(some 94), .mv (.t 9), none⟩,
  ⟨(some 95), .mv (.t 9), none⟩,
  ⟨(some 2), .mv (.t 93), none⟩,
  ⟨(some 3), .mv (.t 94), none⟩,
  ⟨(some 4), .mv (.t 95), none⟩,
  ⟨(some 5), .mv (.k (D.bool true)), none⟩])
 .ret))))))⟩
def a118 : Ann := ⟨[], [⟨false, 0, false⟩], []⟩
def s118 : SFun := ⟨2, 56, [], [(.tmp 4, ⟨false, 0, false⟩)],
 (.seq (.reg [⟨(some 4), .mv (.k (D.int .i64 (0))), none⟩])
 (.seq (.reg [⟨(some 14), .mv (.t 0), none⟩,
  ⟨(some 15), .call false 121 [(.t 14)], none⟩,
  ⟨(some 13), .mv (.t 15), none⟩,
  ⟨(some 16), .ext (.t 13) 0, none⟩,
  ⟨(some 17), .ext (.t 13) 1, none⟩,
  ⟨(some 18), .ext (.t 13) 2, none⟩,
  ⟨(some 19), .ext (.t 13) 3, none⟩,
  ⟨(some 5), .mv (.t 16), none⟩,
  ⟨(some 6), .mv (.t 17), none⟩,
  ⟨(some 7), .mv (.t 18), none⟩,
  ⟨(some 8), .mv (.t 19), none⟩])
 (.seq (.reg [⟨(some 21), .mv (.t 1), none⟩,
  ⟨(some 22), .call false 121 [(.t 21)], none⟩,
  ⟨(some 20), .mv (.t 22), none⟩,
  ⟨(some 23), .ext (.t 20) 0, none⟩,
  ⟨(some 24), .ext (.t 20) 1, none⟩,
  ⟨(some 25), .ext (.t 20) 2, none⟩,
  ⟨(some 26), .ext (.t 20) 3, none⟩,
  ⟨(some 9), .mv (.t 23), none⟩,
  ⟨(some 10), .mv (.t 24), none⟩,
  ⟨(some 11), .mv (.t 25), none⟩,
  ⟨(some 12), .mv (.t 26), none⟩])
 (.seq (.seq (.reg [⟨(some 27), .mv (.t 8), none⟩,
  ⟨(some 28), .una .not (.t 27), none⟩,
  ⟨(some 29), .mv (.t 28), none⟩,
  ⟨(some 30), .mv (.t 12), (some (29, false))⟩,
  ⟨(some 31), .una .not (.t 30), (some (29, false))⟩,
  ⟨(some 32), .pick (.t 29) (.k (D.bool true)) (.t 31), none⟩])
 (.cond (.t 32)
 (.seq (.reg [⟨(some 4), .mv (.k (D.int .i64 (0))), none⟩])
 .ret)
 .skip))
 (.seq (.reg [⟨(some 33), .mv (.t 5), none⟩,
  ⟨(some 34), .mv (.t 9), none⟩,
  ⟨(some 35), .bin .sub (.t 33) (.t 34), none⟩,
  ⟨(some 36), .mv (.t 5), none⟩,
  ⟨(some 37), .mv (.t 9), none⟩,
  ⟨(some 38), .bin .sub (.t 36) (.t 37), none⟩,
  ⟨(some 39), .bin .mul (.t 35) (.t 38), none⟩,
  ⟨(some 40), .mv (.t 6), none⟩,
  ⟨(some 41), .mv (.t 10), none⟩,
  ⟨(some 42), .bin .sub (.t 40) (.t 41), none⟩,
  ⟨(some 43), .mv (.t 6), none⟩,
  ⟨(some 44), .mv (.t 10), none⟩,
  ⟨(some 45), .bin .sub (.t 43) (.t 44), none⟩,
  ⟨(some 46), .bin .mul (.t 42) (.t 45), none⟩,
  ⟨(some 47), .bin .add (.t 39) (.t 46), none⟩,
  ⟨(some 48), .mv (.t 7), none⟩,
  ⟨(some 49), .mv (.t 11), none⟩,
  ⟨(some 50), .bin .sub (.t 48) (.t 49), none⟩,
  ⟨(some 51), .mv (.t 7), none⟩,
  ⟨(some 52), .mv (.t 11), none⟩,
  ⟨(some 53), .bin .sub (.t 51) (.t 52), none⟩,
  ⟨(some 54), .bin .mul (.t 50) (.t 53), none⟩,
  ⟨(some 55), .bin .add (.t 47) (.t 54), none⟩,
  ⟨(some 4), .mv (.t 55), none⟩])
 .ret)))))⟩
def a120 : Ann := ⟨[(6, [(0, ⟨false, 0, false⟩), (9, ⟨false, 0, false⟩), (28, ⟨false, 0, false⟩), (29, ⟨false, 0, false⟩)])], [⟨false, 0, false⟩], []⟩
def s120 : SFun := ⟨2, 42, [], [(.tmp 4, ⟨false, 0, false⟩)],
 (.seq (.reg [⟨(some 4), .mv (.k (D.int .i64 (0))), none⟩])
 (.seq (.seq (.reg [⟨(some 12), .mv (.t 0), none⟩,
  ⟨(some 13), .call false 121 [(.t 12)], none⟩,
  ⟨(some 11), .mv (.t 13), none⟩,
  ⟨(some 14), .ext (.t 11) 0, none⟩,
  ⟨(some 15), .ext (.t 11) 1, none⟩,
  ⟨(some 16), .ext (.t 11) 2, none⟩,
  ⟨(some 17), .ext (.t 11) 3, none⟩,
  ⟨(some 5), .mv (.t 14), none⟩,
  ⟨(some 6), .mv (.t 15), none⟩,
  ⟨(some 7), .mv (.t 16), none⟩,
  ⟨(some 8), .mv (.t 17), none⟩])
 (.seq (.reg [⟨(some 18), .mv (.t 8), none⟩,
  ⟨(some 19), .una .not (.t 18), none⟩,
  ⟨(some 20), .mv (.t 19), none⟩,
  ⟨(some 21), .mv (.t 1), (some (20, false))⟩,
  ⟨(some 22), .bin .lss (.t 21) (.k (D.int .i64 (1))), (some (20, false))⟩,
  ⟨(some 23), .pick (.t 20) (.k (D.bool true)) (.t 22), none⟩,
  ⟨(some 24), .mv (.t 23), none⟩,
  ⟨(some 25), .mv (.t 1), (some (24, false))⟩,
  ⟨(some 26), .bin .gtr (.t 25) (.k (D.int .i64 (256))), (some (24, false))⟩,
  ⟨(some 27), .pick (.t 24) (.k (D.bool true)) (.t 26), none⟩])
 (.cond (.t 27)
 (.seq (.reg [⟨(some 4), .mv (.k (D.int .i64 (-1))), none⟩])
 .ret)
 .skip)))
 (.seq (.reg [⟨(some 9), .mv (.k (D.int .i64 (0))), none⟩])
 (.seq (.seq (.reg [⟨(some 28), .mv (.t 1), none⟩,
  ⟨(some 29), .mv (.k (D.int .i64 (0))), none⟩])
 (.block 0 (.loop [(0, ⟨false, 0, false⟩), (9, ⟨false, 0, false⟩), (28, ⟨false, 0, false⟩), (29, ⟨false, 0, false⟩)]
 (.seq (.reg [⟨(some 30), .bin .lss (.t 29) (.t 28), none⟩])
 (.seq (.cond (.t 30)
 .skip
 (.exit 0))
 (.seq (.block 1 (.seq (.reg [⟨(some 31), .mv (.t 29), none⟩,
  ⟨(some 10), .mv (.t 31), none⟩])
 (.seq (.reg [⟨(some 32), .mv (.t 0), none⟩,
  ⟨(some 33), .mv (.t 10), none⟩,
  ⟨(some 34), .call false 118 [(.t 32), (.t 33)], none⟩,
  ⟨(some 35), .mv (.t 0), none⟩,
  ⟨(some 36), .mv (.t 9), none⟩,
  ⟨(some 37), .call false 118 [(.t 35), (.t 36)], none⟩,
  ⟨(some 38), .bin .lss (.t 34) (.t 37), none⟩])
 (.cond (.t 38)
 (.reg [⟨(some 39), .mv (.t 10), none⟩,
  ⟨(some 9), .mv (.t 39), none⟩])
 .skip))))
 (.reg [⟨(some 40), .bin .add (.t 29) (.k (D.int .i64 (1))), none⟩,
  ⟨(some 29), .mv (.t 40), none⟩])))))))
 (.seq (.reg [⟨(some 41), .mv (.t 9), none⟩,
  ⟨(some 4), .mv (.t 41), none⟩])
 .ret)))))⟩
def a119 : Ann := ⟨[], [⟨false, 0, false⟩], []⟩
def s119 : SFun := ⟨2, 20, [], [(.tmp 4, ⟨false, 0, false⟩)],
 (.seq (.reg [⟨(some 4), .mv (.k (D.int .i64 (0))), none⟩])
 (.seq (.block 0 (.seq (.reg [⟨(some 6), .mv (.t 1), none⟩,
  ⟨(some 7), .bin .lss (.t 6) (.k (D.int .i64 (1))), none⟩,
  ⟨(some 5), .mv (.t 7), none⟩])
 (.cond (.t 5)
 (.seq (.reg [⟨(some 4), .mv (.k (D.int .i64 (-1))), none⟩])
 .ret)
 (.seq (.reg [⟨(some 9), .mv (.t 0), none⟩,
  ⟨(some 10), .bin .lss (.t 9) (.k (D.int .i64 (0))), none⟩,
  ⟨(some 11), .mv (.t 10), none⟩,
  ⟨(some 12), .mv (.t 0), (some (11, false))⟩,
  ⟨(some 13), .mv (.t 1), (some (11, false))⟩,
  ⟨(some 14), .bin .lss (.t 12) (.t 13), (some (11, false))⟩,
  ⟨(some 15), .pick (.t 11) (.k (D.bool true)) (.t 14), none⟩,
  ⟨(some 8), .mv (.t 15), none⟩])
 (.cond (.t 8)
 (.seq (.reg [⟨(some 16), .mv (.t 0), none⟩,
  ⟨(some 4), .mv (.t 16), none⟩])
 .ret)
 .skip)))))
 (.seq (.reg [⟨(some 17), .mv (.t 0), none⟩,
  ⟨(some 18), .mv (.t 1), none⟩,
  ⟨(some 19), .call false 120 [(.t 17), (.t 18)], none⟩,
  ⟨(some 4), .mv (.t 19), none⟩])
 .ret)))⟩
def a330 : Ann := ⟨[], [⟨false, 0, false⟩], []⟩
def s330 : SFun := ⟨2, 27, [], [(.cell 4 true 3, ⟨false, 0, false⟩)],
 (.seq (.reg [⟨(some 3), .box 3 (.t 1), none⟩,
  ⟨(some 4), .alloc [(D.int .i64 (0)), (D.int .i64 (0)), (D.int .i64 (0))], none⟩])
 (.seq (.reg [⟨(some 6), .call false 107 [], none⟩,
  ⟨(some 5), .alloc [(D.int .i64 (0)), (D.int .i64 (0)), (D.int .i64 (0))], none⟩,
  ⟨none, .store 3 (.t 5) (.t 6), none⟩])
 (.seq (.seq (.reg [⟨(some 7), .mv (.t 0), none⟩])
 (.block 0 (.seq (.reg [⟨(some 9), .bin .eql (.t 7) (.k (D.int .i64 (2))), none⟩,
  ⟨(some 8), .mv (.t 9), none⟩])
 (.cond (.t 8)
 (.seq (.dreg [([], false, ⟨(some 10), .fad 0 (.t 3), none⟩),
  ([], false, ⟨(some 11), .load false 1 (.t 10), none⟩),
  ([], false, ⟨(some 12), .callr 119 [(.t 11), (.k (D.int .i64 (8)))], none⟩),
  ([0, 1, 2], false, ⟨(some 13), .fad 1 (.t 3), none⟩),
  ([0, 1, 2], false, ⟨(some 14), .load false 1 (.t 13), none⟩),
  ([], false, ⟨(some 15), .callr 119 [(.t 14), (.k (D.int .i64 (8)))], none⟩),
  ([0, 1, 2, 3, 4, 5], false, ⟨(some 16), .fad 2 (.t 3), none⟩),
  ([0, 1, 2, 3, 4, 5], false, ⟨(some 17), .load false 1 (.t 16), none⟩),
  ([0, 1, 2, 3, 4, 5], false, ⟨(some 18), .bin .and (.t 17) (.k (D.int .i64 (57))), none⟩),
  ([], true, ⟨(some 19), .build [(D.int .i64 (0)), (D.int .i64 (0)), (D.int .i64 (0))] [(0, 1, (.t 12)), (1, 1, (.t 15)), (2, 1, (.t 18))], none⟩),
  ([], true, ⟨none, .store 3 (.t 4) (.t 19), none⟩)])
 .ret)
 (.seq (.reg [⟨(some 21), .bin .eql (.t 7) (.k (D.int .i64 (1))), none⟩,
  ⟨(some 20), .mv (.t 21), none⟩])
 (.cond (.t 20)
 (.reg [⟨(some 22), .fad 2 (.t 3), none⟩,
  ⟨(some 23), .load false 1 (.t 22), none⟩,
  ⟨(some 24), .bin .and (.t 23) (.k (D.int .i64 (57))), none⟩,
  ⟨(some 25), .fad 2 (.t 5), none⟩,
  ⟨none, .store 1 (.t 25) (.t 24), none⟩])
 .skip))))))
 (.seq (.reg [⟨(some 26), .load true 3 (.t 5), none⟩,
  ⟨none, .store 3 (.t 4) (.t 26), none⟩])
 .ret))))⟩
def a115 : Ann := ⟨[], [⟨true, 1, false⟩], []⟩
def s115 : SFun := ⟨0, 2, [], [(.tmp 0, ⟨true, 1, false⟩)],
 (.seq (.reg [⟨(some 0), .mv (.k .sn), none⟩])
 (.seq (.reg [⟨(some 1), .bsl true 1 31 [(D.int .i32 (0))] [(0, (.k (D.int .i32 (9670)))), (1, (.k (D.int .i32 (9618)))), (2, (.k (D.int .i32 (9225)))), (3, (.k (D.int .i32 (9228)))), (4, (.k (D.int .i32 (9229)))), (5, (.k (D.int .i32 (9226)))), (6, (.k (D.int .i32 (176)))), (7, (.k (D.int .i32 (177)))), (8, (.k (D.int .i32 (9252)))), (9, (.k (D.int .i32 (9227)))), (10, (.k (D.int .i32 (9496)))), (11, (.k (D.int .i32 (9488)))), (12, (.k (D.int .i32 (9484)))), (13, (.k (D.int .i32 (9492)))), (14, (.k (D.int .i32 (9532)))), (15, (.k (D.int .i32 (9146)))), (16, (.k (D.int .i32 (9147)))), (17, (.k (D.int .i32 (9472)))), (18, (.k (D.int .i32 (9148)))), (19, (.k (D.int .i32 (9149)))), (20, (.k (D.int .i32 (9500)))), (21, (.k (D.int .i32 (9508)))), (22, (.k (D.int .i32 (9524)))), (23, (.k (D.int .i32 (9516)))), (24, (.k (D.int .i32 (9474)))), (25, (.k (D.int .i32 (8804)))), (26, (.k (D.int .i32 (8805)))), (27, (.k (D.int .i32 (960)))), (28, (.k (D.int .i32 (8800)))), (29, (.k (D.int .i32 (163)))), (30, (.k (D.int .i32 (183))))], none⟩,
  ⟨(some 0), .mv (.t 1), none⟩])
 .ret))⟩
def a464 : Ann := ⟨[(2, [(0, ⟨false, 0, false⟩), (1, ⟨false, 0, false⟩), (4, ⟨false, 0, false⟩), (7, ⟨false, 0, false⟩), (8, ⟨false, 0, false⟩)])], [⟨false, 0, false⟩], []⟩
def s464 : SFun := ⟨2, 19, [], [(.tmp 4, ⟨false, 0, false⟩)],
 (.seq (.reg [⟨(some 4), .mv (.k (D.int .i64 (0))), none⟩])
 (.seq (.seq (.reg [⟨(some 6), .mv (.t 0), none⟩,
  ⟨(some 7), .len (.t 6), none⟩,
  ⟨(some 8), .mv (.k (D.int .i64 (0))), none⟩])
 (.block 0 (.loop [(0, ⟨false, 0, false⟩), (1, ⟨false, 0, false⟩), (4, ⟨false, 0, false⟩), (7, ⟨false, 0, false⟩), (8, ⟨false, 0, false⟩)]
 (.seq (.reg [⟨(some 9), .bin .lss (.t 8) (.t 7), none⟩])
 (.seq (.cond (.t 9)
 .skip
 (.exit 0))
 (.seq (.block 1 (.seq (.reg [⟨(some 10), .mv (.t 8), none⟩,
  ⟨(some 5), .mv (.t 10), none⟩])
 (.seq (.reg [⟨(some 11), .mv (.t 1), none⟩,
  ⟨(some 12), .mv (.t 0), none⟩,
  ⟨(some 13), .mv (.t 5), none⟩,
  ⟨(some 14), .ixs 1 (.t 12) (.t 13), none⟩,
  ⟨(some 15), .load false 1 (.t 14), none⟩,
  ⟨(some 16), .bin .eql (.t 11) (.t 15), none⟩])
 (.cond (.t 16)
 (.seq (.reg [⟨(some 17), .mv (.t 5), none⟩,
  ⟨(some 4), .mv (.t 17), none⟩])
 .ret)
 .skip))))
 (.reg [⟨(some 18), .bin .add (.t 8) (.k (D.int .i64 (1))), none⟩,
  ⟨(some 8), .mv (.t 18), none⟩])))))))
 (.seq (.reg [⟨(some 4), .mv (.k (D.int .i64 (-1))), none⟩])
 .ret)))⟩
def a117 : Ann := ⟨[], [⟨false, 0, false⟩, ⟨false, 0, false⟩], []⟩
def s117 : SFun := ⟨1, 13, [], [(.tmp 2, ⟨false, 0, false⟩), (.tmp 3, ⟨false, 0, false⟩)],
 (.seq (.reg [⟨(some 2), .mv (.k (D.int .u8 (0))), none⟩,
  ⟨(some 3), .mv (.k (D.bool false)), none⟩])
 (.seq (.reg [⟨(some 5), .call false 115 [], none⟩,
  ⟨(some 6), .mv (.t 0), none⟩,
  ⟨(some 7), .call false 464 [(.t 5), (.t 6)], none⟩,
  ⟨(some 4), .mv (.t 7), none⟩])
 (.seq (.seq (.reg [⟨(some 8), .mv (.t 4), none⟩,
  ⟨(some 9), .bin .lss (.t 8) (.k (D.int .i64 (0))), none⟩])
 (.cond (.t 9)
 (.seq (.reg [⟨(some 2), .mv (.k (D.int .u8 (0))), none⟩,
  ⟨(some 3), .mv (.k (D.bool false)), none⟩])
 .ret)
 .skip))
 (.seq (.reg [⟨(some 10), .mv (.t 4), none⟩,
  ⟨(some 11), .bin .add (.k (D.int .i64 (96))) (.t 10), none⟩,
  ⟨(some 12), .cvi .u8 (.t 11), none⟩,
  ⟨(some 2), .mv (.t 12), none⟩,
  ⟨(some 3), .mv (.k (D.bool true)), none⟩])
 .ret))))⟩
def a116 : Ann := ⟨[], [⟨false, 0, false⟩], []⟩
def s116 : SFun := ⟨1, 22, [], [(.tmp 2, ⟨false, 0, false⟩)],
 (.seq (.reg [⟨(some 2), .mv (.k (D.int .u8 (0))), none⟩])
 (.seq (.seq (.reg [⟨(some 5), .mv (.t 0), none⟩,
  ⟨(some 6), .bin .geq (.t 5) (.k (D.int .i32 (32))), none⟩,
  ⟨(some 7), .mv (.t 6), none⟩,
  ⟨(some 8), .mv (.t 0), (some (7, true))⟩,
  ⟨(some 9), .bin .leq (.t 8) (.k (D.int .i32 (126))), (some (7, true))⟩,
  ⟨(some 10), .pick (.t 7) (.t 9) (.k (D.bool false)), none⟩])
 (.cond (.t 10)
 (.seq (.reg [⟨(some 11), .mv (.t 0), none⟩,
  ⟨(some 12), .cvi .u8 (.t 11), none⟩,
  ⟨(some 2), .mv (.t 12), none⟩])
 .ret)
 .skip))
 (.seq (.seq (.reg [⟨(some 14), .mv (.t 0), none⟩,
  ⟨(some 15), .call false 117 [(.t 14)], none⟩,
  ⟨(some 13), .mv (.t 15), none⟩,
  ⟨(some 16), .ext (.t 13) 0, none⟩,
  ⟨(some 17), .ext (.t 13) 1, none⟩,
  ⟨(some 3), .mv (.t 16), none⟩,
  ⟨(some 4), .mv (.t 17), none⟩])
 (.seq (.reg [⟨(some 18), .mv (.t 4), none⟩])
 (.cond (.t 18)
 (.seq (.reg [⟨(some 19), .mv (.t 3), none⟩,
  ⟨(some 20), .bin .sub (.t 19) (.k (D.int .u8 (96))), none⟩,
  ⟨(some 21), .ixt (.k (D.str [42, 35, 72, 70, 67, 76, 111, 43, 78, 86, 43, 43, 43, 43, 43, 45, 45, 45, 45, 95, 43, 43, 43, 43, 124, 60, 62, 112, 33, 76, 46])) (.t 20), none⟩,
  ⟨(some 2), .mv (.t 21), none⟩])
 .ret)
 .skip)))
 (.seq (.reg [⟨(some 2), .mv (.k (D.int .u8 (63))), none⟩])
 .ret))))⟩
def a331 : Ann := ⟨[], [⟨false, 0, false⟩], []⟩
def s331 : SFun := ⟨2, 25, [], [(.tmp 4, ⟨false, 0, false⟩)],
 (.seq (.reg [⟨(some 4), .mv (.k (D.int .i32 (0))), none⟩])
 (.seq (.seq (.reg [⟨(some 8), .mv (.t 1), none⟩,
  ⟨(some 9), .call false 117 [(.t 8)], none⟩,
  ⟨(some 7), .mv (.t 9), none⟩,
  ⟨(some 10), .ext (.t 7) 0, none⟩,
  ⟨(some 11), .ext (.t 7) 1, none⟩,
  ⟨(some 5), .mv (.t 10), none⟩,
  ⟨(some 6), .mv (.t 11), none⟩])
 (.seq (.reg [⟨(some 12), .mv (.t 6), none⟩,
  ⟨(some 13), .mv (.t 12), none⟩,
  ⟨(some 14), .mv (.t 0), (some (13, true))⟩,
  ⟨(some 15), .bin .eql (.t 14) (.k (D.int .i64 (1))), (some (13, true))⟩,
  ⟨(some 16), .mv (.t 15), (some (13, true))⟩,
  ⟨(some 17), .mv (.t 0), (some (16, false))⟩,
  ⟨(some 18), .bin .eql (.t 17) (.k (D.int .i64 (2))), (some (16, false))⟩,
  ⟨(some 19), .pick (.t 16) (.k (D.bool true)) (.t 18), (some (13, true))⟩,
  ⟨(some 20), .pick (.t 13) (.t 19) (.k (D.bool false)), none⟩])
 (.cond (.t 20)
 (.seq (.reg [⟨(some 21), .mv (.t 1), none⟩,
  ⟨(some 4), .mv (.t 21), none⟩])
 .ret)
 .skip)))
 (.seq (.reg [⟨(some 22), .mv (.t 1), none⟩,
  ⟨(some 23), .call false 116 [(.t 22)], none⟩,
  ⟨(some 24), .cvi .i32 (.t 23), none⟩,
  ⟨(some 4), .mv (.t 24), none⟩])
 .ret)))⟩
def a329 : Ann := ⟨[], [⟨false, 0, false⟩], []⟩
def s329 : SFun := ⟨2, 19, [], [(.cell 4 true 5, ⟨false, 0, false⟩)],
 (.seq (.reg [⟨(some 3), .box 5 (.t 1), none⟩,
  ⟨(some 4), .alloc [(D.int .i32 (0)), (D.int .i64 (0)), (D.int .i64 (0)), (D.int .i64 (0)), (D.int .i64 (0))], none⟩])
 (.seq (.reg [⟨(some 6), .mv (.t 0), none⟩,
  ⟨(some 7), .fad 0 (.t 3), none⟩,
  ⟨(some 8), .load false 1 (.t 7), none⟩,
  ⟨(some 9), .call false 331 [(.t 6), (.t 8)], none⟩,
  ⟨(some 5), .mv (.t 9), none⟩])
 (.seq (.seq (.reg [⟨(some 10), .fad 1 (.t 3), none⟩,
  ⟨(some 11), .load false 1 (.t 10), none⟩,
  ⟨(some 12), .bin .eql (.t 11) (.k (D.int .i64 (2))), none⟩])
 (.cond (.t 12)
 (.reg [⟨(some 5), .mv (.k (D.int .i32 (32))), none⟩])
 .skip))
 (.seq (.reg [⟨(some 13), .mv (.t 5), none⟩,
  ⟨(some 14), .mv (.t 0), none⟩,
  ⟨(some 15), .fad 2 (.t 3), none⟩,
  ⟨(some 16), .load true 3 (.t 15), none⟩,
  ⟨(some 17), .call false 330 [(.t 14), (.t 16)], none⟩,
  ⟨(some 18), .build [(D.int .i32 (0)), (D.int .i64 (0)), (D.int .i64 (0)), (D.int .i64 (0)), (D.int .i64 (0))] [(0, 1, (.t 13)), (2, 3, (.t 17))], none⟩,
  ⟨none, .store 5 (.t 4) (.t 18), none⟩])
 .ret))))⟩
def a353 : Ann := ⟨[(2, [(0, ⟨false, 0, false⟩), (4, ⟨false, 0, false⟩), (7, ⟨false, 0, false⟩), (8, ⟨false, 0, false⟩), (9, ⟨false, 0, false⟩)])], [⟨false, 0, false⟩], []⟩
def s353 : SFun := ⟨2, 19, [], [(.tmp 4, ⟨false, 0, false⟩)],
 (.seq (.reg [⟨(some 4), .mv (.k (D.bool false)), none⟩])
 (.seq (.seq (.reg [⟨(some 7), .mv (.t 1), none⟩,
  ⟨(some 8), .len (.t 7), none⟩,
  ⟨(some 9), .mv (.k (D.int .i64 (0))), none⟩])
 (.block 0 (.loop [(0, ⟨false, 0, false⟩), (4, ⟨false, 0, false⟩), (7, ⟨false, 0, false⟩), (8, ⟨false, 0, false⟩), (9, ⟨false, 0, false⟩)]
 (.seq (.reg [⟨(some 10), .bin .lss (.t 9) (.t 8), none⟩])
 (.seq (.cond (.t 10)
 .skip
 (.exit 0))
 (.seq (.block 1 (.seq (.reg [⟨(some 11), .ixs 5 (.t 7) (.t 9), none⟩,
  ⟨(some 12), .load true 5 (.t 11), none⟩,
  ⟨(some 6), .alloc [(D.int .i32 (0)), (D.int .i64 (0)), (D.int .i64 (0)), (D.int .i64 (0)), (D.int .i64 (0))], none⟩,
  ⟨none, .store 5 (.t 6) (.t 12), none⟩])
 (.seq (.dreg [([], false, ⟨(some 13), .mv (.t 0), none⟩),
  ([0], false, ⟨(some 14), .load true 5 (.t 6), none⟩),
  ([], false, ⟨(some 15), .call true 329 [(.t 13), (.t 14)], none⟩),
  ([0, 1, 2], false, ⟨(some 16), .load true 5 (.t 6), none⟩),
  ([], true, ⟨(some 17), .eqa true [1, 1, 1, 1, 1] (.t 15) (.t 16), none⟩)])
 (.cond (.t 17)
 (.seq (.reg [⟨(some 4), .mv (.k (D.bool false)), none⟩])
 .ret)
 .skip))))
 (.reg [⟨(some 18), .bin .add (.t 9) (.k (D.int .i64 (1))), none⟩,
  ⟨(some 9), .mv (.t 18), none⟩])))))))
 (.seq (.reg [⟨(some 4), .mv (.k (D.bool true)), none⟩])
 .ret)))⟩
def a351 : Ann := ⟨[], [⟨false, 0, false⟩], []⟩
def s351 : SFun := ⟨2, 59, [], [(.tmp 4, ⟨false, 0, false⟩)],
 (.seq (.reg [⟨(some 3), .box 29 (.t 1), none⟩,
  ⟨(some 4), .mv (.k (D.bool false)), none⟩])
 (.seq (.seq (.reg [⟨(some 5), .mv (.t 0), none⟩,
  ⟨(some 6), .call false 134 [(.t 5)], none⟩,
  ⟨(some 7), .una .not (.t 6), none⟩,
  ⟨(some 8), .mv (.t 7), none⟩,
  ⟨(some 9), .load true 29 (.t 3), (some (8, false))⟩,
  ⟨(some 10), .call false 373 [(.t 9)], (some (8, false))⟩,
  ⟨(some 11), .una .not (.t 10), (some (8, false))⟩,
  ⟨(some 12), .pick (.t 8) (.k (D.bool true)) (.t 11), none⟩,
  ⟨(some 13), .mv (.t 12), none⟩,
  ⟨(some 14), .fad 12 (.t 3), (some (13, false))⟩,
  ⟨(some 15), .load true 2 (.t 14), (some (13, false))⟩,
  ⟨(some 16), .build [(D.int .u8 (0)), (D.int .u8 (0))] [(0, 1, (.k (D.int .u8 (66)))), (1, 1, (.k (D.int .u8 (66))))], (some (13, false))⟩,
  ⟨(some 17), .eqa true [1, 1] (.t 15) (.t 16), (some (13, false))⟩,
  ⟨(some 18), .pick (.t 13) (.k (D.bool true)) (.t 17), none⟩,
  ⟨(some 19), .mv (.t 18), none⟩,
  ⟨(some 20), .fad 14 (.t 3), (some (19, false))⟩,
  ⟨(some 21), .load false 1 (.t 20), (some (19, false))⟩,
  ⟨(some 22), .bin .neq (.t 21) (.k (D.int .i64 (0))), (some (19, false))⟩,
  ⟨(some 23), .pick (.t 19) (.k (D.bool true)) (.t 22), none⟩,
  ⟨(some 24), .mv (.t 23), none⟩,
  ⟨(some 25), .fad 16 (.t 3), (some (24, false))⟩,
  ⟨(some 26), .load false 1 (.t 25), (some (24, false))⟩,
  ⟨(some 27), .pick (.t 24) (.k (D.bool true)) (.t 26), none⟩])
 (.cond (.t 27)
 (.seq (.reg [⟨(some 4), .mv (.k (D.bool false)), none⟩])
 .ret)
 .skip))
 (.seq (.dreg [([], false, ⟨(some 28), .mv (.t 0), none⟩),
  ([0], false, ⟨(some 29), .fad 8 (.t 3), none⟩),
  ([0], false, ⟨(some 30), .load true 3 (.t 29), none⟩),
  ([], false, ⟨(some 31), .call true 330 [(.t 28), (.t 30)], none⟩),
  ([0, 1, 2, 3], false, ⟨(some 32), .fad 8 (.t 3), none⟩),
  ([0, 1, 2, 3], false, ⟨(some 33), .load true 3 (.t 32), none⟩),
  ([], true, ⟨(some 34), .eqa false [1, 1, 1] (.t 31) (.t 33), none⟩),
  ([], true, ⟨(some 35), .mv (.t 34), none⟩),
  ([], false, ⟨(some 36), .mv (.t 0), (some (35, true))⟩),
  ([0], false, ⟨(some 37), .fad 0 (.t 3), (some (35, true))⟩),
  ([0], false, ⟨(some 38), .fad 2 (.t 37), (some (35, true))⟩),
  ([0], false, ⟨(some 39), .load false 1 (.t 38), (some (35, true))⟩),
  ([], true, ⟨(some 40), .call false 353 [(.t 36), (.t 39)], (some (35, true))⟩),
  ([], true, ⟨(some 41), .pick (.t 35) (.t 40) (.k (D.bool false)), none⟩),
  ([], true, ⟨(some 42), .mv (.t 41), none⟩),
  ([], true, ⟨(some 43), .fad 17 (.t 3), (some (42, true))⟩),
  ([], true, ⟨(some 44), .load false 1 (.t 43), (some (42, true))⟩),
  ([], true, ⟨(some 45), .mv (.t 44), (some (42, true))⟩),
  ([], true, ⟨(some 46), .mv (.t 0), (some (45, false))⟩),
  ([], true, ⟨(some 47), .bin .eql (.t 46) (.k (D.int .i64 (2))), (some (45, false))⟩),
  ([], true, ⟨(some 48), .pick (.t 45) (.k (D.bool true)) (.t 47), (some (42, true))⟩),
  ([], true, ⟨(some 49), .pick (.t 42) (.t 48) (.k (D.bool false)), none⟩),
  ([], true, ⟨(some 50), .mv (.t 49), none⟩),
  ([], true, ⟨(some 51), .fad 15 (.t 3), (some (50, true))⟩),
  ([], true, ⟨(some 52), .load false 1 (.t 51), (some (50, true))⟩),
  ([], true, ⟨(some 53), .una .not (.t 52), (some (50, true))⟩),
  ([], true, ⟨(some 54), .mv (.t 53), (some (50, true))⟩),
  ([], true, ⟨(some 55), .mv (.t 0), (some (54, false))⟩),
  ([], true, ⟨(some 56), .bin .neq (.t 55) (.k (D.int .i64 (3))), (some (54, false))⟩),
  ([], true, ⟨(some 57), .pick (.t 54) (.k (D.bool true)) (.t 56), (some (50, true))⟩),
  ([], true, ⟨(some 58), .pick (.t 50) (.t 57) (.k (D.bool false)), none⟩),
  ([], true, ⟨(some 4), .mv (.t 58), none⟩)])
 .ret)))⟩
def a352 : Ann := ⟨[], [⟨false, 0, false⟩], []⟩
def s352 : SFun := ⟨3, 57, [], [(.tmp 6, ⟨false, 0, false⟩)],
 (.seq (.reg [⟨(some 4), .box 29 (.t 1), none⟩,
  ⟨(some 5), .box 6 (.t 2), none⟩,
  ⟨(some 6), .mv (.k (D.bool false)), none⟩])
 (.seq (.seq (.reg [⟨(some 7), .mv (.t 0), none⟩,
  ⟨(some 8), .load true 29 (.t 4), none⟩,
  ⟨(some 9), .call false 351 [(.t 7), (.t 8)], none⟩,
  ⟨(some 10), .una .not (.t 9), none⟩,
  ⟨(some 11), .mv (.t 10), none⟩,
  ⟨(some 12), .fad 0 (.t 5), (some (11, false))⟩,
  ⟨(some 13), .fad 0 (.t 12), (some (11, false))⟩,
  ⟨(some 14), .load false 1 (.t 13), (some (11, false))⟩,
  ⟨(some 15), .fad 0 (.t 4), (some (11, false))⟩,
  ⟨(some 16), .fad 0 (.t 15), (some (11, false))⟩,
  ⟨(some 17), .load false 1 (.t 16), (some (11, false))⟩,
  ⟨(some 18), .bin .neq (.t 14) (.t 17), (some (11, false))⟩,
  ⟨(some 19), .pick (.t 11) (.k (D.bool true)) (.t 18), none⟩,
  ⟨(some 20), .mv (.t 19), none⟩,
  ⟨(some 21), .fad 0 (.t 5), (some (20, false))⟩,
  ⟨(some 22), .fad 1 (.t 21), (some (20, false))⟩,
  ⟨(some 23), .load false 1 (.t 22), (some (20, false))⟩,
  ⟨(some 24), .fad 0 (.t 4), (some (20, false))⟩,
  ⟨(some 25), .fad 1 (.t 24), (some (20, false))⟩,
  ⟨(some 26), .load false 1 (.t 25), (some (20, false))⟩,
  ⟨(some 27), .bin .neq (.t 23) (.t 26), (some (20, false))⟩,
  ⟨(some 28), .pick (.t 20) (.k (D.bool true)) (.t 27), none⟩,
  ⟨(some 29), .mv (.t 28), none⟩,
  ⟨(some 30), .fad 5 (.t 5), (some (29, false))⟩,
  ⟨(some 31), .load false 1 (.t 30), (some (29, false))⟩,
  ⟨(some 32), .una .not (.t 31), (some (29, false))⟩,
  ⟨(some 33), .mv (.t 32), (some (29, false))⟩,
  ⟨(some 34), .mv (.t 0), (some (33, true))⟩,
  ⟨(some 35), .bin .neq (.t 34) (.k (D.int .i64 (2))), (some (33, true))⟩,
  ⟨(some 36), .pick (.t 33) (.t 35) (.k (D.bool false)), (some (29, false))⟩,
  ⟨(some 37), .pick (.t 29) (.k (D.bool true)) (.t 36), none⟩])
 (.cond (.t 37)
 (.seq (.reg [⟨(some 6), .mv (.k (D.bool false)), none⟩])
 .ret)
 .skip))
 (.seq (.dreg [([], false, ⟨(some 38), .fad 0 (.t 5), none⟩),
  ([], false, ⟨(some 39), .load true 3 (.t 38), none⟩),
  ([0, 1], false, ⟨(some 40), .fad 3 (.t 5), none⟩),
  ([0, 1], false, ⟨(some 41), .load false 1 (.t 40), none⟩),
  ([0, 1, 2, 3], false, ⟨(some 42), .fad 4 (.t 5), none⟩),
  ([0, 1, 2, 3], false, ⟨(some 43), .load false 1 (.t 42), none⟩),
  ([2, 3, 4, 5], false, ⟨(some 44), .fad 0 (.t 4), none⟩),
  ([2, 3, 4, 5], false, ⟨none, .store 3 (.t 44) (.t 39), none⟩),
  ([4, 5], false, ⟨(some 45), .fad 3 (.t 4), none⟩),
  ([4, 5], false, ⟨none, .store 1 (.t 45) (.t 41), none⟩),
  ([], true, ⟨(some 46), .fad 4 (.t 4), none⟩),
  ([], true, ⟨none, .store 1 (.t 46) (.t 43), none⟩),
  ([], true, ⟨(some 47), .fad 5 (.t 4), none⟩),
  ([], true, ⟨none, .store 1 (.t 47) (.k (D.bool false)), none⟩)])
 (.seq (.reg [⟨(some 48), .load true 29 (.t 4), none⟩,
  ⟨(some 49), .call false 373 [(.t 48)], none⟩,
  ⟨(some 50), .mv (.t 49), none⟩,
  ⟨(some 51), .mv (.t 0), (some (50, true))⟩,
  ⟨(some 52), .fad 0 (.t 5), (some (50, true))⟩,
  ⟨(some 53), .fad 2 (.t 52), (some (50, true))⟩,
  ⟨(some 54), .load false 1 (.t 53), (some (50, true))⟩,
  ⟨(some 55), .call false 353 [(.t 51), (.t 54)], (some (50, true))⟩,
  ⟨(some 56), .pick (.t 50) (.t 55) (.k (D.bool false)), none⟩,
  ⟨(some 6), .mv (.t 56), none⟩])
 .ret))))⟩
def a369 : Ann := ⟨[], [⟨false, 0, false⟩], []⟩
def s369 : SFun := ⟨1, 9, [], [(.tmp 2, ⟨false, 0, false⟩)],
 (.seq (.reg [⟨(some 2), .mv (.k (D.bool false)), none⟩])
 (.seq (.reg [⟨(some 3), .mv (.t 0), none⟩,
  ⟨(some 4), .bin .geq (.t 3) (.k (D.int .i64 (0))), none⟩,
  ⟨(some 5), .mv (.t 4), none⟩,
  ⟨(some 6), .mv (.t 0), (some (5, true))⟩,
  ⟨(some 7), .bin .leq (.t 6) (.k (D.int .i64 (90))), (some (5, true))⟩,
  ⟨(some 8), .pick (.t 5) (.t 7) (.k (D.bool false)), none⟩,
  ⟨(some 2), .mv (.t 8), none⟩])
 .ret))⟩
def a102 : Ann := ⟨[], [⟨false, 0, false⟩], []⟩
def s102 : SFun := ⟨1, 15, [], [(.tmp 2, ⟨false, 0, false⟩)],
 (.seq (.reg [⟨(some 2), .mv (.k (D.str [])), none⟩])
 (.seq (.seq (.reg [⟨(some 3), .mv (.t 0), none⟩,
  ⟨(some 4), .bin .lss (.t 3) (.k (D.int .i64 (10))), none⟩])
 (.cond (.t 4)
 (.seq (.reg [⟨(some 5), .mv (.t 0), none⟩,
  ⟨(some 6), .mv (.t 0), none⟩,
  ⟨(some 7), .bin .add (.t 6) (.k (D.int .i64 (1))), none⟩,
  ⟨(some 8), .sls (.k (D.str [48, 49, 50, 51, 52, 53, 54, 55, 56, 57, 97, 98, 99, 100, 101, 102, 103, 104, 105, 106, 107, 108, 109, 110, 111, 112, 113, 114, 115, 116, 117, 118, 119, 120, 121, 122])) (some (.t 5)) (some (.t 7)), none⟩,
  ⟨(some 2), .mv (.t 8), none⟩])
 .ret)
 .skip))
 (.seq (.reg [⟨(some 9), .mv (.t 0), none⟩,
  ⟨(some 10), .bin .mul (.t 9) (.k (D.int .i64 (2))), none⟩,
  ⟨(some 11), .mv (.t 0), none⟩,
  ⟨(some 12), .bin .mul (.t 11) (.k (D.int .i64 (2))), none⟩,
  ⟨(some 13), .bin .add (.t 12) (.k (D.int .i64 (2))), none⟩,
  ⟨(some 14), .sls (.k (D.str [48, 48, 48, 49, 48, 50, 48, 51, 48, 52, 48, 53, 48, 54, 48, 55, 48, 56, 48, 57, 49, 48, 49, 49, 49, 50, 49, 51, 49, 52, 49, 53, 49, 54, 49, 55, 49, 56, 49, 57, 50, 48, 50, 49, 50, 50, 50, 51, 50, 52, 50, 53, 50, 54, 50, 55, 50, 56, 50, 57, 51, 48, 51, 49, 51, 50, 51, 51, 51, 52, 51, 53, 51, 54, 51, 55, 51, 56, 51, 57, 52, 48, 52, 49, 52, 50, 52, 51, 52, 52, 52, 53, 52, 54, 52, 55, 52, 56, 52, 57, 53, 48, 53, 49, 53, 50, 53, 51, 53, 52, 53, 53, 53, 54, 53, 55, 53, 56, 53, 57, 54, 48, 54, 49, 54, 50, 54, 51, 54, 52, 54, 53, 54, 54, 54, 55, 54, 56, 54, 57, 55, 48, 55, 49, 55, 50, 55, 51, 55, 52, 55, 53, 55, 54, 55, 55, 55, 56, 55, 57, 56, 48, 56, 49, 56, 50, 56, 51, 56, 52, 56, 53, 56, 54, 56, 55, 56, 56, 56, 57, 57, 48, 57, 49, 57, 50, 57, 51, 57, 52, 57, 53, 57, 54, 57, 55, 57, 56, 57, 57])) (some (.t 10)) (some (.t 13)), none⟩,
  ⟨(some 2), .mv (.t 14), none⟩])
 .ret)))⟩
def a442 : Ann := ⟨[], [⟨false, 0, false⟩], []⟩
def s442 : SFun := ⟨1, 25, [], [(.tmp 2, ⟨false, 0, false⟩)],
 (.seq (.reg [⟨(some 2), .mv (.k (D.int .i64 (0))), none⟩])
 (.seq (.seq (.reg [⟨(some 3), .mv (.t 0), none⟩,
  ⟨(some 4), .bin .geq (.t 3) (.k (D.int .u64 (4294967296))), none⟩])
 (.cond (.t 4)
 (.seq (.reg [⟨(some 5), .mv (.t 0), none⟩,
  ⟨(some 6), .bin .shr (.t 5) (.k (D.int .u64 (32))), none⟩,
  ⟨(some 0), .mv (.t 6), none⟩])
 (.reg [⟨(some 2), .mv (.k (D.int .i64 (32))), none⟩]))
 .skip))
 (.seq (.seq (.reg [⟨(some 7), .mv (.t 0), none⟩,
  ⟨(some 8), .bin .geq (.t 7) (.k (D.int .u64 (65536))), none⟩])
 (.cond (.t 8)
 (.seq (.reg [⟨(some 9), .mv (.t 0), none⟩,
  ⟨(some 10), .bin .shr (.t 9) (.k (D.int .u64 (16))), none⟩,
  ⟨(some 0), .mv (.t 10), none⟩])
 (.reg [⟨(some 11), .mv (.t 2), none⟩,
  ⟨(some 12), .bin .add (.t 11) (.k (D.int .i64 (16))), none⟩,
  ⟨(some 2), .mv (.t 12), none⟩]))
 .skip))
 (.seq (.seq (.reg [⟨(some 13), .mv (.t 0), none⟩,
  ⟨(some 14), .bin .geq (.t 13) (.k (D.int .u64 (256))), none⟩])
 (.cond (.t 14)
 (.seq (.reg [⟨(some 15), .mv (.t 0), none⟩,
  ⟨(some 16), .bin .shr (.t 15) (.k (D.int .u64 (8))), none⟩,
  ⟨(some 0), .mv (.t 16), none⟩])
 (.reg [⟨(some 17), .mv (.t 2), none⟩,
  ⟨(some 18), .bin .add (.t 17) (.k (D.int .i64 (8))), none⟩,
  ⟨(some 2), .mv (.t 18), none⟩]))
 .skip))
 (.seq (.reg [⟨(some 19), .mv (.t 2), none⟩,
  ⟨(some 20), .mv (.t 0), none⟩,
  ⟨(some 21), .cvi .u8 (.t 20), none⟩,
  ⟨(some 22), .ixt (.k (D.str [0, 1, 2, 2, 3, 3, 3, 3, 4, 4, 4, 4, 4, 4, 4, 4, 5, 5, 5, 5, 5, 5, 5, 5, 5, 5, 5, 5, 5, 5, 5, 5, 6, 6, 6, 6, 6, 6, 6, 6, 6, 6, 6, 6, 6, 6, 6, 6, 6, 6, 6, 6, 6, 6, 6, 6, 6, 6, 6, 6, 6, 6, 6, 6, 7, 7, 7, 7, 7, 7, 7, 7, 7, 7, 7, 7, 7, 7, 7, 7, 7, 7, 7, 7, 7, 7, 7, 7, 7, 7, 7, 7, 7, 7, 7, 7, 7, 7, 7, 7, 7, 7, 7, 7, 7, 7, 7, 7, 7, 7, 7, 7, 7, 7, 7, 7, 7, 7, 7, 7, 7, 7, 7, 7, 7, 7, 7, 7, 8, 8, 8, 8, 8, 8, 8, 8, 8, 8, 8, 8, 8, 8, 8, 8, 8, 8, 8, 8, 8, 8, 8, 8, 8, 8, 8, 8, 8, 8, 8, 8, 8, 8, 8, 8, 8, 8, 8, 8, 8, 8, 8, 8, 8, 8, 8, 8, 8, 8, 8, 8, 8, 8, 8, 8, 8, 8, 8, 8, 8, 8, 8, 8, 8, 8, 8, 8, 8, 8, 8, 8, 8, 8, 8, 8, 8, 8, 8, 8, 8, 8, 8, 8, 8, 8, 8, 8, 8, 8, 8, 8, 8, 8, 8, 8, 8, 8, 8, 8, 8, 8, 8, 8, 8, 8, 8, 8, 8, 8, 8, 8, 8, 8, 8, 8, 8, 8, 8, 8, 8, 8, 8, 8, 8, 8, 8, 8])) (.t 21), none⟩,
  ⟨(some 23), .cvi .i64 (.t 22), none⟩,
  ⟨(some 24), .bin .add (.t 19) (.t 23), none⟩,
  ⟨(some 2), .mv (.t 24), none⟩])
 .ret)))))⟩
def a100 : Ann := ⟨[], [⟨false, 0, false⟩], []⟩
def s100 : SFun := ⟨1, 6, [], [(.tmp 2, ⟨false, 0, false⟩)],
 (.seq (.reg [⟨(some 2), .mv (.k (D.int .i64 (0))), none⟩])
 (.seq (.reg [⟨(some 3), .mv (.t 0), none⟩,
  ⟨(some 4), .bin .mul (.t 3) (.k (D.int .i64 (78913))), none⟩,
  ⟨(some 5), .bin .shr (.t 4) (.k (D.int .u64 (18))), none⟩,
  ⟨(some 2), .mv (.t 5), none⟩])
 .ret))⟩
def a96 : Ann := ⟨[], [⟨false, 0, false⟩], []⟩
def s96 : SFun := ⟨1, 4, [], [(.tmp 2, ⟨false, 0, false⟩)],
 (.seq (.reg [⟨(some 2), .mv (.k (D.int .i64 (0))), none⟩])
 (.seq (.seq (.reg [⟨(some 3), .mv (.t 0), none⟩])
 (.cond (.t 3)
 (.seq (.reg [⟨(some 2), .mv (.k (D.int .i64 (1))), none⟩])
 .ret)
 .skip))
 (.seq (.reg [⟨(some 2), .mv (.k (D.int .i64 (0))), none⟩])
 .ret)))⟩
def a101 : Ann := ⟨[], [⟨false, 0, false⟩], []⟩
def s101 : SFun := ⟨1, 15, [], [(.tmp 2, ⟨false, 0, false⟩)],
 (.seq (.reg [⟨(some 2), .mv (.k (D.int .i64 (0))), none⟩])
 (.seq (.reg [⟨(some 4), .mv (.t 0), none⟩,
  ⟨(some 5), .call false 442 [(.t 4)], none⟩,
  ⟨(some 6), .call false 100 [(.t 5)], none⟩,
  ⟨(some 3), .mv (.t 6), none⟩])
 (.seq (.reg [⟨(some 7), .mv (.t 3), none⟩,
  ⟨(some 8), .mv (.t 0), none⟩,
  ⟨(some 9), .mv (.t 3), none⟩,
  ⟨(some 10), .ixa 20 1 (.k .un) (.t 9), none⟩,
  ⟨(some 11), .load false 1 (.t 10), none⟩,
  ⟨(some 12), .bin .geq (.t 8) (.t 11), none⟩,
  ⟨(some 13), .call false 96 [(.t 12)], none⟩,
  ⟨(some 14), .bin .add (.t 7) (.t 13), none⟩,
  ⟨(some 2), .mv (.t 14), none⟩])
 .ret)))⟩
def a97 : Ann := ⟨[(1, [(1, ⟨false, 0, false⟩), (4, ⟨false, 0, false⟩), (0, ⟨true, 1, false⟩)])], [], []⟩
def s97 : SFun := ⟨2, 167, [], [],
 (.seq (.reg [⟨(some 17), .mv (.t 0), none⟩,
  ⟨(some 18), .len (.t 17), none⟩,
  ⟨(some 4), .mv (.t 18), none⟩])
 (.seq (.block 0 (.loop [(1, ⟨false, 0, false⟩), (4, ⟨false, 0, false⟩), (0, ⟨true, 1, false⟩)]
 (.seq (.seq (.reg [⟨(some 19), .mv (.t 4), none⟩,
  ⟨(some 20), .bin .geq (.t 19) (.k (D.int .i64 (8))), none⟩])
 (.cond (.t 20)
 .skip
 (.exit 0)))
 (.block 1 (.seq (.reg [⟨(some 21), .mv (.t 1), none⟩,
  ⟨(some 22), .bin .rem (.t 21) (.k (D.int .u64 (100000000))), none⟩,
  ⟨(some 23), .cvi .u32 (.t 22), none⟩,
  ⟨(some 5), .mv (.t 23), none⟩])
 (.seq (.reg [⟨(some 24), .mv (.t 1), none⟩,
  ⟨(some 25), .bin .quo (.t 24) (.k (D.int .u64 (100000000))), none⟩,
  ⟨(some 1), .mv (.t 25), none⟩])
 (.seq (.reg [⟨(some 26), .mv (.t 5), none⟩,
  ⟨(some 27), .bin .quo (.t 26) (.k (D.int .u32 (10000))), none⟩,
  ⟨(some 28), .mv (.t 5), none⟩,
  ⟨(some 29), .bin .rem (.t 28) (.k (D.int .u32 (10000))), none⟩,
  ⟨(some 6), .mv (.t 27), none⟩,
  ⟨(some 7), .mv (.t 29), none⟩])
 (.seq (.reg [⟨(some 30), .mv (.t 7), none⟩,
  ⟨(some 31), .bin .quo (.t 30) (.k (D.int .u32 (100))), none⟩,
  ⟨(some 32), .bin .mul (.t 31) (.k (D.int .u32 (2))), none⟩,
  ⟨(some 33), .mv (.t 7), none⟩,
  ⟨(some 34), .bin .rem (.t 33) (.k (D.int .u32 (100))), none⟩,
  ⟨(some 35), .bin .mul (.t 34) (.k (D.int .u32 (2))), none⟩,
  ⟨(some 8), .mv (.t 32), none⟩,
  ⟨(some 9), .mv (.t 35), none⟩])
 (.seq (.reg [⟨(some 36), .mv (.t 6), none⟩,
  ⟨(some 37), .bin .quo (.t 36) (.k (D.int .u32 (100))), none⟩,
  ⟨(some 38), .bin .mul (.t 37) (.k (D.int .u32 (2))), none⟩,
  ⟨(some 39), .mv (.t 6), none⟩,
  ⟨(some 40), .bin .rem (.t 39) (.k (D.int .u32 (100))), none⟩,
  ⟨(some 41), .bin .mul (.t 40) (.k (D.int .u32 (2))), none⟩,
  ⟨(some 10), .mv (.t 38), none⟩,
  ⟨(some 11), .mv (.t 41), none⟩])
 (.seq (.dreg [([], false, ⟨(some 42), .mv (.t 0), none⟩),
  ([0], false, ⟨(some 43), .mv (.t 4), none⟩),
  ([0], false, ⟨(some 44), .bin .sub (.t 43) (.k (D.int .i64 (1))), none⟩),
  ([0, 1, 2], false, ⟨(some 45), .mv (.t 0), none⟩),
  ([0, 1, 2, 3], false, ⟨(some 46), .mv (.t 4), none⟩),
  ([0, 1, 2, 3], false, ⟨(some 47), .bin .sub (.t 46) (.k (D.int .i64 (2))), none⟩),
  ([0, 1, 2, 3, 4, 5], false, ⟨(some 48), .mv (.t 9), none⟩),
  ([0, 1, 2, 3, 4, 5], false, ⟨(some 49), .bin .add (.t 48) (.k (D.int .u32 (1))), none⟩),
  ([0, 1, 2, 3, 4, 5], false, ⟨(some 50), .ixt (.k (D.str [48, 48, 48, 49, 48, 50, 48, 51, 48, 52, 48, 53, 48, 54, 48, 55, 48, 56, 48, 57, 49, 48, 49, 49, 49, 50, 49, 51, 49, 52, 49, 53, 49, 54, 49, 55, 49, 56, 49, 57, 50, 48, 50, 49, 50, 50, 50, 51, 50, 52, 50, 53, 50, 54, 50, 55, 50, 56, 50, 57, 51, 48, 51, 49, 51, 50, 51, 51, 51, 52, 51, 53, 51, 54, 51, 55, 51, 56, 51, 57, 52, 48, 52, 49, 52, 50, 52, 51, 52, 52, 52, 53, 52, 54, 52, 55, 52, 56, 52, 57, 53, 48, 53, 49, 53, 50, 53, 51, 53, 52, 53, 53, 53, 54, 53, 55, 53, 56, 53, 57, 54, 48, 54, 49, 54, 50, 54, 51, 54, 52, 54, 53, 54, 54, 54, 55, 54, 56, 54, 57, 55, 48, 55, 49, 55, 50, 55, 51, 55, 52, 55, 53, 55, 54, 55, 55, 55, 56, 55, 57, 56, 48, 56, 49, 56, 50, 56, 51, 56, 52, 56, 53, 56, 54, 56, 55, 56, 56, 56, 57, 57, 48, 57, 49, 57, 50, 57, 51, 57, 52, 57, 53, 57, 54, 57, 55, 57, 56, 57, 57])) (.t 49), none⟩),
  ([0, 1, 2, 3, 4, 5, 6, 7, 8], false, ⟨(some 51), .mv (.t 9), none⟩),
  ([0, 1, 2, 3, 4, 5, 6, 7, 8], false, ⟨(some 52), .ixt (.k (D.str [48, 48, 48, 49, 48, 50, 48, 51, 48, 52, 48, 53, 48, 54, 48, 55, 48, 56, 48, 57, 49, 48, 49, 49, 49, 50, 49, 51, 49, 52, 49, 53, 49, 54, 49, 55, 49, 56, 49, 57, 50, 48, 50, 49, 50, 50, 50, 51, 50, 52, 50, 53, 50, 54, 50, 55, 50, 56, 50, 57, 51, 48, 51, 49, 51, 50, 51, 51, 51, 52, 51, 53, 51, 54, 51, 55, 51, 56, 51, 57, 52, 48, 52, 49, 52, 50, 52, 51, 52, 52, 52, 53, 52, 54, 52, 55, 52, 56, 52, 57, 53, 48, 53, 49, 53, 50, 53, 51, 53, 52, 53, 53, 53, 54, 53, 55, 53, 56, 53, 57, 54, 48, 54, 49, 54, 50, 54, 51, 54, 52, 54, 53, 54, 54, 54, 55, 54, 56, 54, 57, 55, 48, 55, 49, 55, 50, 55, 51, 55, 52, 55, 53, 55, 54, 55, 55, 55, 56, 55, 57, 56, 48, 56, 49, 56, 50, 56, 51, 56, 52, 56, 53, 56, 54, 56, 55, 56, 56, 56, 57, 57, 48, 57, 49, 57, 50, 57, 51, 57, 52, 57, 53, 57, 54, 57, 55, 57, 56, 57, 57])) (.t 51), none⟩),
  ([3, 4, 5, 9, 10], false, ⟨(some 53), .ixs 1 (.t 42) (.t 44), none⟩),
  ([3, 4, 5, 9, 10], false, ⟨none, .store 1 (.t 53) (.t 50), none⟩),
  ([], true, ⟨(some 54), .ixs 1 (.t 45) (.t 47), none⟩),
  ([], true, ⟨none, .store 1 (.t 54) (.t 52), none⟩)])
 (.seq (.dreg [([], false, ⟨(some 55), .mv (.t 0), none⟩),
  ([0], false, ⟨(some 56), .mv (.t 4), none⟩),
  ([0], false, ⟨(some 57), .bin .sub (.t 56) (.k (D.int .i64 (3))), none⟩),
  ([0, 1, 2], false, ⟨(some 58), .mv (.t 0), none⟩),
  ([0, 1, 2, 3], false, ⟨(some 59), .mv (.t 4), none⟩),
  ([0, 1, 2, 3], false, ⟨(some 60), .bin .sub (.t 59) (.k (D.int .i64 (4))), none⟩),
  ([0, 1, 2, 3, 4, 5], false, ⟨(some 61), .mv (.t 8), none⟩),
  ([0, 1, 2, 3, 4, 5], false, ⟨(some 62), .bin .add (.t 61) (.k (D.int .u32 (1))), none⟩),
  ([0, 1, 2, 3, 4, 5], false, ⟨(some 63), .ixt (.k (D.str [48, 48, 48, 49, 48, 50, 48, 51, 48, 52, 48, 53, 48, 54, 48, 55, 48, 56, 48, 57, 49, 48, 49, 49, 49, 50, 49, 51, 49, 52, 49, 53, 49, 54, 49, 55, 49, 56, 49, 57, 50, 48, 50, 49, 50, 50, 50, 51, 50, 52, 50, 53, 50, 54, 50, 55, 50, 56, 50, 57, 51, 48, 51, 49, 51, 50, 51, 51, 51, 52, 51, 53, 51, 54, 51, 55, 51, 56, 51, 57, 52, 48, 52, 49, 52, 50, 52, 51, 52, 52, 52, 53, 52, 54, 52, 55, 52, 56, 52, 57, 53, 48, 53, 49, 53, 50, 53, 51, 53, 52, 53, 53, 53, 54, 53, 55, 53, 56, 53, 57, 54, 48, 54, 49, 54, 50, 54, 51, 54, 52, 54, 53, 54, 54, 54, 55, 54, 56, 54, 57, 55, 48, 55, 49, 55, 50, 55, 51, 55, 52, 55, 53, 55, 54, 55, 55, 55, 56, 55, 57, 56, 48, 56, 49, 56, 50, 56, 51, 56, 52, 56, 53, 56, 54, 56, 55, 56, 56, 56, 57, 57, 48, 57, 49, 57, 50, 57, 51, 57, 52, 57, 53, 57, 54, 57, 55, 57, 56, 57, 57])) (.t 62), none⟩),
  ([0, 1, 2, 3, 4, 5, 6, 7, 8], false, ⟨(some 64), .mv (.t 8), none⟩),
  ([0, 1, 2, 3, 4, 5, 6, 7, 8], false, ⟨(some 65), .ixt (.k (D.str [48, 48, 48, 49, 48, 50, 48, 51, 48, 52, 48, 53, 48, 54, 48, 55, 48, 56, 48, 57, 49, 48, 49, 49, 49, 50, 49, 51, 49, 52, 49, 53, 49, 54, 49, 55, 49, 56, 49, 57, 50, 48, 50, 49, 50, 50, 50, 51, 50, 52, 50, 53, 50, 54, 50, 55, 50, 56, 50, 57, 51, 48, 51, 49, 51, 50, 51, 51, 51, 52, 51, 53, 51, 54, 51, 55, 51, 56, 51, 57, 52, 48, 52, 49, 52, 50, 52, 51, 52, 52, 52, 53, 52, 54, 52, 55, 52, 56, 52, 57, 53, 48, 53, 49, 53, 50, 53, 51, 53, 52, 53, 53, 53, 54, 53, 55, 53, 56, 53, 57, 54, 48, 54, 49, 54, 50, 54, 51, 54, 52, 54, 53, 54, 54, 54, 55, 54, 56, 54, 57, 55, 48, 55, 49, 55, 50, 55, 51, 55, 52, 55, 53, 55, 54, 55, 55, 55, 56, 55, 57, 56, 48, 56, 49, 56, 50, 56, 51, 56, 52, 56, 53, 56, 54, 56, 55, 56, 56, 56, 57, 57, 48, 57, 49, 57, 50, 57, 51, 57, 52, 57, 53, 57, 54, 57, 55, 57, 56, 57, 57])) (.t 64), none⟩),
  ([3, 4, 5, 9, 10], false, ⟨(some 66), .ixs 1 (.t 55) (.t 57), none⟩),
  ([3, 4, 5, 9, 10], false, ⟨none, .store 1 (.t 66) (.t 63), none⟩),
  ([], true, ⟨(some 67), .ixs 1 (.t 58) (.t 60), none⟩),
  ([], true, ⟨none, .store 1 (.t 67) (.t 65), none⟩)])
 (.seq (.dreg [([], false, ⟨(some 68), .mv (.t 0), none⟩),
  ([0], false, ⟨(some 69), .mv (.t 4), none⟩),
  ([0], false, ⟨(some 70), .bin .sub (.t 69) (.k (D.int .i64 (5))), none⟩),
  ([0, 1, 2], false, ⟨(some 71), .mv (.t 0), none⟩),
  ([0, 1, 2, 3], false, ⟨(some 72), .mv (.t 4), none⟩),
  ([0, 1, 2, 3], false, ⟨(some 73), .bin .sub (.t 72) (.k (D.int .i64 (6))), none⟩),
  ([0, 1, 2, 3, 4, 5], false, ⟨(some 74), .mv (.t 11), none⟩),
  ([0, 1, 2, 3, 4, 5], false, ⟨(some 75), .bin .add (.t 74) (.k (D.int .u32 (1))), none⟩),
  ([0, 1, 2, 3, 4, 5], false, ⟨(some 76), .ixt (.k (D.str [48, 48, 48, 49, 48, 50, 48, 51, 48, 52, 48, 53, 48, 54, 48, 55, 48, 56, 48, 57, 49, 48, 49, 49, 49, 50, 49, 51, 49, 52, 49, 53, 49, 54, 49, 55, 49, 56, 49, 57, 50, 48, 50, 49, 50, 50, 50, 51, 50, 52, 50, 53, 50, 54, 50, 55, 50, 56, 50, 57, 51, 48, 51, 49, 51, 50, 51, 51, 51, 52, 51, 53, 51, 54, 51, 55, 51, 56, 51, 57, 52, 48, 52, 49, 52, 50, 52, 51, 52, 52, 52, 53, 52, 54, 52, 55, 52, 56, 52, 57, 53, 48, 53, 49, 53, 50, 53, 51, 53, 52, 53, 53, 53, 54, 53, 55, 53, 56, 53, 57, 54, 48, 54, 49, 54, 50, 54, 51, 54, 52, 54, 53, 54, 54, 54, 55, 54, 56, 54, 57, 55, 48, 55, 49, 55, 50, 55, 51, 55, 52, 55, 53, 55, 54, 55, 55, 55, 56, 55, 57, 56, 48, 56, 49, 56, 50, 56, 51, 56, 52, 56, 53, 56, 54, 56, 55, 56, 56, 56, 57, 57, 48, 57, 49, 57, 50, 57, 51, 57, 52, 57, 53, 57, 54, 57, 55, 57, 56, 57, 57])) (.t 75), none⟩),
  ([0, 1, 2, 3, 4, 5, 6, 7, 8], false, ⟨(some 77), .mv (.t 11), none⟩),
  ([0, 1, 2, 3, 4, 5, 6, 7, 8], false, ⟨(some 78), .ixt (.k (D.str [48, 48, 48, 49, 48, 50, 48, 51, 48, 52, 48, 53, 48, 54, 48, 55, 48, 56, 48, 57, 49, 48, 49, 49, 49, 50, 49, 51, 49, 52, 49, 53, 49, 54, 49, 55, 49, 56, 49, 57, 50, 48, 50, 49, 50, 50, 50, 51, 50, 52, 50, 53, 50, 54, 50, 55, 50, 56, 50, 57, 51, 48, 51, 49, 51, 50, 51, 51, 51, 52, 51, 53, 51, 54, 51, 55, 51, 56, 51, 57, 52, 48, 52, 49, 52, 50, 52, 51, 52, 52, 52, 53, 52, 54, 52, 55, 52, 56, 52, 57, 53, 48, 53, 49, 53, 50, 53, 51, 53, 52, 53, 53, 53, 54, 53, 55, 53, 56, 53, 57, 54, 48, 54, 49, 54, 50, 54, 51, 54, 52, 54, 53, 54, 54, 54, 55, 54, 56, 54, 57, 55, 48, 55, 49, 55, 50, 55, 51, 55, 52, 55, 53, 55, 54, 55, 55, 55, 56, 55, 57, 56, 48, 56, 49, 56, 50, 56, 51, 56, 52, 56, 53, 56, 54, 56, 55, 56, 56, 56, 57, 57, 48, 57, 49, 57, 50, 57, 51, 57, 52, 57, 53, 57, 54, 57, 55, 57, 56, 57, 57])) (.t 77), none⟩),
  ([3, 4, 5, 9, 10], false, ⟨(some 79), .ixs 1 (.t 68) (.t 70), none⟩),
  ([3, 4, 5, 9, 10], false, ⟨none, .store 1 (.t 79) (.t 76), none⟩),
  ([], true, ⟨(some 80), .ixs 1 (.t 71) (.t 73), none⟩),
  ([], true, ⟨none, .store 1 (.t 80) (.t 78), none⟩)])
 (.seq (.dreg [([], false, ⟨(some 81), .mv (.t 0), none⟩),
  ([0], false, ⟨(some 82), .mv (.t 4), none⟩),
  ([0], false, ⟨(some 83), .bin .sub (.t 82) (.k (D.int .i64 (7))), none⟩),
  ([0, 1, 2], false, ⟨(some 84), .mv (.t 0), none⟩),
  ([0, 1, 2, 3], false, ⟨(some 85), .mv (.t 4), none⟩),
  ([0, 1, 2, 3], false, ⟨(some 86), .bin .sub (.t 85) (.k (D.int .i64 (8))), none⟩),
  ([0, 1, 2, 3, 4, 5], false, ⟨(some 87), .mv (.t 10), none⟩),
  ([0, 1, 2, 3, 4, 5], false, ⟨(some 88), .bin .add (.t 87) (.k (D.int .u32 (1))), none⟩),
  ([0, 1, 2, 3, 4, 5], false, ⟨(some 89), .ixt (.k (D.str [48, 48, 48, 49, 48, 50, 48, 51, 48, 52, 48, 53, 48, 54, 48, 55, 48, 56, 48, 57, 49, 48, 49, 49, 49, 50, 49, 51, 49, 52, 49, 53, 49, 54, 49, 55, 49, 56, 49, 57, 50, 48, 50, 49, 50, 50, 50, 51, 50, 52, 50, 53, 50, 54, 50, 55, 50, 56, 50, 57, 51, 48, 51, 49, 51, 50, 51, 51, 51, 52, 51, 53, 51, 54, 51, 55, 51, 56, 51, 57, 52, 48, 52, 49, 52, 50, 52, 51, 52, 52, 52, 53, 52, 54, 52, 55, 52, 56, 52, 57, 53, 48, 53, 49, 53, 50, 53, 51, 53, 52, 53, 53, 53, 54, 53, 55, 53, 56, 53, 57, 54, 48, 54, 49, 54, 50, 54, 51, 54, 52, 54, 53, 54, 54, 54, 55, 54, 56, 54, 57, 55, 48, 55, 49, 55, 50, 55, 51, 55, 52, 55, 53, 55, 54, 55, 55, 55, 56, 55, 57, 56, 48, 56, 49, 56, 50, 56, 51, 56, 52, 56, 53, 56, 54, 56, 55, 56, 56, 56, 57, 57, 48, 57, 49, 57, 50, 57, 51, 57, 52, 57, 53, 57, 54, 57, 55, 57, 56, 57, 57])) (.t 88), none⟩),
  ([0, 1, 2, 3, 4, 5, 6, 7, 8], false, ⟨(some 90), .mv (.t 10), none⟩),
  ([0, 1, 2, 3, 4, 5, 6, 7, 8], false, ⟨(some 91), .ixt (.k (D.str [48, 48, 48, 49, 48, 50, 48, 51, 48, 52, 48, 53, 48, 54, 48, 55, 48, 56, 48, 57, 49, 48, 49, 49, 49, 50, 49, 51, 49, 52, 49, 53, 49, 54, 49, 55, 49, 56, 49, 57, 50, 48, 50, 49, 50, 50, 50, 51, 50, 52, 50, 53, 50, 54, 50, 55, 50, 56, 50, 57, 51, 48, 51, 49, 51, 50, 51, 51, 51, 52, 51, 53, 51, 54, 51, 55, 51, 56, 51, 57, 52, 48, 52, 49, 52, 50, 52, 51, 52, 52, 52, 53, 52, 54, 52, 55, 52, 56, 52, 57, 53, 48, 53, 49, 53, 50, 53, 51, 53, 52, 53, 53, 53, 54, 53, 55, 53, 56, 53, 57, 54, 48, 54, 49, 54, 50, 54, 51, 54, 52, 54, 53, 54, 54, 54, 55, 54, 56, 54, 57, 55, 48, 55, 49, 55, 50, 55, 51, 55, 52, 55, 53, 55, 54, 55, 55, 55, 56, 55, 57, 56, 48, 56, 49, 56, 50, 56, 51, 56, 52, 56, 53, 56, 54, 56, 55, 56, 56, 56, 57, 57, 48, 57, 49, 57, 50, 57, 51, 57, 52, 57, 53, 57, 54, 57, 55, 57, 56, 57, 57])) (.t 90), none⟩),
  ([3, 4, 5, 9, 10], false, ⟨(some 92), .ixs 1 (.t 81) (.t 83), none⟩),
  ([3, 4, 5, 9, 10], false, ⟨none, .store 1 (.t 92) (.t 89), none⟩),
  ([], true, ⟨(some 93), .ixs 1 (.t 84) (.t 86), none⟩),
  ([], true, ⟨none, .store 1 (.t 93) (.t 91), none⟩)])
 (.reg [⟨(some 94), .mv (.t 4), none⟩,
  ⟨(some 95), .bin .sub (.t 94) (.k (D.int .i64 (8))), none⟩,
  ⟨(some 4), .mv (.t 95), none⟩]))))))))))))))
 (.seq (.reg [⟨(some 96), .mv (.t 1), none⟩,
  ⟨(some 97), .cvi .u32 (.t 96), none⟩,
  ⟨(some 12), .mv (.t 97), none⟩])
 (.seq (.seq (.reg [⟨(some 98), .mv (.t 4), none⟩,
  ⟨(some 99), .bin .geq (.t 98) (.k (D.int .i64 (4))), none⟩])
 (.cond (.t 99)
 (.seq (.reg [⟨(some 100), .mv (.t 12), none⟩,
  ⟨(some 101), .bin .rem (.t 100) (.k (D.int .u32 (10000))), none⟩,
  ⟨(some 13), .mv (.t 101), none⟩])
 (.seq (.reg [⟨(some 102), .mv (.t 12), none⟩,
  ⟨(some 103), .bin .quo (.t 102) (.k (D.int .u32 (10000))), none⟩,
  ⟨(some 12), .mv (.t 103), none⟩])
 (.seq (.reg [⟨(some 104), .mv (.t 13), none⟩,
  ⟨(some 105), .bin .quo (.t 104) (.k (D.int .u32 (100))), none⟩,
  ⟨(some 106), .bin .mul (.t 105) (.k (D.int .u32 (2))), none⟩,
  ⟨(some 107), .mv (.t 13), none⟩,
  ⟨(some 108), .bin .rem (.t 107) (.k (D.int .u32 (100))), none⟩,
  ⟨(some 109), .bin .mul (.t 108) (.k (D.int .u32 (2))), none⟩,
  ⟨(some 14), .mv (.t 106), none⟩,
  ⟨(some 15), .mv (.t 109), none⟩])
 (.seq (.dreg [([], false, ⟨(some 110), .mv (.t 0), none⟩),
  ([0], false, ⟨(some 111), .mv (.t 4), none⟩),
  ([0], false, ⟨(some 112), .bin .sub (.t 111) (.k (D.int .i64 (1))), none⟩),
  ([0, 1, 2], false, ⟨(some 113), .mv (.t 0), none⟩),
  ([0, 1, 2, 3], false, ⟨(some 114), .mv (.t 4), none⟩),
  ([0, 1, 2, 3], false, ⟨(some 115), .bin .sub (.t 114) (.k (D.int .i64 (2))), none⟩),
  ([0, 1, 2, 3, 4, 5], false, ⟨(some 116), .mv (.t 15), none⟩),
  ([0, 1, 2, 3, 4, 5], false, ⟨(some 117), .bin .add (.t 116) (.k (D.int .u32 (1))), none⟩),
  ([0, 1, 2, 3, 4, 5], false, ⟨(some 118), .ixt (.k (D.str [48, 48, 48, 49, 48, 50, 48, 51, 48, 52, 48, 53, 48, 54, 48, 55, 48, 56, 48, 57, 49, 48, 49, 49, 49, 50, 49, 51, 49, 52, 49, 53, 49, 54, 49, 55, 49, 56, 49, 57, 50, 48, 50, 49, 50, 50, 50, 51, 50, 52, 50, 53, 50, 54, 50, 55, 50, 56, 50, 57, 51, 48, 51, 49, 51, 50, 51, 51, 51, 52, 51, 53, 51, 54, 51, 55, 51, 56, 51, 57, 52, 48, 52, 49, 52, 50, 52, 51, 52, 52, 52, 53, 52, 54, 52, 55, 52, 56, 52, 57, 53, 48, 53, 49, 53, 50, 53, 51, 53, 52, 53, 53, 53, 54, 53, 55, 53, 56, 53, 57, 54, 48, 54, 49, 54, 50, 54, 51, 54, 52, 54, 53, 54, 54, 54, 55, 54, 56, 54, 57, 55, 48, 55, 49, 55, 50, 55, 51, 55, 52, 55, 53, 55, 54, 55, 55, 55, 56, 55, 57, 56, 48, 56, 49, 56, 50, 56, 51, 56, 52, 56, 53, 56, 54, 56, 55, 56, 56, 56, 57, 57, 48, 57, 49, 57, 50, 57, 51, 57, 52, 57, 53, 57, 54, 57, 55, 57, 56, 57, 57])) (.t 117), none⟩),
  ([0, 1, 2, 3, 4, 5, 6, 7, 8], false, ⟨(some 119), .mv (.t 15), none⟩),
  ([0, 1, 2, 3, 4, 5, 6, 7, 8], false, ⟨(some 120), .ixt (.k (D.str [48, 48, 48, 49, 48, 50, 48, 51, 48, 52, 48, 53, 48, 54, 48, 55, 48, 56, 48, 57, 49, 48, 49, 49, 49, 50, 49, 51, 49, 52, 49, 53, 49, 54, 49, 55, 49, 56, 49, 57, 50, 48, 50, 49, 50, 50, 50, 51, 50, 52, 50, 53, 50, 54, 50, 55, 50, 56, 50, 57, 51, 48, 51, 49, 51, 50, 51, 51, 51, 52, 51, 53, 51, 54, 51, 55, 51, 56, 51, 57, 52, 48, 52, 49, 52, 50, 52, 51, 52, 52, 52, 53, 52, 54, 52, 55, 52, 56, 52, 57, 53, 48, 53, 49, 53, 50, 53, 51, 53, 52, 53, 53, 53, 54, 53, 55, 53, 56, 53, 57, 54, 48, 54, 49, 54, 50, 54, 51, 54, 52, 54, 53, 54, 54, 54, 55, 54, 56, 54, 57, 55, 48, 55, 49, 55, 50, 55, 51, 55, 52, 55, 53, 55, 54, 55, 55, 55, 56, 55, 57, 56, 48, 56, 49, 56, 50, 56, 51, 56, 52, 56, 53, 56, 54, 56, 55, 56, 56, 56, 57, 57, 48, 57, 49, 57, 50, 57, 51, 57, 52, 57, 53, 57, 54, 57, 55, 57, 56, 57, 57])) (.t 119), none⟩),
  ([3, 4, 5, 9, 10], false, ⟨(some 121), .ixs 1 (.t 110) (.t 112), none⟩),
  ([3, 4, 5, 9, 10], false, ⟨none, .store 1 (.t 121) (.t 118), none⟩),
  ([], true, ⟨(some 122), .ixs 1 (.t 113) (.t 115), none⟩),
  ([], true, ⟨none, .store 1 (.t 122) (.t 120), none⟩)])
 (.seq (.dreg [([], false, ⟨(some 123), .mv (.t 0), none⟩),
  ([0], false, ⟨(some 124), .mv (.t 4), none⟩),
  ([0], false, ⟨(some 125), .bin .sub (.t 124) (.k (D.int .i64 (3))), none⟩),
  ([0, 1, 2], false, ⟨(some 126), .mv (.t 0), none⟩),
  ([0, 1, 2, 3], false, ⟨(some 127), .mv (.t 4), none⟩),
  ([0, 1, 2, 3], false, ⟨(some 128), .bin .sub (.t 127) (.k (D.int .i64 (4))), none⟩),
  ([0, 1, 2, 3, 4, 5], false, ⟨(some 129), .mv (.t 14), none⟩),
  ([0, 1, 2, 3, 4, 5], false, ⟨(some 130), .bin .add (.t 129) (.k (D.int .u32 (1))), none⟩),
  ([0, 1, 2, 3, 4, 5], false, ⟨(some 131), .ixt (.k (D.str [48, 48, 48, 49, 48, 50, 48, 51, 48, 52, 48, 53, 48, 54, 48, 55, 48, 56, 48, 57, 49, 48, 49, 49, 49, 50, 49, 51, 49, 52, 49, 53, 49, 54, 49, 55, 49, 56, 49, 57, 50, 48, 50, 49, 50, 50, 50, 51, 50, 52, 50, 53, 50, 54, 50, 55, 50, 56, 50, 57, 51, 48, 51, 49, 51, 50, 51, 51, 51, 52, 51, 53, 51, 54, 51, 55, 51, 56, 51, 57, 52, 48, 52, 49, 52, 50, 52, 51, 52, 52, 52, 53, 52, 54, 52, 55, 52, 56, 52, 57, 53, 48, 53, 49, 53, 50, 53, 51, 53, 52, 53, 53, 53, 54, 53, 55, 53, 56, 53, 57, 54, 48, 54, 49, 54, 50, 54, 51, 54, 52, 54, 53, 54, 54, 54, 55, 54, 56, 54, 57, 55, 48, 55, 49, 55, 50, 55, 51, 55, 52, 55, 53, 55, 54, 55, 55, 55, 56, 55, 57, 56, 48, 56, 49, 56, 50, 56, 51, 56, 52, 56, 53, 56, 54, 56, 55, 56, 56, 56, 57, 57, 48, 57, 49, 57, 50, 57, 51, 57, 52, 57, 53, 57, 54, 57, 55, 57, 56, 57, 57])) (.t 130), none⟩),
  ([0, 1, 2, 3, 4, 5, 6, 7, 8], false, ⟨(some 132), .mv (.t 14), none⟩),
  ([0, 1, 2, 3, 4, 5, 6, 7, 8], false, ⟨(some 133), .ixt (.k (D.str [48, 48, 48, 49, 48, 50, 48, 51, 48, 52, 48, 53, 48, 54, 48, 55, 48, 56, 48, 57, 49, 48, 49, 49, 49, 50, 49, 51, 49, 52, 49, 53, 49, 54, 49, 55, 49, 56, 49, 57, 50, 48, 50, 49, 50, 50, 50, 51, 50, 52, 50, 53, 50, 54, 50, 55, 50, 56, 50, 57, 51, 48, 51, 49, 51, 50, 51, 51, 51, 52, 51, 53, 51, 54, 51, 55, 51, 56, 51, 57, 52, 48, 52, 49, 52, 50, 52, 51, 52, 52, 52, 53, 52, 54, 52, 55, 52, 56, 52, 57, 53, 48, 53, 49, 53, 50, 53, 51, 53, 52, 53, 53, 53, 54, 53, 55, 53, 56, 53, 57, 54, 48, 54, 49, 54, 50, 54, 51, 54, 52, 54, 53, 54, 54, 54, 55, 54, 56, 54, 57, 55, 48, 55, 49, 55, 50, 55, 51, 55, 52, 55, 53, 55, 54, 55, 55, 55, 56, 55, 57, 56, 48, 56, 49, 56, 50, 56, 51, 56, 52, 56, 53, 56, 54, 56, 55, 56, 56, 56, 57, 57, 48, 57, 49, 57, 50, 57, 51, 57, 52, 57, 53, 57, 54, 57, 55, 57, 56, 57, 57])) (.t 132), none⟩),
  ([3, 4, 5, 9, 10], false, ⟨(some 134), .ixs 1 (.t 123) (.t 125), none⟩),
  ([3, 4, 5, 9, 10], false, ⟨none, .store 1 (.t 134) (.t 131), none⟩),
  ([], true, ⟨(some 135), .ixs 1 (.t 126) (.t 128), none⟩),
  ([], true, ⟨none, .store 1 (.t 135) (.t 133), none⟩)])
 (.reg [⟨(some 136), .mv (.t 4), none⟩,
  ⟨(some 137), .bin .sub (.t 136) (.k (D.int .i64 (4))), none⟩,
  ⟨(some 4), .mv (.t 137), none⟩]))))))
 .skip))
 (.seq (.seq (.reg [⟨(some 138), .mv (.t 4), none⟩,
  ⟨(some 139), .bin .geq (.t 138) (.k (D.int .i64 (2))), none⟩])
 (.cond (.t 139)
 (.seq (.reg [⟨(some 140), .mv (.t 12), none⟩,
  ⟨(some 141), .bin .rem (.t 140) (.k (D.int .u32 (100))), none⟩,
  ⟨(some 142), .bin .mul (.t 141) (.k (D.int .u32 (2))), none⟩,
  ⟨(some 16), .mv (.t 142), none⟩])
 (.seq (.reg [⟨(some 143), .mv (.t 12), none⟩,
  ⟨(some 144), .bin .quo (.t 143) (.k (D.int .u32 (100))), none⟩,
  ⟨(some 12), .mv (.t 144), none⟩])
 (.seq (.dreg [([], false, ⟨(some 145), .mv (.t 0), none⟩),
  ([0], false, ⟨(some 146), .mv (.t 4), none⟩),
  ([0], false, ⟨(some 147), .bin .sub (.t 146) (.k (D.int .i64 (1))), none⟩),
  ([0, 1, 2], false, ⟨(some 148), .mv (.t 0), none⟩),
  ([0, 1, 2, 3], false, ⟨(some 149), .mv (.t 4), none⟩),
  ([0, 1, 2, 3], false, ⟨(some 150), .bin .sub (.t 149) (.k (D.int .i64 (2))), none⟩),
  ([0, 1, 2, 3, 4, 5], false, ⟨(some 151), .mv (.t 16), none⟩),
  ([0, 1, 2, 3, 4, 5], false, ⟨(some 152), .bin .add (.t 151) (.k (D.int .u32 (1))), none⟩),
  ([0, 1, 2, 3, 4, 5], false, ⟨(some 153), .ixt (.k (D.str [48, 48, 48, 49, 48, 50, 48, 51, 48, 52, 48, 53, 48, 54, 48, 55, 48, 56, 48, 57, 49, 48, 49, 49, 49, 50, 49, 51, 49, 52, 49, 53, 49, 54, 49, 55, 49, 56, 49, 57, 50, 48, 50, 49, 50, 50, 50, 51, 50, 52, 50, 53, 50, 54, 50, 55, 50, 56, 50, 57, 51, 48, 51, 49, 51, 50, 51, 51, 51, 52, 51, 53, 51, 54, 51, 55, 51, 56, 51, 57, 52, 48, 52, 49, 52, 50, 52, 51, 52, 52, 52, 53, 52, 54, 52, 55, 52, 56, 52, 57, 53, 48, 53, 49, 53, 50, 53, 51, 53, 52, 53, 53, 53, 54, 53, 55, 53, 56, 53, 57, 54, 48, 54, 49, 54, 50, 54, 51, 54, 52, 54, 53, 54, 54, 54, 55, 54, 56, 54, 57, 55, 48, 55, 49, 55, 50, 55, 51, 55, 52, 55, 53, 55, 54, 55, 55, 55, 56, 55, 57, 56, 48, 56, 49, 56, 50, 56, 51, 56, 52, 56, 53, 56, 54, 56, 55, 56, 56, 56, 57, 57, 48, 57, 49, 57, 50, 57, 51, 57, 52, 57, 53, 57, 54, 57, 55, 57, 56, 57, 57])) (.t 152), none⟩),
  ([0, 1, 2, 3, 4, 5, 6, 7, 8], false, ⟨(some 154), .mv (.t 16), none⟩),
  ([0, 1, 2, 3, 4, 5, 6, 7, 8], false, ⟨(some 155), .ixt (.k (D.str [48, 48, 48, 49, 48, 50, 48, 51, 48, 52, 48, 53, 48, 54, 48, 55, 48, 56, 48, 57, 49, 48, 49, 49, 49, 50, 49, 51, 49, 52, 49, 53, 49, 54, 49, 55, 49, 56, 49, 57, 50, 48, 50, 49, 50, 50, 50, 51, 50, 52, 50, 53, 50, 54, 50, 55, 50, 56, 50, 57, 51, 48, 51, 49, 51, 50, 51, 51, 51, 52, 51, 53, 51, 54, 51, 55, 51, 56, 51, 57, 52, 48, 52, 49, 52, 50, 52, 51, 52, 52, 52, 53, 52, 54, 52, 55, 52, 56, 52, 57, 53, 48, 53, 49, 53, 50, 53, 51, 53, 52, 53, 53, 53, 54, 53, 55, 53, 56, 53, 57, 54, 48, 54, 49, 54, 50, 54, 51, 54, 52, 54, 53, 54, 54, 54, 55, 54, 56, 54, 57, 55, 48, 55, 49, 55, 50, 55, 51, 55, 52, 55, 53, 55, 54, 55, 55, 55, 56, 55, 57, 56, 48, 56, 49, 56, 50, 56, 51, 56, 52, 56, 53, 56, 54, 56, 55, 56, 56, 56, 57, 57, 48, 57, 49, 57, 50, 57, 51, 57, 52, 57, 53, 57, 54, 57, 55, 57, 56, 57, 57])) (.t 154), none⟩),
  ([3, 4, 5, 9, 10], false, ⟨(some 156), .ixs 1 (.t 145) (.t 147), none⟩),
  ([3, 4, 5, 9, 10], false, ⟨none, .store 1 (.t 156) (.t 153), none⟩),
  ([], true, ⟨(some 157), .ixs 1 (.t 148) (.t 150), none⟩),
  ([], true, ⟨none, .store 1 (.t 157) (.t 155), none⟩)])
 (.reg [⟨(some 158), .mv (.t 4), none⟩,
  ⟨(some 159), .bin .sub (.t 158) (.k (D.int .i64 (2))), none⟩,
  ⟨(some 4), .mv (.t 159), none⟩]))))
 .skip))
 (.seq (.reg [⟨(some 160), .mv (.t 4), none⟩,
  ⟨(some 161), .bin .gtr (.t 160) (.k (D.int .i64 (0))), none⟩])
 (.cond (.t 161)
 (.reg [⟨(some 162), .mv (.t 0), none⟩,
  ⟨(some 163), .mv (.t 12), none⟩,
  ⟨(some 164), .bin .add (.k (D.int .u32 (48))) (.t 163), none⟩,
  ⟨(some 165), .cvi .u8 (.t 164), none⟩,
  ⟨(some 166), .ixs 1 (.t 162) (.k (D.int .i64 (0))), none⟩,
  ⟨none, .store 1 (.t 166) (.t 165), none⟩])
 .skip)))))))⟩
def a99 : Ann := ⟨[], [⟨false, 0, false⟩], []⟩
def s99 : SFun := ⟨1, 8, [], [(.tmp 2, ⟨false, 0, false⟩)],
 (.seq (.reg [⟨(some 2), .mv (.k (D.bool false)), none⟩])
 (.seq (.reg [⟨(some 3), .mv (.t 0), none⟩,
  ⟨(some 4), .mv (.t 0), none⟩,
  ⟨(some 5), .bin .sub (.t 4) (.k (D.int .i64 (1))), none⟩,
  ⟨(some 6), .bin .and (.t 3) (.t 5), none⟩,
  ⟨(some 7), .bin .eql (.t 6) (.k (D.int .i64 (0))), none⟩,
  ⟨(some 2), .mv (.t 7), none⟩])
 .ret))⟩
def a447 : Ann := ⟨[], [⟨false, 0, false⟩], []⟩
def s447 : SFun := ⟨1, 14, [], [(.tmp 2, ⟨false, 0, false⟩)],
 (.seq (.reg [⟨(some 2), .mv (.k (D.int .i64 (0))), none⟩])
 (.seq (.seq (.reg [⟨(some 3), .mv (.t 0), none⟩,
  ⟨(some 4), .bin .eql (.t 3) (.k (D.int .u32 (0))), none⟩])
 (.cond (.t 4)
 (.seq (.reg [⟨(some 2), .mv (.k (D.int .i64 (32))), none⟩])
 .ret)
 .skip))
 (.seq (.reg [⟨(some 5), .mv (.t 0), none⟩,
  ⟨(some 6), .mv (.t 0), none⟩,
  ⟨(some 7), .una .neg (.t 6), none⟩,
  ⟨(some 8), .bin .and (.t 5) (.t 7), none⟩,
  ⟨(some 9), .bin .mul (.t 8) (.k (D.int .u32 (125613361))), none⟩,
  ⟨(some 10), .bin .shr (.t 9) (.k (D.int .u64 (27))), none⟩,
  ⟨(some 11), .ixa 32 1 (.k .un) (.t 10), none⟩,
  ⟨(some 12), .load false 1 (.t 11), none⟩,
  ⟨(some 13), .cvi .i64 (.t 12), none⟩,
  ⟨(some 2), .mv (.t 13), none⟩])
 .ret)))⟩
def a448 : Ann := ⟨[], [⟨false, 0, false⟩], []⟩
def s448 : SFun := ⟨1, 14, [], [(.tmp 2, ⟨false, 0, false⟩)],
 (.seq (.reg [⟨(some 2), .mv (.k (D.int .i64 (0))), none⟩])
 (.seq (.seq (.reg [⟨(some 3), .mv (.t 0), none⟩,
  ⟨(some 4), .bin .eql (.t 3) (.k (D.int .u64 (0))), none⟩])
 (.cond (.t 4)
 (.seq (.reg [⟨(some 2), .mv (.k (D.int .i64 (64))), none⟩])
 .ret)
 .skip))
 (.seq (.reg [⟨(some 5), .mv (.t 0), none⟩,
  ⟨(some 6), .mv (.t 0), none⟩,
  ⟨(some 7), .una .neg (.t 6), none⟩,
  ⟨(some 8), .bin .and (.t 5) (.t 7), none⟩,
  ⟨(some 9), .bin .mul (.t 8) (.k (D.int .u64 (285870213051353865))), none⟩,
  ⟨(some 10), .bin .shr (.t 9) (.k (D.int .u64 (58))), none⟩,
  ⟨(some 11), .ixa 64 1 (.k .un) (.t 10), none⟩,
  ⟨(some 12), .load false 1 (.t 11), none⟩,
  ⟨(some 13), .cvi .i64 (.t 12), none⟩,
  ⟨(some 2), .mv (.t 13), none⟩])
 .ret)))⟩
def a446 : Ann := ⟨[], [⟨false, 0, false⟩], []⟩
def s446 : SFun := ⟨1, 8, [], [(.tmp 2, ⟨false, 0, false⟩)],
 (.seq (.reg [⟨(some 2), .mv (.k (D.int .i64 (0))), none⟩])
 (.seq (.cond (.k (D.bool false))
 (.seq (.reg [⟨(some 3), .mv (.t 0), none⟩,
  ⟨(some 4), .cvi .u32 (.t 3), none⟩,
  ⟨(some 5), .call false 447 [(.t 4)], none⟩,
  ⟨(some 2), .mv (.t 5), none⟩])
 .ret)
 .skip)
 (.seq (.reg [⟨(some 6), .mv (.t 0), none⟩,
  ⟨(some 7), .call false 448 [(.t 6)], none⟩,
  ⟨(some 2), .mv (.t 7), none⟩])
 .ret)))⟩
def a98 : Ann := ⟨[(11, [(1, ⟨false, 0, false⟩), (3, ⟨false, 0, false⟩), (4, ⟨false, 0, false⟩), (10, ⟨false, 0, false⟩), (11, ⟨false, 0, false⟩), (13, ⟨false, 0, false⟩), (14, ⟨false, 0, false⟩), (15, ⟨false, 0, false⟩), (16, ⟨false, 0, false⟩), (0, ⟨true, 1, false⟩), (12, ⟨true, 0, false⟩)]), (18, [(1, ⟨false, 0, false⟩), (3, ⟨false, 0, false⟩), (4, ⟨false, 0, false⟩), (10, ⟨false, 0, false⟩), (11, ⟨false, 0, false⟩), (13, ⟨false, 0, false⟩), (17, ⟨false, 0, false⟩), (0, ⟨true, 1, false⟩), (12, ⟨true, 0, false⟩)])], [⟨true, 1, false⟩, ⟨false, 0, false⟩], []⟩
def s98 : SFun := ⟨5, 102, [], [(.tmp 10, ⟨true, 1, false⟩), (.tmp 11, ⟨false, 0, false⟩)],
 (.seq (.reg [⟨(some 10), .mv (.k .sn), none⟩,
  ⟨(some 11), .mv (.k (D.str [])), none⟩])
 (.seq (.seq (.reg [⟨(some 19), .mv (.t 2), none⟩,
  ⟨(some 20), .bin .lss (.t 19) (.k (D.int .i64 (2))), none⟩,
  ⟨(some 21), .mv (.t 20), none⟩,
  ⟨(some 22), .mv (.t 2), (some (21, false))⟩,
  ⟨(some 23), .bin .eql (.t 22) (.k (D.int .i64 (10))), (some (21, false))⟩,
  ⟨(some 24), .pick (.t 21) (.k (D.bool true)) (.t 23), none⟩,
  ⟨(some 25), .mv (.t 24), none⟩,
  ⟨(some 26), .mv (.t 2), (some (25, false))⟩,
  ⟨(some 27), .bin .gtr (.t 26) (.k (D.int .i64 (36))), (some (25, false))⟩,
  ⟨(some 28), .pick (.t 25) (.k (D.bool true)) (.t 27), none⟩])
 (.cond (.t 28)
 (.reg [⟨(some 29), .bad, none⟩,
  ⟨none, .bad, none⟩])
 .skip))
 (.seq (.reg [⟨(some 12), .alloc [(D.int .u8 (0)), (D.int .u8 (0)), (D.int .u8 (0)), (D.int .u8 (0)), (D.int .u8 (0)), (D.int .u8 (0)), (D.int .u8 (0)), (D.int .u8 (0)), (D.int .u8 (0)), (D.int .u8 (0)), (D.int .u8 (0)), (D.int .u8 (0)), (D.int .u8 (0)), (D.int .u8 (0)), (D.int .u8 (0)), (D.int .u8 (0)), (D.int .u8 (0)), (D.int .u8 (0)), (D.int .u8 (0)), (D.int .u8 (0)), (D.int .u8 (0)), (D.int .u8 (0)), (D.int .u8 (0)), (D.int .u8 (0)), (D.int .u8 (0)), (D.int .u8 (0)), (D.int .u8 (0)), (D.int .u8 (0)), (D.int .u8 (0)), (D.int .u8 (0)), (D.int .u8 (0)), (D.int .u8 (0)), (D.int .u8 (0)), (D.int .u8 (0)), (D.int .u8 (0)), (D.int .u8 (0)), (D.int .u8 (0)), (D.int .u8 (0)), (D.int .u8 (0)), (D.int .u8 (0)), (D.int .u8 (0)), (D.int .u8 (0)), (D.int .u8 (0)), (D.int .u8 (0)), (D.int .u8 (0)), (D.int .u8 (0)), (D.int .u8 (0)), (D.int .u8 (0)), (D.int .u8 (0)), (D.int .u8 (0)), (D.int .u8 (0)), (D.int .u8 (0)), (D.int .u8 (0)), (D.int .u8 (0)), (D.int .u8 (0)), (D.int .u8 (0)), (D.int .u8 (0)), (D.int .u8 (0)), (D.int .u8 (0)), (D.int .u8 (0)), (D.int .u8 (0)), (D.int .u8 (0)), (D.int .u8 (0)), (D.int .u8 (0)), (D.int .u8 (0))], none⟩])
 (.seq (.reg [⟨(some 13), .mv (.k (D.int .i64 (65))), none⟩])
 (.seq (.seq (.reg [⟨(some 30), .mv (.t 3), none⟩])
 (.cond (.t 30)
 (.reg [⟨(some 31), .mv (.t 1), none⟩,
  ⟨(some 32), .una .neg (.t 31), none⟩,
  ⟨(some 1), .mv (.t 32), none⟩])
 .skip))
 (.seq (.seq (.reg [⟨(some 33), .mv (.t 2), none⟩,
  ⟨(some 34), .call false 99 [(.t 33)], none⟩])
 (.cond (.t 34)
 (.seq (.reg [⟨(some 35), .mv (.t 2), none⟩,
  ⟨(some 36), .cvi .u64 (.t 35), none⟩,
  ⟨(some 37), .call false 446 [(.t 36)], none⟩,
  ⟨(some 38), .cvi .u64 (.t 37), none⟩,
  ⟨(some 14), .mv (.t 38), none⟩])
 (.seq (.reg [⟨(some 39), .mv (.t 2), none⟩,
  ⟨(some 40), .cvi .u64 (.t 39), none⟩,
  ⟨(some 15), .mv (.t 40), none⟩])
 (.seq (.reg [⟨(some 41), .mv (.t 2), none⟩,
  ⟨(some 42), .cvi .u64 (.t 41), none⟩,
  ⟨(some 43), .bin .sub (.t 42) (.k (D.int .u64 (1))), none⟩,
  ⟨(some 16), .mv (.t 43), none⟩])
 (.seq (.block 0 (.loop [(1, ⟨false, 0, false⟩), (3, ⟨false, 0, false⟩), (4, ⟨false, 0, false⟩), (10, ⟨false, 0, false⟩), (11, ⟨false, 0, false⟩), (13, ⟨false, 0, false⟩), (14, ⟨false, 0, false⟩), (15, ⟨false, 0, false⟩), (16, ⟨false, 0, false⟩), (0, ⟨true, 1, false⟩), (12, ⟨true, 0, false⟩)]
 (.seq (.seq (.reg [⟨(some 44), .mv (.t 1), none⟩,
  ⟨(some 45), .mv (.t 15), none⟩,
  ⟨(some 46), .bin .geq (.t 44) (.t 45), none⟩])
 (.cond (.t 46)
 .skip
 (.exit 0)))
 (.block 1 (.seq (.reg [⟨(some 47), .mv (.t 13), none⟩,
  ⟨(some 48), .bin .sub (.t 47) (.k (D.int .i64 (1))), none⟩,
  ⟨(some 13), .mv (.t 48), none⟩])
 (.seq (.reg [⟨(some 49), .mv (.t 13), none⟩,
  ⟨(some 50), .mv (.t 1), none⟩,
  ⟨(some 51), .mv (.t 16), none⟩,
  ⟨(some 52), .bin .and (.t 50) (.t 51), none⟩,
  ⟨(some 53), .ixt (.k (D.str [48, 49, 50, 51, 52, 53, 54, 55, 56, 57, 97, 98, 99, 100, 101, 102, 103, 104, 105, 106, 107, 108, 109, 110, 111, 112, 113, 114, 115, 116, 117, 118, 119, 120, 121, 122])) (.t 52), none⟩,
  ⟨(some 54), .ixa 65 1 (.t 12) (.t 49), none⟩,
  ⟨none, .store 1 (.t 54) (.t 53), none⟩])
 (.reg [⟨(some 55), .mv (.t 1), none⟩,
  ⟨(some 56), .mv (.t 14), none⟩,
  ⟨(some 57), .bin .shr (.t 55) (.t 56), none⟩,
  ⟨(some 1), .mv (.t 57), none⟩])))))))
 (.seq (.reg [⟨(some 58), .mv (.t 13), none⟩,
  ⟨(some 59), .bin .sub (.t 58) (.k (D.int .i64 (1))), none⟩,
  ⟨(some 13), .mv (.t 59), none⟩])
 (.reg [⟨(some 60), .mv (.t 13), none⟩,
  ⟨(some 61), .mv (.t 1), none⟩,
  ⟨(some 62), .ixt (.k (D.str [48, 49, 50, 51, 52, 53, 54, 55, 56, 57, 97, 98, 99, 100, 101, 102, 103, 104, 105, 106, 107, 108, 109, 110, 111, 112, 113, 114, 115, 116, 117, 118, 119, 120, 121, 122])) (.t 61), none⟩,
  ⟨(some 63), .ixa 65 1 (.t 12) (.t 60), none⟩,
  ⟨none, .store 1 (.t 63) (.t 62), none⟩]))))))
 (.seq (.reg [⟨(some 64), .mv (.t 2), none⟩,
  ⟨(some 65), .cvi .u64 (.t 64), none⟩,
  ⟨(some 17), .mv (.t 65), none⟩])
 (.seq (.block 2 (.loop [(1, ⟨false, 0, false⟩), (3, ⟨false, 0, false⟩), (4, ⟨false, 0, false⟩), (10, ⟨false, 0, false⟩), (11, ⟨false, 0, false⟩), (13, ⟨false, 0, false⟩), (17, ⟨false, 0, false⟩), (0, ⟨true, 1, false⟩), (12, ⟨true, 0, false⟩)]
 (.seq (.seq (.reg [⟨(some 66), .mv (.t 1), none⟩,
  ⟨(some 67), .mv (.t 17), none⟩,
  ⟨(some 68), .bin .geq (.t 66) (.t 67), none⟩])
 (.cond (.t 68)
 .skip
 (.exit 2)))
 (.block 3 (.seq (.reg [⟨(some 69), .mv (.t 13), none⟩,
  ⟨(some 70), .bin .sub (.t 69) (.k (D.int .i64 (1))), none⟩,
  ⟨(some 13), .mv (.t 70), none⟩])
 (.seq (.reg [⟨(some 71), .mv (.t 1), none⟩,
  ⟨(some 72), .mv (.t 17), none⟩,
  ⟨(some 73), .bin .quo (.t 71) (.t 72), none⟩,
  ⟨(some 18), .mv (.t 73), none⟩])
 (.seq (.reg [⟨(some 74), .mv (.t 13), none⟩,
  ⟨(some 75), .mv (.t 1), none⟩,
  ⟨(some 76), .mv (.t 18), none⟩,
  ⟨(some 77), .mv (.t 17), none⟩,
  ⟨(some 78), .bin .mul (.t 76) (.t 77), none⟩,
  ⟨(some 79), .bin .sub (.t 75) (.t 78), none⟩,
  ⟨(some 80), .ixt (.k (D.str [48, 49, 50, 51, 52, 53, 54, 55, 56, 57, 97, 98, 99, 100, 101, 102, 103, 104, 105, 106, 107, 108, 109, 110, 111, 112, 113, 114, 115, 116, 117, 118, 119, 120, 121, 122])) (.t 79), none⟩,
  ⟨(some 81), .ixa 65 1 (.t 12) (.t 74), none⟩,
  ⟨none, .store 1 (.t 81) (.t 80), none⟩])
 (.reg [⟨(some 82), .mv (.t 18), none⟩,
  ⟨(some 1), .mv (.t 82), none⟩]))))))))
 (.seq (.reg [⟨(some 83), .mv (.t 13), none⟩,
  ⟨(some 84), .bin .sub (.t 83) (.k (D.int .i64 (1))), none⟩,
  ⟨(some 13), .mv (.t 84), none⟩])
 (.reg [⟨(some 85), .mv (.t 13), none⟩,
  ⟨(some 86), .mv (.t 1), none⟩,
  ⟨(some 87), .ixt (.k (D.str [48, 49, 50, 51, 52, 53, 54, 55, 56, 57, 97, 98, 99, 100, 101, 102, 103, 104, 105, 106, 107, 108, 109, 110, 111, 112, 113, 114, 115, 116, 117, 118, 119, 120, 121, 122])) (.t 86), none⟩,
  ⟨(some 88), .ixa 65 1 (.t 12) (.t 85), none⟩,
  ⟨none, .store 1 (.t 88) (.t 87), none⟩]))))))
 (.seq (.seq (.reg [⟨(some 89), .mv (.t 3), none⟩])
 (.cond (.t 89)
 (.seq (.reg [⟨(some 90), .mv (.t 13), none⟩,
  ⟨(some 91), .bin .sub (.t 90) (.k (D.int .i64 (1))), none⟩,
  ⟨(some 13), .mv (.t 91), none⟩])
 (.reg [⟨(some 92), .mv (.t 13), none⟩,
  ⟨(some 93), .ixa 65 1 (.t 12) (.t 92), none⟩,
  ⟨none, .store 1 (.t 93) (.k (D.int .u8 (45))), none⟩]))
 .skip))
 (.seq (.seq (.reg [⟨(some 94), .mv (.t 4), none⟩])
 (.cond (.t 94)
 (.seq (.reg [⟨(some 95), .mv (.t 0), none⟩,
  ⟨(some 96), .mv (.t 13), none⟩,
  ⟨(some 97), .bad, none⟩,
  ⟨(some 98), .append 1 1 (.t 95) (.t 97), none⟩,
  ⟨(some 10), .mv (.t 98), none⟩])
 .ret)
 .skip))
 (.seq (.reg [⟨(some 99), .mv (.t 13), none⟩,
  ⟨(some 100), .bad, none⟩,
  ⟨(some 101), .b2s (.t 100), none⟩,
  ⟨(some 11), .mv (.t 101), none⟩])
 .ret)))))))))⟩
def a94 : Ann := ⟨[], [⟨false, 0, false⟩], []⟩
def s94 : SFun := ⟨2, 54, [], [(.tmp 4, ⟨false, 0, false⟩)],
 (.seq (.reg [⟨(some 4), .mv (.k (D.str [])), none⟩])
 (.seq (.seq (.reg [⟨(some 10), .mv (.t 1), none⟩,
  ⟨(some 11), .bin .eql (.t 10) (.k (D.int .i64 (10))), none⟩])
 (.cond (.t 11)
 (.seq (.seq (.reg [⟨(some 12), .mv (.t 0), none⟩,
  ⟨(some 13), .bin .leq (.k (D.int .i64 (0))) (.t 12), none⟩,
  ⟨(some 14), .mv (.t 13), none⟩,
  ⟨(some 15), .mv (.t 0), (some (14, true))⟩,
  ⟨(some 16), .bin .lss (.t 15) (.k (D.int .i64 (100))), (some (14, true))⟩,
  ⟨(some 17), .pick (.t 14) (.t 16) (.k (D.bool false)), none⟩])
 (.cond (.t 17)
 (.seq (.reg [⟨(some 18), .mv (.t 0), none⟩,
  ⟨(some 19), .call false 102 [(.t 18)], none⟩,
  ⟨(some 4), .mv (.t 19), none⟩])
 .ret)
 .skip))
 (.seq (.reg [⟨(some 5), .alloc [(D.int .u8 (0)), (D.int .u8 (0)), (D.int .u8 (0)), (D.int .u8 (0)), (D.int .u8 (0)), (D.int .u8 (0)), (D.int .u8 (0)), (D.int .u8 (0)), (D.int .u8 (0)), (D.int .u8 (0)), (D.int .u8 (0)), (D.int .u8 (0)), (D.int .u8 (0)), (D.int .u8 (0)), (D.int .u8 (0)), (D.int .u8 (0)), (D.int .u8 (0)), (D.int .u8 (0)), (D.int .u8 (0)), (D.int .u8 (0)), (D.int .u8 (0)), (D.int .u8 (0)), (D.int .u8 (0)), (D.int .u8 (0))], none⟩])
 (.seq (.reg [⟨(some 20), .mv (.t 0), none⟩,
  ⟨(some 21), .cvi .u64 (.t 20), none⟩,
  ⟨(some 6), .mv (.t 21), none⟩])
 (.seq (.seq (.reg [⟨(some 22), .mv (.t 0), none⟩,
  ⟨(some 23), .bin .lss (.t 22) (.k (D.int .i64 (0))), none⟩])
 (.cond (.t 23)
 (.reg [⟨(some 24), .mv (.t 6), none⟩,
  ⟨(some 25), .una .neg (.t 24), none⟩,
  ⟨(some 6), .mv (.t 25), none⟩])
 .skip))
 (.seq (.reg [⟨(some 26), .mv (.t 6), none⟩,
  ⟨(some 27), .call false 101 [(.t 26)], none⟩,
  ⟨(some 7), .mv (.t 27), none⟩])
 (.seq (.reg [⟨(some 28), .mv (.t 7), none⟩,
  ⟨(some 29), .bin .add (.k (D.int .i64 (1))) (.t 28), none⟩,
  ⟨(some 30), .bad, none⟩,
  ⟨(some 31), .mv (.t 6), none⟩,
  ⟨(some 32), .call false 97 [(.t 30), (.t 31)], none⟩])
 (.seq (.seq (.reg [⟨(some 33), .mv (.t 0), none⟩,
  ⟨(some 34), .bin .lss (.t 33) (.k (D.int .i64 (0))), none⟩])
 (.cond (.t 34)
 (.seq (.reg [⟨(some 35), .ixa 24 1 (.t 5) (.k (D.int .i64 (0))), none⟩,
  ⟨none, .store 1 (.t 35) (.k (D.int .u8 (45))), none⟩])
 (.seq (.reg [⟨(some 36), .mv (.t 7), none⟩,
  ⟨(some 37), .bin .add (.k (D.int .i64 (1))) (.t 36), none⟩,
  ⟨(some 38), .bad, none⟩,
  ⟨(some 39), .b2s (.t 38), none⟩,
  ⟨(some 4), .mv (.t 39), none⟩])
 .ret))
 .skip))
 (.seq (.reg [⟨(some 40), .mv (.t 7), none⟩,
  ⟨(some 41), .bin .add (.k (D.int .i64 (1))) (.t 40), none⟩,
  ⟨(some 42), .bad, none⟩,
  ⟨(some 43), .b2s (.t 42), none⟩,
  ⟨(some 4), .mv (.t 43), none⟩])
 .ret))))))))
 .skip))
 (.seq (.reg [⟨(some 45), .mv (.t 0), none⟩,
  ⟨(some 46), .cvi .u64 (.t 45), none⟩,
  ⟨(some 47), .mv (.t 1), none⟩,
  ⟨(some 48), .mv (.t 0), none⟩,
  ⟨(some 49), .bin .lss (.t 48) (.k (D.int .i64 (0))), none⟩,
  ⟨(some 50), .call false 98 [(.k .sn), (.t 46), (.t 47), (.t 49), (.k (D.bool false))], none⟩,
  ⟨(some 44), .mv (.t 50), none⟩,
  ⟨(some 51), .ext (.t 44) 0, none⟩,
  ⟨(some 52), .ext (.t 44) 1, none⟩,
  ⟨(some 8), .mv (.t 51), none⟩,
  ⟨(some 9), .mv (.t 52), none⟩])
 (.seq (.reg [⟨(some 53), .mv (.t 9), none⟩,
  ⟨(some 4), .mv (.t 53), none⟩])
 .ret))))⟩
def a95 : Ann := ⟨[], [⟨false, 0, false⟩], []⟩
def s95 : SFun := ⟨1, 5, [], [(.tmp 2, ⟨false, 0, false⟩)],
 (.seq (.reg [⟨(some 2), .mv (.k (D.str [])), none⟩])
 (.seq (.reg [⟨(some 3), .mv (.t 0), none⟩,
  ⟨(some 4), .call false 94 [(.t 3), (.k (D.int .i64 (10)))], none⟩,
  ⟨(some 2), .mv (.t 4), none⟩])
 .ret))⟩
def a466 : Ann := ⟨[], [⟨false, 0, false⟩], []⟩
def s466 : SFun := ⟨1, 5, [], [(.tmp 2, ⟨false, 0, false⟩)],
 (.seq (.reg [⟨(some 2), .mv (.k (D.str [])), none⟩])
 (.seq (.reg [⟨(some 3), .mv (.t 0), none⟩,
  ⟨(some 4), .call false 95 [(.t 3)], none⟩,
  ⟨(some 2), .mv (.t 4), none⟩])
 .ret))⟩
def a368 : Ann := ⟨[], [⟨false, 0, false⟩], []⟩
def s368 : SFun := ⟨1, 6, [], [(.tmp 2, ⟨false, 0, false⟩)],
 (.seq (.reg [⟨(some 2), .mv (.k (D.str [])), none⟩])
 (.seq (.reg [⟨(some 3), .mv (.t 0), none⟩,
  ⟨(some 4), .bin .add (.t 3) (.k (D.int .i64 (1))), none⟩,
  ⟨(some 5), .call false 466 [(.t 4)], none⟩,
  ⟨(some 2), .mv (.t 5), none⟩])
 .ret))⟩
def a364 : Ann := ⟨[], [⟨true, 1, false⟩], []⟩
def s364 : SFun := ⟨3, 40, [], [(.tmp 6, ⟨true, 1, false⟩)],
 (.seq (.reg [⟨(some 6), .mv (.k .sn), none⟩])
 (.seq (.block 0 (.seq (.reg [⟨(some 8), .mv (.t 0), none⟩,
  ⟨(some 9), .call false 134 [(.t 8)], none⟩,
  ⟨(some 10), .una .not (.t 9), none⟩,
  ⟨(some 11), .mv (.t 10), none⟩,
  ⟨(some 12), .mv (.t 1), (some (11, false))⟩,
  ⟨(some 13), .call false 369 [(.t 12)], (some (11, false))⟩,
  ⟨(some 14), .una .not (.t 13), (some (11, false))⟩,
  ⟨(some 15), .pick (.t 11) (.k (D.bool true)) (.t 14), none⟩,
  ⟨(some 16), .mv (.t 15), none⟩,
  ⟨(some 17), .mv (.t 2), (some (16, false))⟩,
  ⟨(some 18), .call false 369 [(.t 17)], (some (16, false))⟩,
  ⟨(some 19), .una .not (.t 18), (some (16, false))⟩,
  ⟨(some 20), .pick (.t 16) (.k (D.bool true)) (.t 19), none⟩,
  ⟨(some 7), .mv (.t 20), none⟩])
 (.cond (.t 7)
 (.seq (.reg [⟨(some 6), .mv (.k .sn), none⟩])
 .ret)
 (.seq (.reg [⟨(some 22), .mv (.t 0), none⟩,
  ⟨(some 23), .bin .eql (.t 22) (.k (D.int .i64 (3))), none⟩,
  ⟨(some 21), .mv (.t 23), none⟩])
 (.cond (.t 21)
 (.seq (.reg [⟨(some 24), .mv (.t 1), none⟩,
  ⟨(some 25), .bin .add (.t 24) (.k (D.int .i64 (32))), none⟩,
  ⟨(some 26), .cvi .u8 (.t 25), none⟩,
  ⟨(some 27), .mv (.t 2), none⟩,
  ⟨(some 28), .bin .add (.t 27) (.k (D.int .i64 (32))), none⟩,
  ⟨(some 29), .cvi .u8 (.t 28), none⟩,
  ⟨(some 30), .bsl true 1 4 [(D.int .u8 (0))] [(0, (.k (D.int .u8 (27)))), (1, (.k (D.int .u8 (89)))), (2, (.t 26)), (3, (.t 29))], none⟩,
  ⟨(some 6), .mv (.t 30), none⟩])
 .ret)
 .skip)))))
 (.seq (.reg [⟨(some 31), .mv (.t 1), none⟩,
  ⟨(some 32), .call false 368 [(.t 31)], none⟩,
  ⟨(some 33), .bin .add (.k (D.str [27, 91])) (.t 32), none⟩,
  ⟨(some 34), .bin .add (.t 33) (.k (D.str [59])), none⟩,
  ⟨(some 35), .mv (.t 2), none⟩,
  ⟨(some 36), .call false 368 [(.t 35)], none⟩,
  ⟨(some 37), .bin .add (.t 34) (.t 36), none⟩,
  ⟨(some 38), .bin .add (.t 37) (.k (D.str [72])), none⟩,
  ⟨(some 39), .s2b (.t 38), none⟩,
  ⟨(some 6), .mv (.t 39), none⟩])
 .ret)))⟩
def a345 : Ann := ⟨[], [⟨true, 1, false⟩], []⟩
def s345 : SFun := ⟨0, 2, [], [(.tmp 0, ⟨true, 1, false⟩)],
 (.seq (.reg [⟨(some 0), .mv (.k .sn), none⟩])
 (.seq (.reg [⟨(some 1), .bsl true 1 8 [(D.int .i64 (0))] [(0, (.k (D.int .i64 (1)))), (1, (.k (D.int .i64 (2)))), (2, (.k (D.int .i64 (3)))), (3, (.k (D.int .i64 (4)))), (4, (.k (D.int .i64 (5)))), (5, (.k (D.int .i64 (7)))), (6, (.k (D.int .i64 (8)))), (7, (.k (D.int .i64 (9))))], none⟩,
  ⟨(some 0), .mv (.t 1), none⟩])
 .ret))⟩
def a347 : Ann := ⟨[], [⟨true, 1, false⟩], []⟩
def s347 : SFun := ⟨2, 42, [], [(.tmp 4, ⟨true, 1, false⟩)],
 (.seq (.reg [⟨(some 4), .mv (.k .sn), none⟩])
 (.seq (.block 0 (.seq (.reg [⟨(some 6), .mv (.t 0), none⟩,
  ⟨(some 7), .bin .eql (.t 6) (.k (D.int .i64 (-1))), none⟩,
  ⟨(some 5), .mv (.t 7), none⟩])
 (.cond (.t 5)
 (.seq (.reg [⟨(some 4), .mv (.k .sn), none⟩])
 .ret)
 (.seq (.reg [⟨(some 9), .mv (.t 0), none⟩,
  ⟨(some 10), .bin .lss (.t 9) (.k (D.int .i64 (8))), none⟩,
  ⟨(some 8), .mv (.t 10), none⟩])
 (.cond (.t 8)
 (.seq (.reg [⟨(some 11), .mv (.t 1), none⟩,
  ⟨(some 12), .mv (.t 0), none⟩,
  ⟨(some 13), .bin .add (.t 11) (.t 12), none⟩,
  ⟨(some 14), .bsl true 1 1 [(D.int .i64 (0))] [(0, (.t 13))], none⟩,
  ⟨(some 4), .mv (.t 14), none⟩])
 .ret)
 (.seq (.reg [⟨(some 16), .mv (.t 0), none⟩,
  ⟨(some 17), .bin .lss (.t 16) (.k (D.int .i64 (16))), none⟩,
  ⟨(some 15), .mv (.t 17), none⟩])
 (.cond (.t 15)
 (.seq (.reg [⟨(some 18), .mv (.t 1), none⟩,
  ⟨(some 19), .bin .add (.t 18) (.k (D.int .i64 (60))), none⟩,
  ⟨(some 20), .mv (.t 0), none⟩,
  ⟨(some 21), .bin .add (.t 19) (.t 20), none⟩,
  ⟨(some 22), .bin .sub (.t 21) (.k (D.int .i64 (8))), none⟩,
  ⟨(some 23), .bsl true 1 1 [(D.int .i64 (0))] [(0, (.t 22))], none⟩,
  ⟨(some 4), .mv (.t 23), none⟩])
 .ret)
 (.seq (.reg [⟨(some 25), .mv (.t 0), none⟩,
  ⟨(some 26), .bin .leq (.t 25) (.k (D.int .i64 (255))), none⟩,
  ⟨(some 24), .mv (.t 26), none⟩])
 (.cond (.t 24)
 (.seq (.reg [⟨(some 27), .mv (.t 1), none⟩,
  ⟨(some 28), .bin .add (.t 27) (.k (D.int .i64 (8))), none⟩,
  ⟨(some 29), .mv (.t 0), none⟩,
  ⟨(some 30), .bsl true 1 3 [(D.int .i64 (0))] [(0, (.t 28)), (1, (.k (D.int .i64 (5)))), (2, (.t 29))], none⟩,
  ⟨(some 4), .mv (.t 30), none⟩])
 .ret)
 .skip)))))))))
 (.seq (.reg [⟨(some 31), .mv (.t 1), none⟩,
  ⟨(some 32), .bin .add (.t 31) (.k (D.int .i64 (8))), none⟩,
  ⟨(some 33), .mv (.t 0), none⟩,
  ⟨(some 34), .bin .shr (.t 33) (.k (D.int .u64 (16))), none⟩,
  ⟨(some 35), .bin .and (.t 34) (.k (D.int .i64 (255))), none⟩,
  ⟨(some 36), .mv (.t 0), none⟩,
  ⟨(some 37), .bin .shr (.t 36) (.k (D.int .u64 (8))), none⟩,
  ⟨(some 38), .bin .and (.t 37) (.k (D.int .i64 (255))), none⟩,
  ⟨(some 39), .mv (.t 0), none⟩,
  ⟨(some 40), .bin .and (.t 39) (.k (D.int .i64 (255))), none⟩,
  ⟨(some 41), .bsl true 1 5 [(D.int .i64 (0))] [(0, (.t 32)), (1, (.k (D.int .i64 (2)))), (2, (.t 35)), (3, (.t 38)), (4, (.t 40))], none⟩,
  ⟨(some 4), .mv (.t 41), none⟩])
 .ret)))⟩
def a342 : Ann := ⟨[(3, [(7, ⟨false, 0, false⟩), (8, ⟨false, 0, false⟩), (9, ⟨false, 0, false⟩), (1, ⟨true, 0, false⟩), (3, ⟨true, 1, false⟩)])], [⟨true, 1, false⟩], []⟩
def s342 : SFun := ⟨1, 34, [], [(.tmp 2, ⟨true, 1, false⟩)],
 (.seq (.reg [⟨(some 1), .box 3 (.t 0), none⟩,
  ⟨(some 2), .mv (.k .sn), none⟩])
 (.seq (.reg [⟨(some 6), .bsl true 1 1 [(D.int .i64 (0))] [(0, (.k (D.int .i64 (0))))], none⟩,
  ⟨(some 3), .mv (.t 6), none⟩])
 (.seq (.seq (.reg [⟨(some 7), .call false 345 [], none⟩,
  ⟨(some 8), .len (.t 7), none⟩,
  ⟨(some 9), .mv (.k (D.int .i64 (0))), none⟩])
 (.block 0 (.loop [(7, ⟨false, 0, false⟩), (8, ⟨false, 0, false⟩), (9, ⟨false, 0, false⟩), (1, ⟨true, 0, false⟩), (3, ⟨true, 1, false⟩)]
 (.seq (.reg [⟨(some 10), .bin .lss (.t 9) (.t 8), none⟩])
 (.seq (.cond (.t 10)
 .skip
 (.exit 0))
 (.seq (.block 1 (.seq (.reg [⟨(some 11), .mv (.t 9), none⟩,
  ⟨(some 12), .ixs 1 (.t 7) (.t 9), none⟩,
  ⟨(some 13), .load false 1 (.t 12), none⟩,
  ⟨(some 4), .mv (.t 11), none⟩,
  ⟨(some 5), .mv (.t 13), none⟩])
 (.seq (.reg [⟨(some 14), .fad 2 (.t 1), none⟩,
  ⟨(some 15), .load false 1 (.t 14), none⟩,
  ⟨(some 16), .mv (.t 4), none⟩,
  ⟨(some 17), .bin .shr (.t 15) (.t 16), none⟩,
  ⟨(some 18), .bin .and (.t 17) (.k (D.int .i64 (1))), none⟩,
  ⟨(some 19), .bin .eql (.t 18) (.k (D.int .i64 (1))), none⟩])
 (.cond (.t 19)
 (.reg [⟨(some 20), .mv (.t 3), none⟩,
  ⟨(some 21), .mv (.t 5), none⟩,
  ⟨(some 22), .bsl false 1 1 [(D.int .i64 (0))] [(0, (.t 21))], none⟩,
  ⟨(some 23), .append 1 8 (.t 20) (.t 22), none⟩,
  ⟨(some 3), .mv (.t 23), none⟩])
 .skip))))
 (.reg [⟨(some 24), .bin .add (.t 9) (.k (D.int .i64 (1))), none⟩,
  ⟨(some 9), .mv (.t 24), none⟩])))))))
 (.seq (.dreg [([], false, ⟨(some 25), .mv (.t 3), none⟩),
  ([0], false, ⟨(some 26), .fad 0 (.t 1), none⟩),
  ([0], false, ⟨(some 27), .load false 1 (.t 26), none⟩),
  ([0], false, ⟨(some 28), .callr 347 [(.t 27), (.k (D.int .i64 (30)))], none⟩),
  ([], false, ⟨(some 29), .append 1 8 (.t 25) (.t 28), none⟩),
  ([0, 1, 2, 3, 4], false, ⟨(some 30), .fad 1 (.t 1), none⟩),
  ([0, 1, 2, 3, 4], false, ⟨(some 31), .load false 1 (.t 30), none⟩),
  ([], true, ⟨(some 32), .call false 347 [(.t 31), (.k (D.int .i64 (40)))], none⟩),
  ([], true, ⟨(some 33), .append 1 8 (.t 29) (.t 32), none⟩),
  ([], true, ⟨(some 2), .mv (.t 33), none⟩)])
 .ret))))⟩
def a341 : Ann := ⟨[], [⟨true, 1, false⟩], []⟩
def s341 : SFun := ⟨2, 10, [], [(.tmp 4, ⟨true, 1, false⟩)],
 (.seq (.reg [⟨(some 2), .box 3 (.t 0), none⟩,
  ⟨(some 3), .box 3 (.t 1), none⟩,
  ⟨(some 4), .mv (.k .sn), none⟩])
 (.seq (.seq (.reg [⟨(some 5), .load true 3 (.t 2), none⟩,
  ⟨(some 6), .load true 3 (.t 3), none⟩,
  ⟨(some 7), .eqa false [1, 1, 1] (.t 5) (.t 6), none⟩])
 (.cond (.t 7)
 (.seq (.reg [⟨(some 4), .mv (.k .sn), none⟩])
 .ret)
 .skip))
 (.seq (.reg [⟨(some 8), .load true 3 (.t 3), none⟩,
  ⟨(some 9), .call false 342 [(.t 8)], none⟩,
  ⟨(some 4), .mv (.t 9), none⟩])
 .ret)))⟩
def a457 : Ann := ⟨[(4, [(0, ⟨false, 0, false⟩), (1, ⟨false, 0, false⟩), (4, ⟨false, 0, false⟩), (12, ⟨false, 0, false⟩), (13, ⟨false, 0, false⟩)])], [⟨false, 0, false⟩], []⟩
def s457 : SFun := ⟨2, 26, [], [(.tmp 4, ⟨false, 0, false⟩)],
 (.seq (.reg [⟨(some 4), .mv (.k (D.bool false)), none⟩])
 (.seq (.seq (.reg [⟨(some 6), .mv (.t 0), none⟩,
  ⟨(some 7), .len (.t 6), none⟩,
  ⟨(some 8), .mv (.t 1), none⟩,
  ⟨(some 9), .len (.t 8), none⟩,
  ⟨(some 10), .bin .neq (.t 7) (.t 9), none⟩])
 (.cond (.t 10)
 (.seq (.reg [⟨(some 4), .mv (.k (D.bool false)), none⟩])
 .ret)
 .skip))
 (.seq (.seq (.reg [⟨(some 11), .mv (.t 0), none⟩,
  ⟨(some 12), .len (.t 11), none⟩,
  ⟨(some 13), .mv (.k (D.int .i64 (0))), none⟩])
 (.block 0 (.loop [(0, ⟨false, 0, false⟩), (1, ⟨false, 0, false⟩), (4, ⟨false, 0, false⟩), (12, ⟨false, 0, false⟩), (13, ⟨false, 0, false⟩)]
 (.seq (.reg [⟨(some 14), .bin .lss (.t 13) (.t 12), none⟩])
 (.seq (.cond (.t 14)
 .skip
 (.exit 0))
 (.seq (.block 1 (.seq (.reg [⟨(some 15), .mv (.t 13), none⟩,
  ⟨(some 5), .mv (.t 15), none⟩])
 (.seq (.dreg [([], false, ⟨(some 16), .mv (.t 0), none⟩),
  ([0], false, ⟨(some 17), .mv (.t 5), none⟩),
  ([], false, ⟨(some 18), .ixs 1 (.t 16) (.t 17), none⟩),
  ([], false, ⟨(some 19), .load false 1 (.t 18), none⟩),
  ([0, 1, 2, 3], false, ⟨(some 20), .mv (.t 1), none⟩),
  ([0, 1, 2, 3, 4], false, ⟨(some 21), .mv (.t 5), none⟩),
  ([0, 1, 2, 3], false, ⟨(some 22), .ixs 1 (.t 20) (.t 21), none⟩),
  ([0, 1, 2, 3], false, ⟨(some 23), .load false 1 (.t 22), none⟩),
  ([], true, ⟨(some 24), .bin .neq (.t 19) (.t 23), none⟩)])
 (.cond (.t 24)
 (.seq (.reg [⟨(some 4), .mv (.k (D.bool false)), none⟩])
 .ret)
 .skip))))
 (.reg [⟨(some 25), .bin .add (.t 13) (.k (D.int .i64 (1))), none⟩,
  ⟨(some 13), .mv (.t 25), none⟩])))))))
 (.seq (.reg [⟨(some 4), .mv (.k (D.bool true)), none⟩])
 .ret))))⟩
def a450 : Ann := ⟨[], [⟨true, 1, false⟩], []⟩
def n450 : NFun := ⟨1, 8, [], [(.tmp 2, ⟨true, 1, false⟩)],
 (.reg [⟨(some 2), .mv (.k .sn), none⟩]), ⟨(some 3), .mv (.t 0), none⟩, 4, (.t 3), (.cond (.t 4)
 (.seq (.reg [⟨(some 2), .mv (.k .sn), none⟩])
 .ret)
 .skip), (.seq (.reg [⟨(some 5), .bsl true 1 0 [(D.int .i64 (0))] [], none⟩,
  ⟨(some 6), .mv (.t 0), none⟩,
  ⟨(some 7), .append 1 8 (.t 5) (.t 6), none⟩,
  ⟨(some 2), .mv (.t 7), none⟩])
 .ret)⟩
def a382 : Ann := ⟨[], [⟨false, 0, false⟩], []⟩
def s382 : SFun := ⟨2, 16, [], [(.cell 4 true 7, ⟨false, 0, false⟩)],
 (.seq (.reg [⟨(some 4), .alloc [(D.int .i64 (0)), (D.int .i32 (0)), (D.int .u8 (0)), (D.int .u8 (0)), (D.int .u8 (0)), .sn, (D.str [])], none⟩])
 (.seq (.reg [⟨(some 6), .mv (.t 0), none⟩,
  ⟨(some 7), .build [(D.int .i64 (0)), (D.int .i32 (0)), (D.int .u8 (0)), (D.int .u8 (0)), (D.int .u8 (0)), .sn, (D.str [])] [(0, 1, (.k (D.int .i64 (4)))), (4, 1, (.t 6))], none⟩,
  ⟨(some 5), .alloc [(D.int .i64 (0)), (D.int .i32 (0)), (D.int .u8 (0)), (D.int .u8 (0)), (D.int .u8 (0)), .sn, (D.str [])], none⟩,
  ⟨none, .store 7 (.t 5) (.t 7), none⟩])
 (.seq (.seq (.reg [⟨(some 8), .mv (.t 1), none⟩,
  ⟨(some 9), .bsl false 1 1 [(D.int .i64 (0))] [(0, (.k (D.int .i64 (-1))))], none⟩,
  ⟨(some 10), .call false 457 [(.t 8), (.t 9)], none⟩,
  ⟨(some 11), .una .not (.t 10), none⟩])
 (.cond (.t 11)
 (.reg [⟨(some 12), .mv (.t 1), none⟩,
  ⟨(some 13), .call false 450 [(.t 12)], none⟩,
  ⟨(some 14), .fad 5 (.t 5), none⟩,
  ⟨none, .store 1 (.t 14) (.t 13), none⟩])
 .skip))
 (.seq (.reg [⟨(some 15), .load true 7 (.t 5), none⟩,
  ⟨none, .store 7 (.t 4) (.t 15), none⟩])
 .ret))))⟩
def a387 : Ann := ⟨[], [⟨false, 0, false⟩], []⟩
def s387 : SFun := ⟨1, 67, [], [(.tmp 2, ⟨false, 0, false⟩)],
 (.seq (.reg [⟨(some 1), .box 7 (.t 0), none⟩,
  ⟨(some 2), .mv (.k (D.bool false)), none⟩])
 (.seq (.reg [⟨(some 4), .fad 0 (.t 1), none⟩,
  ⟨(some 5), .load false 1 (.t 4), none⟩,
  ⟨(some 6), .bin .eql (.t 5) (.k (D.int .i64 (3))), none⟩,
  ⟨(some 7), .mv (.t 6), none⟩,
  ⟨(some 8), .fad 0 (.t 1), (some (7, false))⟩,
  ⟨(some 9), .load false 1 (.t 8), (some (7, false))⟩,
  ⟨(some 10), .bin .eql (.t 9) (.k (D.int .i64 (4))), (some (7, false))⟩,
  ⟨(some 11), .pick (.t 7) (.k (D.bool true)) (.t 10), none⟩,
  ⟨(some 3), .mv (.t 11), none⟩])
 (.seq (.reg [⟨(some 12), .fad 0 (.t 1), none⟩,
  ⟨(some 13), .load false 1 (.t 12), none⟩,
  ⟨(some 14), .bin .eql (.t 13) (.k (D.int .i64 (1))), none⟩,
  ⟨(some 15), .mv (.t 14), none⟩,
  ⟨(some 16), .fad 1 (.t 1), (some (15, false))⟩,
  ⟨(some 17), .load false 1 (.t 16), (some (15, false))⟩,
  ⟨(some 18), .bin .eql (.t 17) (.k (D.int .i32 (0))), (some (15, false))⟩,
  ⟨(some 19), .pick (.t 15) (.k (D.bool true)) (.t 18), none⟩,
  ⟨(some 20), .mv (.t 19), none⟩,
  ⟨(some 21), .fad 0 (.t 1), (some (20, true))⟩,
  ⟨(some 22), .load false 1 (.t 21), (some (20, true))⟩,
  ⟨(some 23), .bin .eql (.t 22) (.k (D.int .i64 (4))), (some (20, true))⟩,
  ⟨(some 24), .mv (.t 23), (some (20, true))⟩,
  ⟨(some 25), .fad 2 (.t 1), (some (24, false))⟩,
  ⟨(some 26), .load false 1 (.t 25), (some (24, false))⟩,
  ⟨(some 27), .bin .eql (.t 26) (.k (D.int .u8 (0))), (some (24, false))⟩,
  ⟨(some 28), .mv (.t 27), (some (24, false))⟩,
  ⟨(some 29), .fad 5 (.t 1), (some (28, true))⟩,
  ⟨(some 30), .load false 1 (.t 29), (some (28, true))⟩,
  ⟨(some 31), .len (.t 30), (some (28, true))⟩,
  ⟨(some 32), .bin .eql (.t 31) (.k (D.int .i64 (0))), (some (28, true))⟩,
  ⟨(some 33), .pick (.t 28) (.t 32) (.k (D.bool false)), (some (24, false))⟩,
  ⟨(some 34), .pick (.t 24) (.k (D.bool true)) (.t 33), (some (20, true))⟩,
  ⟨(some 35), .pick (.t 20) (.t 34) (.k (D.bool false)), none⟩,
  ⟨(some 36), .mv (.t 35), none⟩,
  ⟨(some 37), .mv (.t 3), (some (36, true))⟩,
  ⟨(some 38), .mv (.t 37), (some (36, true))⟩,
  ⟨(some 39), .fad 3 (.t 1), (some (38, false))⟩,
  ⟨(some 40), .load false 1 (.t 39), (some (38, false))⟩,
  ⟨(some 41), .bin .eql (.t 40) (.k (D.int .u8 (0))), (some (38, false))⟩,
  ⟨(some 42), .pick (.t 38) (.k (D.bool true)) (.t 41), (some (36, true))⟩,
  ⟨(some 43), .pick (.t 36) (.t 42) (.k (D.bool false)), none⟩,
  ⟨(some 44), .mv (.t 43), none⟩,
  ⟨(some 45), .mv (.t 3), (some (44, true))⟩,
  ⟨(some 46), .mv (.t 45), (some (44, true))⟩,
  ⟨(some 47), .fad 0 (.t 1), (some (46, false))⟩,
  ⟨(some 48), .load false 1 (.t 47), (some (46, false))⟩,
  ⟨(some 49), .bin .eql (.t 48) (.k (D.int .i64 (2))), (some (46, false))⟩,
  ⟨(some 50), .pick (.t 46) (.k (D.bool true)) (.t 49), (some (44, true))⟩,
  ⟨(some 51), .mv (.t 50), (some (44, true))⟩,
  ⟨(some 52), .fad 4 (.t 1), (some (51, false))⟩,
  ⟨(some 53), .load false 1 (.t 52), (some (51, false))⟩,
  ⟨(some 54), .bin .eql (.t 53) (.k (D.int .u8 (0))), (some (51, false))⟩,
  ⟨(some 55), .pick (.t 51) (.k (D.bool true)) (.t 54), (some (44, true))⟩,
  ⟨(some 56), .pick (.t 44) (.t 55) (.k (D.bool false)), none⟩,
  ⟨(some 57), .mv (.t 56), none⟩,
  ⟨(some 58), .fad 0 (.t 1), (some (57, true))⟩,
  ⟨(some 59), .load false 1 (.t 58), (some (57, true))⟩,
  ⟨(some 60), .bin .eql (.t 59) (.k (D.int .i64 (5))), (some (57, true))⟩,
  ⟨(some 61), .mv (.t 60), (some (57, true))⟩,
  ⟨(some 62), .fad 6 (.t 1), (some (61, false))⟩,
  ⟨(some 63), .load false 1 (.t 62), (some (61, false))⟩,
  ⟨(some 64), .bin .eql (.t 63) (.k (D.str [])), (some (61, false))⟩,
  ⟨(some 65), .pick (.t 61) (.k (D.bool true)) (.t 64), (some (57, true))⟩,
  ⟨(some 66), .pick (.t 57) (.t 65) (.k (D.bool false)), none⟩,
  ⟨(some 2), .mv (.t 66), none⟩])
 .ret)))⟩
def a398 : Ann := ⟨[], [⟨false, 0, false⟩], []⟩
def s398 : SFun := ⟨3, 15, [], [(.tmp 6, ⟨false, 0, false⟩)],
 (.seq (.reg [⟨(some 6), .mv (.k (D.bool false)), none⟩])
 (.seq (.reg [⟨(some 7), .mv (.t 0), none⟩,
  ⟨(some 8), .mv (.t 1), none⟩,
  ⟨(some 9), .bin .geq (.t 7) (.t 8), none⟩,
  ⟨(some 10), .mv (.t 9), none⟩,
  ⟨(some 11), .mv (.t 0), (some (10, true))⟩,
  ⟨(some 12), .mv (.t 2), (some (10, true))⟩,
  ⟨(some 13), .bin .leq (.t 11) (.t 12), (some (10, true))⟩,
  ⟨(some 14), .pick (.t 10) (.t 13) (.k (D.bool false)), none⟩,
  ⟨(some 6), .mv (.t 14), none⟩])
 .ret))⟩
def a390 : Ann := ⟨[], [⟨false, 0, false⟩], []⟩
def s390 : SFun := ⟨1, 9, [], [(.tmp 2, ⟨false, 0, false⟩)],
 (.seq (.reg [⟨(some 2), .mv (.k (D.bool false)), none⟩])
 (.seq (.reg [⟨(some 3), .mv (.t 0), none⟩,
  ⟨(some 4), .bin .eql (.t 3) (.k (D.int .u8 (0))), none⟩,
  ⟨(some 5), .mv (.t 4), none⟩,
  ⟨(some 6), .mv (.t 0), (some (5, false))⟩,
  ⟨(some 7), .call false 398 [(.t 6), (.k (D.int .u8 (32))), (.k (D.int .u8 (47)))], (some (5, false))⟩,
  ⟨(some 8), .pick (.t 5) (.k (D.bool true)) (.t 7), none⟩,
  ⟨(some 2), .mv (.t 8), none⟩])
 .ret))⟩
def a394 : Ann := ⟨[], [⟨false, 0, false⟩], []⟩
def s394 : SFun := ⟨1, 21, [], [(.tmp 2, ⟨false, 0, false⟩)],
 (.seq (.reg [⟨(some 2), .mv (.k (D.bool false)), none⟩])
 (.seq (.reg [⟨(some 3), .mv (.t 0), none⟩,
  ⟨(some 4), .bin .geq (.t 3) (.k (D.int .i32 (32))), none⟩,
  ⟨(some 5), .mv (.t 4), none⟩,
  ⟨(some 6), .mv (.t 0), (some (5, true))⟩,
  ⟨(some 7), .bin .leq (.t 6) (.k (D.int .i32 (1114111))), (some (5, true))⟩,
  ⟨(some 8), .pick (.t 5) (.t 7) (.k (D.bool false)), none⟩,
  ⟨(some 9), .mv (.t 8), none⟩,
  ⟨(some 10), .mv (.t 0), (some (9, true))⟩,
  ⟨(some 11), .bin .neq (.t 10) (.k (D.int .i32 (127))), (some (9, true))⟩,
  ⟨(some 12), .pick (.t 9) (.t 11) (.k (D.bool false)), none⟩,
  ⟨(some 13), .mv (.t 12), none⟩,
  ⟨(some 14), .mv (.t 0), (some (13, true))⟩,
  ⟨(some 15), .bin .lss (.t 14) (.k (D.int .i32 (55296))), (some (13, true))⟩,
  ⟨(some 16), .mv (.t 15), (some (13, true))⟩,
  ⟨(some 17), .mv (.t 0), (some (16, false))⟩,
  ⟨(some 18), .bin .gtr (.t 17) (.k (D.int .i32 (57343))), (some (16, false))⟩,
  ⟨(some 19), .pick (.t 16) (.k (D.bool true)) (.t 18), (some (13, true))⟩,
  ⟨(some 20), .pick (.t 13) (.t 19) (.k (D.bool false)), none⟩,
  ⟨(some 2), .mv (.t 20), none⟩])
 .ret))⟩
def a104 : Ann := ⟨[], [⟨false, 0, false⟩], []⟩
def s104 : SFun := ⟨2, 8, [], [(.tmp 4, ⟨false, 0, false⟩)],
 (.seq (.reg [⟨(some 4), .mv (.k (D.int .i64 (0))), none⟩])
 (.seq (.reg [⟨(some 5), .mv (.t 0), none⟩,
  ⟨(some 6), .mv (.t 1), none⟩,
  ⟨(some 7), .call false 91 [(.t 5), (.t 6)], none⟩,
  ⟨(some 4), .mv (.t 7), none⟩])
 .ret))⟩
def a469 : Ann := ⟨[], [⟨false, 0, false⟩], []⟩
def s469 : SFun := ⟨2, 8, [], [(.tmp 4, ⟨false, 0, false⟩)],
 (.seq (.reg [⟨(some 4), .mv (.k (D.int .i64 (0))), none⟩])
 (.seq (.reg [⟨(some 5), .mv (.t 0), none⟩,
  ⟨(some 6), .mv (.t 1), none⟩,
  ⟨(some 7), .call false 104 [(.t 5), (.t 6)], none⟩,
  ⟨(some 4), .mv (.t 7), none⟩])
 .ret))⟩
def a391 : Ann := ⟨[], [⟨false, 0, false⟩], []⟩
def s391 : SFun := ⟨2, 9, [], [(.tmp 4, ⟨false, 0, false⟩)],
 (.seq (.reg [⟨(some 4), .mv (.k (D.bool false)), none⟩])
 (.seq (.reg [⟨(some 5), .mv (.t 0), none⟩,
  ⟨(some 6), .mv (.t 1), none⟩,
  ⟨(some 7), .call false 469 [(.t 5), (.t 6)], none⟩,
  ⟨(some 8), .bin .geq (.t 7) (.k (D.int .i64 (0))), none⟩,
  ⟨(some 4), .mv (.t 8), none⟩])
 .ret))⟩
def a461 : Ann := ⟨[(2, [(0, ⟨false, 0, false⟩), (1, ⟨false, 0, false⟩), (4, ⟨false, 0, false⟩), (7, ⟨false, 0, false⟩), (8, ⟨false, 0, false⟩)])], [⟨false, 0, false⟩], []⟩
def s461 : SFun := ⟨2, 19, [], [(.tmp 4, ⟨false, 0, false⟩)],
 (.seq (.reg [⟨(some 4), .mv (.k (D.int .i64 (0))), none⟩])
 (.seq (.seq (.reg [⟨(some 6), .mv (.t 0), none⟩,
  ⟨(some 7), .len (.t 6), none⟩,
  ⟨(some 8), .mv (.k (D.int .i64 (0))), none⟩])
 (.block 0 (.loop [(0, ⟨false, 0, false⟩), (1, ⟨false, 0, false⟩), (4, ⟨false, 0, false⟩), (7, ⟨false, 0, false⟩), (8, ⟨false, 0, false⟩)]
 (.seq (.reg [⟨(some 9), .bin .lss (.t 8) (.t 7), none⟩])
 (.seq (.cond (.t 9)
 .skip
 (.exit 0))
 (.seq (.block 1 (.seq (.reg [⟨(some 10), .mv (.t 8), none⟩,
  ⟨(some 5), .mv (.t 10), none⟩])
 (.seq (.reg [⟨(some 11), .mv (.t 1), none⟩,
  ⟨(some 12), .mv (.t 0), none⟩,
  ⟨(some 13), .mv (.t 5), none⟩,
  ⟨(some 14), .ixs 1 (.t 12) (.t 13), none⟩,
  ⟨(some 15), .load false 1 (.t 14), none⟩,
  ⟨(some 16), .callv false (.t 11) [(.t 15)], none⟩])
 (.cond (.t 16)
 (.seq (.reg [⟨(some 17), .mv (.t 5), none⟩,
  ⟨(some 4), .mv (.t 17), none⟩])
 .ret)
 .skip))))
 (.reg [⟨(some 18), .bin .add (.t 8) (.k (D.int .i64 (1))), none⟩,
  ⟨(some 8), .mv (.t 18), none⟩])))))))
 (.seq (.reg [⟨(some 4), .mv (.k (D.int .i64 (-1))), none⟩])
 .ret)))⟩
def a453 : Ann := ⟨[], [⟨false, 0, false⟩], []⟩
def s453 : SFun := ⟨2, 9, [], [(.tmp 4, ⟨false, 0, false⟩)],
 (.seq (.reg [⟨(some 4), .mv (.k (D.bool false)), none⟩])
 (.seq (.reg [⟨(some 5), .mv (.t 0), none⟩,
  ⟨(some 6), .mv (.t 1), none⟩,
  ⟨(some 7), .call false 461 [(.t 5), (.t 6)], none⟩,
  ⟨(some 8), .bin .geq (.t 7) (.k (D.int .i64 (0))), none⟩,
  ⟨(some 4), .mv (.t 8), none⟩])
 .ret))⟩
def a393 : Ann := ⟨[], [⟨false, 0, false⟩], []⟩
def s393 : SFun := ⟨1, 9, [], [(.tmp 2, ⟨false, 0, false⟩)],
 (.seq (.reg [⟨(some 2), .mv (.k (D.bool false)), none⟩])
 (.seq (.reg [⟨(some 3), .mv (.t 0), none⟩,
  ⟨(some 4), .bin .lss (.t 3) (.k (D.int .i64 (-1))), none⟩,
  ⟨(some 5), .mv (.t 4), none⟩,
  ⟨(some 6), .mv (.t 0), (some (5, false))⟩,
  ⟨(some 7), .bin .gtr (.t 6) (.k (D.int .i64 (65535))), (some (5, false))⟩,
  ⟨(some 8), .pick (.t 5) (.k (D.bool true)) (.t 7), none⟩,
  ⟨(some 2), .mv (.t 8), none⟩])
 .ret))⟩
def a392 : Ann := ⟨[], [⟨false, 0, false⟩], []⟩
def s392 : SFun := ⟨1, 19, [], [(.tmp 2, ⟨false, 0, false⟩)],
 (.seq (.reg [⟨(some 2), .mv (.k (D.bool false)), none⟩])
 (.seq (.reg [⟨(some 3), .mv (.k (.fn 393 [])), none⟩])
 (.seq (.reg [⟨(some 4), .mv (.t 0), none⟩,
  ⟨(some 5), .len (.t 4), none⟩,
  ⟨(some 6), .bin .leq (.t 5) (.k (D.int .i64 (16))), none⟩,
  ⟨(some 7), .mv (.t 6), none⟩,
  ⟨(some 8), .mv (.t 0), (some (7, true))⟩,
  ⟨(some 9), .mv (.t 3), (some (7, true))⟩,
  ⟨(some 10), .call false 453 [(.t 8), (.t 9)], (some (7, true))⟩,
  ⟨(some 11), .una .not (.t 10), (some (7, true))⟩,
  ⟨(some 12), .pick (.t 7) (.t 11) (.k (D.bool false)), none⟩,
  ⟨(some 13), .mv (.t 12), none⟩,
  ⟨(some 14), .mv (.t 0), (some (13, true))⟩,
  ⟨(some 15), .bsl false 1 1 [(D.int .i64 (0))] [(0, (.k (D.int .i64 (-1))))], (some (13, true))⟩,
  ⟨(some 16), .call false 457 [(.t 14), (.t 15)], (some (13, true))⟩,
  ⟨(some 17), .una .not (.t 16), (some (13, true))⟩,
  ⟨(some 18), .pick (.t 13) (.t 17) (.k (D.bool false)), none⟩,
  ⟨(some 2), .mv (.t 18), none⟩])
 .ret)))⟩
def a395 : Ann := ⟨[(2, [(0, ⟨false, 0, false⟩), (2, ⟨false, 0, false⟩), (5, ⟨false, 0, false⟩), (6, ⟨false, 0, false⟩)])], [⟨false, 0, false⟩], []⟩
def s395 : SFun := ⟨1, 17, [], [(.tmp 2, ⟨false, 0, false⟩)],
 (.seq (.reg [⟨(some 2), .mv (.k (D.bool false)), none⟩])
 (.seq (.seq (.reg [⟨(some 4), .mv (.t 0), none⟩,
  ⟨(some 5), .lens (.t 4), none⟩,
  ⟨(some 6), .mv (.k (D.int .i64 (0))), none⟩])
 (.block 0 (.loop [(0, ⟨false, 0, false⟩), (2, ⟨false, 0, false⟩), (5, ⟨false, 0, false⟩), (6, ⟨false, 0, false⟩)]
 (.seq (.reg [⟨(some 7), .bin .lss (.t 6) (.t 5), none⟩])
 (.seq (.cond (.t 7)
 .skip
 (.exit 0))
 (.seq (.block 1 (.seq (.reg [⟨(some 8), .mv (.t 6), none⟩,
  ⟨(some 3), .mv (.t 8), none⟩])
 (.seq (.reg [⟨(some 9), .mv (.t 0), none⟩,
  ⟨(some 10), .mv (.t 3), none⟩,
  ⟨(some 11), .ixt (.t 9) (.t 10), none⟩,
  ⟨(some 12), .bin .lss (.t 11) (.k (D.int .u8 (32))), none⟩])
 (.cond (.t 12)
 (.seq (.reg [⟨(some 2), .mv (.k (D.bool false)), none⟩])
 .ret)
 .skip))))
 (.reg [⟨(some 13), .bin .add (.t 6) (.k (D.int .i64 (1))), none⟩,
  ⟨(some 6), .mv (.t 13), none⟩])))))))
 (.seq (.reg [⟨(some 14), .mv (.t 0), none⟩,
  ⟨(some 15), .lens (.t 14), none⟩,
  ⟨(some 16), .bin .leq (.t 15) (.k (D.int .i64 (4096))), none⟩,
  ⟨(some 2), .mv (.t 16), none⟩])
 .ret)))⟩
def a384 : Ann := ⟨[], [⟨false, 0, false⟩], []⟩
def s384 : SFun := ⟨1, 71, [], [(.tmp 2, ⟨false, 0, false⟩)],
 (.seq (.reg [⟨(some 1), .box 7 (.t 0), none⟩,
  ⟨(some 2), .mv (.k (D.bool false)), none⟩])
 (.seq (.seq (.reg [⟨(some 3), .load true 7 (.t 1), none⟩,
  ⟨(some 4), .call false 387 [(.t 3)], none⟩,
  ⟨(some 5), .una .not (.t 4), none⟩,
  ⟨(some 6), .mv (.t 5), none⟩,
  ⟨(some 7), .fad 3 (.t 1), (some (6, false))⟩,
  ⟨(some 8), .load false 1 (.t 7), (some (6, false))⟩,
  ⟨(some 9), .call false 390 [(.t 8)], (some (6, false))⟩,
  ⟨(some 10), .una .not (.t 9), (some (6, false))⟩,
  ⟨(some 11), .pick (.t 6) (.k (D.bool true)) (.t 10), none⟩])
 (.cond (.t 11)
 (.seq (.reg [⟨(some 2), .mv (.k (D.bool false)), none⟩])
 .ret)
 .skip))
 (.seq (.seq (.reg [⟨(some 12), .fad 0 (.t 1), none⟩,
  ⟨(some 13), .load false 1 (.t 12), none⟩])
 (.block 0 (.seq (.reg [⟨(some 15), .bin .eql (.t 13) (.k (D.int .i64 (1))), none⟩,
  ⟨(some 14), .mv (.t 15), none⟩])
 (.cond (.t 14)
 (.seq (.reg [⟨(some 16), .fad 1 (.t 1), none⟩,
  ⟨(some 17), .load false 1 (.t 16), none⟩,
  ⟨(some 18), .call false 394 [(.t 17)], none⟩,
  ⟨(some 2), .mv (.t 18), none⟩])
 .ret)
 (.seq (.reg [⟨(some 20), .bin .eql (.t 13) (.k (D.int .i64 (2))), none⟩,
  ⟨(some 19), .mv (.t 20), none⟩])
 (.cond (.t 19)
 (.seq (.reg [⟨(some 21), .fad 4 (.t 1), none⟩,
  ⟨(some 22), .load false 1 (.t 21), none⟩,
  ⟨(some 23), .bin .lss (.t 22) (.k (D.int .u8 (32))), none⟩,
  ⟨(some 24), .mv (.t 23), none⟩,
  ⟨(some 25), .fad 4 (.t 1), (some (24, true))⟩,
  ⟨(some 26), .load false 1 (.t 25), (some (24, true))⟩,
  ⟨(some 27), .call false 391 [(.k (D.str [24, 26, 27])), (.t 26)], (some (24, true))⟩,
  ⟨(some 28), .una .not (.t 27), (some (24, true))⟩,
  ⟨(some 29), .pick (.t 24) (.t 28) (.k (D.bool false)), none⟩,
  ⟨(some 2), .mv (.t 29), none⟩])
 .ret)
 (.seq (.reg [⟨(some 31), .bin .eql (.t 13) (.k (D.int .i64 (3))), none⟩,
  ⟨(some 30), .mv (.t 31), none⟩])
 (.cond (.t 30)
 (.seq (.reg [⟨(some 32), .fad 4 (.t 1), none⟩,
  ⟨(some 33), .load false 1 (.t 32), none⟩,
  ⟨(some 34), .call false 398 [(.t 33), (.k (D.int .u8 (48))), (.k (D.int .u8 (126)))], none⟩,
  ⟨(some 35), .mv (.t 34), none⟩,
  ⟨(some 36), .fad 3 (.t 1), (some (35, true))⟩,
  ⟨(some 37), .load false 1 (.t 36), (some (35, true))⟩,
  ⟨(some 38), .bin .neq (.t 37) (.k (D.int .u8 (0))), (some (35, true))⟩,
  ⟨(some 39), .mv (.t 38), (some (35, true))⟩,
  ⟨(some 40), .fad 4 (.t 1), (some (39, false))⟩,
  ⟨(some 41), .load false 1 (.t 40), (some (39, false))⟩,
  ⟨(some 42), .call false 391 [(.k (D.str [91, 93, 80, 88, 94, 95])), (.t 41)], (some (39, false))⟩,
  ⟨(some 43), .una .not (.t 42), (some (39, false))⟩,
  ⟨(some 44), .pick (.t 39) (.k (D.bool true)) (.t 43), (some (35, true))⟩,
  ⟨(some 45), .pick (.t 35) (.t 44) (.k (D.bool false)), none⟩,
  ⟨(some 2), .mv (.t 45), none⟩])
 .ret)
 (.seq (.reg [⟨(some 47), .bin .eql (.t 13) (.k (D.int .i64 (4))), none⟩,
  ⟨(some 46), .mv (.t 47), none⟩])
 (.cond (.t 46)
 (.seq (.reg [⟨(some 48), .fad 4 (.t 1), none⟩,
  ⟨(some 49), .load false 1 (.t 48), none⟩,
  ⟨(some 50), .call false 398 [(.t 49), (.k (D.int .u8 (64))), (.k (D.int .u8 (126)))], none⟩,
  ⟨(some 51), .mv (.t 50), none⟩,
  ⟨(some 52), .fad 2 (.t 1), (some (51, true))⟩,
  ⟨(some 53), .load false 1 (.t 52), (some (51, true))⟩,
  ⟨(some 54), .bin .eql (.t 53) (.k (D.int .u8 (0))), (some (51, true))⟩,
  ⟨(some 55), .mv (.t 54), (some (51, true))⟩,
  ⟨(some 56), .fad 2 (.t 1), (some (55, false))⟩,
  ⟨(some 57), .load false 1 (.t 56), (some (55, false))⟩,
  ⟨(some 58), .call false 391 [(.k (D.str [60, 61, 62, 63])), (.t 57)], (some (55, false))⟩,
  ⟨(some 59), .pick (.t 55) (.k (D.bool true)) (.t 58), (some (51, true))⟩,
  ⟨(some 60), .pick (.t 51) (.t 59) (.k (D.bool false)), none⟩,
  ⟨(some 61), .mv (.t 60), none⟩,
  ⟨(some 62), .fad 5 (.t 1), (some (61, true))⟩,
  ⟨(some 63), .load false 1 (.t 62), (some (61, true))⟩,
  ⟨(some 64), .call false 392 [(.t 63)], (some (61, true))⟩,
  ⟨(some 65), .pick (.t 61) (.t 64) (.k (D.bool false)), none⟩,
  ⟨(some 2), .mv (.t 65), none⟩])
 .ret)
 (.seq (.reg [⟨(some 67), .bin .eql (.t 13) (.k (D.int .i64 (5))), none⟩,
  ⟨(some 66), .mv (.t 67), none⟩])
 (.cond (.t 66)
 (.seq (.reg [⟨(some 68), .fad 6 (.t 1), none⟩,
  ⟨(some 69), .load false 1 (.t 68), none⟩,
  ⟨(some 70), .call false 395 [(.t 69)], none⟩,
  ⟨(some 2), .mv (.t 70), none⟩])
 .ret)
 .skip))))))))))))
 (.seq (.reg [⟨(some 2), .mv (.k (D.bool false)), none⟩])
 .ret))))⟩
def a434 : Ann := ⟨[], [⟨false, 0, false⟩], []⟩
def s434 : SFun := ⟨2, 10, [], [(.tmp 3, ⟨false, 0, false⟩)],
 (.seq (.reg [⟨(some 3), .mv (.k (D.int .u8 (0))), none⟩])
 (.seq (.reg [⟨(some 4), .load false 1 (.t 1), none⟩,
  ⟨(some 5), .mv (.t 0), none⟩,
  ⟨(some 6), .bin .shr (.t 4) (.t 5), none⟩,
  ⟨(some 7), .bin .and (.t 6) (.k (D.int .i64 (63))), none⟩,
  ⟨(some 8), .bin .or (.k (D.int .i64 (128))) (.t 7), none⟩,
  ⟨(some 9), .cvi .u8 (.t 8), none⟩,
  ⟨(some 3), .mv (.t 9), none⟩])
 .ret))⟩
def a433 : Ann := ⟨[], [⟨true, 1, false⟩], []⟩
def s433 : SFun := ⟨1, 63, [], [(.tmp 2, ⟨true, 1, false⟩)],
 (.seq (.reg [⟨(some 2), .mv (.k .sn), none⟩])
 (.seq (.reg [⟨(some 5), .mv (.t 0), none⟩,
  ⟨(some 6), .cvi .i64 (.t 5), none⟩,
  ⟨(some 3), .alloc [(D.int .i64 (0))], none⟩,
  ⟨none, .store 1 (.t 3) (.t 6), none⟩])
 (.seq (.reg [⟨(some 7), .mkf 434 [(.t 3)], none⟩,
  ⟨(some 4), .mv (.t 7), none⟩])
 (.seq (.block 0 (.seq (.reg [⟨(some 9), .load false 1 (.t 3), none⟩,
  ⟨(some 10), .bin .lss (.t 9) (.k (D.int .i64 (0))), none⟩,
  ⟨(some 11), .mv (.t 10), none⟩,
  ⟨(some 12), .load false 1 (.t 3), (some (11, false))⟩,
  ⟨(some 13), .bin .gtr (.t 12) (.k (D.int .i64 (1114111))), (some (11, false))⟩,
  ⟨(some 14), .pick (.t 11) (.k (D.bool true)) (.t 13), none⟩,
  ⟨(some 15), .mv (.t 14), none⟩,
  ⟨(some 16), .load false 1 (.t 3), (some (15, false))⟩,
  ⟨(some 17), .bin .geq (.t 16) (.k (D.int .i64 (55296))), (some (15, false))⟩,
  ⟨(some 18), .mv (.t 17), (some (15, false))⟩,
  ⟨(some 19), .load false 1 (.t 3), (some (18, true))⟩,
  ⟨(some 20), .bin .leq (.t 19) (.k (D.int .i64 (57343))), (some (18, true))⟩,
  ⟨(some 21), .pick (.t 18) (.t 20) (.k (D.bool false)), (some (15, false))⟩,
  ⟨(some 22), .pick (.t 15) (.k (D.bool true)) (.t 21), none⟩,
  ⟨(some 8), .mv (.t 22), none⟩])
 (.cond (.t 8)
 (.seq (.reg [⟨(some 23), .call false 433 [(.k (D.int .i32 (65533)))], none⟩,
  ⟨(some 2), .mv (.t 23), none⟩])
 .ret)
 (.seq (.reg [⟨(some 25), .load false 1 (.t 3), none⟩,
  ⟨(some 26), .bin .lss (.t 25) (.k (D.int .i64 (128))), none⟩,
  ⟨(some 24), .mv (.t 26), none⟩])
 (.cond (.t 24)
 (.seq (.reg [⟨(some 27), .load false 1 (.t 3), none⟩,
  ⟨(some 28), .cvi .u8 (.t 27), none⟩,
  ⟨(some 29), .bsl true 1 1 [(D.int .u8 (0))] [(0, (.t 28))], none⟩,
  ⟨(some 2), .mv (.t 29), none⟩])
 .ret)
 (.seq (.reg [⟨(some 31), .load false 1 (.t 3), none⟩,
  ⟨(some 32), .bin .lss (.t 31) (.k (D.int .i64 (2048))), none⟩,
  ⟨(some 30), .mv (.t 32), none⟩])
 (.cond (.t 30)
 (.seq (.dreg [([], false, ⟨(some 33), .load false 1 (.t 3), none⟩),
  ([], false, ⟨(some 34), .bin .shr (.t 33) (.k (D.int .u64 (6))), none⟩),
  ([], false, ⟨(some 35), .bin .or (.k (D.int .i64 (192))) (.t 34), none⟩),
  ([], false, ⟨(some 36), .cvi .u8 (.t 35), none⟩),
  ([0, 1, 2, 3], false, ⟨(some 37), .mv (.t 4), none⟩),
  ([0, 1, 2, 3], false, ⟨(some 38), .callv true (.t 37) [(.k (D.int .i64 (0)))], none⟩),
  ([], true, ⟨(some 39), .bsl true 1 2 [(D.int .u8 (0))] [(0, (.t 36)), (1, (.t 38))], none⟩),
  ([], true, ⟨(some 2), .mv (.t 39), none⟩)])
 .ret)
 (.seq (.reg [⟨(some 41), .load false 1 (.t 3), none⟩,
  ⟨(some 42), .bin .lss (.t 41) (.k (D.int .i64 (65536))), none⟩,
  ⟨(some 40), .mv (.t 42), none⟩])
 (.cond (.t 40)
 (.seq (.dreg [([], false, ⟨(some 43), .load false 1 (.t 3), none⟩),
  ([], false, ⟨(some 44), .bin .shr (.t 43) (.k (D.int .u64 (12))), none⟩),
  ([], false, ⟨(some 45), .bin .or (.k (D.int .i64 (224))) (.t 44), none⟩),
  ([], false, ⟨(some 46), .cvi .u8 (.t 45), none⟩),
  ([0, 1, 2, 3], false, ⟨(some 47), .mv (.t 4), none⟩),
  ([0, 1, 2, 3], false, ⟨(some 48), .callv true (.t 47) [(.k (D.int .i64 (6)))], none⟩),
  ([0, 1, 2, 3, 4, 5], false, ⟨(some 49), .mv (.t 4), none⟩),
  ([0, 1, 2, 3], false, ⟨(some 50), .callv true (.t 49) [(.k (D.int .i64 (0)))], none⟩),
  ([], true, ⟨(some 51), .bsl true 1 3 [(D.int .u8 (0))] [(0, (.t 46)), (1, (.t 48)), (2, (.t 50))], none⟩),
  ([], true, ⟨(some 2), .mv (.t 51), none⟩)])
 .ret)
 .skip)))))))))
 (.seq (.dreg [([], false, ⟨(some 52), .load false 1 (.t 3), none⟩),
  ([], false, ⟨(some 53), .bin .shr (.t 52) (.k (D.int .u64 (18))), none⟩),
  ([], false, ⟨(some 54), .bin .or (.k (D.int .i64 (240))) (.t 53), none⟩),
  ([], false, ⟨(some 55), .cvi .u8 (.t 54), none⟩),
  ([0, 1, 2, 3], false, ⟨(some 56), .mv (.t 4), none⟩),
  ([0, 1, 2, 3], false, ⟨(some 57), .callv true (.t 56) [(.k (D.int .i64 (12)))], none⟩),
  ([0, 1, 2, 3, 4, 5], false, ⟨(some 58), .mv (.t 4), none⟩),
  ([0, 1, 2, 3], false, ⟨(some 59), .callv true (.t 58) [(.k (D.int .i64 (6)))], none⟩),
  ([0, 1, 2, 3, 4, 5, 6, 7], false, ⟨(some 60), .mv (.t 4), none⟩),
  ([0, 1, 2, 3], false, ⟨(some 61), .callv true (.t 60) [(.k (D.int .i64 (0)))], none⟩),
  ([], true, ⟨(some 62), .bsl true 1 4 [(D.int .u8 (0))] [(0, (.t 55)), (1, (.t 57)), (2, (.t 59)), (3, (.t 61))], none⟩),
  ([], true, ⟨(some 2), .mv (.t 62), none⟩)])
 .ret)))))⟩
def a431 : Ann := ⟨[(3, [(6, ⟨false, 0, false⟩), (7, ⟨false, 0, false⟩), (8, ⟨false, 0, false⟩), (3, ⟨true, 1, false⟩)])], [⟨true, 1, false⟩], []⟩
def s431 : SFun := ⟨1, 18, [], [(.tmp 2, ⟨true, 1, false⟩)],
 (.seq (.reg [⟨(some 2), .mv (.k .sn), none⟩])
 (.seq (.reg [⟨(some 3), .mv (.k .sn), none⟩])
 (.seq (.seq (.reg [⟨(some 6), .mv (.t 0), none⟩,
  ⟨(some 7), .len (.t 6), none⟩,
  ⟨(some 8), .mv (.k (D.int .i64 (0))), none⟩])
 (.block 0 (.loop [(6, ⟨false, 0, false⟩), (7, ⟨false, 0, false⟩), (8, ⟨false, 0, false⟩), (3, ⟨true, 1, false⟩)]
 (.seq (.reg [⟨(some 9), .bin .lss (.t 8) (.t 7), none⟩])
 (.seq (.cond (.t 9)
 .skip
 (.exit 0))
 (.seq (.block 1 (.seq (.reg [⟨(some 10), .ixs 1 (.t 6) (.t 8), none⟩,
  ⟨(some 11), .load false 1 (.t 10), none⟩,
  ⟨(some 5), .mv (.t 11), none⟩])
 (.reg [⟨(some 12), .mv (.t 3), none⟩,
  ⟨(some 13), .mv (.t 5), none⟩,
  ⟨(some 14), .call false 433 [(.t 13)], none⟩,
  ⟨(some 15), .append 1 1 (.t 12) (.t 14), none⟩,
  ⟨(some 3), .mv (.t 15), none⟩])))
 (.reg [⟨(some 16), .bin .add (.t 8) (.k (D.int .i64 (1))), none⟩,
  ⟨(some 8), .mv (.t 16), none⟩])))))))
 (.seq (.reg [⟨(some 17), .mv (.t 3), none⟩,
  ⟨(some 2), .mv (.t 17), none⟩])
 .ret))))⟩
def a460 : Ann := ⟨[(2, [(0, ⟨false, 0, false⟩), (1, ⟨false, 0, false⟩), (4, ⟨false, 0, false⟩), (7, ⟨false, 0, false⟩), (8, ⟨false, 0, false⟩)])], [⟨false, 0, false⟩], []⟩
def s460 : SFun := ⟨2, 19, [], [(.tmp 4, ⟨false, 0, false⟩)],
 (.seq (.reg [⟨(some 4), .mv (.k (D.int .i64 (0))), none⟩])
 (.seq (.seq (.reg [⟨(some 6), .mv (.t 0), none⟩,
  ⟨(some 7), .len (.t 6), none⟩,
  ⟨(some 8), .mv (.k (D.int .i64 (0))), none⟩])
 (.block 0 (.loop [(0, ⟨false, 0, false⟩), (1, ⟨false, 0, false⟩), (4, ⟨false, 0, false⟩), (7, ⟨false, 0, false⟩), (8, ⟨false, 0, false⟩)]
 (.seq (.reg [⟨(some 9), .bin .lss (.t 8) (.t 7), none⟩])
 (.seq (.cond (.t 9)
 .skip
 (.exit 0))
 (.seq (.block 1 (.seq (.reg [⟨(some 10), .mv (.t 8), none⟩,
  ⟨(some 5), .mv (.t 10), none⟩])
 (.seq (.reg [⟨(some 11), .mv (.t 1), none⟩,
  ⟨(some 12), .mv (.t 0), none⟩,
  ⟨(some 13), .mv (.t 5), none⟩,
  ⟨(some 14), .ixs 1 (.t 12) (.t 13), none⟩,
  ⟨(some 15), .load false 1 (.t 14), none⟩,
  ⟨(some 16), .callv false (.t 11) [(.t 15)], none⟩])
 (.cond (.t 16)
 (.seq (.reg [⟨(some 17), .mv (.t 5), none⟩,
  ⟨(some 4), .mv (.t 17), none⟩])
 .ret)
 .skip))))
 (.reg [⟨(some 18), .bin .add (.t 8) (.k (D.int .i64 (1))), none⟩,
  ⟨(some 8), .mv (.t 18), none⟩])))))))
 (.seq (.reg [⟨(some 4), .mv (.k (D.int .i64 (-1))), none⟩])
 .ret)))⟩
def a100456 : Ann := ⟨[(5, [(1, ⟨false, 0, false⟩), (5, ⟨false, 0, false⟩), (6, ⟨false, 0, false⟩), (0, ⟨true, 1, false⟩)])], [⟨true, 1, false⟩], []⟩
def s100456 : SFun := ⟨2, 42, [], [(.tmp 4, ⟨true, 1, false⟩)],
 (.seq (.reg [⟨(some 4), .mv (.k .sn), none⟩])
 (.seq (.reg [⟨(some 8), .mv (.t 0), none⟩,
  ⟨(some 9), .mv (.t 1), none⟩,
  ⟨(some 10), .call false 460 [(.t 8), (.t 9)], none⟩,
  ⟨(some 5), .mv (.t 10), none⟩])
 (.seq (.seq (.reg [⟨(some 11), .mv (.t 5), none⟩,
  ⟨(some 12), .bin .eql (.t 11) (.k (D.int .i64 (-1))), none⟩])
 (.cond (.t 12)
 (.seq (.reg [⟨(some 13), .mv (.t 0), none⟩,
  ⟨(some 4), .mv (.t 13), none⟩])
 .ret)
 .skip))
 (.seq (.seq (.reg [⟨(some 14), .mv (.t 5), none⟩,
  ⟨(some 15), .bin .add (.t 14) (.k (D.int .i64 (1))), none⟩,
  ⟨(some 6), .mv (.t 15), none⟩])
 (.block 0 (.loop [(1, ⟨false, 0, false⟩), (5, ⟨false, 0, false⟩), (6, ⟨false, 0, false⟩), (0, ⟨true, 1, false⟩)]
 (.seq (.seq (.reg [⟨(some 16), .mv (.t 6), none⟩,
  ⟨(some 17), .mv (.t 0), none⟩,
  ⟨(some 18), .len (.t 17), none⟩,
  ⟨(some 19), .bin .lss (.t 16) (.t 18), none⟩])
 (.cond (.t 19)
 .skip
 (.exit 0)))
 (.seq (.block 1 (.seq (.reg [⟨(some 22), .mv (.t 0), none⟩,
  ⟨(some 23), .mv (.t 6), none⟩,
  ⟨(some 24), .ixs 1 (.t 22) (.t 23), none⟩,
  ⟨(some 25), .load false 1 (.t 24), none⟩,
  ⟨(some 7), .mv (.t 25), none⟩])
 (.seq (.reg [⟨(some 26), .mv (.t 1), none⟩,
  ⟨(some 27), .mv (.t 7), none⟩,
  ⟨(some 28), .callv false (.t 26) [(.t 27)], none⟩,
  ⟨(some 29), .una .not (.t 28), none⟩])
 (.cond (.t 29)
 (.seq (.reg [⟨(some 30), .mv (.t 0), none⟩,
  ⟨(some 31), .mv (.t 5), none⟩,
  ⟨(some 32), .mv (.t 7), none⟩,
  ⟨(some 33), .ixs 1 (.t 30) (.t 31), none⟩,
  ⟨none, .store 1 (.t 33) (.t 32), none⟩])
 (.reg [⟨(some 34), .mv (.t 5), none⟩,
  ⟨(some 35), .bin .add (.t 34) (.k (D.int .i64 (1))), none⟩,
  ⟨(some 5), .mv (.t 35), none⟩]))
 .skip))))
 (.reg [⟨(some 20), .mv (.t 6), none⟩,
  ⟨(some 21), .bin .add (.t 20) (.k (D.int .i64 (1))), none⟩,
  ⟨(some 6), .mv (.t 21), none⟩]))))))
 (.seq (.reg [⟨(some 36), .mv (.t 0), none⟩,
  ⟨(some 37), .mv (.t 5), none⟩,
  ⟨(some 38), .slc 1 (.t 36) (some (.t 37)) none, none⟩,
  ⟨none, .clr (D.int .u8 (0)) (.t 38), none⟩])
 (.seq (.reg [⟨(some 39), .mv (.t 0), none⟩,
  ⟨(some 40), .mv (.t 5), none⟩,
  ⟨(some 41), .slc 1 (.t 39) none (some (.t 40)), none⟩,
  ⟨(some 4), .mv (.t 41), none⟩])
 .ret))))))⟩
def a397 : Ann := ⟨[], [⟨false, 0, false⟩], []⟩
def s397 : SFun := ⟨1, 5, [], [(.tmp 2, ⟨false, 0, false⟩)],
 (.seq (.reg [⟨(some 2), .mv (.k (D.bool false)), none⟩])
 (.seq (.reg [⟨(some 3), .mv (.t 0), none⟩,
  ⟨(some 4), .bin .eql (.t 3) (.k (D.int .u8 (0))), none⟩,
  ⟨(some 2), .mv (.t 4), none⟩])
 .ret))⟩
def a100396 : Ann := ⟨[], [⟨true, 1, false⟩], []⟩
def s100396 : SFun := ⟨1, 5, [], [(.tmp 2, ⟨true, 1, false⟩)],
 (.seq (.reg [⟨(some 2), .mv (.k .sn), none⟩])
 (.seq (.reg [⟨(some 3), .mv (.t 0), none⟩,
  ⟨(some 4), .call false 100456 [(.t 3), (.k (.fn 397 []))], none⟩,
  ⟨(some 2), .mv (.t 4), none⟩])
 .ret))⟩
def a57 : Ann := ⟨[], [], [0]⟩
def s57 : SFun := ⟨2, 30, [0], [],
 (.seq (.dreg [([], false, ⟨(some 5), .mv (.t 0), none⟩),
  ([], false, ⟨(some 6), .nilc (.t 5), none⟩),
  ([], false, ⟨(some 7), .fad 1 (.t 6), none⟩),
  ([], false, ⟨(some 8), .load false 1 (.t 7), none⟩),
  ([], false, ⟨(some 9), .capn (.t 8), none⟩),
  ([], false, ⟨(some 10), .bin .mul (.k (D.int .i64 (2))) (.t 9), none⟩),
  ([0, 1, 2, 3, 4, 5], false, ⟨(some 11), .mv (.t 1), none⟩),
  ([], false, ⟨(some 12), .bin .add (.t 10) (.t 11), none⟩),
  ([], false, ⟨(some 13), .call true 93 [(.t 12)], none⟩),
  ([0, 1, 2, 3, 4, 5, 6, 7, 8], false, ⟨(some 14), .mv (.t 0), none⟩),
  ([0, 1, 2, 3, 4, 5, 6, 7, 8], false, ⟨(some 15), .nilc (.t 14), none⟩),
  ([0, 1, 2, 3, 4, 5, 6, 7, 8], false, ⟨(some 16), .fad 1 (.t 15), none⟩),
  ([0, 1, 2, 3, 4, 5, 6, 7, 8], false, ⟨(some 17), .load false 1 (.t 16), none⟩),
  ([0, 1, 2, 3, 4, 5, 6, 7, 8], false, ⟨(some 18), .len (.t 17), none⟩),
  ([], true, ⟨(some 19), .slc 1 (.t 13) none (some (.t 18)), none⟩),
  ([], true, ⟨(some 4), .mv (.t 19), none⟩)])
 (.seq (.reg [⟨(some 20), .mv (.t 4), none⟩,
  ⟨(some 21), .mv (.t 0), none⟩,
  ⟨(some 22), .nilc (.t 21), none⟩,
  ⟨(some 23), .fad 1 (.t 22), none⟩,
  ⟨(some 24), .load false 1 (.t 23), none⟩,
  ⟨(some 25), .copy 1 (.t 20) (.t 24), none⟩])
 (.reg [⟨(some 26), .mv (.t 0), none⟩,
  ⟨(some 27), .mv (.t 4), none⟩,
  ⟨(some 28), .nilc (.t 26), none⟩,
  ⟨(some 29), .fad 1 (.t 28), none⟩,
  ⟨none, .store 1 (.t 29) (.t 27), none⟩])))⟩
def a51 : Ann := ⟨[], [], [0]⟩
def s51 : SFun := ⟨2, 25, [0], [],
 (.seq (.reg [⟨(some 4), .mv (.t 0), none⟩,
  ⟨(some 5), .call false 56 [(.t 4)], none⟩])
 (.seq (.seq (.reg [⟨(some 6), .mv (.t 1), none⟩,
  ⟨(some 7), .bin .lss (.t 6) (.k (D.int .i64 (0))), none⟩])
 (.cond (.t 7)
 (.reg [⟨(some 8), .bad, none⟩,
  ⟨none, .bad, none⟩])
 .skip))
 (.seq (.dreg [([], false, ⟨(some 9), .mv (.t 0), none⟩),
  ([], false, ⟨(some 10), .nilc (.t 9), none⟩),
  ([], false, ⟨(some 11), .fad 1 (.t 10), none⟩),
  ([], false, ⟨(some 12), .load false 1 (.t 11), none⟩),
  ([], false, ⟨(some 13), .capn (.t 12), none⟩),
  ([0, 1, 2, 3, 4], false, ⟨(some 14), .mv (.t 0), none⟩),
  ([0, 1, 2, 3, 4], false, ⟨(some 15), .nilc (.t 14), none⟩),
  ([0, 1, 2, 3, 4], false, ⟨(some 16), .fad 1 (.t 15), none⟩),
  ([0, 1, 2, 3, 4], false, ⟨(some 17), .load false 1 (.t 16), none⟩),
  ([0, 1, 2, 3, 4], false, ⟨(some 18), .len (.t 17), none⟩),
  ([], false, ⟨(some 19), .bin .sub (.t 13) (.t 18), none⟩),
  ([0, 1, 2, 3, 4, 5, 6, 7, 8, 9, 10], false, ⟨(some 20), .mv (.t 1), none⟩),
  ([], true, ⟨(some 21), .bin .lss (.t 19) (.t 20), none⟩)])
 (.cond (.t 21)
 (.reg [⟨(some 22), .mv (.t 0), none⟩,
  ⟨(some 23), .mv (.t 1), none⟩,
  ⟨(some 24), .call false 57 [(.t 22), (.t 23)], none⟩])
 .skip))))⟩
def a55 : Ann := ⟨[], [⟨false, 0, false⟩, ⟨false, 0, false⟩], [0]⟩
def s55 : SFun := ⟨2, 19, [0], [(.tmp 4, ⟨false, 0, false⟩), (.tmp 5, ⟨false, 0, false⟩)],
 (.seq (.reg [⟨(some 4), .mv (.k (D.int .i64 (0))), none⟩,
  ⟨(some 5), .mv (.k .uk), none⟩])
 (.seq (.reg [⟨(some 6), .mv (.t 0), none⟩,
  ⟨(some 7), .call false 56 [(.t 6)], none⟩])
 (.seq (.reg [⟨(some 8), .mv (.t 0), none⟩,
  ⟨(some 9), .mv (.t 0), none⟩,
  ⟨(some 10), .nilc (.t 9), none⟩,
  ⟨(some 11), .fad 1 (.t 10), none⟩,
  ⟨(some 12), .load false 1 (.t 11), none⟩,
  ⟨(some 13), .mv (.t 1), none⟩,
  ⟨(some 14), .append 1 1 (.t 12) (.t 13), none⟩,
  ⟨(some 15), .nilc (.t 8), none⟩,
  ⟨(some 16), .fad 1 (.t 15), none⟩,
  ⟨none, .store 1 (.t 16) (.t 14), none⟩])
 (.seq (.reg [⟨(some 17), .mv (.t 1), none⟩,
  ⟨(some 18), .lens (.t 17), none⟩,
  ⟨(some 4), .mv (.t 18), none⟩,
  ⟨(some 5), .mv (.k .uk), none⟩])
 .ret))))⟩
def a53 : Ann := ⟨[], [⟨false, 0, false⟩], [0]⟩
def s53 : SFun := ⟨1, 14, [0], [(.tmp 2, ⟨false, 0, false⟩)],
 (.seq (.reg [⟨(some 2), .mv (.k (D.str [])), none⟩])
 (.seq (.dreg [([], false, ⟨(some 3), .mv (.t 0), none⟩),
  ([], false, ⟨(some 4), .nilc (.t 3), none⟩),
  ([], false, ⟨(some 5), .fad 1 (.t 4), none⟩),
  ([], false, ⟨(some 6), .load false 1 (.t 5), none⟩),
  ([], false, ⟨(some 7), .bad, none⟩),
  ([0, 1, 2, 3, 4], false, ⟨(some 8), .mv (.t 0), none⟩),
  ([0, 1, 2, 3, 4], false, ⟨(some 9), .nilc (.t 8), none⟩),
  ([0, 1, 2, 3, 4], false, ⟨(some 10), .fad 1 (.t 9), none⟩),
  ([0, 1, 2, 3, 4], false, ⟨(some 11), .load false 1 (.t 10), none⟩),
  ([0, 1, 2, 3, 4], false, ⟨(some 12), .len (.t 11), none⟩),
  ([], true, ⟨(some 13), .bad, none⟩),
  ([], true, ⟨(some 2), .mv (.t 13), none⟩)])
 .ret))⟩
def a471 : Ann := ⟨[(12, [(0, ⟨false, 0, false⟩), (1, ⟨false, 0, false⟩), (5, ⟨false, 0, false⟩), (39, ⟨false, 0, false⟩), (40, ⟨false, 0, false⟩), (41, ⟨false, 0, false⟩)]), (22, [(1, ⟨false, 0, false⟩), (63, ⟨false, 0, false⟩), (64, ⟨false, 0, false⟩), (65, ⟨false, 0, false⟩), (8, ⟨true, 0, false⟩)])], [⟨false, 0, false⟩], []⟩
def s471 : SFun := ⟨2, 75, [], [(.tmp 4, ⟨false, 0, false⟩)],
 (.seq (.reg [⟨(some 4), .mv (.k (D.str [])), none⟩])
 (.seq (.seq (.reg [⟨(some 11), .mv (.t 0), none⟩,
  ⟨(some 12), .len (.t 11), none⟩])
 (.block 0 (.seq (.reg [⟨(some 14), .bin .eql (.t 12) (.k (D.int .i64 (0))), none⟩,
  ⟨(some 13), .mv (.t 14), none⟩])
 (.cond (.t 13)
 (.seq (.reg [⟨(some 4), .mv (.k (D.str [])), none⟩])
 .ret)
 (.seq (.reg [⟨(some 16), .bin .eql (.t 12) (.k (D.int .i64 (1))), none⟩,
  ⟨(some 15), .mv (.t 16), none⟩])
 (.cond (.t 15)
 (.seq (.reg [⟨(some 17), .mv (.t 0), none⟩,
  ⟨(some 18), .ixs 1 (.t 17) (.k (D.int .i64 (0))), none⟩,
  ⟨(some 19), .load false 1 (.t 18), none⟩,
  ⟨(some 4), .mv (.t 19), none⟩])
 .ret)
 .skip))))))
 (.seq (.reg [⟨(some 5), .mv (.k (D.int .i64 (0))), none⟩])
 (.seq (.seq (.reg [⟨(some 20), .mv (.t 1), none⟩,
  ⟨(some 21), .lens (.t 20), none⟩,
  ⟨(some 22), .bin .gtr (.t 21) (.k (D.int .i64 (0))), none⟩])
 (.cond (.t 22)
 (.seq (.seq (.reg [⟨(some 23), .mv (.t 1), none⟩,
  ⟨(some 24), .lens (.t 23), none⟩,
  ⟨(some 25), .mv (.t 0), none⟩,
  ⟨(some 26), .len (.t 25), none⟩,
  ⟨(some 27), .bin .sub (.t 26) (.k (D.int .i64 (1))), none⟩,
  ⟨(some 28), .bin .quo (.k (D.int .i64 (9223372036854775807))) (.t 27), none⟩,
  ⟨(some 29), .bin .geq (.t 24) (.t 28), none⟩])
 (.cond (.t 29)
 (.reg [⟨(some 30), .bad, none⟩,
  ⟨none, .bad, none⟩])
 .skip))
 (.reg [⟨(some 31), .mv (.t 5), none⟩,
  ⟨(some 32), .mv (.t 1), none⟩,
  ⟨(some 33), .lens (.t 32), none⟩,
  ⟨(some 34), .mv (.t 0), none⟩,
  ⟨(some 35), .len (.t 34), none⟩,
  ⟨(some 36), .bin .sub (.t 35) (.k (D.int .i64 (1))), none⟩,
  ⟨(some 37), .bin .mul (.t 33) (.t 36), none⟩,
  ⟨(some 38), .bin .add (.t 31) (.t 37), none⟩,
  ⟨(some 5), .mv (.t 38), none⟩]))
 .skip))
 (.seq (.seq (.reg [⟨(some 39), .mv (.t 0), none⟩,
  ⟨(some 40), .len (.t 39), none⟩,
  ⟨(some 41), .mv (.k (D.int .i64 (0))), none⟩])
 (.block 1 (.loop [(0, ⟨false, 0, false⟩), (1, ⟨false, 0, false⟩), (5, ⟨false, 0, false⟩), (39, ⟨false, 0, false⟩), (40, ⟨false, 0, false⟩), (41, ⟨false, 0, false⟩)]
 (.seq (.reg [⟨(some 42), .bin .lss (.t 41) (.t 40), none⟩])
 (.seq (.cond (.t 42)
 .skip
 (.exit 1))
 (.seq (.block 2 (.seq (.reg [⟨(some 43), .ixs 1 (.t 39) (.t 41), none⟩,
  ⟨(some 44), .load false 1 (.t 43), none⟩,
  ⟨(some 7), .mv (.t 44), none⟩])
 (.seq (.seq (.reg [⟨(some 45), .mv (.t 7), none⟩,
  ⟨(some 46), .lens (.t 45), none⟩,
  ⟨(some 47), .mv (.t 5), none⟩,
  ⟨(some 48), .bin .sub (.k (D.int .i64 (9223372036854775807))) (.t 47), none⟩,
  ⟨(some 49), .bin .gtr (.t 46) (.t 48), none⟩])
 (.cond (.t 49)
 (.reg [⟨(some 50), .bad, none⟩,
  ⟨none, .bad, none⟩])
 .skip))
 (.reg [⟨(some 51), .mv (.t 5), none⟩,
  ⟨(some 52), .mv (.t 7), none⟩,
  ⟨(some 53), .lens (.t 52), none⟩,
  ⟨(some 54), .bin .add (.t 51) (.t 53), none⟩,
  ⟨(some 5), .mv (.t 54), none⟩]))))
 (.reg [⟨(some 55), .bin .add (.t 41) (.k (D.int .i64 (1))), none⟩,
  ⟨(some 41), .mv (.t 55), none⟩])))))))
 (.seq (.reg [⟨(some 8), .alloc [.nl, .sn], none⟩])
 (.seq (.reg [⟨(some 56), .mv (.t 5), none⟩,
  ⟨(some 57), .call false 51 [(.t 8), (.t 56)], none⟩])
 (.seq (.reg [⟨(some 58), .mv (.t 0), none⟩,
  ⟨(some 59), .ixs 1 (.t 58) (.k (D.int .i64 (0))), none⟩,
  ⟨(some 60), .load false 1 (.t 59), none⟩,
  ⟨(some 61), .call false 55 [(.t 8), (.t 60)], none⟩])
 (.seq (.seq (.reg [⟨(some 62), .mv (.t 0), none⟩,
  ⟨(some 63), .slc 1 (.t 62) (some (.k (D.int .i64 (1)))) none, none⟩,
  ⟨(some 64), .len (.t 63), none⟩,
  ⟨(some 65), .mv (.k (D.int .i64 (0))), none⟩])
 (.block 3 (.loop [(1, ⟨false, 0, false⟩), (63, ⟨false, 0, false⟩), (64, ⟨false, 0, false⟩), (65, ⟨false, 0, false⟩), (8, ⟨true, 0, false⟩)]
 (.seq (.reg [⟨(some 66), .bin .lss (.t 65) (.t 64), none⟩])
 (.seq (.cond (.t 66)
 .skip
 (.exit 3))
 (.seq (.block 4 (.seq (.reg [⟨(some 67), .ixs 1 (.t 63) (.t 65), none⟩,
  ⟨(some 68), .load false 1 (.t 67), none⟩,
  ⟨(some 10), .mv (.t 68), none⟩])
 (.seq (.reg [⟨(some 69), .mv (.t 1), none⟩,
  ⟨(some 70), .call false 55 [(.t 8), (.t 69)], none⟩])
 (.reg [⟨(some 71), .mv (.t 10), none⟩,
  ⟨(some 72), .call false 55 [(.t 8), (.t 71)], none⟩]))))
 (.reg [⟨(some 73), .bin .add (.t 65) (.k (D.int .i64 (1))), none⟩,
  ⟨(some 65), .mv (.t 73), none⟩])))))))
 (.seq (.reg [⟨(some 74), .call false 53 [(.t 8)], none⟩,
  ⟨(some 4), .mv (.t 74), none⟩])
 .ret))))))))))⟩
def a389 : Ann := ⟨[(3, [(9, ⟨false, 0, false⟩), (10, ⟨false, 0, false⟩), (11, ⟨false, 0, false⟩), (1, ⟨true, 0, false⟩), (3, ⟨true, 1, false⟩)])], [⟨true, 1, false⟩], []⟩
def s389 : SFun := ⟨1, 39, [], [(.tmp 2, ⟨true, 1, false⟩)],
 (.seq (.reg [⟨(some 1), .box 7 (.t 0), none⟩,
  ⟨(some 2), .mv (.k .sn), none⟩])
 (.seq (.reg [⟨(some 3), .mv (.k .sn), none⟩])
 (.seq (.seq (.reg [⟨(some 8), .fad 5 (.t 1), none⟩,
  ⟨(some 9), .load false 1 (.t 8), none⟩,
  ⟨(some 10), .len (.t 9), none⟩,
  ⟨(some 11), .mv (.k (D.int .i64 (0))), none⟩])
 (.block 0 (.loop [(9, ⟨false, 0, false⟩), (10, ⟨false, 0, false⟩), (11, ⟨false, 0, false⟩), (1, ⟨true, 0, false⟩), (3, ⟨true, 1, false⟩)]
 (.seq (.reg [⟨(some 12), .bin .lss (.t 11) (.t 10), none⟩])
 (.seq (.cond (.t 12)
 .skip
 (.exit 0))
 (.seq (.block 1 (.seq (.reg [⟨(some 13), .ixs 1 (.t 9) (.t 11), none⟩,
  ⟨(some 14), .load false 1 (.t 13), none⟩,
  ⟨(some 5), .mv (.t 14), none⟩])
 (.seq (.reg [⟨(some 6), .mv (.k (D.str [])), none⟩])
 (.seq (.seq (.reg [⟨(some 15), .mv (.t 5), none⟩,
  ⟨(some 16), .bin .neq (.t 15) (.k (D.int .i64 (-1))), none⟩])
 (.cond (.t 16)
 (.reg [⟨(some 17), .mv (.t 5), none⟩,
  ⟨(some 18), .call false 466 [(.t 17)], none⟩,
  ⟨(some 6), .mv (.t 18), none⟩])
 .skip))
 (.reg [⟨(some 19), .mv (.t 3), none⟩,
  ⟨(some 20), .mv (.t 6), none⟩,
  ⟨(some 21), .bsl false 1 1 [(D.str [])] [(0, (.t 20))], none⟩,
  ⟨(some 22), .append 1 16 (.t 19) (.t 21), none⟩,
  ⟨(some 3), .mv (.t 22), none⟩])))))
 (.reg [⟨(some 23), .bin .add (.t 11) (.k (D.int .i64 (1))), none⟩,
  ⟨(some 11), .mv (.t 23), none⟩])))))))
 (.seq (.reg [⟨(some 24), .fad 2 (.t 1), none⟩,
  ⟨(some 25), .load false 1 (.t 24), none⟩,
  ⟨(some 26), .bsl true 1 3 [(D.int .u8 (0))] [(0, (.k (D.int .u8 (27)))), (1, (.k (D.int .u8 (91)))), (2, (.t 25))], none⟩,
  ⟨(some 27), .call false 100396 [(.t 26)], none⟩,
  ⟨(some 28), .mv (.t 3), none⟩,
  ⟨(some 29), .call false 471 [(.t 28), (.k (D.str [59]))], none⟩,
  ⟨(some 30), .append 1 1 (.t 27) (.t 29), none⟩,
  ⟨(some 7), .mv (.t 30), none⟩])
 (.seq (.reg [⟨(some 31), .mv (.t 7), none⟩,
  ⟨(some 32), .fad 3 (.t 1), none⟩,
  ⟨(some 33), .load false 1 (.t 32), none⟩,
  ⟨(some 34), .fad 4 (.t 1), none⟩,
  ⟨(some 35), .load false 1 (.t 34), none⟩,
  ⟨(some 36), .bsl true 1 2 [(D.int .u8 (0))] [(0, (.t 33)), (1, (.t 35))], none⟩,
  ⟨(some 37), .call false 100396 [(.t 36)], none⟩,
  ⟨(some 38), .append 1 1 (.t 31) (.t 37), none⟩,
  ⟨(some 2), .mv (.t 38), none⟩])
 .ret)))))⟩
def a388 : Ann := ⟨[], [⟨true, 1, false⟩], []⟩
def s388 : SFun := ⟨1, 34, [], [(.tmp 2, ⟨true, 1, false⟩)],
 (.seq (.reg [⟨(some 1), .box 7 (.t 0), none⟩,
  ⟨(some 2), .mv (.k .sn), none⟩])
 (.seq (.seq (.reg [⟨(some 3), .fad 0 (.t 1), none⟩,
  ⟨(some 4), .load false 1 (.t 3), none⟩])
 (.block 0 (.seq (.reg [⟨(some 6), .bin .eql (.t 4) (.k (D.int .i64 (1))), none⟩,
  ⟨(some 5), .mv (.t 6), none⟩])
 (.cond (.t 5)
 (.seq (.reg [⟨(some 7), .fad 1 (.t 1), none⟩,
  ⟨(some 8), .load false 1 (.t 7), none⟩,
  ⟨(some 9), .bsl false 1 1 [(D.int .i32 (0))] [(0, (.t 8))], none⟩,
  ⟨(some 10), .call false 431 [(.t 9)], none⟩,
  ⟨(some 2), .mv (.t 10), none⟩])
 .ret)
 (.seq (.reg [⟨(some 12), .bin .eql (.t 4) (.k (D.int .i64 (2))), none⟩,
  ⟨(some 11), .mv (.t 12), none⟩])
 (.cond (.t 11)
 (.seq (.reg [⟨(some 13), .fad 4 (.t 1), none⟩,
  ⟨(some 14), .load false 1 (.t 13), none⟩,
  ⟨(some 15), .bsl true 1 1 [(D.int .u8 (0))] [(0, (.t 14))], none⟩,
  ⟨(some 2), .mv (.t 15), none⟩])
 .ret)
 (.seq (.reg [⟨(some 17), .bin .eql (.t 4) (.k (D.int .i64 (3))), none⟩,
  ⟨(some 16), .mv (.t 17), none⟩])
 (.cond (.t 16)
 (.seq (.reg [⟨(some 18), .fad 3 (.t 1), none⟩,
  ⟨(some 19), .load false 1 (.t 18), none⟩,
  ⟨(some 20), .fad 4 (.t 1), none⟩,
  ⟨(some 21), .load false 1 (.t 20), none⟩,
  ⟨(some 22), .bsl true 1 3 [(D.int .u8 (0))] [(0, (.k (D.int .u8 (27)))), (1, (.t 19)), (2, (.t 21))], none⟩,
  ⟨(some 23), .call false 100396 [(.t 22)], none⟩,
  ⟨(some 2), .mv (.t 23), none⟩])
 .ret)
 (.seq (.reg [⟨(some 25), .bin .eql (.t 4) (.k (D.int .i64 (4))), none⟩,
  ⟨(some 24), .mv (.t 25), none⟩])
 (.cond (.t 24)
 (.seq (.reg [⟨(some 26), .load true 7 (.t 1), none⟩,
  ⟨(some 27), .call false 389 [(.t 26)], none⟩,
  ⟨(some 2), .mv (.t 27), none⟩])
 .ret)
 .skip))))))))))
 (.seq (.reg [⟨(some 28), .bsl true 1 2 [(D.int .u8 (0))] [(0, (.k (D.int .u8 (27)))), (1, (.k (D.int .u8 (93))))], none⟩,
  ⟨(some 29), .fad 6 (.t 1), none⟩,
  ⟨(some 30), .load false 1 (.t 29), none⟩,
  ⟨(some 31), .append 1 1 (.t 28) (.t 30), none⟩,
  ⟨(some 32), .bsl false 1 1 [(D.int .u8 (0))] [(0, (.k (D.int .u8 (7))))], none⟩,
  ⟨(some 33), .append 1 1 (.t 31) (.t 32), none⟩,
  ⟨(some 2), .mv (.t 33), none⟩])
 .ret)))⟩
def a383 : Ann := ⟨[(3, [(6, ⟨false, 0, false⟩), (7, ⟨false, 0, false⟩), (8, ⟨false, 0, false⟩), (3, ⟨true, 1, false⟩)])], [⟨true, 1, false⟩], []⟩
def s383 : SFun := ⟨1, 20, [], [(.tmp 2, ⟨true, 1, false⟩)],
 (.seq (.reg [⟨(some 2), .mv (.k .sn), none⟩])
 (.seq (.reg [⟨(some 3), .mv (.k .sn), none⟩])
 (.seq (.seq (.reg [⟨(some 6), .mv (.t 0), none⟩,
  ⟨(some 7), .len (.t 6), none⟩,
  ⟨(some 8), .mv (.k (D.int .i64 (0))), none⟩])
 (.block 0 (.loop [(6, ⟨false, 0, false⟩), (7, ⟨false, 0, false⟩), (8, ⟨false, 0, false⟩), (3, ⟨true, 1, false⟩)]
 (.seq (.reg [⟨(some 9), .bin .lss (.t 8) (.t 7), none⟩])
 (.seq (.cond (.t 9)
 .skip
 (.exit 0))
 (.seq (.block 1 (.seq (.reg [⟨(some 10), .ixs 7 (.t 6) (.t 8), none⟩,
  ⟨(some 11), .load true 7 (.t 10), none⟩,
  ⟨(some 5), .alloc [(D.int .i64 (0)), (D.int .i32 (0)), (D.int .u8 (0)), (D.int .u8 (0)), (D.int .u8 (0)), .sn, (D.str [])], none⟩,
  ⟨none, .store 7 (.t 5) (.t 11), none⟩])
 (.seq (.reg [⟨(some 12), .load true 7 (.t 5), none⟩,
  ⟨(some 13), .call false 384 [(.t 12)], none⟩])
 (.cond (.t 13)
 (.reg [⟨(some 14), .mv (.t 3), none⟩,
  ⟨(some 15), .load true 7 (.t 5), none⟩,
  ⟨(some 16), .call false 388 [(.t 15)], none⟩,
  ⟨(some 17), .append 1 1 (.t 14) (.t 16), none⟩,
  ⟨(some 3), .mv (.t 17), none⟩])
 .skip))))
 (.reg [⟨(some 18), .bin .add (.t 8) (.k (D.int .i64 (1))), none⟩,
  ⟨(some 8), .mv (.t 18), none⟩])))))))
 (.seq (.reg [⟨(some 19), .mv (.t 3), none⟩,
  ⟨(some 2), .mv (.t 19), none⟩])
 .ret))))⟩
def a366 : Ann := ⟨[], [⟨false, 0, false⟩], []⟩
def s366 : SFun := ⟨2, 9, [], [(.tmp 3, ⟨false, 0, false⟩)],
 (.seq (.reg [⟨(some 2), .box 3 (.t 0), none⟩,
  ⟨(some 3), .mv (.k (D.bool false)), none⟩])
 (.seq (.dreg [([], false, ⟨(some 4), .load false 1 (.t 1), none⟩),
  ([0], false, ⟨(some 5), .load true 3 (.t 2), none⟩),
  ([], false, ⟨(some 6), .call true 330 [(.t 4), (.t 5)], none⟩),
  ([0, 1, 2], false, ⟨(some 7), .load true 3 (.t 2), none⟩),
  ([], true, ⟨(some 8), .eqa false [1, 1, 1] (.t 6) (.t 7), none⟩),
  ([], true, ⟨(some 3), .mv (.t 8), none⟩)])
 .ret))⟩
def a365 : Ann := ⟨[], [⟨true, 1, false⟩], []⟩
def s365 : SFun := ⟨3, 39, [], [(.tmp 6, ⟨true, 1, false⟩)],
 (.seq (.reg [⟨(some 3), .box 1 (.t 0), none⟩,
  ⟨(some 4), .box 3 (.t 1), none⟩,
  ⟨(some 5), .box 3 (.t 2), none⟩,
  ⟨(some 6), .mv (.k .sn), none⟩])
 (.seq (.reg [⟨(some 8), .mkf 366 [(.t 3)], none⟩,
  ⟨(some 7), .mv (.t 8), none⟩])
 (.seq (.seq (.reg [⟨(some 9), .load false 1 (.t 3), none⟩,
  ⟨(some 10), .call false 134 [(.t 9)], none⟩,
  ⟨(some 11), .una .not (.t 10), none⟩,
  ⟨(some 12), .mv (.t 11), none⟩,
  ⟨(some 13), .load false 1 (.t 3), (some (12, false))⟩,
  ⟨(some 14), .bin .eql (.t 13) (.k (D.int .i64 (3))), (some (12, false))⟩,
  ⟨(some 15), .pick (.t 12) (.k (D.bool true)) (.t 14), none⟩,
  ⟨(some 16), .mv (.t 15), none⟩,
  ⟨(some 17), .load true 3 (.t 4), (some (16, false))⟩,
  ⟨(some 18), .load true 3 (.t 5), (some (16, false))⟩,
  ⟨(some 19), .eqa false [1, 1, 1] (.t 17) (.t 18), (some (16, false))⟩,
  ⟨(some 20), .pick (.t 16) (.k (D.bool true)) (.t 19), none⟩,
  ⟨(some 21), .mv (.t 20), none⟩,
  ⟨(some 22), .mv (.t 7), (some (21, false))⟩,
  ⟨(some 23), .load true 3 (.t 4), (some (21, false))⟩,
  ⟨(some 24), .callv false (.t 22) [(.t 23)], (some (21, false))⟩,
  ⟨(some 25), .una .not (.t 24), (some (21, false))⟩,
  ⟨(some 26), .pick (.t 21) (.k (D.bool true)) (.t 25), none⟩,
  ⟨(some 27), .mv (.t 26), none⟩,
  ⟨(some 28), .mv (.t 7), (some (27, false))⟩,
  ⟨(some 29), .load true 3 (.t 5), (some (27, false))⟩,
  ⟨(some 30), .callv false (.t 28) [(.t 29)], (some (27, false))⟩,
  ⟨(some 31), .una .not (.t 30), (some (27, false))⟩,
  ⟨(some 32), .pick (.t 27) (.k (D.bool true)) (.t 31), none⟩])
 (.cond (.t 32)
 (.seq (.reg [⟨(some 6), .mv (.k .sn), none⟩])
 .ret)
 .skip))
 (.seq (.reg [⟨(some 33), .load true 3 (.t 4), none⟩,
  ⟨(some 34), .load true 3 (.t 5), none⟩,
  ⟨(some 35), .call false 341 [(.t 33), (.t 34)], none⟩,
  ⟨(some 36), .call false 382 [(.k (D.int .u8 (109))), (.t 35)], none⟩,
  ⟨(some 37), .bsl false 7 1 [(D.int .i64 (0)), (D.int .i32 (0)), (D.int .u8 (0)), (D.int .u8 (0)), (D.int .u8 (0)), .sn, (D.str [])] [(0, (.t 36))], none⟩,
  ⟨(some 38), .call false 383 [(.t 37)], none⟩,
  ⟨(some 6), .mv (.t 38), none⟩])
 .ret))))⟩
def a367 : Ann := ⟨[], [⟨true, 1, false⟩], []⟩
def s367 : SFun := ⟨2, 28, [], [(.tmp 4, ⟨true, 1, false⟩)],
 (.seq (.reg [⟨(some 4), .mv (.k .sn), none⟩])
 (.seq (.seq (.reg [⟨(some 7), .mv (.t 0), none⟩,
  ⟨(some 8), .call false 134 [(.t 7)], none⟩,
  ⟨(some 9), .una .not (.t 8), none⟩,
  ⟨(some 10), .mv (.t 9), none⟩,
  ⟨(some 11), .mv (.t 0), (some (10, false))⟩,
  ⟨(some 12), .mv (.t 1), (some (10, false))⟩,
  ⟨(some 13), .call false 331 [(.t 11), (.t 12)], (some (10, false))⟩,
  ⟨(some 14), .mv (.t 1), (some (10, false))⟩,
  ⟨(some 15), .bin .neq (.t 13) (.t 14), (some (10, false))⟩,
  ⟨(some 16), .pick (.t 10) (.k (D.bool true)) (.t 15), none⟩])
 (.cond (.t 16)
 (.seq (.reg [⟨(some 4), .mv (.k .sn), none⟩])
 .ret)
 .skip))
 (.seq (.seq (.reg [⟨(some 18), .mv (.t 1), none⟩,
  ⟨(some 19), .call false 117 [(.t 18)], none⟩,
  ⟨(some 17), .mv (.t 19), none⟩,
  ⟨(some 20), .ext (.t 17) 0, none⟩,
  ⟨(some 21), .ext (.t 17) 1, none⟩,
  ⟨(some 5), .mv (.t 20), none⟩,
  ⟨(some 6), .mv (.t 21), none⟩])
 (.seq (.reg [⟨(some 22), .mv (.t 6), none⟩])
 (.cond (.t 22)
 (.seq (.reg [⟨(some 23), .mv (.t 5), none⟩,
  ⟨(some 24), .bsl true 1 7 [(D.int .u8 (0))] [(0, (.k (D.int .u8 (27)))), (1, (.k (D.int .u8 (40)))), (2, (.k (D.int .u8 (48)))), (3, (.t 23)), (4, (.k (D.int .u8 (27)))), (5, (.k (D.int .u8 (40)))), (6, (.k (D.int .u8 (66))))], none⟩,
  ⟨(some 4), .mv (.t 24), none⟩])
 .ret)
 .skip)))
 (.seq (.reg [⟨(some 25), .mv (.t 1), none⟩,
  ⟨(some 26), .cvi .u8 (.t 25), none⟩,
  ⟨(some 27), .bsl true 1 1 [(D.int .u8 (0))] [(0, (.t 26))], none⟩,
  ⟨(some 4), .mv (.t 27), none⟩])
 .ret))))⟩
def a386 : Ann := ⟨[], [⟨false, 0, false⟩], []⟩
def s386 : SFun := ⟨3, 15, [], [(.cell 6 true 7, ⟨false, 0, false⟩)],
 (.seq (.reg [⟨(some 6), .alloc [(D.int .i64 (0)), (D.int .i32 (0)), (D.int .u8 (0)), (D.int .u8 (0)), (D.int .u8 (0)), .sn, (D.str [])], none⟩])
 (.seq (.reg [⟨(some 8), .mv (.t 0), none⟩,
  ⟨(some 9), .mv (.t 2), none⟩,
  ⟨(some 10), .call false 450 [(.t 9)], none⟩,
  ⟨(some 11), .build [(D.int .i64 (0)), (D.int .i32 (0)), (D.int .u8 (0)), (D.int .u8 (0)), (D.int .u8 (0)), .sn, (D.str [])] [(0, 1, (.k (D.int .i64 (4)))), (2, 1, (.t 8)), (4, 1, (.k (D.int .u8 (108)))), (5, 1, (.t 10))], none⟩,
  ⟨(some 7), .alloc [(D.int .i64 (0)), (D.int .i32 (0)), (D.int .u8 (0)), (D.int .u8 (0)), (D.int .u8 (0)), .sn, (D.str [])], none⟩,
  ⟨none, .store 7 (.t 7) (.t 11), none⟩])
 (.seq (.seq (.reg [⟨(some 12), .mv (.t 1), none⟩])
 (.cond (.t 12)
 (.reg [⟨(some 13), .fad 4 (.t 7), none⟩,
  ⟨none, .store 1 (.t 13) (.k (D.int .u8 (104))), none⟩])
 .skip))
 (.seq (.reg [⟨(some 14), .load true 7 (.t 7), none⟩,
  ⟨none, .store 7 (.t 6) (.t 14), none⟩])
 .ret))))⟩
def a363 : Ann := ⟨[], [⟨true, 1, false⟩], []⟩
def s363 : SFun := ⟨3, 32, [], [(.tmp 6, ⟨true, 1, false⟩)],
 (.seq (.reg [⟨(some 6), .mv (.k .sn), none⟩])
 (.seq (.seq (.reg [⟨(some 7), .mv (.t 0), none⟩,
  ⟨(some 8), .call false 134 [(.t 7)], none⟩,
  ⟨(some 9), .una .not (.t 8), none⟩,
  ⟨(some 10), .mv (.t 9), none⟩,
  ⟨(some 11), .mv (.t 0), (some (10, false))⟩,
  ⟨(some 12), .bin .eql (.t 11) (.k (D.int .i64 (3))), (some (10, false))⟩,
  ⟨(some 13), .pick (.t 10) (.k (D.bool true)) (.t 12), none⟩,
  ⟨(some 14), .mv (.t 13), none⟩,
  ⟨(some 15), .mv (.t 1), (some (14, false))⟩,
  ⟨(some 16), .bin .neq (.t 15) (.k (D.int .i64 (7))), (some (14, false))⟩,
  ⟨(some 17), .mv (.t 16), (some (14, false))⟩,
  ⟨(some 18), .mv (.t 1), (some (17, true))⟩,
  ⟨(some 19), .bin .neq (.t 18) (.k (D.int .i64 (25))), (some (17, true))⟩,
  ⟨(some 20), .mv (.t 19), (some (17, true))⟩,
  ⟨(some 21), .mv (.t 0), (some (20, false))⟩,
  ⟨(some 22), .bin .neq (.t 21) (.k (D.int .i64 (2))), (some (20, false))⟩,
  ⟨(some 23), .pick (.t 20) (.k (D.bool true)) (.t 22), (some (17, true))⟩,
  ⟨(some 24), .pick (.t 17) (.t 23) (.k (D.bool false)), (some (14, false))⟩,
  ⟨(some 25), .pick (.t 14) (.k (D.bool true)) (.t 24), none⟩])
 (.cond (.t 25)
 (.seq (.reg [⟨(some 6), .mv (.k .sn), none⟩])
 .ret)
 .skip))
 (.seq (.reg [⟨(some 26), .mv (.t 2), none⟩,
  ⟨(some 27), .mv (.t 1), none⟩,
  ⟨(some 28), .bsl false 1 1 [(D.int .i64 (0))] [(0, (.t 27))], none⟩,
  ⟨(some 29), .call false 386 [(.k (D.int .u8 (63))), (.t 26), (.t 28)], none⟩,
  ⟨(some 30), .bsl false 7 1 [(D.int .i64 (0)), (D.int .i32 (0)), (D.int .u8 (0)), (D.int .u8 (0)), (D.int .u8 (0)), .sn, (D.str [])] [(0, (.t 29))], none⟩,
  ⟨(some 31), .call false 383 [(.t 30)], none⟩,
  ⟨(some 6), .mv (.t 31), none⟩])
 .ret)))⟩
def a349 : Ann := ⟨[(7, [(0, ⟨false, 0, false⟩), (8, ⟨false, 0, false⟩), (9, ⟨false, 0, false⟩), (11, ⟨false, 0, false⟩), (30, ⟨false, 0, false⟩), (31, ⟨false, 0, false⟩), (32, ⟨false, 0, false⟩), (4, ⟨true, 0, false⟩), (5, ⟨true, 0, false⟩), (7, ⟨true, 1, false⟩), (10, ⟨true, 0, false⟩)])], [⟨true, 1, false⟩], []⟩
def s349 : SFun := ⟨3, 108, [], [(.tmp 6, ⟨true, 1, false⟩)],
 (.seq (.reg [⟨(some 4), .box 29 (.t 1), none⟩,
  ⟨(some 5), .box 6 (.t 2), none⟩,
  ⟨(some 6), .mv (.k .sn), none⟩])
 (.seq (.seq (.reg [⟨(some 14), .mv (.t 0), none⟩,
  ⟨(some 15), .load true 29 (.t 4), none⟩,
  ⟨(some 16), .load true 6 (.t 5), none⟩,
  ⟨(some 17), .call false 352 [(.t 14), (.t 15), (.t 16)], none⟩,
  ⟨(some 18), .una .not (.t 17), none⟩])
 (.cond (.t 18)
 (.seq (.reg [⟨(some 6), .mv (.k .sn), none⟩])
 .ret)
 .skip))
 (.seq (.reg [⟨(some 7), .mv (.k .sn), none⟩])
 (.seq (.dreg [([], false, ⟨(some 19), .fad 3 (.t 4), none⟩),
  ([], false, ⟨(some 20), .load false 1 (.t 19), none⟩),
  ([0, 1], false, ⟨(some 21), .fad 4 (.t 4), none⟩),
  ([0, 1], false, ⟨(some 22), .load false 1 (.t 21), none⟩),
  ([0, 1, 2, 3], false, ⟨(some 23), .fad 8 (.t 4), none⟩),
  ([0, 1, 2, 3], false, ⟨(some 24), .load true 3 (.t 23), none⟩),
  ([0, 1, 2, 3, 4, 5], false, ⟨(some 10), .alloc [(D.int .i64 (0)), (D.int .i64 (0)), (D.int .i64 (0))], none⟩),
  ([2, 3, 4, 5], false, ⟨(some 8), .mv (.t 20), none⟩),
  ([4, 5], false, ⟨(some 9), .mv (.t 22), none⟩),
  ([], true, ⟨none, .store 3 (.t 10) (.t 24), none⟩)])
 (.seq (.reg [⟨(some 25), .fad 0 (.t 5), none⟩,
  ⟨(some 26), .fad 1 (.t 25), none⟩,
  ⟨(some 27), .load false 1 (.t 26), none⟩,
  ⟨(some 11), .mv (.t 27), none⟩])
 (.seq (.seq (.reg [⟨(some 28), .fad 0 (.t 5), none⟩,
  ⟨(some 29), .fad 2 (.t 28), none⟩,
  ⟨(some 30), .load false 1 (.t 29), none⟩,
  ⟨(some 31), .len (.t 30), none⟩,
  ⟨(some 32), .mv (.k (D.int .i64 (0))), none⟩])
 (.block 0 (.loop [(0, ⟨false, 0, false⟩), (8, ⟨false, 0, false⟩), (9, ⟨false, 0, false⟩), (11, ⟨false, 0, false⟩), (30, ⟨false, 0, false⟩), (31, ⟨false, 0, false⟩), (32, ⟨false, 0, false⟩), (4, ⟨true, 0, false⟩), (5, ⟨true, 0, false⟩), (7, ⟨true, 1, false⟩), (10, ⟨true, 0, false⟩)]
 (.seq (.reg [⟨(some 33), .bin .lss (.t 32) (.t 31), none⟩])
 (.seq (.cond (.t 33)
 .skip
 (.exit 0))
 (.seq (.block 1 (.seq (.reg [⟨(some 34), .mv (.t 32), none⟩,
  ⟨(some 35), .ixs 5 (.t 30) (.t 32), none⟩,
  ⟨(some 36), .load true 5 (.t 35), none⟩,
  ⟨(some 13), .alloc [(D.int .i32 (0)), (D.int .i64 (0)), (D.int .i64 (0)), (D.int .i64 (0)), (D.int .i64 (0))], none⟩,
  ⟨(some 12), .mv (.t 34), none⟩,
  ⟨none, .store 5 (.t 13) (.t 36), none⟩])
 (.seq (.seq (.dreg [([], false, ⟨(some 37), .load true 5 (.t 13), none⟩),
  ([0], false, ⟨(some 38), .fad 0 (.t 4), none⟩),
  ([0], false, ⟨(some 39), .fad 2 (.t 38), none⟩),
  ([0], false, ⟨(some 40), .load false 1 (.t 39), none⟩),
  ([0, 1, 2, 3], false, ⟨(some 41), .mv (.t 12), none⟩),
  ([0], false, ⟨(some 42), .ixs 5 (.t 40) (.t 41), none⟩),
  ([0], false, ⟨(some 43), .load true 5 (.t 42), none⟩),
  ([], true, ⟨(some 44), .eqa false [1, 1, 1, 1, 1] (.t 37) (.t 43), none⟩)])
 (.cond (.t 44)
 (.exit 1)
 .skip))
 (.seq (.dreg [([], false, ⟨(some 45), .mv (.t 12), none⟩),
  ([0], false, ⟨(some 46), .mv (.t 11), none⟩),
  ([], false, ⟨(some 47), .bin .quo (.t 45) (.t 46), none⟩),
  ([0, 1, 2], false, ⟨(some 48), .mv (.t 12), none⟩),
  ([0, 1, 2, 3], false, ⟨(some 49), .mv (.t 11), none⟩),
  ([0, 1, 2], false, ⟨(some 50), .bin .rem (.t 48) (.t 49), none⟩),
  ([3, 4, 5], false, ⟨(some 8), .mv (.t 47), none⟩),
  ([], true, ⟨(some 9), .mv (.t 50), none⟩)])
 (.seq (.reg [⟨(some 51), .mv (.t 7), none⟩,
  ⟨(some 52), .mv (.t 0), none⟩,
  ⟨(some 53), .mv (.t 8), none⟩,
  ⟨(some 54), .mv (.t 9), none⟩,
  ⟨(some 55), .call false 364 [(.t 52), (.t 53), (.t 54)], none⟩,
  ⟨(some 56), .append 1 1 (.t 51) (.t 55), none⟩,
  ⟨(some 7), .mv (.t 56), none⟩])
 (.seq (.reg [⟨(some 57), .mv (.t 7), none⟩,
  ⟨(some 58), .mv (.t 0), none⟩,
  ⟨(some 59), .load true 3 (.t 10), none⟩,
  ⟨(some 60), .fad 2 (.t 13), none⟩,
  ⟨(some 61), .load true 3 (.t 60), none⟩,
  ⟨(some 62), .call false 365 [(.t 58), (.t 59), (.t 61)], none⟩,
  ⟨(some 63), .append 1 1 (.t 57) (.t 62), none⟩,
  ⟨(some 7), .mv (.t 63), none⟩])
 (.seq (.reg [⟨(some 64), .mv (.t 7), none⟩,
  ⟨(some 65), .mv (.t 0), none⟩,
  ⟨(some 66), .fad 0 (.t 13), none⟩,
  ⟨(some 67), .load false 1 (.t 66), none⟩,
  ⟨(some 68), .call false 367 [(.t 65), (.t 67)], none⟩,
  ⟨(some 69), .append 1 1 (.t 64) (.t 68), none⟩,
  ⟨(some 7), .mv (.t 69), none⟩])
 (.dreg [([], false, ⟨(some 70), .mv (.t 9), none⟩),
  ([], false, ⟨(some 71), .bin .add (.t 70) (.k (D.int .i64 (1))), none⟩),
  ([0, 1], false, ⟨(some 72), .mv (.t 11), none⟩),
  ([0, 1], false, ⟨(some 73), .bin .sub (.t 72) (.k (D.int .i64 (1))), none⟩),
  ([], false, ⟨(some 74), .mn [(.t 71), (.t 73)], none⟩),
  ([0, 1, 2, 3, 4], false, ⟨(some 75), .fad 2 (.t 13), none⟩),
  ([0, 1, 2, 3, 4], false, ⟨(some 76), .load true 3 (.t 75), none⟩),
  ([5, 6], false, ⟨(some 9), .mv (.t 74), none⟩),
  ([], true, ⟨none, .store 3 (.t 10) (.t 76), none⟩)]))))))))
 (.reg [⟨(some 77), .bin .add (.t 32) (.k (D.int .i64 (1))), none⟩,
  ⟨(some 32), .mv (.t 77), none⟩])))))))
 (.seq (.seq (.reg [⟨(some 78), .mv (.t 8), none⟩,
  ⟨(some 79), .fad 3 (.t 5), none⟩,
  ⟨(some 80), .load false 1 (.t 79), none⟩,
  ⟨(some 81), .bin .neq (.t 78) (.t 80), none⟩,
  ⟨(some 82), .mv (.t 81), none⟩,
  ⟨(some 83), .mv (.t 9), (some (82, false))⟩,
  ⟨(some 84), .fad 4 (.t 5), (some (82, false))⟩,
  ⟨(some 85), .load false 1 (.t 84), (some (82, false))⟩,
  ⟨(some 86), .bin .neq (.t 83) (.t 85), (some (82, false))⟩,
  ⟨(some 87), .pick (.t 82) (.k (D.bool true)) (.t 86), none⟩])
 (.cond (.t 87)
 (.reg [⟨(some 88), .mv (.t 7), none⟩,
  ⟨(some 89), .mv (.t 0), none⟩,
  ⟨(some 90), .fad 3 (.t 5), none⟩,
  ⟨(some 91), .load false 1 (.t 90), none⟩,
  ⟨(some 92), .fad 4 (.t 5), none⟩,
  ⟨(some 93), .load false 1 (.t 92), none⟩,
  ⟨(some 94), .call false 364 [(.t 89), (.t 91), (.t 93)], none⟩,
  ⟨(some 95), .append 1 1 (.t 88) (.t 94), none⟩,
  ⟨(some 7), .mv (.t 95), none⟩])
 .skip))
 (.seq (.seq (.reg [⟨(some 96), .fad 17 (.t 4), none⟩,
  ⟨(some 97), .load false 1 (.t 96), none⟩,
  ⟨(some 98), .fad 5 (.t 5), none⟩,
  ⟨(some 99), .load false 1 (.t 98), none⟩,
  ⟨(some 100), .binb .neq (.t 97) (.t 99), none⟩])
 (.cond (.t 100)
 (.reg [⟨(some 101), .mv (.t 7), none⟩,
  ⟨(some 102), .mv (.t 0), none⟩,
  ⟨(some 103), .fad 5 (.t 5), none⟩,
  ⟨(some 104), .load false 1 (.t 103), none⟩,
  ⟨(some 105), .call false 363 [(.t 102), (.k (D.int .i64 (25))), (.t 104)], none⟩,
  ⟨(some 106), .append 1 1 (.t 101) (.t 105), none⟩,
  ⟨(some 7), .mv (.t 106), none⟩])
 .skip))
 (.seq (.reg [⟨(some 107), .mv (.t 7), none⟩,
  ⟨(some 6), .mv (.t 107), none⟩])
 .ret)))))))))⟩
def a253 : Ann := ⟨[], [⟨false, 0, false⟩], []⟩
def s253 : SFun := ⟨1, 17, [], [(.tmp 2, ⟨false, 0, false⟩)],
 (.seq (.reg [⟨(some 2), .mv (.k (D.bool false)), none⟩])
 (.seq (.reg [⟨(some 3), .mv (.t 0), none⟩,
  ⟨(some 4), .bin .lss (.t 3) (.k (D.int .u8 (32))), none⟩,
  ⟨(some 5), .mv (.t 4), none⟩,
  ⟨(some 6), .mv (.t 0), (some (5, true))⟩,
  ⟨(some 7), .bin .neq (.t 6) (.k (D.int .u8 (24))), (some (5, true))⟩,
  ⟨(some 8), .pick (.t 5) (.t 7) (.k (D.bool false)), none⟩,
  ⟨(some 9), .mv (.t 8), none⟩,
  ⟨(some 10), .mv (.t 0), (some (9, true))⟩,
  ⟨(some 11), .bin .neq (.t 10) (.k (D.int .u8 (26))), (some (9, true))⟩,
  ⟨(some 12), .pick (.t 9) (.t 11) (.k (D.bool false)), none⟩,
  ⟨(some 13), .mv (.t 12), none⟩,
  ⟨(some 14), .mv (.t 0), (some (13, true))⟩,
  ⟨(some 15), .bin .neq (.t 14) (.k (D.int .u8 (27))), (some (13, true))⟩,
  ⟨(some 16), .pick (.t 13) (.t 15) (.k (D.bool false)), none⟩,
  ⟨(some 2), .mv (.t 16), none⟩])
 .ret))⟩
def a8 : Ann := ⟨[(1, [(2, ⟨false, 0, false⟩), (3, ⟨false, 0, false⟩), (0, ⟨true, 0, false⟩)])], [⟨false, 0, false⟩, ⟨false, 0, false⟩], [0]⟩
def s8 : SFun := ⟨1, 85, [0], [(.tmp 2, ⟨false, 0, false⟩), (.tmp 3, ⟨false, 0, false⟩)],
 (.seq (.reg [⟨(some 2), .mv (.k (D.int .u8 (0))), none⟩,
  ⟨(some 3), .mv (.k (D.bool false)), none⟩])
 (.seq (.block 0 (.loop [(2, ⟨false, 0, false⟩), (3, ⟨false, 0, false⟩), (0, ⟨true, 0, false⟩)]
 (.seq (.seq (.dreg [([], false, ⟨(some 5), .mv (.t 0), none⟩),
  ([], false, ⟨(some 6), .nilc (.t 5), none⟩),
  ([], false, ⟨(some 7), .fad 1 (.t 6), none⟩),
  ([], false, ⟨(some 8), .load false 1 (.t 7), none⟩),
  ([0, 1, 2, 3], false, ⟨(some 9), .mv (.t 0), none⟩),
  ([0, 1, 2, 3], false, ⟨(some 10), .nilc (.t 9), none⟩),
  ([0, 1, 2, 3], false, ⟨(some 11), .fad 0 (.t 10), none⟩),
  ([0, 1, 2, 3], false, ⟨(some 12), .load false 1 (.t 11), none⟩),
  ([0, 1, 2, 3], false, ⟨(some 13), .len (.t 12), none⟩),
  ([], true, ⟨(some 14), .bin .lss (.t 8) (.t 13), none⟩)])
 (.cond (.t 14)
 .skip
 (.exit 0)))
 (.block 1 (.seq (.dreg [([], false, ⟨(some 15), .mv (.t 0), none⟩),
  ([], false, ⟨(some 16), .nilc (.t 15), none⟩),
  ([], false, ⟨(some 17), .fad 0 (.t 16), none⟩),
  ([], false, ⟨(some 18), .load false 1 (.t 17), none⟩),
  ([0, 1, 2, 3], false, ⟨(some 19), .mv (.t 0), none⟩),
  ([0, 1, 2, 3], false, ⟨(some 20), .nilc (.t 19), none⟩),
  ([0, 1, 2, 3], false, ⟨(some 21), .fad 1 (.t 20), none⟩),
  ([0, 1, 2, 3], false, ⟨(some 22), .load false 1 (.t 21), none⟩),
  ([], true, ⟨(some 23), .ixs 1 (.t 18) (.t 22), none⟩),
  ([], true, ⟨(some 24), .load false 1 (.t 23), none⟩),
  ([], true, ⟨(some 4), .mv (.t 24), none⟩)])
 (.block 2 (.seq (.reg [⟨(some 34), .mv (.t 4), none⟩,
  ⟨(some 35), .bin .eql (.t 34) (.k (D.int .u8 (24))), none⟩,
  ⟨(some 36), .mv (.t 35), none⟩,
  ⟨(some 37), .mv (.t 4), (some (36, false))⟩,
  ⟨(some 38), .bin .eql (.t 37) (.k (D.int .u8 (26))), (some (36, false))⟩,
  ⟨(some 39), .pick (.t 36) (.k (D.bool true)) (.t 38), none⟩,
  ⟨(some 33), .mv (.t 39), none⟩])
 (.cond (.t 33)
 (.seq (.reg [⟨(some 40), .mv (.t 0), none⟩,
  ⟨(some 41), .nilc (.t 40), none⟩,
  ⟨(some 42), .fad 1 (.t 41), none⟩,
  ⟨(some 43), .load false 1 (.t 42), none⟩,
  ⟨(some 44), .bin .add (.t 43) (.k (D.int .i64 (1))), none⟩,
  ⟨(some 45), .nilc (.t 40), none⟩,
  ⟨(some 46), .fad 1 (.t 45), none⟩,
  ⟨none, .store 1 (.t 46) (.t 44), none⟩])
 (.seq (.reg [⟨(some 2), .mv (.k (D.int .u8 (0))), none⟩,
  ⟨(some 3), .mv (.k (D.bool false)), none⟩])
 .ret))
 (.seq (.reg [⟨(some 48), .mv (.t 4), none⟩,
  ⟨(some 49), .bin .eql (.t 48) (.k (D.int .u8 (27))), none⟩,
  ⟨(some 50), .mv (.t 49), none⟩,
  ⟨(some 51), .mv (.t 4), (some (50, false))⟩,
  ⟨(some 52), .bin .geq (.t 51) (.k (D.int .u8 (128))), (some (50, false))⟩,
  ⟨(some 53), .pick (.t 50) (.k (D.bool true)) (.t 52), none⟩,
  ⟨(some 47), .mv (.t 53), none⟩])
 (.cond (.t 47)
 (.seq (.reg [⟨(some 2), .mv (.k (D.int .u8 (0))), none⟩,
  ⟨(some 3), .mv (.k (D.bool false)), none⟩])
 .ret)
 (.seq (.reg [⟨(some 55), .mv (.t 4), none⟩,
  ⟨(some 56), .bin .eql (.t 55) (.k (D.int .u8 (127))), none⟩,
  ⟨(some 54), .mv (.t 56), none⟩])
 (.cond (.t 54)
 (.reg [⟨(some 57), .mv (.t 0), none⟩,
  ⟨(some 58), .nilc (.t 57), none⟩,
  ⟨(some 59), .fad 1 (.t 58), none⟩,
  ⟨(some 60), .load false 1 (.t 59), none⟩,
  ⟨(some 61), .bin .add (.t 60) (.k (D.int .i64 (1))), none⟩,
  ⟨(some 62), .nilc (.t 57), none⟩,
  ⟨(some 63), .fad 1 (.t 62), none⟩,
  ⟨none, .store 1 (.t 63) (.t 61), none⟩])
 (.seq (.reg [⟨(some 65), .mv (.t 4), none⟩,
  ⟨(some 66), .call false 253 [(.t 65)], none⟩,
  ⟨(some 64), .mv (.t 66), none⟩])
 (.cond (.t 64)
 (.seq (.reg [⟨(some 67), .mv (.t 0), none⟩,
  ⟨(some 68), .mv (.t 0), none⟩,
  ⟨(some 69), .nilc (.t 68), none⟩,
  ⟨(some 70), .fad 2 (.t 69), none⟩,
  ⟨(some 71), .load false 1 (.t 70), none⟩,
  ⟨(some 72), .mv (.t 4), none⟩,
  ⟨(some 73), .build [(D.int .i64 (0)), (D.int .i32 (0)), (D.int .u8 (0)), (D.int .u8 (0)), (D.int .u8 (0)), .sn, (D.str [])] [(0, 1, (.k (D.int .i64 (2)))), (4, 1, (.t 72))], none⟩,
  ⟨(some 74), .bsl false 7 1 [(D.int .i64 (0)), (D.int .i32 (0)), (D.int .u8 (0)), (D.int .u8 (0)), (D.int .u8 (0)), .sn, (D.str [])] [(0, (.t 73))], none⟩,
  ⟨(some 75), .append 7 56 (.t 71) (.t 74), none⟩,
  ⟨(some 76), .nilc (.t 67), none⟩,
  ⟨(some 77), .fad 2 (.t 76), none⟩,
  ⟨none, .store 1 (.t 77) (.t 75), none⟩])
 (.reg [⟨(some 78), .mv (.t 0), none⟩,
  ⟨(some 79), .nilc (.t 78), none⟩,
  ⟨(some 80), .fad 1 (.t 79), none⟩,
  ⟨(some 81), .load false 1 (.t 80), none⟩,
  ⟨(some 82), .bin .add (.t 81) (.k (D.int .i64 (1))), none⟩,
  ⟨(some 83), .nilc (.t 78), none⟩,
  ⟨(some 84), .fad 1 (.t 83), none⟩,
  ⟨none, .store 1 (.t 84) (.t 82), none⟩]))
 (.seq (.reg [⟨(some 25), .mv (.t 0), none⟩,
  ⟨(some 26), .nilc (.t 25), none⟩,
  ⟨(some 27), .fad 1 (.t 26), none⟩,
  ⟨(some 28), .load false 1 (.t 27), none⟩,
  ⟨(some 29), .bin .add (.t 28) (.k (D.int .i64 (1))), none⟩,
  ⟨(some 30), .nilc (.t 25), none⟩,
  ⟨(some 31), .fad 1 (.t 30), none⟩,
  ⟨none, .store 1 (.t 31) (.t 29), none⟩])
 (.seq (.reg [⟨(some 32), .mv (.t 4), none⟩,
  ⟨(some 2), .mv (.t 32), none⟩,
  ⟨(some 3), .mv (.k (D.bool true)), none⟩])
 .ret))))))))))))))))
 (.seq (.reg [⟨(some 2), .mv (.k (D.int .u8 (0))), none⟩,
  ⟨(some 3), .mv (.k (D.bool false)), none⟩])
 .ret)))⟩
end Go.Proofs.YtbpaojgkkggcgabGreatDoor.LgTPlanRuns
