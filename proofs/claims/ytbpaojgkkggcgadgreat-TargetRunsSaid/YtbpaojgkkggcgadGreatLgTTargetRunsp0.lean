import Derived.Test.YtbpaojgkkggcgadGreatRows
import Derived.Test.YtbpaojgkkggcgadGreatLgW1
import Derived.RowKit
/-
  The seat's functions, as this work's tool printed them.
-/
namespace Go.Proofs.YtbpaojgkkggcgadGreat.LgTTargetRuns
open Go Lg
set_option maxRecDepth 100000
def a134 : Ann := ⟨[], [⟨false, 0, false⟩], []⟩
def s134 : SFun := ⟨1, 9, [], [(.tmp 2, ⟨false, 0, false⟩)],
 (.seq (.reg [⟨(some 2), .mv (.k (D.bool false)), none⟩])
 (.seq (.reg [⟨(some 3), .mv (.t 0), none⟩,
  ⟨(some 4), .bin .geq (.t 3) (.k (D.int .i64 (1))), none⟩,
  ⟨(some 5), .mv (.t 4), none⟩,
  ⟨(some 6), .mv (.t 0), (some (5, true))⟩,
  ⟨(some 7), .bin .leq (.t 6) (.k (D.int .i64 (3))), (some (5, true))⟩,
  ⟨(some 8), .pick (.t 5) (.t 7) (.k (D.bool false)), none⟩,
  ⟨(some 2), .mv (.t 8), none⟩])
 .ret))⟩
def a107 : Ann := ⟨[], [⟨false, 0, false⟩], []⟩
def s107 : SFun := ⟨0, 2, [], [(.cell 0 true 3, ⟨false, 0, false⟩)],
 (.seq (.reg [⟨(some 0), .alloc [(D.int .i64 (0)), (D.int .i64 (0)), (D.int .i64 (0))], none⟩])
 (.seq (.reg [⟨(some 1), .build [(D.int .i64 (0)), (D.int .i64 (0)), (D.int .i64 (0))] [(0, 1, (.k (D.int .i64 (-1)))), (1, 1, (.k (D.int .i64 (-1))))], none⟩,
  ⟨none, .store 3 (.t 0) (.t 1), none⟩])
 .ret))⟩
def a106 : Ann := ⟨[], [⟨false, 0, false⟩], []⟩
def s106 : SFun := ⟨1, 5, [], [(.cell 2 true 5, ⟨false, 0, false⟩)],
 (.seq (.reg [⟨(some 1), .box 3 (.t 0), none⟩,
  ⟨(some 2), .alloc [(D.int .i32 (0)), (D.int .i64 (0)), (D.int .i64 (0)), (D.int .i64 (0)), (D.int .i64 (0))], none⟩])
 (.seq (.reg [⟨(some 3), .load true 3 (.t 1), none⟩,
  ⟨(some 4), .build [(D.int .i32 (0)), (D.int .i64 (0)), (D.int .i64 (0)), (D.int .i64 (0)), (D.int .i64 (0))] [(0, 1, (.k (D.int .i32 (32)))), (2, 3, (.t 3))], none⟩,
  ⟨none, .store 5 (.t 2) (.t 4), none⟩])
 .ret))⟩
def a444 : Ann := ⟨[], [⟨false, 0, false⟩, ⟨false, 0, false⟩], []⟩
def s444 : SFun := ⟨2, 17, [], [(.tmp 4, ⟨false, 0, false⟩), (.tmp 5, ⟨false, 0, false⟩)],
 (.seq (.reg [⟨(some 4), .mv (.k (D.int .u32 (0))), none⟩,
  ⟨(some 5), .mv (.k (D.int .u32 (0))), none⟩])
 (.seq (.reg [⟨(some 7), .mv (.t 0), none⟩,
  ⟨(some 8), .cvi .u64 (.t 7), none⟩,
  ⟨(some 9), .mv (.t 1), none⟩,
  ⟨(some 10), .cvi .u64 (.t 9), none⟩,
  ⟨(some 11), .bin .mul (.t 8) (.t 10), none⟩,
  ⟨(some 6), .mv (.t 11), none⟩])
 (.seq (.reg [⟨(some 12), .mv (.t 6), none⟩,
  ⟨(some 13), .bin .shr (.t 12) (.k (D.int .u64 (32))), none⟩,
  ⟨(some 14), .cvi .u32 (.t 13), none⟩,
  ⟨(some 15), .mv (.t 6), none⟩,
  ⟨(some 16), .cvi .u32 (.t 15), none⟩,
  ⟨(some 4), .mv (.t 14), none⟩,
  ⟨(some 5), .mv (.t 16), none⟩])
 .ret)))⟩
def a445 : Ann := ⟨[], [⟨false, 0, false⟩, ⟨false, 0, false⟩], []⟩
def s445 : SFun := ⟨2, 51, [], [(.tmp 4, ⟨false, 0, false⟩), (.tmp 5, ⟨false, 0, false⟩)],
 (.seq (.reg [⟨(some 4), .mv (.k (D.int .u64 (0))), none⟩,
  ⟨(some 5), .mv (.k (D.int .u64 (0))), none⟩])
 (.seq (.reg [⟨(some 14), .mv (.t 0), none⟩,
  ⟨(some 15), .bin .and (.t 14) (.k (D.int .u64 (4294967295))), none⟩,
  ⟨(some 6), .mv (.t 15), none⟩])
 (.seq (.reg [⟨(some 16), .mv (.t 0), none⟩,
  ⟨(some 17), .bin .shr (.t 16) (.k (D.int .u64 (32))), none⟩,
  ⟨(some 7), .mv (.t 17), none⟩])
 (.seq (.reg [⟨(some 18), .mv (.t 1), none⟩,
  ⟨(some 19), .bin .and (.t 18) (.k (D.int .u64 (4294967295))), none⟩,
  ⟨(some 8), .mv (.t 19), none⟩])
 (.seq (.reg [⟨(some 20), .mv (.t 1), none⟩,
  ⟨(some 21), .bin .shr (.t 20) (.k (D.int .u64 (32))), none⟩,
  ⟨(some 9), .mv (.t 21), none⟩])
 (.seq (.reg [⟨(some 22), .mv (.t 6), none⟩,
  ⟨(some 23), .mv (.t 8), none⟩,
  ⟨(some 24), .bin .mul (.t 22) (.t 23), none⟩,
  ⟨(some 10), .mv (.t 24), none⟩])
 (.seq (.reg [⟨(some 25), .mv (.t 7), none⟩,
  ⟨(some 26), .mv (.t 8), none⟩,
  ⟨(some 27), .bin .mul (.t 25) (.t 26), none⟩,
  ⟨(some 28), .mv (.t 10), none⟩,
  ⟨(some 29), .bin .shr (.t 28) (.k (D.int .u64 (32))), none⟩,
  ⟨(some 30), .bin .add (.t 27) (.t 29), none⟩,
  ⟨(some 11), .mv (.t 30), none⟩])
 (.seq (.reg [⟨(some 31), .mv (.t 11), none⟩,
  ⟨(some 32), .bin .and (.t 31) (.k (D.int .u64 (4294967295))), none⟩,
  ⟨(some 12), .mv (.t 32), none⟩])
 (.seq (.reg [⟨(some 33), .mv (.t 11), none⟩,
  ⟨(some 34), .bin .shr (.t 33) (.k (D.int .u64 (32))), none⟩,
  ⟨(some 13), .mv (.t 34), none⟩])
 (.seq (.reg [⟨(some 35), .mv (.t 12), none⟩,
  ⟨(some 36), .mv (.t 6), none⟩,
  ⟨(some 37), .mv (.t 9), none⟩,
  ⟨(some 38), .bin .mul (.t 36) (.t 37), none⟩,
  ⟨(some 39), .bin .add (.t 35) (.t 38), none⟩,
  ⟨(some 12), .mv (.t 39), none⟩])
 (.seq (.reg [⟨(some 40), .mv (.t 7), none⟩,
  ⟨(some 41), .mv (.t 9), none⟩,
  ⟨(some 42), .bin .mul (.t 40) (.t 41), none⟩,
  ⟨(some 43), .mv (.t 13), none⟩,
  ⟨(some 44), .bin .add (.t 42) (.t 43), none⟩,
  ⟨(some 45), .mv (.t 12), none⟩,
  ⟨(some 46), .bin .shr (.t 45) (.k (D.int .u64 (32))), none⟩,
  ⟨(some 47), .bin .add (.t 44) (.t 46), none⟩,
  ⟨(some 4), .mv (.t 47), none⟩])
 (.seq (.reg [⟨(some 48), .mv (.t 0), none⟩,
  ⟨(some 49), .mv (.t 1), none⟩,
  ⟨(some 50), .bin .mul (.t 48) (.t 49), none⟩,
  ⟨(some 5), .mv (.t 50), none⟩])
 .ret))))))))))))⟩
def a443 : Ann := ⟨[], [⟨false, 0, false⟩, ⟨false, 0, false⟩], []⟩
def s443 : SFun := ⟨2, 30, [], [(.tmp 4, ⟨false, 0, false⟩), (.tmp 5, ⟨false, 0, false⟩)],
 (.seq (.reg [⟨(some 4), .mv (.k (D.int .u64 (0))), none⟩,
  ⟨(some 5), .mv (.k (D.int .u64 (0))), none⟩])
 (.seq (.cond (.k (D.bool false))
 (.seq (.reg [⟨(some 11), .mv (.t 0), none⟩,
  ⟨(some 12), .cvi .u32 (.t 11), none⟩,
  ⟨(some 13), .mv (.t 1), none⟩,
  ⟨(some 14), .cvi .u32 (.t 13), none⟩,
  ⟨(some 15), .call false 444 [(.t 12), (.t 14)], none⟩,
  ⟨(some 10), .mv (.t 15), none⟩,
  ⟨(some 16), .ext (.t 10) 0, none⟩,
  ⟨(some 17), .ext (.t 10) 1, none⟩,
  ⟨(some 6), .mv (.t 16), none⟩,
  ⟨(some 7), .mv (.t 17), none⟩])
 (.seq (.reg [⟨(some 18), .mv (.t 6), none⟩,
  ⟨(some 19), .cvi .u64 (.t 18), none⟩,
  ⟨(some 20), .mv (.t 7), none⟩,
  ⟨(some 21), .cvi .u64 (.t 20), none⟩,
  ⟨(some 4), .mv (.t 19), none⟩,
  ⟨(some 5), .mv (.t 21), none⟩])
 .ret))
 .skip)
 (.seq (.reg [⟨(some 23), .mv (.t 0), none⟩,
  ⟨(some 24), .mv (.t 1), none⟩,
  ⟨(some 25), .call false 445 [(.t 23), (.t 24)], none⟩,
  ⟨(some 22), .mv (.t 25), none⟩,
  ⟨(some 26), .ext (.t 22) 0, none⟩,
  ⟨(some 27), .ext (.t 22) 1, none⟩,
  ⟨(some 8), .mv (.t 26), none⟩,
  ⟨(some 9), .mv (.t 27), none⟩])
 (.seq (.reg [⟨(some 28), .mv (.t 8), none⟩,
  ⟨(some 29), .mv (.t 9), none⟩,
  ⟨(some 4), .mv (.t 28), none⟩,
  ⟨(some 5), .mv (.t 29), none⟩])
 .ret))))⟩
def a465 : Ann := ⟨[(8, [(8, ⟨false, 0, false⟩), (7, ⟨true, 5, false⟩)])], [⟨true, 5, false⟩], []⟩
def s465 : SFun := ⟨2, 48, [], [(.tmp 4, ⟨true, 5, false⟩)],
 (.seq (.reg [⟨(some 4), .mv (.k .sn), none⟩])
 (.seq (.seq (.reg [⟨(some 9), .mv (.t 1), none⟩,
  ⟨(some 10), .bin .lss (.t 9) (.k (D.int .i64 (0))), none⟩])
 (.cond (.t 10)
 (.reg [⟨(some 11), .bad, none⟩,
  ⟨none, .bad, none⟩])
 .skip))
 (.seq (.reg [⟨(some 13), .mv (.t 0), none⟩,
  ⟨(some 14), .len (.t 13), none⟩,
  ⟨(some 15), .cvi .u64 (.t 14), none⟩,
  ⟨(some 16), .mv (.t 1), none⟩,
  ⟨(some 17), .cvi .u64 (.t 16), none⟩,
  ⟨(some 18), .call false 443 [(.t 15), (.t 17)], none⟩,
  ⟨(some 12), .mv (.t 18), none⟩,
  ⟨(some 19), .ext (.t 12) 0, none⟩,
  ⟨(some 20), .ext (.t 12) 1, none⟩,
  ⟨(some 5), .mv (.t 19), none⟩,
  ⟨(some 6), .mv (.t 20), none⟩])
 (.seq (.seq (.reg [⟨(some 21), .mv (.t 5), none⟩,
  ⟨(some 22), .bin .gtr (.t 21) (.k (D.int .u64 (0))), none⟩,
  ⟨(some 23), .mv (.t 22), none⟩,
  ⟨(some 24), .mv (.t 6), (some (23, false))⟩,
  ⟨(some 25), .bin .gtr (.t 24) (.k (D.int .u64 (9223372036854775807))), (some (23, false))⟩,
  ⟨(some 26), .pick (.t 23) (.k (D.bool true)) (.t 25), none⟩])
 (.cond (.t 26)
 (.reg [⟨(some 27), .bad, none⟩,
  ⟨none, .bad, none⟩])
 .skip))
 (.seq (.reg [⟨(some 28), .mv (.t 6), none⟩,
  ⟨(some 29), .cvi .i64 (.t 28), none⟩,
  ⟨(some 30), .mksl 5 40 [(D.int .i32 (0)), (D.int .i64 (0)), (D.int .i64 (0)), (D.int .i64 (0)), (D.int .i64 (0))] (.t 29), none⟩,
  ⟨(some 7), .mv (.t 30), none⟩])
 (.seq (.reg [⟨(some 31), .mv (.t 7), none⟩,
  ⟨(some 32), .mv (.t 0), none⟩,
  ⟨(some 33), .copy 5 (.t 31) (.t 32), none⟩,
  ⟨(some 8), .mv (.t 33), none⟩])
 (.seq (.block 0 (.loop [(8, ⟨false, 0, false⟩), (7, ⟨true, 5, false⟩)]
 (.seq (.seq (.reg [⟨(some 34), .mv (.t 8), none⟩,
  ⟨(some 35), .mv (.t 7), none⟩,
  ⟨(some 36), .len (.t 35), none⟩,
  ⟨(some 37), .bin .lss (.t 34) (.t 36), none⟩])
 (.cond (.t 37)
 .skip
 (.exit 0)))
 (.block 1 (.dreg [([], false, ⟨(some 38), .mv (.t 8), none⟩),
  ([0], false, ⟨(some 39), .mv (.t 7), none⟩),
  ([0, 1], false, ⟨(some 40), .mv (.t 8), none⟩),
  ([0], false, ⟨(some 41), .slc 5 (.t 39) (some (.t 40)) none, none⟩),
  ([0, 1, 2, 3], false, ⟨(some 42), .mv (.t 7), none⟩),
  ([0, 1, 2, 3, 4], false, ⟨(some 43), .mv (.t 8), none⟩),
  ([0, 1, 2, 3], false, ⟨(some 44), .slc 5 (.t 42) none (some (.t 43)), none⟩),
  ([0], false, ⟨(some 45), .copy 5 (.t 41) (.t 44), none⟩),
  ([], true, ⟨(some 46), .bin .add (.t 38) (.t 45), none⟩),
  ([], true, ⟨(some 8), .mv (.t 46), none⟩)])))))
 (.seq (.reg [⟨(some 47), .mv (.t 7), none⟩,
  ⟨(some 4), .mv (.t 47), none⟩])
 .ret))))))))⟩
def a151 : Ann := ⟨[], [⟨true, 0, false⟩], []⟩
def s151 : SFun := ⟨3, 23, [], [(.cell 6 true 3, ⟨true, 0, false⟩)],
 (.seq (.reg [⟨(some 5), .box 3 (.t 2), none⟩,
  ⟨(some 6), .alloc [(D.int .i64 (0)), (D.int .i64 (0)), .sn], none⟩])
 (.seq (.reg [⟨(some 7), .mv (.t 0), none⟩,
  ⟨(some 8), .mn [(.t 7), (.k (D.int .i64 (40)))], none⟩,
  ⟨(some 9), .mx [(.k (D.int .i64 (1))), (.t 8)], none⟩,
  ⟨(some 10), .mv (.t 1), none⟩,
  ⟨(some 11), .mn [(.t 10), (.k (D.int .i64 (60)))], none⟩,
  ⟨(some 12), .mx [(.k (D.int .i64 (1))), (.t 11)], none⟩,
  ⟨(some 0), .mv (.t 9), none⟩,
  ⟨(some 1), .mv (.t 12), none⟩])
 (.seq (.reg [⟨(some 13), .mv (.t 0), none⟩,
  ⟨(some 14), .mv (.t 1), none⟩,
  ⟨(some 15), .load true 3 (.t 5), none⟩,
  ⟨(some 16), .call false 106 [(.t 15)], none⟩,
  ⟨(some 17), .bsl false 5 1 [(D.int .i32 (0)), (D.int .i64 (0)), (D.int .i64 (0)), (D.int .i64 (0)), (D.int .i64 (0))] [(0, (.t 16))], none⟩,
  ⟨(some 18), .mv (.t 0), none⟩,
  ⟨(some 19), .mv (.t 1), none⟩,
  ⟨(some 20), .bin .mul (.t 18) (.t 19), none⟩,
  ⟨(some 21), .call false 465 [(.t 17), (.t 20)], none⟩,
  ⟨(some 22), .build [(D.int .i64 (0)), (D.int .i64 (0)), .sn] [(0, 1, (.t 13)), (1, 1, (.t 14)), (2, 1, (.t 21))], none⟩,
  ⟨none, .store 3 (.t 6) (.t 22), none⟩])
 .ret)))⟩
def a422 : Ann := ⟨[], [⟨false, 0, false⟩], []⟩
def s422 : SFun := ⟨1, 11, [], [(.tmp 2, ⟨false, 0, false⟩)],
 (.seq (.reg [⟨(some 2), .mv (.k (D.int .u64 (0))), none⟩])
 (.seq (.seq (.reg [⟨(some 3), .mv (.t 0), none⟩,
  ⟨(some 4), .bin .lss (.t 3) (.k (D.int .i64 (0))), none⟩,
  ⟨(some 5), .mv (.t 4), none⟩,
  ⟨(some 6), .mv (.t 0), (some (5, false))⟩,
  ⟨(some 7), .bin .geq (.t 6) (.k (D.int .i64 (64))), (some (5, false))⟩,
  ⟨(some 8), .pick (.t 5) (.k (D.bool true)) (.t 7), none⟩])
 (.cond (.t 8)
 (.seq (.reg [⟨(some 2), .mv (.k (D.int .u64 (0))), none⟩])
 .ret)
 .skip))
 (.seq (.reg [⟨(some 9), .mv (.t 0), none⟩,
  ⟨(some 10), .bin .shl (.k (D.int .u64 (1))) (.t 9), none⟩,
  ⟨(some 2), .mv (.t 10), none⟩])
 .ret)))⟩
def a419 : Ann := ⟨[(3, [(0, ⟨false, 0, false⟩), (3, ⟨false, 0, false⟩), (4, ⟨false, 0, false⟩)])], [⟨false, 0, false⟩], []⟩
def s419 : SFun := ⟨1, 16, [], [(.tmp 2, ⟨false, 0, false⟩)],
 (.seq (.reg [⟨(some 2), .mv (.k (D.int .u64 (0))), none⟩])
 (.seq (.reg [⟨(some 3), .mv (.k (D.int .u64 (0))), none⟩])
 (.seq (.seq (.reg [⟨(some 4), .mv (.k (D.int .i64 (8))), none⟩])
 (.block 0 (.loop [(0, ⟨false, 0, false⟩), (3, ⟨false, 0, false⟩), (4, ⟨false, 0, false⟩)]
 (.seq (.seq (.reg [⟨(some 5), .mv (.t 4), none⟩,
  ⟨(some 6), .mv (.t 0), none⟩,
  ⟨(some 7), .mn [(.t 6), (.k (D.int .i64 (64)))], none⟩,
  ⟨(some 8), .bin .lss (.t 5) (.t 7), none⟩])
 (.cond (.t 8)
 .skip
 (.exit 0)))
 (.seq (.block 1 (.reg [⟨(some 11), .mv (.t 3), none⟩,
  ⟨(some 12), .mv (.t 4), none⟩,
  ⟨(some 13), .call false 422 [(.t 12)], none⟩,
  ⟨(some 14), .bin .or (.t 11) (.t 13), none⟩,
  ⟨(some 3), .mv (.t 14), none⟩]))
 (.reg [⟨(some 9), .mv (.t 4), none⟩,
  ⟨(some 10), .bin .add (.t 9) (.k (D.int .i64 (8))), none⟩,
  ⟨(some 4), .mv (.t 10), none⟩]))))))
 (.seq (.reg [⟨(some 15), .mv (.t 3), none⟩,
  ⟨(some 2), .mv (.t 15), none⟩])
 .ret))))⟩
def a372 : Ann := ⟨[], [⟨false, 0, false⟩], []⟩
def s372 : SFun := ⟨2, 25, [], [(.cell 4 true 29, ⟨false, 0, false⟩)],
 (.seq (.reg [⟨(some 4), .alloc [(D.int .i64 (0)), (D.int .i64 (0)), .sn, (D.int .i64 (0)), (D.int .i64 (0)), (D.bool false), (D.int .i64 (0)), (D.int .i64 (0)), (D.int .i64 (0)), (D.int .i64 (0)), (D.int .i64 (0)), (D.int .u64 (0)), (D.int .u8 (0)), (D.int .u8 (0)), (D.int .i64 (0)), (D.bool false), (D.bool false), (D.bool false), (D.bool false), (D.bool false), (D.int .i64 (0)), (D.int .i64 (0)), (D.int .i64 (0)), (D.int .i64 (0)), (D.int .i64 (0)), (D.int .u8 (0)), (D.int .u8 (0)), (D.int .i64 (0)), (D.bool false)], none⟩])
 (.seq (.reg [⟨(some 7), .mv (.t 0), none⟩,
  ⟨(some 8), .mv (.t 1), none⟩,
  ⟨(some 9), .call false 107 [], none⟩,
  ⟨(some 10), .call false 151 [(.t 7), (.t 8), (.t 9)], none⟩,
  ⟨(some 5), .alloc [(D.int .i64 (0)), (D.int .i64 (0)), .sn], none⟩,
  ⟨none, .store 3 (.t 5) (.t 10), none⟩])
 (.seq (.reg [⟨(some 11), .build [(D.int .u8 (0)), (D.int .u8 (0))] [(0, 1, (.k (D.int .u8 (66)))), (1, 1, (.k (D.int .u8 (66))))], none⟩,
  ⟨(some 6), .alloc [(D.int .u8 (0)), (D.int .u8 (0))], none⟩,
  ⟨none, .store 2 (.t 6) (.t 11), none⟩])
 (.seq (.dreg [([], false, ⟨(some 12), .load true 3 (.t 5), none⟩),
  ([0], false, ⟨(some 13), .fad 0 (.t 5), none⟩),
  ([0], false, ⟨(some 14), .load false 1 (.t 13), none⟩),
  ([0], false, ⟨(some 15), .bin .sub (.t 14) (.k (D.int .i64 (1))), none⟩),
  ([0, 1, 2, 3], false, ⟨(some 16), .callr 107 [], none⟩),
  ([0, 1, 2, 3, 4], false, ⟨(some 17), .fad 1 (.t 5), none⟩),
  ([0, 1, 2, 3, 4], false, ⟨(some 18), .load false 1 (.t 17), none⟩),
  ([0, 1, 2, 3], false, ⟨(some 19), .callr 419 [(.t 18)], none⟩),
  ([0, 1, 2, 3, 4, 5, 6, 7], false, ⟨(some 20), .load true 2 (.t 6), none⟩),
  ([0, 1, 2, 3, 8], false, ⟨(some 21), .callr 107 [], none⟩),
  ([0, 1, 2, 3, 4, 5, 6, 7, 8, 9], false, ⟨(some 22), .load true 2 (.t 6), none⟩),
  ([0, 1, 2, 3, 8], false, ⟨(some 23), .build [(D.int .i64 (0)), (D.int .i64 (0)), (D.int .i64 (0)), (D.int .i64 (0)), (D.int .i64 (0)), (D.int .u8 (0)), (D.int .u8 (0)), (D.int .i64 (0)), (D.bool false)] [(2, 3, (.t 21)), (5, 2, (.t 22))], none⟩),
  ([], true, ⟨(some 24), .build [(D.int .i64 (0)), (D.int .i64 (0)), .sn, (D.int .i64 (0)), (D.int .i64 (0)), (D.bool false), (D.int .i64 (0)), (D.int .i64 (0)), (D.int .i64 (0)), (D.int .i64 (0)), (D.int .i64 (0)), (D.int .u64 (0)), (D.int .u8 (0)), (D.int .u8 (0)), (D.int .i64 (0)), (D.bool false), (D.bool false), (D.bool false), (D.bool false), (D.bool false), (D.int .i64 (0)), (D.int .i64 (0)), (D.int .i64 (0)), (D.int .i64 (0)), (D.int .i64 (0)), (D.int .u8 (0)), (D.int .u8 (0)), (D.int .i64 (0)), (D.bool false)] [(0, 3, (.t 12)), (7, 1, (.t 15)), (8, 3, (.t 16)), (11, 1, (.t 19)), (12, 2, (.t 20)), (15, 1, (.k (D.bool true))), (17, 1, (.k (D.bool true))), (20, 9, (.t 23))], none⟩),
  ([], true, ⟨none, .store 29 (.t 4) (.t 24), none⟩)])
 .ret))))⟩
def a338 : Ann := ⟨[], [⟨true, 0, false⟩], []⟩
def s338 : SFun := ⟨0, 3, [], [(.tmp 0, ⟨true, 0, false⟩)],
 (.seq (.reg [⟨(some 0), .mv (.k .nl), none⟩])
 (.seq (.reg [⟨(some 1), .build [(D.int .i64 (0)), (D.int .i64 (0)), (D.int .i64 (0)), (D.int .i64 (0)), .sn, (D.bool false), (D.int .u8 (0)), .sn, (D.bool false), (D.bool false), .sn, (D.bool false)] [], none⟩,
  ⟨(some 2), .box 12 (.t 1), none⟩,
  ⟨(some 0), .mv (.t 2), none⟩])
 .ret))⟩
def a424 : Ann := ⟨[], [⟨true, 0, false⟩], []⟩
def s424 : SFun := ⟨3, 22, [], [(.tmp 6, ⟨true, 0, false⟩)],
 (.seq (.reg [⟨(some 6), .mv (.k .nl), none⟩])
 (.seq (.seq (.reg [⟨(some 8), .mv (.t 0), none⟩,
  ⟨(some 9), .call false 134 [(.t 8)], none⟩,
  ⟨(some 10), .una .not (.t 9), none⟩])
 (.cond (.t 10)
 (.seq (.reg [⟨(some 6), .mv (.k .nl), none⟩])
 .ret)
 .skip))
 (.seq (.reg [⟨(some 11), .mv (.t 1), none⟩,
  ⟨(some 12), .mv (.t 2), none⟩,
  ⟨(some 13), .call false 372 [(.t 11), (.t 12)], none⟩,
  ⟨(some 7), .alloc [(D.int .i64 (0)), (D.int .i64 (0)), .sn, (D.int .i64 (0)), (D.int .i64 (0)), (D.bool false), (D.int .i64 (0)), (D.int .i64 (0)), (D.int .i64 (0)), (D.int .i64 (0)), (D.int .i64 (0)), (D.int .u64 (0)), (D.int .u8 (0)), (D.int .u8 (0)), (D.int .i64 (0)), (D.bool false), (D.bool false), (D.bool false), (D.bool false), (D.bool false), (D.int .i64 (0)), (D.int .i64 (0)), (D.int .i64 (0)), (D.int .i64 (0)), (D.int .i64 (0)), (D.int .u8 (0)), (D.int .u8 (0)), (D.int .i64 (0)), (D.bool false)], none⟩,
  ⟨none, .store 29 (.t 7) (.t 13), none⟩])
 (.seq (.reg [⟨(some 14), .mv (.t 0), none⟩,
  ⟨(some 15), .bin .neq (.t 14) (.k (D.int .i64 (3))), none⟩,
  ⟨(some 16), .fad 15 (.t 7), none⟩,
  ⟨none, .store 1 (.t 16) (.t 15), none⟩])
 (.seq (.dreg [([], false, ⟨(some 17), .mv (.t 0), none⟩),
  ([0], false, ⟨(some 18), .load true 29 (.t 7), none⟩),
  ([0, 1], false, ⟨(some 19), .call false 338 [], none⟩),
  ([], true, ⟨(some 20), .build [(D.int .i64 (0)), (D.int .i64 (0)), (D.int .i64 (0)), .sn, (D.int .i64 (0)), (D.int .i64 (0)), (D.bool false), (D.int .i64 (0)), (D.int .i64 (0)), (D.int .i64 (0)), (D.int .i64 (0)), (D.int .i64 (0)), (D.int .u64 (0)), (D.int .u8 (0)), (D.int .u8 (0)), (D.int .i64 (0)), (D.bool false), (D.bool false), (D.bool false), (D.bool false), (D.bool false), (D.int .i64 (0)), (D.int .i64 (0)), (D.int .i64 (0)), (D.int .i64 (0)), (D.int .i64 (0)), (D.int .u8 (0)), (D.int .u8 (0)), (D.int .i64 (0)), (D.bool false), .nl, (D.int .i64 (0)), (D.int .i64 (0)), (D.int .i64 (0))] [(0, 1, (.t 17)), (1, 29, (.t 18)), (30, 1, (.t 19))], none⟩),
  ([], true, ⟨(some 21), .box 34 (.t 20), none⟩),
  ([], true, ⟨(some 6), .mv (.t 21), none⟩)])
 .ret)))))⟩
def a67 : Ann := ⟨[], [⟨false, 0, false⟩], []⟩
def s67 : SFun := ⟨1, 6, [], [(.tmp 2, ⟨false, 0, false⟩)],
 (.seq (.reg [⟨(some 1), .box 3 (.t 0), none⟩,
  ⟨(some 2), .mv (.k (D.bool false)), none⟩])
 (.seq (.reg [⟨(some 3), .fad 1 (.t 1), none⟩,
  ⟨(some 4), .load false 1 (.t 3), none⟩,
  ⟨(some 5), .bin .gtr (.t 4) (.k (D.int .i64 (0))), none⟩,
  ⟨(some 2), .mv (.t 5), none⟩])
 .ret))⟩
def a432 : Ann := ⟨[], [⟨false, 0, false⟩, ⟨true, 1, false⟩], []⟩
def s432 : SFun := ⟨1, 46, [], [(.cell 2 true 3, ⟨false, 0, false⟩), (.tmp 3, ⟨true, 1, false⟩)],
 (.seq (.reg [⟨(some 2), .alloc [(D.int .i64 (0)), (D.int .i64 (0)), (D.int .i64 (0))], none⟩,
  ⟨(some 3), .mv (.k .sn), none⟩])
 (.seq (.block 0 (.seq (.reg [⟨(some 5), .mv (.t 0), none⟩,
  ⟨(some 6), .bin .lss (.t 5) (.k (D.int .u8 (128))), none⟩,
  ⟨(some 4), .mv (.t 6), none⟩])
 (.cond (.t 4)
 (.seq (.reg [⟨(some 7), .build [(D.int .i64 (0)), (D.int .i64 (0)), (D.int .i64 (0))] [], none⟩,
  ⟨(some 8), .mv (.t 0), none⟩,
  ⟨(some 9), .cvi .i32 (.t 8), none⟩,
  ⟨(some 10), .bsl true 1 1 [(D.int .i32 (0))] [(0, (.t 9))], none⟩,
  ⟨none, .store 3 (.t 2) (.t 7), none⟩,
  ⟨(some 3), .mv (.t 10), none⟩])
 .ret)
 (.seq (.reg [⟨(some 12), .mv (.t 0), none⟩,
  ⟨(some 13), .bin .geq (.t 12) (.k (D.int .u8 (194))), none⟩,
  ⟨(some 14), .mv (.t 13), none⟩,
  ⟨(some 15), .mv (.t 0), (some (14, true))⟩,
  ⟨(some 16), .bin .leq (.t 15) (.k (D.int .u8 (223))), (some (14, true))⟩,
  ⟨(some 17), .pick (.t 14) (.t 16) (.k (D.bool false)), none⟩,
  ⟨(some 11), .mv (.t 17), none⟩])
 (.cond (.t 11)
 (.seq (.reg [⟨(some 18), .mv (.t 0), none⟩,
  ⟨(some 19), .bin .and (.t 18) (.k (D.int .u8 (31))), none⟩,
  ⟨(some 20), .cvi .i64 (.t 19), none⟩,
  ⟨(some 21), .build [(D.int .i64 (0)), (D.int .i64 (0)), (D.int .i64 (0))] [(0, 1, (.k (D.int .i64 (1)))), (1, 1, (.k (D.int .i64 (1)))), (2, 1, (.t 20))], none⟩,
  ⟨none, .store 3 (.t 2) (.t 21), none⟩,
  ⟨(some 3), .mv (.k .sn), none⟩])
 .ret)
 (.seq (.reg [⟨(some 23), .mv (.t 0), none⟩,
  ⟨(some 24), .bin .geq (.t 23) (.k (D.int .u8 (224))), none⟩,
  ⟨(some 25), .mv (.t 24), none⟩,
  ⟨(some 26), .mv (.t 0), (some (25, true))⟩,
  ⟨(some 27), .bin .leq (.t 26) (.k (D.int .u8 (239))), (some (25, true))⟩,
  ⟨(some 28), .pick (.t 25) (.t 27) (.k (D.bool false)), none⟩,
  ⟨(some 22), .mv (.t 28), none⟩])
 (.cond (.t 22)
 (.seq (.reg [⟨(some 29), .mv (.t 0), none⟩,
  ⟨(some 30), .bin .and (.t 29) (.k (D.int .u8 (15))), none⟩,
  ⟨(some 31), .cvi .i64 (.t 30), none⟩,
  ⟨(some 32), .build [(D.int .i64 (0)), (D.int .i64 (0)), (D.int .i64 (0))] [(0, 1, (.k (D.int .i64 (2)))), (1, 1, (.k (D.int .i64 (1)))), (2, 1, (.t 31))], none⟩,
  ⟨none, .store 3 (.t 2) (.t 32), none⟩,
  ⟨(some 3), .mv (.k .sn), none⟩])
 .ret)
 (.seq (.reg [⟨(some 34), .mv (.t 0), none⟩,
  ⟨(some 35), .bin .geq (.t 34) (.k (D.int .u8 (240))), none⟩,
  ⟨(some 36), .mv (.t 35), none⟩,
  ⟨(some 37), .mv (.t 0), (some (36, true))⟩,
  ⟨(some 38), .bin .leq (.t 37) (.k (D.int .u8 (244))), (some (36, true))⟩,
  ⟨(some 39), .pick (.t 36) (.t 38) (.k (D.bool false)), none⟩,
  ⟨(some 33), .mv (.t 39), none⟩])
 (.cond (.t 33)
 (.seq (.reg [⟨(some 40), .mv (.t 0), none⟩,
  ⟨(some 41), .bin .and (.t 40) (.k (D.int .u8 (7))), none⟩,
  ⟨(some 42), .cvi .i64 (.t 41), none⟩,
  ⟨(some 43), .build [(D.int .i64 (0)), (D.int .i64 (0)), (D.int .i64 (0))] [(0, 1, (.k (D.int .i64 (3)))), (1, 1, (.k (D.int .i64 (1)))), (2, 1, (.t 42))], none⟩,
  ⟨none, .store 3 (.t 2) (.t 43), none⟩,
  ⟨(some 3), .mv (.k .sn), none⟩])
 .ret)
 .skip)))))))))
 (.seq (.reg [⟨(some 44), .build [(D.int .i64 (0)), (D.int .i64 (0)), (D.int .i64 (0))] [], none⟩,
  ⟨(some 45), .bsl true 1 1 [(D.int .i32 (0))] [(0, (.k (D.int .i32 (65533))))], none⟩,
  ⟨none, .store 3 (.t 2) (.t 44), none⟩,
  ⟨(some 3), .mv (.t 45), none⟩])
 .ret)))⟩
def a435 : Ann := ⟨[], [⟨false, 0, false⟩], []⟩
def s435 : SFun := ⟨2, 25, [], [(.tmp 4, ⟨false, 0, false⟩)],
 (.seq (.reg [⟨(some 4), .mv (.k (D.bool false)), none⟩])
 (.seq (.reg [⟨(some 6), .bsl true 1 5 [(D.int .i64 (0))] [(0, (.k (D.int .i64 (0)))), (1, (.k (D.int .i64 (0)))), (2, (.k (D.int .i64 (128)))), (3, (.k (D.int .i64 (2048)))), (4, (.k (D.int .i64 (65536))))], none⟩,
  ⟨(some 7), .mv (.t 1), none⟩,
  ⟨(some 8), .ixs 1 (.t 6) (.t 7), none⟩,
  ⟨(some 9), .load false 1 (.t 8), none⟩,
  ⟨(some 5), .mv (.t 9), none⟩])
 (.seq (.reg [⟨(some 10), .mv (.t 0), none⟩,
  ⟨(some 11), .mv (.t 5), none⟩,
  ⟨(some 12), .bin .geq (.t 10) (.t 11), none⟩,
  ⟨(some 13), .mv (.t 12), none⟩,
  ⟨(some 14), .mv (.t 0), (some (13, true))⟩,
  ⟨(some 15), .bin .leq (.t 14) (.k (D.int .i64 (1114111))), (some (13, true))⟩,
  ⟨(some 16), .pick (.t 13) (.t 15) (.k (D.bool false)), none⟩,
  ⟨(some 17), .mv (.t 16), none⟩,
  ⟨(some 18), .mv (.t 0), (some (17, true))⟩,
  ⟨(some 19), .bin .lss (.t 18) (.k (D.int .i64 (55296))), (some (17, true))⟩,
  ⟨(some 20), .mv (.t 19), (some (17, true))⟩,
  ⟨(some 21), .mv (.t 0), (some (20, false))⟩,
  ⟨(some 22), .bin .gtr (.t 21) (.k (D.int .i64 (57343))), (some (20, false))⟩,
  ⟨(some 23), .pick (.t 20) (.k (D.bool true)) (.t 22), (some (17, true))⟩,
  ⟨(some 24), .pick (.t 17) (.t 23) (.k (D.bool false)), none⟩,
  ⟨(some 4), .mv (.t 24), none⟩])
 .ret)))⟩
def a68 : Ann := ⟨[], [⟨false, 0, false⟩, ⟨true, 1, false⟩], []⟩
def s68 : SFun := ⟨2, 71, [], [(.cell 4 true 3, ⟨false, 0, false⟩), (.tmp 5, ⟨true, 1, false⟩)],
 (.seq (.reg [⟨(some 2), .box 3 (.t 0), none⟩,
  ⟨(some 4), .alloc [(D.int .i64 (0)), (D.int .i64 (0)), (D.int .i64 (0))], none⟩,
  ⟨(some 5), .mv (.k .sn), none⟩])
 (.seq (.block 0 (.seq (.reg [⟨(some 9), .load true 3 (.t 2), none⟩,
  ⟨(some 10), .call false 67 [(.t 9)], none⟩,
  ⟨(some 11), .una .not (.t 10), none⟩,
  ⟨(some 8), .mv (.t 11), none⟩])
 (.cond (.t 8)
 (.seq (.reg [⟨(some 12), .mv (.t 1), none⟩,
  ⟨(some 13), .call false 432 [(.t 12)], none⟩,
  ⟨(some 14), .ext (.t 13) 0, none⟩,
  ⟨(some 15), .ext (.t 13) 1, none⟩,
  ⟨none, .store 3 (.t 4) (.t 14), none⟩,
  ⟨(some 5), .mv (.t 15), none⟩])
 .ret)
 (.seq (.reg [⟨(some 17), .mv (.t 1), none⟩,
  ⟨(some 18), .bin .lss (.t 17) (.k (D.int .u8 (128))), none⟩,
  ⟨(some 19), .mv (.t 18), none⟩,
  ⟨(some 20), .mv (.t 1), (some (19, false))⟩,
  ⟨(some 21), .bin .gtr (.t 20) (.k (D.int .u8 (191))), (some (19, false))⟩,
  ⟨(some 22), .pick (.t 19) (.k (D.bool true)) (.t 21), none⟩,
  ⟨(some 16), .mv (.t 22), none⟩])
 (.cond (.t 16)
 (.seq (.reg [⟨(some 24), .mv (.t 1), none⟩,
  ⟨(some 25), .call false 432 [(.t 24)], none⟩,
  ⟨(some 23), .mv (.t 25), none⟩,
  ⟨(some 26), .ext (.t 23) 0, none⟩,
  ⟨(some 27), .ext (.t 23) 1, none⟩,
  ⟨(some 6), .alloc [(D.int .i64 (0)), (D.int .i64 (0)), (D.int .i64 (0))], none⟩,
  ⟨none, .store 3 (.t 6) (.t 26), none⟩,
  ⟨(some 7), .mv (.t 27), none⟩])
 (.seq (.dreg [([], false, ⟨(some 28), .load true 3 (.t 6), none⟩),
  ([0], false, ⟨(some 29), .bsl true 1 1 [(D.int .i32 (0))] [(0, (.k (D.int .i32 (65533))))], none⟩),
  ([0, 1], false, ⟨(some 30), .mv (.t 7), none⟩),
  ([0], false, ⟨(some 31), .append 1 4 (.t 29) (.t 30), none⟩),
  ([], true, ⟨none, .store 3 (.t 4) (.t 28), none⟩),
  ([], true, ⟨(some 5), .mv (.t 31), none⟩)])
 .ret))
 .skip)))))
 (.seq (.reg [⟨(some 32), .fad 0 (.t 2), none⟩,
  ⟨(some 33), .load false 1 (.t 32), none⟩,
  ⟨(some 34), .bin .sub (.t 33) (.k (D.int .i64 (1))), none⟩,
  ⟨(some 35), .fad 1 (.t 2), none⟩,
  ⟨(some 36), .load false 1 (.t 35), none⟩,
  ⟨(some 37), .bin .add (.t 36) (.k (D.int .i64 (1))), none⟩,
  ⟨(some 38), .fad 2 (.t 2), none⟩,
  ⟨(some 39), .load false 1 (.t 38), none⟩,
  ⟨(some 40), .bin .shl (.t 39) (.k (D.int .u64 (6))), none⟩,
  ⟨(some 41), .mv (.t 1), none⟩,
  ⟨(some 42), .bin .and (.t 41) (.k (D.int .u8 (63))), none⟩,
  ⟨(some 43), .cvi .i64 (.t 42), none⟩,
  ⟨(some 44), .bin .or (.t 40) (.t 43), none⟩,
  ⟨(some 45), .fad 0 (.t 2), none⟩,
  ⟨none, .store 1 (.t 45) (.t 34), none⟩,
  ⟨(some 46), .fad 1 (.t 2), none⟩,
  ⟨none, .store 1 (.t 46) (.t 37), none⟩,
  ⟨(some 47), .fad 2 (.t 2), none⟩,
  ⟨none, .store 1 (.t 47) (.t 44), none⟩])
 (.seq (.block 1 (.seq (.reg [⟨(some 49), .fad 0 (.t 2), none⟩,
  ⟨(some 50), .load false 1 (.t 49), none⟩,
  ⟨(some 51), .bin .gtr (.t 50) (.k (D.int .i64 (0))), none⟩,
  ⟨(some 48), .mv (.t 51), none⟩])
 (.cond (.t 48)
 (.seq (.reg [⟨(some 52), .load true 3 (.t 2), none⟩,
  ⟨none, .store 3 (.t 4) (.t 52), none⟩,
  ⟨(some 5), .mv (.k .sn), none⟩])
 .ret)
 (.seq (.reg [⟨(some 54), .fad 1 (.t 2), none⟩,
  ⟨(some 55), .load false 1 (.t 54), none⟩,
  ⟨(some 56), .bin .leq (.t 55) (.k (D.int .i64 (4))), none⟩,
  ⟨(some 57), .mv (.t 56), none⟩,
  ⟨(some 58), .fad 2 (.t 2), (some (57, true))⟩,
  ⟨(some 59), .load false 1 (.t 58), (some (57, true))⟩,
  ⟨(some 60), .fad 1 (.t 2), (some (57, true))⟩,
  ⟨(some 61), .load false 1 (.t 60), (some (57, true))⟩,
  ⟨(some 62), .call false 435 [(.t 59), (.t 61)], (some (57, true))⟩,
  ⟨(some 63), .pick (.t 57) (.t 62) (.k (D.bool false)), none⟩,
  ⟨(some 53), .mv (.t 63), none⟩])
 (.cond (.t 53)
 (.seq (.dreg [([], false, ⟨(some 64), .build [(D.int .i64 (0)), (D.int .i64 (0)), (D.int .i64 (0))] [], none⟩),
  ([0], false, ⟨(some 65), .fad 2 (.t 2), none⟩),
  ([0], false, ⟨(some 66), .load false 1 (.t 65), none⟩),
  ([0], false, ⟨(some 67), .cvi .i32 (.t 66), none⟩),
  ([0], false, ⟨(some 68), .bsl true 1 1 [(D.int .i32 (0))] [(0, (.t 67))], none⟩),
  ([1, 2, 3, 4], false, ⟨none, .store 3 (.t 4) (.t 64), none⟩),
  ([], true, ⟨(some 5), .mv (.t 68), none⟩)])
 .ret)
 .skip)))))
 (.seq (.reg [⟨(some 69), .build [(D.int .i64 (0)), (D.int .i64 (0)), (D.int .i64 (0))] [], none⟩,
  ⟨(some 70), .bsl true 1 1 [(D.int .i32 (0))] [(0, (.k (D.int .i32 (65533))))], none⟩,
  ⟨none, .store 3 (.t 4) (.t 69), none⟩,
  ⟨(some 5), .mv (.t 70), none⟩])
 .ret)))))⟩
def a339 : Ann := ⟨[(3, [(6, ⟨false, 0, false⟩), (7, ⟨false, 0, false⟩), (8, ⟨false, 0, false⟩), (3, ⟨true, 7, false⟩)])], [⟨true, 7, false⟩], []⟩
def s339 : SFun := ⟨1, 19, [], [(.tmp 2, ⟨true, 7, false⟩)],
 (.seq (.reg [⟨(some 2), .mv (.k .sn), none⟩])
 (.seq (.reg [⟨(some 3), .mv (.k .sn), none⟩])
 (.seq (.seq (.reg [⟨(some 6), .mv (.t 0), none⟩,
  ⟨(some 7), .len (.t 6), none⟩,
  ⟨(some 8), .mv (.k (D.int .i64 (0))), none⟩])
 (.block 0 (.loop [(6, ⟨false, 0, false⟩), (7, ⟨false, 0, false⟩), (8, ⟨false, 0, false⟩), (3, ⟨true, 7, false⟩)]
 (.seq (.reg [⟨(some 9), .bin .lss (.t 8) (.t 7), none⟩])
 (.seq (.cond (.t 9)
 .skip
 (.exit 0))
 (.seq (.block 1 (.seq (.reg [⟨(some 10), .ixs 1 (.t 6) (.t 8), none⟩,
  ⟨(some 11), .load false 1 (.t 10), none⟩,
  ⟨(some 5), .mv (.t 11), none⟩])
 (.reg [⟨(some 12), .mv (.t 3), none⟩,
  ⟨(some 13), .mv (.t 5), none⟩,
  ⟨(some 14), .build [(D.int .i64 (0)), (D.int .i32 (0)), (D.int .u8 (0)), (D.int .u8 (0)), (D.int .u8 (0)), .sn, (D.str [])] [(0, 1, (.k (D.int .i64 (1)))), (1, 1, (.t 13))], none⟩,
  ⟨(some 15), .bsl false 7 1 [(D.int .i64 (0)), (D.int .i32 (0)), (D.int .u8 (0)), (D.int .u8 (0)), (D.int .u8 (0)), .sn, (D.str [])] [(0, (.t 14))], none⟩,
  ⟨(some 16), .append 7 56 (.t 12) (.t 15), none⟩,
  ⟨(some 3), .mv (.t 16), none⟩])))
 (.reg [⟨(some 17), .bin .add (.t 8) (.k (D.int .i64 (1))), none⟩,
  ⟨(some 8), .mv (.t 17), none⟩])))))))
 (.seq (.reg [⟨(some 18), .mv (.t 3), none⟩,
  ⟨(some 2), .mv (.t 18), none⟩])
 .ret))))⟩
def a14 : Ann := ⟨[], [], [0]⟩
def s14 : SFun := ⟨2, 8, [0], [],
 (.reg [⟨(some 4), .mv (.t 0), none⟩,
  ⟨(some 5), .mv (.t 1), none⟩,
  ⟨(some 6), .build [(D.int .i64 (0)), (D.int .i64 (0)), (D.int .i64 (0)), (D.int .i64 (0)), .sn, (D.bool false), (D.int .u8 (0)), .sn, (D.bool false), (D.bool false), .sn, (D.bool false)] [(0, 1, (.t 5))], none⟩,
  ⟨(some 7), .nilc (.t 4), none⟩,
  ⟨none, .store 12 (.t 7) (.t 6), none⟩])⟩
def a21 : Ann := ⟨[], [⟨true, 7, false⟩], [0]⟩
def s21 : SFun := ⟨2, 63, [0], [(.tmp 4, ⟨true, 7, false⟩)],
 (.seq (.reg [⟨(some 4), .mv (.k .sn), none⟩])
 (.seq (.seq (.reg [⟨(some 8), .mv (.t 1), none⟩,
  ⟨(some 9), .bin .geq (.t 8) (.k (D.int .u8 (128))), none⟩])
 (.cond (.t 9)
 (.seq (.reg [⟨(some 11), .mv (.t 0), none⟩,
  ⟨(some 12), .nilc (.t 11), none⟩,
  ⟨(some 13), .fad 1 (.t 12), none⟩,
  ⟨(some 14), .load true 3 (.t 13), none⟩,
  ⟨(some 15), .mv (.t 1), none⟩,
  ⟨(some 16), .call false 68 [(.t 14), (.t 15)], none⟩,
  ⟨(some 10), .mv (.t 16), none⟩,
  ⟨(some 17), .ext (.t 10) 0, none⟩,
  ⟨(some 18), .ext (.t 10) 1, none⟩,
  ⟨(some 5), .alloc [(D.int .i64 (0)), (D.int .i64 (0)), (D.int .i64 (0))], none⟩,
  ⟨none, .store 3 (.t 5) (.t 17), none⟩,
  ⟨(some 6), .mv (.t 18), none⟩])
 (.seq (.reg [⟨(some 19), .mv (.t 0), none⟩,
  ⟨(some 20), .load true 3 (.t 5), none⟩,
  ⟨(some 21), .nilc (.t 19), none⟩,
  ⟨(some 22), .fad 1 (.t 21), none⟩,
  ⟨none, .store 3 (.t 22) (.t 20), none⟩])
 (.seq (.reg [⟨(some 23), .mv (.t 6), none⟩,
  ⟨(some 24), .call false 339 [(.t 23)], none⟩,
  ⟨(some 4), .mv (.t 24), none⟩])
 .ret)))
 .skip))
 (.seq (.reg [⟨(some 7), .mv (.k .sn), none⟩])
 (.seq (.seq (.reg [⟨(some 25), .mv (.t 0), none⟩,
  ⟨(some 26), .nilc (.t 25), none⟩,
  ⟨(some 27), .fad 1 (.t 26), none⟩,
  ⟨(some 28), .load true 3 (.t 27), none⟩,
  ⟨(some 29), .call false 67 [(.t 28)], none⟩])
 (.cond (.t 29)
 (.seq (.reg [⟨(some 30), .bsl false 1 1 [(D.int .i32 (0))] [(0, (.k (D.int .i32 (65533))))], none⟩,
  ⟨(some 31), .call false 339 [(.t 30)], none⟩,
  ⟨(some 7), .mv (.t 31), none⟩])
 (.reg [⟨(some 32), .mv (.t 0), none⟩,
  ⟨(some 33), .build [(D.int .i64 (0)), (D.int .i64 (0)), (D.int .i64 (0))] [], none⟩,
  ⟨(some 34), .nilc (.t 32), none⟩,
  ⟨(some 35), .fad 1 (.t 34), none⟩,
  ⟨none, .store 3 (.t 35) (.t 33), none⟩]))
 .skip))
 (.seq (.block 0 (.seq (.reg [⟨(some 43), .mv (.t 1), none⟩,
  ⟨(some 44), .bin .eql (.t 43) (.k (D.int .u8 (27))), none⟩,
  ⟨(some 42), .mv (.t 44), none⟩])
 (.cond (.t 42)
 (.reg [⟨(some 45), .mv (.t 0), none⟩,
  ⟨(some 46), .call false 14 [(.t 45), (.k (D.int .i64 (1)))], none⟩])
 (.seq (.seq (.reg [⟨(some 48), .mv (.t 1), none⟩,
  ⟨(some 49), .bin .eql (.t 48) (.k (D.int .u8 (24))), none⟩,
  ⟨(some 47), .mv (.t 49), none⟩])
 (.cond (.t 47)
 .skip
 (.seq (.reg [⟨(some 50), .mv (.t 1), none⟩,
  ⟨(some 51), .bin .eql (.t 50) (.k (D.int .u8 (26))), none⟩,
  ⟨(some 47), .mv (.t 51), none⟩])
 (.cond (.t 47)
 .skip
 (.reg [⟨(some 52), .mv (.t 1), none⟩,
  ⟨(some 53), .bin .eql (.t 52) (.k (D.int .u8 (127))), none⟩,
  ⟨(some 47), .mv (.t 53), none⟩])))))
 (.cond (.t 47)
 .skip
 (.seq (.reg [⟨(some 55), .mv (.t 1), none⟩,
  ⟨(some 56), .bin .lss (.t 55) (.k (D.int .u8 (32))), none⟩,
  ⟨(some 54), .mv (.t 56), none⟩])
 (.cond (.t 54)
 (.reg [⟨(some 57), .mv (.t 7), none⟩,
  ⟨(some 58), .mv (.t 1), none⟩,
  ⟨(some 59), .build [(D.int .i64 (0)), (D.int .i32 (0)), (D.int .u8 (0)), (D.int .u8 (0)), (D.int .u8 (0)), .sn, (D.str [])] [(0, 1, (.k (D.int .i64 (2)))), (4, 1, (.t 58))], none⟩,
  ⟨(some 60), .bsl false 7 1 [(D.int .i64 (0)), (D.int .i32 (0)), (D.int .u8 (0)), (D.int .u8 (0)), (D.int .u8 (0)), .sn, (D.str [])] [(0, (.t 59))], none⟩,
  ⟨(some 61), .append 7 56 (.t 57) (.t 60), none⟩,
  ⟨(some 7), .mv (.t 61), none⟩])
 (.reg [⟨(some 36), .mv (.t 7), none⟩,
  ⟨(some 37), .mv (.t 1), none⟩,
  ⟨(some 38), .cvi .i32 (.t 37), none⟩,
  ⟨(some 39), .bsl false 1 1 [(D.int .i32 (0))] [(0, (.t 38))], none⟩,
  ⟨(some 40), .call false 339 [(.t 39)], none⟩,
  ⟨(some 41), .append 7 56 (.t 36) (.t 40), none⟩,
  ⟨(some 7), .mv (.t 41), none⟩]))))))))
 (.seq (.reg [⟨(some 62), .mv (.t 7), none⟩,
  ⟨(some 4), .mv (.t 62), none⟩])
 .ret))))))⟩
def a24 : Ann := ⟨[], [⟨true, 7, false⟩], [0]⟩
def s24 : SFun := ⟨1, 28, [0], [(.tmp 2, ⟨true, 7, false⟩)],
 (.seq (.reg [⟨(some 2), .mv (.k .sn), none⟩])
 (.seq (.dreg [([], false, ⟨(some 5), .mv (.t 0), none⟩),
  ([], false, ⟨(some 6), .nilc (.t 5), none⟩),
  ([], false, ⟨(some 7), .fad 10 (.t 6), none⟩),
  ([], false, ⟨(some 8), .load false 1 (.t 7), none⟩),
  ([], false, ⟨(some 9), .b2s (.t 8), none⟩),
  ([0, 1, 2, 3, 4], false, ⟨(some 10), .mv (.t 0), none⟩),
  ([0, 1, 2, 3, 4], false, ⟨(some 11), .nilc (.t 10), none⟩),
  ([0, 1, 2, 3, 4], false, ⟨(some 12), .fad 9 (.t 11), none⟩),
  ([0, 1, 2, 3, 4], false, ⟨(some 13), .load false 1 (.t 12), none⟩),
  ([0, 1, 2, 3, 4], false, ⟨(some 14), .mv (.t 13), none⟩),
  ([0, 1, 2, 3, 4], false, ⟨(some 15), .mv (.t 0), (some (14, true))⟩),
  ([0, 1, 2, 3, 4], false, ⟨(some 16), .nilc (.t 15), (some (14, true))⟩),
  ([0, 1, 2, 3, 4], false, ⟨(some 17), .fad 11 (.t 16), (some (14, true))⟩),
  ([0, 1, 2, 3, 4], false, ⟨(some 18), .load false 1 (.t 17), (some (14, true))⟩),
  ([0, 1, 2, 3, 4], false, ⟨(some 19), .una .not (.t 18), (some (14, true))⟩),
  ([0, 1, 2, 3, 4], false, ⟨(some 20), .pick (.t 14) (.t 19) (.k (D.bool false)), none⟩),
  ([10, 11, 12, 13, 14, 15], false, ⟨(some 3), .mv (.t 9), none⟩),
  ([], true, ⟨(some 4), .mv (.t 20), none⟩)])
 (.seq (.reg [⟨(some 21), .mv (.t 0), none⟩,
  ⟨(some 22), .call false 14 [(.t 21), (.k (D.int .i64 (0)))], none⟩])
 (.seq (.seq (.reg [⟨(some 23), .mv (.t 4), none⟩,
  ⟨(some 24), .una .not (.t 23), none⟩])
 (.cond (.t 24)
 (.seq (.reg [⟨(some 2), .mv (.k .sn), none⟩])
 .ret)
 .skip))
 (.seq (.reg [⟨(some 25), .mv (.t 3), none⟩,
  ⟨(some 26), .build [(D.int .i64 (0)), (D.int .i32 (0)), (D.int .u8 (0)), (D.int .u8 (0)), (D.int .u8 (0)), .sn, (D.str [])] [(0, 1, (.k (D.int .i64 (5)))), (6, 1, (.t 25))], none⟩,
  ⟨(some 27), .bsl true 7 1 [(D.int .i64 (0)), (D.int .i32 (0)), (D.int .u8 (0)), (D.int .u8 (0)), (D.int .u8 (0)), .sn, (D.str [])] [(0, (.t 26))], none⟩,
  ⟨(some 2), .mv (.t 27), none⟩])
 .ret)))))⟩
def a22 : Ann := ⟨[], [⟨true, 7, false⟩], [0]⟩
def s22 : SFun := ⟨2, 53, [0], [(.tmp 4, ⟨true, 7, false⟩)],
 (.seq (.reg [⟨(some 4), .mv (.k .sn), none⟩])
 (.seq (.block 0 (.seq (.reg [⟨(some 6), .mv (.t 1), none⟩,
  ⟨(some 7), .bin .eql (.t 6) (.k (D.int .u8 (24))), none⟩,
  ⟨(some 8), .mv (.t 7), none⟩,
  ⟨(some 9), .mv (.t 1), (some (8, false))⟩,
  ⟨(some 10), .bin .eql (.t 9) (.k (D.int .u8 (26))), (some (8, false))⟩,
  ⟨(some 11), .pick (.t 8) (.k (D.bool true)) (.t 10), none⟩,
  ⟨(some 5), .mv (.t 11), none⟩])
 (.cond (.t 5)
 (.reg [⟨(some 12), .mv (.t 0), none⟩,
  ⟨(some 13), .call false 14 [(.t 12), (.k (D.int .i64 (0)))], none⟩])
 (.seq (.reg [⟨(some 15), .mv (.t 1), none⟩,
  ⟨(some 16), .bin .eql (.t 15) (.k (D.int .u8 (27))), none⟩,
  ⟨(some 14), .mv (.t 16), none⟩])
 (.cond (.t 14)
 (.reg [⟨(some 17), .mv (.t 0), none⟩,
  ⟨(some 18), .nilc (.t 17), none⟩,
  ⟨(some 19), .fad 0 (.t 18), none⟩,
  ⟨none, .store 1 (.t 19) (.k (D.int .i64 (4))), none⟩])
 (.seq (.reg [⟨(some 21), .mv (.t 1), none⟩,
  ⟨(some 22), .bin .eql (.t 21) (.k (D.int .u8 (7))), none⟩,
  ⟨(some 20), .mv (.t 22), none⟩])
 (.cond (.t 20)
 (.seq (.reg [⟨(some 23), .mv (.t 0), none⟩,
  ⟨(some 24), .call false 24 [(.t 23)], none⟩,
  ⟨(some 4), .mv (.t 24), none⟩])
 .ret)
 (.seq (.reg [⟨(some 26), .mv (.t 1), none⟩,
  ⟨(some 27), .bin .lss (.t 26) (.k (D.int .u8 (32))), none⟩,
  ⟨(some 25), .mv (.t 27), none⟩])
 (.cond (.t 25)
 .skip
 (.seq (.reg [⟨(some 29), .mv (.t 0), none⟩,
  ⟨(some 30), .nilc (.t 29), none⟩,
  ⟨(some 31), .fad 10 (.t 30), none⟩,
  ⟨(some 32), .load false 1 (.t 31), none⟩,
  ⟨(some 33), .len (.t 32), none⟩,
  ⟨(some 34), .bin .eql (.t 33) (.k (D.int .i64 (4096))), none⟩,
  ⟨(some 28), .mv (.t 34), none⟩])
 (.cond (.t 28)
 (.reg [⟨(some 35), .mv (.t 0), none⟩,
  ⟨(some 36), .nilc (.t 35), none⟩,
  ⟨(some 37), .fad 11 (.t 36), none⟩,
  ⟨none, .store 1 (.t 37) (.k (D.bool true)), none⟩])
 (.seq (.reg [⟨(some 39), .mv (.t 0), none⟩,
  ⟨(some 40), .nilc (.t 39), none⟩,
  ⟨(some 41), .fad 9 (.t 40), none⟩,
  ⟨(some 42), .load false 1 (.t 41), none⟩,
  ⟨(some 38), .mv (.t 42), none⟩])
 (.cond (.t 38)
 (.reg [⟨(some 43), .mv (.t 0), none⟩,
  ⟨(some 44), .mv (.t 0), none⟩,
  ⟨(some 45), .nilc (.t 44), none⟩,
  ⟨(some 46), .fad 10 (.t 45), none⟩,
  ⟨(some 47), .load false 1 (.t 46), none⟩,
  ⟨(some 48), .mv (.t 1), none⟩,
  ⟨(some 49), .bsl false 1 1 [(D.int .u8 (0))] [(0, (.t 48))], none⟩,
  ⟨(some 50), .append 1 1 (.t 47) (.t 49), none⟩,
  ⟨(some 51), .nilc (.t 43), none⟩,
  ⟨(some 52), .fad 10 (.t 51), none⟩,
  ⟨none, .store 1 (.t 52) (.t 50), none⟩])
 .skip)))))))))))))
 (.seq (.reg [⟨(some 4), .mv (.k .sn), none⟩])
 .ret)))⟩
def a17 : Ann := ⟨[], [⟨true, 7, false⟩, ⟨false, 0, false⟩], [0]⟩
def s17 : SFun := ⟨2, 37, [0], [(.tmp 4, ⟨true, 7, false⟩), (.tmp 5, ⟨false, 0, false⟩)],
 (.seq (.reg [⟨(some 4), .mv (.k .sn), none⟩,
  ⟨(some 5), .mv (.k (D.bool false)), none⟩])
 (.seq (.block 0 (.seq (.reg [⟨(some 7), .mv (.t 1), none⟩,
  ⟨(some 8), .bin .eql (.t 7) (.k (D.int .u8 (24))), none⟩,
  ⟨(some 9), .mv (.t 8), none⟩,
  ⟨(some 10), .mv (.t 1), (some (9, false))⟩,
  ⟨(some 11), .bin .eql (.t 10) (.k (D.int .u8 (26))), (some (9, false))⟩,
  ⟨(some 12), .pick (.t 9) (.k (D.bool true)) (.t 11), none⟩,
  ⟨(some 6), .mv (.t 12), none⟩])
 (.cond (.t 6)
 (.reg [⟨(some 13), .mv (.t 0), none⟩,
  ⟨(some 14), .call false 14 [(.t 13), (.k (D.int .i64 (0)))], none⟩])
 (.seq (.reg [⟨(some 16), .mv (.t 1), none⟩,
  ⟨(some 17), .bin .eql (.t 16) (.k (D.int .u8 (27))), none⟩,
  ⟨(some 15), .mv (.t 17), none⟩])
 (.cond (.t 15)
 (.reg [⟨(some 18), .mv (.t 0), none⟩,
  ⟨(some 19), .call false 14 [(.t 18), (.k (D.int .i64 (1)))], none⟩])
 (.seq (.reg [⟨(some 21), .mv (.t 1), none⟩,
  ⟨(some 22), .bin .geq (.t 21) (.k (D.int .u8 (128))), none⟩,
  ⟨(some 20), .mv (.t 22), none⟩])
 (.cond (.t 20)
 (.seq (.reg [⟨(some 23), .mv (.t 0), none⟩,
  ⟨(some 24), .call false 14 [(.t 23), (.k (D.int .i64 (0)))], none⟩])
 (.seq (.reg [⟨(some 25), .mv (.t 0), none⟩,
  ⟨(some 26), .mv (.t 1), none⟩,
  ⟨(some 27), .call false 21 [(.t 25), (.t 26)], none⟩,
  ⟨(some 4), .mv (.t 27), none⟩,
  ⟨(some 5), .mv (.k (D.bool true)), none⟩])
 .ret))
 (.seq (.reg [⟨(some 29), .mv (.t 1), none⟩,
  ⟨(some 30), .bin .lss (.t 29) (.k (D.int .u8 (32))), none⟩,
  ⟨(some 28), .mv (.t 30), none⟩])
 (.cond (.t 28)
 (.seq (.reg [⟨(some 31), .mv (.t 1), none⟩,
  ⟨(some 32), .build [(D.int .i64 (0)), (D.int .i32 (0)), (D.int .u8 (0)), (D.int .u8 (0)), (D.int .u8 (0)), .sn, (D.str [])] [(0, 1, (.k (D.int .i64 (2)))), (4, 1, (.t 31))], none⟩,
  ⟨(some 33), .bsl true 7 1 [(D.int .i64 (0)), (D.int .i32 (0)), (D.int .u8 (0)), (D.int .u8 (0)), (D.int .u8 (0)), .sn, (D.str [])] [(0, (.t 32))], none⟩,
  ⟨(some 4), .mv (.t 33), none⟩,
  ⟨(some 5), .mv (.k (D.bool true)), none⟩])
 .ret)
 (.seq (.reg [⟨(some 35), .mv (.t 1), none⟩,
  ⟨(some 36), .bin .neq (.t 35) (.k (D.int .u8 (127))), none⟩,
  ⟨(some 34), .mv (.t 36), none⟩])
 (.cond (.t 34)
 (.seq (.reg [⟨(some 4), .mv (.k .sn), none⟩,
  ⟨(some 5), .mv (.k (D.bool false)), none⟩])
 .ret)
 .skip)))))))))))
 (.seq (.reg [⟨(some 4), .mv (.k .sn), none⟩,
  ⟨(some 5), .mv (.k (D.bool true)), none⟩])
 .ret)))⟩
def a15 : Ann := ⟨[], [], [0]⟩
def s15 : SFun := ⟨2, 23, [0], [],
 (.seq (.seq (.reg [⟨(some 4), .mv (.t 0), none⟩,
  ⟨(some 5), .nilc (.t 4), none⟩,
  ⟨(some 6), .fad 4 (.t 5), none⟩,
  ⟨(some 7), .load false 1 (.t 6), none⟩,
  ⟨(some 8), .len (.t 7), none⟩,
  ⟨(some 9), .bin .eql (.t 8) (.k (D.int .i64 (1))), none⟩])
 (.cond (.t 9)
 (.seq (.reg [⟨(some 10), .mv (.t 0), none⟩,
  ⟨(some 11), .nilc (.t 10), none⟩,
  ⟨(some 12), .fad 8 (.t 11), none⟩,
  ⟨none, .store 1 (.t 12) (.k (D.bool true)), none⟩])
 .ret)
 .skip))
 (.reg [⟨(some 13), .mv (.t 0), none⟩,
  ⟨(some 14), .mv (.t 0), none⟩,
  ⟨(some 15), .nilc (.t 14), none⟩,
  ⟨(some 16), .fad 4 (.t 15), none⟩,
  ⟨(some 17), .load false 1 (.t 16), none⟩,
  ⟨(some 18), .mv (.t 1), none⟩,
  ⟨(some 19), .bsl false 1 1 [(D.int .u8 (0))] [(0, (.t 18))], none⟩,
  ⟨(some 20), .append 1 1 (.t 17) (.t 19), none⟩,
  ⟨(some 21), .nilc (.t 13), none⟩,
  ⟨(some 22), .fad 4 (.t 21), none⟩,
  ⟨none, .store 1 (.t 22) (.t 20), none⟩]))⟩
def a16 : Ann := ⟨[], [⟨false, 0, false⟩], [0]⟩
def s16 : SFun := ⟨1, 15, [0], [(.tmp 2, ⟨false, 0, false⟩)],
 (.seq (.reg [⟨(some 2), .mv (.k (D.int .u8 (0))), none⟩])
 (.seq (.seq (.reg [⟨(some 3), .mv (.t 0), none⟩,
  ⟨(some 4), .nilc (.t 3), none⟩,
  ⟨(some 5), .fad 4 (.t 4), none⟩,
  ⟨(some 6), .load false 1 (.t 5), none⟩,
  ⟨(some 7), .len (.t 6), none⟩,
  ⟨(some 8), .bin .eql (.t 7) (.k (D.int .i64 (0))), none⟩])
 (.cond (.t 8)
 (.seq (.reg [⟨(some 2), .mv (.k (D.int .u8 (0))), none⟩])
 .ret)
 .skip))
 (.seq (.reg [⟨(some 9), .mv (.t 0), none⟩,
  ⟨(some 10), .nilc (.t 9), none⟩,
  ⟨(some 11), .fad 4 (.t 10), none⟩,
  ⟨(some 12), .load false 1 (.t 11), none⟩,
  ⟨(some 13), .ixs 1 (.t 12) (.k (D.int .i64 (0))), none⟩,
  ⟨(some 14), .load false 1 (.t 13), none⟩,
  ⟨(some 2), .mv (.t 14), none⟩])
 .ret)))⟩
def a18 : Ann := ⟨[], [⟨true, 7, false⟩], [0]⟩
def s18 : SFun := ⟨2, 18, [0], [(.tmp 4, ⟨true, 7, false⟩)],
 (.seq (.reg [⟨(some 3), .box 7 (.t 1), none⟩,
  ⟨(some 4), .mv (.k .sn), none⟩])
 (.seq (.reg [⟨(some 6), .mv (.t 0), none⟩,
  ⟨(some 7), .nilc (.t 6), none⟩,
  ⟨(some 8), .fad 8 (.t 7), none⟩,
  ⟨(some 9), .load false 1 (.t 8), none⟩,
  ⟨(some 5), .mv (.t 9), none⟩])
 (.seq (.reg [⟨(some 10), .mv (.t 0), none⟩,
  ⟨(some 11), .call false 16 [(.t 10)], none⟩,
  ⟨(some 12), .fad 3 (.t 3), none⟩,
  ⟨none, .store 1 (.t 12) (.t 11), none⟩])
 (.seq (.reg [⟨(some 13), .mv (.t 0), none⟩,
  ⟨(some 14), .call false 14 [(.t 13), (.k (D.int .i64 (0)))], none⟩])
 (.seq (.seq (.reg [⟨(some 15), .mv (.t 5), none⟩])
 (.cond (.t 15)
 (.seq (.reg [⟨(some 4), .mv (.k .sn), none⟩])
 .ret)
 .skip))
 (.seq (.reg [⟨(some 16), .load true 7 (.t 3), none⟩,
  ⟨(some 17), .bsl true 7 1 [(D.int .i64 (0)), (D.int .i32 (0)), (D.int .u8 (0)), (D.int .u8 (0)), (D.int .u8 (0)), .sn, (D.str [])] [(0, (.t 16))], none⟩,
  ⟨(some 4), .mv (.t 17), none⟩])
 .ret))))))⟩
def a23 : Ann := ⟨[], [], [0]⟩
def s23 : SFun := ⟨2, 66, [0], [],
 (.seq (.seq (.reg [⟨(some 6), .mv (.t 0), none⟩,
  ⟨(some 7), .nilc (.t 6), none⟩,
  ⟨(some 8), .fad 7 (.t 7), none⟩,
  ⟨(some 9), .load false 1 (.t 8), none⟩,
  ⟨(some 10), .len (.t 9), none⟩,
  ⟨(some 11), .bin .eql (.t 10) (.k (D.int .i64 (0))), none⟩])
 (.cond (.t 11)
 (.reg [⟨(some 12), .mv (.t 0), none⟩,
  ⟨(some 13), .bsl true 1 1 [(D.int .i64 (0))] [(0, (.k (D.int .i64 (-1))))], none⟩,
  ⟨(some 14), .nilc (.t 12), none⟩,
  ⟨(some 15), .fad 7 (.t 14), none⟩,
  ⟨none, .store 1 (.t 15) (.t 13), none⟩])
 .skip))
 (.seq (.reg [⟨(some 16), .mv (.t 0), none⟩,
  ⟨(some 17), .nilc (.t 16), none⟩,
  ⟨(some 18), .fad 7 (.t 17), none⟩,
  ⟨(some 19), .load false 1 (.t 18), none⟩,
  ⟨(some 20), .len (.t 19), none⟩,
  ⟨(some 21), .bin .sub (.t 20) (.k (D.int .i64 (1))), none⟩,
  ⟨(some 4), .mv (.t 21), none⟩])
 (.seq (.reg [⟨(some 22), .mv (.t 0), none⟩,
  ⟨(some 23), .nilc (.t 22), none⟩,
  ⟨(some 24), .fad 7 (.t 23), none⟩,
  ⟨(some 25), .load false 1 (.t 24), none⟩,
  ⟨(some 26), .mv (.t 4), none⟩,
  ⟨(some 27), .ixs 1 (.t 25) (.t 26), none⟩,
  ⟨(some 28), .load false 1 (.t 27), none⟩,
  ⟨(some 5), .mv (.t 28), none⟩])
 (.block 0 (.seq (.reg [⟨(some 30), .mv (.t 1), none⟩,
  ⟨(some 31), .bin .eql (.t 30) (.k (D.int .u8 (59))), none⟩,
  ⟨(some 32), .mv (.t 31), none⟩,
  ⟨(some 33), .mv (.t 0), (some (32, true))⟩,
  ⟨(some 34), .nilc (.t 33), (some (32, true))⟩,
  ⟨(some 35), .fad 7 (.t 34), (some (32, true))⟩,
  ⟨(some 36), .load false 1 (.t 35), (some (32, true))⟩,
  ⟨(some 37), .len (.t 36), (some (32, true))⟩,
  ⟨(some 38), .bin .leq (.t 37) (.k (D.int .i64 (16))), (some (32, true))⟩,
  ⟨(some 39), .pick (.t 32) (.t 38) (.k (D.bool false)), none⟩,
  ⟨(some 29), .mv (.t 39), none⟩])
 (.cond (.t 29)
 (.reg [⟨(some 40), .mv (.t 0), none⟩,
  ⟨(some 41), .mv (.t 0), none⟩,
  ⟨(some 42), .nilc (.t 41), none⟩,
  ⟨(some 43), .fad 7 (.t 42), none⟩,
  ⟨(some 44), .load false 1 (.t 43), none⟩,
  ⟨(some 45), .bsl false 1 1 [(D.int .i64 (0))] [(0, (.k (D.int .i64 (-1))))], none⟩,
  ⟨(some 46), .append 1 8 (.t 44) (.t 45), none⟩,
  ⟨(some 47), .nilc (.t 40), none⟩,
  ⟨(some 48), .fad 7 (.t 47), none⟩,
  ⟨none, .store 1 (.t 48) (.t 46), none⟩])
 (.seq (.reg [⟨(some 50), .mv (.t 1), none⟩,
  ⟨(some 51), .bin .neq (.t 50) (.k (D.int .u8 (59))), none⟩,
  ⟨(some 49), .mv (.t 51), none⟩])
 (.cond (.t 49)
 (.reg [⟨(some 52), .mv (.t 0), none⟩,
  ⟨(some 53), .nilc (.t 52), none⟩,
  ⟨(some 54), .fad 7 (.t 53), none⟩,
  ⟨(some 55), .load false 1 (.t 54), none⟩,
  ⟨(some 56), .mv (.t 4), none⟩,
  ⟨(some 57), .mv (.t 5), none⟩,
  ⟨(some 58), .mx [(.t 57), (.k (D.int .i64 (0)))], none⟩,
  ⟨(some 59), .bin .mul (.t 58) (.k (D.int .i64 (10))), none⟩,
  ⟨(some 60), .mv (.t 1), none⟩,
  ⟨(some 61), .bin .sub (.t 60) (.k (D.int .u8 (48))), none⟩,
  ⟨(some 62), .cvi .i64 (.t 61), none⟩,
  ⟨(some 63), .bin .add (.t 59) (.t 62), none⟩,
  ⟨(some 64), .mn [(.t 63), (.k (D.int .i64 (65535)))], none⟩,
  ⟨(some 65), .ixs 1 (.t 55) (.t 56), none⟩,
  ⟨none, .store 1 (.t 65) (.t 64), none⟩])
 .skip))))))))⟩
def a450 : Ann := ⟨[], [⟨true, 1, false⟩], []⟩
def n450 : NFun := ⟨1, 8, [], [(.tmp 2, ⟨true, 1, false⟩)],
 (.reg [⟨(some 2), .mv (.k .sn), none⟩]), ⟨(some 3), .mv (.t 0), none⟩, 4, (.t 3), (.cond (.t 4)
 (.seq (.reg [⟨(some 2), .mv (.k .sn), none⟩])
 .ret)
 .skip), (.seq (.reg [⟨(some 5), .bsl true 1 0 [(D.int .i64 (0))] [], none⟩,
  ⟨(some 6), .mv (.t 0), none⟩,
  ⟨(some 7), .append 1 8 (.t 5) (.t 6), none⟩,
  ⟨(some 2), .mv (.t 7), none⟩])
 .ret)⟩
def a19 : Ann := ⟨[], [⟨true, 7, false⟩], [0]⟩
def s19 : SFun := ⟨2, 80, [0], [(.tmp 4, ⟨true, 7, false⟩)],
 (.seq (.reg [⟨(some 4), .mv (.k .sn), none⟩])
 (.seq (.reg [⟨(some 7), .mv (.t 0), none⟩,
  ⟨(some 8), .nilc (.t 7), none⟩,
  ⟨(some 9), .fad 5 (.t 8), none⟩,
  ⟨(some 10), .load false 1 (.t 9), none⟩,
  ⟨(some 11), .una .not (.t 10), none⟩,
  ⟨(some 5), .mv (.t 11), none⟩])
 (.seq (.reg [⟨(some 12), .mv (.t 0), none⟩,
  ⟨(some 13), .nilc (.t 12), none⟩,
  ⟨(some 14), .fad 5 (.t 13), none⟩,
  ⟨none, .store 1 (.t 14) (.k (D.bool true)), none⟩])
 (.seq (.block 0 (.seq (.reg [⟨(some 19), .mv (.t 1), none⟩,
  ⟨(some 20), .bin .lss (.t 19) (.k (D.int .u8 (48))), none⟩,
  ⟨(some 18), .mv (.t 20), none⟩])
 (.cond (.t 18)
 (.reg [⟨(some 21), .mv (.t 0), none⟩,
  ⟨(some 22), .mv (.t 1), none⟩,
  ⟨(some 23), .call false 15 [(.t 21), (.t 22)], none⟩])
 (.seq (.reg [⟨(some 25), .mv (.t 1), none⟩,
  ⟨(some 26), .bin .geq (.t 25) (.k (D.int .u8 (60))), none⟩,
  ⟨(some 27), .mv (.t 26), none⟩,
  ⟨(some 28), .mv (.t 1), (some (27, true))⟩,
  ⟨(some 29), .bin .leq (.t 28) (.k (D.int .u8 (63))), (some (27, true))⟩,
  ⟨(some 30), .pick (.t 27) (.t 29) (.k (D.bool false)), none⟩,
  ⟨(some 31), .mv (.t 30), none⟩,
  ⟨(some 32), .mv (.t 5), (some (31, true))⟩,
  ⟨(some 33), .pick (.t 31) (.t 32) (.k (D.bool false)), none⟩,
  ⟨(some 24), .mv (.t 33), none⟩])
 (.cond (.t 24)
 (.reg [⟨(some 34), .mv (.t 0), none⟩,
  ⟨(some 35), .mv (.t 1), none⟩,
  ⟨(some 36), .nilc (.t 34), none⟩,
  ⟨(some 37), .fad 6 (.t 36), none⟩,
  ⟨none, .store 1 (.t 37) (.t 35), none⟩])
 (.seq (.reg [⟨(some 39), .mv (.t 1), none⟩,
  ⟨(some 40), .bin .geq (.t 39) (.k (D.int .u8 (64))), none⟩,
  ⟨(some 38), .mv (.t 40), none⟩])
 (.cond (.t 38)
 (.seq (.dreg [([], false, ⟨(some 41), .mv (.t 0), none⟩),
  ([], false, ⟨(some 42), .nilc (.t 41), none⟩),
  ([], false, ⟨(some 43), .fad 7 (.t 42), none⟩),
  ([], false, ⟨(some 44), .load false 1 (.t 43), none⟩),
  ([0, 1, 2, 3], false, ⟨(some 45), .mv (.t 0), none⟩),
  ([0, 1, 2, 3], false, ⟨(some 46), .nilc (.t 45), none⟩),
  ([0, 1, 2, 3], false, ⟨(some 47), .fad 7 (.t 46), none⟩),
  ([0, 1, 2, 3], false, ⟨(some 48), .load false 1 (.t 47), none⟩),
  ([0, 1, 2, 3], false, ⟨(some 49), .len (.t 48), none⟩),
  ([0, 1, 2, 3], false, ⟨(some 50), .mn [(.t 49), (.k (D.int .i64 (16)))], none⟩),
  ([], true, ⟨(some 51), .slc 1 (.t 44) none (some (.t 50)), none⟩),
  ([], true, ⟨(some 6), .mv (.t 51), none⟩)])
 (.seq (.dreg [([], false, ⟨(some 52), .mv (.t 0), none⟩),
  ([0], false, ⟨(some 53), .mv (.t 0), none⟩),
  ([0], false, ⟨(some 54), .nilc (.t 53), none⟩),
  ([0], false, ⟨(some 55), .fad 6 (.t 54), none⟩),
  ([0], false, ⟨(some 56), .load false 1 (.t 55), none⟩),
  ([0, 1, 2, 3, 4], false, ⟨(some 57), .mv (.t 6), none⟩),
  ([0, 1, 2, 3, 4], false, ⟨(some 58), .callr 450 [(.t 57)], none⟩),
  ([0, 1, 2, 3, 4, 5, 6], false, ⟨(some 59), .mv (.t 1), none⟩),
  ([0], false, ⟨(some 60), .build [(D.int .i64 (0)), (D.int .i32 (0)), (D.int .u8 (0)), (D.int .u8 (0)), (D.int .u8 (0)), .sn, (D.str [])] [(0, 1, (.k (D.int .i64 (4)))), (2, 1, (.t 56)), (5, 1, (.t 58)), (4, 1, (.t 59))], none⟩),
  ([], true, ⟨(some 61), .call false 18 [(.t 52), (.t 60)], none⟩),
  ([], true, ⟨(some 4), .mv (.t 61), none⟩)])
 .ret))
 (.seq (.reg [⟨(some 63), .mv (.t 1), none⟩,
  ⟨(some 64), .bin .eql (.t 63) (.k (D.int .u8 (58))), none⟩,
  ⟨(some 65), .mv (.t 64), none⟩,
  ⟨(some 66), .mv (.t 1), (some (65, false))⟩,
  ⟨(some 67), .bin .geq (.t 66) (.k (D.int .u8 (60))), (some (65, false))⟩,
  ⟨(some 68), .pick (.t 65) (.k (D.bool true)) (.t 67), none⟩,
  ⟨(some 69), .mv (.t 68), none⟩,
  ⟨(some 70), .mv (.t 0), (some (69, false))⟩,
  ⟨(some 71), .nilc (.t 70), (some (69, false))⟩,
  ⟨(some 72), .fad 4 (.t 71), (some (69, false))⟩,
  ⟨(some 73), .load false 1 (.t 72), (some (69, false))⟩,
  ⟨(some 74), .len (.t 73), (some (69, false))⟩,
  ⟨(some 75), .bin .gtr (.t 74) (.k (D.int .i64 (0))), (some (69, false))⟩,
  ⟨(some 76), .pick (.t 69) (.k (D.bool true)) (.t 75), none⟩,
  ⟨(some 62), .mv (.t 76), none⟩])
 (.cond (.t 62)
 (.reg [⟨(some 77), .mv (.t 0), none⟩,
  ⟨(some 78), .nilc (.t 77), none⟩,
  ⟨(some 79), .fad 8 (.t 78), none⟩,
  ⟨none, .store 1 (.t 79) (.k (D.bool true)), none⟩])
 (.reg [⟨(some 15), .mv (.t 0), none⟩,
  ⟨(some 16), .mv (.t 1), none⟩,
  ⟨(some 17), .call false 23 [(.t 15), (.t 16)], none⟩]))))))))))
 (.seq (.reg [⟨(some 4), .mv (.k .sn), none⟩])
 .ret)))))⟩
def a20 : Ann := ⟨[], [⟨true, 7, false⟩], [0]⟩
def s20 : SFun := ⟨2, 59, [0], [(.tmp 4, ⟨true, 7, false⟩)],
 (.seq (.reg [⟨(some 4), .mv (.k .sn), none⟩])
 (.seq (.seq (.reg [⟨(some 6), .mv (.t 0), none⟩,
  ⟨(some 7), .nilc (.t 6), none⟩,
  ⟨(some 8), .fad 4 (.t 7), none⟩,
  ⟨(some 9), .load false 1 (.t 8), none⟩,
  ⟨(some 10), .len (.t 9), none⟩,
  ⟨(some 11), .bin .eql (.t 10) (.k (D.int .i64 (0))), none⟩,
  ⟨(some 5), .mv (.t 11), none⟩])
 (.block 0 (.seq (.reg [⟨(some 17), .mv (.t 5), none⟩,
  ⟨(some 18), .mv (.t 17), none⟩,
  ⟨(some 19), .mv (.t 1), (some (18, true))⟩,
  ⟨(some 20), .bin .eql (.t 19) (.k (D.int .u8 (91))), (some (18, true))⟩,
  ⟨(some 21), .pick (.t 18) (.t 20) (.k (D.bool false)), none⟩,
  ⟨(some 16), .mv (.t 21), none⟩])
 (.cond (.t 16)
 (.reg [⟨(some 22), .mv (.t 0), none⟩,
  ⟨(some 23), .call false 14 [(.t 22), (.k (D.int .i64 (2)))], none⟩])
 (.seq (.reg [⟨(some 25), .mv (.t 5), none⟩,
  ⟨(some 26), .mv (.t 25), none⟩,
  ⟨(some 27), .mv (.t 1), (some (26, true))⟩,
  ⟨(some 28), .bin .eql (.t 27) (.k (D.int .u8 (93))), (some (26, true))⟩,
  ⟨(some 29), .mv (.t 28), (some (26, true))⟩,
  ⟨(some 30), .mv (.t 1), (some (29, false))⟩,
  ⟨(some 31), .bin .eql (.t 30) (.k (D.int .u8 (80))), (some (29, false))⟩,
  ⟨(some 32), .pick (.t 29) (.k (D.bool true)) (.t 31), (some (26, true))⟩,
  ⟨(some 33), .mv (.t 32), (some (26, true))⟩,
  ⟨(some 34), .mv (.t 1), (some (33, false))⟩,
  ⟨(some 35), .bin .eql (.t 34) (.k (D.int .u8 (88))), (some (33, false))⟩,
  ⟨(some 36), .pick (.t 33) (.k (D.bool true)) (.t 35), (some (26, true))⟩,
  ⟨(some 37), .mv (.t 36), (some (26, true))⟩,
  ⟨(some 38), .mv (.t 1), (some (37, false))⟩,
  ⟨(some 39), .bin .eql (.t 38) (.k (D.int .u8 (94))), (some (37, false))⟩,
  ⟨(some 40), .pick (.t 37) (.k (D.bool true)) (.t 39), (some (26, true))⟩,
  ⟨(some 41), .mv (.t 40), (some (26, true))⟩,
  ⟨(some 42), .mv (.t 1), (some (41, false))⟩,
  ⟨(some 43), .bin .eql (.t 42) (.k (D.int .u8 (95))), (some (41, false))⟩,
  ⟨(some 44), .pick (.t 41) (.k (D.bool true)) (.t 43), (some (26, true))⟩,
  ⟨(some 45), .pick (.t 26) (.t 44) (.k (D.bool false)), none⟩,
  ⟨(some 24), .mv (.t 45), none⟩])
 (.cond (.t 24)
 (.seq (.reg [⟨(some 46), .mv (.t 0), none⟩,
  ⟨(some 47), .call false 14 [(.t 46), (.k (D.int .i64 (3)))], none⟩])
 (.reg [⟨(some 48), .mv (.t 0), none⟩,
  ⟨(some 49), .mv (.t 1), none⟩,
  ⟨(some 50), .bin .eql (.t 49) (.k (D.int .u8 (93))), none⟩,
  ⟨(some 51), .nilc (.t 48), none⟩,
  ⟨(some 52), .fad 9 (.t 51), none⟩,
  ⟨none, .store 1 (.t 52) (.t 50), none⟩]))
 (.seq (.reg [⟨(some 54), .mv (.t 1), none⟩,
  ⟨(some 55), .bin .lss (.t 54) (.k (D.int .u8 (48))), none⟩,
  ⟨(some 53), .mv (.t 55), none⟩])
 (.cond (.t 53)
 (.reg [⟨(some 56), .mv (.t 0), none⟩,
  ⟨(some 57), .mv (.t 1), none⟩,
  ⟨(some 58), .call false 15 [(.t 56), (.t 57)], none⟩])
 (.seq (.reg [⟨(some 12), .mv (.t 0), none⟩,
  ⟨(some 13), .mv (.t 1), none⟩,
  ⟨(some 14), .build [(D.int .i64 (0)), (D.int .i32 (0)), (D.int .u8 (0)), (D.int .u8 (0)), (D.int .u8 (0)), .sn, (D.str [])] [(0, 1, (.k (D.int .i64 (3)))), (4, 1, (.t 13))], none⟩,
  ⟨(some 15), .call false 18 [(.t 12), (.t 14)], none⟩,
  ⟨(some 4), .mv (.t 15), none⟩])
 .ret)))))))))
 (.seq (.reg [⟨(some 4), .mv (.k .sn), none⟩])
 .ret)))⟩
def a13 : Ann := ⟨[], [⟨true, 7, false⟩], [0]⟩
def s13 : SFun := ⟨2, 48, [0], [(.tmp 4, ⟨true, 7, false⟩)],
 (.seq (.reg [⟨(some 4), .mv (.k .sn), none⟩])
 (.seq (.seq (.reg [⟨(some 7), .mv (.t 0), none⟩,
  ⟨(some 8), .nilc (.t 7), none⟩,
  ⟨(some 9), .fad 0 (.t 8), none⟩,
  ⟨(some 10), .load false 1 (.t 9), none⟩])
 (.block 0 (.seq (.reg [⟨(some 12), .bin .eql (.t 10) (.k (D.int .i64 (0))), none⟩,
  ⟨(some 11), .mv (.t 12), none⟩])
 (.cond (.t 11)
 (.seq (.reg [⟨(some 13), .mv (.t 0), none⟩,
  ⟨(some 14), .mv (.t 1), none⟩,
  ⟨(some 15), .call false 21 [(.t 13), (.t 14)], none⟩,
  ⟨(some 4), .mv (.t 15), none⟩])
 .ret)
 (.seq (.reg [⟨(some 17), .bin .eql (.t 10) (.k (D.int .i64 (3))), none⟩,
  ⟨(some 16), .mv (.t 17), none⟩])
 (.cond (.t 16)
 (.seq (.reg [⟨(some 18), .mv (.t 0), none⟩,
  ⟨(some 19), .mv (.t 1), none⟩,
  ⟨(some 20), .call false 22 [(.t 18), (.t 19)], none⟩,
  ⟨(some 4), .mv (.t 20), none⟩])
 .ret)
 (.seq (.reg [⟨(some 22), .bin .eql (.t 10) (.k (D.int .i64 (4))), none⟩,
  ⟨(some 21), .mv (.t 22), none⟩])
 (.cond (.t 21)
 (.seq (.seq (.reg [⟨(some 23), .mv (.t 1), none⟩,
  ⟨(some 24), .bin .eql (.t 23) (.k (D.int .u8 (92))), none⟩])
 (.cond (.t 24)
 (.seq (.reg [⟨(some 25), .mv (.t 0), none⟩,
  ⟨(some 26), .call false 24 [(.t 25)], none⟩,
  ⟨(some 4), .mv (.t 26), none⟩])
 .ret)
 .skip))
 (.reg [⟨(some 27), .mv (.t 0), none⟩,
  ⟨(some 28), .call false 14 [(.t 27), (.k (D.int .i64 (1)))], none⟩]))
 .skip))))))))
 (.seq (.seq (.reg [⟨(some 30), .mv (.t 0), none⟩,
  ⟨(some 31), .mv (.t 1), none⟩,
  ⟨(some 32), .call false 17 [(.t 30), (.t 31)], none⟩,
  ⟨(some 29), .mv (.t 32), none⟩,
  ⟨(some 33), .ext (.t 29) 0, none⟩,
  ⟨(some 34), .ext (.t 29) 1, none⟩,
  ⟨(some 5), .mv (.t 33), none⟩,
  ⟨(some 6), .mv (.t 34), none⟩])
 (.seq (.reg [⟨(some 35), .mv (.t 6), none⟩])
 (.cond (.t 35)
 (.seq (.reg [⟨(some 36), .mv (.t 5), none⟩,
  ⟨(some 4), .mv (.t 36), none⟩])
 .ret)
 .skip)))
 (.seq (.seq (.reg [⟨(some 37), .mv (.t 0), none⟩,
  ⟨(some 38), .nilc (.t 37), none⟩,
  ⟨(some 39), .fad 0 (.t 38), none⟩,
  ⟨(some 40), .load false 1 (.t 39), none⟩,
  ⟨(some 41), .bin .eql (.t 40) (.k (D.int .i64 (2))), none⟩])
 (.cond (.t 41)
 (.seq (.reg [⟨(some 42), .mv (.t 0), none⟩,
  ⟨(some 43), .mv (.t 1), none⟩,
  ⟨(some 44), .call false 19 [(.t 42), (.t 43)], none⟩,
  ⟨(some 4), .mv (.t 44), none⟩])
 .ret)
 .skip))
 (.seq (.reg [⟨(some 45), .mv (.t 0), none⟩,
  ⟨(some 46), .mv (.t 1), none⟩,
  ⟨(some 47), .call false 20 [(.t 45), (.t 46)], none⟩,
  ⟨(some 4), .mv (.t 47), none⟩])
 .ret)))))⟩
def a11 : Ann := ⟨[(3, [(8, ⟨false, 0, false⟩), (9, ⟨false, 0, false⟩), (10, ⟨false, 0, false⟩), (0, ⟨true, 0, false⟩), (5, ⟨true, 7, false⟩)])], [⟨true, 7, false⟩], [0]⟩
def s11 : SFun := ⟨2, 21, [0], [(.tmp 4, ⟨true, 7, false⟩)],
 (.seq (.reg [⟨(some 4), .mv (.k .sn), none⟩])
 (.seq (.reg [⟨(some 5), .mv (.k .sn), none⟩])
 (.seq (.seq (.reg [⟨(some 8), .mv (.t 1), none⟩,
  ⟨(some 9), .len (.t 8), none⟩,
  ⟨(some 10), .mv (.k (D.int .i64 (0))), none⟩])
 (.block 0 (.loop [(8, ⟨false, 0, false⟩), (9, ⟨false, 0, false⟩), (10, ⟨false, 0, false⟩), (0, ⟨true, 0, false⟩), (5, ⟨true, 7, false⟩)]
 (.seq (.reg [⟨(some 11), .bin .lss (.t 10) (.t 9), none⟩])
 (.seq (.cond (.t 11)
 .skip
 (.exit 0))
 (.seq (.block 1 (.seq (.reg [⟨(some 12), .ixs 1 (.t 8) (.t 10), none⟩,
  ⟨(some 13), .load false 1 (.t 12), none⟩,
  ⟨(some 7), .mv (.t 13), none⟩])
 (.reg [⟨(some 14), .mv (.t 5), none⟩,
  ⟨(some 15), .mv (.t 0), none⟩,
  ⟨(some 16), .mv (.t 7), none⟩,
  ⟨(some 17), .call false 13 [(.t 15), (.t 16)], none⟩,
  ⟨(some 18), .append 7 56 (.t 14) (.t 17), none⟩,
  ⟨(some 5), .mv (.t 18), none⟩])))
 (.reg [⟨(some 19), .bin .add (.t 10) (.k (D.int .i64 (1))), none⟩,
  ⟨(some 10), .mv (.t 19), none⟩])))))))
 (.seq (.reg [⟨(some 20), .mv (.t 5), none⟩,
  ⟨(some 4), .mv (.t 20), none⟩])
 .ret))))⟩
def a136 : Ann := ⟨[], [⟨true, 4, false⟩], []⟩
def s136 : SFun := ⟨1, 29, [], [(.tmp 2, ⟨true, 4, false⟩)],
 (.seq (.reg [⟨(some 2), .mv (.k .sn), none⟩])
 (.seq (.reg [⟨(some 4), .build [(D.int .i64 (0)), (D.int .u8 (0)), (D.int .u8 (0)), (D.str [])] [(0, 1, (.k (D.int .i64 (1)))), (3, 1, (.k (D.str [32])))], none⟩,
  ⟨(some 5), .build [(D.int .i64 (0)), (D.int .u8 (0)), (D.int .u8 (0)), (D.str [])] [(0, 1, (.k (D.int .i64 (2)))), (3, 1, (.k (D.str [7, 8, 9, 10, 13])))], none⟩,
  ⟨(some 6), .bsl true 4 2 [(D.int .i64 (0)), (D.int .u8 (0)), (D.int .u8 (0)), (D.str [])] [(0, (.t 4)), (1, (.t 5))], none⟩,
  ⟨(some 3), .mv (.t 6), none⟩])
 (.seq (.seq (.reg [⟨(some 7), .mv (.t 0), none⟩,
  ⟨(some 8), .bin .eql (.t 7) (.k (D.int .i64 (3))), none⟩])
 (.cond (.t 8)
 (.seq (.reg [⟨(some 9), .mv (.t 3), none⟩,
  ⟨(some 10), .build [(D.int .i64 (0)), (D.int .u8 (0)), (D.int .u8 (0)), (D.str [])] [(0, 1, (.k (D.int .i64 (3)))), (3, 1, (.k (D.str [65, 66, 67, 68, 72, 73, 74, 75, 89])))], none⟩,
  ⟨(some 11), .bsl false 4 1 [(D.int .i64 (0)), (D.int .u8 (0)), (D.int .u8 (0)), (D.str [])] [(0, (.t 10))], none⟩,
  ⟨(some 12), .append 4 32 (.t 9) (.t 11), none⟩,
  ⟨(some 2), .mv (.t 12), none⟩])
 .ret)
 .skip))
 (.seq (.reg [⟨(some 13), .mv (.t 3), none⟩,
  ⟨(some 14), .build [(D.int .i64 (0)), (D.int .u8 (0)), (D.int .u8 (0)), (D.str [])] [(0, 1, (.k (D.int .i64 (2)))), (3, 1, (.k (D.str [14, 15])))], none⟩,
  ⟨(some 15), .build [(D.int .i64 (0)), (D.int .u8 (0)), (D.int .u8 (0)), (D.str [])] [(0, 1, (.k (D.int .i64 (3)))), (3, 1, (.k (D.str [55, 56, 68, 69, 77, 72, 99, 61, 62])))], none⟩,
  ⟨(some 16), .build [(D.int .i64 (0)), (D.int .u8 (0)), (D.int .u8 (0)), (D.str [])] [(0, 1, (.k (D.int .i64 (3)))), (2, 1, (.k (D.int .u8 (40)))), (3, 1, (.k (D.str [48, 66])))], none⟩,
  ⟨(some 17), .build [(D.int .i64 (0)), (D.int .u8 (0)), (D.int .u8 (0)), (D.str [])] [(0, 1, (.k (D.int .i64 (3)))), (2, 1, (.k (D.int .u8 (41)))), (3, 1, (.k (D.str [48, 66])))], none⟩,
  ⟨(some 18), .build [(D.int .i64 (0)), (D.int .u8 (0)), (D.int .u8 (0)), (D.str [])] [(0, 1, (.k (D.int .i64 (4)))), (3, 1, (.k (D.str [65, 66, 67, 68, 72, 102, 74, 75, 109, 114, 103])))], none⟩,
  ⟨(some 19), .build [(D.int .i64 (0)), (D.int .u8 (0)), (D.int .u8 (0)), (D.str [])] [(0, 1, (.k (D.int .i64 (4)))), (1, 1, (.k (D.int .u8 (63)))), (3, 1, (.k (D.str [104, 108])))], none⟩,
  ⟨(some 20), .bsl false 4 6 [(D.int .i64 (0)), (D.int .u8 (0)), (D.int .u8 (0)), (D.str [])] [(0, (.t 14)), (1, (.t 15)), (2, (.t 16)), (3, (.t 17)), (4, (.t 18)), (5, (.t 19))], none⟩,
  ⟨(some 21), .append 4 32 (.t 13) (.t 20), none⟩,
  ⟨(some 3), .mv (.t 21), none⟩])
 (.seq (.seq (.reg [⟨(some 22), .mv (.t 0), none⟩,
  ⟨(some 23), .bin .eql (.t 22) (.k (D.int .i64 (2))), none⟩])
 (.cond (.t 23)
 (.reg [⟨(some 24), .mv (.t 3), none⟩,
  ⟨(some 25), .build [(D.int .i64 (0)), (D.int .u8 (0)), (D.int .u8 (0)), (D.str [])] [(0, 1, (.k (D.int .i64 (4)))), (3, 1, (.k (D.str [71, 100, 69, 70, 64, 80, 76, 77, 88])))], none⟩,
  ⟨(some 26), .bsl false 4 1 [(D.int .i64 (0)), (D.int .u8 (0)), (D.int .u8 (0)), (D.str [])] [(0, (.t 25))], none⟩,
  ⟨(some 27), .append 4 32 (.t 24) (.t 26), none⟩,
  ⟨(some 3), .mv (.t 27), none⟩])
 .skip))
 (.seq (.reg [⟨(some 28), .mv (.t 3), none⟩,
  ⟨(some 2), .mv (.t 28), none⟩])
 .ret))))))⟩
def a135 : Ann := ⟨[(5, [(0, ⟨false, 0, false⟩), (13, ⟨false, 0, false⟩), (14, ⟨false, 0, false⟩), (15, ⟨false, 0, false⟩), (3, ⟨true, 0, false⟩)]), (8, [(0, ⟨false, 0, false⟩), (13, ⟨false, 0, false⟩), (14, ⟨false, 0, false⟩), (15, ⟨false, 0, false⟩), (21, ⟨false, 0, false⟩), (22, ⟨false, 0, false⟩), (3, ⟨true, 0, false⟩), (5, ⟨true, 0, false⟩)])], [⟨true, 0, false⟩], []⟩
def s135 : SFun := ⟨1, 41, [], [(.tmp 2, ⟨true, 0, false⟩)],
 (.seq (.reg [⟨(some 2), .mv (.k .uk), none⟩])
 (.seq (.reg [⟨(some 7), .mkm, none⟩,
  ⟨(some 3), .mv (.t 7), none⟩])
 (.seq (.seq (.reg [⟨(some 8), .mv (.t 0), none⟩,
  ⟨(some 9), .call false 134 [(.t 8)], none⟩,
  ⟨(some 10), .una .not (.t 9), none⟩])
 (.cond (.t 10)
 (.seq (.reg [⟨(some 11), .mv (.t 3), none⟩,
  ⟨(some 2), .mv (.t 11), none⟩])
 .ret)
 .skip))
 (.seq (.seq (.reg [⟨(some 12), .mv (.t 0), none⟩,
  ⟨(some 13), .call false 136 [(.t 12)], none⟩,
  ⟨(some 14), .len (.t 13), none⟩,
  ⟨(some 15), .mv (.k (D.int .i64 (0))), none⟩])
 (.block 0 (.loop [(0, ⟨false, 0, false⟩), (13, ⟨false, 0, false⟩), (14, ⟨false, 0, false⟩), (15, ⟨false, 0, false⟩), (3, ⟨true, 0, false⟩)]
 (.seq (.reg [⟨(some 16), .bin .lss (.t 15) (.t 14), none⟩])
 (.seq (.cond (.t 16)
 .skip
 (.exit 0))
 (.seq (.block 1 (.seq (.reg [⟨(some 17), .ixs 4 (.t 13) (.t 15), none⟩,
  ⟨(some 18), .load true 4 (.t 17), none⟩,
  ⟨(some 5), .alloc [(D.int .i64 (0)), (D.int .u8 (0)), (D.int .u8 (0)), (D.str [])], none⟩,
  ⟨none, .store 4 (.t 5) (.t 18), none⟩])
 (.seq (.reg [⟨(some 19), .fad 3 (.t 5), none⟩,
  ⟨(some 20), .load false 1 (.t 19), none⟩,
  ⟨(some 21), .lens (.t 20), none⟩,
  ⟨(some 22), .mv (.k (D.int .i64 (0))), none⟩])
 (.block 2 (.loop [(0, ⟨false, 0, false⟩), (13, ⟨false, 0, false⟩), (14, ⟨false, 0, false⟩), (15, ⟨false, 0, false⟩), (21, ⟨false, 0, false⟩), (22, ⟨false, 0, false⟩), (3, ⟨true, 0, false⟩), (5, ⟨true, 0, false⟩)]
 (.seq (.reg [⟨(some 23), .bin .lss (.t 22) (.t 21), none⟩])
 (.seq (.cond (.t 23)
 .skip
 (.exit 2))
 (.seq (.block 3 (.seq (.reg [⟨(some 24), .mv (.t 22), none⟩,
  ⟨(some 6), .mv (.t 24), none⟩])
 (.dreg [([], false, ⟨(some 25), .mv (.t 3), none⟩),
  ([0], false, ⟨(some 26), .mv (.t 0), none⟩),
  ([0, 1], false, ⟨(some 27), .fad 0 (.t 5), none⟩),
  ([0, 1], false, ⟨(some 28), .load false 1 (.t 27), none⟩),
  ([0, 1, 2, 3], false, ⟨(some 29), .fad 1 (.t 5), none⟩),
  ([0, 1, 2, 3], false, ⟨(some 30), .load false 1 (.t 29), none⟩),
  ([0, 1, 2, 3, 4, 5], false, ⟨(some 31), .fad 2 (.t 5), none⟩),
  ([0, 1, 2, 3, 4, 5], false, ⟨(some 32), .load false 1 (.t 31), none⟩),
  ([0, 1, 2, 3, 4, 5, 6, 7], false, ⟨(some 33), .fad 3 (.t 5), none⟩),
  ([0, 1, 2, 3, 4, 5, 6, 7], false, ⟨(some 34), .load false 1 (.t 33), none⟩),
  ([0, 1, 2, 3, 4, 5, 6, 7, 8, 9], false, ⟨(some 35), .mv (.t 6), none⟩),
  ([0, 1, 2, 3, 4, 5, 6, 7], false, ⟨(some 36), .ixt (.t 34) (.t 35), none⟩),
  ([0], false, ⟨(some 37), .build [(D.int .i64 (0)), (D.int .i64 (0)), (D.int .u8 (0)), (D.int .u8 (0)), (D.int .u8 (0))] [(0, 1, (.t 26)), (1, 1, (.t 28)), (2, 1, (.t 30)), (3, 1, (.t 32)), (4, 1, (.t 36))], none⟩),
  ([], true, ⟨none, .mup true [1, 1, 1, 1, 1] (.t 25) (.t 37) (.k (D.bool true)), none⟩)])))
 (.reg [⟨(some 38), .bin .add (.t 22) (.k (D.int .i64 (1))), none⟩,
  ⟨(some 22), .mv (.t 38), none⟩])))))))))
 (.reg [⟨(some 39), .bin .add (.t 15) (.k (D.int .i64 (1))), none⟩,
  ⟨(some 15), .mv (.t 39), none⟩])))))))
 (.seq (.reg [⟨(some 40), .mv (.t 3), none⟩,
  ⟨(some 2), .mv (.t 40), none⟩])
 .ret)))))⟩
def a133 : Ann := ⟨[], [⟨false, 0, false⟩], []⟩
def s133 : SFun := ⟨2, 30, [], [(.cell 4 true 5, ⟨false, 0, false⟩)],
 (.seq (.reg [⟨(some 3), .box 7 (.t 1), none⟩,
  ⟨(some 4), .alloc [(D.int .i64 (0)), (D.int .i64 (0)), (D.int .u8 (0)), (D.int .u8 (0)), (D.int .u8 (0))], none⟩])
 (.seq (.reg [⟨(some 6), .mv (.t 0), none⟩,
  ⟨(some 7), .fad 0 (.t 3), none⟩,
  ⟨(some 8), .load false 1 (.t 7), none⟩,
  ⟨(some 9), .fad 2 (.t 3), none⟩,
  ⟨(some 10), .load false 1 (.t 9), none⟩,
  ⟨(some 11), .fad 3 (.t 3), none⟩,
  ⟨(some 12), .load false 1 (.t 11), none⟩,
  ⟨(some 13), .fad 4 (.t 3), none⟩,
  ⟨(some 14), .load false 1 (.t 13), none⟩,
  ⟨(some 15), .build [(D.int .i64 (0)), (D.int .i64 (0)), (D.int .u8 (0)), (D.int .u8 (0)), (D.int .u8 (0))] [(0, 1, (.t 6)), (1, 1, (.t 8)), (2, 1, (.t 10)), (3, 1, (.t 12)), (4, 1, (.t 14))], none⟩,
  ⟨(some 5), .alloc [(D.int .i64 (0)), (D.int .i64 (0)), (D.int .u8 (0)), (D.int .u8 (0)), (D.int .u8 (0))], none⟩,
  ⟨none, .store 5 (.t 5) (.t 15), none⟩])
 (.seq (.seq (.reg [⟨(some 16), .fad 0 (.t 3), none⟩,
  ⟨(some 17), .load false 1 (.t 16), none⟩,
  ⟨(some 18), .bin .eql (.t 17) (.k (D.int .i64 (1))), none⟩])
 (.cond (.t 18)
 (.seq (.reg [⟨(some 19), .fad 4 (.t 5), none⟩,
  ⟨none, .store 1 (.t 19) (.k (D.int .u8 (127))), none⟩])
 (.seq (.reg [⟨(some 20), .fad 1 (.t 3), none⟩,
  ⟨(some 21), .load false 1 (.t 20), none⟩,
  ⟨(some 22), .bin .geq (.t 21) (.k (D.int .i32 (32))), none⟩,
  ⟨(some 23), .mv (.t 22), none⟩,
  ⟨(some 24), .fad 1 (.t 3), (some (23, true))⟩,
  ⟨(some 25), .load false 1 (.t 24), (some (23, true))⟩,
  ⟨(some 26), .bin .leq (.t 25) (.k (D.int .i32 (126))), (some (23, true))⟩,
  ⟨(some 27), .pick (.t 23) (.t 26) (.k (D.bool false)), none⟩])
 (.cond (.t 27)
 (.reg [⟨(some 28), .fad 4 (.t 5), none⟩,
  ⟨none, .store 1 (.t 28) (.k (D.int .u8 (32))), none⟩])
 .skip)))
 .skip))
 (.seq (.reg [⟨(some 29), .load true 5 (.t 5), none⟩,
  ⟨none, .store 5 (.t 4) (.t 29), none⟩])
 .ret))))⟩
def a132 : Ann := ⟨[], [⟨false, 0, false⟩], []⟩
def s132 : SFun := ⟨2, 11, [], [(.tmp 4, ⟨false, 0, false⟩)],
 (.seq (.reg [⟨(some 3), .box 7 (.t 1), none⟩,
  ⟨(some 4), .mv (.k (D.bool false)), none⟩])
 (.seq (.dreg [([], false, ⟨(some 5), .mv (.t 0), none⟩),
  ([], false, ⟨(some 6), .call false 135 [(.t 5)], none⟩),
  ([0, 1], false, ⟨(some 7), .mv (.t 0), none⟩),
  ([0, 1, 2], false, ⟨(some 8), .load true 7 (.t 3), none⟩),
  ([], true, ⟨(some 9), .call false 133 [(.t 7), (.t 8)], none⟩),
  ([], true, ⟨(some 10), .lkp false true [1, 1, 1, 1, 1] (D.bool false) (.t 6) (.t 9), none⟩),
  ([], true, ⟨(some 4), .mv (.t 10), none⟩)])
 .ret))⟩
def a463 : Ann := ⟨[(2, [(0, ⟨false, 0, false⟩), (1, ⟨false, 0, false⟩), (4, ⟨false, 0, false⟩), (7, ⟨false, 0, false⟩), (8, ⟨false, 0, false⟩)])], [⟨false, 0, false⟩], []⟩
def s463 : SFun := ⟨2, 19, [], [(.tmp 4, ⟨false, 0, false⟩)],
 (.seq (.reg [⟨(some 4), .mv (.k (D.int .i64 (0))), none⟩])
 (.seq (.seq (.reg [⟨(some 6), .mv (.t 0), none⟩,
  ⟨(some 7), .len (.t 6), none⟩,
  ⟨(some 8), .mv (.k (D.int .i64 (0))), none⟩])
 (.block 0 (.loop [(0, ⟨false, 0, false⟩), (1, ⟨false, 0, false⟩), (4, ⟨false, 0, false⟩), (7, ⟨false, 0, false⟩), (8, ⟨false, 0, false⟩)]
 (.seq (.reg [⟨(some 9), .bin .lss (.t 8) (.t 7), none⟩])
 (.seq (.cond (.t 9)
 .skip
 (.exit 0))
 (.seq (.block 1 (.seq (.reg [⟨(some 10), .mv (.t 8), none⟩,
  ⟨(some 5), .mv (.t 10), none⟩])
 (.seq (.reg [⟨(some 11), .mv (.t 1), none⟩,
  ⟨(some 12), .mv (.t 0), none⟩,
  ⟨(some 13), .mv (.t 5), none⟩,
  ⟨(some 14), .ixs 1 (.t 12) (.t 13), none⟩,
  ⟨(some 15), .load false 1 (.t 14), none⟩,
  ⟨(some 16), .bin .eql (.t 11) (.t 15), none⟩])
 (.cond (.t 16)
 (.seq (.reg [⟨(some 17), .mv (.t 5), none⟩,
  ⟨(some 4), .mv (.t 17), none⟩])
 .ret)
 .skip))))
 (.reg [⟨(some 18), .bin .add (.t 8) (.k (D.int .i64 (1))), none⟩,
  ⟨(some 8), .mv (.t 18), none⟩])))))))
 (.seq (.reg [⟨(some 4), .mv (.k (D.int .i64 (-1))), none⟩])
 .ret)))⟩
def a455 : Ann := ⟨[], [⟨false, 0, false⟩], []⟩
def s455 : SFun := ⟨2, 9, [], [(.tmp 4, ⟨false, 0, false⟩)],
 (.seq (.reg [⟨(some 4), .mv (.k (D.bool false)), none⟩])
 (.seq (.reg [⟨(some 5), .mv (.t 0), none⟩,
  ⟨(some 6), .mv (.t 1), none⟩,
  ⟨(some 7), .call false 463 [(.t 5), (.t 6)], none⟩,
  ⟨(some 8), .bin .geq (.t 7) (.k (D.int .i64 (0))), none⟩,
  ⟨(some 4), .mv (.t 8), none⟩])
 .ret))⟩
def a430 : Ann := ⟨[], [⟨false, 0, false⟩], []⟩
def s430 : SFun := ⟨3, 15, [], [(.tmp 6, ⟨false, 0, false⟩)],
 (.seq (.reg [⟨(some 6), .mv (.k (D.bool false)), none⟩])
 (.seq (.reg [⟨(some 7), .mv (.t 0), none⟩,
  ⟨(some 8), .mv (.t 1), none⟩,
  ⟨(some 9), .bin .geq (.t 7) (.t 8), none⟩,
  ⟨(some 10), .mv (.t 9), none⟩,
  ⟨(some 11), .mv (.t 0), (some (10, true))⟩,
  ⟨(some 12), .mv (.t 2), (some (10, true))⟩,
  ⟨(some 13), .bin .leq (.t 11) (.t 12), (some (10, true))⟩,
  ⟨(some 14), .pick (.t 10) (.t 13) (.k (D.bool false)), none⟩,
  ⟨(some 6), .mv (.t 14), none⟩])
 .ret))⟩
def a427 : Ann := ⟨[], [⟨false, 0, false⟩], []⟩
def s427 : SFun := ⟨2, 30, [], [(.tmp 4, ⟨false, 0, false⟩)],
 (.seq (.reg [⟨(some 4), .mv (.k (D.bool false)), none⟩])
 (.seq (.seq (.reg [⟨(some 5), .mv (.t 1), none⟩,
  ⟨(some 6), .bin .eql (.t 5) (.k (D.int .i64 (-1))), none⟩,
  ⟨(some 7), .mv (.t 6), none⟩,
  ⟨(some 8), .bsl false 1 5 [(D.int .i64 (0))] [(0, (.k (D.int .i64 (0)))), (1, (.k (D.int .i64 (1)))), (2, (.k (D.int .i64 (4)))), (3, (.k (D.int .i64 (5)))), (4, (.k (D.int .i64 (7))))], (some (7, false))⟩,
  ⟨(some 9), .mv (.t 1), (some (7, false))⟩,
  ⟨(some 10), .call false 455 [(.t 8), (.t 9)], (some (7, false))⟩,
  ⟨(some 11), .pick (.t 7) (.k (D.bool true)) (.t 10), none⟩])
 (.cond (.t 11)
 (.seq (.reg [⟨(some 4), .mv (.k (D.bool true)), none⟩])
 .ret)
 .skip))
 (.seq (.reg [⟨(some 12), .mv (.t 0), none⟩,
  ⟨(some 13), .bin .eql (.t 12) (.k (D.int .i64 (2))), none⟩,
  ⟨(some 14), .mv (.t 13), none⟩,
  ⟨(some 15), .mv (.t 1), (some (14, true))⟩,
  ⟨(some 16), .call false 430 [(.t 15), (.k (D.int .i64 (30))), (.k (D.int .i64 (37)))], (some (14, true))⟩,
  ⟨(some 17), .mv (.t 16), (some (14, true))⟩,
  ⟨(some 18), .mv (.t 1), (some (17, false))⟩,
  ⟨(some 19), .call false 430 [(.t 18), (.k (D.int .i64 (40))), (.k (D.int .i64 (47)))], (some (17, false))⟩,
  ⟨(some 20), .pick (.t 17) (.k (D.bool true)) (.t 19), (some (14, true))⟩,
  ⟨(some 21), .mv (.t 20), (some (14, true))⟩,
  ⟨(some 22), .mv (.t 1), (some (21, false))⟩,
  ⟨(some 23), .bin .eql (.t 22) (.k (D.int .i64 (39))), (some (21, false))⟩,
  ⟨(some 24), .pick (.t 21) (.k (D.bool true)) (.t 23), (some (14, true))⟩,
  ⟨(some 25), .mv (.t 24), (some (14, true))⟩,
  ⟨(some 26), .mv (.t 1), (some (25, false))⟩,
  ⟨(some 27), .bin .eql (.t 26) (.k (D.int .i64 (49))), (some (25, false))⟩,
  ⟨(some 28), .pick (.t 25) (.k (D.bool true)) (.t 27), (some (14, true))⟩,
  ⟨(some 29), .pick (.t 14) (.t 28) (.k (D.bool false)), none⟩,
  ⟨(some 4), .mv (.t 29), none⟩])
 .ret)))⟩
def a334 : Ann := ⟨[], [⟨true, 1, false⟩], []⟩
def s334 : SFun := ⟨0, 2, [], [(.tmp 0, ⟨true, 1, false⟩)],
 (.seq (.reg [⟨(some 0), .mv (.k .sn), none⟩])
 (.seq (.reg [⟨(some 1), .bsl true 1 4 [(D.int .i64 (0))] [(0, (.k (D.int .i64 (1)))), (1, (.k (D.int .i64 (6)))), (2, (.k (D.int .i64 (7)))), (3, (.k (D.int .i64 (25))))], none⟩,
  ⟨(some 0), .mv (.t 1), none⟩])
 .ret))⟩
def a335 : Ann := ⟨[], [⟨false, 0, false⟩], []⟩
def s335 : SFun := ⟨1, 6, [], [(.tmp 2, ⟨false, 0, false⟩)],
 (.seq (.reg [⟨(some 2), .mv (.k (D.bool false)), none⟩])
 (.seq (.reg [⟨(some 3), .call false 334 [], none⟩,
  ⟨(some 4), .mv (.t 0), none⟩,
  ⟨(some 5), .call false 455 [(.t 3), (.t 4)], none⟩,
  ⟨(some 2), .mv (.t 5), none⟩])
 .ret))⟩
def a428 : Ann := ⟨[], [⟨false, 0, false⟩], []⟩
def s428 : SFun := ⟨2, 15, [], [(.tmp 4, ⟨false, 0, false⟩)],
 (.seq (.reg [⟨(some 4), .mv (.k (D.bool false)), none⟩])
 (.seq (.reg [⟨(some 5), .mv (.t 1), none⟩,
  ⟨(some 6), .call false 335 [(.t 5)], none⟩,
  ⟨(some 7), .mv (.t 6), none⟩,
  ⟨(some 8), .mv (.t 0), (some (7, true))⟩,
  ⟨(some 9), .bin .neq (.t 8) (.k (D.int .i64 (1))), (some (7, true))⟩,
  ⟨(some 10), .mv (.t 9), (some (7, true))⟩,
  ⟨(some 11), .mv (.t 1), (some (10, false))⟩,
  ⟨(some 12), .bin .neq (.t 11) (.k (D.int .i64 (25))), (some (10, false))⟩,
  ⟨(some 13), .pick (.t 10) (.k (D.bool true)) (.t 12), (some (7, true))⟩,
  ⟨(some 14), .pick (.t 7) (.t 13) (.k (D.bool false)), none⟩,
  ⟨(some 4), .mv (.t 14), none⟩])
 .ret))⟩
def a425 : Ann := ⟨[], [⟨false, 0, false⟩], []⟩
def s425 : SFun := ⟨3, 31, [], [(.tmp 6, ⟨false, 0, false⟩)],
 (.seq (.reg [⟨(some 4), .box 7 (.t 1), none⟩,
  ⟨(some 6), .mv (.k (D.bool false)), none⟩])
 (.seq (.block 0 (.seq (.reg [⟨(some 8), .fad 0 (.t 4), none⟩,
  ⟨(some 9), .load false 1 (.t 8), none⟩,
  ⟨(some 10), .bin .eql (.t 9) (.k (D.int .i64 (4))), none⟩,
  ⟨(some 11), .mv (.t 10), none⟩,
  ⟨(some 12), .fad 4 (.t 4), (some (11, true))⟩,
  ⟨(some 13), .load false 1 (.t 12), (some (11, true))⟩,
  ⟨(some 14), .bin .eql (.t 13) (.k (D.int .u8 (109))), (some (11, true))⟩,
  ⟨(some 15), .pick (.t 11) (.t 14) (.k (D.bool false)), none⟩,
  ⟨(some 7), .mv (.t 15), none⟩])
 (.cond (.t 7)
 (.seq (.reg [⟨(some 16), .mv (.t 0), none⟩,
  ⟨(some 17), .mv (.t 2), none⟩,
  ⟨(some 18), .call false 427 [(.t 16), (.t 17)], none⟩,
  ⟨(some 6), .mv (.t 18), none⟩])
 .ret)
 (.seq (.reg [⟨(some 20), .fad 0 (.t 4), none⟩,
  ⟨(some 21), .load false 1 (.t 20), none⟩,
  ⟨(some 22), .bin .eql (.t 21) (.k (D.int .i64 (4))), none⟩,
  ⟨(some 23), .mv (.t 22), none⟩,
  ⟨(some 24), .fad 2 (.t 4), (some (23, true))⟩,
  ⟨(some 25), .load false 1 (.t 24), (some (23, true))⟩,
  ⟨(some 26), .bin .eql (.t 25) (.k (D.int .u8 (63))), (some (23, true))⟩,
  ⟨(some 27), .pick (.t 23) (.t 26) (.k (D.bool false)), none⟩,
  ⟨(some 19), .mv (.t 27), none⟩])
 (.cond (.t 19)
 (.seq (.reg [⟨(some 28), .mv (.t 0), none⟩,
  ⟨(some 29), .mv (.t 2), none⟩,
  ⟨(some 30), .call false 428 [(.t 28), (.t 29)], none⟩,
  ⟨(some 6), .mv (.t 30), none⟩])
 .ret)
 .skip)))))
 (.seq (.reg [⟨(some 6), .mv (.k (D.bool true)), none⟩])
 .ret)))⟩
def a451 : Ann := ⟨[], [⟨true, 5, false⟩], []⟩
def n451 : NFun := ⟨1, 8, [], [(.tmp 2, ⟨true, 5, false⟩)],
 (.reg [⟨(some 2), .mv (.k .sn), none⟩]), ⟨(some 3), .mv (.t 0), none⟩, 4, (.t 3), (.cond (.t 4)
 (.seq (.reg [⟨(some 2), .mv (.k .sn), none⟩])
 .ret)
 .skip), (.seq (.reg [⟨(some 5), .bsl true 5 0 [(D.int .i32 (0)), (D.int .i64 (0)), (D.int .i64 (0)), (D.int .i64 (0)), (D.int .i64 (0))] [], none⟩,
  ⟨(some 6), .mv (.t 0), none⟩,
  ⟨(some 7), .append 5 40 (.t 5) (.t 6), none⟩,
  ⟨(some 2), .mv (.t 7), none⟩])
 .ret)⟩
def a370 : Ann := ⟨[], [⟨false, 0, false⟩], []⟩
def s370 : SFun := ⟨1, 10, [], [(.cell 2 true 29, ⟨false, 0, false⟩)],
 (.seq (.reg [⟨(some 1), .box 29 (.t 0), none⟩,
  ⟨(some 2), .alloc [(D.int .i64 (0)), (D.int .i64 (0)), .sn, (D.int .i64 (0)), (D.int .i64 (0)), (D.bool false), (D.int .i64 (0)), (D.int .i64 (0)), (D.int .i64 (0)), (D.int .i64 (0)), (D.int .i64 (0)), (D.int .u64 (0)), (D.int .u8 (0)), (D.int .u8 (0)), (D.int .i64 (0)), (D.bool false), (D.bool false), (D.bool false), (D.bool false), (D.bool false), (D.int .i64 (0)), (D.int .i64 (0)), (D.int .i64 (0)), (D.int .i64 (0)), (D.int .i64 (0)), (D.int .u8 (0)), (D.int .u8 (0)), (D.int .i64 (0)), (D.bool false)], none⟩])
 (.seq (.reg [⟨(some 3), .fad 0 (.t 1), none⟩,
  ⟨(some 4), .fad 2 (.t 3), none⟩,
  ⟨(some 5), .load false 1 (.t 4), none⟩,
  ⟨(some 6), .call false 451 [(.t 5)], none⟩,
  ⟨(some 7), .fad 0 (.t 1), none⟩,
  ⟨(some 8), .fad 2 (.t 7), none⟩,
  ⟨none, .store 1 (.t 8) (.t 6), none⟩])
 (.seq (.reg [⟨(some 9), .load true 29 (.t 1), none⟩,
  ⟨none, .store 29 (.t 2) (.t 9), none⟩])
 .ret)))⟩
def a122 : Ann := ⟨[], [⟨false, 0, false⟩], []⟩
def s122 : SFun := ⟨3, 27, [], [(.cell 6 true 29, ⟨false, 0, false⟩)],
 (.seq (.reg [⟨(some 3), .box 29 (.t 0), none⟩,
  ⟨(some 6), .alloc [(D.int .i64 (0)), (D.int .i64 (0)), .sn, (D.int .i64 (0)), (D.int .i64 (0)), (D.bool false), (D.int .i64 (0)), (D.int .i64 (0)), (D.int .i64 (0)), (D.int .i64 (0)), (D.int .i64 (0)), (D.int .u64 (0)), (D.int .u8 (0)), (D.int .u8 (0)), (D.int .i64 (0)), (D.bool false), (D.bool false), (D.bool false), (D.bool false), (D.bool false), (D.int .i64 (0)), (D.int .i64 (0)), (D.int .i64 (0)), (D.int .i64 (0)), (D.int .i64 (0)), (D.int .u8 (0)), (D.int .u8 (0)), (D.int .i64 (0)), (D.bool false)], none⟩])
 (.seq (.reg [⟨(some 7), .load true 29 (.t 3), none⟩,
  ⟨(some 8), .call false 370 [(.t 7)], none⟩,
  ⟨none, .store 29 (.t 3) (.t 8), none⟩])
 (.seq (.reg [⟨(some 9), .mv (.t 1), none⟩,
  ⟨(some 10), .fad 0 (.t 3), none⟩,
  ⟨(some 11), .fad 0 (.t 10), none⟩,
  ⟨(some 12), .load false 1 (.t 11), none⟩,
  ⟨(some 13), .bin .sub (.t 12) (.k (D.int .i64 (1))), none⟩,
  ⟨(some 14), .mn [(.t 9), (.t 13)], none⟩,
  ⟨(some 15), .mx [(.k (D.int .i64 (0))), (.t 14)], none⟩,
  ⟨(some 16), .mv (.t 2), none⟩,
  ⟨(some 17), .fad 0 (.t 3), none⟩,
  ⟨(some 18), .fad 1 (.t 17), none⟩,
  ⟨(some 19), .load false 1 (.t 18), none⟩,
  ⟨(some 20), .bin .sub (.t 19) (.k (D.int .i64 (1))), none⟩,
  ⟨(some 21), .mn [(.t 16), (.t 20)], none⟩,
  ⟨(some 22), .mx [(.k (D.int .i64 (0))), (.t 21)], none⟩,
  ⟨(some 23), .fad 3 (.t 3), none⟩,
  ⟨none, .store 1 (.t 23) (.t 15), none⟩,
  ⟨(some 24), .fad 4 (.t 3), none⟩,
  ⟨none, .store 1 (.t 24) (.t 22), none⟩,
  ⟨(some 25), .fad 5 (.t 3), none⟩,
  ⟨none, .store 1 (.t 25) (.k (D.bool false)), none⟩])
 (.seq (.reg [⟨(some 26), .load true 29 (.t 3), none⟩,
  ⟨none, .store 29 (.t 6) (.t 26), none⟩])
 .ret))))⟩
def a145 : Ann := ⟨[], [⟨false, 0, false⟩], []⟩
def s145 : SFun := ⟨1, 6, [], [(.tmp 2, ⟨false, 0, false⟩)],
 (.seq (.reg [⟨(some 2), .mv (.k (D.int .i64 (0))), none⟩])
 (.seq (.reg [⟨(some 3), .mv (.t 0), none⟩,
  ⟨(some 4), .mn [(.t 3), (.k (D.int .i64 (40)))], none⟩,
  ⟨(some 5), .mx [(.k (D.int .i64 (0))), (.t 4)], none⟩,
  ⟨(some 2), .mv (.t 5), none⟩])
 .ret))⟩
def a144 : Ann := ⟨[], [⟨true, 0, false⟩], []⟩
def s144 : SFun := ⟨1, 8, [], [(.cell 2 true 3, ⟨true, 0, false⟩)],
 (.seq (.reg [⟨(some 1), .box 3 (.t 0), none⟩,
  ⟨(some 2), .alloc [(D.int .i64 (0)), (D.int .i64 (0)), .sn], none⟩])
 (.seq (.reg [⟨(some 3), .fad 2 (.t 1), none⟩,
  ⟨(some 4), .load false 1 (.t 3), none⟩,
  ⟨(some 5), .call false 451 [(.t 4)], none⟩,
  ⟨(some 6), .fad 2 (.t 1), none⟩,
  ⟨none, .store 1 (.t 6) (.t 5), none⟩])
 (.seq (.reg [⟨(some 7), .load true 3 (.t 1), none⟩,
  ⟨none, .store 3 (.t 2) (.t 7), none⟩])
 .ret)))⟩
def a143 : Ann := ⟨[], [⟨true, 5, false⟩], []⟩
def s143 : SFun := ⟨2, 10, [], [(.tmp 4, ⟨true, 5, false⟩)],
 (.seq (.reg [⟨(some 3), .box 3 (.t 1), none⟩,
  ⟨(some 4), .mv (.k .sn), none⟩])
 (.seq (.reg [⟨(some 5), .load true 3 (.t 3), none⟩,
  ⟨(some 6), .call false 106 [(.t 5)], none⟩,
  ⟨(some 7), .bsl false 5 1 [(D.int .i32 (0)), (D.int .i64 (0)), (D.int .i64 (0)), (D.int .i64 (0)), (D.int .i64 (0))] [(0, (.t 6))], none⟩,
  ⟨(some 8), .mv (.t 0), none⟩,
  ⟨(some 9), .call false 465 [(.t 7), (.t 8)], none⟩,
  ⟨(some 4), .mv (.t 9), none⟩])
 .ret))⟩
def a147 : Ann := ⟨[(5, [(1, ⟨false, 0, false⟩), (2, ⟨false, 0, false⟩), (3, ⟨false, 0, false⟩), (12, ⟨false, 0, false⟩), (5, ⟨true, 0, false⟩), (9, ⟨true, 0, false⟩), (10, ⟨true, 0, false⟩), (11, ⟨true, 0, false⟩)])], [⟨false, 0, false⟩], []⟩
def s147 : SFun := ⟨5, 74, [], [(.cell 10 true 3, ⟨false, 0, false⟩)],
 (.seq (.reg [⟨(some 5), .box 3 (.t 0), none⟩,
  ⟨(some 9), .box 3 (.t 4), none⟩,
  ⟨(some 10), .alloc [(D.int .i64 (0)), (D.int .i64 (0)), .sn], none⟩])
 (.seq (.reg [⟨(some 15), .load true 3 (.t 5), none⟩,
  ⟨(some 16), .call false 144 [(.t 15)], none⟩,
  ⟨(some 11), .alloc [(D.int .i64 (0)), (D.int .i64 (0)), .sn], none⟩,
  ⟨none, .store 3 (.t 11) (.t 16), none⟩])
 (.seq (.seq (.reg [⟨(some 17), .mv (.t 1), none⟩,
  ⟨(some 18), .bin .lss (.t 17) (.k (D.int .i64 (0))), none⟩,
  ⟨(some 19), .mv (.t 18), none⟩,
  ⟨(some 20), .mv (.t 2), (some (19, false))⟩,
  ⟨(some 21), .fad 0 (.t 5), (some (19, false))⟩,
  ⟨(some 22), .load false 1 (.t 21), (some (19, false))⟩,
  ⟨(some 23), .bin .geq (.t 20) (.t 22), (some (19, false))⟩,
  ⟨(some 24), .pick (.t 19) (.k (D.bool true)) (.t 23), none⟩,
  ⟨(some 25), .mv (.t 24), none⟩,
  ⟨(some 26), .mv (.t 1), (some (25, false))⟩,
  ⟨(some 27), .mv (.t 2), (some (25, false))⟩,
  ⟨(some 28), .bin .gtr (.t 26) (.t 27), (some (25, false))⟩,
  ⟨(some 29), .pick (.t 25) (.k (D.bool true)) (.t 28), none⟩])
 (.cond (.t 29)
 (.seq (.reg [⟨(some 30), .load true 3 (.t 11), none⟩,
  ⟨none, .store 3 (.t 10) (.t 30), none⟩])
 .ret)
 .skip))
 (.seq (.seq (.reg [⟨(some 31), .mv (.t 1), none⟩,
  ⟨(some 12), .mv (.t 31), none⟩])
 (.block 0 (.loop [(1, ⟨false, 0, false⟩), (2, ⟨false, 0, false⟩), (3, ⟨false, 0, false⟩), (12, ⟨false, 0, false⟩), (5, ⟨true, 0, false⟩), (9, ⟨true, 0, false⟩), (10, ⟨true, 0, false⟩), (11, ⟨true, 0, false⟩)]
 (.seq (.seq (.reg [⟨(some 32), .mv (.t 12), none⟩,
  ⟨(some 33), .mv (.t 2), none⟩,
  ⟨(some 34), .bin .leq (.t 32) (.t 33), none⟩])
 (.cond (.t 34)
 .skip
 (.exit 0)))
 (.seq (.block 1 (.seq (.reg [⟨(some 37), .fad 1 (.t 5), none⟩,
  ⟨(some 38), .load false 1 (.t 37), none⟩,
  ⟨(some 39), .load true 3 (.t 9), none⟩,
  ⟨(some 40), .call false 143 [(.t 38), (.t 39)], none⟩,
  ⟨(some 13), .mv (.t 40), none⟩])
 (.seq (.seq (.reg [⟨(some 41), .mv (.t 12), none⟩,
  ⟨(some 42), .mv (.t 3), none⟩,
  ⟨(some 43), .bin .add (.t 41) (.t 42), none⟩,
  ⟨(some 14), .mv (.t 43), none⟩])
 (.seq (.reg [⟨(some 44), .mv (.t 14), none⟩,
  ⟨(some 45), .mv (.t 1), none⟩,
  ⟨(some 46), .bin .geq (.t 44) (.t 45), none⟩,
  ⟨(some 47), .mv (.t 46), none⟩,
  ⟨(some 48), .mv (.t 14), (some (47, true))⟩,
  ⟨(some 49), .mv (.t 2), (some (47, true))⟩,
  ⟨(some 50), .bin .leq (.t 48) (.t 49), (some (47, true))⟩,
  ⟨(some 51), .pick (.t 47) (.t 50) (.k (D.bool false)), none⟩])
 (.cond (.t 51)
 (.reg [⟨(some 52), .fad 2 (.t 5), none⟩,
  ⟨(some 53), .load false 1 (.t 52), none⟩,
  ⟨(some 54), .mv (.t 14), none⟩,
  ⟨(some 55), .fad 1 (.t 5), none⟩,
  ⟨(some 56), .load false 1 (.t 55), none⟩,
  ⟨(some 57), .bin .mul (.t 54) (.t 56), none⟩,
  ⟨(some 58), .mv (.t 14), none⟩,
  ⟨(some 59), .bin .add (.t 58) (.k (D.int .i64 (1))), none⟩,
  ⟨(some 60), .fad 1 (.t 5), none⟩,
  ⟨(some 61), .load false 1 (.t 60), none⟩,
  ⟨(some 62), .bin .mul (.t 59) (.t 61), none⟩,
  ⟨(some 63), .slc 5 (.t 53) (some (.t 57)) (some (.t 62)), none⟩,
  ⟨(some 13), .mv (.t 63), none⟩])
 .skip)))
 (.reg [⟨(some 64), .fad 2 (.t 11), none⟩,
  ⟨(some 65), .load false 1 (.t 64), none⟩,
  ⟨(some 66), .mv (.t 12), none⟩,
  ⟨(some 67), .fad 1 (.t 5), none⟩,
  ⟨(some 68), .load false 1 (.t 67), none⟩,
  ⟨(some 69), .bin .mul (.t 66) (.t 68), none⟩,
  ⟨(some 70), .slc 5 (.t 65) (some (.t 69)) none, none⟩,
  ⟨(some 71), .mv (.t 13), none⟩,
  ⟨(some 72), .copy 5 (.t 70) (.t 71), none⟩]))))
 (.reg [⟨(some 35), .mv (.t 12), none⟩,
  ⟨(some 36), .bin .add (.t 35) (.k (D.int .i64 (1))), none⟩,
  ⟨(some 12), .mv (.t 36), none⟩]))))))
 (.seq (.reg [⟨(some 73), .load true 3 (.t 11), none⟩,
  ⟨none, .store 3 (.t 10) (.t 73), none⟩])
 .ret)))))⟩
def a138 : Ann := ⟨[], [⟨false, 0, false⟩], []⟩
def s138 : SFun := ⟨5, 19, [], [(.cell 10 true 3, ⟨false, 0, false⟩)],
 (.seq (.reg [⟨(some 5), .box 3 (.t 0), none⟩,
  ⟨(some 9), .box 3 (.t 4), none⟩,
  ⟨(some 10), .alloc [(D.int .i64 (0)), (D.int .i64 (0)), .sn], none⟩])
 (.seq (.dreg [([], false, ⟨(some 11), .load true 3 (.t 5), none⟩),
  ([0], false, ⟨(some 12), .mv (.t 1), none⟩),
  ([0, 1], false, ⟨(some 13), .mv (.t 2), none⟩),
  ([0, 1, 2], false, ⟨(some 14), .mv (.t 3), none⟩),
  ([0, 1, 2], false, ⟨(some 15), .call true 145 [(.t 14)], none⟩),
  ([0, 1, 2], false, ⟨(some 16), .una .neg (.t 15), none⟩),
  ([0, 1, 2, 3, 4, 5], false, ⟨(some 17), .load true 3 (.t 9), none⟩),
  ([], true, ⟨(some 18), .call false 147 [(.t 11), (.t 12), (.t 13), (.t 16), (.t 17)], none⟩),
  ([], true, ⟨none, .store 3 (.t 10) (.t 18), none⟩)])
 .ret))⟩
def a371 : Ann := ⟨[], [⟨false, 0, false⟩], []⟩
def s371 : SFun := ⟨1, 7, [], [(.cell 2 true 3, ⟨false, 0, false⟩)],
 (.seq (.reg [⟨(some 1), .box 29 (.t 0), none⟩,
  ⟨(some 2), .alloc [(D.int .i64 (0)), (D.int .i64 (0)), (D.int .i64 (0))], none⟩])
 (.seq (.reg [⟨(some 3), .fad 8 (.t 1), none⟩,
  ⟨(some 4), .fad 1 (.t 3), none⟩,
  ⟨(some 5), .load false 1 (.t 4), none⟩,
  ⟨(some 6), .build [(D.int .i64 (0)), (D.int .i64 (0)), (D.int .i64 (0))] [(0, 1, (.k (D.int .i64 (-1)))), (1, 1, (.t 5))], none⟩,
  ⟨none, .store 3 (.t 2) (.t 6), none⟩])
 .ret))⟩
def a123 : Ann := ⟨[], [⟨false, 0, false⟩], []⟩
def s123 : SFun := ⟨1, 27, [], [(.cell 2 true 29, ⟨false, 0, false⟩)],
 (.seq (.reg [⟨(some 1), .box 29 (.t 0), none⟩,
  ⟨(some 2), .alloc [(D.int .i64 (0)), (D.int .i64 (0)), .sn, (D.int .i64 (0)), (D.int .i64 (0)), (D.bool false), (D.int .i64 (0)), (D.int .i64 (0)), (D.int .i64 (0)), (D.int .i64 (0)), (D.int .i64 (0)), (D.int .u64 (0)), (D.int .u8 (0)), (D.int .u8 (0)), (D.int .i64 (0)), (D.bool false), (D.bool false), (D.bool false), (D.bool false), (D.bool false), (D.int .i64 (0)), (D.int .i64 (0)), (D.int .i64 (0)), (D.int .i64 (0)), (D.int .i64 (0)), (D.int .u8 (0)), (D.int .u8 (0)), (D.int .i64 (0)), (D.bool false)], none⟩])
 (.seq (.seq (.reg [⟨(some 3), .fad 3 (.t 1), none⟩,
  ⟨(some 4), .load false 1 (.t 3), none⟩,
  ⟨(some 5), .fad 6 (.t 1), none⟩,
  ⟨(some 6), .load false 1 (.t 5), none⟩,
  ⟨(some 7), .bin .neq (.t 4) (.t 6), none⟩])
 (.cond (.t 7)
 (.seq (.reg [⟨(some 8), .load true 29 (.t 1), none⟩,
  ⟨(some 9), .fad 3 (.t 1), none⟩,
  ⟨(some 10), .load false 1 (.t 9), none⟩,
  ⟨(some 11), .bin .sub (.t 10) (.k (D.int .i64 (1))), none⟩,
  ⟨(some 12), .fad 4 (.t 1), none⟩,
  ⟨(some 13), .load false 1 (.t 12), none⟩,
  ⟨(some 14), .call false 122 [(.t 8), (.t 11), (.t 13)], none⟩,
  ⟨none, .store 29 (.t 2) (.t 14), none⟩])
 .ret)
 .skip))
 (.seq (.dreg [([], false, ⟨(some 15), .fad 0 (.t 1), none⟩),
  ([], false, ⟨(some 16), .load true 3 (.t 15), none⟩),
  ([0, 1], false, ⟨(some 17), .fad 6 (.t 1), none⟩),
  ([0, 1], false, ⟨(some 18), .load false 1 (.t 17), none⟩),
  ([0, 1, 2, 3], false, ⟨(some 19), .fad 7 (.t 1), none⟩),
  ([0, 1, 2, 3], false, ⟨(some 20), .load false 1 (.t 19), none⟩),
  ([0, 1, 2, 3, 4, 5], false, ⟨(some 21), .load true 29 (.t 1), none⟩),
  ([0, 1, 2, 3, 4, 5], false, ⟨(some 22), .callr 371 [(.t 21)], none⟩),
  ([], true, ⟨(some 23), .call false 138 [(.t 16), (.t 18), (.t 20), (.k (D.int .i64 (1))), (.t 22)], none⟩),
  ([], true, ⟨(some 24), .fad 0 (.t 1), none⟩),
  ([], true, ⟨none, .store 3 (.t 24) (.t 23), none⟩),
  ([], true, ⟨(some 25), .fad 5 (.t 1), none⟩),
  ([], true, ⟨none, .store 1 (.t 25) (.k (D.bool false)), none⟩)])
 (.seq (.reg [⟨(some 26), .load true 29 (.t 1), none⟩,
  ⟨none, .store 29 (.t 2) (.t 26), none⟩])
 .ret))))⟩
def a115 : Ann := ⟨[], [⟨true, 1, false⟩], []⟩
def s115 : SFun := ⟨0, 2, [], [(.tmp 0, ⟨true, 1, false⟩)],
 (.seq (.reg [⟨(some 0), .mv (.k .sn), none⟩])
 (.seq (.reg [⟨(some 1), .bsl true 1 31 [(D.int .i32 (0))] [(0, (.k (D.int .i32 (9670)))), (1, (.k (D.int .i32 (9618)))), (2, (.k (D.int .i32 (9225)))), (3, (.k (D.int .i32 (9228)))), (4, (.k (D.int .i32 (9229)))), (5, (.k (D.int .i32 (9226)))), (6, (.k (D.int .i32 (176)))), (7, (.k (D.int .i32 (177)))), (8, (.k (D.int .i32 (9252)))), (9, (.k (D.int .i32 (9227)))), (10, (.k (D.int .i32 (9496)))), (11, (.k (D.int .i32 (9488)))), (12, (.k (D.int .i32 (9484)))), (13, (.k (D.int .i32 (9492)))), (14, (.k (D.int .i32 (9532)))), (15, (.k (D.int .i32 (9146)))), (16, (.k (D.int .i32 (9147)))), (17, (.k (D.int .i32 (9472)))), (18, (.k (D.int .i32 (9148)))), (19, (.k (D.int .i32 (9149)))), (20, (.k (D.int .i32 (9500)))), (21, (.k (D.int .i32 (9508)))), (22, (.k (D.int .i32 (9524)))), (23, (.k (D.int .i32 (9516)))), (24, (.k (D.int .i32 (9474)))), (25, (.k (D.int .i32 (8804)))), (26, (.k (D.int .i32 (8805)))), (27, (.k (D.int .i32 (960)))), (28, (.k (D.int .i32 (8800)))), (29, (.k (D.int .i32 (163)))), (30, (.k (D.int .i32 (183))))], none⟩,
  ⟨(some 0), .mv (.t 1), none⟩])
 .ret))⟩
def a114 : Ann := ⟨[], [⟨false, 0, false⟩], []⟩
def s114 : SFun := ⟨1, 26, [], [(.tmp 2, ⟨false, 0, false⟩)],
 (.seq (.reg [⟨(some 2), .mv (.k (D.int .i32 (0))), none⟩])
 (.seq (.seq (.reg [⟨(some 4), .call false 115 [], none⟩,
  ⟨(some 3), .mv (.t 4), none⟩])
 (.block 0 (.seq (.reg [⟨(some 6), .mv (.t 0), none⟩,
  ⟨(some 7), .bin .eql (.t 6) (.k (D.int .u8 (95))), none⟩,
  ⟨(some 5), .mv (.t 7), none⟩])
 (.cond (.t 5)
 (.seq (.reg [⟨(some 2), .mv (.k (D.int .i32 (32))), none⟩])
 .ret)
 (.seq (.reg [⟨(some 9), .mv (.t 0), none⟩,
  ⟨(some 10), .bin .geq (.t 9) (.k (D.int .u8 (96))), none⟩,
  ⟨(some 11), .mv (.t 10), none⟩,
  ⟨(some 12), .mv (.t 0), (some (11, true))⟩,
  ⟨(some 13), .cvi .i64 (.t 12), (some (11, true))⟩,
  ⟨(some 14), .mv (.t 3), (some (11, true))⟩,
  ⟨(some 15), .len (.t 14), (some (11, true))⟩,
  ⟨(some 16), .bin .add (.k (D.int .i64 (96))) (.t 15), (some (11, true))⟩,
  ⟨(some 17), .bin .lss (.t 13) (.t 16), (some (11, true))⟩,
  ⟨(some 18), .pick (.t 11) (.t 17) (.k (D.bool false)), none⟩,
  ⟨(some 8), .mv (.t 18), none⟩])
 (.cond (.t 8)
 (.seq (.reg [⟨(some 19), .mv (.t 3), none⟩,
  ⟨(some 20), .mv (.t 0), none⟩,
  ⟨(some 21), .bin .sub (.t 20) (.k (D.int .u8 (96))), none⟩,
  ⟨(some 22), .ixs 1 (.t 19) (.t 21), none⟩,
  ⟨(some 23), .load false 1 (.t 22), none⟩,
  ⟨(some 2), .mv (.t 23), none⟩])
 .ret)
 .skip))))))
 (.seq (.reg [⟨(some 24), .mv (.t 0), none⟩,
  ⟨(some 25), .cvi .i32 (.t 24), none⟩,
  ⟨(some 2), .mv (.t 25), none⟩])
 .ret)))⟩
def a407 : Ann := ⟨[], [⟨false, 0, false⟩], []⟩
def s407 : SFun := ⟨2, 23, [], [(.tmp 4, ⟨false, 0, false⟩)],
 (.seq (.reg [⟨(some 2), .box 29 (.t 0), none⟩,
  ⟨(some 4), .mv (.k (D.int .i32 (0))), none⟩])
 (.seq (.seq (.reg [⟨(some 5), .fad 14 (.t 2), none⟩,
  ⟨(some 6), .load false 1 (.t 5), none⟩,
  ⟨(some 7), .fad 12 (.t 2), none⟩,
  ⟨(some 8), .ixa 2 1 (.t 7) (.t 6), none⟩,
  ⟨(some 9), .load false 1 (.t 8), none⟩,
  ⟨(some 10), .bin .eql (.t 9) (.k (D.int .u8 (48))), none⟩,
  ⟨(some 11), .mv (.t 10), none⟩,
  ⟨(some 12), .mv (.t 1), (some (11, true))⟩,
  ⟨(some 13), .bin .geq (.t 12) (.k (D.int .i32 (95))), (some (11, true))⟩,
  ⟨(some 14), .pick (.t 11) (.t 13) (.k (D.bool false)), none⟩,
  ⟨(some 15), .mv (.t 14), none⟩,
  ⟨(some 16), .mv (.t 1), (some (15, true))⟩,
  ⟨(some 17), .bin .leq (.t 16) (.k (D.int .i32 (126))), (some (15, true))⟩,
  ⟨(some 18), .pick (.t 15) (.t 17) (.k (D.bool false)), none⟩])
 (.cond (.t 18)
 (.seq (.reg [⟨(some 19), .mv (.t 1), none⟩,
  ⟨(some 20), .cvi .u8 (.t 19), none⟩,
  ⟨(some 21), .call false 114 [(.t 20)], none⟩,
  ⟨(some 4), .mv (.t 21), none⟩])
 .ret)
 .skip))
 (.seq (.reg [⟨(some 22), .mv (.t 1), none⟩,
  ⟨(some 4), .mv (.t 22), none⟩])
 .ret)))⟩
def a110 : Ann := ⟨[], [⟨false, 0, false⟩], []⟩
def s110 : SFun := ⟨3, 15, [], [(.tmp 6, ⟨false, 0, false⟩)],
 (.seq (.reg [⟨(some 6), .mv (.k (D.bool false)), none⟩])
 (.seq (.reg [⟨(some 7), .mv (.t 0), none⟩,
  ⟨(some 8), .mv (.t 1), none⟩,
  ⟨(some 9), .bin .geq (.t 7) (.t 8), none⟩,
  ⟨(some 10), .mv (.t 9), none⟩,
  ⟨(some 11), .mv (.t 0), (some (10, true))⟩,
  ⟨(some 12), .mv (.t 2), (some (10, true))⟩,
  ⟨(some 13), .bin .leq (.t 11) (.t 12), (some (10, true))⟩,
  ⟨(some 14), .pick (.t 10) (.t 13) (.k (D.bool false)), none⟩,
  ⟨(some 6), .mv (.t 14), none⟩])
 .ret))⟩
def a112 : Ann := ⟨[], [⟨false, 0, false⟩], []⟩
def s112 : SFun := ⟨1, 21, [], [(.tmp 2, ⟨false, 0, false⟩)],
 (.seq (.reg [⟨(some 2), .mv (.k (D.bool false)), none⟩])
 (.seq (.reg [⟨(some 3), .mv (.t 0), none⟩,
  ⟨(some 4), .bin .lss (.t 3) (.k (D.int .i32 (32))), none⟩,
  ⟨(some 5), .mv (.t 4), none⟩,
  ⟨(some 6), .mv (.t 0), (some (5, false))⟩,
  ⟨(some 7), .call false 110 [(.t 6), (.k (D.int .i32 (127))), (.k (D.int .i32 (159)))], (some (5, false))⟩,
  ⟨(some 8), .pick (.t 5) (.k (D.bool true)) (.t 7), none⟩,
  ⟨(some 9), .mv (.t 8), none⟩,
  ⟨(some 10), .mv (.t 0), (some (9, false))⟩,
  ⟨(some 11), .call false 110 [(.t 10), (.k (D.int .i32 (768))), (.k (D.int .i32 (879)))], (some (9, false))⟩,
  ⟨(some 12), .pick (.t 9) (.k (D.bool true)) (.t 11), none⟩,
  ⟨(some 13), .mv (.t 12), none⟩,
  ⟨(some 14), .mv (.t 0), (some (13, false))⟩,
  ⟨(some 15), .call false 110 [(.t 14), (.k (D.int .i32 (55296))), (.k (D.int .i32 (57343)))], (some (13, false))⟩,
  ⟨(some 16), .pick (.t 13) (.k (D.bool true)) (.t 15), none⟩,
  ⟨(some 17), .mv (.t 16), none⟩,
  ⟨(some 18), .mv (.t 0), (some (17, false))⟩,
  ⟨(some 19), .bin .gtr (.t 18) (.k (D.int .i32 (1114111))), (some (17, false))⟩,
  ⟨(some 20), .pick (.t 17) (.k (D.bool true)) (.t 19), none⟩,
  ⟨(some 2), .mv (.t 20), none⟩])
 .ret))⟩
def a113 : Ann := ⟨[(2, [(0, ⟨false, 0, false⟩), (2, ⟨false, 0, false⟩), (14, ⟨false, 0, false⟩), (15, ⟨false, 0, false⟩), (16, ⟨false, 0, false⟩)])], [⟨false, 0, false⟩], []⟩
def s113 : SFun := ⟨1, 27, [], [(.tmp 2, ⟨false, 0, false⟩)],
 (.seq (.reg [⟨(some 2), .mv (.k (D.bool false)), none⟩])
 (.seq (.seq (.reg [⟨(some 5), .build [(D.int .i32 (0)), (D.int .i32 (0))] [(0, 1, (.k (D.int .i32 (4352)))), (1, 1, (.k (D.int .i32 (4447))))], none⟩,
  ⟨(some 6), .build [(D.int .i32 (0)), (D.int .i32 (0))] [(0, 1, (.k (D.int .i32 (11904)))), (1, 1, (.k (D.int .i32 (42191))))], none⟩,
  ⟨(some 7), .build [(D.int .i32 (0)), (D.int .i32 (0))] [(0, 1, (.k (D.int .i32 (44032)))), (1, 1, (.k (D.int .i32 (55203))))], none⟩,
  ⟨(some 8), .build [(D.int .i32 (0)), (D.int .i32 (0))] [(0, 1, (.k (D.int .i32 (63744)))), (1, 1, (.k (D.int .i32 (64255))))], none⟩,
  ⟨(some 9), .build [(D.int .i32 (0)), (D.int .i32 (0))] [(0, 1, (.k (D.int .i32 (65072)))), (1, 1, (.k (D.int .i32 (65135))))], none⟩,
  ⟨(some 10), .build [(D.int .i32 (0)), (D.int .i32 (0))] [(0, 1, (.k (D.int .i32 (65280)))), (1, 1, (.k (D.int .i32 (65376))))], none⟩,
  ⟨(some 11), .build [(D.int .i32 (0)), (D.int .i32 (0))] [(0, 1, (.k (D.int .i32 (65504)))), (1, 1, (.k (D.int .i32 (65510))))], none⟩,
  ⟨(some 12), .build [(D.int .i32 (0)), (D.int .i32 (0))] [(0, 1, (.k (D.int .i32 (127744)))), (1, 1, (.k (D.int .i32 (129791))))], none⟩,
  ⟨(some 13), .build [(D.int .i32 (0)), (D.int .i32 (0))] [(0, 1, (.k (D.int .i32 (131072)))), (1, 1, (.k (D.int .i32 (262141))))], none⟩,
  ⟨(some 14), .bsl false 2 9 [(D.int .i32 (0)), (D.int .i32 (0))] [(0, (.t 5)), (1, (.t 6)), (2, (.t 7)), (3, (.t 8)), (4, (.t 9)), (5, (.t 10)), (6, (.t 11)), (7, (.t 12)), (8, (.t 13))], none⟩,
  ⟨(some 15), .len (.t 14), none⟩,
  ⟨(some 16), .mv (.k (D.int .i64 (0))), none⟩])
 (.block 0 (.loop [(0, ⟨false, 0, false⟩), (2, ⟨false, 0, false⟩), (14, ⟨false, 0, false⟩), (15, ⟨false, 0, false⟩), (16, ⟨false, 0, false⟩)]
 (.seq (.reg [⟨(some 17), .bin .lss (.t 16) (.t 15), none⟩])
 (.seq (.cond (.t 17)
 .skip
 (.exit 0))
 (.seq (.block 1 (.seq (.reg [⟨(some 18), .ixs 2 (.t 14) (.t 16), none⟩,
  ⟨(some 19), .load true 2 (.t 18), none⟩,
  ⟨(some 4), .alloc [(D.int .i32 (0)), (D.int .i32 (0))], none⟩,
  ⟨none, .store 2 (.t 4) (.t 19), none⟩])
 (.seq (.reg [⟨(some 20), .mv (.t 0), none⟩,
  ⟨(some 21), .ixa 2 1 (.t 4) (.k (D.int .i64 (0))), none⟩,
  ⟨(some 22), .load false 1 (.t 21), none⟩,
  ⟨(some 23), .ixa 2 1 (.t 4) (.k (D.int .i64 (1))), none⟩,
  ⟨(some 24), .load false 1 (.t 23), none⟩,
  ⟨(some 25), .call false 110 [(.t 20), (.t 22), (.t 24)], none⟩])
 (.cond (.t 25)
 (.seq (.reg [⟨(some 2), .mv (.k (D.bool true)), none⟩])
 .ret)
 .skip))))
 (.reg [⟨(some 26), .bin .add (.t 16) (.k (D.int .i64 (1))), none⟩,
  ⟨(some 16), .mv (.t 26), none⟩])))))))
 (.seq (.reg [⟨(some 2), .mv (.k (D.bool false)), none⟩])
 .ret)))⟩
def a109 : Ann := ⟨[], [⟨false, 0, false⟩], []⟩
def s109 : SFun := ⟨1, 9, [], [(.tmp 2, ⟨false, 0, false⟩)],
 (.seq (.reg [⟨(some 2), .mv (.k (D.int .i64 (0))), none⟩])
 (.seq (.block 0 (.seq (.reg [⟨(some 4), .mv (.t 0), none⟩,
  ⟨(some 5), .call false 112 [(.t 4)], none⟩,
  ⟨(some 3), .mv (.t 5), none⟩])
 (.cond (.t 3)
 (.seq (.reg [⟨(some 2), .mv (.k (D.int .i64 (0))), none⟩])
 .ret)
 (.seq (.reg [⟨(some 7), .mv (.t 0), none⟩,
  ⟨(some 8), .call false 113 [(.t 7)], none⟩,
  ⟨(some 6), .mv (.t 8), none⟩])
 (.cond (.t 6)
 (.seq (.reg [⟨(some 2), .mv (.k (D.int .i64 (2))), none⟩])
 .ret)
 .skip)))))
 (.seq (.reg [⟨(some 2), .mv (.k (D.int .i64 (1))), none⟩])
 .ret)))⟩
def a404 : Ann := ⟨[], [⟨false, 0, false⟩], []⟩
def s404 : SFun := ⟨2, 10, [], [(.cell 4 true 29, ⟨false, 0, false⟩)],
 (.seq (.reg [⟨(some 2), .box 29 (.t 0), none⟩,
  ⟨(some 4), .alloc [(D.int .i64 (0)), (D.int .i64 (0)), .sn, (D.int .i64 (0)), (D.int .i64 (0)), (D.bool false), (D.int .i64 (0)), (D.int .i64 (0)), (D.int .i64 (0)), (D.int .i64 (0)), (D.int .i64 (0)), (D.int .u64 (0)), (D.int .u8 (0)), (D.int .u8 (0)), (D.int .i64 (0)), (D.bool false), (D.bool false), (D.bool false), (D.bool false), (D.bool false), (D.int .i64 (0)), (D.int .i64 (0)), (D.int .i64 (0)), (D.int .i64 (0)), (D.int .i64 (0)), (D.int .u8 (0)), (D.int .u8 (0)), (D.int .i64 (0)), (D.bool false)], none⟩])
 (.seq (.reg [⟨(some 5), .load true 29 (.t 2), none⟩,
  ⟨(some 6), .fad 3 (.t 2), none⟩,
  ⟨(some 7), .load false 1 (.t 6), none⟩,
  ⟨(some 8), .mv (.t 1), none⟩,
  ⟨(some 9), .call false 122 [(.t 5), (.t 7), (.t 8)], none⟩,
  ⟨none, .store 29 (.t 4) (.t 9), none⟩])
 .ret))⟩
def a142 : Ann := ⟨[], [⟨false, 0, false⟩], []⟩
def s142 : SFun := ⟨5, 18, [], [(.cell 10 true 3, ⟨false, 0, false⟩)],
 (.seq (.reg [⟨(some 5), .box 3 (.t 0), none⟩,
  ⟨(some 9), .box 3 (.t 4), none⟩,
  ⟨(some 10), .alloc [(D.int .i64 (0)), (D.int .i64 (0)), .sn], none⟩])
 (.seq (.dreg [([], false, ⟨(some 11), .load true 3 (.t 5), none⟩),
  ([0], false, ⟨(some 12), .mv (.t 1), none⟩),
  ([0, 1], false, ⟨(some 13), .mv (.t 2), none⟩),
  ([0, 1, 2], false, ⟨(some 14), .mv (.t 3), none⟩),
  ([0, 1, 2], false, ⟨(some 15), .callr 145 [(.t 14)], none⟩),
  ([0, 1, 2, 3, 4], false, ⟨(some 16), .load true 3 (.t 9), none⟩),
  ([], true, ⟨(some 17), .call false 147 [(.t 11), (.t 12), (.t 13), (.t 15), (.t 16)], none⟩),
  ([], true, ⟨none, .store 3 (.t 10) (.t 17), none⟩)])
 .ret))⟩
def a125 : Ann := ⟨[], [⟨false, 0, false⟩], []⟩
def s125 : SFun := ⟨1, 27, [], [(.cell 2 true 29, ⟨false, 0, false⟩)],
 (.seq (.reg [⟨(some 1), .box 29 (.t 0), none⟩,
  ⟨(some 2), .alloc [(D.int .i64 (0)), (D.int .i64 (0)), .sn, (D.int .i64 (0)), (D.int .i64 (0)), (D.bool false), (D.int .i64 (0)), (D.int .i64 (0)), (D.int .i64 (0)), (D.int .i64 (0)), (D.int .i64 (0)), (D.int .u64 (0)), (D.int .u8 (0)), (D.int .u8 (0)), (D.int .i64 (0)), (D.bool false), (D.bool false), (D.bool false), (D.bool false), (D.bool false), (D.int .i64 (0)), (D.int .i64 (0)), (D.int .i64 (0)), (D.int .i64 (0)), (D.int .i64 (0)), (D.int .u8 (0)), (D.int .u8 (0)), (D.int .i64 (0)), (D.bool false)], none⟩])
 (.seq (.seq (.reg [⟨(some 3), .fad 3 (.t 1), none⟩,
  ⟨(some 4), .load false 1 (.t 3), none⟩,
  ⟨(some 5), .fad 7 (.t 1), none⟩,
  ⟨(some 6), .load false 1 (.t 5), none⟩,
  ⟨(some 7), .bin .neq (.t 4) (.t 6), none⟩])
 (.cond (.t 7)
 (.seq (.reg [⟨(some 8), .load true 29 (.t 1), none⟩,
  ⟨(some 9), .fad 3 (.t 1), none⟩,
  ⟨(some 10), .load false 1 (.t 9), none⟩,
  ⟨(some 11), .bin .add (.t 10) (.k (D.int .i64 (1))), none⟩,
  ⟨(some 12), .fad 4 (.t 1), none⟩,
  ⟨(some 13), .load false 1 (.t 12), none⟩,
  ⟨(some 14), .call false 122 [(.t 8), (.t 11), (.t 13)], none⟩,
  ⟨none, .store 29 (.t 2) (.t 14), none⟩])
 .ret)
 .skip))
 (.seq (.dreg [([], false, ⟨(some 15), .fad 0 (.t 1), none⟩),
  ([], false, ⟨(some 16), .load true 3 (.t 15), none⟩),
  ([0, 1], false, ⟨(some 17), .fad 6 (.t 1), none⟩),
  ([0, 1], false, ⟨(some 18), .load false 1 (.t 17), none⟩),
  ([0, 1, 2, 3], false, ⟨(some 19), .fad 7 (.t 1), none⟩),
  ([0, 1, 2, 3], false, ⟨(some 20), .load false 1 (.t 19), none⟩),
  ([0, 1, 2, 3, 4, 5], false, ⟨(some 21), .load true 29 (.t 1), none⟩),
  ([0, 1, 2, 3, 4, 5], false, ⟨(some 22), .callr 371 [(.t 21)], none⟩),
  ([], true, ⟨(some 23), .call false 142 [(.t 16), (.t 18), (.t 20), (.k (D.int .i64 (1))), (.t 22)], none⟩),
  ([], true, ⟨(some 24), .fad 0 (.t 1), none⟩),
  ([], true, ⟨none, .store 3 (.t 24) (.t 23), none⟩),
  ([], true, ⟨(some 25), .fad 5 (.t 1), none⟩),
  ([], true, ⟨none, .store 1 (.t 25) (.k (D.bool false)), none⟩)])
 (.seq (.reg [⟨(some 26), .load true 29 (.t 1), none⟩,
  ⟨none, .store 29 (.t 2) (.t 26), none⟩])
 .ret))))⟩
def a158 : Ann := ⟨[], [⟨true, 0, false⟩], []⟩
def s158 : SFun := ⟨1, 8, [], [(.cell 2 true 3, ⟨true, 0, false⟩)],
 (.seq (.reg [⟨(some 1), .box 3 (.t 0), none⟩,
  ⟨(some 2), .alloc [(D.int .i64 (0)), (D.int .i64 (0)), .sn], none⟩])
 (.seq (.reg [⟨(some 3), .fad 2 (.t 1), none⟩,
  ⟨(some 4), .load false 1 (.t 3), none⟩,
  ⟨(some 5), .call false 451 [(.t 4)], none⟩,
  ⟨(some 6), .fad 2 (.t 1), none⟩,
  ⟨none, .store 1 (.t 6) (.t 5), none⟩])
 (.seq (.reg [⟨(some 7), .load true 3 (.t 1), none⟩,
  ⟨none, .store 3 (.t 2) (.t 7), none⟩])
 .ret)))⟩
def a162 : Ann := ⟨[], [⟨false, 0, false⟩], []⟩
def s162 : SFun := ⟨3, 25, [], [(.tmp 6, ⟨false, 0, false⟩)],
 (.seq (.reg [⟨(some 3), .box 3 (.t 0), none⟩,
  ⟨(some 6), .mv (.k (D.bool false)), none⟩])
 (.seq (.reg [⟨(some 7), .mv (.t 1), none⟩,
  ⟨(some 8), .bin .geq (.t 7) (.k (D.int .i64 (0))), none⟩,
  ⟨(some 9), .mv (.t 8), none⟩,
  ⟨(some 10), .mv (.t 1), (some (9, true))⟩,
  ⟨(some 11), .fad 0 (.t 3), (some (9, true))⟩,
  ⟨(some 12), .load false 1 (.t 11), (some (9, true))⟩,
  ⟨(some 13), .bin .lss (.t 10) (.t 12), (some (9, true))⟩,
  ⟨(some 14), .pick (.t 9) (.t 13) (.k (D.bool false)), none⟩,
  ⟨(some 15), .mv (.t 14), none⟩,
  ⟨(some 16), .mv (.t 2), (some (15, true))⟩,
  ⟨(some 17), .bin .geq (.t 16) (.k (D.int .i64 (0))), (some (15, true))⟩,
  ⟨(some 18), .pick (.t 15) (.t 17) (.k (D.bool false)), none⟩,
  ⟨(some 19), .mv (.t 18), none⟩,
  ⟨(some 20), .mv (.t 2), (some (19, true))⟩,
  ⟨(some 21), .fad 1 (.t 3), (some (19, true))⟩,
  ⟨(some 22), .load false 1 (.t 21), (some (19, true))⟩,
  ⟨(some 23), .bin .lss (.t 20) (.t 22), (some (19, true))⟩,
  ⟨(some 24), .pick (.t 19) (.t 23) (.k (D.bool false)), none⟩,
  ⟨(some 6), .mv (.t 24), none⟩])
 .ret))⟩
def a163 : Ann := ⟨[], [⟨true, 5, false⟩], []⟩
def s163 : SFun := ⟨2, 17, [], [(.tmp 4, ⟨true, 5, false⟩)],
 (.seq (.reg [⟨(some 2), .box 3 (.t 0), none⟩,
  ⟨(some 4), .mv (.k .sn), none⟩])
 (.seq (.reg [⟨(some 5), .fad 2 (.t 2), none⟩,
  ⟨(some 6), .load false 1 (.t 5), none⟩,
  ⟨(some 7), .mv (.t 1), none⟩,
  ⟨(some 8), .fad 1 (.t 2), none⟩,
  ⟨(some 9), .load false 1 (.t 8), none⟩,
  ⟨(some 10), .bin .mul (.t 7) (.t 9), none⟩,
  ⟨(some 11), .mv (.t 1), none⟩,
  ⟨(some 12), .bin .add (.t 11) (.k (D.int .i64 (1))), none⟩,
  ⟨(some 13), .fad 1 (.t 2), none⟩,
  ⟨(some 14), .load false 1 (.t 13), none⟩,
  ⟨(some 15), .bin .mul (.t 12) (.t 14), none⟩,
  ⟨(some 16), .slc 5 (.t 6) (some (.t 10)) (some (.t 15)), none⟩,
  ⟨(some 4), .mv (.t 16), none⟩])
 .ret))⟩
def a159 : Ann := ⟨[], [⟨false, 0, false⟩], []⟩
def s159 : SFun := ⟨2, 39, [], [(.tmp 4, ⟨false, 0, false⟩)],
 (.seq (.reg [⟨(some 4), .mv (.k (D.bool false)), none⟩])
 (.seq (.seq (.reg [⟨(some 5), .mv (.t 0), none⟩,
  ⟨(some 6), .mv (.t 1), none⟩,
  ⟨(some 7), .ixs 5 (.t 5) (.t 6), none⟩,
  ⟨(some 8), .fad 1 (.t 7), none⟩,
  ⟨(some 9), .load false 1 (.t 8), none⟩])
 (.block 0 (.seq (.reg [⟨(some 11), .bin .eql (.t 9) (.k (D.int .i64 (1))), none⟩,
  ⟨(some 10), .mv (.t 11), none⟩])
 (.cond (.t 10)
 (.seq (.reg [⟨(some 12), .mv (.t 1), none⟩,
  ⟨(some 13), .bin .add (.t 12) (.k (D.int .i64 (1))), none⟩,
  ⟨(some 14), .mv (.t 0), none⟩,
  ⟨(some 15), .len (.t 14), none⟩,
  ⟨(some 16), .bin .eql (.t 13) (.t 15), none⟩,
  ⟨(some 17), .mv (.t 16), none⟩,
  ⟨(some 18), .mv (.t 0), (some (17, false))⟩,
  ⟨(some 19), .mv (.t 1), (some (17, false))⟩,
  ⟨(some 20), .bin .add (.t 19) (.k (D.int .i64 (1))), (some (17, false))⟩,
  ⟨(some 21), .ixs 5 (.t 18) (.t 20), (some (17, false))⟩,
  ⟨(some 22), .fad 1 (.t 21), (some (17, false))⟩,
  ⟨(some 23), .load false 1 (.t 22), (some (17, false))⟩,
  ⟨(some 24), .bin .neq (.t 23) (.k (D.int .i64 (2))), (some (17, false))⟩,
  ⟨(some 25), .pick (.t 17) (.k (D.bool true)) (.t 24), none⟩,
  ⟨(some 4), .mv (.t 25), none⟩])
 .ret)
 (.seq (.reg [⟨(some 27), .bin .eql (.t 9) (.k (D.int .i64 (2))), none⟩,
  ⟨(some 26), .mv (.t 27), none⟩])
 (.cond (.t 26)
 (.seq (.reg [⟨(some 28), .mv (.t 1), none⟩,
  ⟨(some 29), .bin .eql (.t 28) (.k (D.int .i64 (0))), none⟩,
  ⟨(some 30), .mv (.t 29), none⟩,
  ⟨(some 31), .mv (.t 0), (some (30, false))⟩,
  ⟨(some 32), .mv (.t 1), (some (30, false))⟩,
  ⟨(some 33), .bin .sub (.t 32) (.k (D.int .i64 (1))), (some (30, false))⟩,
  ⟨(some 34), .ixs 5 (.t 31) (.t 33), (some (30, false))⟩,
  ⟨(some 35), .fad 1 (.t 34), (some (30, false))⟩,
  ⟨(some 36), .load false 1 (.t 35), (some (30, false))⟩,
  ⟨(some 37), .bin .neq (.t 36) (.k (D.int .i64 (1))), (some (30, false))⟩,
  ⟨(some 38), .pick (.t 30) (.k (D.bool true)) (.t 37), none⟩,
  ⟨(some 4), .mv (.t 38), none⟩])
 .ret)
 .skip))))))
 (.seq (.reg [⟨(some 4), .mv (.k (D.bool false)), none⟩])
 .ret)))⟩
def a150 : Ann := ⟨[(3, [(0, ⟨false, 0, false⟩), (8, ⟨false, 0, false⟩), (9, ⟨false, 0, false⟩), (10, ⟨false, 0, false⟩), (3, ⟨true, 5, false⟩)])], [⟨true, 5, false⟩], []⟩
def s150 : SFun := ⟨1, 26, [], [(.tmp 2, ⟨true, 5, false⟩)],
 (.seq (.reg [⟨(some 2), .mv (.k .sn), none⟩])
 (.seq (.reg [⟨(some 6), .mv (.t 0), none⟩,
  ⟨(some 7), .call false 451 [(.t 6)], none⟩,
  ⟨(some 3), .mv (.t 7), none⟩])
 (.seq (.seq (.reg [⟨(some 8), .mv (.t 0), none⟩,
  ⟨(some 9), .len (.t 8), none⟩,
  ⟨(some 10), .mv (.k (D.int .i64 (0))), none⟩])
 (.block 0 (.loop [(0, ⟨false, 0, false⟩), (8, ⟨false, 0, false⟩), (9, ⟨false, 0, false⟩), (10, ⟨false, 0, false⟩), (3, ⟨true, 5, false⟩)]
 (.seq (.reg [⟨(some 11), .bin .lss (.t 10) (.t 9), none⟩])
 (.seq (.cond (.t 11)
 .skip
 (.exit 0))
 (.seq (.block 1 (.seq (.reg [⟨(some 12), .mv (.t 10), none⟩,
  ⟨(some 13), .ixs 5 (.t 8) (.t 10), none⟩,
  ⟨(some 14), .load true 5 (.t 13), none⟩,
  ⟨(some 5), .alloc [(D.int .i32 (0)), (D.int .i64 (0)), (D.int .i64 (0)), (D.int .i64 (0)), (D.int .i64 (0))], none⟩,
  ⟨(some 4), .mv (.t 12), none⟩,
  ⟨none, .store 5 (.t 5) (.t 14), none⟩])
 (.seq (.reg [⟨(some 15), .mv (.t 0), none⟩,
  ⟨(some 16), .mv (.t 4), none⟩,
  ⟨(some 17), .call false 159 [(.t 15), (.t 16)], none⟩])
 (.cond (.t 17)
 (.reg [⟨(some 18), .mv (.t 3), none⟩,
  ⟨(some 19), .mv (.t 4), none⟩,
  ⟨(some 20), .fad 2 (.t 5), none⟩,
  ⟨(some 21), .load true 3 (.t 20), none⟩,
  ⟨(some 22), .call false 106 [(.t 21)], none⟩,
  ⟨(some 23), .ixs 5 (.t 18) (.t 19), none⟩,
  ⟨none, .store 5 (.t 23) (.t 22), none⟩])
 .skip))))
 (.reg [⟨(some 24), .bin .add (.t 10) (.k (D.int .i64 (1))), none⟩,
  ⟨(some 10), .mv (.t 24), none⟩])))))))
 (.seq (.reg [⟨(some 25), .mv (.t 3), none⟩,
  ⟨(some 2), .mv (.t 25), none⟩])
 .ret))))⟩
def a161 : Ann := ⟨[], [⟨false, 0, false⟩], []⟩
def s161 : SFun := ⟨2, 14, [], [(.cell 4 true 3, ⟨false, 0, false⟩)],
 (.seq (.reg [⟨(some 2), .box 3 (.t 0), none⟩,
  ⟨(some 4), .alloc [(D.int .i64 (0)), (D.int .i64 (0)), .sn], none⟩])
 (.seq (.dreg [([], false, ⟨(some 5), .load true 3 (.t 2), none⟩),
  ([0], false, ⟨(some 6), .mv (.t 1), none⟩),
  ([], false, ⟨(some 7), .call true 163 [(.t 5), (.t 6)], none⟩),
  ([0, 1, 2], false, ⟨(some 8), .load true 3 (.t 2), none⟩),
  ([0, 1, 2, 3], false, ⟨(some 9), .mv (.t 1), none⟩),
  ([], true, ⟨(some 10), .call false 163 [(.t 8), (.t 9)], none⟩),
  ([], true, ⟨(some 11), .call false 150 [(.t 10)], none⟩),
  ([], true, ⟨(some 12), .copy 5 (.t 7) (.t 11), none⟩)])
 (.seq (.reg [⟨(some 13), .load true 3 (.t 2), none⟩,
  ⟨none, .store 3 (.t 4) (.t 13), none⟩])
 .ret)))⟩
def a152 : Ann := ⟨[], [⟨false, 0, false⟩], []⟩
def s152 : SFun := ⟨5, 59, [], [(.cell 10 true 3, ⟨false, 0, false⟩)],
 (.seq (.reg [⟨(some 5), .box 3 (.t 0), none⟩,
  ⟨(some 9), .box 3 (.t 4), none⟩,
  ⟨(some 10), .alloc [(D.int .i64 (0)), (D.int .i64 (0)), .sn], none⟩])
 (.seq (.reg [⟨(some 13), .load true 3 (.t 5), none⟩,
  ⟨(some 14), .call false 158 [(.t 13)], none⟩,
  ⟨none, .store 3 (.t 5) (.t 14), none⟩])
 (.seq (.reg [⟨(some 15), .mv (.t 3), none⟩,
  ⟨(some 16), .call false 109 [(.t 15)], none⟩,
  ⟨(some 11), .mv (.t 16), none⟩])
 (.seq (.seq (.reg [⟨(some 17), .mv (.t 11), none⟩,
  ⟨(some 18), .bin .eql (.t 17) (.k (D.int .i64 (0))), none⟩,
  ⟨(some 19), .mv (.t 18), none⟩,
  ⟨(some 20), .load true 3 (.t 5), (some (19, false))⟩,
  ⟨(some 21), .mv (.t 1), (some (19, false))⟩,
  ⟨(some 22), .mv (.t 2), (some (19, false))⟩,
  ⟨(some 23), .call false 162 [(.t 20), (.t 21), (.t 22)], (some (19, false))⟩,
  ⟨(some 24), .una .not (.t 23), (some (19, false))⟩,
  ⟨(some 25), .pick (.t 19) (.k (D.bool true)) (.t 24), none⟩,
  ⟨(some 26), .mv (.t 25), none⟩,
  ⟨(some 27), .mv (.t 2), (some (26, false))⟩,
  ⟨(some 28), .mv (.t 11), (some (26, false))⟩,
  ⟨(some 29), .bin .add (.t 27) (.t 28), (some (26, false))⟩,
  ⟨(some 30), .fad 1 (.t 5), (some (26, false))⟩,
  ⟨(some 31), .load false 1 (.t 30), (some (26, false))⟩,
  ⟨(some 32), .bin .gtr (.t 29) (.t 31), (some (26, false))⟩,
  ⟨(some 33), .pick (.t 26) (.k (D.bool true)) (.t 32), none⟩])
 (.cond (.t 33)
 (.seq (.reg [⟨(some 34), .load true 3 (.t 5), none⟩,
  ⟨none, .store 3 (.t 10) (.t 34), none⟩])
 .ret)
 .skip))
 (.seq (.reg [⟨(some 35), .load true 3 (.t 5), none⟩,
  ⟨(some 36), .mv (.t 1), none⟩,
  ⟨(some 37), .call false 163 [(.t 35), (.t 36)], none⟩,
  ⟨(some 12), .mv (.t 37), none⟩])
 (.seq (.reg [⟨(some 38), .mv (.t 12), none⟩,
  ⟨(some 39), .mv (.t 2), none⟩,
  ⟨(some 40), .mv (.t 3), none⟩,
  ⟨(some 41), .load true 3 (.t 9), none⟩,
  ⟨(some 42), .build [(D.int .i32 (0)), (D.int .i64 (0)), (D.int .i64 (0)), (D.int .i64 (0)), (D.int .i64 (0))] [(0, 1, (.t 40)), (2, 3, (.t 41))], none⟩,
  ⟨(some 43), .ixs 5 (.t 38) (.t 39), none⟩,
  ⟨none, .store 5 (.t 43) (.t 42), none⟩])
 (.seq (.seq (.reg [⟨(some 44), .mv (.t 11), none⟩,
  ⟨(some 45), .bin .eql (.t 44) (.k (D.int .i64 (2))), none⟩])
 (.cond (.t 45)
 (.seq (.reg [⟨(some 46), .mv (.t 12), none⟩,
  ⟨(some 47), .mv (.t 2), none⟩,
  ⟨(some 48), .ixs 5 (.t 46) (.t 47), none⟩,
  ⟨(some 49), .fad 1 (.t 48), none⟩,
  ⟨none, .store 1 (.t 49) (.k (D.int .i64 (1))), none⟩])
 (.reg [⟨(some 50), .mv (.t 12), none⟩,
  ⟨(some 51), .mv (.t 2), none⟩,
  ⟨(some 52), .bin .add (.t 51) (.k (D.int .i64 (1))), none⟩,
  ⟨(some 53), .load true 3 (.t 9), none⟩,
  ⟨(some 54), .build [(D.int .i32 (0)), (D.int .i64 (0)), (D.int .i64 (0)), (D.int .i64 (0)), (D.int .i64 (0))] [(1, 1, (.k (D.int .i64 (2)))), (2, 3, (.t 53))], none⟩,
  ⟨(some 55), .ixs 5 (.t 50) (.t 52), none⟩,
  ⟨none, .store 5 (.t 55) (.t 54), none⟩]))
 .skip))
 (.seq (.reg [⟨(some 56), .load true 3 (.t 5), none⟩,
  ⟨(some 57), .mv (.t 1), none⟩,
  ⟨(some 58), .call false 161 [(.t 56), (.t 57)], none⟩,
  ⟨none, .store 3 (.t 10) (.t 58), none⟩])
 .ret))))))))⟩
def a402 : Ann := ⟨[], [⟨false, 0, false⟩], []⟩
def s402 : SFun := ⟨2, 86, [], [(.cell 4 true 29, ⟨false, 0, false⟩)],
 (.seq (.reg [⟨(some 2), .box 29 (.t 0), none⟩,
  ⟨(some 4), .alloc [(D.int .i64 (0)), (D.int .i64 (0)), .sn, (D.int .i64 (0)), (D.int .i64 (0)), (D.bool false), (D.int .i64 (0)), (D.int .i64 (0)), (D.int .i64 (0)), (D.int .i64 (0)), (D.int .i64 (0)), (D.int .u64 (0)), (D.int .u8 (0)), (D.int .u8 (0)), (D.int .i64 (0)), (D.bool false), (D.bool false), (D.bool false), (D.bool false), (D.bool false), (D.int .i64 (0)), (D.int .i64 (0)), (D.int .i64 (0)), (D.int .i64 (0)), (D.int .i64 (0)), (D.int .u8 (0)), (D.int .u8 (0)), (D.int .i64 (0)), (D.bool false)], none⟩])
 (.seq (.reg [⟨(some 7), .load true 29 (.t 2), none⟩,
  ⟨(some 8), .call false 370 [(.t 7)], none⟩,
  ⟨none, .store 29 (.t 2) (.t 8), none⟩])
 (.seq (.reg [⟨(some 9), .load true 29 (.t 2), none⟩,
  ⟨(some 10), .mv (.t 1), none⟩,
  ⟨(some 11), .call false 407 [(.t 9), (.t 10)], none⟩,
  ⟨(some 1), .mv (.t 11), none⟩])
 (.seq (.dreg [([], false, ⟨(some 12), .mv (.t 1), none⟩),
  ([], false, ⟨(some 13), .call true 109 [(.t 12)], none⟩),
  ([0, 1], false, ⟨(some 14), .fad 0 (.t 2), none⟩),
  ([0, 1], false, ⟨(some 15), .fad 1 (.t 14), none⟩),
  ([0, 1], false, ⟨(some 16), .load false 1 (.t 15), none⟩),
  ([2, 3, 4], false, ⟨(some 5), .mv (.t 13), none⟩),
  ([], true, ⟨(some 6), .mv (.t 16), none⟩)])
 (.seq (.seq (.reg [⟨(some 17), .mv (.t 5), none⟩,
  ⟨(some 18), .bin .eql (.t 17) (.k (D.int .i64 (0))), none⟩,
  ⟨(some 19), .mv (.t 18), none⟩,
  ⟨(some 20), .mv (.t 5), (some (19, false))⟩,
  ⟨(some 21), .mv (.t 6), (some (19, false))⟩,
  ⟨(some 22), .bin .gtr (.t 20) (.t 21), (some (19, false))⟩,
  ⟨(some 23), .pick (.t 19) (.k (D.bool true)) (.t 22), none⟩])
 (.cond (.t 23)
 (.seq (.reg [⟨(some 24), .load true 29 (.t 2), none⟩,
  ⟨none, .store 29 (.t 4) (.t 24), none⟩])
 .ret)
 .skip))
 (.seq (.block 0 (.seq (.reg [⟨(some 26), .fad 15 (.t 2), none⟩,
  ⟨(some 27), .load false 1 (.t 26), none⟩,
  ⟨(some 28), .mv (.t 27), none⟩,
  ⟨(some 29), .fad 5 (.t 2), (some (28, true))⟩,
  ⟨(some 30), .load false 1 (.t 29), (some (28, true))⟩,
  ⟨(some 31), .mv (.t 30), (some (28, true))⟩,
  ⟨(some 32), .fad 4 (.t 2), (some (31, false))⟩,
  ⟨(some 33), .load false 1 (.t 32), (some (31, false))⟩,
  ⟨(some 34), .mv (.t 5), (some (31, false))⟩,
  ⟨(some 35), .bin .add (.t 33) (.t 34), (some (31, false))⟩,
  ⟨(some 36), .mv (.t 6), (some (31, false))⟩,
  ⟨(some 37), .bin .gtr (.t 35) (.t 36), (some (31, false))⟩,
  ⟨(some 38), .pick (.t 31) (.k (D.bool true)) (.t 37), (some (28, true))⟩,
  ⟨(some 39), .pick (.t 28) (.t 38) (.k (D.bool false)), none⟩,
  ⟨(some 25), .mv (.t 39), none⟩])
 (.cond (.t 25)
 (.reg [⟨(some 40), .load true 29 (.t 2), none⟩,
  ⟨(some 41), .call false 404 [(.t 40), (.k (D.int .i64 (0)))], none⟩,
  ⟨(some 42), .call false 125 [(.t 41)], none⟩,
  ⟨none, .store 29 (.t 2) (.t 42), none⟩])
 (.seq (.reg [⟨(some 44), .fad 4 (.t 2), none⟩,
  ⟨(some 45), .load false 1 (.t 44), none⟩,
  ⟨(some 46), .mv (.t 5), none⟩,
  ⟨(some 47), .bin .add (.t 45) (.t 46), none⟩,
  ⟨(some 48), .mv (.t 6), none⟩,
  ⟨(some 49), .bin .gtr (.t 47) (.t 48), none⟩,
  ⟨(some 43), .mv (.t 49), none⟩])
 (.cond (.t 43)
 (.reg [⟨(some 50), .mv (.t 6), none⟩,
  ⟨(some 51), .mv (.t 5), none⟩,
  ⟨(some 52), .bin .sub (.t 50) (.t 51), none⟩,
  ⟨(some 53), .fad 4 (.t 2), none⟩,
  ⟨none, .store 1 (.t 53) (.t 52), none⟩])
 .skip)))))
 (.seq (.reg [⟨(some 54), .fad 0 (.t 2), none⟩,
  ⟨(some 55), .load true 3 (.t 54), none⟩,
  ⟨(some 56), .fad 3 (.t 2), none⟩,
  ⟨(some 57), .load false 1 (.t 56), none⟩,
  ⟨(some 58), .fad 4 (.t 2), none⟩,
  ⟨(some 59), .load false 1 (.t 58), none⟩,
  ⟨(some 60), .mv (.t 1), none⟩,
  ⟨(some 61), .fad 8 (.t 2), none⟩,
  ⟨(some 62), .load true 3 (.t 61), none⟩,
  ⟨(some 63), .call false 152 [(.t 55), (.t 57), (.t 59), (.t 60), (.t 62)], none⟩,
  ⟨(some 64), .fad 0 (.t 2), none⟩,
  ⟨none, .store 3 (.t 64) (.t 63), none⟩])
 (.seq (.reg [⟨(some 65), .fad 4 (.t 2), none⟩,
  ⟨(some 66), .load false 1 (.t 65), none⟩,
  ⟨(some 67), .mv (.t 5), none⟩,
  ⟨(some 68), .bin .add (.t 66) (.t 67), none⟩,
  ⟨(some 69), .fad 4 (.t 2), none⟩,
  ⟨none, .store 1 (.t 69) (.t 68), none⟩])
 (.seq (.reg [⟨(some 70), .fad 4 (.t 2), none⟩,
  ⟨(some 71), .load false 1 (.t 70), none⟩,
  ⟨(some 72), .mv (.t 6), none⟩,
  ⟨(some 73), .bin .geq (.t 71) (.t 72), none⟩,
  ⟨(some 74), .mv (.t 73), none⟩,
  ⟨(some 75), .fad 15 (.t 2), (some (74, true))⟩,
  ⟨(some 76), .load false 1 (.t 75), (some (74, true))⟩,
  ⟨(some 77), .pick (.t 74) (.t 76) (.k (D.bool false)), none⟩,
  ⟨(some 78), .fad 5 (.t 2), none⟩,
  ⟨none, .store 1 (.t 78) (.t 77), none⟩])
 (.seq (.reg [⟨(some 79), .fad 4 (.t 2), none⟩,
  ⟨(some 80), .load false 1 (.t 79), none⟩,
  ⟨(some 81), .mv (.t 6), none⟩,
  ⟨(some 82), .bin .sub (.t 81) (.k (D.int .i64 (1))), none⟩,
  ⟨(some 83), .mn [(.t 80), (.t 82)], none⟩,
  ⟨(some 84), .fad 4 (.t 2), none⟩,
  ⟨none, .store 1 (.t 84) (.t 83), none⟩])
 (.seq (.reg [⟨(some 85), .load true 29 (.t 2), none⟩,
  ⟨none, .store 29 (.t 4) (.t 85), none⟩])
 .ret)))))))))))⟩
def a417 : Ann := ⟨[], [⟨false, 0, false⟩], []⟩
def s417 : SFun := ⟨2, 10, [], [(.tmp 4, ⟨false, 0, false⟩)],
 (.seq (.reg [⟨(some 4), .mv (.k (D.bool false)), none⟩])
 (.seq (.reg [⟨(some 5), .mv (.t 0), none⟩,
  ⟨(some 6), .mv (.t 1), none⟩,
  ⟨(some 7), .call false 422 [(.t 6)], none⟩,
  ⟨(some 8), .bin .and (.t 5) (.t 7), none⟩,
  ⟨(some 9), .bin .neq (.t 8) (.k (D.int .u64 (0))), none⟩,
  ⟨(some 4), .mv (.t 9), none⟩])
 .ret))⟩
def a418 : Ann := ⟨[(3, [(0, ⟨false, 0, false⟩), (5, ⟨false, 0, false⟩), (3, ⟨true, 1, false⟩)])], [⟨true, 1, false⟩], []⟩
def s418 : SFun := ⟨1, 17, [], [(.tmp 2, ⟨true, 1, false⟩)],
 (.seq (.reg [⟨(some 2), .mv (.k .sn), none⟩])
 (.seq (.reg [⟨(some 3), .mv (.k .sn), none⟩])
 (.seq (.seq (.reg [⟨(some 5), .mv (.k (D.int .i64 (0))), none⟩])
 (.block 0 (.loop [(0, ⟨false, 0, false⟩), (5, ⟨false, 0, false⟩), (3, ⟨true, 1, false⟩)]
 (.seq (.reg [⟨(some 6), .bin .lss (.t 5) (.k (D.int .i64 (64))), none⟩])
 (.seq (.cond (.t 6)
 .skip
 (.exit 0))
 (.seq (.block 1 (.seq (.reg [⟨(some 7), .mv (.t 5), none⟩,
  ⟨(some 4), .mv (.t 7), none⟩])
 (.seq (.reg [⟨(some 8), .mv (.t 0), none⟩,
  ⟨(some 9), .mv (.t 4), none⟩,
  ⟨(some 10), .call false 417 [(.t 8), (.t 9)], none⟩])
 (.cond (.t 10)
 (.reg [⟨(some 11), .mv (.t 3), none⟩,
  ⟨(some 12), .mv (.t 4), none⟩,
  ⟨(some 13), .bsl false 1 1 [(D.int .i64 (0))] [(0, (.t 12))], none⟩,
  ⟨(some 14), .append 1 8 (.t 11) (.t 13), none⟩,
  ⟨(some 3), .mv (.t 14), none⟩])
 .skip))))
 (.reg [⟨(some 15), .bin .add (.t 5) (.k (D.int .i64 (1))), none⟩,
  ⟨(some 5), .mv (.t 15), none⟩])))))))
 (.seq (.reg [⟨(some 16), .mv (.t 3), none⟩,
  ⟨(some 2), .mv (.t 16), none⟩])
 .ret))))⟩
def a420 : Ann := ⟨[(2, [(1, ⟨false, 0, false⟩), (2, ⟨false, 0, false⟩), (6, ⟨false, 0, false⟩), (10, ⟨false, 0, false⟩), (11, ⟨false, 0, false⟩), (12, ⟨false, 0, false⟩)])], [⟨false, 0, false⟩], []⟩
def s420 : SFun := ⟨3, 28, [], [(.tmp 6, ⟨false, 0, false⟩)],
 (.seq (.reg [⟨(some 6), .mv (.k (D.int .i64 (0))), none⟩])
 (.seq (.seq (.reg [⟨(some 9), .mv (.t 0), none⟩,
  ⟨(some 10), .call false 418 [(.t 9)], none⟩,
  ⟨(some 11), .len (.t 10), none⟩,
  ⟨(some 12), .mv (.k (D.int .i64 (0))), none⟩])
 (.block 0 (.loop [(1, ⟨false, 0, false⟩), (2, ⟨false, 0, false⟩), (6, ⟨false, 0, false⟩), (10, ⟨false, 0, false⟩), (11, ⟨false, 0, false⟩), (12, ⟨false, 0, false⟩)]
 (.seq (.reg [⟨(some 13), .bin .lss (.t 12) (.t 11), none⟩])
 (.seq (.cond (.t 13)
 .skip
 (.exit 0))
 (.seq (.block 1 (.seq (.reg [⟨(some 14), .ixs 1 (.t 10) (.t 12), none⟩,
  ⟨(some 15), .load false 1 (.t 14), none⟩,
  ⟨(some 8), .mv (.t 15), none⟩])
 (.seq (.reg [⟨(some 16), .mv (.t 8), none⟩,
  ⟨(some 17), .mv (.t 1), none⟩,
  ⟨(some 18), .bin .gtr (.t 16) (.t 17), none⟩,
  ⟨(some 19), .mv (.t 18), none⟩,
  ⟨(some 20), .mv (.t 8), (some (19, true))⟩,
  ⟨(some 21), .mv (.t 2), (some (19, true))⟩,
  ⟨(some 22), .bin .lss (.t 20) (.t 21), (some (19, true))⟩,
  ⟨(some 23), .pick (.t 19) (.t 22) (.k (D.bool false)), none⟩])
 (.cond (.t 23)
 (.seq (.reg [⟨(some 24), .mv (.t 8), none⟩,
  ⟨(some 6), .mv (.t 24), none⟩])
 .ret)
 .skip))))
 (.reg [⟨(some 25), .bin .add (.t 12) (.k (D.int .i64 (1))), none⟩,
  ⟨(some 12), .mv (.t 25), none⟩])))))))
 (.seq (.reg [⟨(some 26), .mv (.t 2), none⟩,
  ⟨(some 27), .bin .sub (.t 26) (.k (D.int .i64 (1))), none⟩,
  ⟨(some 6), .mv (.t 27), none⟩])
 .ret)))⟩
def a410 : Ann := ⟨[], [⟨false, 0, false⟩], []⟩
def s410 : SFun := ⟨2, 49, [], [(.cell 4 true 29, ⟨false, 0, false⟩)],
 (.seq (.reg [⟨(some 2), .box 29 (.t 0), none⟩,
  ⟨(some 4), .alloc [(D.int .i64 (0)), (D.int .i64 (0)), .sn, (D.int .i64 (0)), (D.int .i64 (0)), (D.bool false), (D.int .i64 (0)), (D.int .i64 (0)), (D.int .i64 (0)), (D.int .i64 (0)), (D.int .i64 (0)), (D.int .u64 (0)), (D.int .u8 (0)), (D.int .u8 (0)), (D.int .i64 (0)), (D.bool false), (D.bool false), (D.bool false), (D.bool false), (D.bool false), (D.int .i64 (0)), (D.int .i64 (0)), (D.int .i64 (0)), (D.int .i64 (0)), (D.int .i64 (0)), (D.int .u8 (0)), (D.int .u8 (0)), (D.int .i64 (0)), (D.bool false)], none⟩])
 (.seq (.block 0 (.seq (.reg [⟨(some 6), .mv (.t 1), none⟩,
  ⟨(some 7), .bin .eql (.t 6) (.k (D.int .u8 (8))), none⟩,
  ⟨(some 5), .mv (.t 7), none⟩])
 (.cond (.t 5)
 (.seq (.reg [⟨(some 8), .load true 29 (.t 2), none⟩,
  ⟨(some 9), .fad 4 (.t 2), none⟩,
  ⟨(some 10), .load false 1 (.t 9), none⟩,
  ⟨(some 11), .bin .sub (.t 10) (.k (D.int .i64 (1))), none⟩,
  ⟨(some 12), .call false 404 [(.t 8), (.t 11)], none⟩,
  ⟨none, .store 29 (.t 4) (.t 12), none⟩])
 .ret)
 (.seq (.reg [⟨(some 14), .mv (.t 1), none⟩,
  ⟨(some 15), .bin .eql (.t 14) (.k (D.int .u8 (9))), none⟩,
  ⟨(some 13), .mv (.t 15), none⟩])
 (.cond (.t 13)
 (.seq (.dreg [([], false, ⟨(some 16), .load true 29 (.t 2), none⟩),
  ([0], false, ⟨(some 17), .fad 11 (.t 2), none⟩),
  ([0], false, ⟨(some 18), .load false 1 (.t 17), none⟩),
  ([0, 1, 2], false, ⟨(some 19), .fad 4 (.t 2), none⟩),
  ([0, 1, 2], false, ⟨(some 20), .load false 1 (.t 19), none⟩),
  ([0, 1, 2, 3, 4], false, ⟨(some 21), .fad 0 (.t 2), none⟩),
  ([0, 1, 2, 3, 4], false, ⟨(some 22), .fad 1 (.t 21), none⟩),
  ([0, 1, 2, 3, 4], false, ⟨(some 23), .load false 1 (.t 22), none⟩),
  ([0], false, ⟨(some 24), .callr 420 [(.t 18), (.t 20), (.t 23)], none⟩),
  ([], true, ⟨(some 25), .call false 404 [(.t 16), (.t 24)], none⟩),
  ([], true, ⟨none, .store 29 (.t 4) (.t 25), none⟩)])
 .ret)
 (.seq (.reg [⟨(some 27), .mv (.t 1), none⟩,
  ⟨(some 28), .bin .geq (.t 27) (.k (D.int .u8 (10))), none⟩,
  ⟨(some 29), .mv (.t 28), none⟩,
  ⟨(some 30), .mv (.t 1), (some (29, true))⟩,
  ⟨(some 31), .bin .leq (.t 30) (.k (D.int .u8 (12))), (some (29, true))⟩,
  ⟨(some 32), .pick (.t 29) (.t 31) (.k (D.bool false)), none⟩,
  ⟨(some 26), .mv (.t 32), none⟩])
 (.cond (.t 26)
 (.seq (.reg [⟨(some 33), .load true 29 (.t 2), none⟩,
  ⟨(some 34), .call false 125 [(.t 33)], none⟩,
  ⟨none, .store 29 (.t 4) (.t 34), none⟩])
 .ret)
 (.seq (.reg [⟨(some 36), .mv (.t 1), none⟩,
  ⟨(some 37), .bin .eql (.t 36) (.k (D.int .u8 (13))), none⟩,
  ⟨(some 35), .mv (.t 37), none⟩])
 (.cond (.t 35)
 (.seq (.reg [⟨(some 38), .load true 29 (.t 2), none⟩,
  ⟨(some 39), .call false 404 [(.t 38), (.k (D.int .i64 (0)))], none⟩,
  ⟨none, .store 29 (.t 4) (.t 39), none⟩])
 .ret)
 (.seq (.reg [⟨(some 41), .mv (.t 1), none⟩,
  ⟨(some 42), .bin .eql (.t 41) (.k (D.int .u8 (14))), none⟩,
  ⟨(some 40), .mv (.t 42), none⟩])
 (.cond (.t 40)
 (.reg [⟨(some 43), .fad 14 (.t 2), none⟩,
  ⟨none, .store 1 (.t 43) (.k (D.int .i64 (1))), none⟩])
 (.seq (.reg [⟨(some 45), .mv (.t 1), none⟩,
  ⟨(some 46), .bin .eql (.t 45) (.k (D.int .u8 (15))), none⟩,
  ⟨(some 44), .mv (.t 46), none⟩])
 (.cond (.t 44)
 (.reg [⟨(some 47), .fad 14 (.t 2), none⟩,
  ⟨none, .store 1 (.t 47) (.k (D.int .i64 (0))), none⟩])
 .skip)))))))))))))
 (.seq (.reg [⟨(some 48), .load true 29 (.t 2), none⟩,
  ⟨none, .store 29 (.t 4) (.t 48), none⟩])
 .ret)))⟩
def a406 : Ann := ⟨[], [⟨false, 0, false⟩], []⟩
def s406 : SFun := ⟨3, 26, [], [(.cell 6 true 29, ⟨false, 0, false⟩)],
 (.seq (.reg [⟨(some 3), .box 29 (.t 0), none⟩,
  ⟨(some 6), .alloc [(D.int .i64 (0)), (D.int .i64 (0)), .sn, (D.int .i64 (0)), (D.int .i64 (0)), (D.bool false), (D.int .i64 (0)), (D.int .i64 (0)), (D.int .i64 (0)), (D.int .i64 (0)), (D.int .i64 (0)), (D.int .u64 (0)), (D.int .u8 (0)), (D.int .u8 (0)), (D.int .i64 (0)), (D.bool false), (D.bool false), (D.bool false), (D.bool false), (D.bool false), (D.int .i64 (0)), (D.int .i64 (0)), (D.int .i64 (0)), (D.int .i64 (0)), (D.int .i64 (0)), (D.int .u8 (0)), (D.int .u8 (0)), (D.int .i64 (0)), (D.bool false)], none⟩])
 (.seq (.seq (.reg [⟨(some 7), .mv (.t 2), none⟩,
  ⟨(some 8), .bin .neq (.t 7) (.k (D.int .u8 (48))), none⟩,
  ⟨(some 9), .mv (.t 8), none⟩,
  ⟨(some 10), .mv (.t 2), (some (9, true))⟩,
  ⟨(some 11), .bin .neq (.t 10) (.k (D.int .u8 (66))), (some (9, true))⟩,
  ⟨(some 12), .pick (.t 9) (.t 11) (.k (D.bool false)), none⟩])
 (.cond (.t 12)
 (.seq (.reg [⟨(some 13), .load true 29 (.t 3), none⟩,
  ⟨none, .store 29 (.t 6) (.t 13), none⟩])
 .ret)
 .skip))
 (.seq (.seq (.reg [⟨(some 14), .mv (.t 1), none⟩])
 (.block 0 (.seq (.reg [⟨(some 16), .bin .eql (.t 14) (.k (D.int .u8 (40))), none⟩,
  ⟨(some 15), .mv (.t 16), none⟩])
 (.cond (.t 15)
 (.reg [⟨(some 17), .mv (.t 2), none⟩,
  ⟨(some 18), .fad 12 (.t 3), none⟩,
  ⟨(some 19), .ixa 2 1 (.t 18) (.k (D.int .i64 (0))), none⟩,
  ⟨none, .store 1 (.t 19) (.t 17), none⟩])
 (.seq (.reg [⟨(some 21), .bin .eql (.t 14) (.k (D.int .u8 (41))), none⟩,
  ⟨(some 20), .mv (.t 21), none⟩])
 (.cond (.t 20)
 (.reg [⟨(some 22), .mv (.t 2), none⟩,
  ⟨(some 23), .fad 12 (.t 3), none⟩,
  ⟨(some 24), .ixa 2 1 (.t 23) (.k (D.int .i64 (1))), none⟩,
  ⟨none, .store 1 (.t 24) (.t 22), none⟩])
 .skip))))))
 (.seq (.reg [⟨(some 25), .load true 29 (.t 3), none⟩,
  ⟨none, .store 29 (.t 6) (.t 25), none⟩])
 .ret))))⟩
def a129 : Ann := ⟨[], [⟨false, 0, false⟩], []⟩
def s129 : SFun := ⟨1, 20, [], [(.cell 2 true 29, ⟨false, 0, false⟩)],
 (.seq (.reg [⟨(some 1), .box 29 (.t 0), none⟩,
  ⟨(some 2), .alloc [(D.int .i64 (0)), (D.int .i64 (0)), .sn, (D.int .i64 (0)), (D.int .i64 (0)), (D.bool false), (D.int .i64 (0)), (D.int .i64 (0)), (D.int .i64 (0)), (D.int .i64 (0)), (D.int .i64 (0)), (D.int .u64 (0)), (D.int .u8 (0)), (D.int .u8 (0)), (D.int .i64 (0)), (D.bool false), (D.bool false), (D.bool false), (D.bool false), (D.bool false), (D.int .i64 (0)), (D.int .i64 (0)), (D.int .i64 (0)), (D.int .i64 (0)), (D.int .i64 (0)), (D.int .u8 (0)), (D.int .u8 (0)), (D.int .i64 (0)), (D.bool false)], none⟩])
 (.seq (.reg [⟨(some 3), .load true 29 (.t 1), none⟩,
  ⟨(some 4), .call false 370 [(.t 3)], none⟩,
  ⟨none, .store 29 (.t 1) (.t 4), none⟩])
 (.seq (.reg [⟨(some 5), .fad 3 (.t 1), none⟩,
  ⟨(some 6), .load false 1 (.t 5), none⟩,
  ⟨(some 7), .fad 4 (.t 1), none⟩,
  ⟨(some 8), .load false 1 (.t 7), none⟩,
  ⟨(some 9), .fad 8 (.t 1), none⟩,
  ⟨(some 10), .load true 3 (.t 9), none⟩,
  ⟨(some 11), .fad 12 (.t 1), none⟩,
  ⟨(some 12), .load true 2 (.t 11), none⟩,
  ⟨(some 13), .fad 14 (.t 1), none⟩,
  ⟨(some 14), .load false 1 (.t 13), none⟩,
  ⟨(some 15), .fad 16 (.t 1), none⟩,
  ⟨(some 16), .load false 1 (.t 15), none⟩,
  ⟨(some 17), .build [(D.int .i64 (0)), (D.int .i64 (0)), (D.int .i64 (0)), (D.int .i64 (0)), (D.int .i64 (0)), (D.int .u8 (0)), (D.int .u8 (0)), (D.int .i64 (0)), (D.bool false)] [(0, 1, (.t 6)), (1, 1, (.t 8)), (2, 3, (.t 10)), (5, 2, (.t 12)), (7, 1, (.t 14)), (8, 1, (.t 16))], none⟩,
  ⟨(some 18), .fad 20 (.t 1), none⟩,
  ⟨none, .store 9 (.t 18) (.t 17), none⟩])
 (.seq (.reg [⟨(some 19), .load true 29 (.t 1), none⟩,
  ⟨none, .store 29 (.t 2) (.t 19), none⟩])
 .ret))))⟩
def a128 : Ann := ⟨[], [⟨false, 0, false⟩], []⟩
def s128 : SFun := ⟨1, 24, [], [(.cell 2 true 29, ⟨false, 0, false⟩)],
 (.seq (.reg [⟨(some 1), .box 29 (.t 0), none⟩,
  ⟨(some 2), .alloc [(D.int .i64 (0)), (D.int .i64 (0)), .sn, (D.int .i64 (0)), (D.int .i64 (0)), (D.bool false), (D.int .i64 (0)), (D.int .i64 (0)), (D.int .i64 (0)), (D.int .i64 (0)), (D.int .i64 (0)), (D.int .u64 (0)), (D.int .u8 (0)), (D.int .u8 (0)), (D.int .i64 (0)), (D.bool false), (D.bool false), (D.bool false), (D.bool false), (D.bool false), (D.int .i64 (0)), (D.int .i64 (0)), (D.int .i64 (0)), (D.int .i64 (0)), (D.int .i64 (0)), (D.int .u8 (0)), (D.int .u8 (0)), (D.int .i64 (0)), (D.bool false)], none⟩])
 (.seq (.reg [⟨(some 4), .fad 20 (.t 1), none⟩,
  ⟨(some 5), .load true 9 (.t 4), none⟩,
  ⟨(some 3), .alloc [(D.int .i64 (0)), (D.int .i64 (0)), (D.int .i64 (0)), (D.int .i64 (0)), (D.int .i64 (0)), (D.int .u8 (0)), (D.int .u8 (0)), (D.int .i64 (0)), (D.bool false)], none⟩,
  ⟨none, .store 9 (.t 3) (.t 5), none⟩])
 (.seq (.dreg [([], false, ⟨(some 6), .fad 2 (.t 3), none⟩),
  ([], false, ⟨(some 7), .load true 3 (.t 6), none⟩),
  ([0, 1], false, ⟨(some 8), .fad 5 (.t 3), none⟩),
  ([0, 1], false, ⟨(some 9), .load true 2 (.t 8), none⟩),
  ([0, 1, 2, 3], false, ⟨(some 10), .fad 7 (.t 3), none⟩),
  ([0, 1, 2, 3], false, ⟨(some 11), .load false 1 (.t 10), none⟩),
  ([0, 1, 2, 3, 4, 5], false, ⟨(some 12), .fad 8 (.t 3), none⟩),
  ([0, 1, 2, 3, 4, 5], false, ⟨(some 13), .load false 1 (.t 12), none⟩),
  ([2, 3, 4, 5, 6, 7], false, ⟨(some 14), .fad 8 (.t 1), none⟩),
  ([2, 3, 4, 5, 6, 7], false, ⟨none, .store 3 (.t 14) (.t 7), none⟩),
  ([4, 5, 6, 7], false, ⟨(some 15), .fad 12 (.t 1), none⟩),
  ([4, 5, 6, 7], false, ⟨none, .store 2 (.t 15) (.t 9), none⟩),
  ([6, 7], false, ⟨(some 16), .fad 14 (.t 1), none⟩),
  ([6, 7], false, ⟨none, .store 1 (.t 16) (.t 11), none⟩),
  ([], true, ⟨(some 17), .fad 16 (.t 1), none⟩),
  ([], true, ⟨none, .store 1 (.t 17) (.t 13), none⟩)])
 (.seq (.reg [⟨(some 18), .load true 29 (.t 1), none⟩,
  ⟨(some 19), .fad 0 (.t 3), none⟩,
  ⟨(some 20), .load false 1 (.t 19), none⟩,
  ⟨(some 21), .fad 1 (.t 3), none⟩,
  ⟨(some 22), .load false 1 (.t 21), none⟩,
  ⟨(some 23), .call false 122 [(.t 18), (.t 20), (.t 22)], none⟩,
  ⟨none, .store 29 (.t 2) (.t 23), none⟩])
 .ret))))⟩
def a421 : Ann := ⟨[(2, [(0, ⟨false, 0, false⟩), (7, ⟨false, 0, false⟩), (8, ⟨false, 0, false⟩), (9, ⟨false, 0, false⟩)])], [⟨false, 0, false⟩], []⟩
def s421 : SFun := ⟨2, 19, [], [(.tmp 4, ⟨false, 0, false⟩)],
 (.seq (.reg [⟨(some 4), .mv (.k (D.int .u64 (0))), none⟩])
 (.seq (.seq (.reg [⟨(some 7), .mv (.t 1), none⟩,
  ⟨(some 8), .len (.t 7), none⟩,
  ⟨(some 9), .mv (.k (D.int .i64 (0))), none⟩])
 (.block 0 (.loop [(0, ⟨false, 0, false⟩), (7, ⟨false, 0, false⟩), (8, ⟨false, 0, false⟩), (9, ⟨false, 0, false⟩)]
 (.seq (.reg [⟨(some 10), .bin .lss (.t 9) (.t 8), none⟩])
 (.seq (.cond (.t 10)
 .skip
 (.exit 0))
 (.seq (.block 1 (.seq (.reg [⟨(some 11), .ixs 1 (.t 7) (.t 9), none⟩,
  ⟨(some 12), .load false 1 (.t 11), none⟩,
  ⟨(some 6), .mv (.t 12), none⟩])
 (.reg [⟨(some 13), .mv (.t 0), none⟩,
  ⟨(some 14), .mv (.t 6), none⟩,
  ⟨(some 15), .call false 422 [(.t 14)], none⟩,
  ⟨(some 16), .bin .or (.t 13) (.t 15), none⟩,
  ⟨(some 0), .mv (.t 16), none⟩])))
 (.reg [⟨(some 17), .bin .add (.t 9) (.k (D.int .i64 (1))), none⟩,
  ⟨(some 9), .mv (.t 17), none⟩])))))))
 (.seq (.reg [⟨(some 18), .mv (.t 0), none⟩,
  ⟨(some 4), .mv (.t 18), none⟩])
 .ret)))⟩
def a409 : Ann := ⟨[], [⟨false, 0, false⟩], []⟩
def s409 : SFun := ⟨2, 62, [], [(.cell 4 true 29, ⟨false, 0, false⟩)],
 (.seq (.reg [⟨(some 2), .box 29 (.t 0), none⟩,
  ⟨(some 3), .box 7 (.t 1), none⟩,
  ⟨(some 4), .alloc [(D.int .i64 (0)), (D.int .i64 (0)), .sn, (D.int .i64 (0)), (D.int .i64 (0)), (D.bool false), (D.int .i64 (0)), (D.int .i64 (0)), (D.int .i64 (0)), (D.int .i64 (0)), (D.int .i64 (0)), (D.int .u64 (0)), (D.int .u8 (0)), (D.int .u8 (0)), (D.int .i64 (0)), (D.bool false), (D.bool false), (D.bool false), (D.bool false), (D.bool false), (D.int .i64 (0)), (D.int .i64 (0)), (D.int .i64 (0)), (D.int .i64 (0)), (D.int .i64 (0)), (D.int .u8 (0)), (D.int .u8 (0)), (D.int .i64 (0)), (D.bool false)], none⟩])
 (.seq (.seq (.reg [⟨(some 5), .fad 3 (.t 3), none⟩,
  ⟨(some 6), .load false 1 (.t 5), none⟩,
  ⟨(some 7), .bin .neq (.t 6) (.k (D.int .u8 (0))), none⟩])
 (.cond (.t 7)
 (.seq (.reg [⟨(some 8), .load true 29 (.t 2), none⟩,
  ⟨(some 9), .fad 3 (.t 3), none⟩,
  ⟨(some 10), .load false 1 (.t 9), none⟩,
  ⟨(some 11), .fad 4 (.t 3), none⟩,
  ⟨(some 12), .load false 1 (.t 11), none⟩,
  ⟨(some 13), .call false 406 [(.t 8), (.t 10), (.t 12)], none⟩,
  ⟨none, .store 29 (.t 4) (.t 13), none⟩])
 .ret)
 .skip))
 (.seq (.seq (.reg [⟨(some 14), .fad 4 (.t 3), none⟩,
  ⟨(some 15), .load false 1 (.t 14), none⟩])
 (.block 0 (.seq (.reg [⟨(some 17), .bin .eql (.t 15) (.k (D.int .u8 (55))), none⟩,
  ⟨(some 16), .mv (.t 17), none⟩])
 (.cond (.t 16)
 (.seq (.reg [⟨(some 18), .load true 29 (.t 2), none⟩,
  ⟨(some 19), .call false 129 [(.t 18)], none⟩,
  ⟨none, .store 29 (.t 4) (.t 19), none⟩])
 .ret)
 (.seq (.reg [⟨(some 21), .bin .eql (.t 15) (.k (D.int .u8 (56))), none⟩,
  ⟨(some 20), .mv (.t 21), none⟩])
 (.cond (.t 20)
 (.seq (.reg [⟨(some 22), .load true 29 (.t 2), none⟩,
  ⟨(some 23), .call false 128 [(.t 22)], none⟩,
  ⟨none, .store 29 (.t 4) (.t 23), none⟩])
 .ret)
 (.seq (.reg [⟨(some 25), .bin .eql (.t 15) (.k (D.int .u8 (68))), none⟩,
  ⟨(some 24), .mv (.t 25), none⟩])
 (.cond (.t 24)
 (.seq (.reg [⟨(some 26), .load true 29 (.t 2), none⟩,
  ⟨(some 27), .call false 125 [(.t 26)], none⟩,
  ⟨none, .store 29 (.t 4) (.t 27), none⟩])
 .ret)
 (.seq (.reg [⟨(some 29), .bin .eql (.t 15) (.k (D.int .u8 (69))), none⟩,
  ⟨(some 28), .mv (.t 29), none⟩])
 (.cond (.t 28)
 (.seq (.reg [⟨(some 30), .load true 29 (.t 2), none⟩,
  ⟨(some 31), .call false 404 [(.t 30), (.k (D.int .i64 (0)))], none⟩,
  ⟨(some 32), .call false 125 [(.t 31)], none⟩,
  ⟨none, .store 29 (.t 4) (.t 32), none⟩])
 .ret)
 (.seq (.reg [⟨(some 34), .bin .eql (.t 15) (.k (D.int .u8 (77))), none⟩,
  ⟨(some 33), .mv (.t 34), none⟩])
 (.cond (.t 33)
 (.seq (.reg [⟨(some 35), .load true 29 (.t 2), none⟩,
  ⟨(some 36), .call false 123 [(.t 35)], none⟩,
  ⟨none, .store 29 (.t 4) (.t 36), none⟩])
 .ret)
 (.seq (.reg [⟨(some 38), .bin .eql (.t 15) (.k (D.int .u8 (72))), none⟩,
  ⟨(some 37), .mv (.t 38), none⟩])
 (.cond (.t 37)
 (.reg [⟨(some 39), .fad 11 (.t 2), none⟩,
  ⟨(some 40), .load false 1 (.t 39), none⟩,
  ⟨(some 41), .fad 4 (.t 2), none⟩,
  ⟨(some 42), .load false 1 (.t 41), none⟩,
  ⟨(some 43), .bsl false 1 1 [(D.int .i64 (0))] [(0, (.t 42))], none⟩,
  ⟨(some 44), .call false 421 [(.t 40), (.t 43)], none⟩,
  ⟨(some 45), .fad 11 (.t 2), none⟩,
  ⟨none, .store 1 (.t 45) (.t 44), none⟩])
 (.seq (.reg [⟨(some 47), .bin .eql (.t 15) (.k (D.int .u8 (99))), none⟩,
  ⟨(some 46), .mv (.t 47), none⟩])
 (.cond (.t 46)
 (.seq (.reg [⟨(some 48), .fad 0 (.t 2), none⟩,
  ⟨(some 49), .fad 0 (.t 48), none⟩,
  ⟨(some 50), .load false 1 (.t 49), none⟩,
  ⟨(some 51), .fad 0 (.t 2), none⟩,
  ⟨(some 52), .fad 1 (.t 51), none⟩,
  ⟨(some 53), .load false 1 (.t 52), none⟩,
  ⟨(some 54), .call false 372 [(.t 50), (.t 53)], none⟩,
  ⟨none, .store 29 (.t 4) (.t 54), none⟩])
 .ret)
 (.seq (.reg [⟨(some 56), .bin .eql (.t 15) (.k (D.int .u8 (61))), none⟩,
  ⟨(some 55), .mv (.t 56), none⟩])
 (.cond (.t 55)
 (.reg [⟨(some 57), .fad 19 (.t 2), none⟩,
  ⟨none, .store 1 (.t 57) (.k (D.bool true)), none⟩])
 (.seq (.reg [⟨(some 59), .bin .eql (.t 15) (.k (D.int .u8 (62))), none⟩,
  ⟨(some 58), .mv (.t 59), none⟩])
 (.cond (.t 58)
 (.reg [⟨(some 60), .fad 19 (.t 2), none⟩,
  ⟨none, .store 1 (.t 60) (.k (D.bool false)), none⟩])
 .skip))))))))))))))))))))
 (.seq (.reg [⟨(some 61), .load true 29 (.t 2), none⟩,
  ⟨none, .store 29 (.t 4) (.t 61), none⟩])
 .ret))))⟩
def a127 : Ann := ⟨[], [⟨false, 0, false⟩], []⟩
def s127 : SFun := ⟨1, 11, [], [(.cell 2 true 29, ⟨false, 0, false⟩)],
 (.seq (.reg [⟨(some 1), .box 29 (.t 0), none⟩,
  ⟨(some 2), .alloc [(D.int .i64 (0)), (D.int .i64 (0)), .sn, (D.int .i64 (0)), (D.int .i64 (0)), (D.bool false), (D.int .i64 (0)), (D.int .i64 (0)), (D.int .i64 (0)), (D.int .i64 (0)), (D.int .i64 (0)), (D.int .u64 (0)), (D.int .u8 (0)), (D.int .u8 (0)), (D.int .i64 (0)), (D.bool false), (D.bool false), (D.bool false), (D.bool false), (D.bool false), (D.int .i64 (0)), (D.int .i64 (0)), (D.int .i64 (0)), (D.int .i64 (0)), (D.int .i64 (0)), (D.int .u8 (0)), (D.int .u8 (0)), (D.int .i64 (0)), (D.bool false)], none⟩])
 (.seq (.seq (.reg [⟨(some 3), .fad 16 (.t 1), none⟩,
  ⟨(some 4), .load false 1 (.t 3), none⟩])
 (.cond (.t 4)
 (.seq (.reg [⟨(some 5), .load true 29 (.t 1), none⟩,
  ⟨(some 6), .fad 6 (.t 1), none⟩,
  ⟨(some 7), .load false 1 (.t 6), none⟩,
  ⟨(some 8), .call false 122 [(.t 5), (.t 7), (.k (D.int .i64 (0)))], none⟩,
  ⟨none, .store 29 (.t 2) (.t 8), none⟩])
 .ret)
 .skip))
 (.seq (.reg [⟨(some 9), .load true 29 (.t 1), none⟩,
  ⟨(some 10), .call false 122 [(.t 9), (.k (D.int .i64 (0))), (.k (D.int .i64 (0)))], none⟩,
  ⟨none, .store 29 (.t 2) (.t 10), none⟩])
 .ret)))⟩
def a337 : Ann := ⟨[], [⟨false, 0, false⟩], []⟩
def s337 : SFun := ⟨3, 35, [], [(.cell 6 true 29, ⟨false, 0, false⟩)],
 (.seq (.reg [⟨(some 3), .box 29 (.t 0), none⟩,
  ⟨(some 6), .alloc [(D.int .i64 (0)), (D.int .i64 (0)), .sn, (D.int .i64 (0)), (D.int .i64 (0)), (D.bool false), (D.int .i64 (0)), (D.int .i64 (0)), (D.int .i64 (0)), (D.int .i64 (0)), (D.int .i64 (0)), (D.int .u64 (0)), (D.int .u8 (0)), (D.int .u8 (0)), (D.int .i64 (0)), (D.bool false), (D.bool false), (D.bool false), (D.bool false), (D.bool false), (D.int .i64 (0)), (D.int .i64 (0)), (D.int .i64 (0)), (D.int .i64 (0)), (D.int .i64 (0)), (D.int .u8 (0)), (D.int .u8 (0)), (D.int .i64 (0)), (D.bool false)], none⟩])
 (.seq (.reg [⟨(some 7), .load true 29 (.t 3), none⟩,
  ⟨(some 8), .call false 370 [(.t 7)], none⟩,
  ⟨none, .store 29 (.t 3) (.t 8), none⟩])
 (.seq (.seq (.reg [⟨(some 9), .mv (.t 1), none⟩])
 (.block 0 (.seq (.reg [⟨(some 11), .bin .eql (.t 9) (.k (D.int .i64 (1))), none⟩,
  ⟨(some 10), .mv (.t 11), none⟩])
 (.cond (.t 10)
 (.reg [⟨(some 12), .mv (.t 2), none⟩,
  ⟨(some 13), .fad 18 (.t 3), none⟩,
  ⟨none, .store 1 (.t 13) (.t 12), none⟩])
 (.seq (.reg [⟨(some 15), .bin .eql (.t 9) (.k (D.int .i64 (6))), none⟩,
  ⟨(some 14), .mv (.t 15), none⟩])
 (.cond (.t 14)
 (.seq (.reg [⟨(some 16), .mv (.t 2), none⟩,
  ⟨(some 17), .fad 16 (.t 3), none⟩,
  ⟨none, .store 1 (.t 17) (.t 16), none⟩])
 (.seq (.reg [⟨(some 18), .load true 29 (.t 3), none⟩,
  ⟨(some 19), .call false 127 [(.t 18)], none⟩,
  ⟨none, .store 29 (.t 6) (.t 19), none⟩])
 .ret))
 (.seq (.reg [⟨(some 21), .bin .eql (.t 9) (.k (D.int .i64 (7))), none⟩,
  ⟨(some 20), .mv (.t 21), none⟩])
 (.cond (.t 20)
 (.seq (.reg [⟨(some 22), .mv (.t 2), none⟩,
  ⟨(some 23), .fad 15 (.t 3), none⟩,
  ⟨none, .store 1 (.t 23) (.t 22), none⟩])
 (.reg [⟨(some 24), .fad 5 (.t 3), none⟩,
  ⟨(some 25), .load false 1 (.t 24), none⟩,
  ⟨(some 26), .mv (.t 25), none⟩,
  ⟨(some 27), .mv (.t 2), (some (26, true))⟩,
  ⟨(some 28), .pick (.t 26) (.t 27) (.k (D.bool false)), none⟩,
  ⟨(some 29), .fad 5 (.t 3), none⟩,
  ⟨none, .store 1 (.t 29) (.t 28), none⟩]))
 (.seq (.reg [⟨(some 31), .bin .eql (.t 9) (.k (D.int .i64 (25))), none⟩,
  ⟨(some 30), .mv (.t 31), none⟩])
 (.cond (.t 30)
 (.reg [⟨(some 32), .mv (.t 2), none⟩,
  ⟨(some 33), .fad 17 (.t 3), none⟩,
  ⟨none, .store 1 (.t 33) (.t 32), none⟩])
 .skip))))))))))
 (.seq (.reg [⟨(some 34), .load true 29 (.t 3), none⟩,
  ⟨none, .store 29 (.t 6) (.t 34), none⟩])
 .ret))))⟩
def a415 : Ann := ⟨[(4, [(17, ⟨false, 0, false⟩), (18, ⟨false, 0, false⟩), (19, ⟨false, 0, false⟩), (2, ⟨true, 0, false⟩), (3, ⟨true, 0, false⟩), (4, ⟨true, 0, false⟩)])], [⟨false, 0, false⟩], []⟩
def s415 : SFun := ⟨2, 31, [], [(.cell 4 true 29, ⟨false, 0, false⟩)],
 (.seq (.reg [⟨(some 2), .box 29 (.t 0), none⟩,
  ⟨(some 3), .box 7 (.t 1), none⟩,
  ⟨(some 4), .alloc [(D.int .i64 (0)), (D.int .i64 (0)), .sn, (D.int .i64 (0)), (D.int .i64 (0)), (D.bool false), (D.int .i64 (0)), (D.int .i64 (0)), (D.int .i64 (0)), (D.int .i64 (0)), (D.int .i64 (0)), (D.int .u64 (0)), (D.int .u8 (0)), (D.int .u8 (0)), (D.int .i64 (0)), (D.bool false), (D.bool false), (D.bool false), (D.bool false), (D.bool false), (D.int .i64 (0)), (D.int .i64 (0)), (D.int .i64 (0)), (D.int .i64 (0)), (D.int .i64 (0)), (D.int .u8 (0)), (D.int .u8 (0)), (D.int .i64 (0)), (D.bool false)], none⟩])
 (.seq (.seq (.reg [⟨(some 7), .fad 4 (.t 3), none⟩,
  ⟨(some 8), .load false 1 (.t 7), none⟩,
  ⟨(some 9), .bin .neq (.t 8) (.k (D.int .u8 (104))), none⟩,
  ⟨(some 10), .mv (.t 9), none⟩,
  ⟨(some 11), .fad 4 (.t 3), (some (10, true))⟩,
  ⟨(some 12), .load false 1 (.t 11), (some (10, true))⟩,
  ⟨(some 13), .bin .neq (.t 12) (.k (D.int .u8 (108))), (some (10, true))⟩,
  ⟨(some 14), .pick (.t 10) (.t 13) (.k (D.bool false)), none⟩])
 (.cond (.t 14)
 (.seq (.reg [⟨(some 15), .load true 29 (.t 2), none⟩,
  ⟨none, .store 29 (.t 4) (.t 15), none⟩])
 .ret)
 .skip))
 (.seq (.seq (.reg [⟨(some 16), .fad 5 (.t 3), none⟩,
  ⟨(some 17), .load false 1 (.t 16), none⟩,
  ⟨(some 18), .len (.t 17), none⟩,
  ⟨(some 19), .mv (.k (D.int .i64 (0))), none⟩])
 (.block 0 (.loop [(17, ⟨false, 0, false⟩), (18, ⟨false, 0, false⟩), (19, ⟨false, 0, false⟩), (2, ⟨true, 0, false⟩), (3, ⟨true, 0, false⟩), (4, ⟨true, 0, false⟩)]
 (.seq (.reg [⟨(some 20), .bin .lss (.t 19) (.t 18), none⟩])
 (.seq (.cond (.t 20)
 .skip
 (.exit 0))
 (.seq (.block 1 (.seq (.reg [⟨(some 21), .ixs 1 (.t 17) (.t 19), none⟩,
  ⟨(some 22), .load false 1 (.t 21), none⟩,
  ⟨(some 6), .mv (.t 22), none⟩])
 (.reg [⟨(some 23), .load true 29 (.t 2), none⟩,
  ⟨(some 24), .mv (.t 6), none⟩,
  ⟨(some 25), .fad 4 (.t 3), none⟩,
  ⟨(some 26), .load false 1 (.t 25), none⟩,
  ⟨(some 27), .bin .eql (.t 26) (.k (D.int .u8 (104))), none⟩,
  ⟨(some 28), .call false 337 [(.t 23), (.t 24), (.t 27)], none⟩,
  ⟨none, .store 29 (.t 2) (.t 28), none⟩])))
 (.reg [⟨(some 29), .bin .add (.t 19) (.k (D.int .i64 (1))), none⟩,
  ⟨(some 19), .mv (.t 29), none⟩])))))))
 (.seq (.reg [⟨(some 30), .load true 29 (.t 2), none⟩,
  ⟨none, .store 29 (.t 4) (.t 30), none⟩])
 .ret))))⟩
def a381 : Ann := ⟨[], [⟨false, 0, false⟩], []⟩
def s381 : SFun := ⟨5, 52, [], [(.tmp 10, ⟨false, 0, false⟩)],
 (.seq (.reg [⟨(some 5), .box 7 (.t 0), none⟩,
  ⟨(some 10), .mv (.k (D.int .i64 (0))), none⟩])
 (.seq (.reg [⟨(some 12), .mv (.t 2), none⟩,
  ⟨(some 11), .mv (.t 12), none⟩])
 (.seq (.seq (.reg [⟨(some 13), .mv (.t 1), none⟩,
  ⟨(some 14), .bin .geq (.t 13) (.k (D.int .i64 (0))), none⟩,
  ⟨(some 15), .mv (.t 14), none⟩,
  ⟨(some 16), .mv (.t 1), (some (15, true))⟩,
  ⟨(some 17), .fad 5 (.t 5), (some (15, true))⟩,
  ⟨(some 18), .load false 1 (.t 17), (some (15, true))⟩,
  ⟨(some 19), .len (.t 18), (some (15, true))⟩,
  ⟨(some 20), .bin .lss (.t 16) (.t 19), (some (15, true))⟩,
  ⟨(some 21), .pick (.t 15) (.t 20) (.k (D.bool false)), none⟩,
  ⟨(some 22), .mv (.t 21), none⟩,
  ⟨(some 23), .fad 5 (.t 5), (some (22, true))⟩,
  ⟨(some 24), .load false 1 (.t 23), (some (22, true))⟩,
  ⟨(some 25), .mv (.t 1), (some (22, true))⟩,
  ⟨(some 26), .ixs 1 (.t 24) (.t 25), (some (22, true))⟩,
  ⟨(some 27), .load false 1 (.t 26), (some (22, true))⟩,
  ⟨(some 28), .bin .neq (.t 27) (.k (D.int .i64 (-1))), (some (22, true))⟩,
  ⟨(some 29), .pick (.t 22) (.t 28) (.k (D.bool false)), none⟩,
  ⟨(some 30), .mv (.t 29), none⟩,
  ⟨(some 31), .fad 5 (.t 5), (some (30, true))⟩,
  ⟨(some 32), .load false 1 (.t 31), (some (30, true))⟩,
  ⟨(some 33), .mv (.t 1), (some (30, true))⟩,
  ⟨(some 34), .ixs 1 (.t 32) (.t 33), (some (30, true))⟩,
  ⟨(some 35), .load false 1 (.t 34), (some (30, true))⟩,
  ⟨(some 36), .bin .neq (.t 35) (.k (D.int .i64 (0))), (some (30, true))⟩,
  ⟨(some 37), .mv (.t 36), (some (30, true))⟩,
  ⟨(some 38), .mv (.t 3), (some (37, false))⟩,
  ⟨(some 39), .bin .leq (.t 38) (.k (D.int .i64 (0))), (some (37, false))⟩,
  ⟨(some 40), .pick (.t 37) (.k (D.bool true)) (.t 39), (some (30, true))⟩,
  ⟨(some 41), .pick (.t 30) (.t 40) (.k (D.bool false)), none⟩])
 (.cond (.t 41)
 (.reg [⟨(some 42), .fad 5 (.t 5), none⟩,
  ⟨(some 43), .load false 1 (.t 42), none⟩,
  ⟨(some 44), .mv (.t 1), none⟩,
  ⟨(some 45), .ixs 1 (.t 43) (.t 44), none⟩,
  ⟨(some 46), .load false 1 (.t 45), none⟩,
  ⟨(some 11), .mv (.t 46), none⟩])
 .skip))
 (.seq (.reg [⟨(some 47), .mv (.t 3), none⟩,
  ⟨(some 48), .mv (.t 11), none⟩,
  ⟨(some 49), .mv (.t 4), none⟩,
  ⟨(some 50), .mn [(.t 48), (.t 49)], none⟩,
  ⟨(some 51), .mx [(.t 47), (.t 50)], none⟩,
  ⟨(some 10), .mv (.t 51), none⟩])
 .ret))))⟩
def a411 : Ann := ⟨[], [⟨false, 0, false⟩], []⟩
def s411 : SFun := ⟨2, 8, [], [(.tmp 4, ⟨false, 0, false⟩)],
 (.seq (.reg [⟨(some 2), .box 7 (.t 0), none⟩,
  ⟨(some 4), .mv (.k (D.int .i64 (0))), none⟩])
 (.seq (.reg [⟨(some 5), .load true 7 (.t 2), none⟩,
  ⟨(some 6), .mv (.t 1), none⟩,
  ⟨(some 7), .call false 381 [(.t 5), (.t 6), (.k (D.int .i64 (1))), (.k (D.int .i64 (1))), (.k (D.int .i64 (65535)))], none⟩,
  ⟨(some 4), .mv (.t 7), none⟩])
 .ret))⟩
def a130 : Ann := ⟨[], [⟨false, 0, false⟩], []⟩
def s130 : SFun := ⟨2, 24, [], [(.cell 4 true 29, ⟨false, 0, false⟩)],
 (.seq (.reg [⟨(some 2), .box 29 (.t 0), none⟩,
  ⟨(some 4), .alloc [(D.int .i64 (0)), (D.int .i64 (0)), .sn, (D.int .i64 (0)), (D.int .i64 (0)), (D.bool false), (D.int .i64 (0)), (D.int .i64 (0)), (D.int .i64 (0)), (D.int .i64 (0)), (D.int .i64 (0)), (D.int .u64 (0)), (D.int .u8 (0)), (D.int .u8 (0)), (D.int .i64 (0)), (D.bool false), (D.bool false), (D.bool false), (D.bool false), (D.bool false), (D.int .i64 (0)), (D.int .i64 (0)), (D.int .i64 (0)), (D.int .i64 (0)), (D.int .i64 (0)), (D.int .u8 (0)), (D.int .u8 (0)), (D.int .i64 (0)), (D.bool false)], none⟩])
 (.seq (.reg [⟨(some 6), .fad 3 (.t 2), none⟩,
  ⟨(some 7), .load false 1 (.t 6), none⟩,
  ⟨(some 8), .mv (.t 1), none⟩,
  ⟨(some 9), .bin .sub (.t 7) (.t 8), none⟩,
  ⟨(some 5), .mv (.t 9), none⟩])
 (.seq (.seq (.reg [⟨(some 10), .fad 3 (.t 2), none⟩,
  ⟨(some 11), .load false 1 (.t 10), none⟩,
  ⟨(some 12), .fad 6 (.t 2), none⟩,
  ⟨(some 13), .load false 1 (.t 12), none⟩,
  ⟨(some 14), .bin .geq (.t 11) (.t 13), none⟩])
 (.cond (.t 14)
 (.reg [⟨(some 15), .mv (.t 5), none⟩,
  ⟨(some 16), .fad 6 (.t 2), none⟩,
  ⟨(some 17), .load false 1 (.t 16), none⟩,
  ⟨(some 18), .mx [(.t 15), (.t 17)], none⟩,
  ⟨(some 5), .mv (.t 18), none⟩])
 .skip))
 (.seq (.reg [⟨(some 19), .load true 29 (.t 2), none⟩,
  ⟨(some 20), .mv (.t 5), none⟩,
  ⟨(some 21), .fad 4 (.t 2), none⟩,
  ⟨(some 22), .load false 1 (.t 21), none⟩,
  ⟨(some 23), .call false 122 [(.t 19), (.t 20), (.t 22)], none⟩,
  ⟨none, .store 29 (.t 4) (.t 23), none⟩])
 .ret))))⟩
def a124 : Ann := ⟨[], [⟨false, 0, false⟩], []⟩
def s124 : SFun := ⟨2, 24, [], [(.cell 4 true 29, ⟨false, 0, false⟩)],
 (.seq (.reg [⟨(some 2), .box 29 (.t 0), none⟩,
  ⟨(some 4), .alloc [(D.int .i64 (0)), (D.int .i64 (0)), .sn, (D.int .i64 (0)), (D.int .i64 (0)), (D.bool false), (D.int .i64 (0)), (D.int .i64 (0)), (D.int .i64 (0)), (D.int .i64 (0)), (D.int .i64 (0)), (D.int .u64 (0)), (D.int .u8 (0)), (D.int .u8 (0)), (D.int .i64 (0)), (D.bool false), (D.bool false), (D.bool false), (D.bool false), (D.bool false), (D.int .i64 (0)), (D.int .i64 (0)), (D.int .i64 (0)), (D.int .i64 (0)), (D.int .i64 (0)), (D.int .u8 (0)), (D.int .u8 (0)), (D.int .i64 (0)), (D.bool false)], none⟩])
 (.seq (.reg [⟨(some 6), .fad 3 (.t 2), none⟩,
  ⟨(some 7), .load false 1 (.t 6), none⟩,
  ⟨(some 8), .mv (.t 1), none⟩,
  ⟨(some 9), .bin .add (.t 7) (.t 8), none⟩,
  ⟨(some 5), .mv (.t 9), none⟩])
 (.seq (.seq (.reg [⟨(some 10), .fad 3 (.t 2), none⟩,
  ⟨(some 11), .load false 1 (.t 10), none⟩,
  ⟨(some 12), .fad 7 (.t 2), none⟩,
  ⟨(some 13), .load false 1 (.t 12), none⟩,
  ⟨(some 14), .bin .leq (.t 11) (.t 13), none⟩])
 (.cond (.t 14)
 (.reg [⟨(some 15), .mv (.t 5), none⟩,
  ⟨(some 16), .fad 7 (.t 2), none⟩,
  ⟨(some 17), .load false 1 (.t 16), none⟩,
  ⟨(some 18), .mn [(.t 15), (.t 17)], none⟩,
  ⟨(some 5), .mv (.t 18), none⟩])
 .skip))
 (.seq (.reg [⟨(some 19), .load true 29 (.t 2), none⟩,
  ⟨(some 20), .mv (.t 5), none⟩,
  ⟨(some 21), .fad 4 (.t 2), none⟩,
  ⟨(some 22), .load false 1 (.t 21), none⟩,
  ⟨(some 23), .call false 122 [(.t 19), (.t 20), (.t 22)], none⟩,
  ⟨none, .store 29 (.t 4) (.t 23), none⟩])
 .ret))))⟩
def a126 : Ann := ⟨[], [⟨false, 0, false⟩], []⟩
def s126 : SFun := ⟨3, 20, [], [(.cell 6 true 29, ⟨false, 0, false⟩)],
 (.seq (.reg [⟨(some 3), .box 29 (.t 0), none⟩,
  ⟨(some 6), .alloc [(D.int .i64 (0)), (D.int .i64 (0)), .sn, (D.int .i64 (0)), (D.int .i64 (0)), (D.bool false), (D.int .i64 (0)), (D.int .i64 (0)), (D.int .i64 (0)), (D.int .i64 (0)), (D.int .i64 (0)), (D.int .u64 (0)), (D.int .u8 (0)), (D.int .u8 (0)), (D.int .i64 (0)), (D.bool false), (D.bool false), (D.bool false), (D.bool false), (D.bool false), (D.int .i64 (0)), (D.int .i64 (0)), (D.int .i64 (0)), (D.int .i64 (0)), (D.int .i64 (0)), (D.int .u8 (0)), (D.int .u8 (0)), (D.int .i64 (0)), (D.bool false)], none⟩])
 (.seq (.seq (.reg [⟨(some 7), .fad 16 (.t 3), none⟩,
  ⟨(some 8), .load false 1 (.t 7), none⟩])
 (.cond (.t 8)
 (.reg [⟨(some 9), .fad 6 (.t 3), none⟩,
  ⟨(some 10), .load false 1 (.t 9), none⟩,
  ⟨(some 11), .mv (.t 1), none⟩,
  ⟨(some 12), .bin .add (.t 10) (.t 11), none⟩,
  ⟨(some 13), .fad 7 (.t 3), none⟩,
  ⟨(some 14), .load false 1 (.t 13), none⟩,
  ⟨(some 15), .mn [(.t 12), (.t 14)], none⟩,
  ⟨(some 1), .mv (.t 15), none⟩])
 .skip))
 (.seq (.reg [⟨(some 16), .load true 29 (.t 3), none⟩,
  ⟨(some 17), .mv (.t 1), none⟩,
  ⟨(some 18), .mv (.t 2), none⟩,
  ⟨(some 19), .call false 122 [(.t 16), (.t 17), (.t 18)], none⟩,
  ⟨none, .store 29 (.t 6) (.t 19), none⟩])
 .ret)))⟩
def a413 : Ann := ⟨[], [⟨false, 0, false⟩], []⟩
def s413 : SFun := ⟨2, 70, [], [(.cell 4 true 29, ⟨false, 0, false⟩)],
 (.seq (.reg [⟨(some 2), .box 29 (.t 0), none⟩,
  ⟨(some 3), .box 7 (.t 1), none⟩,
  ⟨(some 4), .alloc [(D.int .i64 (0)), (D.int .i64 (0)), .sn, (D.int .i64 (0)), (D.int .i64 (0)), (D.bool false), (D.int .i64 (0)), (D.int .i64 (0)), (D.int .i64 (0)), (D.int .i64 (0)), (D.int .i64 (0)), (D.int .u64 (0)), (D.int .u8 (0)), (D.int .u8 (0)), (D.int .i64 (0)), (D.bool false), (D.bool false), (D.bool false), (D.bool false), (D.bool false), (D.int .i64 (0)), (D.int .i64 (0)), (D.int .i64 (0)), (D.int .i64 (0)), (D.int .i64 (0)), (D.int .u8 (0)), (D.int .u8 (0)), (D.int .i64 (0)), (D.bool false)], none⟩])
 (.seq (.reg [⟨(some 6), .load true 7 (.t 3), none⟩,
  ⟨(some 7), .call false 411 [(.t 6), (.k (D.int .i64 (0)))], none⟩,
  ⟨(some 5), .mv (.t 7), none⟩])
 (.seq (.seq (.reg [⟨(some 8), .fad 4 (.t 3), none⟩,
  ⟨(some 9), .load false 1 (.t 8), none⟩])
 (.block 0 (.seq (.reg [⟨(some 11), .bin .eql (.t 9) (.k (D.int .u8 (65))), none⟩,
  ⟨(some 10), .mv (.t 11), none⟩])
 (.cond (.t 10)
 (.seq (.reg [⟨(some 12), .load true 29 (.t 2), none⟩,
  ⟨(some 13), .mv (.t 5), none⟩,
  ⟨(some 14), .call false 130 [(.t 12), (.t 13)], none⟩,
  ⟨none, .store 29 (.t 4) (.t 14), none⟩])
 .ret)
 (.seq (.reg [⟨(some 16), .bin .eql (.t 9) (.k (D.int .u8 (66))), none⟩,
  ⟨(some 15), .mv (.t 16), none⟩])
 (.cond (.t 15)
 (.seq (.reg [⟨(some 17), .load true 29 (.t 2), none⟩,
  ⟨(some 18), .mv (.t 5), none⟩,
  ⟨(some 19), .call false 124 [(.t 17), (.t 18)], none⟩,
  ⟨none, .store 29 (.t 4) (.t 19), none⟩])
 .ret)
 (.seq (.reg [⟨(some 21), .bin .eql (.t 9) (.k (D.int .u8 (67))), none⟩,
  ⟨(some 20), .mv (.t 21), none⟩])
 (.cond (.t 20)
 (.seq (.reg [⟨(some 22), .load true 29 (.t 2), none⟩,
  ⟨(some 23), .fad 4 (.t 2), none⟩,
  ⟨(some 24), .load false 1 (.t 23), none⟩,
  ⟨(some 25), .mv (.t 5), none⟩,
  ⟨(some 26), .bin .add (.t 24) (.t 25), none⟩,
  ⟨(some 27), .call false 404 [(.t 22), (.t 26)], none⟩,
  ⟨none, .store 29 (.t 4) (.t 27), none⟩])
 .ret)
 (.seq (.reg [⟨(some 29), .bin .eql (.t 9) (.k (D.int .u8 (68))), none⟩,
  ⟨(some 28), .mv (.t 29), none⟩])
 (.cond (.t 28)
 (.seq (.reg [⟨(some 30), .load true 29 (.t 2), none⟩,
  ⟨(some 31), .fad 4 (.t 2), none⟩,
  ⟨(some 32), .load false 1 (.t 31), none⟩,
  ⟨(some 33), .mv (.t 5), none⟩,
  ⟨(some 34), .bin .sub (.t 32) (.t 33), none⟩,
  ⟨(some 35), .call false 404 [(.t 30), (.t 34)], none⟩,
  ⟨none, .store 29 (.t 4) (.t 35), none⟩])
 .ret)
 (.seq (.reg [⟨(some 37), .bin .eql (.t 9) (.k (D.int .u8 (69))), none⟩,
  ⟨(some 36), .mv (.t 37), none⟩])
 (.cond (.t 36)
 (.seq (.reg [⟨(some 38), .load true 29 (.t 2), none⟩,
  ⟨(some 39), .mv (.t 5), none⟩,
  ⟨(some 40), .call false 124 [(.t 38), (.t 39)], none⟩,
  ⟨(some 41), .call false 404 [(.t 40), (.k (D.int .i64 (0)))], none⟩,
  ⟨none, .store 29 (.t 4) (.t 41), none⟩])
 .ret)
 (.seq (.reg [⟨(some 43), .bin .eql (.t 9) (.k (D.int .u8 (70))), none⟩,
  ⟨(some 42), .mv (.t 43), none⟩])
 (.cond (.t 42)
 (.seq (.reg [⟨(some 44), .load true 29 (.t 2), none⟩,
  ⟨(some 45), .mv (.t 5), none⟩,
  ⟨(some 46), .call false 130 [(.t 44), (.t 45)], none⟩,
  ⟨(some 47), .call false 404 [(.t 46), (.k (D.int .i64 (0)))], none⟩,
  ⟨none, .store 29 (.t 4) (.t 47), none⟩])
 .ret)
 (.seq (.seq (.reg [⟨(some 49), .bin .eql (.t 9) (.k (D.int .u8 (71))), none⟩,
  ⟨(some 48), .mv (.t 49), none⟩])
 (.cond (.t 48)
 .skip
 (.reg [⟨(some 50), .bin .eql (.t 9) (.k (D.int .u8 (96))), none⟩,
  ⟨(some 48), .mv (.t 50), none⟩])))
 (.cond (.t 48)
 (.seq (.reg [⟨(some 51), .load true 29 (.t 2), none⟩,
  ⟨(some 52), .mv (.t 5), none⟩,
  ⟨(some 53), .bin .sub (.t 52) (.k (D.int .i64 (1))), none⟩,
  ⟨(some 54), .call false 404 [(.t 51), (.t 53)], none⟩,
  ⟨none, .store 29 (.t 4) (.t 54), none⟩])
 .ret)
 (.seq (.reg [⟨(some 56), .bin .eql (.t 9) (.k (D.int .u8 (100))), none⟩,
  ⟨(some 55), .mv (.t 56), none⟩])
 (.cond (.t 55)
 (.seq (.reg [⟨(some 57), .load true 29 (.t 2), none⟩,
  ⟨(some 58), .mv (.t 5), none⟩,
  ⟨(some 59), .bin .sub (.t 58) (.k (D.int .i64 (1))), none⟩,
  ⟨(some 60), .fad 4 (.t 2), none⟩,
  ⟨(some 61), .load false 1 (.t 60), none⟩,
  ⟨(some 62), .call false 126 [(.t 57), (.t 59), (.t 61)], none⟩,
  ⟨none, .store 29 (.t 4) (.t 62), none⟩])
 .ret)
 .skip))))))))))))))))))
 (.seq (.dreg [([], false, ⟨(some 63), .load true 29 (.t 2), none⟩),
  ([0], false, ⟨(some 64), .mv (.t 5), none⟩),
  ([0], false, ⟨(some 65), .bin .sub (.t 64) (.k (D.int .i64 (1))), none⟩),
  ([0, 1, 2], false, ⟨(some 66), .load true 7 (.t 3), none⟩),
  ([0, 1, 2], false, ⟨(some 67), .call true 411 [(.t 66), (.k (D.int .i64 (1)))], none⟩),
  ([0, 1, 2], false, ⟨(some 68), .bin .sub (.t 67) (.k (D.int .i64 (1))), none⟩),
  ([], true, ⟨(some 69), .call false 126 [(.t 63), (.t 65), (.t 68)], none⟩),
  ([], true, ⟨none, .store 29 (.t 4) (.t 69), none⟩)])
 .ret))))⟩
def a149 : Ann := ⟨[], [⟨false, 0, false⟩, ⟨false, 0, false⟩], []⟩
def s149 : SFun := ⟨3, 20, [], [(.cell 6 true 5, ⟨false, 0, false⟩), (.tmp 7, ⟨false, 0, false⟩)],
 (.seq (.reg [⟨(some 3), .box 3 (.t 0), none⟩,
  ⟨(some 6), .alloc [(D.int .i32 (0)), (D.int .i64 (0)), (D.int .i64 (0)), (D.int .i64 (0)), (D.int .i64 (0))], none⟩,
  ⟨(some 7), .mv (.k (D.bool false)), none⟩])
 (.seq (.seq (.reg [⟨(some 8), .load true 3 (.t 3), none⟩,
  ⟨(some 9), .mv (.t 1), none⟩,
  ⟨(some 10), .mv (.t 2), none⟩,
  ⟨(some 11), .call false 162 [(.t 8), (.t 9), (.t 10)], none⟩,
  ⟨(some 12), .una .not (.t 11), none⟩])
 (.cond (.t 12)
 (.seq (.reg [⟨(some 13), .build [(D.int .i32 (0)), (D.int .i64 (0)), (D.int .i64 (0)), (D.int .i64 (0)), (D.int .i64 (0))] [], none⟩,
  ⟨none, .store 5 (.t 6) (.t 13), none⟩,
  ⟨(some 7), .mv (.k (D.bool false)), none⟩])
 .ret)
 .skip))
 (.seq (.reg [⟨(some 14), .load true 3 (.t 3), none⟩,
  ⟨(some 15), .mv (.t 1), none⟩,
  ⟨(some 16), .call false 163 [(.t 14), (.t 15)], none⟩,
  ⟨(some 17), .mv (.t 2), none⟩,
  ⟨(some 18), .ixs 5 (.t 16) (.t 17), none⟩,
  ⟨(some 19), .load true 5 (.t 18), none⟩,
  ⟨none, .store 5 (.t 6) (.t 19), none⟩,
  ⟨(some 7), .mv (.k (D.bool true)), none⟩])
 .ret)))⟩
def a157 : Ann := ⟨[(6, [(1, ⟨false, 0, false⟩), (3, ⟨false, 0, false⟩), (12, ⟨false, 0, false⟩), (5, ⟨true, 0, false⟩), (9, ⟨true, 0, false⟩), (10, ⟨true, 0, false⟩), (11, ⟨true, 5, false⟩)])], [⟨false, 0, false⟩], []⟩
def s157 : SFun := ⟨5, 41, [], [(.cell 10 true 3, ⟨false, 0, false⟩)],
 (.seq (.reg [⟨(some 5), .box 3 (.t 0), none⟩,
  ⟨(some 9), .box 3 (.t 4), none⟩,
  ⟨(some 10), .alloc [(D.int .i64 (0)), (D.int .i64 (0)), .sn], none⟩])
 (.seq (.reg [⟨(some 13), .load true 3 (.t 5), none⟩,
  ⟨(some 14), .call false 158 [(.t 13)], none⟩,
  ⟨none, .store 3 (.t 5) (.t 14), none⟩])
 (.seq (.seq (.reg [⟨(some 15), .load true 3 (.t 5), none⟩,
  ⟨(some 16), .mv (.t 1), none⟩,
  ⟨(some 17), .call false 162 [(.t 15), (.t 16), (.k (D.int .i64 (0)))], none⟩,
  ⟨(some 18), .una .not (.t 17), none⟩])
 (.cond (.t 18)
 (.seq (.reg [⟨(some 19), .load true 3 (.t 5), none⟩,
  ⟨none, .store 3 (.t 10) (.t 19), none⟩])
 .ret)
 .skip))
 (.seq (.reg [⟨(some 20), .load true 3 (.t 5), none⟩,
  ⟨(some 21), .mv (.t 1), none⟩,
  ⟨(some 22), .call false 163 [(.t 20), (.t 21)], none⟩,
  ⟨(some 11), .mv (.t 22), none⟩])
 (.seq (.seq (.reg [⟨(some 23), .mv (.t 2), none⟩,
  ⟨(some 24), .mx [(.t 23), (.k (D.int .i64 (0)))], none⟩,
  ⟨(some 12), .mv (.t 24), none⟩])
 (.block 0 (.loop [(1, ⟨false, 0, false⟩), (3, ⟨false, 0, false⟩), (12, ⟨false, 0, false⟩), (5, ⟨true, 0, false⟩), (9, ⟨true, 0, false⟩), (10, ⟨true, 0, false⟩), (11, ⟨true, 5, false⟩)]
 (.seq (.seq (.reg [⟨(some 25), .mv (.t 12), none⟩,
  ⟨(some 26), .mv (.t 3), none⟩,
  ⟨(some 27), .fad 1 (.t 5), none⟩,
  ⟨(some 28), .load false 1 (.t 27), none⟩,
  ⟨(some 29), .mn [(.t 26), (.t 28)], none⟩,
  ⟨(some 30), .bin .lss (.t 25) (.t 29), none⟩])
 (.cond (.t 30)
 .skip
 (.exit 0)))
 (.seq (.block 1 (.reg [⟨(some 33), .mv (.t 11), none⟩,
  ⟨(some 34), .mv (.t 12), none⟩,
  ⟨(some 35), .load true 3 (.t 9), none⟩,
  ⟨(some 36), .call false 106 [(.t 35)], none⟩,
  ⟨(some 37), .ixs 5 (.t 33) (.t 34), none⟩,
  ⟨none, .store 5 (.t 37) (.t 36), none⟩]))
 (.reg [⟨(some 31), .mv (.t 12), none⟩,
  ⟨(some 32), .bin .add (.t 31) (.k (D.int .i64 (1))), none⟩,
  ⟨(some 12), .mv (.t 32), none⟩]))))))
 (.seq (.reg [⟨(some 38), .load true 3 (.t 5), none⟩,
  ⟨(some 39), .mv (.t 1), none⟩,
  ⟨(some 40), .call false 161 [(.t 38), (.t 39)], none⟩,
  ⟨none, .store 3 (.t 10) (.t 40), none⟩])
 .ret))))))⟩
def a141 : Ann := ⟨[], [⟨false, 0, false⟩], []⟩
def s141 : SFun := ⟨5, 52, [], [(.cell 10 true 3, ⟨false, 0, false⟩)],
 (.seq (.reg [⟨(some 5), .box 3 (.t 0), none⟩,
  ⟨(some 9), .box 3 (.t 4), none⟩,
  ⟨(some 10), .alloc [(D.int .i64 (0)), (D.int .i64 (0)), .sn], none⟩])
 (.seq (.seq (.reg [⟨(some 14), .load true 3 (.t 5), none⟩,
  ⟨(some 15), .mv (.t 1), none⟩,
  ⟨(some 16), .mv (.t 2), none⟩,
  ⟨(some 17), .call false 149 [(.t 14), (.t 15), (.t 16)], none⟩,
  ⟨(some 13), .mv (.t 17), none⟩,
  ⟨(some 18), .ext (.t 13) 0, none⟩,
  ⟨(some 19), .ext (.t 13) 1, none⟩,
  ⟨(some 11), .alloc [(D.int .i32 (0)), (D.int .i64 (0)), (D.int .i64 (0)), (D.int .i64 (0)), (D.int .i64 (0))], none⟩,
  ⟨none, .store 5 (.t 11) (.t 18), none⟩,
  ⟨(some 12), .mv (.t 19), none⟩])
 (.seq (.reg [⟨(some 20), .mv (.t 12), none⟩,
  ⟨(some 21), .una .not (.t 20), none⟩])
 (.cond (.t 21)
 (.seq (.reg [⟨(some 22), .load true 3 (.t 5), none⟩,
  ⟨(some 23), .call false 144 [(.t 22)], none⟩,
  ⟨none, .store 3 (.t 10) (.t 23), none⟩])
 .ret)
 .skip)))
 (.seq (.seq (.reg [⟨(some 24), .mv (.t 3), none⟩])
 (.block 0 (.seq (.reg [⟨(some 26), .bin .eql (.t 24) (.k (D.int .i64 (0))), none⟩,
  ⟨(some 25), .mv (.t 26), none⟩])
 (.cond (.t 25)
 (.seq (.reg [⟨(some 27), .load true 3 (.t 5), none⟩,
  ⟨(some 28), .mv (.t 1), none⟩,
  ⟨(some 29), .mv (.t 2), none⟩,
  ⟨(some 30), .fad 1 (.t 5), none⟩,
  ⟨(some 31), .load false 1 (.t 30), none⟩,
  ⟨(some 32), .load true 3 (.t 9), none⟩,
  ⟨(some 33), .call false 157 [(.t 27), (.t 28), (.t 29), (.t 31), (.t 32)], none⟩,
  ⟨none, .store 3 (.t 10) (.t 33), none⟩])
 .ret)
 (.seq (.reg [⟨(some 35), .bin .eql (.t 24) (.k (D.int .i64 (1))), none⟩,
  ⟨(some 34), .mv (.t 35), none⟩])
 (.cond (.t 34)
 (.seq (.reg [⟨(some 36), .load true 3 (.t 5), none⟩,
  ⟨(some 37), .mv (.t 1), none⟩,
  ⟨(some 38), .mv (.t 2), none⟩,
  ⟨(some 39), .bin .add (.t 38) (.k (D.int .i64 (1))), none⟩,
  ⟨(some 40), .load true 3 (.t 9), none⟩,
  ⟨(some 41), .call false 157 [(.t 36), (.t 37), (.k (D.int .i64 (0))), (.t 39), (.t 40)], none⟩,
  ⟨none, .store 3 (.t 10) (.t 41), none⟩])
 .ret)
 (.seq (.reg [⟨(some 43), .bin .eql (.t 24) (.k (D.int .i64 (2))), none⟩,
  ⟨(some 42), .mv (.t 43), none⟩])
 (.cond (.t 42)
 (.seq (.reg [⟨(some 44), .load true 3 (.t 5), none⟩,
  ⟨(some 45), .mv (.t 1), none⟩,
  ⟨(some 46), .fad 1 (.t 5), none⟩,
  ⟨(some 47), .load false 1 (.t 46), none⟩,
  ⟨(some 48), .load true 3 (.t 9), none⟩,
  ⟨(some 49), .call false 157 [(.t 44), (.t 45), (.k (D.int .i64 (0))), (.t 47), (.t 48)], none⟩,
  ⟨none, .store 3 (.t 10) (.t 49), none⟩])
 .ret)
 .skip))))))))
 (.seq (.reg [⟨(some 50), .load true 3 (.t 5), none⟩,
  ⟨(some 51), .call false 144 [(.t 50)], none⟩,
  ⟨none, .store 3 (.t 10) (.t 51), none⟩])
 .ret))))⟩
def a139 : Ann := ⟨[(6, [(1, ⟨false, 0, false⟩), (3, ⟨false, 0, false⟩), (41, ⟨false, 0, false⟩), (42, ⟨false, 0, false⟩), (5, ⟨true, 0, false⟩), (9, ⟨true, 0, false⟩), (10, ⟨true, 0, false⟩), (13, ⟨true, 0, false⟩)])], [⟨false, 0, false⟩], []⟩
def s139 : SFun := ⟨5, 69, [], [(.cell 10 true 3, ⟨false, 0, false⟩)],
 (.seq (.reg [⟨(some 5), .box 3 (.t 0), none⟩,
  ⟨(some 9), .box 3 (.t 4), none⟩,
  ⟨(some 10), .alloc [(D.int .i64 (0)), (D.int .i64 (0)), .sn], none⟩])
 (.seq (.seq (.reg [⟨(some 16), .load true 3 (.t 5), none⟩,
  ⟨(some 17), .mv (.t 1), none⟩,
  ⟨(some 18), .mv (.t 2), none⟩,
  ⟨(some 19), .call false 149 [(.t 16), (.t 17), (.t 18)], none⟩,
  ⟨(some 15), .mv (.t 19), none⟩,
  ⟨(some 20), .ext (.t 15) 0, none⟩,
  ⟨(some 21), .ext (.t 15) 1, none⟩,
  ⟨(some 11), .alloc [(D.int .i32 (0)), (D.int .i64 (0)), (D.int .i64 (0)), (D.int .i64 (0)), (D.int .i64 (0))], none⟩,
  ⟨none, .store 5 (.t 11) (.t 20), none⟩,
  ⟨(some 12), .mv (.t 21), none⟩])
 (.seq (.reg [⟨(some 22), .mv (.t 12), none⟩,
  ⟨(some 23), .una .not (.t 22), none⟩,
  ⟨(some 24), .mv (.t 23), none⟩,
  ⟨(some 25), .mv (.t 3), (some (24, false))⟩,
  ⟨(some 26), .bin .lss (.t 25) (.k (D.int .i64 (0))), (some (24, false))⟩,
  ⟨(some 27), .pick (.t 24) (.k (D.bool true)) (.t 26), none⟩,
  ⟨(some 28), .mv (.t 27), none⟩,
  ⟨(some 29), .mv (.t 3), (some (28, false))⟩,
  ⟨(some 30), .bin .gtr (.t 29) (.k (D.int .i64 (2))), (some (28, false))⟩,
  ⟨(some 31), .pick (.t 28) (.k (D.bool true)) (.t 30), none⟩])
 (.cond (.t 31)
 (.seq (.reg [⟨(some 32), .load true 3 (.t 5), none⟩,
  ⟨(some 33), .call false 144 [(.t 32)], none⟩,
  ⟨none, .store 3 (.t 10) (.t 33), none⟩])
 .ret)
 .skip)))
 (.seq (.reg [⟨(some 34), .load true 3 (.t 5), none⟩,
  ⟨(some 35), .mv (.t 1), none⟩,
  ⟨(some 36), .mv (.t 2), none⟩,
  ⟨(some 37), .mv (.t 3), none⟩,
  ⟨(some 38), .load true 3 (.t 9), none⟩,
  ⟨(some 39), .call false 141 [(.t 34), (.t 35), (.t 36), (.t 37), (.t 38)], none⟩,
  ⟨(some 13), .alloc [(D.int .i64 (0)), (D.int .i64 (0)), .sn], none⟩,
  ⟨none, .store 3 (.t 13) (.t 39), none⟩])
 (.seq (.seq (.reg [⟨(some 40), .fad 0 (.t 5), none⟩,
  ⟨(some 41), .load false 1 (.t 40), none⟩,
  ⟨(some 42), .mv (.k (D.int .i64 (0))), none⟩])
 (.block 0 (.loop [(1, ⟨false, 0, false⟩), (3, ⟨false, 0, false⟩), (41, ⟨false, 0, false⟩), (42, ⟨false, 0, false⟩), (5, ⟨true, 0, false⟩), (9, ⟨true, 0, false⟩), (10, ⟨true, 0, false⟩), (13, ⟨true, 0, false⟩)]
 (.seq (.reg [⟨(some 43), .bin .lss (.t 42) (.t 41), none⟩])
 (.seq (.cond (.t 43)
 .skip
 (.exit 0))
 (.seq (.block 1 (.seq (.reg [⟨(some 44), .mv (.t 42), none⟩,
  ⟨(some 14), .mv (.t 44), none⟩])
 (.seq (.reg [⟨(some 45), .mv (.t 14), none⟩,
  ⟨(some 46), .mv (.t 1), none⟩,
  ⟨(some 47), .bin .gtr (.t 45) (.t 46), none⟩,
  ⟨(some 48), .mv (.t 47), none⟩,
  ⟨(some 49), .mv (.t 3), (some (48, true))⟩,
  ⟨(some 50), .bin .neq (.t 49) (.k (D.int .i64 (1))), (some (48, true))⟩,
  ⟨(some 51), .pick (.t 48) (.t 50) (.k (D.bool false)), none⟩,
  ⟨(some 52), .mv (.t 51), none⟩,
  ⟨(some 53), .mv (.t 14), (some (52, false))⟩,
  ⟨(some 54), .mv (.t 1), (some (52, false))⟩,
  ⟨(some 55), .bin .lss (.t 53) (.t 54), (some (52, false))⟩,
  ⟨(some 56), .mv (.t 55), (some (52, false))⟩,
  ⟨(some 57), .mv (.t 3), (some (56, true))⟩,
  ⟨(some 58), .bin .neq (.t 57) (.k (D.int .i64 (0))), (some (56, true))⟩,
  ⟨(some 59), .pick (.t 56) (.t 58) (.k (D.bool false)), (some (52, false))⟩,
  ⟨(some 60), .pick (.t 52) (.k (D.bool true)) (.t 59), none⟩])
 (.cond (.t 60)
 (.reg [⟨(some 61), .load true 3 (.t 13), none⟩,
  ⟨(some 62), .mv (.t 14), none⟩,
  ⟨(some 63), .fad 1 (.t 5), none⟩,
  ⟨(some 64), .load false 1 (.t 63), none⟩,
  ⟨(some 65), .load true 3 (.t 9), none⟩,
  ⟨(some 66), .call false 157 [(.t 61), (.t 62), (.k (D.int .i64 (0))), (.t 64), (.t 65)], none⟩,
  ⟨none, .store 3 (.t 13) (.t 66), none⟩])
 .skip))))
 (.reg [⟨(some 67), .bin .add (.t 42) (.k (D.int .i64 (1))), none⟩,
  ⟨(some 42), .mv (.t 67), none⟩])))))))
 (.seq (.reg [⟨(some 68), .load true 3 (.t 13), none⟩,
  ⟨none, .store 3 (.t 10) (.t 68), none⟩])
 .ret)))))⟩
def a146 : Ann := ⟨[], [⟨true, 5, false⟩], []⟩
def s146 : SFun := ⟨3, 52, [], [(.tmp 6, ⟨true, 5, false⟩)],
 (.seq (.reg [⟨(some 3), .box 3 (.t 0), none⟩,
  ⟨(some 6), .mv (.k .sn), none⟩])
 (.seq (.reg [⟨(some 8), .fad 2 (.t 3), none⟩,
  ⟨(some 9), .load false 1 (.t 8), none⟩,
  ⟨(some 10), .mv (.t 1), none⟩,
  ⟨(some 11), .fad 1 (.t 3), none⟩,
  ⟨(some 12), .load false 1 (.t 11), none⟩,
  ⟨(some 13), .bin .mul (.t 10) (.t 12), none⟩,
  ⟨(some 14), .mv (.t 1), none⟩,
  ⟨(some 15), .bin .add (.t 14) (.k (D.int .i64 (1))), none⟩,
  ⟨(some 16), .fad 1 (.t 3), none⟩,
  ⟨(some 17), .load false 1 (.t 16), none⟩,
  ⟨(some 18), .bin .mul (.t 15) (.t 17), none⟩,
  ⟨(some 19), .slc 5 (.t 9) (some (.t 13)) (some (.t 18)), none⟩,
  ⟨(some 20), .call false 451 [(.t 19)], none⟩,
  ⟨(some 7), .mv (.t 20), none⟩])
 (.seq (.seq (.reg [⟨(some 21), .mv (.t 7), none⟩,
  ⟨(some 22), .mv (.t 2), none⟩,
  ⟨(some 23), .ixs 5 (.t 21) (.t 22), none⟩,
  ⟨(some 24), .fad 1 (.t 23), none⟩,
  ⟨(some 25), .load false 1 (.t 24), none⟩,
  ⟨(some 26), .bin .eql (.t 25) (.k (D.int .i64 (2))), none⟩,
  ⟨(some 27), .mv (.t 26), none⟩,
  ⟨(some 28), .mv (.t 2), (some (27, true))⟩,
  ⟨(some 29), .bin .gtr (.t 28) (.k (D.int .i64 (0))), (some (27, true))⟩,
  ⟨(some 30), .pick (.t 27) (.t 29) (.k (D.bool false)), none⟩])
 (.cond (.t 30)
 (.dreg [([], false, ⟨(some 31), .mv (.t 7), none⟩),
  ([0], false, ⟨(some 32), .mv (.t 2), none⟩),
  ([0], false, ⟨(some 33), .bin .sub (.t 32) (.k (D.int .i64 (1))), none⟩),
  ([0, 1, 2], false, ⟨(some 34), .mv (.t 7), none⟩),
  ([0, 1, 2, 3], false, ⟨(some 35), .mv (.t 2), none⟩),
  ([0, 1, 2, 3, 4], false, ⟨(some 36), .mv (.t 7), none⟩),
  ([0, 1, 2, 3, 4, 5], false, ⟨(some 37), .mv (.t 2), none⟩),
  ([0, 1, 2, 3, 4, 5], false, ⟨(some 38), .bin .sub (.t 37) (.k (D.int .i64 (1))), none⟩),
  ([0, 1, 2, 3, 4], false, ⟨(some 39), .ixs 5 (.t 36) (.t 38), none⟩),
  ([0, 1, 2, 3, 4], false, ⟨(some 40), .fad 2 (.t 39), none⟩),
  ([0, 1, 2, 3, 4], false, ⟨(some 41), .load true 3 (.t 40), none⟩),
  ([0, 1, 2, 3, 4], false, ⟨(some 42), .call true 106 [(.t 41)], none⟩),
  ([0, 1, 2, 3, 4, 5, 6, 7, 8, 9, 10, 11], false, ⟨(some 43), .mv (.t 7), none⟩),
  ([0, 1, 2, 3, 4, 5, 6, 7, 8, 9, 10, 11, 12], false, ⟨(some 44), .mv (.t 2), none⟩),
  ([0, 1, 2, 3, 4, 5, 6, 7, 8, 9, 10, 11], false, ⟨(some 45), .ixs 5 (.t 43) (.t 44), none⟩),
  ([0, 1, 2, 3, 4, 5, 6, 7, 8, 9, 10, 11], false, ⟨(some 46), .fad 2 (.t 45), none⟩),
  ([0, 1, 2, 3, 4, 5, 6, 7, 8, 9, 10, 11], false, ⟨(some 47), .load true 3 (.t 46), none⟩),
  ([0, 1, 2, 3, 4], false, ⟨(some 48), .call true 106 [(.t 47)], none⟩),
  ([3, 4], false, ⟨(some 49), .ixs 5 (.t 31) (.t 33), none⟩),
  ([3, 4], false, ⟨none, .store 5 (.t 49) (.t 42), none⟩),
  ([], true, ⟨(some 50), .ixs 5 (.t 34) (.t 35), none⟩),
  ([], true, ⟨none, .store 5 (.t 50) (.t 48), none⟩)])
 .skip))
 (.seq (.reg [⟨(some 51), .mv (.t 7), none⟩,
  ⟨(some 6), .mv (.t 51), none⟩])
 .ret))))⟩
def a148 : Ann := ⟨[], [⟨false, 0, false⟩], []⟩
def s148 : SFun := ⟨3, 22, [], [(.cell 6 true 3, ⟨false, 0, false⟩)],
 (.seq (.reg [⟨(some 3), .box 3 (.t 0), none⟩,
  ⟨(some 6), .alloc [(D.int .i64 (0)), (D.int .i64 (0)), .sn], none⟩])
 (.seq (.reg [⟨(some 7), .fad 2 (.t 3), none⟩,
  ⟨(some 8), .load false 1 (.t 7), none⟩,
  ⟨(some 9), .call false 451 [(.t 8)], none⟩,
  ⟨(some 10), .fad 2 (.t 3), none⟩,
  ⟨none, .store 1 (.t 10) (.t 9), none⟩])
 (.seq (.dreg [([], false, ⟨(some 11), .fad 2 (.t 3), none⟩),
  ([], false, ⟨(some 12), .load false 1 (.t 11), none⟩),
  ([0, 1], false, ⟨(some 13), .mv (.t 1), none⟩),
  ([0, 1, 2], false, ⟨(some 14), .fad 1 (.t 3), none⟩),
  ([0, 1, 2], false, ⟨(some 15), .load false 1 (.t 14), none⟩),
  ([0, 1], false, ⟨(some 16), .bin .mul (.t 13) (.t 15), none⟩),
  ([], false, ⟨(some 17), .slc 5 (.t 12) (some (.t 16)) none, none⟩),
  ([0, 1, 2, 3, 4, 5, 6], false, ⟨(some 18), .mv (.t 2), none⟩),
  ([0, 1, 2, 3, 4, 5, 6], false, ⟨(some 19), .callr 150 [(.t 18)], none⟩),
  ([], true, ⟨(some 20), .copy 5 (.t 17) (.t 19), none⟩)])
 (.seq (.reg [⟨(some 21), .load true 3 (.t 3), none⟩,
  ⟨none, .store 3 (.t 6) (.t 21), none⟩])
 .ret))))⟩
def a459 : Ann := ⟨[], [⟨true, 5, false⟩], []⟩
def s459 : SFun := ⟨2, 27, [], [(.tmp 4, ⟨true, 5, false⟩)],
 (.seq (.reg [⟨(some 4), .mv (.k .sn), none⟩])
 (.seq (.seq (.reg [⟨(some 5), .mv (.t 1), none⟩,
  ⟨(some 6), .bin .lss (.t 5) (.k (D.int .i64 (0))), none⟩])
 (.cond (.t 6)
 (.reg [⟨(some 7), .bad, none⟩,
  ⟨none, .bad, none⟩])
 .skip))
 (.seq (.seq (.reg [⟨(some 8), .mv (.t 1), none⟩,
  ⟨(some 9), .mv (.t 0), none⟩,
  ⟨(some 10), .capn (.t 9), none⟩,
  ⟨(some 11), .mv (.t 0), none⟩,
  ⟨(some 12), .len (.t 11), none⟩,
  ⟨(some 13), .bin .sub (.t 10) (.t 12), none⟩,
  ⟨(some 14), .bin .sub (.t 8) (.t 13), none⟩,
  ⟨(some 1), .mv (.t 14), none⟩])
 (.seq (.reg [⟨(some 15), .mv (.t 1), none⟩,
  ⟨(some 16), .bin .gtr (.t 15) (.k (D.int .i64 (0))), none⟩])
 (.cond (.t 16)
 (.reg [⟨(some 17), .mv (.t 0), none⟩,
  ⟨(some 18), .mv (.t 0), none⟩,
  ⟨(some 19), .capn (.t 18), none⟩,
  ⟨(some 20), .slc 5 (.t 17) none (some (.t 19)), none⟩,
  ⟨(some 21), .mv (.t 1), none⟩,
  ⟨(some 22), .appz 5 40 [(D.int .i32 (0)), (D.int .i64 (0)), (D.int .i64 (0)), (D.int .i64 (0)), (D.int .i64 (0))] (.t 20) (.t 21), none⟩,
  ⟨(some 23), .mv (.t 0), none⟩,
  ⟨(some 24), .len (.t 23), none⟩,
  ⟨(some 25), .slc 5 (.t 22) none (some (.t 24)), none⟩,
  ⟨(some 0), .mv (.t 25), none⟩])
 .skip)))
 (.seq (.reg [⟨(some 26), .mv (.t 0), none⟩,
  ⟨(some 4), .mv (.t 26), none⟩])
 .ret))))⟩
def a452 : Ann := ⟨[(3, [(0, ⟨false, 0, false⟩), (3, ⟨false, 0, false⟩), (9, ⟨false, 0, false⟩), (10, ⟨false, 0, false⟩), (11, ⟨false, 0, false⟩)]), (11, [(25, ⟨false, 0, false⟩), (26, ⟨false, 0, false⟩), (27, ⟨false, 0, false⟩), (6, ⟨true, 5, false⟩)])], [⟨true, 5, false⟩], []⟩
def s452 : SFun := ⟨1, 36, [], [(.tmp 2, ⟨true, 5, false⟩)],
 (.seq (.reg [⟨(some 2), .mv (.k .sn), none⟩])
 (.seq (.reg [⟨(some 3), .mv (.k (D.int .i64 (0))), none⟩])
 (.seq (.seq (.reg [⟨(some 9), .mv (.t 0), none⟩,
  ⟨(some 10), .len (.t 9), none⟩,
  ⟨(some 11), .mv (.k (D.int .i64 (0))), none⟩])
 (.block 0 (.loop [(0, ⟨false, 0, false⟩), (3, ⟨false, 0, false⟩), (9, ⟨false, 0, false⟩), (10, ⟨false, 0, false⟩), (11, ⟨false, 0, false⟩)]
 (.seq (.reg [⟨(some 12), .bin .lss (.t 11) (.t 10), none⟩])
 (.seq (.cond (.t 12)
 .skip
 (.exit 0))
 (.seq (.block 1 (.seq (.reg [⟨(some 13), .ixs 1 (.t 9) (.t 11), none⟩,
  ⟨(some 14), .load false 1 (.t 13), none⟩,
  ⟨(some 5), .mv (.t 14), none⟩])
 (.seq (.reg [⟨(some 15), .mv (.t 3), none⟩,
  ⟨(some 16), .mv (.t 5), none⟩,
  ⟨(some 17), .len (.t 16), none⟩,
  ⟨(some 18), .bin .add (.t 15) (.t 17), none⟩,
  ⟨(some 3), .mv (.t 18), none⟩])
 (.seq (.reg [⟨(some 19), .mv (.t 3), none⟩,
  ⟨(some 20), .bin .lss (.t 19) (.k (D.int .i64 (0))), none⟩])
 (.cond (.t 20)
 (.reg [⟨(some 21), .bad, none⟩,
  ⟨none, .bad, none⟩])
 .skip)))))
 (.reg [⟨(some 22), .bin .add (.t 11) (.k (D.int .i64 (1))), none⟩,
  ⟨(some 11), .mv (.t 22), none⟩])))))))
 (.seq (.reg [⟨(some 23), .mv (.t 3), none⟩,
  ⟨(some 24), .call false 459 [(.k .sn), (.t 23)], none⟩,
  ⟨(some 6), .mv (.t 24), none⟩])
 (.seq (.seq (.reg [⟨(some 25), .mv (.t 0), none⟩,
  ⟨(some 26), .len (.t 25), none⟩,
  ⟨(some 27), .mv (.k (D.int .i64 (0))), none⟩])
 (.block 2 (.loop [(25, ⟨false, 0, false⟩), (26, ⟨false, 0, false⟩), (27, ⟨false, 0, false⟩), (6, ⟨true, 5, false⟩)]
 (.seq (.reg [⟨(some 28), .bin .lss (.t 27) (.t 26), none⟩])
 (.seq (.cond (.t 28)
 .skip
 (.exit 2))
 (.seq (.block 3 (.seq (.reg [⟨(some 29), .ixs 1 (.t 25) (.t 27), none⟩,
  ⟨(some 30), .load false 1 (.t 29), none⟩,
  ⟨(some 8), .mv (.t 30), none⟩])
 (.reg [⟨(some 31), .mv (.t 6), none⟩,
  ⟨(some 32), .mv (.t 8), none⟩,
  ⟨(some 33), .append 5 40 (.t 31) (.t 32), none⟩,
  ⟨(some 6), .mv (.t 33), none⟩])))
 (.reg [⟨(some 34), .bin .add (.t 27) (.k (D.int .i64 (1))), none⟩,
  ⟨(some 27), .mv (.t 34), none⟩])))))))
 (.seq (.reg [⟨(some 35), .mv (.t 6), none⟩,
  ⟨(some 2), .mv (.t 35), none⟩])
 .ret))))))⟩
def a140 : Ann := ⟨[], [⟨false, 0, false⟩], []⟩
def s140 : SFun := ⟨5, 54, [], [(.cell 10 true 3, ⟨false, 0, false⟩)],
 (.seq (.reg [⟨(some 5), .box 3 (.t 0), none⟩,
  ⟨(some 9), .box 3 (.t 4), none⟩,
  ⟨(some 10), .alloc [(D.int .i64 (0)), (D.int .i64 (0)), .sn], none⟩])
 (.seq (.seq (.reg [⟨(some 15), .load true 3 (.t 5), none⟩,
  ⟨(some 16), .mv (.t 1), none⟩,
  ⟨(some 17), .mv (.t 2), none⟩,
  ⟨(some 18), .call false 149 [(.t 15), (.t 16), (.t 17)], none⟩,
  ⟨(some 14), .mv (.t 18), none⟩,
  ⟨(some 19), .ext (.t 14) 0, none⟩,
  ⟨(some 20), .ext (.t 14) 1, none⟩,
  ⟨(some 11), .alloc [(D.int .i32 (0)), (D.int .i64 (0)), (D.int .i64 (0)), (D.int .i64 (0)), (D.int .i64 (0))], none⟩,
  ⟨none, .store 5 (.t 11) (.t 19), none⟩,
  ⟨(some 12), .mv (.t 20), none⟩])
 (.seq (.reg [⟨(some 21), .mv (.t 12), none⟩,
  ⟨(some 22), .una .not (.t 21), none⟩])
 (.cond (.t 22)
 (.seq (.reg [⟨(some 23), .load true 3 (.t 5), none⟩,
  ⟨(some 24), .call false 144 [(.t 23)], none⟩,
  ⟨none, .store 3 (.t 10) (.t 24), none⟩])
 .ret)
 .skip)))
 (.seq (.reg [⟨(some 25), .load true 3 (.t 5), none⟩,
  ⟨(some 26), .mv (.t 1), none⟩,
  ⟨(some 27), .mv (.t 2), none⟩,
  ⟨(some 28), .call false 146 [(.t 25), (.t 26), (.t 27)], none⟩,
  ⟨(some 13), .mv (.t 28), none⟩])
 (.seq (.reg [⟨(some 29), .mv (.t 3), none⟩,
  ⟨(some 30), .fad 1 (.t 5), none⟩,
  ⟨(some 31), .load false 1 (.t 30), none⟩,
  ⟨(some 32), .mv (.t 2), none⟩,
  ⟨(some 33), .bin .sub (.t 31) (.t 32), none⟩,
  ⟨(some 34), .mn [(.t 29), (.t 33)], none⟩,
  ⟨(some 35), .mx [(.k (D.int .i64 (0))), (.t 34)], none⟩,
  ⟨(some 3), .mv (.t 35), none⟩])
 (.seq (.dreg [([], false, ⟨(some 36), .load true 3 (.t 5), none⟩),
  ([0], false, ⟨(some 37), .mv (.t 1), none⟩),
  ([0, 1], false, ⟨(some 38), .mv (.t 13), none⟩),
  ([0, 1, 2], false, ⟨(some 39), .mv (.t 2), none⟩),
  ([0, 1], false, ⟨(some 40), .slc 5 (.t 38) none (some (.t 39)), none⟩),
  ([0, 1, 2, 3, 4], false, ⟨(some 41), .mv (.t 3), none⟩),
  ([0, 1, 2, 3, 4, 5], false, ⟨(some 42), .load true 3 (.t 9), none⟩),
  ([0, 1, 2, 3, 4], false, ⟨(some 43), .callr 143 [(.t 41), (.t 42)], none⟩),
  ([0, 1, 2, 3, 4, 5, 6, 7], false, ⟨(some 44), .mv (.t 13), none⟩),
  ([0, 1, 2, 3, 4, 5, 6, 7, 8], false, ⟨(some 45), .mv (.t 2), none⟩),
  ([0, 1, 2, 3, 4, 5, 6, 7, 8, 9], false, ⟨(some 46), .fad 1 (.t 5), none⟩),
  ([0, 1, 2, 3, 4, 5, 6, 7, 8, 9], false, ⟨(some 47), .load false 1 (.t 46), none⟩),
  ([0, 1, 2, 3, 4, 5, 6, 7, 8, 9, 10, 11], false, ⟨(some 48), .mv (.t 3), none⟩),
  ([0, 1, 2, 3, 4, 5, 6, 7, 8, 9], false, ⟨(some 49), .bin .sub (.t 47) (.t 48), none⟩),
  ([0, 1, 2, 3, 4, 5, 6, 7], false, ⟨(some 50), .slc 5 (.t 44) (some (.t 45)) (some (.t 49)), none⟩),
  ([0, 1], false, ⟨(some 51), .bsl false 1 3 [.sn] [(0, (.t 40)), (1, (.t 43)), (2, (.t 50))], none⟩),
  ([0, 1], false, ⟨(some 52), .callr 452 [(.t 51)], none⟩),
  ([], true, ⟨(some 53), .call false 148 [(.t 36), (.t 37), (.t 52)], none⟩),
  ([], true, ⟨none, .store 3 (.t 10) (.t 53), none⟩)])
 .ret)))))⟩
def a137 : Ann := ⟨[], [⟨false, 0, false⟩], []⟩
def s137 : SFun := ⟨5, 52, [], [(.cell 10 true 3, ⟨false, 0, false⟩)],
 (.seq (.reg [⟨(some 5), .box 3 (.t 0), none⟩,
  ⟨(some 9), .box 3 (.t 4), none⟩,
  ⟨(some 10), .alloc [(D.int .i64 (0)), (D.int .i64 (0)), .sn], none⟩])
 (.seq (.seq (.reg [⟨(some 15), .load true 3 (.t 5), none⟩,
  ⟨(some 16), .mv (.t 1), none⟩,
  ⟨(some 17), .mv (.t 2), none⟩,
  ⟨(some 18), .call false 149 [(.t 15), (.t 16), (.t 17)], none⟩,
  ⟨(some 14), .mv (.t 18), none⟩,
  ⟨(some 19), .ext (.t 14) 0, none⟩,
  ⟨(some 20), .ext (.t 14) 1, none⟩,
  ⟨(some 11), .alloc [(D.int .i32 (0)), (D.int .i64 (0)), (D.int .i64 (0)), (D.int .i64 (0)), (D.int .i64 (0))], none⟩,
  ⟨none, .store 5 (.t 11) (.t 19), none⟩,
  ⟨(some 12), .mv (.t 20), none⟩])
 (.seq (.reg [⟨(some 21), .mv (.t 12), none⟩,
  ⟨(some 22), .una .not (.t 21), none⟩])
 (.cond (.t 22)
 (.seq (.reg [⟨(some 23), .load true 3 (.t 5), none⟩,
  ⟨(some 24), .call false 144 [(.t 23)], none⟩,
  ⟨none, .store 3 (.t 10) (.t 24), none⟩])
 .ret)
 .skip)))
 (.seq (.reg [⟨(some 25), .load true 3 (.t 5), none⟩,
  ⟨(some 26), .mv (.t 1), none⟩,
  ⟨(some 27), .mv (.t 2), none⟩,
  ⟨(some 28), .call false 146 [(.t 25), (.t 26), (.t 27)], none⟩,
  ⟨(some 13), .mv (.t 28), none⟩])
 (.seq (.reg [⟨(some 29), .mv (.t 3), none⟩,
  ⟨(some 30), .fad 1 (.t 5), none⟩,
  ⟨(some 31), .load false 1 (.t 30), none⟩,
  ⟨(some 32), .mv (.t 2), none⟩,
  ⟨(some 33), .bin .sub (.t 31) (.t 32), none⟩,
  ⟨(some 34), .mn [(.t 29), (.t 33)], none⟩,
  ⟨(some 35), .mx [(.k (D.int .i64 (0))), (.t 34)], none⟩,
  ⟨(some 3), .mv (.t 35), none⟩])
 (.seq (.dreg [([], false, ⟨(some 36), .load true 3 (.t 5), none⟩),
  ([0], false, ⟨(some 37), .mv (.t 1), none⟩),
  ([0, 1], false, ⟨(some 38), .mv (.t 13), none⟩),
  ([0, 1, 2], false, ⟨(some 39), .mv (.t 2), none⟩),
  ([0, 1], false, ⟨(some 40), .slc 5 (.t 38) none (some (.t 39)), none⟩),
  ([0, 1, 2, 3, 4], false, ⟨(some 41), .mv (.t 13), none⟩),
  ([0, 1, 2, 3, 4, 5], false, ⟨(some 42), .mv (.t 2), none⟩),
  ([0, 1, 2, 3, 4, 5, 6], false, ⟨(some 43), .mv (.t 3), none⟩),
  ([0, 1, 2, 3, 4, 5], false, ⟨(some 44), .bin .add (.t 42) (.t 43), none⟩),
  ([0, 1, 2, 3, 4], false, ⟨(some 45), .slc 5 (.t 41) (some (.t 44)) none, none⟩),
  ([0, 1, 2, 3, 4, 5, 6, 7, 8, 9], false, ⟨(some 46), .mv (.t 3), none⟩),
  ([0, 1, 2, 3, 4, 5, 6, 7, 8, 9, 10], false, ⟨(some 47), .load true 3 (.t 9), none⟩),
  ([0, 1, 2, 3, 4, 5, 6, 7, 8, 9], false, ⟨(some 48), .callr 143 [(.t 46), (.t 47)], none⟩),
  ([0, 1], false, ⟨(some 49), .bsl false 1 3 [.sn] [(0, (.t 40)), (1, (.t 45)), (2, (.t 48))], none⟩),
  ([0, 1], false, ⟨(some 50), .callr 452 [(.t 49)], none⟩),
  ([], true, ⟨(some 51), .call false 148 [(.t 36), (.t 37), (.t 50)], none⟩),
  ([], true, ⟨none, .store 3 (.t 10) (.t 51), none⟩)])
 .ret)))))⟩
def a403 : Ann := ⟨[], [⟨false, 0, false⟩], []⟩
def s403 : SFun := ⟨2, 76, [], [(.cell 4 true 29, ⟨false, 0, false⟩)],
 (.seq (.reg [⟨(some 2), .box 29 (.t 0), none⟩,
  ⟨(some 3), .box 7 (.t 1), none⟩,
  ⟨(some 4), .alloc [(D.int .i64 (0)), (D.int .i64 (0)), .sn, (D.int .i64 (0)), (D.int .i64 (0)), (D.bool false), (D.int .i64 (0)), (D.int .i64 (0)), (D.int .i64 (0)), (D.int .i64 (0)), (D.int .i64 (0)), (D.int .u64 (0)), (D.int .u8 (0)), (D.int .u8 (0)), (D.int .i64 (0)), (D.bool false), (D.bool false), (D.bool false), (D.bool false), (D.bool false), (D.int .i64 (0)), (D.int .i64 (0)), (D.int .i64 (0)), (D.int .i64 (0)), (D.int .i64 (0)), (D.int .u8 (0)), (D.int .u8 (0)), (D.int .i64 (0)), (D.bool false)], none⟩])
 (.seq (.dreg [([], false, ⟨(some 9), .load true 7 (.t 3), none⟩),
  ([], false, ⟨(some 10), .call true 411 [(.t 9), (.k (D.int .i64 (0)))], none⟩),
  ([0, 1], false, ⟨(some 11), .load true 7 (.t 3), none⟩),
  ([], false, ⟨(some 12), .call true 381 [(.t 11), (.k (D.int .i64 (0))), (.k (D.int .i64 (0))), (.k (D.int .i64 (0))), (.k (D.int .i64 (65535)))], none⟩),
  ([0, 1, 2, 3], false, ⟨(some 13), .load true 29 (.t 2), none⟩),
  ([], false, ⟨(some 14), .call true 371 [(.t 13)], none⟩),
  ([0, 1, 2, 3, 4, 5], false, ⟨(some 7), .alloc [(D.int .i64 (0)), (D.int .i64 (0)), (D.int .i64 (0))], none⟩),
  ([], true, ⟨(some 5), .mv (.t 10), none⟩),
  ([], true, ⟨(some 6), .mv (.t 12), none⟩),
  ([], true, ⟨none, .store 3 (.t 7) (.t 14), none⟩)])
 (.seq (.reg [⟨(some 15), .fad 0 (.t 2), none⟩,
  ⟨(some 16), .load true 3 (.t 15), none⟩,
  ⟨(some 8), .alloc [(D.int .i64 (0)), (D.int .i64 (0)), .sn], none⟩,
  ⟨none, .store 3 (.t 8) (.t 16), none⟩])
 (.seq (.seq (.reg [⟨(some 17), .fad 4 (.t 3), none⟩,
  ⟨(some 18), .load false 1 (.t 17), none⟩])
 (.block 0 (.seq (.reg [⟨(some 20), .bin .eql (.t 18) (.k (D.int .u8 (74))), none⟩,
  ⟨(some 19), .mv (.t 20), none⟩])
 (.cond (.t 19)
 (.reg [⟨(some 21), .load true 3 (.t 8), none⟩,
  ⟨(some 22), .fad 3 (.t 2), none⟩,
  ⟨(some 23), .load false 1 (.t 22), none⟩,
  ⟨(some 24), .fad 4 (.t 2), none⟩,
  ⟨(some 25), .load false 1 (.t 24), none⟩,
  ⟨(some 26), .mv (.t 6), none⟩,
  ⟨(some 27), .load true 3 (.t 7), none⟩,
  ⟨(some 28), .call false 139 [(.t 21), (.t 23), (.t 25), (.t 26), (.t 27)], none⟩,
  ⟨none, .store 3 (.t 8) (.t 28), none⟩])
 (.seq (.reg [⟨(some 30), .bin .eql (.t 18) (.k (D.int .u8 (75))), none⟩,
  ⟨(some 29), .mv (.t 30), none⟩])
 (.cond (.t 29)
 (.reg [⟨(some 31), .load true 3 (.t 8), none⟩,
  ⟨(some 32), .fad 3 (.t 2), none⟩,
  ⟨(some 33), .load false 1 (.t 32), none⟩,
  ⟨(some 34), .fad 4 (.t 2), none⟩,
  ⟨(some 35), .load false 1 (.t 34), none⟩,
  ⟨(some 36), .mv (.t 6), none⟩,
  ⟨(some 37), .load true 3 (.t 7), none⟩,
  ⟨(some 38), .call false 141 [(.t 31), (.t 33), (.t 35), (.t 36), (.t 37)], none⟩,
  ⟨none, .store 3 (.t 8) (.t 38), none⟩])
 (.seq (.reg [⟨(some 40), .bin .eql (.t 18) (.k (D.int .u8 (64))), none⟩,
  ⟨(some 39), .mv (.t 40), none⟩])
 (.cond (.t 39)
 (.reg [⟨(some 41), .load true 3 (.t 8), none⟩,
  ⟨(some 42), .fad 3 (.t 2), none⟩,
  ⟨(some 43), .load false 1 (.t 42), none⟩,
  ⟨(some 44), .fad 4 (.t 2), none⟩,
  ⟨(some 45), .load false 1 (.t 44), none⟩,
  ⟨(some 46), .mv (.t 5), none⟩,
  ⟨(some 47), .load true 3 (.t 7), none⟩,
  ⟨(some 48), .call false 140 [(.t 41), (.t 43), (.t 45), (.t 46), (.t 47)], none⟩,
  ⟨none, .store 3 (.t 8) (.t 48), none⟩])
 (.seq (.reg [⟨(some 50), .bin .eql (.t 18) (.k (D.int .u8 (80))), none⟩,
  ⟨(some 49), .mv (.t 50), none⟩])
 (.cond (.t 49)
 (.reg [⟨(some 51), .load true 3 (.t 8), none⟩,
  ⟨(some 52), .fad 3 (.t 2), none⟩,
  ⟨(some 53), .load false 1 (.t 52), none⟩,
  ⟨(some 54), .fad 4 (.t 2), none⟩,
  ⟨(some 55), .load false 1 (.t 54), none⟩,
  ⟨(some 56), .mv (.t 5), none⟩,
  ⟨(some 57), .load true 3 (.t 7), none⟩,
  ⟨(some 58), .call false 137 [(.t 51), (.t 53), (.t 55), (.t 56), (.t 57)], none⟩,
  ⟨none, .store 3 (.t 8) (.t 58), none⟩])
 (.seq (.reg [⟨(some 60), .bin .eql (.t 18) (.k (D.int .u8 (88))), none⟩,
  ⟨(some 59), .mv (.t 60), none⟩])
 (.cond (.t 59)
 (.reg [⟨(some 61), .load true 3 (.t 8), none⟩,
  ⟨(some 62), .fad 3 (.t 2), none⟩,
  ⟨(some 63), .load false 1 (.t 62), none⟩,
  ⟨(some 64), .fad 4 (.t 2), none⟩,
  ⟨(some 65), .load false 1 (.t 64), none⟩,
  ⟨(some 66), .fad 4 (.t 2), none⟩,
  ⟨(some 67), .load false 1 (.t 66), none⟩,
  ⟨(some 68), .mv (.t 5), none⟩,
  ⟨(some 69), .bin .add (.t 67) (.t 68), none⟩,
  ⟨(some 70), .load true 3 (.t 7), none⟩,
  ⟨(some 71), .call false 157 [(.t 61), (.t 63), (.t 65), (.t 69), (.t 70)], none⟩,
  ⟨none, .store 3 (.t 8) (.t 71), none⟩])
 .skip))))))))))))
 (.seq (.reg [⟨(some 72), .load true 3 (.t 8), none⟩,
  ⟨(some 73), .fad 0 (.t 2), none⟩,
  ⟨none, .store 3 (.t 73) (.t 72), none⟩,
  ⟨(some 74), .fad 5 (.t 2), none⟩,
  ⟨none, .store 1 (.t 74) (.k (D.bool false)), none⟩])
 (.seq (.reg [⟨(some 75), .load true 29 (.t 2), none⟩,
  ⟨none, .store 29 (.t 4) (.t 75), none⟩])
 .ret))))))⟩
def a414 : Ann := ⟨[], [⟨false, 0, false⟩], []⟩
def s414 : SFun := ⟨2, 77, [], [(.cell 4 true 29, ⟨false, 0, false⟩)],
 (.seq (.reg [⟨(some 2), .box 29 (.t 0), none⟩,
  ⟨(some 3), .box 7 (.t 1), none⟩,
  ⟨(some 4), .alloc [(D.int .i64 (0)), (D.int .i64 (0)), .sn, (D.int .i64 (0)), (D.int .i64 (0)), (D.bool false), (D.int .i64 (0)), (D.int .i64 (0)), (D.int .i64 (0)), (D.int .i64 (0)), (D.int .i64 (0)), (D.int .u64 (0)), (D.int .u8 (0)), (D.int .u8 (0)), (D.int .i64 (0)), (D.bool false), (D.bool false), (D.bool false), (D.bool false), (D.bool false), (D.int .i64 (0)), (D.int .i64 (0)), (D.int .i64 (0)), (D.int .i64 (0)), (D.int .i64 (0)), (D.int .u8 (0)), (D.int .u8 (0)), (D.int .i64 (0)), (D.bool false)], none⟩])
 (.seq (.dreg [([], false, ⟨(some 7), .load true 7 (.t 3), none⟩),
  ([], false, ⟨(some 8), .call true 411 [(.t 7), (.k (D.int .i64 (0)))], none⟩),
  ([0, 1], false, ⟨(some 9), .load true 29 (.t 2), none⟩),
  ([], false, ⟨(some 10), .call true 371 [(.t 9)], none⟩),
  ([0, 1, 2, 3], false, ⟨(some 6), .alloc [(D.int .i64 (0)), (D.int .i64 (0)), (D.int .i64 (0))], none⟩),
  ([], true, ⟨(some 5), .mv (.t 8), none⟩),
  ([], true, ⟨none, .store 3 (.t 6) (.t 10), none⟩)])
 (.seq (.seq (.reg [⟨(some 11), .fad 4 (.t 3), none⟩,
  ⟨(some 12), .load false 1 (.t 11), none⟩])
 (.block 0 (.seq (.reg [⟨(some 14), .bin .eql (.t 12) (.k (D.int .u8 (83))), none⟩,
  ⟨(some 13), .mv (.t 14), none⟩])
 (.cond (.t 13)
 (.seq (.reg [⟨(some 15), .fad 0 (.t 2), none⟩,
  ⟨(some 16), .load true 3 (.t 15), none⟩,
  ⟨(some 17), .fad 6 (.t 2), none⟩,
  ⟨(some 18), .load false 1 (.t 17), none⟩,
  ⟨(some 19), .fad 7 (.t 2), none⟩,
  ⟨(some 20), .load false 1 (.t 19), none⟩,
  ⟨(some 21), .mv (.t 5), none⟩,
  ⟨(some 22), .load true 3 (.t 6), none⟩,
  ⟨(some 23), .call false 142 [(.t 16), (.t 18), (.t 20), (.t 21), (.t 22)], none⟩,
  ⟨(some 24), .fad 0 (.t 2), none⟩,
  ⟨none, .store 3 (.t 24) (.t 23), none⟩])
 (.seq (.reg [⟨(some 25), .load true 29 (.t 2), none⟩,
  ⟨none, .store 29 (.t 4) (.t 25), none⟩])
 .ret))
 (.seq (.reg [⟨(some 27), .bin .eql (.t 12) (.k (D.int .u8 (84))), none⟩,
  ⟨(some 26), .mv (.t 27), none⟩])
 (.cond (.t 26)
 (.seq (.reg [⟨(some 28), .fad 0 (.t 2), none⟩,
  ⟨(some 29), .load true 3 (.t 28), none⟩,
  ⟨(some 30), .fad 6 (.t 2), none⟩,
  ⟨(some 31), .load false 1 (.t 30), none⟩,
  ⟨(some 32), .fad 7 (.t 2), none⟩,
  ⟨(some 33), .load false 1 (.t 32), none⟩,
  ⟨(some 34), .mv (.t 5), none⟩,
  ⟨(some 35), .load true 3 (.t 6), none⟩,
  ⟨(some 36), .call false 138 [(.t 29), (.t 31), (.t 33), (.t 34), (.t 35)], none⟩,
  ⟨(some 37), .fad 0 (.t 2), none⟩,
  ⟨none, .store 3 (.t 37) (.t 36), none⟩])
 (.seq (.reg [⟨(some 38), .load true 29 (.t 2), none⟩,
  ⟨none, .store 29 (.t 4) (.t 38), none⟩])
 .ret))
 .skip))))))
 (.seq (.seq (.reg [⟨(some 39), .fad 3 (.t 2), none⟩,
  ⟨(some 40), .load false 1 (.t 39), none⟩,
  ⟨(some 41), .fad 6 (.t 2), none⟩,
  ⟨(some 42), .load false 1 (.t 41), none⟩,
  ⟨(some 43), .bin .lss (.t 40) (.t 42), none⟩,
  ⟨(some 44), .mv (.t 43), none⟩,
  ⟨(some 45), .fad 3 (.t 2), (some (44, false))⟩,
  ⟨(some 46), .load false 1 (.t 45), (some (44, false))⟩,
  ⟨(some 47), .fad 7 (.t 2), (some (44, false))⟩,
  ⟨(some 48), .load false 1 (.t 47), (some (44, false))⟩,
  ⟨(some 49), .bin .gtr (.t 46) (.t 48), (some (44, false))⟩,
  ⟨(some 50), .pick (.t 44) (.k (D.bool true)) (.t 49), none⟩])
 (.cond (.t 50)
 (.seq (.reg [⟨(some 51), .load true 29 (.t 2), none⟩,
  ⟨none, .store 29 (.t 4) (.t 51), none⟩])
 .ret)
 .skip))
 (.seq (.seq (.reg [⟨(some 52), .fad 4 (.t 3), none⟩,
  ⟨(some 53), .load false 1 (.t 52), none⟩,
  ⟨(some 54), .bin .eql (.t 53) (.k (D.int .u8 (76))), none⟩])
 (.cond (.t 54)
 (.reg [⟨(some 55), .fad 0 (.t 2), none⟩,
  ⟨(some 56), .load true 3 (.t 55), none⟩,
  ⟨(some 57), .fad 3 (.t 2), none⟩,
  ⟨(some 58), .load false 1 (.t 57), none⟩,
  ⟨(some 59), .fad 7 (.t 2), none⟩,
  ⟨(some 60), .load false 1 (.t 59), none⟩,
  ⟨(some 61), .mv (.t 5), none⟩,
  ⟨(some 62), .load true 3 (.t 6), none⟩,
  ⟨(some 63), .call false 138 [(.t 56), (.t 58), (.t 60), (.t 61), (.t 62)], none⟩,
  ⟨(some 64), .fad 0 (.t 2), none⟩,
  ⟨none, .store 3 (.t 64) (.t 63), none⟩])
 (.reg [⟨(some 65), .fad 0 (.t 2), none⟩,
  ⟨(some 66), .load true 3 (.t 65), none⟩,
  ⟨(some 67), .fad 3 (.t 2), none⟩,
  ⟨(some 68), .load false 1 (.t 67), none⟩,
  ⟨(some 69), .fad 7 (.t 2), none⟩,
  ⟨(some 70), .load false 1 (.t 69), none⟩,
  ⟨(some 71), .mv (.t 5), none⟩,
  ⟨(some 72), .load true 3 (.t 6), none⟩,
  ⟨(some 73), .call false 142 [(.t 66), (.t 68), (.t 70), (.t 71), (.t 72)], none⟩,
  ⟨(some 74), .fad 0 (.t 2), none⟩,
  ⟨none, .store 3 (.t 74) (.t 73), none⟩])))
 (.seq (.reg [⟨(some 75), .load true 29 (.t 2), none⟩,
  ⟨(some 76), .call false 404 [(.t 75), (.k (D.int .i64 (0)))], none⟩,
  ⟨none, .store 29 (.t 4) (.t 76), none⟩])
 .ret))))))⟩
def a348 : Ann := ⟨[], [⟨false, 0, false⟩], []⟩
def s348 : SFun := ⟨3, 15, [], [(.tmp 6, ⟨false, 0, false⟩)],
 (.seq (.reg [⟨(some 6), .mv (.k (D.bool false)), none⟩])
 (.seq (.reg [⟨(some 7), .mv (.t 0), none⟩,
  ⟨(some 8), .mv (.t 1), none⟩,
  ⟨(some 9), .bin .geq (.t 7) (.t 8), none⟩,
  ⟨(some 10), .mv (.t 9), none⟩,
  ⟨(some 11), .mv (.t 0), (some (10, true))⟩,
  ⟨(some 12), .mv (.t 2), (some (10, true))⟩,
  ⟨(some 13), .bin .leq (.t 11) (.t 12), (some (10, true))⟩,
  ⟨(some 14), .pick (.t 10) (.t 13) (.k (D.bool false)), none⟩,
  ⟨(some 6), .mv (.t 14), none⟩])
 .ret))⟩
def a343 : Ann := ⟨[], [⟨false, 0, false⟩, ⟨false, 0, false⟩], []⟩
def s343 : SFun := ⟨2, 68, [], [(.tmp 4, ⟨false, 0, false⟩), (.tmp 5, ⟨false, 0, false⟩)],
 (.seq (.reg [⟨(some 4), .mv (.k (D.int .i64 (0))), none⟩,
  ⟨(some 5), .mv (.k (D.int .i64 (0))), none⟩])
 (.seq (.block 0 (.seq (.reg [⟨(some 7), .mv (.t 0), none⟩,
  ⟨(some 8), .len (.t 7), none⟩,
  ⟨(some 9), .bin .geq (.t 8) (.k (D.int .i64 (2))), none⟩,
  ⟨(some 10), .mv (.t 9), none⟩,
  ⟨(some 11), .mv (.t 0), (some (10, true))⟩,
  ⟨(some 12), .ixs 1 (.t 11) (.k (D.int .i64 (0))), (some (10, true))⟩,
  ⟨(some 13), .load false 1 (.t 12), (some (10, true))⟩,
  ⟨(some 14), .bin .eql (.t 13) (.k (D.int .i64 (5))), (some (10, true))⟩,
  ⟨(some 15), .pick (.t 10) (.t 14) (.k (D.bool false)), none⟩,
  ⟨(some 6), .mv (.t 15), none⟩])
 (.cond (.t 6)
 (.seq (.seq (.reg [⟨(some 16), .mv (.t 0), none⟩,
  ⟨(some 17), .ixs 1 (.t 16) (.k (D.int .i64 (1))), none⟩,
  ⟨(some 18), .load false 1 (.t 17), none⟩,
  ⟨(some 19), .call false 348 [(.t 18), (.k (D.int .i64 (0))), (.k (D.int .i64 (255)))], none⟩])
 (.cond (.t 19)
 (.reg [⟨(some 20), .mv (.t 0), none⟩,
  ⟨(some 21), .ixs 1 (.t 20) (.k (D.int .i64 (1))), none⟩,
  ⟨(some 22), .load false 1 (.t 21), none⟩,
  ⟨(some 1), .mv (.t 22), none⟩])
 .skip))
 (.seq (.reg [⟨(some 23), .mv (.t 1), none⟩,
  ⟨(some 4), .mv (.t 23), none⟩,
  ⟨(some 5), .mv (.k (D.int .i64 (2))), none⟩])
 .ret))
 (.seq (.reg [⟨(some 25), .mv (.t 0), none⟩,
  ⟨(some 26), .len (.t 25), none⟩,
  ⟨(some 27), .bin .geq (.t 26) (.k (D.int .i64 (4))), none⟩,
  ⟨(some 28), .mv (.t 27), none⟩,
  ⟨(some 29), .mv (.t 0), (some (28, true))⟩,
  ⟨(some 30), .ixs 1 (.t 29) (.k (D.int .i64 (0))), (some (28, true))⟩,
  ⟨(some 31), .load false 1 (.t 30), (some (28, true))⟩,
  ⟨(some 32), .bin .eql (.t 31) (.k (D.int .i64 (2))), (some (28, true))⟩,
  ⟨(some 33), .pick (.t 28) (.t 32) (.k (D.bool false)), none⟩,
  ⟨(some 24), .mv (.t 33), none⟩])
 (.cond (.t 24)
 (.seq (.seq (.reg [⟨(some 34), .mv (.t 0), none⟩,
  ⟨(some 35), .ixs 1 (.t 34) (.k (D.int .i64 (1))), none⟩,
  ⟨(some 36), .load false 1 (.t 35), none⟩,
  ⟨(some 37), .call false 348 [(.t 36), (.k (D.int .i64 (0))), (.k (D.int .i64 (255)))], none⟩,
  ⟨(some 38), .mv (.t 37), none⟩,
  ⟨(some 39), .mv (.t 0), (some (38, true))⟩,
  ⟨(some 40), .ixs 1 (.t 39) (.k (D.int .i64 (2))), (some (38, true))⟩,
  ⟨(some 41), .load false 1 (.t 40), (some (38, true))⟩,
  ⟨(some 42), .call false 348 [(.t 41), (.k (D.int .i64 (0))), (.k (D.int .i64 (255)))], (some (38, true))⟩,
  ⟨(some 43), .pick (.t 38) (.t 42) (.k (D.bool false)), none⟩,
  ⟨(some 44), .mv (.t 43), none⟩,
  ⟨(some 45), .mv (.t 0), (some (44, true))⟩,
  ⟨(some 46), .ixs 1 (.t 45) (.k (D.int .i64 (3))), (some (44, true))⟩,
  ⟨(some 47), .load false 1 (.t 46), (some (44, true))⟩,
  ⟨(some 48), .call false 348 [(.t 47), (.k (D.int .i64 (0))), (.k (D.int .i64 (255)))], (some (44, true))⟩,
  ⟨(some 49), .pick (.t 44) (.t 48) (.k (D.bool false)), none⟩])
 (.cond (.t 49)
 (.dreg [([], false, ⟨(some 50), .mv (.t 0), none⟩),
  ([], false, ⟨(some 51), .ixs 1 (.t 50) (.k (D.int .i64 (1))), none⟩),
  ([], false, ⟨(some 52), .load false 1 (.t 51), none⟩),
  ([], false, ⟨(some 53), .bin .shl (.t 52) (.k (D.int .u64 (16))), none⟩),
  ([], false, ⟨(some 54), .bin .or (.k (D.int .i64 (16777216))) (.t 53), none⟩),
  ([0, 1, 2, 3, 4], false, ⟨(some 55), .mv (.t 0), none⟩),
  ([0, 1, 2, 3, 4], false, ⟨(some 56), .ixs 1 (.t 55) (.k (D.int .i64 (2))), none⟩),
  ([0, 1, 2, 3, 4], false, ⟨(some 57), .load false 1 (.t 56), none⟩),
  ([0, 1, 2, 3, 4], false, ⟨(some 58), .bin .shl (.t 57) (.k (D.int .u64 (8))), none⟩),
  ([], false, ⟨(some 59), .bin .or (.t 54) (.t 58), none⟩),
  ([0, 1, 2, 3, 4, 5, 6, 7, 8, 9], false, ⟨(some 60), .mv (.t 0), none⟩),
  ([0, 1, 2, 3, 4, 5, 6, 7, 8, 9], false, ⟨(some 61), .ixs 1 (.t 60) (.k (D.int .i64 (3))), none⟩),
  ([0, 1, 2, 3, 4, 5, 6, 7, 8, 9], false, ⟨(some 62), .load false 1 (.t 61), none⟩),
  ([], true, ⟨(some 63), .bin .or (.t 59) (.t 62), none⟩),
  ([], true, ⟨(some 1), .mv (.t 63), none⟩)])
 .skip))
 (.seq (.reg [⟨(some 64), .mv (.t 1), none⟩,
  ⟨(some 4), .mv (.t 64), none⟩,
  ⟨(some 5), .mv (.k (D.int .i64 (4))), none⟩])
 .ret))
 .skip)))))
 (.seq (.reg [⟨(some 65), .mv (.t 1), none⟩,
  ⟨(some 66), .mv (.t 0), none⟩,
  ⟨(some 67), .len (.t 66), none⟩,
  ⟨(some 4), .mv (.t 65), none⟩,
  ⟨(some 5), .mv (.t 67), none⟩])
 .ret)))⟩
def a345 : Ann := ⟨[], [⟨true, 1, false⟩], []⟩
def s345 : SFun := ⟨0, 2, [], [(.tmp 0, ⟨true, 1, false⟩)],
 (.seq (.reg [⟨(some 0), .mv (.k .sn), none⟩])
 (.seq (.reg [⟨(some 1), .bsl true 1 8 [(D.int .i64 (0))] [(0, (.k (D.int .i64 (1)))), (1, (.k (D.int .i64 (2)))), (2, (.k (D.int .i64 (3)))), (3, (.k (D.int .i64 (4)))), (4, (.k (D.int .i64 (5)))), (5, (.k (D.int .i64 (7)))), (6, (.k (D.int .i64 (8)))), (7, (.k (D.int .i64 (9))))], none⟩,
  ⟨(some 0), .mv (.t 1), none⟩])
 .ret))⟩
def a344 : Ann := ⟨[(2, [(0, ⟨false, 0, false⟩), (2, ⟨false, 0, false⟩), (5, ⟨false, 0, false⟩), (6, ⟨false, 0, false⟩), (7, ⟨false, 0, false⟩)])], [⟨false, 0, false⟩], []⟩
def s344 : SFun := ⟨1, 18, [], [(.tmp 2, ⟨false, 0, false⟩)],
 (.seq (.reg [⟨(some 2), .mv (.k (D.int .i64 (0))), none⟩])
 (.seq (.seq (.reg [⟨(some 5), .call false 345 [], none⟩,
  ⟨(some 6), .len (.t 5), none⟩,
  ⟨(some 7), .mv (.k (D.int .i64 (0))), none⟩])
 (.block 0 (.loop [(0, ⟨false, 0, false⟩), (2, ⟨false, 0, false⟩), (5, ⟨false, 0, false⟩), (6, ⟨false, 0, false⟩), (7, ⟨false, 0, false⟩)]
 (.seq (.reg [⟨(some 8), .bin .lss (.t 7) (.t 6), none⟩])
 (.seq (.cond (.t 8)
 .skip
 (.exit 0))
 (.seq (.block 1 (.seq (.reg [⟨(some 9), .mv (.t 7), none⟩,
  ⟨(some 10), .ixs 1 (.t 5) (.t 7), none⟩,
  ⟨(some 11), .load false 1 (.t 10), none⟩,
  ⟨(some 3), .mv (.t 9), none⟩,
  ⟨(some 4), .mv (.t 11), none⟩])
 (.seq (.reg [⟨(some 12), .mv (.t 4), none⟩,
  ⟨(some 13), .mv (.t 0), none⟩,
  ⟨(some 14), .bin .eql (.t 12) (.t 13), none⟩])
 (.cond (.t 14)
 (.seq (.reg [⟨(some 15), .mv (.t 3), none⟩,
  ⟨(some 16), .bin .shl (.k (D.int .i64 (1))) (.t 15), none⟩,
  ⟨(some 2), .mv (.t 16), none⟩])
 .ret)
 .skip))))
 (.reg [⟨(some 17), .bin .add (.t 7) (.k (D.int .i64 (1))), none⟩,
  ⟨(some 7), .mv (.t 17), none⟩])))))))
 (.seq (.reg [⟨(some 2), .mv (.k (D.int .i64 (0))), none⟩])
 .ret)))⟩
def a346 : Ann := ⟨[], [⟨false, 0, false⟩], []⟩
def s346 : SFun := ⟨2, 67, [], [(.cell 4 true 3, ⟨false, 0, false⟩)],
 (.seq (.reg [⟨(some 2), .box 3 (.t 0), none⟩,
  ⟨(some 4), .alloc [(D.int .i64 (0)), (D.int .i64 (0)), (D.int .i64 (0))], none⟩])
 (.seq (.block 0 (.seq (.reg [⟨(some 12), .mv (.t 1), none⟩,
  ⟨(some 13), .bin .eql (.t 12) (.k (D.int .i64 (0))), none⟩,
  ⟨(some 11), .mv (.t 13), none⟩])
 (.cond (.t 11)
 (.seq (.reg [⟨(some 14), .call false 107 [], none⟩,
  ⟨none, .store 3 (.t 4) (.t 14), none⟩])
 .ret)
 (.seq (.reg [⟨(some 16), .mv (.t 1), none⟩,
  ⟨(some 17), .bin .eql (.t 16) (.k (D.int .i64 (22))), none⟩,
  ⟨(some 15), .mv (.t 17), none⟩])
 (.cond (.t 15)
 (.reg [⟨(some 18), .fad 2 (.t 2), none⟩,
  ⟨(some 19), .load false 1 (.t 18), none⟩,
  ⟨(some 20), .bin .andNot (.t 19) (.k (D.int .i64 (3))), none⟩,
  ⟨(some 21), .fad 2 (.t 2), none⟩,
  ⟨none, .store 1 (.t 21) (.t 20), none⟩])
 (.seq (.reg [⟨(some 23), .mv (.t 1), none⟩,
  ⟨(some 24), .call false 348 [(.t 23), (.k (D.int .i64 (23))), (.k (D.int .i64 (29)))], none⟩,
  ⟨(some 22), .mv (.t 24), none⟩])
 (.cond (.t 22)
 (.dreg [([], false, ⟨(some 25), .fad 2 (.t 2), none⟩),
  ([], false, ⟨(some 26), .load false 1 (.t 25), none⟩),
  ([0, 1], false, ⟨(some 27), .mv (.t 1), none⟩),
  ([0, 1], false, ⟨(some 28), .bin .sub (.t 27) (.k (D.int .i64 (20))), none⟩),
  ([0, 1], false, ⟨(some 29), .call true 344 [(.t 28)], none⟩),
  ([], true, ⟨(some 30), .bin .andNot (.t 26) (.t 29), none⟩),
  ([], true, ⟨(some 31), .fad 2 (.t 2), none⟩),
  ([], true, ⟨none, .store 1 (.t 31) (.t 30), none⟩)])
 (.seq (.reg [⟨(some 33), .mv (.t 1), none⟩,
  ⟨(some 34), .call false 348 [(.t 33), (.k (D.int .i64 (30))), (.k (D.int .i64 (37)))], none⟩,
  ⟨(some 32), .mv (.t 34), none⟩])
 (.cond (.t 32)
 (.reg [⟨(some 35), .mv (.t 1), none⟩,
  ⟨(some 36), .bin .sub (.t 35) (.k (D.int .i64 (30))), none⟩,
  ⟨(some 37), .fad 0 (.t 2), none⟩,
  ⟨none, .store 1 (.t 37) (.t 36), none⟩])
 (.seq (.reg [⟨(some 39), .mv (.t 1), none⟩,
  ⟨(some 40), .call false 348 [(.t 39), (.k (D.int .i64 (40))), (.k (D.int .i64 (47)))], none⟩,
  ⟨(some 38), .mv (.t 40), none⟩])
 (.cond (.t 38)
 (.reg [⟨(some 41), .mv (.t 1), none⟩,
  ⟨(some 42), .bin .sub (.t 41) (.k (D.int .i64 (40))), none⟩,
  ⟨(some 43), .fad 1 (.t 2), none⟩,
  ⟨none, .store 1 (.t 43) (.t 42), none⟩])
 (.seq (.reg [⟨(some 45), .mv (.t 1), none⟩,
  ⟨(some 46), .call false 348 [(.t 45), (.k (D.int .i64 (90))), (.k (D.int .i64 (97)))], none⟩,
  ⟨(some 44), .mv (.t 46), none⟩])
 (.cond (.t 44)
 (.reg [⟨(some 47), .mv (.t 1), none⟩,
  ⟨(some 48), .bin .sub (.t 47) (.k (D.int .i64 (90))), none⟩,
  ⟨(some 49), .bin .add (.t 48) (.k (D.int .i64 (8))), none⟩,
  ⟨(some 50), .fad 0 (.t 2), none⟩,
  ⟨none, .store 1 (.t 50) (.t 49), none⟩])
 (.seq (.reg [⟨(some 52), .mv (.t 1), none⟩,
  ⟨(some 53), .call false 348 [(.t 52), (.k (D.int .i64 (100))), (.k (D.int .i64 (107)))], none⟩,
  ⟨(some 51), .mv (.t 53), none⟩])
 (.cond (.t 51)
 (.reg [⟨(some 54), .mv (.t 1), none⟩,
  ⟨(some 55), .bin .sub (.t 54) (.k (D.int .i64 (100))), none⟩,
  ⟨(some 56), .bin .add (.t 55) (.k (D.int .i64 (8))), none⟩,
  ⟨(some 57), .fad 1 (.t 2), none⟩,
  ⟨none, .store 1 (.t 57) (.t 56), none⟩])
 (.seq (.reg [⟨(some 59), .mv (.t 1), none⟩,
  ⟨(some 60), .bin .eql (.t 59) (.k (D.int .i64 (39))), none⟩,
  ⟨(some 58), .mv (.t 60), none⟩])
 (.cond (.t 58)
 (.reg [⟨(some 61), .fad 0 (.t 2), none⟩,
  ⟨none, .store 1 (.t 61) (.k (D.int .i64 (-1))), none⟩])
 (.seq (.reg [⟨(some 63), .mv (.t 1), none⟩,
  ⟨(some 64), .bin .eql (.t 63) (.k (D.int .i64 (49))), none⟩,
  ⟨(some 62), .mv (.t 64), none⟩])
 (.cond (.t 62)
 (.reg [⟨(some 65), .fad 1 (.t 2), none⟩,
  ⟨none, .store 1 (.t 65) (.k (D.int .i64 (-1))), none⟩])
 (.dreg [([], false, ⟨(some 5), .fad 2 (.t 2), none⟩),
  ([], false, ⟨(some 6), .load false 1 (.t 5), none⟩),
  ([0, 1], false, ⟨(some 7), .mv (.t 1), none⟩),
  ([0, 1], false, ⟨(some 8), .call true 344 [(.t 7)], none⟩),
  ([], true, ⟨(some 9), .bin .or (.t 6) (.t 8), none⟩),
  ([], true, ⟨(some 10), .fad 2 (.t 2), none⟩),
  ([], true, ⟨none, .store 1 (.t 10) (.t 9), none⟩)]))))))))))))))))))))
 (.seq (.reg [⟨(some 66), .load true 3 (.t 2), none⟩,
  ⟨none, .store 3 (.t 4) (.t 66), none⟩])
 .ret)))⟩
def a340 : Ann := ⟨[(5, [(17, ⟨false, 0, false⟩), (18, ⟨false, 0, false⟩), (19, ⟨false, 0, false⟩), (2, ⟨true, 0, false⟩), (4, ⟨true, 0, false⟩), (5, ⟨true, 1, false⟩)]), (11, [(5, ⟨false, 0, false⟩), (2, ⟨true, 0, false⟩), (4, ⟨true, 0, false⟩)])], [⟨false, 0, false⟩], []⟩
def s340 : SFun := ⟨2, 70, [], [(.cell 4 true 3, ⟨false, 0, false⟩)],
 (.seq (.reg [⟨(some 2), .box 3 (.t 0), none⟩,
  ⟨(some 4), .alloc [(D.int .i64 (0)), (D.int .i64 (0)), (D.int .i64 (0))], none⟩])
 (.seq (.seq (.reg [⟨(some 10), .mv (.t 1), none⟩,
  ⟨(some 11), .len (.t 10), none⟩,
  ⟨(some 12), .bin .eql (.t 11) (.k (D.int .i64 (0))), none⟩])
 (.cond (.t 12)
 (.seq (.reg [⟨(some 13), .call false 107 [], none⟩,
  ⟨none, .store 3 (.t 4) (.t 13), none⟩])
 .ret)
 .skip))
 (.seq (.reg [⟨(some 14), .mv (.t 1), none⟩,
  ⟨(some 15), .len (.t 14), none⟩,
  ⟨(some 16), .mksl 1 8 [(D.int .i64 (0))] (.t 15), none⟩,
  ⟨(some 5), .mv (.t 16), none⟩])
 (.seq (.seq (.reg [⟨(some 17), .mv (.t 1), none⟩,
  ⟨(some 18), .len (.t 17), none⟩,
  ⟨(some 19), .mv (.k (D.int .i64 (0))), none⟩])
 (.block 0 (.loop [(17, ⟨false, 0, false⟩), (18, ⟨false, 0, false⟩), (19, ⟨false, 0, false⟩), (2, ⟨true, 0, false⟩), (4, ⟨true, 0, false⟩), (5, ⟨true, 1, false⟩)]
 (.seq (.reg [⟨(some 20), .bin .lss (.t 19) (.t 18), none⟩])
 (.seq (.cond (.t 20)
 .skip
 (.exit 0))
 (.seq (.block 1 (.seq (.reg [⟨(some 21), .mv (.t 19), none⟩,
  ⟨(some 22), .ixs 1 (.t 17) (.t 19), none⟩,
  ⟨(some 23), .load false 1 (.t 22), none⟩,
  ⟨(some 6), .mv (.t 21), none⟩,
  ⟨(some 7), .mv (.t 23), none⟩])
 (.seq (.reg [⟨(some 24), .mv (.t 5), none⟩,
  ⟨(some 25), .mv (.t 6), none⟩,
  ⟨(some 26), .mv (.t 7), none⟩,
  ⟨(some 27), .ixs 1 (.t 24) (.t 25), none⟩,
  ⟨none, .store 1 (.t 27) (.t 26), none⟩])
 (.seq (.reg [⟨(some 28), .mv (.t 7), none⟩,
  ⟨(some 29), .bin .eql (.t 28) (.k (D.int .i64 (-1))), none⟩])
 (.cond (.t 29)
 (.reg [⟨(some 30), .mv (.t 5), none⟩,
  ⟨(some 31), .mv (.t 6), none⟩,
  ⟨(some 32), .ixs 1 (.t 30) (.t 31), none⟩,
  ⟨none, .store 1 (.t 32) (.k (D.int .i64 (0))), none⟩])
 .skip)))))
 (.reg [⟨(some 33), .bin .add (.t 19) (.k (D.int .i64 (1))), none⟩,
  ⟨(some 19), .mv (.t 33), none⟩])))))))
 (.seq (.block 2 (.loop [(5, ⟨false, 0, false⟩), (2, ⟨true, 0, false⟩), (4, ⟨true, 0, false⟩)]
 (.seq (.seq (.reg [⟨(some 34), .mv (.t 5), none⟩,
  ⟨(some 35), .len (.t 34), none⟩,
  ⟨(some 36), .bin .gtr (.t 35) (.k (D.int .i64 (0))), none⟩])
 (.cond (.t 36)
 .skip
 (.exit 2)))
 (.block 3 (.seq (.reg [⟨(some 37), .mv (.t 5), none⟩,
  ⟨(some 38), .ixs 1 (.t 37) (.k (D.int .i64 (0))), none⟩,
  ⟨(some 39), .load false 1 (.t 38), none⟩,
  ⟨(some 8), .mv (.t 39), none⟩,
  ⟨(some 9), .mv (.k (D.int .i64 (0))), none⟩])
 (.seq (.reg [⟨(some 40), .mv (.t 5), none⟩,
  ⟨(some 41), .slc 1 (.t 40) (some (.k (D.int .i64 (1)))) none, none⟩,
  ⟨(some 5), .mv (.t 41), none⟩])
 (.seq (.seq (.reg [⟨(some 42), .mv (.t 8), none⟩])
 (.block 4 (.seq (.reg [⟨(some 47), .bin .eql (.t 42) (.k (D.int .i64 (38))), none⟩,
  ⟨(some 46), .mv (.t 47), none⟩])
 (.cond (.t 46)
 (.reg [⟨(some 49), .mv (.t 5), none⟩,
  ⟨(some 50), .fad 0 (.t 2), none⟩,
  ⟨(some 51), .load false 1 (.t 50), none⟩,
  ⟨(some 52), .call false 343 [(.t 49), (.t 51)], none⟩,
  ⟨(some 48), .mv (.t 52), none⟩,
  ⟨(some 53), .ext (.t 48) 0, none⟩,
  ⟨(some 54), .ext (.t 48) 1, none⟩,
  ⟨(some 55), .fad 0 (.t 2), none⟩,
  ⟨none, .store 1 (.t 55) (.t 53), none⟩,
  ⟨(some 9), .mv (.t 54), none⟩])
 (.seq (.reg [⟨(some 57), .bin .eql (.t 42) (.k (D.int .i64 (48))), none⟩,
  ⟨(some 56), .mv (.t 57), none⟩])
 (.cond (.t 56)
 (.reg [⟨(some 59), .mv (.t 5), none⟩,
  ⟨(some 60), .fad 1 (.t 2), none⟩,
  ⟨(some 61), .load false 1 (.t 60), none⟩,
  ⟨(some 62), .call false 343 [(.t 59), (.t 61)], none⟩,
  ⟨(some 58), .mv (.t 62), none⟩,
  ⟨(some 63), .ext (.t 58) 0, none⟩,
  ⟨(some 64), .ext (.t 58) 1, none⟩,
  ⟨(some 65), .fad 1 (.t 2), none⟩,
  ⟨none, .store 1 (.t 65) (.t 63), none⟩,
  ⟨(some 9), .mv (.t 64), none⟩])
 (.reg [⟨(some 43), .load true 3 (.t 2), none⟩,
  ⟨(some 44), .mv (.t 8), none⟩,
  ⟨(some 45), .call false 346 [(.t 43), (.t 44)], none⟩,
  ⟨none, .store 3 (.t 2) (.t 45), none⟩])))))))
 (.reg [⟨(some 66), .mv (.t 5), none⟩,
  ⟨(some 67), .mv (.t 9), none⟩,
  ⟨(some 68), .slc 1 (.t 66) (some (.t 67)) none, none⟩,
  ⟨(some 5), .mv (.t 68), none⟩]))))))))
 (.seq (.reg [⟨(some 69), .load true 3 (.t 2), none⟩,
  ⟨none, .store 3 (.t 4) (.t 69), none⟩])
 .ret))))))⟩
end Go.Proofs.YtbpaojgkkggcgadGreat.LgTTargetRuns
