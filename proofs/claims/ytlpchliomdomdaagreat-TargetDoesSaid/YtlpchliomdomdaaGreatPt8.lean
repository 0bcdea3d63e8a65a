import Derived.Test.YtlpchliomdomdaaGreatRows
import Derived.Test.YtlpchliomdomdaaGreatPt3
import Derived.Lib.Join
import Derived.Lib.Bytealg
import Derived.Test.YtlpchliomdomdaaGreatPt5
import Derived.Lib.RuneBytes
import Derived.RowKit
namespace Go.Proofs.YtlpchliomdomdaaGreat.LgTab
open Go Lg
set_option maxRecDepth 100000
set_option linter.defProp false
section
open Lg.Vo
def z0 : List D := [(i 0),(i 0),.sn,(i 0),(i 0),f,(i 0),(i 0),(i 0),(i 0),(i 0),(q 0),(u 0),(u 0),(i 0),f,f,f,f,f,(i 0),(i 0),(i 0),(i 0),(i 0),(u 0),(u 0),(i 0),f]
def z1 : List D := [(i 0),(i 0),(i 0),(i 0),(i 0),(u 0),(u 0),(i 0),f]
def z2 : List D := [(i 0),(i 0),(i 0),(i 0),.sn,f,(u 0),.sn,f,f,.sn,f]
def z3 : List D := [(r 0),(i 0),(i 0),(i 0),(i 0)]
def z4 : List D := [(i 0),(i 0),(u 0),(u 0),(u 0)]
def z5 : List D := [(i 0),(i 0),.sn,(i 0),(i 0),f]
def a174 : Ann := ⟨[],[m],[],[]⟩
def s174 : SFun := ⟨3,24,[],[(.tmp 6,m)],
 (rg [mk 6 (i 0)]
 (rg [mv 7 0,mv 8 2,mv 9 1,bn 10 .sub 8 9,bk 11 .add 10 (i 1),bn 12 .rem 7 11,mv 0 12]
 (.seq (rg [mv 13 0,bk 14 .lss 13 (i 0)]
 (.cond (.t 14)
 (.reg [mv 15 0,mv 16 2,bn 17 .add 15 16,mv 18 1,bn 19 .sub 17 18,bk 20 .add 19 (i 1),mv 0 20])
 .skip))
 (rg [mv 21 1,mv 22 0,bn 23 .add 21 22,mv 6 23]
 .ret))))⟩
def a181 : Ann := ⟨[],[m],[],[]⟩
def s181 : SFun := ⟨2,15,[],[(.tmp 4,m)],
 (rg [mk 4 (i 0)]
 (.seq (rg [mv 5 0,ln 6 5,bk 7 .eql 6 (i 0)]
 (.cond (.t 7)
 (rg [mk 4 (i 0)]
 .ret)
 .skip))
 (rg [mv 8 0,mv 9 1,mv 10 0,ln 11 10,bn 12 .rem 9 11,ix 13 1 8 12,ld 14 1 13,mv 4 14]
 .ret)))⟩
def a180 : Ann := ⟨[],[m],[],[]⟩
def s180 : SFun := ⟨1,21,[],[(.tmp 2,m)],
 (rg [mk 2 (i 0)]
 (.seq (rg [mv 3 0,cl 4 174 [(.t 3),(c 0),(c 3)]]
 (.block 0 (rg [bk 6 .eql 4 (i 0),mv 5 6]
 (.cond (.t 5)
 (rg [mk 2 (i (-1))]
 .ret)
 (rg [bk 8 .eql 4 (i 1),mv 7 8]
 (.cond (.t 7)
 (rg [mv 9 0,bk 10 .quo 9 (i 4),cl 11 174 [(.t 10),(c 0),(c 15)],mv 2 11]
 .ret)
 (rg [bk 13 .eql 4 (i 2),mv 12 13]
 (.cond (.t 12)
 (rg [mv 14 0,bk 15 .quo 14 (i 4),cl 16 174 [(.t 15),(c 0),(c 255)],mv 2 16]
 .ret)
 .skip))))))))
 (rg [mv 17 0,bk 18 .quo 17 (i 4),cl 19 174 [(.t 18),(c 0),(c 16777215)],o 20 (.bin .add (c 16777216) (.t 19)),mv 2 20]
 .ret)))⟩
def a65 : Ann := ⟨[],[m],[],[]⟩
def s65 : SFun := ⟨1,13,[],[(.cell 2 true 3,m)],
 (rg [bx 1 3 0,al 2 [(i 0),(i 0),(i 0)]]
 (.seq (.dreg [([],false,fa 3 0 1),([],false,ld 4 1 3),([],false,o 5 (.callr 180 [(.t 4)])),([0,1,2],false,fa 6 1 1),([0,1,2],false,ld 7 1 6),([],false,o 8 (.callr 180 [(.t 7)])),([0,1,2,3,4,5],false,fa 9 2 1),([0,1,2,3,4,5],false,ld 10 1 9),([],true,cl 11 174 [(.t 10),(c 0),(c 255)]),([],true,o 12 (.build [(i 0),(i 0),(i 0)] [(0,1,(.t 5)),(1,1,(.t 8)),(2,1,(.t 11))])),([],true,st 3 2 12)])
 .ret))⟩
def a64 : Ann := ⟨[(4,[(3,m),(4,m),(6,m),(1,⟨true,0,false⟩),(2,⟨true,0,false⟩),(5,⟨true,0,false⟩)])],[m],[],[]⟩
def s64 : SFun := ⟨1,79,[],[(.cell 2 true 3,m)],
 (rg [bx 1 4 0,al 2 [(i 0),(i 0),.sn]]
 (.seq (.dreg [([],false,fa 10 0 1),([],false,ld 11 1 10),([],false,o 12 (.call true 174 [(.t 11),(c 1),(c 5)])),([0,1,2],false,fa 13 1 1),([0,1,2],false,ld 14 1 13),([],true,cl 15 174 [(.t 14),(c 1),(c 9)]),([],true,mv 3 12),([],true,mv 4 15)])
 (rg [mv 16 3,mv 17 4,o 18 (.build [(i 0),(i 0),.sn] [(0,1,(.t 16)),(1,1,(.t 17))]),al 5 [(i 0),(i 0),.sn],st 3 5 18]
 (.seq (rg [mk 6 (i 0)]
 (.block 0 (.loop [(3,m),(4,m),(6,m),(1,⟨true,0,false⟩),(2,⟨true,0,false⟩),(5,⟨true,0,false⟩)]
 (.seq (rg [mv 19 6,mv 20 3,mv 21 4,bn 22 .mul 20 21,bn 23 .lss 19 22]
 (.cond (.t 23)
 .skip
 (.exit 0)))
 (.seq (.block 1 (rg [fa 26 2 1,ld 27 1 26,mv 28 6,cl 29 181 [(.t 27),(.t 28)],mv 7 29]
 (rg [fa 30 3 1,ld 31 1 30,mv 32 6,bk 33 .quo 32 (i 3),cl 34 181 [(.t 31),(.t 33)],mv 8 34]
 (rg [mv 35 8,mv 36 8,bk 37 .quo 36 (i 16),mv 38 8,bk 39 .quo 38 (i 64),o 40 (.build [(i 0),(i 0),(i 0)] [(0,1,(.t 35)),(1,1,(.t 37)),(2,1,(.t 39))]),cl 41 65 [(.t 40)],al 9 [(i 0),(i 0),(i 0)],st 3 9 41]
 (.seq (rg [mv 42 7,bk 43 .rem 42 (i 5),bk 44 .eql 43 (i 4),mv 45 44,g 46 (.mv (.t 6)) 45 true,g 47 (.bin .add (.t 46) (c 1)) 45 true,g 48 (.mv (.t 4)) 45 true,g 49 (.bin .rem (.t 47) (.t 48)) 45 true,g 50 (.bin .neq (.t 49) (c 0)) 45 true,o 51 (.pick (.t 45) (.t 50) (.k f))]
 (.cond (.t 51)
 (rg [fa 52 2 5,ld 53 1 52,mv 54 7,bk 55 .rem 54 (i 9),o 56 (.bin .add (c 19968) (.t 55)),o 57 (.cvi .i32 (.t 56)),la 58 3 9,o 59 (.build z3 [(0,1,(.t 57)),(1,1,(c 1)),(2,3,(.t 58))]),la 60 3 9,o 61 (.build z3 [(1,1,(c 2)),(2,3,(.t 60))]),o 62 (.bsl false 5 2 z3 [(0,(.t 59)),(1,(.t 61))]),o 63 (.append 5 40 (.t 53) (.t 62)),fa 64 2 5,st 1 64 63]
 (rg [mv 65 6,bk 66 .add 65 (i 1),mv 6 66]
 (.exit 1)))
 .skip))
 (.dreg [([],false,fa 67 2 5),([],false,ld 68 1 67),([0,1],false,mv 69 7),([0,1],false,o 70 (.call true 174 [(.t 69),(c 0),(c 9)])),([0,1],false,o 71 (.bin .add (c 97) (.t 70))),([0,1],false,o 72 (.cvi .i32 (.t 71))),([0,1,2,3,4,5],false,la 73 3 9),([0,1],false,o 74 (.build z3 [(0,1,(.t 72)),(2,3,(.t 73))])),([0,1],false,o 75 (.bsl false 5 1 z3 [(0,(.t 74))])),([],true,o 76 (.append 5 40 (.t 68) (.t 75))),([],true,fa 77 2 5),([],true,st 1 77 76)]))))))
 (.reg [mv 24 6,bk 25 .add 24 (i 1),mv 6 25]))))))
 (rg [la 78 3 5,st 3 2 78]
 .ret)))))⟩
def a66 : Ann := ⟨[],[m],[],[]⟩
def s66 : SFun := ⟨1,122,[],[(.cell 2 true 29,m)],
 (rg [bx 1 13 0,al 2 z0]
 (rg [fa 6 0 1,la 7 4 6,cl 8 64 [(.t 7)],al 3 [(i 0),(i 0),.sn],st 3 3 8]
 (.seq (.dreg [([],false,la 9 3 3),([0],false,fa 10 4 1),([0],false,ld 11 1 10),([0,1,2],false,fa 12 0 3),([0,1,2],false,ld 13 1 12),([0,1,2],false,bk 14 .sub 13 (i 1)),([0],false,o 15 (.callr 174 [(.t 11),(c 0),(.t 14)])),([0,1,2,3,4,5,6],false,fa 16 5 1),([0,1,2,3,4,5,6],false,ld 17 1 16),([0,1,2,3,4,5,6,7,8],false,fa 18 1 3),([0,1,2,3,4,5,6,7,8],false,ld 19 1 18),([0,1,2,3,4,5,6,7,8],false,bk 20 .sub 19 (i 1)),([0],false,o 21 (.callr 174 [(.t 17),(c 0),(.t 20)])),([0,1,2,3,4,5,6,7,8,9,10,11,12],false,fa 22 0 3),([0,1,2,3,4,5,6,7,8,9,10,11,12],false,ld 23 1 22),([0,1,2,3,4,5,6,7,8,9,10,11,12],false,bk 24 .sub 23 (i 1)),([0,1,2,3,4,5,6,7,8,9,10,11,12,13,14,15],false,fa 25 9 1),([0,1,2,3,4,5,6,7,8,9,10,11,12,13,14,15],false,la 26 3 25),([0,13,14,15],false,o 27 (.callr 65 [(.t 26)])),([0,1,2,3,4,5,6,7,8,9,10,11,12,13,14,15,16,17,18],false,fa 28 12 1),([0,1,2,3,4,5,6,7,8,9,10,11,12,13,14,15,16,17,18],false,ld 29 1 28),([0,1,2,3,4,5,6,7,8,9,10,11,12,13,14,15,16,17,18,19,20],false,o 30 (.build [(u 0),(u 0)] [(0,1,(.k (u 66))),(1,1,(.k (u 66)))])),([],false,o 31 (.build z0 [(0,3,(.t 9)),(3,1,(.t 15)),(4,1,(.t 21)),(7,1,(.t 24)),(8,3,(.t 27)),(11,1,(.t 29)),(12,2,(.t 30))])),([0,1,2,3,4,5,6,7,8,9,10,11,12,13,14,15,16,17,18,19,20,21,22],false,al 4 z0),([],true,st 29 4 31)])
 (.seq (rg [fa 32 0 3,ld 33 1 32,bk 34 .gtr 33 (i 1)]
 (.cond (.t 34)
 (rg [fa 35 6 1,ld 36 1 35,fa 37 0 3,ld 38 1 37,bk 39 .sub 38 (i 2),cl 40 174 [(.t 36),(c 0),(.t 39)],fa 41 6 4,st 1 41 40]
 (.reg [fa 42 7 1,ld 43 1 42,fa 44 6 4,ld 45 1 44,bk 46 .add 45 (i 1),fa 47 0 3,ld 48 1 47,bk 49 .sub 48 (i 1),cl 50 174 [(.t 43),(.t 46),(.t 49)],fa 51 7 4,st 1 51 50]))
 .skip))
 (rg [fa 52 8 1,ld 53 1 52,mv 5 53]
 (rg [mv 54 5,bk 55 .and 54 (i 1),bk 56 .eql 55 (i 0),mv 57 5,bk 58 .and 57 (i 2),bk 59 .eql 58 (i 2),mv 60 5,bk 61 .and 60 (i 4),bk 62 .eql 61 (i 0),mv 63 5,bk 64 .and 63 (i 8),bk 65 .eql 64 (i 8),mv 66 5,bk 67 .and 66 (i 16),bk 68 .eql 67 (i 16),fa 69 15 4,st 1 69 56,fa 70 16 4,st 1 70 59,fa 71 17 4,st 1 71 62,fa 72 18 4,st 1 72 65,fa 73 19 4,st 1 73 68]
 (rg [fa 74 15 4,ld 75 1 74,mv 76 75,g 77 (.fad 4 (.t 4)) 76 true,g 78 (.load false 1 (.t 77)) 76 true,g 79 (.fad 1 (.t 3)) 76 true,g 80 (.load false 1 (.t 79)) 76 true,g 81 (.bin .sub (.t 80) (c 1)) 76 true,g 82 (.bin .eql (.t 78) (.t 81)) 76 true,o 83 (.pick (.t 76) (.t 82) (.k f)),mv 84 83,g 85 (.mv (.t 5)) 84 true,g 86 (.bin .and (.t 85) (c 32)) 84 true,g 87 (.bin .eql (.t 86) (c 32)) 84 true,o 88 (.pick (.t 84) (.t 87) (.k f)),fa 89 5 4,st 1 89 88]
 (.seq (rg [mv 90 5,bk 91 .and 90 (i 64),bk 92 .eql 91 (i 64)]
 (.cond (.t 92)
 (.reg [fa 93 12 4,o 94 (.ixa 2 1 (.t 93) (c 0)),sk 1 94 (u 48)])
 .skip))
 (.seq (rg [mv 95 5,bk 96 .and 95 (i 128),bk 97 .eql 96 (i 128)]
 (.cond (.t 97)
 (.reg [fa 98 14 4,sk 1 98 (i 1)])
 .skip))
 (.seq (.dreg [([],false,fa 99 5 1),([],false,ld 100 1 99),([0,1],false,fa 101 0 3),([0,1],false,ld 102 1 101),([0,1],false,bk 103 .sub 102 (i 1)),([],false,o 104 (.callr 174 [(.t 100),(c 0),(.t 103)])),([0,1,2,3,4,5],false,fa 105 4 1),([0,1,2,3,4,5],false,ld 106 1 105),([0,1,2,3,4,5,6,7],false,fa 107 1 3),([0,1,2,3,4,5,6,7],false,ld 108 1 107),([0,1,2,3,4,5,6,7],false,bk 109 .sub 108 (i 1)),([],false,o 110 (.callr 174 [(.t 106),(c 0),(.t 109)])),([0,1,2,3,4,5,6,7,8,9,10,11],false,fa 111 8 1),([0,1,2,3,4,5,6,7,8,9,10,11],false,ld 112 1 111),([0,1,2,3,4,5,6,7,8,9,10,11],false,o 113 (.build [(i 0),(i 0),(i 0)] [(0,1,(.t 112))])),([],false,o 114 (.callr 65 [(.t 113)])),([0,1,2,3,4,5,6,7,8,9,10,11,12,13,14,15],false,o 115 (.build [(u 0),(u 0)] [(0,1,(.k (u 66))),(1,1,(.k (u 48)))])),([0,1,2,3,4,5,6,7,8,9,10,11,12,13,14,15,16],false,mv 116 5),([0,1,2,3,4,5,6,7,8,9,10,11,12,13,14,15,16],false,bk 117 .and 116 (i 256)),([0,1,2,3,4,5,6,7,8,9,10,11,12,13,14,15,16],false,bk 118 .eql 117 (i 256)),([],true,o 119 (.build z1 [(0,1,(.t 104)),(1,1,(.t 110)),(2,3,(.t 114)),(5,2,(.t 115)),(8,1,(.t 118))])),([],true,fa 120 20 4),([],true,st 9 120 119)])
 (rg [la 121 29 4,st 29 2 121]
 .ret)))))))))))⟩
def a451 : Ann := ⟨[],[⟨true,5,false⟩],[],[]⟩
def n451 : NFun := ⟨1,8,[],[(.tmp 2,⟨true,5,false⟩)],
 (.reg [mk 2 .sn]),mv 3 0,4,(.t 3),(.cond (.t 4)
 (rg [mk 2 .sn]
 .ret)
 .skip),(rg [o 5 (.bsl true 5 0 z3 []),mv 6 0,o 7 (.append 5 40 (.t 5) (.t 6)),mv 2 7]
 .ret)⟩
def a370 : Ann := ⟨[],[m],[],[]⟩
def s370 : SFun := ⟨1,10,[],[(.cell 2 true 29,m)],
 (rg [bx 1 29 0,al 2 z0]
 (rg [fa 3 0 1,fa 4 2 3,ld 5 1 4,cl 6 451 [(.t 5)],fa 7 0 1,fa 8 2 7,st 1 8 6]
 (rg [la 9 29 1,st 29 2 9]
 .ret)))⟩
def a134 : Ann := ⟨[],[m],[],[]⟩
def s134 : SFun := ⟨1,9,[],[(.tmp 2,m)],
 (rg [mk 2 f]
 (rg [mv 3 0,bk 4 .geq 3 (i 1),mv 5 4,g 6 (.mv (.t 0)) 5 true,g 7 (.bin .leq (.t 6) (c 3)) 5 true,o 8 (.pick (.t 5) (.t 7) (.k f)),mv 2 8]
 .ret))⟩
def a136 : Ann := ⟨[],[⟨true,4,false⟩],[],[]⟩
def s136 : SFun := ⟨1,29,[],[(.tmp 2,⟨true,4,false⟩)],
 (rg [mk 2 .sn]
 (rg [o 4 (.build [(i 0),(u 0),(u 0),(D.str [])] [(0,1,(c 1)),(3,1,(.k (D.str [32])))]),o 5 (.build [(i 0),(u 0),(u 0),(D.str [])] [(0,1,(c 2)),(3,1,(.k (D.str [7,8,9,10,13])))]),o 6 (.bsl true 4 2 [(i 0),(u 0),(u 0),(D.str [])] [(0,(.t 4)),(1,(.t 5))]),mv 3 6]
 (.seq (rg [mv 7 0,bk 8 .eql 7 (i 3)]
 (.cond (.t 8)
 (rg [mv 9 3,o 10 (.build [(i 0),(u 0),(u 0),(D.str [])] [(0,1,(c 3)),(3,1,(.k (D.str [65,66,67,68,72,73,74,75,89])))]),o 11 (.bsl false 4 1 [(i 0),(u 0),(u 0),(D.str [])] [(0,(.t 10))]),o 12 (.append 4 32 (.t 9) (.t 11)),mv 2 12]
 .ret)
 .skip))
 (rg [mv 13 3,o 14 (.build [(i 0),(u 0),(u 0),(D.str [])] [(0,1,(c 2)),(3,1,(.k (D.str [14,15])))]),o 15 (.build [(i 0),(u 0),(u 0),(D.str [])] [(0,1,(c 3)),(3,1,(.k (D.str [55,56,68,69,77,72,99,61,62])))]),o 16 (.build [(i 0),(u 0),(u 0),(D.str [])] [(0,1,(c 3)),(2,1,(.k (u 40))),(3,1,(.k (D.str [48,66])))]),o 17 (.build [(i 0),(u 0),(u 0),(D.str [])] [(0,1,(c 3)),(2,1,(.k (u 41))),(3,1,(.k (D.str [48,66])))]),o 18 (.build [(i 0),(u 0),(u 0),(D.str [])] [(0,1,(c 4)),(3,1,(.k (D.str [65,66,67,68,72,102,74,75,109,114,103])))]),o 19 (.build [(i 0),(u 0),(u 0),(D.str [])] [(0,1,(c 4)),(1,1,(.k (u 63))),(3,1,(.k (D.str [104,108])))]),o 20 (.bsl false 4 6 [(i 0),(u 0),(u 0),(D.str [])] [(0,(.t 14)),(1,(.t 15)),(2,(.t 16)),(3,(.t 17)),(4,(.t 18)),(5,(.t 19))]),o 21 (.append 4 32 (.t 13) (.t 20)),mv 3 21]
 (.seq (rg [mv 22 0,bk 23 .eql 22 (i 2)]
 (.cond (.t 23)
 (.reg [mv 24 3,o 25 (.build [(i 0),(u 0),(u 0),(D.str [])] [(0,1,(c 4)),(3,1,(.k (D.str [71,100,69,70,64,80,76,77,88])))]),o 26 (.bsl false 4 1 [(i 0),(u 0),(u 0),(D.str [])] [(0,(.t 25))]),o 27 (.append 4 32 (.t 24) (.t 26)),mv 3 27])
 .skip))
 (rg [mv 28 3,mv 2 28]
 .ret))))))⟩
def a135 : Ann := ⟨[(5,[(0,m),(13,m),(14,m),(15,m),(3,⟨true,0,false⟩)]),(8,[(0,m),(13,m),(14,m),(15,m),(21,m),(22,m),(3,⟨true,0,false⟩),(5,⟨true,0,false⟩)])],[⟨true,0,false⟩],[],[]⟩
def s135 : SFun := ⟨1,41,[],[(.tmp 2,⟨true,0,false⟩)],
 (rg [mk 2 .uk]
 (rg [o 7 (.mkm),mv 3 7]
 (.seq (rg [mv 8 0,cl 9 134 [(.t 8)],o 10 (.una .not (.t 9))]
 (.cond (.t 10)
 (rg [mv 11 3,mv 2 11]
 .ret)
 .skip))
 (.seq (rg [mv 12 0,cl 13 136 [(.t 12)],ln 14 13,mk 15 (i 0)]
 (.block 0 (.loop [(0,m),(13,m),(14,m),(15,m),(3,⟨true,0,false⟩)]
 (rg [bn 16 .lss 15 14]
 (.seq (.cond (.t 16)
 .skip
 (.exit 0))
 (.seq (.block 1 (rg [ix 17 4 13 15,la 18 4 17,al 5 [(i 0),(u 0),(u 0),(D.str [])],st 4 5 18]
 (rg [fa 19 3 5,ld 20 1 19,o 21 (.lens (.t 20)),mk 22 (i 0)]
 (.block 2 (.loop [(0,m),(13,m),(14,m),(15,m),(21,m),(22,m),(3,⟨true,0,false⟩),(5,⟨true,0,false⟩)]
 (rg [bn 23 .lss 22 21]
 (.seq (.cond (.t 23)
 .skip
 (.exit 2))
 (.seq (.block 3 (rg [mv 24 22,mv 6 24]
 (.dreg [([],false,mv 25 3),([0],false,mv 26 0),([0,1],false,fa 27 0 5),([0,1],false,ld 28 1 27),([0,1,2,3],false,fa 29 1 5),([0,1,2,3],false,ld 30 1 29),([0,1,2,3,4,5],false,fa 31 2 5),([0,1,2,3,4,5],false,ld 32 1 31),([0,1,2,3,4,5,6,7],false,fa 33 3 5),([0,1,2,3,4,5,6,7],false,ld 34 1 33),([0,1,2,3,4,5,6,7,8,9],false,mv 35 6),([0,1,2,3,4,5,6,7],false,o 36 (.ixt (.t 34) (.t 35))),([0],false,o 37 (.build z4 [(0,1,(.t 26)),(1,1,(.t 28)),(2,1,(.t 30)),(3,1,(.t 32)),(4,1,(.t 36))])),([],true,p (.mup true [1,1,1,1,1] (.t 25) (.t 37) (.k w)))])))
 (.reg [bk 38 .add 22 (i 1),mv 22 38])))))))))
 (.reg [bk 39 .add 15 (i 1),mv 15 39])))))))
 (rg [mv 40 3,mv 2 40]
 .ret)))))⟩
def a133 : Ann := ⟨[],[m],[],[]⟩
def s133 : SFun := ⟨2,30,[],[(.cell 4 true 5,m)],
 (rg [bx 3 7 1,al 4 z4]
 (rg [mv 6 0,fa 7 0 3,ld 8 1 7,fa 9 2 3,ld 10 1 9,fa 11 3 3,ld 12 1 11,fa 13 4 3,ld 14 1 13,o 15 (.build z4 [(0,1,(.t 6)),(1,1,(.t 8)),(2,1,(.t 10)),(3,1,(.t 12)),(4,1,(.t 14))]),al 5 z4,st 5 5 15]
 (.seq (rg [fa 16 0 3,ld 17 1 16,bk 18 .eql 17 (i 1)]
 (.cond (.t 18)
 (rg [fa 19 4 5,sk 1 19 (u 127)]
 (rg [fa 20 1 3,ld 21 1 20,bk 22 .geq 21 (r 32),mv 23 22,g 24 (.fad 1 (.t 3)) 23 true,g 25 (.load false 1 (.t 24)) 23 true,g 26 (.bin .leq (.t 25) (.k (r 126))) 23 true,o 27 (.pick (.t 23) (.t 26) (.k f))]
 (.cond (.t 27)
 (.reg [fa 28 4 5,sk 1 28 (u 32)])
 .skip)))
 .skip))
 (rg [la 29 5 5,st 5 4 29]
 .ret))))⟩
def a132 : Ann := ⟨[],[m],[],[]⟩
def s132 : SFun := ⟨2,11,[],[(.tmp 4,m)],
 (rg [bx 3 7 1,mk 4 f]
 (.seq (.dreg [([],false,mv 5 0),([],false,cl 6 135 [(.t 5)]),([0,1],false,mv 7 0),([0,1,2],false,la 8 7 3),([],true,cl 9 133 [(.t 7),(.t 8)]),([],true,o 10 (.lkp false true [1,1,1,1,1] f (.t 6) (.t 9))),([],true,mv 4 10)])
 .ret))⟩
def a122 : Ann := ⟨[],[m],[],[]⟩
def s122 : SFun := ⟨3,27,[],[(.cell 6 true 29,m)],
 (rg [bx 3 29 0,al 6 z0]
 (rg [la 7 29 3,cl 8 370 [(.t 7)],st 29 3 8]
 (rg [mv 9 1,fa 10 0 3,fa 11 0 10,ld 12 1 11,bk 13 .sub 12 (i 1),o 14 (.mn [(.t 9),(.t 13)]),o 15 (.mx [(c 0),(.t 14)]),mv 16 2,fa 17 0 3,fa 18 1 17,ld 19 1 18,bk 20 .sub 19 (i 1),o 21 (.mn [(.t 16),(.t 20)]),o 22 (.mx [(c 0),(.t 21)]),fa 23 3 3,st 1 23 15,fa 24 4 3,st 1 24 22,fa 25 5 3,sk 1 25 f]
 (rg [la 26 29 3,st 29 6 26]
 .ret))))⟩
def a145 : Ann := ⟨[],[m],[],[]⟩
def s145 : SFun := ⟨1,6,[],[(.tmp 2,m)],
 (rg [mk 2 (i 0)]
 (rg [mv 3 0,o 4 (.mn [(.t 3),(c 40)]),o 5 (.mx [(c 0),(.t 4)]),mv 2 5]
 .ret))⟩
def a144 : Ann := ⟨[],[⟨true,0,false⟩],[],[]⟩
def s144 : SFun := ⟨1,8,[],[(.cell 2 true 3,⟨true,0,false⟩)],
 (rg [bx 1 3 0,al 2 [(i 0),(i 0),.sn]]
 (rg [fa 3 2 1,ld 4 1 3,cl 5 451 [(.t 4)],fa 6 2 1,st 1 6 5]
 (rg [la 7 3 1,st 3 2 7]
 .ret)))⟩
def a106 : Ann := ⟨[],[m],[],[]⟩
def s106 : SFun := ⟨1,5,[],[(.cell 2 true 5,m)],
 (rg [bx 1 3 0,al 2 z3]
 (rg [la 3 3 1,o 4 (.build z3 [(0,1,(.k (r 32))),(2,3,(.t 3))]),st 5 2 4]
 .ret))⟩
def a444 : Ann := ⟨[],[m,m],[],[]⟩
def s444 : SFun := ⟨2,17,[],[(.tmp 4,m),(.tmp 5,m)],
 (rg [mk 4 (D.int .u32 (0)),mk 5 (D.int .u32 (0))]
 (rg [mv 7 0,o 8 (.cvi .u64 (.t 7)),mv 9 1,o 10 (.cvi .u64 (.t 9)),bn 11 .mul 8 10,mv 6 11]
 (rg [mv 12 6,bk 13 .shr 12 (q 32),o 14 (.cvi .u32 (.t 13)),mv 15 6,o 16 (.cvi .u32 (.t 15)),mv 4 14,mv 5 16]
 .ret)))⟩
def a445 : Ann := ⟨[],[m,m],[],[]⟩
def s445 : SFun := ⟨2,51,[],[(.tmp 4,m),(.tmp 5,m)],
 (rg [mk 4 (q 0),mk 5 (q 0)]
 (rg [mv 14 0,bk 15 .and 14 (q 4294967295),mv 6 15]
 (rg [mv 16 0,bk 17 .shr 16 (q 32),mv 7 17]
 (rg [mv 18 1,bk 19 .and 18 (q 4294967295),mv 8 19]
 (rg [mv 20 1,bk 21 .shr 20 (q 32),mv 9 21]
 (rg [mv 22 6,mv 23 8,bn 24 .mul 22 23,mv 10 24]
 (rg [mv 25 7,mv 26 8,bn 27 .mul 25 26,mv 28 10,bk 29 .shr 28 (q 32),bn 30 .add 27 29,mv 11 30]
 (rg [mv 31 11,bk 32 .and 31 (q 4294967295),mv 12 32]
 (rg [mv 33 11,bk 34 .shr 33 (q 32),mv 13 34]
 (rg [mv 35 12,mv 36 6,mv 37 9,bn 38 .mul 36 37,bn 39 .add 35 38,mv 12 39]
 (rg [mv 40 7,mv 41 9,bn 42 .mul 40 41,mv 43 13,bn 44 .add 42 43,mv 45 12,bk 46 .shr 45 (q 32),bn 47 .add 44 46,mv 4 47]
 (rg [mv 48 0,mv 49 1,bn 50 .mul 48 49,mv 5 50]
 .ret))))))))))))⟩
def a443 : Ann := ⟨[],[m,m],[],[]⟩
def s443 : SFun := ⟨2,30,[],[(.tmp 4,m),(.tmp 5,m)],
 (rg [mk 4 (q 0),mk 5 (q 0)]
 (.seq (.cond (.k f)
 (rg [mv 11 0,o 12 (.cvi .u32 (.t 11)),mv 13 1,o 14 (.cvi .u32 (.t 13)),cl 15 444 [(.t 12),(.t 14)],mv 10 15,ex 16 10 0,ex 17 10 1,mv 6 16,mv 7 17]
 (rg [mv 18 6,o 19 (.cvi .u64 (.t 18)),mv 20 7,o 21 (.cvi .u64 (.t 20)),mv 4 19,mv 5 21]
 .ret))
 .skip)
 (rg [mv 23 0,mv 24 1,cl 25 445 [(.t 23),(.t 24)],mv 22 25,ex 26 22 0,ex 27 22 1,mv 8 26,mv 9 27]
 (rg [mv 28 8,mv 29 9,mv 4 28,mv 5 29]
 .ret))))⟩
def a465 : Ann := ⟨[(8,[(8,m),(7,⟨true,5,false⟩)])],[⟨true,5,false⟩],[],[]⟩
def s465 : SFun := ⟨2,48,[],[(.tmp 4,⟨true,5,false⟩)],
 (rg [mk 4 .sn]
 (.seq (rg [mv 9 1,bk 10 .lss 9 (i 0)]
 (.cond (.t 10)
 (.reg [o 11 (.bad),p (.bad)])
 .skip))
 (rg [mv 13 0,ln 14 13,o 15 (.cvi .u64 (.t 14)),mv 16 1,o 17 (.cvi .u64 (.t 16)),cl 18 443 [(.t 15),(.t 17)],mv 12 18,ex 19 12 0,ex 20 12 1,mv 5 19,mv 6 20]
 (.seq (rg [mv 21 5,bk 22 .gtr 21 (q 0),mv 23 22,g 24 (.mv (.t 6)) 23 false,g 25 (.bin .gtr (.t 24) (.k (q 9223372036854775807))) 23 false,o 26 (.pick (.t 23) (.k w) (.t 25))]
 (.cond (.t 26)
 (.reg [o 27 (.bad),p (.bad)])
 .skip))
 (rg [mv 28 6,o 29 (.cvi .i64 (.t 28)),o 30 (.mksl 5 40 z3 (.t 29)),mv 7 30]
 (rg [mv 31 7,mv 32 0,o 33 (.copy 5 (.t 31) (.t 32)),mv 8 33]
 (.seq (.block 0 (.loop [(8,m),(7,⟨true,5,false⟩)]
 (.seq (rg [mv 34 8,mv 35 7,ln 36 35,bn 37 .lss 34 36]
 (.cond (.t 37)
 .skip
 (.exit 0)))
 (.block 1 (.dreg [([],false,mv 38 8),([0],false,mv 39 7),([0,1],false,mv 40 8),([0],false,o 41 (.slc 5 (.t 39) (some (.t 40)) none)),([0,1,2,3],false,mv 42 7),([0,1,2,3,4],false,mv 43 8),([0,1,2,3],false,o 44 (.slc 5 (.t 42) none (some (.t 43)))),([0],false,o 45 (.copy 5 (.t 41) (.t 44))),([],true,bn 46 .add 38 45),([],true,mv 8 46)])))))
 (rg [mv 47 7,mv 4 47]
 .ret))))))))⟩
def a143 : Ann := ⟨[],[⟨true,5,false⟩],[],[]⟩
def s143 : SFun := ⟨2,10,[],[(.tmp 4,⟨true,5,false⟩)],
 (rg [bx 3 3 1,mk 4 .sn]
 (rg [la 5 3 3,cl 6 106 [(.t 5)],o 7 (.bsl false 5 1 z3 [(0,(.t 6))]),mv 8 0,cl 9 465 [(.t 7),(.t 8)],mv 4 9]
 .ret))⟩
def a147 : Ann := ⟨[(5,[(1,m),(2,m),(3,m),(12,m),(5,⟨true,0,false⟩),(9,⟨true,0,false⟩),(10,⟨true,0,false⟩),(11,⟨true,0,false⟩)])],[m],[],[]⟩
def s147 : SFun := ⟨5,74,[],[(.cell 10 true 3,m)],
 (rg [bx 5 3 0,bx 9 3 4,al 10 [(i 0),(i 0),.sn]]
 (rg [la 15 3 5,cl 16 144 [(.t 15)],al 11 [(i 0),(i 0),.sn],st 3 11 16]
 (.seq (rg [mv 17 1,bk 18 .lss 17 (i 0),mv 19 18,g 20 (.mv (.t 2)) 19 false,g 21 (.fad 0 (.t 5)) 19 false,g 22 (.load false 1 (.t 21)) 19 false,g 23 (.bin .geq (.t 20) (.t 22)) 19 false,o 24 (.pick (.t 19) (.k w) (.t 23)),mv 25 24,g 26 (.mv (.t 1)) 25 false,g 27 (.mv (.t 2)) 25 false,g 28 (.bin .gtr (.t 26) (.t 27)) 25 false,o 29 (.pick (.t 25) (.k w) (.t 28))]
 (.cond (.t 29)
 (rg [la 30 3 11,st 3 10 30]
 .ret)
 .skip))
 (.seq (rg [mv 31 1,mv 12 31]
 (.block 0 (.loop [(1,m),(2,m),(3,m),(12,m),(5,⟨true,0,false⟩),(9,⟨true,0,false⟩),(10,⟨true,0,false⟩),(11,⟨true,0,false⟩)]
 (.seq (rg [mv 32 12,mv 33 2,bn 34 .leq 32 33]
 (.cond (.t 34)
 .skip
 (.exit 0)))
 (.seq (.block 1 (rg [fa 37 1 5,ld 38 1 37,la 39 3 9,cl 40 143 [(.t 38),(.t 39)],mv 13 40]
 (.seq (rg [mv 41 12,mv 42 3,bn 43 .add 41 42,mv 14 43]
 (rg [mv 44 14,mv 45 1,bn 46 .geq 44 45,mv 47 46,g 48 (.mv (.t 14)) 47 true,g 49 (.mv (.t 2)) 47 true,g 50 (.bin .leq (.t 48) (.t 49)) 47 true,o 51 (.pick (.t 47) (.t 50) (.k f))]
 (.cond (.t 51)
 (.reg [fa 52 2 5,ld 53 1 52,mv 54 14,fa 55 1 5,ld 56 1 55,bn 57 .mul 54 56,mv 58 14,bk 59 .add 58 (i 1),fa 60 1 5,ld 61 1 60,bn 62 .mul 59 61,o 63 (.slc 5 (.t 53) (some (.t 57)) (some (.t 62))),mv 13 63])
 .skip)))
 (.reg [fa 64 2 11,ld 65 1 64,mv 66 12,fa 67 1 5,ld 68 1 67,bn 69 .mul 66 68,o 70 (.slc 5 (.t 65) (some (.t 69)) none),mv 71 13,o 72 (.copy 5 (.t 70) (.t 71))]))))
 (.reg [mv 35 12,bk 36 .add 35 (i 1),mv 12 36]))))))
 (rg [la 73 3 11,st 3 10 73]
 .ret)))))⟩
def a138 : Ann := ⟨[],[m],[],[]⟩
def s138 : SFun := ⟨5,19,[],[(.cell 10 true 3,m)],
 (rg [bx 5 3 0,bx 9 3 4,al 10 [(i 0),(i 0),.sn]]
 (.seq (.dreg [([],false,la 11 3 5),([0],false,mv 12 1),([0,1],false,mv 13 2),([0,1,2],false,mv 14 3),([0,1,2],false,o 15 (.call true 145 [(.t 14)])),([0,1,2],false,o 16 (.una .neg (.t 15))),([0,1,2,3,4,5],false,la 17 3 9),([],true,cl 18 147 [(.t 11),(.t 12),(.t 13),(.t 16),(.t 17)]),([],true,st 3 10 18)])
 .ret))⟩
def a371 : Ann := ⟨[],[m],[],[]⟩
def s371 : SFun := ⟨1,7,[],[(.cell 2 true 3,m)],
 (rg [bx 1 29 0,al 2 [(i 0),(i 0),(i 0)]]
 (rg [fa 3 8 1,fa 4 1 3,ld 5 1 4,o 6 (.build [(i 0),(i 0),(i 0)] [(0,1,(c (-1))),(1,1,(.t 5))]),st 3 2 6]
 .ret))⟩
def a123 : Ann := ⟨[],[m],[],[]⟩
def s123 : SFun := ⟨1,27,[],[(.cell 2 true 29,m)],
 (rg [bx 1 29 0,al 2 z0]
 (.seq (rg [fa 3 3 1,ld 4 1 3,fa 5 6 1,ld 6 1 5,bn 7 .neq 4 6]
 (.cond (.t 7)
 (rg [la 8 29 1,fa 9 3 1,ld 10 1 9,bk 11 .sub 10 (i 1),fa 12 4 1,ld 13 1 12,cl 14 122 [(.t 8),(.t 11),(.t 13)],st 29 2 14]
 .ret)
 .skip))
 (.seq (.dreg [([],false,fa 15 0 1),([],false,la 16 3 15),([0,1],false,fa 17 6 1),([0,1],false,ld 18 1 17),([0,1,2,3],false,fa 19 7 1),([0,1,2,3],false,ld 20 1 19),([0,1,2,3,4,5],false,la 21 29 1),([0,1,2,3,4,5],false,o 22 (.callr 371 [(.t 21)])),([],true,cl 23 138 [(.t 16),(.t 18),(.t 20),(c 1),(.t 22)]),([],true,fa 24 0 1),([],true,st 3 24 23),([],true,fa 25 5 1),([],true,sk 1 25 f)])
 (rg [la 26 29 1,st 29 2 26]
 .ret))))⟩
def a115 : Ann := ⟨[],[⟨true,1,false⟩],[],[]⟩
def s115 : SFun := ⟨0,2,[],[(.tmp 0,⟨true,1,false⟩)],
 (rg [mk 0 .sn]
 (rg [o 1 (.bsl true 1 31 [(r 0)] [(0,(.k (r 9670))),(1,(.k (r 9618))),(2,(.k (r 9225))),(3,(.k (r 9228))),(4,(.k (r 9229))),(5,(.k (r 9226))),(6,(.k (r 176))),(7,(.k (r 177))),(8,(.k (r 9252))),(9,(.k (r 9227))),(10,(.k (r 9496))),(11,(.k (r 9488))),(12,(.k (r 9484))),(13,(.k (r 9492))),(14,(.k (r 9532))),(15,(.k (r 9146))),(16,(.k (r 9147))),(17,(.k (r 9472))),(18,(.k (r 9148))),(19,(.k (r 9149))),(20,(.k (r 9500))),(21,(.k (r 9508))),(22,(.k (r 9524))),(23,(.k (r 9516))),(24,(.k (r 9474))),(25,(.k (r 8804))),(26,(.k (r 8805))),(27,(.k (r 960))),(28,(.k (r 8800))),(29,(.k (r 163))),(30,(.k (r 183)))]),mv 0 1]
 .ret))⟩
def a114 : Ann := ⟨[],[m],[],[]⟩
def s114 : SFun := ⟨1,26,[],[(.tmp 2,m)],
 (rg [mk 2 (r 0)]
 (.seq (rg [cl 4 115 [],mv 3 4]
 (.block 0 (rg [mv 6 0,bk 7 .eql 6 (u 95),mv 5 7]
 (.cond (.t 5)
 (rg [mk 2 (r 32)]
 .ret)
 (rg [mv 9 0,bk 10 .geq 9 (u 96),mv 11 10,g 12 (.mv (.t 0)) 11 true,g 13 (.cvi .i64 (.t 12)) 11 true,g 14 (.mv (.t 3)) 11 true,g 15 (.len (.t 14)) 11 true,g 16 (.bin .add (c 96) (.t 15)) 11 true,g 17 (.bin .lss (.t 13) (.t 16)) 11 true,o 18 (.pick (.t 11) (.t 17) (.k f)),mv 8 18]
 (.cond (.t 8)
 (rg [mv 19 3,mv 20 0,bk 21 .sub 20 (u 96),ix 22 1 19 21,ld 23 1 22,mv 2 23]
 .ret)
 .skip))))))
 (rg [mv 24 0,o 25 (.cvi .i32 (.t 24)),mv 2 25]
 .ret)))⟩
def a407 : Ann := ⟨[],[m],[],[]⟩
def s407 : SFun := ⟨2,23,[],[(.tmp 4,m)],
 (rg [bx 2 29 0,mk 4 (r 0)]
 (.seq (rg [fa 5 14 2,ld 6 1 5,fa 7 12 2,o 8 (.ixa 2 1 (.t 7) (.t 6)),ld 9 1 8,bk 10 .eql 9 (u 48),mv 11 10,g 12 (.mv (.t 1)) 11 true,g 13 (.bin .geq (.t 12) (.k (r 95))) 11 true,o 14 (.pick (.t 11) (.t 13) (.k f)),mv 15 14,g 16 (.mv (.t 1)) 15 true,g 17 (.bin .leq (.t 16) (.k (r 126))) 15 true,o 18 (.pick (.t 15) (.t 17) (.k f))]
 (.cond (.t 18)
 (rg [mv 19 1,o 20 (.cvi .u8 (.t 19)),cl 21 114 [(.t 20)],mv 4 21]
 .ret)
 .skip))
 (rg [mv 22 1,mv 4 22]
 .ret)))⟩
def a110 : Ann := ⟨[],[m],[],[]⟩
def s110 : SFun := ⟨3,15,[],[(.tmp 6,m)],
 (rg [mk 6 f]
 (rg [mv 7 0,mv 8 1,bn 9 .geq 7 8,mv 10 9,g 11 (.mv (.t 0)) 10 true,g 12 (.mv (.t 2)) 10 true,g 13 (.bin .leq (.t 11) (.t 12)) 10 true,o 14 (.pick (.t 10) (.t 13) (.k f)),mv 6 14]
 .ret))⟩
def a112 : Ann := ⟨[],[m],[],[]⟩
def s112 : SFun := ⟨1,21,[],[(.tmp 2,m)],
 (rg [mk 2 f]
 (rg [mv 3 0,bk 4 .lss 3 (r 32),mv 5 4,g 6 (.mv (.t 0)) 5 false,g 7 (.call false 110 [(.t 6),(.k (r 127)),(.k (r 159))]) 5 false,o 8 (.pick (.t 5) (.k w) (.t 7)),mv 9 8,g 10 (.mv (.t 0)) 9 false,g 11 (.call false 110 [(.t 10),(.k (r 768)),(.k (r 879))]) 9 false,o 12 (.pick (.t 9) (.k w) (.t 11)),mv 13 12,g 14 (.mv (.t 0)) 13 false,g 15 (.call false 110 [(.t 14),(.k (r 55296)),(.k (r 57343))]) 13 false,o 16 (.pick (.t 13) (.k w) (.t 15)),mv 17 16,g 18 (.mv (.t 0)) 17 false,g 19 (.bin .gtr (.t 18) (.k (r 1114111))) 17 false,o 20 (.pick (.t 17) (.k w) (.t 19)),mv 2 20]
 .ret))⟩
def a113 : Ann := ⟨[(2,[(0,m),(2,m),(14,m),(15,m),(16,m)])],[m],[],[]⟩
def s113 : SFun := ⟨1,27,[],[(.tmp 2,m)],
 (rg [mk 2 f]
 (.seq (rg [o 5 (.build [(r 0),(r 0)] [(0,1,(.k (r 4352))),(1,1,(.k (r 4447)))]),o 6 (.build [(r 0),(r 0)] [(0,1,(.k (r 11904))),(1,1,(.k (r 42191)))]),o 7 (.build [(r 0),(r 0)] [(0,1,(.k (r 44032))),(1,1,(.k (r 55203)))]),o 8 (.build [(r 0),(r 0)] [(0,1,(.k (r 63744))),(1,1,(.k (r 64255)))]),o 9 (.build [(r 0),(r 0)] [(0,1,(.k (r 65072))),(1,1,(.k (r 65135)))]),o 10 (.build [(r 0),(r 0)] [(0,1,(.k (r 65280))),(1,1,(.k (r 65376)))]),o 11 (.build [(r 0),(r 0)] [(0,1,(.k (r 65504))),(1,1,(.k (r 65510)))]),o 12 (.build [(r 0),(r 0)] [(0,1,(.k (r 127744))),(1,1,(.k (r 129791)))]),o 13 (.build [(r 0),(r 0)] [(0,1,(.k (r 131072))),(1,1,(.k (r 262141)))]),o 14 (.bsl false 2 9 [(r 0),(r 0)] [(0,(.t 5)),(1,(.t 6)),(2,(.t 7)),(3,(.t 8)),(4,(.t 9)),(5,(.t 10)),(6,(.t 11)),(7,(.t 12)),(8,(.t 13))]),ln 15 14,mk 16 (i 0)]
 (.block 0 (.loop [(0,m),(2,m),(14,m),(15,m),(16,m)]
 (rg [bn 17 .lss 16 15]
 (.seq (.cond (.t 17)
 .skip
 (.exit 0))
 (.seq (.block 1 (rg [ix 18 2 14 16,la 19 2 18,al 4 [(r 0),(r 0)],st 2 4 19]
 (rg [mv 20 0,o 21 (.ixa 2 1 (.t 4) (c 0)),ld 22 1 21,o 23 (.ixa 2 1 (.t 4) (c 1)),ld 24 1 23,cl 25 110 [(.t 20),(.t 22),(.t 24)]]
 (.cond (.t 25)
 (rg [mk 2 w]
 .ret)
 .skip))))
 (.reg [bk 26 .add 16 (i 1),mv 16 26])))))))
 (rg [mk 2 f]
 .ret)))⟩
def a109 : Ann := ⟨[],[m],[],[]⟩
def s109 : SFun := ⟨1,9,[],[(.tmp 2,m)],
 (rg [mk 2 (i 0)]
 (.seq (.block 0 (rg [mv 4 0,cl 5 112 [(.t 4)],mv 3 5]
 (.cond (.t 3)
 (rg [mk 2 (i 0)]
 .ret)
 (rg [mv 7 0,cl 8 113 [(.t 7)],mv 6 8]
 (.cond (.t 6)
 (rg [mk 2 (i 2)]
 .ret)
 .skip)))))
 (rg [mk 2 (i 1)]
 .ret)))⟩
def a404 : Ann := ⟨[],[m],[],[]⟩
def s404 : SFun := ⟨2,10,[],[(.cell 4 true 29,m)],
 (rg [bx 2 29 0,al 4 z0]
 (rg [la 5 29 2,fa 6 3 2,ld 7 1 6,mv 8 1,cl 9 122 [(.t 5),(.t 7),(.t 8)],st 29 4 9]
 .ret))⟩
def a142 : Ann := ⟨[],[m],[],[]⟩
def s142 : SFun := ⟨5,18,[],[(.cell 10 true 3,m)],
 (rg [bx 5 3 0,bx 9 3 4,al 10 [(i 0),(i 0),.sn]]
 (.seq (.dreg [([],false,la 11 3 5),([0],false,mv 12 1),([0,1],false,mv 13 2),([0,1,2],false,mv 14 3),([0,1,2],false,o 15 (.callr 145 [(.t 14)])),([0,1,2,3,4],false,la 16 3 9),([],true,cl 17 147 [(.t 11),(.t 12),(.t 13),(.t 15),(.t 16)]),([],true,st 3 10 17)])
 .ret))⟩
def a125 : Ann := ⟨[],[m],[],[]⟩
def s125 : SFun := ⟨1,27,[],[(.cell 2 true 29,m)],
 (rg [bx 1 29 0,al 2 z0]
 (.seq (rg [fa 3 3 1,ld 4 1 3,fa 5 7 1,ld 6 1 5,bn 7 .neq 4 6]
 (.cond (.t 7)
 (rg [la 8 29 1,fa 9 3 1,ld 10 1 9,bk 11 .add 10 (i 1),fa 12 4 1,ld 13 1 12,cl 14 122 [(.t 8),(.t 11),(.t 13)],st 29 2 14]
 .ret)
 .skip))
 (.seq (.dreg [([],false,fa 15 0 1),([],false,la 16 3 15),([0,1],false,fa 17 6 1),([0,1],false,ld 18 1 17),([0,1,2,3],false,fa 19 7 1),([0,1,2,3],false,ld 20 1 19),([0,1,2,3,4,5],false,la 21 29 1),([0,1,2,3,4,5],false,o 22 (.callr 371 [(.t 21)])),([],true,cl 23 142 [(.t 16),(.t 18),(.t 20),(c 1),(.t 22)]),([],true,fa 24 0 1),([],true,st 3 24 23),([],true,fa 25 5 1),([],true,sk 1 25 f)])
 (rg [la 26 29 1,st 29 2 26]
 .ret))))⟩
def a158 : Ann := ⟨[],[⟨true,0,false⟩],[],[]⟩
def s158 : SFun := ⟨1,8,[],[(.cell 2 true 3,⟨true,0,false⟩)],
 (rg [bx 1 3 0,al 2 [(i 0),(i 0),.sn]]
 (rg [fa 3 2 1,ld 4 1 3,cl 5 451 [(.t 4)],fa 6 2 1,st 1 6 5]
 (rg [la 7 3 1,st 3 2 7]
 .ret)))⟩
def a162 : Ann := ⟨[],[m],[],[]⟩
def s162 : SFun := ⟨3,25,[],[(.tmp 6,m)],
 (rg [bx 3 3 0,mk 6 f]
 (rg [mv 7 1,bk 8 .geq 7 (i 0),mv 9 8,g 10 (.mv (.t 1)) 9 true,g 11 (.fad 0 (.t 3)) 9 true,g 12 (.load false 1 (.t 11)) 9 true,g 13 (.bin .lss (.t 10) (.t 12)) 9 true,o 14 (.pick (.t 9) (.t 13) (.k f)),mv 15 14,g 16 (.mv (.t 2)) 15 true,g 17 (.bin .geq (.t 16) (c 0)) 15 true,o 18 (.pick (.t 15) (.t 17) (.k f)),mv 19 18,g 20 (.mv (.t 2)) 19 true,g 21 (.fad 1 (.t 3)) 19 true,g 22 (.load false 1 (.t 21)) 19 true,g 23 (.bin .lss (.t 20) (.t 22)) 19 true,o 24 (.pick (.t 19) (.t 23) (.k f)),mv 6 24]
 .ret))⟩
def a163 : Ann := ⟨[],[⟨true,5,false⟩],[],[]⟩
def s163 : SFun := ⟨2,17,[],[(.tmp 4,⟨true,5,false⟩)],
 (rg [bx 2 3 0,mk 4 .sn]
 (rg [fa 5 2 2,ld 6 1 5,mv 7 1,fa 8 1 2,ld 9 1 8,bn 10 .mul 7 9,mv 11 1,bk 12 .add 11 (i 1),fa 13 1 2,ld 14 1 13,bn 15 .mul 12 14,o 16 (.slc 5 (.t 6) (some (.t 10)) (some (.t 15))),mv 4 16]
 .ret))⟩
def a159 : Ann := ⟨[],[m],[],[]⟩
def s159 : SFun := ⟨2,39,[],[(.tmp 4,m)],
 (rg [mk 4 f]
 (.seq (rg [mv 5 0,mv 6 1,ix 7 5 5 6,fa 8 1 7,ld 9 1 8]
 (.block 0 (rg [bk 11 .eql 9 (i 1),mv 10 11]
 (.cond (.t 10)
 (rg [mv 12 1,bk 13 .add 12 (i 1),mv 14 0,ln 15 14,bn 16 .eql 13 15,mv 17 16,g 18 (.mv (.t 0)) 17 false,g 19 (.mv (.t 1)) 17 false,g 20 (.bin .add (.t 19) (c 1)) 17 false,g 21 (.ixs 5 (.t 18) (.t 20)) 17 false,g 22 (.fad 1 (.t 21)) 17 false,g 23 (.load false 1 (.t 22)) 17 false,g 24 (.bin .neq (.t 23) (c 2)) 17 false,o 25 (.pick (.t 17) (.k w) (.t 24)),mv 4 25]
 .ret)
 (rg [bk 27 .eql 9 (i 2),mv 26 27]
 (.cond (.t 26)
 (rg [mv 28 1,bk 29 .eql 28 (i 0),mv 30 29,g 31 (.mv (.t 0)) 30 false,g 32 (.mv (.t 1)) 30 false,g 33 (.bin .sub (.t 32) (c 1)) 30 false,g 34 (.ixs 5 (.t 31) (.t 33)) 30 false,g 35 (.fad 1 (.t 34)) 30 false,g 36 (.load false 1 (.t 35)) 30 false,g 37 (.bin .neq (.t 36) (c 1)) 30 false,o 38 (.pick (.t 30) (.k w) (.t 37)),mv 4 38]
 .ret)
 .skip))))))
 (rg [mk 4 f]
 .ret)))⟩
def a150 : Ann := ⟨[(3,[(0,m),(8,m),(9,m),(10,m),(3,⟨true,5,false⟩)])],[⟨true,5,false⟩],[],[]⟩
def s150 : SFun := ⟨1,26,[],[(.tmp 2,⟨true,5,false⟩)],
 (rg [mk 2 .sn]
 (rg [mv 6 0,cl 7 451 [(.t 6)],mv 3 7]
 (.seq (rg [mv 8 0,ln 9 8,mk 10 (i 0)]
 (.block 0 (.loop [(0,m),(8,m),(9,m),(10,m),(3,⟨true,5,false⟩)]
 (rg [bn 11 .lss 10 9]
 (.seq (.cond (.t 11)
 .skip
 (.exit 0))
 (.seq (.block 1 (rg [mv 12 10,ix 13 5 8 10,la 14 5 13,al 5 z3,mv 4 12,st 5 5 14]
 (rg [mv 15 0,mv 16 4,cl 17 159 [(.t 15),(.t 16)]]
 (.cond (.t 17)
 (.reg [mv 18 3,mv 19 4,fa 20 2 5,la 21 3 20,cl 22 106 [(.t 21)],ix 23 5 18 19,st 5 23 22])
 .skip))))
 (.reg [bk 24 .add 10 (i 1),mv 10 24])))))))
 (rg [mv 25 3,mv 2 25]
 .ret))))⟩
def a161 : Ann := ⟨[],[m],[],[]⟩
def s161 : SFun := ⟨2,14,[],[(.cell 4 true 3,m)],
 (rg [bx 2 3 0,al 4 [(i 0),(i 0),.sn]]
 (.seq (.dreg [([],false,la 5 3 2),([0],false,mv 6 1),([],false,o 7 (.call true 163 [(.t 5),(.t 6)])),([0,1,2],false,la 8 3 2),([0,1,2,3],false,mv 9 1),([],true,cl 10 163 [(.t 8),(.t 9)]),([],true,cl 11 150 [(.t 10)]),([],true,o 12 (.copy 5 (.t 7) (.t 11)))])
 (rg [la 13 3 2,st 3 4 13]
 .ret)))⟩
def a152 : Ann := ⟨[],[m],[],[]⟩
def s152 : SFun := ⟨5,59,[],[(.cell 10 true 3,m)],
 (rg [bx 5 3 0,bx 9 3 4,al 10 [(i 0),(i 0),.sn]]
 (rg [la 13 3 5,cl 14 158 [(.t 13)],st 3 5 14]
 (rg [mv 15 3,cl 16 109 [(.t 15)],mv 11 16]
 (.seq (rg [mv 17 11,bk 18 .eql 17 (i 0),mv 19 18,g 20 (.load true 3 (.t 5)) 19 false,g 21 (.mv (.t 1)) 19 false,g 22 (.mv (.t 2)) 19 false,g 23 (.call false 162 [(.t 20),(.t 21),(.t 22)]) 19 false,g 24 (.una .not (.t 23)) 19 false,o 25 (.pick (.t 19) (.k w) (.t 24)),mv 26 25,g 27 (.mv (.t 2)) 26 false,g 28 (.mv (.t 11)) 26 false,g 29 (.bin .add (.t 27) (.t 28)) 26 false,g 30 (.fad 1 (.t 5)) 26 false,g 31 (.load false 1 (.t 30)) 26 false,g 32 (.bin .gtr (.t 29) (.t 31)) 26 false,o 33 (.pick (.t 26) (.k w) (.t 32))]
 (.cond (.t 33)
 (rg [la 34 3 5,st 3 10 34]
 .ret)
 .skip))
 (rg [la 35 3 5,mv 36 1,cl 37 163 [(.t 35),(.t 36)],mv 12 37]
 (rg [mv 38 12,mv 39 2,mv 40 3,la 41 3 9,o 42 (.build z3 [(0,1,(.t 40)),(2,3,(.t 41))]),ix 43 5 38 39,st 5 43 42]
 (.seq (rg [mv 44 11,bk 45 .eql 44 (i 2)]
 (.cond (.t 45)
 (rg [mv 46 12,mv 47 2,ix 48 5 46 47,fa 49 1 48,sk 1 49 (i 1)]
 (.reg [mv 50 12,mv 51 2,bk 52 .add 51 (i 1),la 53 3 9,o 54 (.build z3 [(1,1,(c 2)),(2,3,(.t 53))]),ix 55 5 50 52,st 5 55 54]))
 .skip))
 (rg [la 56 3 5,mv 57 1,cl 58 161 [(.t 56),(.t 57)],st 3 10 58]
 .ret))))))))⟩
def a402 : Ann := ⟨[],[m],[],[]⟩
def s402 : SFun := ⟨2,86,[],[(.cell 4 true 29,m)],
 (rg [bx 2 29 0,al 4 z0]
 (rg [la 7 29 2,cl 8 370 [(.t 7)],st 29 2 8]
 (rg [la 9 29 2,mv 10 1,cl 11 407 [(.t 9),(.t 10)],mv 1 11]
 (.seq (.dreg [([],false,mv 12 1),([],false,o 13 (.call true 109 [(.t 12)])),([0,1],false,fa 14 0 2),([0,1],false,fa 15 1 14),([0,1],false,ld 16 1 15),([2,3,4],false,mv 5 13),([],true,mv 6 16)])
 (.seq (rg [mv 17 5,bk 18 .eql 17 (i 0),mv 19 18,g 20 (.mv (.t 5)) 19 false,g 21 (.mv (.t 6)) 19 false,g 22 (.bin .gtr (.t 20) (.t 21)) 19 false,o 23 (.pick (.t 19) (.k w) (.t 22))]
 (.cond (.t 23)
 (rg [la 24 29 2,st 29 4 24]
 .ret)
 .skip))
 (.seq (.block 0 (rg [fa 26 15 2,ld 27 1 26,mv 28 27,g 29 (.fad 5 (.t 2)) 28 true,g 30 (.load false 1 (.t 29)) 28 true,g 31 (.mv (.t 30)) 28 true,g 32 (.fad 4 (.t 2)) 31 false,g 33 (.load false 1 (.t 32)) 31 false,g 34 (.mv (.t 5)) 31 false,g 35 (.bin .add (.t 33) (.t 34)) 31 false,g 36 (.mv (.t 6)) 31 false,g 37 (.bin .gtr (.t 35) (.t 36)) 31 false,g 38 (.pick (.t 31) (.k w) (.t 37)) 28 true,o 39 (.pick (.t 28) (.t 38) (.k f)),mv 25 39]
 (.cond (.t 25)
 (.reg [la 40 29 2,cl 41 404 [(.t 40),(c 0)],cl 42 125 [(.t 41)],st 29 2 42])
 (rg [fa 44 4 2,ld 45 1 44,mv 46 5,bn 47 .add 45 46,mv 48 6,bn 49 .gtr 47 48,mv 43 49]
 (.cond (.t 43)
 (.reg [mv 50 6,mv 51 5,bn 52 .sub 50 51,fa 53 4 2,st 1 53 52])
 .skip)))))
 (rg [fa 54 0 2,la 55 3 54,fa 56 3 2,ld 57 1 56,fa 58 4 2,ld 59 1 58,mv 60 1,fa 61 8 2,la 62 3 61,cl 63 152 [(.t 55),(.t 57),(.t 59),(.t 60),(.t 62)],fa 64 0 2,st 3 64 63]
 (rg [fa 65 4 2,ld 66 1 65,mv 67 5,bn 68 .add 66 67,fa 69 4 2,st 1 69 68]
 (rg [fa 70 4 2,ld 71 1 70,mv 72 6,bn 73 .geq 71 72,mv 74 73,g 75 (.fad 15 (.t 2)) 74 true,g 76 (.load false 1 (.t 75)) 74 true,o 77 (.pick (.t 74) (.t 76) (.k f)),fa 78 5 2,st 1 78 77]
 (rg [fa 79 4 2,ld 80 1 79,mv 81 6,bk 82 .sub 81 (i 1),o 83 (.mn [(.t 80),(.t 82)]),fa 84 4 2,st 1 84 83]
 (rg [la 85 29 2,st 29 4 85]
 .ret)))))))))))⟩
def a422 : Ann := ⟨[],[m],[],[]⟩
def s422 : SFun := ⟨1,11,[],[(.tmp 2,m)],
 (rg [mk 2 (q 0)]
 (.seq (rg [mv 3 0,bk 4 .lss 3 (i 0),mv 5 4,g 6 (.mv (.t 0)) 5 false,g 7 (.bin .geq (.t 6) (c 64)) 5 false,o 8 (.pick (.t 5) (.k w) (.t 7))]
 (.cond (.t 8)
 (rg [mk 2 (q 0)]
 .ret)
 .skip))
 (rg [mv 9 0,o 10 (.bin .shl (.k (q 1)) (.t 9)),mv 2 10]
 .ret)))⟩
def a417 : Ann := ⟨[],[m],[],[]⟩
def s417 : SFun := ⟨2,10,[],[(.tmp 4,m)],
 (rg [mk 4 f]
 (rg [mv 5 0,mv 6 1,cl 7 422 [(.t 6)],bn 8 .and 5 7,bk 9 .neq 8 (q 0),mv 4 9]
 .ret))⟩
def a418 : Ann := ⟨[(3,[(0,m),(5,m),(3,⟨true,1,false⟩)])],[⟨true,1,false⟩],[],[]⟩
def s418 : SFun := ⟨1,17,[],[(.tmp 2,⟨true,1,false⟩)],
 (rg [mk 2 .sn]
 (rg [mk 3 .sn]
 (.seq (rg [mk 5 (i 0)]
 (.block 0 (.loop [(0,m),(5,m),(3,⟨true,1,false⟩)]
 (rg [bk 6 .lss 5 (i 64)]
 (.seq (.cond (.t 6)
 .skip
 (.exit 0))
 (.seq (.block 1 (rg [mv 7 5,mv 4 7]
 (rg [mv 8 0,mv 9 4,cl 10 417 [(.t 8),(.t 9)]]
 (.cond (.t 10)
 (.reg [mv 11 3,mv 12 4,o 13 (.bsl false 1 1 [(i 0)] [(0,(.t 12))]),o 14 (.append 1 8 (.t 11) (.t 13)),mv 3 14])
 .skip))))
 (.reg [bk 15 .add 5 (i 1),mv 5 15])))))))
 (rg [mv 16 3,mv 2 16]
 .ret))))⟩
def a420 : Ann := ⟨[(2,[(1,m),(2,m),(6,m),(10,m),(11,m),(12,m)])],[m],[],[]⟩
def s420 : SFun := ⟨3,28,[],[(.tmp 6,m)],
 (rg [mk 6 (i 0)]
 (.seq (rg [mv 9 0,cl 10 418 [(.t 9)],ln 11 10,mk 12 (i 0)]
 (.block 0 (.loop [(1,m),(2,m),(6,m),(10,m),(11,m),(12,m)]
 (rg [bn 13 .lss 12 11]
 (.seq (.cond (.t 13)
 .skip
 (.exit 0))
 (.seq (.block 1 (rg [ix 14 1 10 12,ld 15 1 14,mv 8 15]
 (rg [mv 16 8,mv 17 1,bn 18 .gtr 16 17,mv 19 18,g 20 (.mv (.t 8)) 19 true,g 21 (.mv (.t 2)) 19 true,g 22 (.bin .lss (.t 20) (.t 21)) 19 true,o 23 (.pick (.t 19) (.t 22) (.k f))]
 (.cond (.t 23)
 (rg [mv 24 8,mv 6 24]
 .ret)
 .skip))))
 (.reg [bk 25 .add 12 (i 1),mv 12 25])))))))
 (rg [mv 26 2,bk 27 .sub 26 (i 1),mv 6 27]
 .ret)))⟩
def a410 : Ann := ⟨[],[m],[],[]⟩
def s410 : SFun := ⟨2,49,[],[(.cell 4 true 29,m)],
 (rg [bx 2 29 0,al 4 z0]
 (.seq (.block 0 (rg [mv 6 1,bk 7 .eql 6 (u 8),mv 5 7]
 (.cond (.t 5)
 (rg [la 8 29 2,fa 9 4 2,ld 10 1 9,bk 11 .sub 10 (i 1),cl 12 404 [(.t 8),(.t 11)],st 29 4 12]
 .ret)
 (rg [mv 14 1,bk 15 .eql 14 (u 9),mv 13 15]
 (.cond (.t 13)
 (.seq (.dreg [([],false,la 16 29 2),([0],false,fa 17 11 2),([0],false,ld 18 1 17),([0,1,2],false,fa 19 4 2),([0,1,2],false,ld 20 1 19),([0,1,2,3,4],false,fa 21 0 2),([0,1,2,3,4],false,fa 22 1 21),([0,1,2,3,4],false,ld 23 1 22),([0],false,o 24 (.callr 420 [(.t 18),(.t 20),(.t 23)])),([],true,cl 25 404 [(.t 16),(.t 24)]),([],true,st 29 4 25)])
 .ret)
 (rg [mv 27 1,bk 28 .geq 27 (u 10),mv 29 28,g 30 (.mv (.t 1)) 29 true,g 31 (.bin .leq (.t 30) (.k (u 12))) 29 true,o 32 (.pick (.t 29) (.t 31) (.k f)),mv 26 32]
 (.cond (.t 26)
 (rg [la 33 29 2,cl 34 125 [(.t 33)],st 29 4 34]
 .ret)
 (rg [mv 36 1,bk 37 .eql 36 (u 13),mv 35 37]
 (.cond (.t 35)
 (rg [la 38 29 2,cl 39 404 [(.t 38),(c 0)],st 29 4 39]
 .ret)
 (rg [mv 41 1,bk 42 .eql 41 (u 14),mv 40 42]
 (.cond (.t 40)
 (.reg [fa 43 14 2,sk 1 43 (i 1)])
 (rg [mv 45 1,bk 46 .eql 45 (u 15),mv 44 46]
 (.cond (.t 44)
 (.reg [fa 47 14 2,sk 1 47 (i 0)])
 .skip)))))))))))))
 (rg [la 48 29 2,st 29 4 48]
 .ret)))⟩
def a406 : Ann := ⟨[],[m],[],[]⟩
def s406 : SFun := ⟨3,26,[],[(.cell 6 true 29,m)],
 (rg [bx 3 29 0,al 6 z0]
 (.seq (rg [mv 7 2,bk 8 .neq 7 (u 48),mv 9 8,g 10 (.mv (.t 2)) 9 true,g 11 (.bin .neq (.t 10) (.k (u 66))) 9 true,o 12 (.pick (.t 9) (.t 11) (.k f))]
 (.cond (.t 12)
 (rg [la 13 29 3,st 29 6 13]
 .ret)
 .skip))
 (.seq (rg [mv 14 1]
 (.block 0 (rg [bk 16 .eql 14 (u 40),mv 15 16]
 (.cond (.t 15)
 (.reg [mv 17 2,fa 18 12 3,o 19 (.ixa 2 1 (.t 18) (c 0)),st 1 19 17])
 (rg [bk 21 .eql 14 (u 41),mv 20 21]
 (.cond (.t 20)
 (.reg [mv 22 2,fa 23 12 3,o 24 (.ixa 2 1 (.t 23) (c 1)),st 1 24 22])
 .skip))))))
 (rg [la 25 29 3,st 29 6 25]
 .ret))))⟩
def a129 : Ann := ⟨[],[m],[],[]⟩
def s129 : SFun := ⟨1,20,[],[(.cell 2 true 29,m)],
 (rg [bx 1 29 0,al 2 z0]
 (rg [la 3 29 1,cl 4 370 [(.t 3)],st 29 1 4]
 (rg [fa 5 3 1,ld 6 1 5,fa 7 4 1,ld 8 1 7,fa 9 8 1,la 10 3 9,fa 11 12 1,la 12 2 11,fa 13 14 1,ld 14 1 13,fa 15 16 1,ld 16 1 15,o 17 (.build z1 [(0,1,(.t 6)),(1,1,(.t 8)),(2,3,(.t 10)),(5,2,(.t 12)),(7,1,(.t 14)),(8,1,(.t 16))]),fa 18 20 1,st 9 18 17]
 (rg [la 19 29 1,st 29 2 19]
 .ret))))⟩
def a128 : Ann := ⟨[],[m],[],[]⟩
def s128 : SFun := ⟨1,24,[],[(.cell 2 true 29,m)],
 (rg [bx 1 29 0,al 2 z0]
 (rg [fa 4 20 1,la 5 9 4,al 3 z1,st 9 3 5]
 (.seq (.dreg [([],false,fa 6 2 3),([],false,la 7 3 6),([0,1],false,fa 8 5 3),([0,1],false,la 9 2 8),([0,1,2,3],false,fa 10 7 3),([0,1,2,3],false,ld 11 1 10),([0,1,2,3,4,5],false,fa 12 8 3),([0,1,2,3,4,5],false,ld 13 1 12),([2,3,4,5,6,7],false,fa 14 8 1),([2,3,4,5,6,7],false,st 3 14 7),([4,5,6,7],false,fa 15 12 1),([4,5,6,7],false,st 2 15 9),([6,7],false,fa 16 14 1),([6,7],false,st 1 16 11),([],true,fa 17 16 1),([],true,st 1 17 13)])
 (rg [la 18 29 1,fa 19 0 3,ld 20 1 19,fa 21 1 3,ld 22 1 21,cl 23 122 [(.t 18),(.t 20),(.t 22)],st 29 2 23]
 .ret))))⟩
def a421 : Ann := ⟨[(2,[(0,m),(7,m),(8,m),(9,m)])],[m],[],[]⟩
def s421 : SFun := ⟨2,19,[],[(.tmp 4,m)],
 (rg [mk 4 (q 0)]
 (.seq (rg [mv 7 1,ln 8 7,mk 9 (i 0)]
 (.block 0 (.loop [(0,m),(7,m),(8,m),(9,m)]
 (rg [bn 10 .lss 9 8]
 (.seq (.cond (.t 10)
 .skip
 (.exit 0))
 (.seq (.block 1 (rg [ix 11 1 7 9,ld 12 1 11,mv 6 12]
 (.reg [mv 13 0,mv 14 6,cl 15 422 [(.t 14)],bn 16 .or 13 15,mv 0 16])))
 (.reg [bk 17 .add 9 (i 1),mv 9 17])))))))
 (rg [mv 18 0,mv 4 18]
 .ret)))⟩
def a107 : Ann := ⟨[],[m],[],[]⟩
def s107 : SFun := ⟨0,2,[],[(.cell 0 true 3,m)],
 (rg [al 0 [(i 0),(i 0),(i 0)]]
 (rg [o 1 (.build [(i 0),(i 0),(i 0)] [(0,1,(c (-1))),(1,1,(c (-1)))]),st 3 0 1]
 .ret))⟩
def a151 : Ann := ⟨[],[⟨true,0,false⟩],[],[]⟩
def s151 : SFun := ⟨3,23,[],[(.cell 6 true 3,⟨true,0,false⟩)],
 (rg [bx 5 3 2,al 6 [(i 0),(i 0),.sn]]
 (rg [mv 7 0,o 8 (.mn [(.t 7),(c 40)]),o 9 (.mx [(c 1),(.t 8)]),mv 10 1,o 11 (.mn [(.t 10),(c 60)]),o 12 (.mx [(c 1),(.t 11)]),mv 0 9,mv 1 12]
 (rg [mv 13 0,mv 14 1,la 15 3 5,cl 16 106 [(.t 15)],o 17 (.bsl false 5 1 z3 [(0,(.t 16))]),mv 18 0,mv 19 1,bn 20 .mul 18 19,cl 21 465 [(.t 17),(.t 20)],o 22 (.build [(i 0),(i 0),.sn] [(0,1,(.t 13)),(1,1,(.t 14)),(2,1,(.t 21))]),st 3 6 22]
 .ret)))⟩
def a419 : Ann := ⟨[(3,[(0,m),(3,m),(4,m)])],[m],[],[]⟩
def s419 : SFun := ⟨1,16,[],[(.tmp 2,m)],
 (rg [mk 2 (q 0)]
 (rg [mk 3 (q 0)]
 (.seq (rg [mk 4 (i 8)]
 (.block 0 (.loop [(0,m),(3,m),(4,m)]
 (.seq (rg [mv 5 4,mv 6 0,o 7 (.mn [(.t 6),(c 64)]),bn 8 .lss 5 7]
 (.cond (.t 8)
 .skip
 (.exit 0)))
 (.seq (.block 1 (.reg [mv 11 3,mv 12 4,cl 13 422 [(.t 12)],bn 14 .or 11 13,mv 3 14]))
 (.reg [mv 9 4,bk 10 .add 9 (i 8),mv 4 10]))))))
 (rg [mv 15 3,mv 2 15]
 .ret))))⟩
def a372 : Ann := ⟨[],[m],[],[]⟩
def s372 : SFun := ⟨2,25,[],[(.cell 4 true 29,m)],
 (rg [al 4 z0]
 (rg [mv 7 0,mv 8 1,cl 9 107 [],cl 10 151 [(.t 7),(.t 8),(.t 9)],al 5 [(i 0),(i 0),.sn],st 3 5 10]
 (rg [o 11 (.build [(u 0),(u 0)] [(0,1,(.k (u 66))),(1,1,(.k (u 66)))]),al 6 [(u 0),(u 0)],st 2 6 11]
 (.seq (.dreg [([],false,la 12 3 5),([0],false,fa 13 0 5),([0],false,ld 14 1 13),([0],false,bk 15 .sub 14 (i 1)),([0,1,2,3],false,o 16 (.callr 107 [])),([0,1,2,3,4],false,fa 17 1 5),([0,1,2,3,4],false,ld 18 1 17),([0,1,2,3],false,o 19 (.callr 419 [(.t 18)])),([0,1,2,3,4,5,6,7],false,la 20 2 6),([0,1,2,3,8],false,o 21 (.callr 107 [])),([0,1,2,3,4,5,6,7,8,9],false,la 22 2 6),([0,1,2,3,8],false,o 23 (.build z1 [(2,3,(.t 21)),(5,2,(.t 22))])),([],true,o 24 (.build z0 [(0,3,(.t 12)),(7,1,(.t 15)),(8,3,(.t 16)),(11,1,(.t 19)),(12,2,(.t 20)),(15,1,(.k w)),(17,1,(.k w)),(20,9,(.t 23))])),([],true,st 29 4 24)])
 .ret))))⟩
def a409 : Ann := ⟨[],[m],[],[]⟩
def s409 : SFun := ⟨2,62,[],[(.cell 4 true 29,m)],
 (rg [bx 2 29 0,bx 3 7 1,al 4 z0]
 (.seq (rg [fa 5 3 3,ld 6 1 5,bk 7 .neq 6 (u 0)]
 (.cond (.t 7)
 (rg [la 8 29 2,fa 9 3 3,ld 10 1 9,fa 11 4 3,ld 12 1 11,cl 13 406 [(.t 8),(.t 10),(.t 12)],st 29 4 13]
 .ret)
 .skip))
 (.seq (rg [fa 14 4 3,ld 15 1 14]
 (.block 0 (rg [bk 17 .eql 15 (u 55),mv 16 17]
 (.cond (.t 16)
 (rg [la 18 29 2,cl 19 129 [(.t 18)],st 29 4 19]
 .ret)
 (rg [bk 21 .eql 15 (u 56),mv 20 21]
 (.cond (.t 20)
 (rg [la 22 29 2,cl 23 128 [(.t 22)],st 29 4 23]
 .ret)
 (rg [bk 25 .eql 15 (u 68),mv 24 25]
 (.cond (.t 24)
 (rg [la 26 29 2,cl 27 125 [(.t 26)],st 29 4 27]
 .ret)
 (rg [bk 29 .eql 15 (u 69),mv 28 29]
 (.cond (.t 28)
 (rg [la 30 29 2,cl 31 404 [(.t 30),(c 0)],cl 32 125 [(.t 31)],st 29 4 32]
 .ret)
 (rg [bk 34 .eql 15 (u 77),mv 33 34]
 (.cond (.t 33)
 (rg [la 35 29 2,cl 36 123 [(.t 35)],st 29 4 36]
 .ret)
 (rg [bk 38 .eql 15 (u 72),mv 37 38]
 (.cond (.t 37)
 (.reg [fa 39 11 2,ld 40 1 39,fa 41 4 2,ld 42 1 41,o 43 (.bsl false 1 1 [(i 0)] [(0,(.t 42))]),cl 44 421 [(.t 40),(.t 43)],fa 45 11 2,st 1 45 44])
 (rg [bk 47 .eql 15 (u 99),mv 46 47]
 (.cond (.t 46)
 (rg [fa 48 0 2,fa 49 0 48,ld 50 1 49,fa 51 0 2,fa 52 1 51,ld 53 1 52,cl 54 372 [(.t 50),(.t 53)],st 29 4 54]
 .ret)
 (rg [bk 56 .eql 15 (u 61),mv 55 56]
 (.cond (.t 55)
 (.reg [fa 57 19 2,sk 1 57 w])
 (rg [bk 59 .eql 15 (u 62),mv 58 59]
 (.cond (.t 58)
 (.reg [fa 60 19 2,sk 1 60 f])
 .skip))))))))))))))))))))
 (rg [la 61 29 2,st 29 4 61]
 .ret))))⟩
def a127 : Ann := ⟨[],[m],[],[]⟩
def s127 : SFun := ⟨1,11,[],[(.cell 2 true 29,m)],
 (rg [bx 1 29 0,al 2 z0]
 (.seq (rg [fa 3 16 1,ld 4 1 3]
 (.cond (.t 4)
 (rg [la 5 29 1,fa 6 6 1,ld 7 1 6,cl 8 122 [(.t 5),(.t 7),(c 0)],st 29 2 8]
 .ret)
 .skip))
 (rg [la 9 29 1,cl 10 122 [(.t 9),(c 0),(c 0)],st 29 2 10]
 .ret)))⟩
def a337 : Ann := ⟨[],[m],[],[]⟩
def s337 : SFun := ⟨3,35,[],[(.cell 6 true 29,m)],
 (rg [bx 3 29 0,al 6 z0]
 (rg [la 7 29 3,cl 8 370 [(.t 7)],st 29 3 8]
 (.seq (rg [mv 9 1]
 (.block 0 (rg [bk 11 .eql 9 (i 1),mv 10 11]
 (.cond (.t 10)
 (.reg [mv 12 2,fa 13 18 3,st 1 13 12])
 (rg [bk 15 .eql 9 (i 6),mv 14 15]
 (.cond (.t 14)
 (rg [mv 16 2,fa 17 16 3,st 1 17 16]
 (rg [la 18 29 3,cl 19 127 [(.t 18)],st 29 6 19]
 .ret))
 (rg [bk 21 .eql 9 (i 7),mv 20 21]
 (.cond (.t 20)
 (rg [mv 22 2,fa 23 15 3,st 1 23 22]
 (.reg [fa 24 5 3,ld 25 1 24,mv 26 25,g 27 (.mv (.t 2)) 26 true,o 28 (.pick (.t 26) (.t 27) (.k f)),fa 29 5 3,st 1 29 28]))
 (rg [bk 31 .eql 9 (i 25),mv 30 31]
 (.cond (.t 30)
 (.reg [mv 32 2,fa 33 17 3,st 1 33 32])
 .skip))))))))))
 (rg [la 34 29 3,st 29 6 34]
 .ret))))⟩
def a415 : Ann := ⟨[(4,[(17,m),(18,m),(19,m),(2,⟨true,0,false⟩),(3,⟨true,0,false⟩),(4,⟨true,0,false⟩)])],[m],[],[]⟩
def s415 : SFun := ⟨2,31,[],[(.cell 4 true 29,m)],
 (rg [bx 2 29 0,bx 3 7 1,al 4 z0]
 (.seq (rg [fa 7 4 3,ld 8 1 7,bk 9 .neq 8 (u 104),mv 10 9,g 11 (.fad 4 (.t 3)) 10 true,g 12 (.load false 1 (.t 11)) 10 true,g 13 (.bin .neq (.t 12) (.k (u 108))) 10 true,o 14 (.pick (.t 10) (.t 13) (.k f))]
 (.cond (.t 14)
 (rg [la 15 29 2,st 29 4 15]
 .ret)
 .skip))
 (.seq (rg [fa 16 5 3,ld 17 1 16,ln 18 17,mk 19 (i 0)]
 (.block 0 (.loop [(17,m),(18,m),(19,m),(2,⟨true,0,false⟩),(3,⟨true,0,false⟩),(4,⟨true,0,false⟩)]
 (rg [bn 20 .lss 19 18]
 (.seq (.cond (.t 20)
 .skip
 (.exit 0))
 (.seq (.block 1 (rg [ix 21 1 17 19,ld 22 1 21,mv 6 22]
 (.reg [la 23 29 2,mv 24 6,fa 25 4 3,ld 26 1 25,bk 27 .eql 26 (u 104),cl 28 337 [(.t 23),(.t 24),(.t 27)],st 29 2 28])))
 (.reg [bk 29 .add 19 (i 1),mv 19 29])))))))
 (rg [la 30 29 2,st 29 4 30]
 .ret))))⟩
def a381 : Ann := ⟨[],[m],[],[]⟩
def s381 : SFun := ⟨5,52,[],[(.tmp 10,m)],
 (rg [bx 5 7 0,mk 10 (i 0)]
 (rg [mv 12 2,mv 11 12]
 (.seq (rg [mv 13 1,bk 14 .geq 13 (i 0),mv 15 14,g 16 (.mv (.t 1)) 15 true,g 17 (.fad 5 (.t 5)) 15 true,g 18 (.load false 1 (.t 17)) 15 true,g 19 (.len (.t 18)) 15 true,g 20 (.bin .lss (.t 16) (.t 19)) 15 true,o 21 (.pick (.t 15) (.t 20) (.k f)),mv 22 21,g 23 (.fad 5 (.t 5)) 22 true,g 24 (.load false 1 (.t 23)) 22 true,g 25 (.mv (.t 1)) 22 true,g 26 (.ixs 1 (.t 24) (.t 25)) 22 true,g 27 (.load false 1 (.t 26)) 22 true,g 28 (.bin .neq (.t 27) (c (-1))) 22 true,o 29 (.pick (.t 22) (.t 28) (.k f)),mv 30 29,g 31 (.fad 5 (.t 5)) 30 true,g 32 (.load false 1 (.t 31)) 30 true,g 33 (.mv (.t 1)) 30 true,g 34 (.ixs 1 (.t 32) (.t 33)) 30 true,g 35 (.load false 1 (.t 34)) 30 true,g 36 (.bin .neq (.t 35) (c 0)) 30 true,g 37 (.mv (.t 36)) 30 true,g 38 (.mv (.t 3)) 37 false,g 39 (.bin .leq (.t 38) (c 0)) 37 false,g 40 (.pick (.t 37) (.k w) (.t 39)) 30 true,o 41 (.pick (.t 30) (.t 40) (.k f))]
 (.cond (.t 41)
 (.reg [fa 42 5 5,ld 43 1 42,mv 44 1,ix 45 1 43 44,ld 46 1 45,mv 11 46])
 .skip))
 (rg [mv 47 3,mv 48 11,mv 49 4,o 50 (.mn [(.t 48),(.t 49)]),o 51 (.mx [(.t 47),(.t 50)]),mv 10 51]
 .ret))))⟩
def a411 : Ann := ⟨[],[m],[],[]⟩
def s411 : SFun := ⟨2,8,[],[(.tmp 4,m)],
 (rg [bx 2 7 0,mk 4 (i 0)]
 (rg [la 5 7 2,mv 6 1,cl 7 381 [(.t 5),(.t 6),(c 1),(c 1),(c 65535)],mv 4 7]
 .ret))⟩
def a130 : Ann := ⟨[],[m],[],[]⟩
def s130 : SFun := ⟨2,24,[],[(.cell 4 true 29,m)],
 (rg [bx 2 29 0,al 4 z0]
 (rg [fa 6 3 2,ld 7 1 6,mv 8 1,bn 9 .sub 7 8,mv 5 9]
 (.seq (rg [fa 10 3 2,ld 11 1 10,fa 12 6 2,ld 13 1 12,bn 14 .geq 11 13]
 (.cond (.t 14)
 (.reg [mv 15 5,fa 16 6 2,ld 17 1 16,o 18 (.mx [(.t 15),(.t 17)]),mv 5 18])
 .skip))
 (rg [la 19 29 2,mv 20 5,fa 21 4 2,ld 22 1 21,cl 23 122 [(.t 19),(.t 20),(.t 22)],st 29 4 23]
 .ret))))⟩
def a124 : Ann := ⟨[],[m],[],[]⟩
def s124 : SFun := ⟨2,24,[],[(.cell 4 true 29,m)],
 (rg [bx 2 29 0,al 4 z0]
 (rg [fa 6 3 2,ld 7 1 6,mv 8 1,bn 9 .add 7 8,mv 5 9]
 (.seq (rg [fa 10 3 2,ld 11 1 10,fa 12 7 2,ld 13 1 12,bn 14 .leq 11 13]
 (.cond (.t 14)
 (.reg [mv 15 5,fa 16 7 2,ld 17 1 16,o 18 (.mn [(.t 15),(.t 17)]),mv 5 18])
 .skip))
 (rg [la 19 29 2,mv 20 5,fa 21 4 2,ld 22 1 21,cl 23 122 [(.t 19),(.t 20),(.t 22)],st 29 4 23]
 .ret))))⟩
def a126 : Ann := ⟨[],[m],[],[]⟩
def s126 : SFun := ⟨3,20,[],[(.cell 6 true 29,m)],
 (rg [bx 3 29 0,al 6 z0]
 (.seq (rg [fa 7 16 3,ld 8 1 7]
 (.cond (.t 8)
 (.reg [fa 9 6 3,ld 10 1 9,mv 11 1,bn 12 .add 10 11,fa 13 7 3,ld 14 1 13,o 15 (.mn [(.t 12),(.t 14)]),mv 1 15])
 .skip))
 (rg [la 16 29 3,mv 17 1,mv 18 2,cl 19 122 [(.t 16),(.t 17),(.t 18)],st 29 6 19]
 .ret)))⟩
def a413 : Ann := ⟨[],[m],[],[]⟩
def s413 : SFun := ⟨2,70,[],[(.cell 4 true 29,m)],
 (rg [bx 2 29 0,bx 3 7 1,al 4 z0]
 (rg [la 6 7 3,cl 7 411 [(.t 6),(c 0)],mv 5 7]
 (.seq (rg [fa 8 4 3,ld 9 1 8]
 (.block 0 (rg [bk 11 .eql 9 (u 65),mv 10 11]
 (.cond (.t 10)
 (rg [la 12 29 2,mv 13 5,cl 14 130 [(.t 12),(.t 13)],st 29 4 14]
 .ret)
 (rg [bk 16 .eql 9 (u 66),mv 15 16]
 (.cond (.t 15)
 (rg [la 17 29 2,mv 18 5,cl 19 124 [(.t 17),(.t 18)],st 29 4 19]
 .ret)
 (rg [bk 21 .eql 9 (u 67),mv 20 21]
 (.cond (.t 20)
 (rg [la 22 29 2,fa 23 4 2,ld 24 1 23,mv 25 5,bn 26 .add 24 25,cl 27 404 [(.t 22),(.t 26)],st 29 4 27]
 .ret)
 (rg [bk 29 .eql 9 (u 68),mv 28 29]
 (.cond (.t 28)
 (rg [la 30 29 2,fa 31 4 2,ld 32 1 31,mv 33 5,bn 34 .sub 32 33,cl 35 404 [(.t 30),(.t 34)],st 29 4 35]
 .ret)
 (rg [bk 37 .eql 9 (u 69),mv 36 37]
 (.cond (.t 36)
 (rg [la 38 29 2,mv 39 5,cl 40 124 [(.t 38),(.t 39)],cl 41 404 [(.t 40),(c 0)],st 29 4 41]
 .ret)
 (rg [bk 43 .eql 9 (u 70),mv 42 43]
 (.cond (.t 42)
 (rg [la 44 29 2,mv 45 5,cl 46 130 [(.t 44),(.t 45)],cl 47 404 [(.t 46),(c 0)],st 29 4 47]
 .ret)
 (.seq (rg [bk 49 .eql 9 (u 71),mv 48 49]
 (.cond (.t 48)
 .skip
 (.reg [bk 50 .eql 9 (u 96),mv 48 50])))
 (.cond (.t 48)
 (rg [la 51 29 2,mv 52 5,bk 53 .sub 52 (i 1),cl 54 404 [(.t 51),(.t 53)],st 29 4 54]
 .ret)
 (rg [bk 56 .eql 9 (u 100),mv 55 56]
 (.cond (.t 55)
 (rg [la 57 29 2,mv 58 5,bk 59 .sub 58 (i 1),fa 60 4 2,ld 61 1 60,cl 62 126 [(.t 57),(.t 59),(.t 61)],st 29 4 62]
 .ret)
 .skip))))))))))))))))))
 (.seq (.dreg [([],false,la 63 29 2),([0],false,mv 64 5),([0],false,bk 65 .sub 64 (i 1)),([0,1,2],false,la 66 7 3),([0,1,2],false,o 67 (.call true 411 [(.t 66),(c 1)])),([0,1,2],false,bk 68 .sub 67 (i 1)),([],true,cl 69 126 [(.t 63),(.t 65),(.t 68)]),([],true,st 29 4 69)])
 .ret))))⟩
def a149 : Ann := ⟨[],[m,m],[],[]⟩
def s149 : SFun := ⟨3,20,[],[(.cell 6 true 5,m),(.tmp 7,m)],
 (rg [bx 3 3 0,al 6 z3,mk 7 f]
 (.seq (rg [la 8 3 3,mv 9 1,mv 10 2,cl 11 162 [(.t 8),(.t 9),(.t 10)],o 12 (.una .not (.t 11))]
 (.cond (.t 12)
 (rg [o 13 (.build z3 []),st 5 6 13,mk 7 f]
 .ret)
 .skip))
 (rg [la 14 3 3,mv 15 1,cl 16 163 [(.t 14),(.t 15)],mv 17 2,ix 18 5 16 17,la 19 5 18,st 5 6 19,mk 7 w]
 .ret)))⟩
def a157 : Ann := ⟨[(6,[(1,m),(3,m),(12,m),(5,⟨true,0,false⟩),(9,⟨true,0,false⟩),(10,⟨true,0,false⟩),(11,⟨true,5,false⟩)])],[m],[],[6]⟩
def s157 : SFun := ⟨5,41,[],[(.cell 10 true 3,m)],
 (rg [bx 5 3 0,bx 9 3 4,al 10 [(i 0),(i 0),.sn]]
 (rg [la 13 3 5,cl 14 158 [(.t 13)],st 3 5 14]
 (.seq (rg [la 15 3 5,mv 16 1,cl 17 162 [(.t 15),(.t 16),(c 0)],o 18 (.una .not (.t 17))]
 (.cond (.t 18)
 (rg [la 19 3 5,st 3 10 19]
 .ret)
 .skip))
 (rg [la 20 3 5,mv 21 1,cl 22 163 [(.t 20),(.t 21)],mv 11 22]
 (.seq (rg [mv 23 2,o 24 (.mx [(.t 23),(c 0)]),mv 12 24]
 (.block 0 (.loopR [1,3,12,5,9,10,11]
 (.seq (rg [mv 25 12,mv 26 3,fa 27 1 5,ld 28 1 27,o 29 (.mn [(.t 26),(.t 28)]),bn 30 .lss 25 29]
 (.cond (.t 30)
 .skip
 (.exit 0)))
 (.seq (.block 1 (.reg [mv 33 11,mv 34 12,la 35 3 9,cl 36 106 [(.t 35)],ix 37 5 33 34,st 5 37 36]))
 (.reg [mv 31 12,bk 32 .add 31 (i 1),mv 12 32]))))))
 (rg [la 38 3 5,mv 39 1,cl 40 161 [(.t 38),(.t 39)],st 3 10 40]
 .ret))))))⟩
def a141 : Ann := ⟨[],[m],[],[]⟩
def s141 : SFun := ⟨5,52,[],[(.cell 10 true 3,m)],
 (rg [bx 5 3 0,bx 9 3 4,al 10 [(i 0),(i 0),.sn]]
 (.seq (rg [la 14 3 5,mv 15 1,mv 16 2,cl 17 149 [(.t 14),(.t 15),(.t 16)],mv 13 17,ex 18 13 0,ex 19 13 1,al 11 z3,st 5 11 18,mv 12 19]
 (rg [mv 20 12,o 21 (.una .not (.t 20))]
 (.cond (.t 21)
 (rg [la 22 3 5,cl 23 144 [(.t 22)],st 3 10 23]
 .ret)
 .skip)))
 (.seq (rg [mv 24 3]
 (.block 0 (rg [bk 26 .eql 24 (i 0),mv 25 26]
 (.cond (.t 25)
 (rg [la 27 3 5,mv 28 1,mv 29 2,fa 30 1 5,ld 31 1 30,la 32 3 9,cl 33 157 [(.t 27),(.t 28),(.t 29),(.t 31),(.t 32)],st 3 10 33]
 .ret)
 (rg [bk 35 .eql 24 (i 1),mv 34 35]
 (.cond (.t 34)
 (rg [la 36 3 5,mv 37 1,mv 38 2,bk 39 .add 38 (i 1),la 40 3 9,cl 41 157 [(.t 36),(.t 37),(c 0),(.t 39),(.t 40)],st 3 10 41]
 .ret)
 (rg [bk 43 .eql 24 (i 2),mv 42 43]
 (.cond (.t 42)
 (rg [la 44 3 5,mv 45 1,fa 46 1 5,ld 47 1 46,la 48 3 9,cl 49 157 [(.t 44),(.t 45),(c 0),(.t 47),(.t 48)],st 3 10 49]
 .ret)
 .skip))))))))
 (rg [la 50 3 5,cl 51 144 [(.t 50)],st 3 10 51]
 .ret))))⟩
def a139 : Ann := ⟨[(6,[(1,m),(3,m),(41,m),(42,m),(5,⟨true,0,false⟩),(9,⟨true,0,false⟩),(10,⟨true,0,false⟩),(13,⟨true,0,false⟩)])],[m],[],[]⟩
def s139 : SFun := ⟨5,69,[],[(.cell 10 true 3,m)],
 (rg [bx 5 3 0,bx 9 3 4,al 10 [(i 0),(i 0),.sn]]
 (.seq (rg [la 16 3 5,mv 17 1,mv 18 2,cl 19 149 [(.t 16),(.t 17),(.t 18)],mv 15 19,ex 20 15 0,ex 21 15 1,al 11 z3,st 5 11 20,mv 12 21]
 (rg [mv 22 12,o 23 (.una .not (.t 22)),mv 24 23,g 25 (.mv (.t 3)) 24 false,g 26 (.bin .lss (.t 25) (c 0)) 24 false,o 27 (.pick (.t 24) (.k w) (.t 26)),mv 28 27,g 29 (.mv (.t 3)) 28 false,g 30 (.bin .gtr (.t 29) (c 2)) 28 false,o 31 (.pick (.t 28) (.k w) (.t 30))]
 (.cond (.t 31)
 (rg [la 32 3 5,cl 33 144 [(.t 32)],st 3 10 33]
 .ret)
 .skip)))
 (rg [la 34 3 5,mv 35 1,mv 36 2,mv 37 3,la 38 3 9,cl 39 141 [(.t 34),(.t 35),(.t 36),(.t 37),(.t 38)],al 13 [(i 0),(i 0),.sn],st 3 13 39]
 (.seq (rg [fa 40 0 5,ld 41 1 40,mk 42 (i 0)]
 (.block 0 (.loop [(1,m),(3,m),(41,m),(42,m),(5,⟨true,0,false⟩),(9,⟨true,0,false⟩),(10,⟨true,0,false⟩),(13,⟨true,0,false⟩)]
 (rg [bn 43 .lss 42 41]
 (.seq (.cond (.t 43)
 .skip
 (.exit 0))
 (.seq (.block 1 (rg [mv 44 42,mv 14 44]
 (rg [mv 45 14,mv 46 1,bn 47 .gtr 45 46,mv 48 47,g 49 (.mv (.t 3)) 48 true,g 50 (.bin .neq (.t 49) (c 1)) 48 true,o 51 (.pick (.t 48) (.t 50) (.k f)),mv 52 51,g 53 (.mv (.t 14)) 52 false,g 54 (.mv (.t 1)) 52 false,g 55 (.bin .lss (.t 53) (.t 54)) 52 false,g 56 (.mv (.t 55)) 52 false,g 57 (.mv (.t 3)) 56 true,g 58 (.bin .neq (.t 57) (c 0)) 56 true,g 59 (.pick (.t 56) (.t 58) (.k f)) 52 false,o 60 (.pick (.t 52) (.k w) (.t 59))]
 (.cond (.t 60)
 (.reg [la 61 3 13,mv 62 14,fa 63 1 5,ld 64 1 63,la 65 3 9,cl 66 157 [(.t 61),(.t 62),(c 0),(.t 64),(.t 65)],st 3 13 66])
 .skip))))
 (.reg [bk 67 .add 42 (i 1),mv 42 67])))))))
 (rg [la 68 3 13,st 3 10 68]
 .ret)))))⟩
def a146 : Ann := ⟨[],[⟨true,5,false⟩],[],[]⟩
def s146 : SFun := ⟨3,52,[],[(.tmp 6,⟨true,5,false⟩)],
 (rg [bx 3 3 0,mk 6 .sn]
 (rg [fa 8 2 3,ld 9 1 8,mv 10 1,fa 11 1 3,ld 12 1 11,bn 13 .mul 10 12,mv 14 1,bk 15 .add 14 (i 1),fa 16 1 3,ld 17 1 16,bn 18 .mul 15 17,o 19 (.slc 5 (.t 9) (some (.t 13)) (some (.t 18))),cl 20 451 [(.t 19)],mv 7 20]
 (.seq (rg [mv 21 7,mv 22 2,ix 23 5 21 22,fa 24 1 23,ld 25 1 24,bk 26 .eql 25 (i 2),mv 27 26,g 28 (.mv (.t 2)) 27 true,g 29 (.bin .gtr (.t 28) (c 0)) 27 true,o 30 (.pick (.t 27) (.t 29) (.k f))]
 (.cond (.t 30)
 (.dreg [([],false,mv 31 7),([0],false,mv 32 2),([0],false,bk 33 .sub 32 (i 1)),([0,1,2],false,mv 34 7),([0,1,2,3],false,mv 35 2),([0,1,2,3,4],false,mv 36 7),([0,1,2,3,4,5],false,mv 37 2),([0,1,2,3,4,5],false,bk 38 .sub 37 (i 1)),([0,1,2,3,4],false,ix 39 5 36 38),([0,1,2,3,4],false,fa 40 2 39),([0,1,2,3,4],false,la 41 3 40),([0,1,2,3,4],false,o 42 (.call true 106 [(.t 41)])),([0,1,2,3,4,5,6,7,8,9,10,11],false,mv 43 7),([0,1,2,3,4,5,6,7,8,9,10,11,12],false,mv 44 2),([0,1,2,3,4,5,6,7,8,9,10,11],false,ix 45 5 43 44),([0,1,2,3,4,5,6,7,8,9,10,11],false,fa 46 2 45),([0,1,2,3,4,5,6,7,8,9,10,11],false,la 47 3 46),([0,1,2,3,4],false,o 48 (.call true 106 [(.t 47)])),([3,4],false,ix 49 5 31 33),([3,4],false,st 5 49 42),([],true,ix 50 5 34 35),([],true,st 5 50 48)])
 .skip))
 (rg [mv 51 7,mv 6 51]
 .ret))))⟩
def a148 : Ann := ⟨[],[m],[],[]⟩
def s148 : SFun := ⟨3,22,[],[(.cell 6 true 3,m)],
 (rg [bx 3 3 0,al 6 [(i 0),(i 0),.sn]]
 (rg [fa 7 2 3,ld 8 1 7,cl 9 451 [(.t 8)],fa 10 2 3,st 1 10 9]
 (.seq (.dreg [([],false,fa 11 2 3),([],false,ld 12 1 11),([0,1],false,mv 13 1),([0,1,2],false,fa 14 1 3),([0,1,2],false,ld 15 1 14),([0,1],false,bn 16 .mul 13 15),([],false,o 17 (.slc 5 (.t 12) (some (.t 16)) none)),([0,1,2,3,4,5,6],false,mv 18 2),([0,1,2,3,4,5,6],false,o 19 (.callr 150 [(.t 18)])),([],true,o 20 (.copy 5 (.t 17) (.t 19)))])
 (rg [la 21 3 3,st 3 6 21]
 .ret))))⟩
def a459 : Ann := ⟨[],[⟨true,5,false⟩],[],[]⟩
def s459 : SFun := ⟨2,27,[],[(.tmp 4,⟨true,5,false⟩)],
 (rg [mk 4 .sn]
 (.seq (rg [mv 5 1,bk 6 .lss 5 (i 0)]
 (.cond (.t 6)
 (.reg [o 7 (.bad),p (.bad)])
 .skip))
 (.seq (rg [mv 8 1,mv 9 0,o 10 (.capn (.t 9)),mv 11 0,ln 12 11,bn 13 .sub 10 12,bn 14 .sub 8 13,mv 1 14]
 (rg [mv 15 1,bk 16 .gtr 15 (i 0)]
 (.cond (.t 16)
 (.reg [mv 17 0,mv 18 0,o 19 (.capn (.t 18)),o 20 (.slc 5 (.t 17) none (some (.t 19))),mv 21 1,o 22 (.appz 5 40 z3 (.t 20) (.t 21)),mv 23 0,ln 24 23,o 25 (.slc 5 (.t 22) none (some (.t 24))),mv 0 25])
 .skip)))
 (rg [mv 26 0,mv 4 26]
 .ret))))⟩
def a452 : Ann := ⟨[(3,[(0,m),(3,m),(9,m),(10,m),(11,m)]),(11,[(25,m),(26,m),(27,m),(6,⟨true,5,false⟩)])],[⟨true,5,false⟩],[],[]⟩
def s452 : SFun := ⟨1,36,[],[(.tmp 2,⟨true,5,false⟩)],
 (rg [mk 2 .sn]
 (rg [mk 3 (i 0)]
 (.seq (rg [mv 9 0,ln 10 9,mk 11 (i 0)]
 (.block 0 (.loop [(0,m),(3,m),(9,m),(10,m),(11,m)]
 (rg [bn 12 .lss 11 10]
 (.seq (.cond (.t 12)
 .skip
 (.exit 0))
 (.seq (.block 1 (rg [ix 13 1 9 11,ld 14 1 13,mv 5 14]
 (rg [mv 15 3,mv 16 5,ln 17 16,bn 18 .add 15 17,mv 3 18]
 (rg [mv 19 3,bk 20 .lss 19 (i 0)]
 (.cond (.t 20)
 (.reg [o 21 (.bad),p (.bad)])
 .skip)))))
 (.reg [bk 22 .add 11 (i 1),mv 11 22])))))))
 (rg [mv 23 3,cl 24 459 [(.k .sn),(.t 23)],mv 6 24]
 (.seq (rg [mv 25 0,ln 26 25,mk 27 (i 0)]
 (.block 2 (.loop [(25,m),(26,m),(27,m),(6,⟨true,5,false⟩)]
 (rg [bn 28 .lss 27 26]
 (.seq (.cond (.t 28)
 .skip
 (.exit 2))
 (.seq (.block 3 (rg [ix 29 1 25 27,ld 30 1 29,mv 8 30]
 (.reg [mv 31 6,mv 32 8,o 33 (.append 5 40 (.t 31) (.t 32)),mv 6 33])))
 (.reg [bk 34 .add 27 (i 1),mv 27 34])))))))
 (rg [mv 35 6,mv 2 35]
 .ret))))))⟩
def a140 : Ann := ⟨[],[m],[],[]⟩
def s140 : SFun := ⟨5,54,[],[(.cell 10 true 3,m)],
 (rg [bx 5 3 0,bx 9 3 4,al 10 [(i 0),(i 0),.sn]]
 (.seq (rg [la 15 3 5,mv 16 1,mv 17 2,cl 18 149 [(.t 15),(.t 16),(.t 17)],mv 14 18,ex 19 14 0,ex 20 14 1,al 11 z3,st 5 11 19,mv 12 20]
 (rg [mv 21 12,o 22 (.una .not (.t 21))]
 (.cond (.t 22)
 (rg [la 23 3 5,cl 24 144 [(.t 23)],st 3 10 24]
 .ret)
 .skip)))
 (rg [la 25 3 5,mv 26 1,mv 27 2,cl 28 146 [(.t 25),(.t 26),(.t 27)],mv 13 28]
 (rg [mv 29 3,fa 30 1 5,ld 31 1 30,mv 32 2,bn 33 .sub 31 32,o 34 (.mn [(.t 29),(.t 33)]),o 35 (.mx [(c 0),(.t 34)]),mv 3 35]
 (.seq (.dreg [([],false,la 36 3 5),([0],false,mv 37 1),([0,1],false,mv 38 13),([0,1,2],false,mv 39 2),([0,1],false,o 40 (.slc 5 (.t 38) none (some (.t 39)))),([0,1,2,3,4],false,mv 41 3),([0,1,2,3,4,5],false,la 42 3 9),([0,1,2,3,4],false,o 43 (.callr 143 [(.t 41),(.t 42)])),([0,1,2,3,4,5,6,7],false,mv 44 13),([0,1,2,3,4,5,6,7,8],false,mv 45 2),([0,1,2,3,4,5,6,7,8,9],false,fa 46 1 5),([0,1,2,3,4,5,6,7,8,9],false,ld 47 1 46),([0,1,2,3,4,5,6,7,8,9,10,11],false,mv 48 3),([0,1,2,3,4,5,6,7,8,9],false,bn 49 .sub 47 48),([0,1,2,3,4,5,6,7],false,o 50 (.slc 5 (.t 44) (some (.t 45)) (some (.t 49)))),([0,1],false,o 51 (.bsl false 1 3 [.sn] [(0,(.t 40)),(1,(.t 43)),(2,(.t 50))])),([0,1],false,o 52 (.callr 452 [(.t 51)])),([],true,cl 53 148 [(.t 36),(.t 37),(.t 52)]),([],true,st 3 10 53)])
 .ret)))))⟩
def a137 : Ann := ⟨[],[m],[],[]⟩
def s137 : SFun := ⟨5,52,[],[(.cell 10 true 3,m)],
 (rg [bx 5 3 0,bx 9 3 4,al 10 [(i 0),(i 0),.sn]]
 (.seq (rg [la 15 3 5,mv 16 1,mv 17 2,cl 18 149 [(.t 15),(.t 16),(.t 17)],mv 14 18,ex 19 14 0,ex 20 14 1,al 11 z3,st 5 11 19,mv 12 20]
 (rg [mv 21 12,o 22 (.una .not (.t 21))]
 (.cond (.t 22)
 (rg [la 23 3 5,cl 24 144 [(.t 23)],st 3 10 24]
 .ret)
 .skip)))
 (rg [la 25 3 5,mv 26 1,mv 27 2,cl 28 146 [(.t 25),(.t 26),(.t 27)],mv 13 28]
 (rg [mv 29 3,fa 30 1 5,ld 31 1 30,mv 32 2,bn 33 .sub 31 32,o 34 (.mn [(.t 29),(.t 33)]),o 35 (.mx [(c 0),(.t 34)]),mv 3 35]
 (.seq (.dreg [([],false,la 36 3 5),([0],false,mv 37 1),([0,1],false,mv 38 13),([0,1,2],false,mv 39 2),([0,1],false,o 40 (.slc 5 (.t 38) none (some (.t 39)))),([0,1,2,3,4],false,mv 41 13),([0,1,2,3,4,5],false,mv 42 2),([0,1,2,3,4,5,6],false,mv 43 3),([0,1,2,3,4,5],false,bn 44 .add 42 43),([0,1,2,3,4],false,o 45 (.slc 5 (.t 41) (some (.t 44)) none)),([0,1,2,3,4,5,6,7,8,9],false,mv 46 3),([0,1,2,3,4,5,6,7,8,9,10],false,la 47 3 9),([0,1,2,3,4,5,6,7,8,9],false,o 48 (.callr 143 [(.t 46),(.t 47)])),([0,1],false,o 49 (.bsl false 1 3 [.sn] [(0,(.t 40)),(1,(.t 45)),(2,(.t 48))])),([0,1],false,o 50 (.callr 452 [(.t 49)])),([],true,cl 51 148 [(.t 36),(.t 37),(.t 50)]),([],true,st 3 10 51)])
 .ret)))))⟩
def a403 : Ann := ⟨[],[m],[],[]⟩
def s403 : SFun := ⟨2,76,[],[(.cell 4 true 29,m)],
 (rg [bx 2 29 0,bx 3 7 1,al 4 z0]
 (.seq (.dreg [([],false,la 9 7 3),([],false,o 10 (.call true 411 [(.t 9),(c 0)])),([0,1],false,la 11 7 3),([],false,o 12 (.call true 381 [(.t 11),(c 0),(c 0),(c 0),(c 65535)])),([0,1,2,3],false,la 13 29 2),([],false,o 14 (.call true 371 [(.t 13)])),([0,1,2,3,4,5],false,al 7 [(i 0),(i 0),(i 0)]),([],true,mv 5 10),([],true,mv 6 12),([],true,st 3 7 14)])
 (rg [fa 15 0 2,la 16 3 15,al 8 [(i 0),(i 0),.sn],st 3 8 16]
 (.seq (rg [fa 17 4 3,ld 18 1 17]
 (.block 0 (rg [bk 20 .eql 18 (u 74),mv 19 20]
 (.cond (.t 19)
 (.reg [la 21 3 8,fa 22 3 2,ld 23 1 22,fa 24 4 2,ld 25 1 24,mv 26 6,la 27 3 7,cl 28 139 [(.t 21),(.t 23),(.t 25),(.t 26),(.t 27)],st 3 8 28])
 (rg [bk 30 .eql 18 (u 75),mv 29 30]
 (.cond (.t 29)
 (.reg [la 31 3 8,fa 32 3 2,ld 33 1 32,fa 34 4 2,ld 35 1 34,mv 36 6,la 37 3 7,cl 38 141 [(.t 31),(.t 33),(.t 35),(.t 36),(.t 37)],st 3 8 38])
 (rg [bk 40 .eql 18 (u 64),mv 39 40]
 (.cond (.t 39)
 (.reg [la 41 3 8,fa 42 3 2,ld 43 1 42,fa 44 4 2,ld 45 1 44,mv 46 5,la 47 3 7,cl 48 140 [(.t 41),(.t 43),(.t 45),(.t 46),(.t 47)],st 3 8 48])
 (rg [bk 50 .eql 18 (u 80),mv 49 50]
 (.cond (.t 49)
 (.reg [la 51 3 8,fa 52 3 2,ld 53 1 52,fa 54 4 2,ld 55 1 54,mv 56 5,la 57 3 7,cl 58 137 [(.t 51),(.t 53),(.t 55),(.t 56),(.t 57)],st 3 8 58])
 (rg [bk 60 .eql 18 (u 88),mv 59 60]
 (.cond (.t 59)
 (.reg [la 61 3 8,fa 62 3 2,ld 63 1 62,fa 64 4 2,ld 65 1 64,fa 66 4 2,ld 67 1 66,mv 68 5,bn 69 .add 67 68,la 70 3 7,cl 71 157 [(.t 61),(.t 63),(.t 65),(.t 69),(.t 70)],st 3 8 71])
 .skip))))))))))))
 (rg [la 72 3 8,fa 73 0 2,st 3 73 72,fa 74 5 2,sk 1 74 f]
 (rg [la 75 29 2,st 29 4 75]
 .ret))))))⟩
def a414 : Ann := ⟨[],[m],[],[]⟩
def s414 : SFun := ⟨2,77,[],[(.cell 4 true 29,m)],
 (rg [bx 2 29 0,bx 3 7 1,al 4 z0]
 (.seq (.dreg [([],false,la 7 7 3),([],false,o 8 (.call true 411 [(.t 7),(c 0)])),([0,1],false,la 9 29 2),([],false,o 10 (.call true 371 [(.t 9)])),([0,1,2,3],false,al 6 [(i 0),(i 0),(i 0)]),([],true,mv 5 8),([],true,st 3 6 10)])
 (.seq (rg [fa 11 4 3,ld 12 1 11]
 (.block 0 (rg [bk 14 .eql 12 (u 83),mv 13 14]
 (.cond (.t 13)
 (rg [fa 15 0 2,la 16 3 15,fa 17 6 2,ld 18 1 17,fa 19 7 2,ld 20 1 19,mv 21 5,la 22 3 6,cl 23 142 [(.t 16),(.t 18),(.t 20),(.t 21),(.t 22)],fa 24 0 2,st 3 24 23]
 (rg [la 25 29 2,st 29 4 25]
 .ret))
 (rg [bk 27 .eql 12 (u 84),mv 26 27]
 (.cond (.t 26)
 (rg [fa 28 0 2,la 29 3 28,fa 30 6 2,ld 31 1 30,fa 32 7 2,ld 33 1 32,mv 34 5,la 35 3 6,cl 36 138 [(.t 29),(.t 31),(.t 33),(.t 34),(.t 35)],fa 37 0 2,st 3 37 36]
 (rg [la 38 29 2,st 29 4 38]
 .ret))
 .skip))))))
 (.seq (rg [fa 39 3 2,ld 40 1 39,fa 41 6 2,ld 42 1 41,bn 43 .lss 40 42,mv 44 43,g 45 (.fad 3 (.t 2)) 44 false,g 46 (.load false 1 (.t 45)) 44 false,g 47 (.fad 7 (.t 2)) 44 false,g 48 (.load false 1 (.t 47)) 44 false,g 49 (.bin .gtr (.t 46) (.t 48)) 44 false,o 50 (.pick (.t 44) (.k w) (.t 49))]
 (.cond (.t 50)
 (rg [la 51 29 2,st 29 4 51]
 .ret)
 .skip))
 (.seq (rg [fa 52 4 3,ld 53 1 52,bk 54 .eql 53 (u 76)]
 (.cond (.t 54)
 (.reg [fa 55 0 2,la 56 3 55,fa 57 3 2,ld 58 1 57,fa 59 7 2,ld 60 1 59,mv 61 5,la 62 3 6,cl 63 138 [(.t 56),(.t 58),(.t 60),(.t 61),(.t 62)],fa 64 0 2,st 3 64 63])
 (.reg [fa 65 0 2,la 66 3 65,fa 67 3 2,ld 68 1 67,fa 69 7 2,ld 70 1 69,mv 71 5,la 72 3 6,cl 73 142 [(.t 66),(.t 68),(.t 70),(.t 71),(.t 72)],fa 74 0 2,st 3 74 73])))
 (rg [la 75 29 2,cl 76 404 [(.t 75),(c 0)],st 29 4 76]
 .ret))))))⟩
def a348 : Ann := ⟨[],[m],[],[]⟩
def s348 : SFun := ⟨3,15,[],[(.tmp 6,m)],
 (rg [mk 6 f]
 (rg [mv 7 0,mv 8 1,bn 9 .geq 7 8,mv 10 9,g 11 (.mv (.t 0)) 10 true,g 12 (.mv (.t 2)) 10 true,g 13 (.bin .leq (.t 11) (.t 12)) 10 true,o 14 (.pick (.t 10) (.t 13) (.k f)),mv 6 14]
 .ret))⟩
def a343 : Ann := ⟨[],[m,m],[],[]⟩
def s343 : SFun := ⟨2,68,[],[(.tmp 4,m),(.tmp 5,m)],
 (rg [mk 4 (i 0),mk 5 (i 0)]
 (.seq (.block 0 (rg [mv 7 0,ln 8 7,bk 9 .geq 8 (i 2),mv 10 9,g 11 (.mv (.t 0)) 10 true,g 12 (.ixs 1 (.t 11) (c 0)) 10 true,g 13 (.load false 1 (.t 12)) 10 true,g 14 (.bin .eql (.t 13) (c 5)) 10 true,o 15 (.pick (.t 10) (.t 14) (.k f)),mv 6 15]
 (.cond (.t 6)
 (.seq (rg [mv 16 0,o 17 (.ixs 1 (.t 16) (c 1)),ld 18 1 17,cl 19 348 [(.t 18),(c 0),(c 255)]]
 (.cond (.t 19)
 (.reg [mv 20 0,o 21 (.ixs 1 (.t 20) (c 1)),ld 22 1 21,mv 1 22])
 .skip))
 (rg [mv 23 1,mv 4 23,mk 5 (i 2)]
 .ret))
 (rg [mv 25 0,ln 26 25,bk 27 .geq 26 (i 4),mv 28 27,g 29 (.mv (.t 0)) 28 true,g 30 (.ixs 1 (.t 29) (c 0)) 28 true,g 31 (.load false 1 (.t 30)) 28 true,g 32 (.bin .eql (.t 31) (c 2)) 28 true,o 33 (.pick (.t 28) (.t 32) (.k f)),mv 24 33]
 (.cond (.t 24)
 (.seq (rg [mv 34 0,o 35 (.ixs 1 (.t 34) (c 1)),ld 36 1 35,cl 37 348 [(.t 36),(c 0),(c 255)],mv 38 37,g 39 (.mv (.t 0)) 38 true,g 40 (.ixs 1 (.t 39) (c 2)) 38 true,g 41 (.load false 1 (.t 40)) 38 true,g 42 (.call false 348 [(.t 41),(c 0),(c 255)]) 38 true,o 43 (.pick (.t 38) (.t 42) (.k f)),mv 44 43,g 45 (.mv (.t 0)) 44 true,g 46 (.ixs 1 (.t 45) (c 3)) 44 true,g 47 (.load false 1 (.t 46)) 44 true,g 48 (.call false 348 [(.t 47),(c 0),(c 255)]) 44 true,o 49 (.pick (.t 44) (.t 48) (.k f))]
 (.cond (.t 49)
 (.dreg [([],false,mv 50 0),([],false,o 51 (.ixs 1 (.t 50) (c 1))),([],false,ld 52 1 51),([],false,bk 53 .shl 52 (q 16)),([],false,o 54 (.bin .or (c 16777216) (.t 53))),([0,1,2,3,4],false,mv 55 0),([0,1,2,3,4],false,o 56 (.ixs 1 (.t 55) (c 2))),([0,1,2,3,4],false,ld 57 1 56),([0,1,2,3,4],false,bk 58 .shl 57 (q 8)),([],false,bn 59 .or 54 58),([0,1,2,3,4,5,6,7,8,9],false,mv 60 0),([0,1,2,3,4,5,6,7,8,9],false,o 61 (.ixs 1 (.t 60) (c 3))),([0,1,2,3,4,5,6,7,8,9],false,ld 62 1 61),([],true,bn 63 .or 59 62),([],true,mv 1 63)])
 .skip))
 (rg [mv 64 1,mv 4 64,mk 5 (i 4)]
 .ret))
 .skip)))))
 (rg [mv 65 1,mv 66 0,ln 67 66,mv 4 65,mv 5 67]
 .ret)))⟩
def a345 : Ann := ⟨[],[⟨true,1,false⟩],[],[]⟩
def s345 : SFun := ⟨0,2,[],[(.tmp 0,⟨true,1,false⟩)],
 (rg [mk 0 .sn]
 (rg [o 1 (.bsl true 1 8 [(i 0)] [(0,(c 1)),(1,(c 2)),(2,(c 3)),(3,(c 4)),(4,(c 5)),(5,(c 7)),(6,(c 8)),(7,(c 9))]),mv 0 1]
 .ret))⟩
def a344 : Ann := ⟨[(2,[(0,m),(2,m),(5,m),(6,m),(7,m)])],[m],[],[]⟩
def s344 : SFun := ⟨1,18,[],[(.tmp 2,m)],
 (rg [mk 2 (i 0)]
 (.seq (rg [cl 5 345 [],ln 6 5,mk 7 (i 0)]
 (.block 0 (.loop [(0,m),(2,m),(5,m),(6,m),(7,m)]
 (rg [bn 8 .lss 7 6]
 (.seq (.cond (.t 8)
 .skip
 (.exit 0))
 (.seq (.block 1 (rg [mv 9 7,ix 10 1 5 7,ld 11 1 10,mv 3 9,mv 4 11]
 (rg [mv 12 4,mv 13 0,bn 14 .eql 12 13]
 (.cond (.t 14)
 (rg [mv 15 3,o 16 (.bin .shl (c 1) (.t 15)),mv 2 16]
 .ret)
 .skip))))
 (.reg [bk 17 .add 7 (i 1),mv 7 17])))))))
 (rg [mk 2 (i 0)]
 .ret)))⟩
def a346 : Ann := ⟨[],[m],[],[]⟩
def s346 : SFun := ⟨2,67,[],[(.cell 4 true 3,m)],
 (rg [bx 2 3 0,al 4 [(i 0),(i 0),(i 0)]]
 (.seq (.block 0 (rg [mv 12 1,bk 13 .eql 12 (i 0),mv 11 13]
 (.cond (.t 11)
 (rg [cl 14 107 [],st 3 4 14]
 .ret)
 (rg [mv 16 1,bk 17 .eql 16 (i 22),mv 15 17]
 (.cond (.t 15)
 (.reg [fa 18 2 2,ld 19 1 18,bk 20 .andNot 19 (i 3),fa 21 2 2,st 1 21 20])
 (rg [mv 23 1,cl 24 348 [(.t 23),(c 23),(c 29)],mv 22 24]
 (.cond (.t 22)
 (.dreg [([],false,fa 25 2 2),([],false,ld 26 1 25),([0,1],false,mv 27 1),([0,1],false,bk 28 .sub 27 (i 20)),([0,1],false,o 29 (.call true 344 [(.t 28)])),([],true,bn 30 .andNot 26 29),([],true,fa 31 2 2),([],true,st 1 31 30)])
 (rg [mv 33 1,cl 34 348 [(.t 33),(c 30),(c 37)],mv 32 34]
 (.cond (.t 32)
 (.reg [mv 35 1,bk 36 .sub 35 (i 30),fa 37 0 2,st 1 37 36])
 (rg [mv 39 1,cl 40 348 [(.t 39),(c 40),(c 47)],mv 38 40]
 (.cond (.t 38)
 (.reg [mv 41 1,bk 42 .sub 41 (i 40),fa 43 1 2,st 1 43 42])
 (rg [mv 45 1,cl 46 348 [(.t 45),(c 90),(c 97)],mv 44 46]
 (.cond (.t 44)
 (.reg [mv 47 1,bk 48 .sub 47 (i 90),bk 49 .add 48 (i 8),fa 50 0 2,st 1 50 49])
 (rg [mv 52 1,cl 53 348 [(.t 52),(c 100),(c 107)],mv 51 53]
 (.cond (.t 51)
 (.reg [mv 54 1,bk 55 .sub 54 (i 100),bk 56 .add 55 (i 8),fa 57 1 2,st 1 57 56])
 (rg [mv 59 1,bk 60 .eql 59 (i 39),mv 58 60]
 (.cond (.t 58)
 (.reg [fa 61 0 2,sk 1 61 (i (-1))])
 (rg [mv 63 1,bk 64 .eql 63 (i 49),mv 62 64]
 (.cond (.t 62)
 (.reg [fa 65 1 2,sk 1 65 (i (-1))])
 (.dreg [([],false,fa 5 2 2),([],false,ld 6 1 5),([0,1],false,mv 7 1),([0,1],false,o 8 (.call true 344 [(.t 7)])),([],true,bn 9 .or 6 8),([],true,fa 10 2 2),([],true,st 1 10 9)]))))))))))))))))))))
 (rg [la 66 3 2,st 3 4 66]
 .ret)))⟩
def a340 : Ann := ⟨[(5,[(17,m),(18,m),(19,m),(2,⟨true,0,false⟩),(4,⟨true,0,false⟩),(5,⟨true,1,false⟩)]),(11,[(5,m),(2,⟨true,0,false⟩),(4,⟨true,0,false⟩)])],[m],[],[]⟩
def s340 : SFun := ⟨2,70,[],[(.cell 4 true 3,m)],
 (rg [bx 2 3 0,al 4 [(i 0),(i 0),(i 0)]]
 (.seq (rg [mv 10 1,ln 11 10,bk 12 .eql 11 (i 0)]
 (.cond (.t 12)
 (rg [cl 13 107 [],st 3 4 13]
 .ret)
 .skip))
 (rg [mv 14 1,ln 15 14,o 16 (.mksl 1 8 [(i 0)] (.t 15)),mv 5 16]
 (.seq (rg [mv 17 1,ln 18 17,mk 19 (i 0)]
 (.block 0 (.loop [(17,m),(18,m),(19,m),(2,⟨true,0,false⟩),(4,⟨true,0,false⟩),(5,⟨true,1,false⟩)]
 (rg [bn 20 .lss 19 18]
 (.seq (.cond (.t 20)
 .skip
 (.exit 0))
 (.seq (.block 1 (rg [mv 21 19,ix 22 1 17 19,ld 23 1 22,mv 6 21,mv 7 23]
 (rg [mv 24 5,mv 25 6,mv 26 7,ix 27 1 24 25,st 1 27 26]
 (rg [mv 28 7,bk 29 .eql 28 (i (-1))]
 (.cond (.t 29)
 (.reg [mv 30 5,mv 31 6,ix 32 1 30 31,sk 1 32 (i 0)])
 .skip)))))
 (.reg [bk 33 .add 19 (i 1),mv 19 33])))))))
 (.seq (.block 2 (.loop [(5,m),(2,⟨true,0,false⟩),(4,⟨true,0,false⟩)]
 (.seq (rg [mv 34 5,ln 35 34,bk 36 .gtr 35 (i 0)]
 (.cond (.t 36)
 .skip
 (.exit 2)))
 (.block 3 (rg [mv 37 5,o 38 (.ixs 1 (.t 37) (c 0)),ld 39 1 38,mv 8 39,mk 9 (i 0)]
 (rg [mv 40 5,o 41 (.slc 1 (.t 40) (some (c 1)) none),mv 5 41]
 (.seq (rg [mv 42 8]
 (.block 4 (rg [bk 47 .eql 42 (i 38),mv 46 47]
 (.cond (.t 46)
 (.reg [mv 49 5,fa 50 0 2,ld 51 1 50,cl 52 343 [(.t 49),(.t 51)],mv 48 52,ex 53 48 0,ex 54 48 1,fa 55 0 2,st 1 55 53,mv 9 54])
 (rg [bk 57 .eql 42 (i 48),mv 56 57]
 (.cond (.t 56)
 (.reg [mv 59 5,fa 60 1 2,ld 61 1 60,cl 62 343 [(.t 59),(.t 61)],mv 58 62,ex 63 58 0,ex 64 58 1,fa 65 1 2,st 1 65 63,mv 9 64])
 (.reg [la 43 3 2,mv 44 8,cl 45 346 [(.t 43),(.t 44)],st 3 2 45])))))))
 (.reg [mv 66 5,mv 67 9,o 68 (.slc 1 (.t 66) (some (.t 67)) none),mv 5 68]))))))))
 (rg [la 69 3 2,st 3 4 69]
 .ret))))))⟩
def a412 : Ann := ⟨[],[m],[],[]⟩
def s412 : SFun := ⟨2,29,[],[(.cell 4 true 29,m)],
 (rg [bx 2 29 0,bx 3 7 1,al 4 z0]
 (.seq (.dreg [([],false,la 7 7 3),([],false,o 8 (.call true 411 [(.t 7),(c 0)])),([],false,bk 9 .sub 8 (i 1)),([0,1,2],false,la 10 7 3),([0,1,2,3],false,fa 11 0 2),([0,1,2,3],false,fa 12 0 11),([0,1,2,3],false,ld 13 1 12),([0,1,2,3,4,5,6],false,fa 14 0 2),([0,1,2,3,4,5,6],false,fa 15 0 14),([0,1,2,3,4,5,6],false,ld 16 1 15),([2],false,o 17 (.call true 381 [(.t 10),(c 1),(.t 13),(c 1),(.t 16)])),([2],false,bk 18 .sub 17 (i 1)),([11],false,mv 5 9),([],true,mv 6 18)])
 (.seq (rg [mv 19 5,mv 20 6,bn 21 .geq 19 20]
 (.cond (.t 21)
 (rg [la 22 29 2,st 29 4 22]
 .ret)
 .skip))
 (rg [mv 23 5,mv 24 6,fa 25 6 2,st 1 25 23,fa 26 7 2,st 1 26 24]
 (rg [la 27 29 2,cl 28 127 [(.t 27)],st 29 4 28]
 .ret)))))⟩
def a416 : Ann := ⟨[(2,[(0,m),(7,m),(8,m),(9,m)])],[m],[],[]⟩
def s416 : SFun := ⟨2,19,[],[(.tmp 4,m)],
 (rg [mk 4 (q 0)]
 (.seq (rg [mv 7 1,ln 8 7,mk 9 (i 0)]
 (.block 0 (.loop [(0,m),(7,m),(8,m),(9,m)]
 (rg [bn 10 .lss 9 8]
 (.seq (.cond (.t 10)
 .skip
 (.exit 0))
 (.seq (.block 1 (rg [ix 11 1 7 9,ld 12 1 11,mv 6 12]
 (.reg [mv 13 0,mv 14 6,cl 15 422 [(.t 14)],bn 16 .andNot 13 15,mv 0 16])))
 (.reg [bk 17 .add 9 (i 1),mv 9 17])))))))
 (rg [mv 18 0,mv 4 18]
 .ret)))⟩
def a408 : Ann := ⟨[],[m],[],[]⟩
def s408 : SFun := ⟨2,19,[],[(.cell 4 true 29,m)],
 (rg [bx 2 29 0,al 4 z0]
 (.seq (rg [mv 5 1]
 (.block 0 (rg [bk 7 .eql 5 (i 0),mv 6 7]
 (.cond (.t 6)
 (.reg [fa 8 11 2,ld 9 1 8,fa 10 4 2,ld 11 1 10,o 12 (.bsl false 1 1 [(i 0)] [(0,(.t 11))]),cl 13 416 [(.t 9),(.t 12)],fa 14 11 2,st 1 14 13])
 (rg [bk 16 .eql 5 (i 3),mv 15 16]
 (.cond (.t 15)
 (.reg [fa 17 11 2,sk 1 17 (q 0)])
 .skip))))))
 (rg [la 18 29 2,st 29 4 18]
 .ret)))⟩
def a405 : Ann := ⟨[],[m],[],[]⟩
def s405 : SFun := ⟨2,84,[],[(.cell 4 true 29,m)],
 (rg [bx 2 29 0,bx 3 7 1,al 4 z0]
 (.seq (.block 0 (rg [fa 6 3 3,ld 7 1 6,bk 8 .neq 7 (u 0),mv 5 8]
 (.cond (.t 5)
 (rg [la 9 29 2,st 29 4 9]
 .ret)
 (rg [fa 11 2 3,ld 12 1 11,bk 13 .eql 12 (u 63),mv 10 13]
 (.cond (.t 10)
 (rg [la 14 29 2,la 15 7 3,cl 16 415 [(.t 14),(.t 15)],st 29 4 16]
 .ret)
 (rg [fa 18 2 3,ld 19 1 18,bk 20 .neq 19 (u 0),mv 17 20]
 (.cond (.t 17)
 (rg [la 21 29 2,st 29 4 21]
 .ret)
 .skip)))))))
 (.seq (rg [fa 22 4 3,ld 23 1 22]
 (.block 1 (.seq (rg [bk 25 .eql 23 (u 65),mv 24 25]
 (.cond (.t 24)
 .skip
 (rg [bk 26 .eql 23 (u 66),mv 24 26]
 (.cond (.t 24)
 .skip
 (rg [bk 27 .eql 23 (u 67),mv 24 27]
 (.cond (.t 24)
 .skip
 (rg [bk 28 .eql 23 (u 68),mv 24 28]
 (.cond (.t 24)
 .skip
 (rg [bk 29 .eql 23 (u 69),mv 24 29]
 (.cond (.t 24)
 .skip
 (rg [bk 30 .eql 23 (u 70),mv 24 30]
 (.cond (.t 24)
 .skip
 (rg [bk 31 .eql 23 (u 71),mv 24 31]
 (.cond (.t 24)
 .skip
 (rg [bk 32 .eql 23 (u 96),mv 24 32]
 (.cond (.t 24)
 .skip
 (rg [bk 33 .eql 23 (u 100),mv 24 33]
 (.cond (.t 24)
 .skip
 (rg [bk 34 .eql 23 (u 72),mv 24 34]
 (.cond (.t 24)
 .skip
 (.reg [bk 35 .eql 23 (u 102),mv 24 35])))))))))))))))))))))
 (.cond (.t 24)
 (rg [la 36 29 2,la 37 7 3,cl 38 413 [(.t 36),(.t 37)],st 29 4 38]
 .ret)
 (.seq (rg [bk 40 .eql 23 (u 74),mv 39 40]
 (.cond (.t 39)
 .skip
 (rg [bk 41 .eql 23 (u 75),mv 39 41]
 (.cond (.t 39)
 .skip
 (rg [bk 42 .eql 23 (u 64),mv 39 42]
 (.cond (.t 39)
 .skip
 (rg [bk 43 .eql 23 (u 80),mv 39 43]
 (.cond (.t 39)
 .skip
 (.reg [bk 44 .eql 23 (u 88),mv 39 44])))))))))
 (.cond (.t 39)
 (rg [la 45 29 2,la 46 7 3,cl 47 403 [(.t 45),(.t 46)],st 29 4 47]
 .ret)
 (.seq (rg [bk 49 .eql 23 (u 76),mv 48 49]
 (.cond (.t 48)
 .skip
 (rg [bk 50 .eql 23 (u 77),mv 48 50]
 (.cond (.t 48)
 .skip
 (rg [bk 51 .eql 23 (u 83),mv 48 51]
 (.cond (.t 48)
 .skip
 (.reg [bk 52 .eql 23 (u 84),mv 48 52])))))))
 (.cond (.t 48)
 (rg [la 53 29 2,la 54 7 3,cl 55 414 [(.t 53),(.t 54)],st 29 4 55]
 .ret)
 (rg [bk 57 .eql 23 (u 109),mv 56 57]
 (.cond (.t 56)
 (.reg [fa 58 8 2,la 59 3 58,fa 60 5 3,ld 61 1 60,cl 62 340 [(.t 59),(.t 61)],fa 63 8 2,st 3 63 62])
 (rg [bk 65 .eql 23 (u 114),mv 64 65]
 (.cond (.t 64)
 (rg [la 66 29 2,la 67 7 3,cl 68 412 [(.t 66),(.t 67)],st 29 4 68]
 .ret)
 (rg [bk 70 .eql 23 (u 103),mv 69 70]
 (.cond (.t 69)
 (.seq (.dreg [([],false,la 71 29 2),([0],false,la 72 7 3),([0],false,o 73 (.callr 381 [(.t 72),(c 0),(c 0),(c 0),(c 65535)])),([],true,cl 74 408 [(.t 71),(.t 73)]),([],true,st 29 4 74)])
 .ret)
 (rg [bk 76 .eql 23 (u 115),mv 75 76]
 (.cond (.t 75)
 (rg [la 77 29 2,cl 78 129 [(.t 77)],st 29 4 78]
 .ret)
 (rg [bk 80 .eql 23 (u 117),mv 79 80]
 (.cond (.t 79)
 (rg [la 81 29 2,cl 82 128 [(.t 81)],st 29 4 82]
 .ret)
 .skip))))))))))))))))))
 (rg [la 83 29 2,st 29 4 83]
 .ret))))⟩
def a400 : Ann := ⟨[],[m],[],[]⟩
def s400 : SFun := ⟨2,32,[],[(.cell 4 true 29,m)],
 (rg [bx 2 29 0,bx 3 7 1,al 4 z0]
 (rg [la 5 29 2,cl 6 370 [(.t 5)],st 29 2 6]
 (.seq (rg [fa 7 0 3,ld 8 1 7]
 (.block 0 (rg [bk 10 .eql 8 (i 1),mv 9 10]
 (.cond (.t 9)
 (rg [la 11 29 2,fa 12 1 3,ld 13 1 12,cl 14 402 [(.t 11),(.t 13)],st 29 4 14]
 .ret)
 (rg [bk 16 .eql 8 (i 2),mv 15 16]
 (.cond (.t 15)
 (rg [la 17 29 2,fa 18 4 3,ld 19 1 18,cl 20 410 [(.t 17),(.t 19)],st 29 4 20]
 .ret)
 (rg [bk 22 .eql 8 (i 3),mv 21 22]
 (.cond (.t 21)
 (rg [la 23 29 2,la 24 7 3,cl 25 409 [(.t 23),(.t 24)],st 29 4 25]
 .ret)
 (rg [bk 27 .eql 8 (i 4),mv 26 27]
 (.cond (.t 26)
 (rg [la 28 29 2,la 29 7 3,cl 30 405 [(.t 28),(.t 29)],st 29 4 30]
 .ret)
 .skip))))))))))
 (rg [la 31 29 2,st 29 4 31]
 .ret))))⟩
def a426 : Ann := ⟨[],[m],[],[]⟩
def s426 : SFun := ⟨1,5,[],[(.cell 2 true 7,m)],
 (rg [al 2 [(i 0),(r 0),(u 0),(u 0),(u 0),.sn,(D.str [])]]
 (rg [mv 3 0,o 4 (.build [(i 0),(r 0),(u 0),(u 0),(u 0),.sn,(D.str [])] [(0,1,(c 4)),(4,1,(.t 3))]),st 7 2 4]
 .ret))⟩
def a429 : Ann := ⟨[],[m],[],[]⟩
def s429 : SFun := ⟨2,17,[],[(.cell 4 true 29,m)],
 (rg [bx 2 29 0,al 4 z0]
 (.seq (rg [mv 5 1]
 (.block 0 (rg [bk 7 .eql 5 (u 73),mv 6 7]
 (.cond (.t 6)
 (rg [la 8 29 2,cl 9 123 [(.t 8)],st 29 4 9]
 .ret)
 (rg [bk 11 .eql 5 (u 89),mv 10 11]
 (.cond (.t 10)
 (rg [la 12 29 2,st 29 4 12]
 .ret)
 .skip))))))
 (.seq (.dreg [([],false,la 13 29 2),([0],false,mv 14 1),([0],false,o 15 (.callr 426 [(.t 14)])),([],true,cl 16 400 [(.t 13),(.t 15)]),([],true,st 29 4 16)])
 .ret)))⟩
def a463 : Ann := ⟨[(2,[(0,m),(1,m),(4,m),(7,m),(8,m)])],[m],[],[]⟩
def s463 : SFun := ⟨2,19,[],[(.tmp 4,m)],
 (rg [mk 4 (i 0)]
 (.seq (rg [mv 6 0,ln 7 6,mk 8 (i 0)]
 (.block 0 (.loop [(0,m),(1,m),(4,m),(7,m),(8,m)]
 (rg [bn 9 .lss 8 7]
 (.seq (.cond (.t 9)
 .skip
 (.exit 0))
 (.seq (.block 1 (rg [mv 10 8,mv 5 10]
 (rg [mv 11 1,mv 12 0,mv 13 5,ix 14 1 12 13,ld 15 1 14,bn 16 .eql 11 15]
 (.cond (.t 16)
 (rg [mv 17 5,mv 4 17]
 .ret)
 .skip))))
 (.reg [bk 18 .add 8 (i 1),mv 8 18])))))))
 (rg [mk 4 (i (-1))]
 .ret)))⟩
def a455 : Ann := ⟨[],[m],[],[]⟩
def s455 : SFun := ⟨2,9,[],[(.tmp 4,m)],
 (rg [mk 4 f]
 (rg [mv 5 0,mv 6 1,cl 7 463 [(.t 5),(.t 6)],bk 8 .geq 7 (i 0),mv 4 8]
 .ret))⟩
def a430 : Ann := ⟨[],[m],[],[]⟩
def s430 : SFun := ⟨3,15,[],[(.tmp 6,m)],
 (rg [mk 6 f]
 (rg [mv 7 0,mv 8 1,bn 9 .geq 7 8,mv 10 9,g 11 (.mv (.t 0)) 10 true,g 12 (.mv (.t 2)) 10 true,g 13 (.bin .leq (.t 11) (.t 12)) 10 true,o 14 (.pick (.t 10) (.t 13) (.k f)),mv 6 14]
 .ret))⟩
def a427 : Ann := ⟨[],[m],[],[]⟩
def s427 : SFun := ⟨2,30,[],[(.tmp 4,m)],
 (rg [mk 4 f]
 (.seq (rg [mv 5 1,bk 6 .eql 5 (i (-1)),mv 7 6,g 8 (.bsl false 1 5 [(i 0)] [(0,(c 0)),(1,(c 1)),(2,(c 4)),(3,(c 5)),(4,(c 7))]) 7 false,g 9 (.mv (.t 1)) 7 false,g 10 (.call false 455 [(.t 8),(.t 9)]) 7 false,o 11 (.pick (.t 7) (.k w) (.t 10))]
 (.cond (.t 11)
 (rg [mk 4 w]
 .ret)
 .skip))
 (rg [mv 12 0,bk 13 .eql 12 (i 2),mv 14 13,g 15 (.mv (.t 1)) 14 true,g 16 (.call false 430 [(.t 15),(c 30),(c 37)]) 14 true,g 17 (.mv (.t 16)) 14 true,g 18 (.mv (.t 1)) 17 false,g 19 (.call false 430 [(.t 18),(c 40),(c 47)]) 17 false,g 20 (.pick (.t 17) (.k w) (.t 19)) 14 true,g 21 (.mv (.t 20)) 14 true,g 22 (.mv (.t 1)) 21 false,g 23 (.bin .eql (.t 22) (c 39)) 21 false,g 24 (.pick (.t 21) (.k w) (.t 23)) 14 true,g 25 (.mv (.t 24)) 14 true,g 26 (.mv (.t 1)) 25 false,g 27 (.bin .eql (.t 26) (c 49)) 25 false,g 28 (.pick (.t 25) (.k w) (.t 27)) 14 true,o 29 (.pick (.t 14) (.t 28) (.k f)),mv 4 29]
 .ret)))⟩
def a334 : Ann := ⟨[],[⟨true,1,false⟩],[],[]⟩
def s334 : SFun := ⟨0,2,[],[(.tmp 0,⟨true,1,false⟩)],
 (rg [mk 0 .sn]
 (rg [o 1 (.bsl true 1 4 [(i 0)] [(0,(c 1)),(1,(c 6)),(2,(c 7)),(3,(c 25))]),mv 0 1]
 .ret))⟩
def a335 : Ann := ⟨[],[m],[],[]⟩
def s335 : SFun := ⟨1,6,[],[(.tmp 2,m)],
 (rg [mk 2 f]
 (rg [cl 3 334 [],mv 4 0,cl 5 455 [(.t 3),(.t 4)],mv 2 5]
 .ret))⟩
def a428 : Ann := ⟨[],[m],[],[]⟩
def s428 : SFun := ⟨2,15,[],[(.tmp 4,m)],
 (rg [mk 4 f]
 (rg [mv 5 1,cl 6 335 [(.t 5)],mv 7 6,g 8 (.mv (.t 0)) 7 true,g 9 (.bin .neq (.t 8) (c 1)) 7 true,g 10 (.mv (.t 9)) 7 true,g 11 (.mv (.t 1)) 10 false,g 12 (.bin .neq (.t 11) (c 25)) 10 false,g 13 (.pick (.t 10) (.k w) (.t 12)) 7 true,o 14 (.pick (.t 7) (.t 13) (.k f)),mv 4 14]
 .ret))⟩
def a425 : Ann := ⟨[],[m],[],[]⟩
def s425 : SFun := ⟨3,31,[],[(.tmp 6,m)],
 (rg [bx 4 7 1,mk 6 f]
 (.seq (.block 0 (rg [fa 8 0 4,ld 9 1 8,bk 10 .eql 9 (i 4),mv 11 10,g 12 (.fad 4 (.t 4)) 11 true,g 13 (.load false 1 (.t 12)) 11 true,g 14 (.bin .eql (.t 13) (.k (u 109))) 11 true,o 15 (.pick (.t 11) (.t 14) (.k f)),mv 7 15]
 (.cond (.t 7)
 (rg [mv 16 0,mv 17 2,cl 18 427 [(.t 16),(.t 17)],mv 6 18]
 .ret)
 (rg [fa 20 0 4,ld 21 1 20,bk 22 .eql 21 (i 4),mv 23 22,g 24 (.fad 2 (.t 4)) 23 true,g 25 (.load false 1 (.t 24)) 23 true,g 26 (.bin .eql (.t 25) (.k (u 63))) 23 true,o 27 (.pick (.t 23) (.t 26) (.k f)),mv 19 27]
 (.cond (.t 19)
 (rg [mv 28 0,mv 29 2,cl 30 428 [(.t 28),(.t 29)],mv 6 30]
 .ret)
 .skip)))))
 (rg [mk 6 w]
 .ret)))⟩
def a423 : Ann := ⟨[(10,[(0,m),(39,m),(40,m),(41,m),(4,⟨true,0,false⟩),(5,⟨true,0,false⟩),(6,⟨true,0,false⟩),(7,⟨true,1,false⟩)])],[m],[],[]⟩
def s423 : SFun := ⟨3,63,[],[(.cell 6 true 29,m)],
 (rg [bx 4 29 1,bx 5 7 2,al 6 z0]
 (rg [la 10 29 4,cl 11 370 [(.t 10)],st 29 4 11]
 (.seq (.block 0 (rg [mv 13 0,la 14 7 5,cl 15 132 [(.t 13),(.t 14)],o 16 (.una .not (.t 15)),mv 12 16]
 (.cond (.t 12)
 (rg [la 17 29 4,st 29 6 17]
 .ret)
 (rg [mv 19 0,bk 20 .eql 19 (i 3),mv 21 20,g 22 (.fad 0 (.t 5)) 21 true,g 23 (.load false 1 (.t 22)) 21 true,g 24 (.bin .eql (.t 23) (c 3)) 21 true,o 25 (.pick (.t 21) (.t 24) (.k f)),mv 18 25]
 (.cond (.t 18)
 (rg [la 26 29 4,fa 27 4 5,ld 28 1 27,cl 29 429 [(.t 26),(.t 28)],st 29 6 29]
 .ret)
 (rg [fa 31 5 5,ld 32 1 31,ln 33 32,bk 34 .eql 33 (i 0),mv 30 34]
 (.cond (.t 30)
 (rg [la 35 29 4,la 36 7 5,cl 37 400 [(.t 35),(.t 36)],st 29 6 37]
 .ret)
 .skip)))))))
 (rg [mk 7 .sn]
 (.seq (rg [fa 38 5 5,ld 39 1 38,ln 40 39,mk 41 (i 0)]
 (.block 1 (.loop [(0,m),(39,m),(40,m),(41,m),(4,⟨true,0,false⟩),(5,⟨true,0,false⟩),(6,⟨true,0,false⟩),(7,⟨true,1,false⟩)]
 (rg [bn 42 .lss 41 40]
 (.seq (.cond (.t 42)
 .skip
 (.exit 1))
 (.seq (.block 2 (rg [ix 43 1 39 41,ld 44 1 43,mv 9 44]
 (rg [mv 45 0,la 46 7 5,mv 47 9,cl 48 425 [(.t 45),(.t 46),(.t 47)]]
 (.cond (.t 48)
 (.reg [mv 49 7,mv 50 9,o 51 (.bsl false 1 1 [(i 0)] [(0,(.t 50))]),o 52 (.append 1 8 (.t 49) (.t 51)),mv 7 52])
 .skip))))
 (.reg [bk 53 .add 41 (i 1),mv 41 53])))))))
 (.seq (rg [mv 54 7,ln 55 54,bk 56 .eql 55 (i 0)]
 (.cond (.t 56)
 (rg [la 57 29 4,st 29 6 57]
 .ret)
 .skip))
 (rg [mv 58 7,fa 59 5 5,st 1 59 58]
 (rg [la 60 29 4,la 61 7 5,cl 62 400 [(.t 60),(.t 61)],st 29 6 62]
 .ret))))))))⟩
def a173 : Ann := ⟨[(4,[(0,m),(1,m),(4,m),(5,m)])],[m],[],[]⟩
def s173 : SFun := ⟨2,26,[],[(.tmp 4,m)],
 (rg [mk 4 f]
 (.seq (rg [mv 6 0,ln 7 6,mv 8 1,ln 9 8,bn 10 .neq 7 9]
 (.cond (.t 10)
 (rg [mk 4 f]
 .ret)
 .skip))
 (.seq (rg [mk 5 (i 0)]
 (.block 0 (.loop [(0,m),(1,m),(4,m),(5,m)]
 (.seq (rg [mv 11 5,mv 12 0,ln 13 12,bn 14 .lss 11 13]
 (.cond (.t 14)
 .skip
 (.exit 0)))
 (.seq (.block 1 (.seq (.dreg [([],false,mv 17 0),([0],false,mv 18 5),([],false,ix 19 5 17 18),([],false,la 20 5 19),([0,1,2,3],false,mv 21 1),([0,1,2,3,4],false,mv 22 5),([0,1,2,3],false,ix 23 5 21 22),([0,1,2,3],false,la 24 5 23),([],true,o 25 (.eqa true [1,1,1,1,1] (.t 20) (.t 24)))])
 (.cond (.t 25)
 (rg [mk 4 f]
 .ret)
 .skip)))
 (.reg [mv 15 5,bk 16 .add 15 (i 1),mv 5 16]))))))
 (rg [mk 4 w]
 .ret))))⟩
def a177 : Ann := ⟨[],[m],[],[]⟩
def s177 : SFun := ⟨2,135,[],[(.tmp 4,m)],
 (rg [bx 2 29 0,bx 3 29 1,mk 4 f]
 (rg [fa 5 0 2,fa 6 0 5,ld 7 1 6,fa 8 0 3,fa 9 0 8,ld 10 1 9,bn 11 .eql 7 10,mv 12 11,g 13 (.fad 0 (.t 2)) 12 true,g 14 (.fad 1 (.t 13)) 12 true,g 15 (.load false 1 (.t 14)) 12 true,g 16 (.fad 0 (.t 3)) 12 true,g 17 (.fad 1 (.t 16)) 12 true,g 18 (.load false 1 (.t 17)) 12 true,g 19 (.bin .eql (.t 15) (.t 18)) 12 true,o 20 (.pick (.t 12) (.t 19) (.k f)),mv 21 20,g 22 (.fad 0 (.t 2)) 21 true,g 23 (.fad 2 (.t 22)) 21 true,g 24 (.load false 1 (.t 23)) 21 true,g 25 (.fad 0 (.t 3)) 21 true,g 26 (.fad 2 (.t 25)) 21 true,g 27 (.load false 1 (.t 26)) 21 true,g 28 (.call false 173 [(.t 24),(.t 27)]) 21 true,o 29 (.pick (.t 21) (.t 28) (.k f)),mv 30 29,g 31 (.fad 3 (.t 2)) 30 true,g 32 (.load false 1 (.t 31)) 30 true,g 33 (.fad 3 (.t 3)) 30 true,g 34 (.load false 1 (.t 33)) 30 true,g 35 (.bin .eql (.t 32) (.t 34)) 30 true,o 36 (.pick (.t 30) (.t 35) (.k f)),mv 37 36,g 38 (.fad 4 (.t 2)) 37 true,g 39 (.load false 1 (.t 38)) 37 true,g 40 (.fad 4 (.t 3)) 37 true,g 41 (.load false 1 (.t 40)) 37 true,g 42 (.bin .eql (.t 39) (.t 41)) 37 true,o 43 (.pick (.t 37) (.t 42) (.k f)),mv 44 43,g 45 (.fad 5 (.t 2)) 44 true,g 46 (.load false 1 (.t 45)) 44 true,g 47 (.fad 5 (.t 3)) 44 true,g 48 (.load false 1 (.t 47)) 44 true,g 49 (.binb .eql (.t 46) (.t 48)) 44 true,o 50 (.pick (.t 44) (.t 49) (.k f)),mv 51 50,g 52 (.fad 6 (.t 2)) 51 true,g 53 (.load false 1 (.t 52)) 51 true,g 54 (.fad 6 (.t 3)) 51 true,g 55 (.load false 1 (.t 54)) 51 true,g 56 (.bin .eql (.t 53) (.t 55)) 51 true,o 57 (.pick (.t 51) (.t 56) (.k f)),mv 58 57,g 59 (.fad 7 (.t 2)) 58 true,g 60 (.load false 1 (.t 59)) 58 true,g 61 (.fad 7 (.t 3)) 58 true,g 62 (.load false 1 (.t 61)) 58 true,g 63 (.bin .eql (.t 60) (.t 62)) 58 true,o 64 (.pick (.t 58) (.t 63) (.k f)),mv 65 64,g 66 (.fad 8 (.t 2)) 65 true,g 67 (.load true 3 (.t 66)) 65 true,g 68 (.fad 8 (.t 3)) 65 true,g 69 (.load true 3 (.t 68)) 65 true,g 70 (.eqa false [1,1,1] (.t 67) (.t 69)) 65 true,o 71 (.pick (.t 65) (.t 70) (.k f)),mv 72 71,g 73 (.fad 11 (.t 2)) 72 true,g 74 (.load false 1 (.t 73)) 72 true,g 75 (.fad 11 (.t 3)) 72 true,g 76 (.load false 1 (.t 75)) 72 true,g 77 (.bin .eql (.t 74) (.t 76)) 72 true,o 78 (.pick (.t 72) (.t 77) (.k f)),mv 79 78,g 80 (.fad 12 (.t 2)) 79 true,g 81 (.load true 2 (.t 80)) 79 true,g 82 (.fad 12 (.t 3)) 79 true,g 83 (.load true 2 (.t 82)) 79 true,g 84 (.eqa false [1,1] (.t 81) (.t 83)) 79 true,o 85 (.pick (.t 79) (.t 84) (.k f)),mv 86 85,g 87 (.fad 14 (.t 2)) 86 true,g 88 (.load false 1 (.t 87)) 86 true,g 89 (.fad 14 (.t 3)) 86 true,g 90 (.load false 1 (.t 89)) 86 true,g 91 (.bin .eql (.t 88) (.t 90)) 86 true,o 92 (.pick (.t 86) (.t 91) (.k f)),mv 93 92,g 94 (.fad 15 (.t 2)) 93 true,g 95 (.load false 1 (.t 94)) 93 true,g 96 (.fad 15 (.t 3)) 93 true,g 97 (.load false 1 (.t 96)) 93 true,g 98 (.binb .eql (.t 95) (.t 97)) 93 true,o 99 (.pick (.t 93) (.t 98) (.k f)),mv 100 99,g 101 (.fad 16 (.t 2)) 100 true,g 102 (.load false 1 (.t 101)) 100 true,g 103 (.fad 16 (.t 3)) 100 true,g 104 (.load false 1 (.t 103)) 100 true,g 105 (.binb .eql (.t 102) (.t 104)) 100 true,o 106 (.pick (.t 100) (.t 105) (.k f)),mv 107 106,g 108 (.fad 17 (.t 2)) 107 true,g 109 (.load false 1 (.t 108)) 107 true,g 110 (.fad 17 (.t 3)) 107 true,g 111 (.load false 1 (.t 110)) 107 true,g 112 (.binb .eql (.t 109) (.t 111)) 107 true,o 113 (.pick (.t 107) (.t 112) (.k f)),mv 114 113,g 115 (.fad 18 (.t 2)) 114 true,g 116 (.load false 1 (.t 115)) 114 true,g 117 (.fad 18 (.t 3)) 114 true,g 118 (.load false 1 (.t 117)) 114 true,g 119 (.binb .eql (.t 116) (.t 118)) 114 true,o 120 (.pick (.t 114) (.t 119) (.k f)),mv 121 120,g 122 (.fad 19 (.t 2)) 121 true,g 123 (.load false 1 (.t 122)) 121 true,g 124 (.fad 19 (.t 3)) 121 true,g 125 (.load false 1 (.t 124)) 121 true,g 126 (.binb .eql (.t 123) (.t 125)) 121 true,o 127 (.pick (.t 121) (.t 126) (.k f)),mv 128 127,g 129 (.fad 20 (.t 2)) 128 true,g 130 (.load true 9 (.t 129)) 128 true,g 131 (.fad 20 (.t 3)) 128 true,g 132 (.load true 9 (.t 131)) 128 true,g 133 (.eqa false [1,1,1,1,1,1,1,1,0] (.t 130) (.t 132)) 128 true,o 134 (.pick (.t 128) (.t 133) (.k f)),mv 4 134]
 .ret))⟩
def a111 : Ann := ⟨[],[m],[],[]⟩
def s111 : SFun := ⟨1,17,[],[(.tmp 2,m)],
 (rg [mk 2 f]
 (rg [mv 3 0,bk 4 .geq 3 (i (-1)),mv 5 4,g 6 (.mv (.t 0)) 5 true,g 7 (.bin .leq (.t 6) (c 255)) 5 true,o 8 (.pick (.t 5) (.t 7) (.k f)),mv 9 8,g 10 (.mv (.t 0)) 9 false,g 11 (.bin .geq (.t 10) (c 16777216)) 9 false,g 12 (.mv (.t 11)) 9 false,g 13 (.mv (.t 0)) 12 true,g 14 (.bin .lss (.t 13) (c 33554432)) 12 true,g 15 (.pick (.t 12) (.t 14) (.k f)) 9 false,o 16 (.pick (.t 9) (.k w) (.t 15)),mv 2 16]
 .ret))⟩
def a108 : Ann := ⟨[],[m],[],[]⟩
def s108 : SFun := ⟨1,21,[],[(.tmp 2,m)],
 (rg [bx 1 3 0,mk 2 f]
 (rg [fa 3 0 1,ld 4 1 3,cl 5 111 [(.t 4)],mv 6 5,g 7 (.fad 1 (.t 1)) 6 true,g 8 (.load false 1 (.t 7)) 6 true,g 9 (.call false 111 [(.t 8)]) 6 true,o 10 (.pick (.t 6) (.t 9) (.k f)),mv 11 10,g 12 (.fad 2 (.t 1)) 11 true,g 13 (.load false 1 (.t 12)) 11 true,g 14 (.bin .geq (.t 13) (c 0)) 11 true,o 15 (.pick (.t 11) (.t 14) (.k f)),mv 16 15,g 17 (.fad 2 (.t 1)) 16 true,g 18 (.load false 1 (.t 17)) 16 true,g 19 (.bin .leq (.t 18) (c 255)) 16 true,o 20 (.pick (.t 16) (.t 19) (.k f)),mv 2 20]
 .ret))⟩
def a160 : Ann := ⟨[],[m],[],[]⟩
def s160 : SFun := ⟨2,62,[],[(.tmp 4,m)],
 (rg [mk 4 f]
 (rg [mv 6 0,mv 7 1,ix 8 5 6 7,la 9 5 8,al 5 z3,st 5 5 9]
 (.seq (rg [fa 10 1 5,ld 11 1 10]
 (.block 0 (rg [bk 13 .eql 11 (i 0),mv 12 13]
 (.cond (.t 12)
 (rg [fa 14 0 5,ld 15 1 14,cl 16 109 [(.t 15)],bk 17 .eql 16 (i 1),mv 18 17,g 19 (.fad 2 (.t 5)) 18 true,g 20 (.load true 3 (.t 19)) 18 true,g 21 (.call false 108 [(.t 20)]) 18 true,o 22 (.pick (.t 18) (.t 21) (.k f)),mv 4 22]
 .ret)
 (rg [bk 24 .eql 11 (i 1),mv 23 24]
 (.cond (.t 23)
 (.seq (.dreg [([],true,fa 25 0 5),([],true,ld 26 1 25),([],true,cl 27 109 [(.t 26)]),([],true,bk 28 .eql 27 (i 2)),([],true,mv 29 28),([],true,g 30 (.fad 2 (.t 5)) 29 true),([],true,g 31 (.load true 3 (.t 30)) 29 true),([],true,g 32 (.call false 108 [(.t 31)]) 29 true),([],true,o 33 (.pick (.t 29) (.t 32) (.k f))),([],true,mv 34 33),([],false,g 35 (.mv (.t 0)) 34 true),([0],false,g 36 (.mv (.t 1)) 34 true),([],true,g 37 (.call false 159 [(.t 35),(.t 36)]) 34 true),([],true,g 38 (.una .not (.t 37)) 34 true),([],true,o 39 (.pick (.t 34) (.t 38) (.k f))),([],true,mv 40 39),([],false,g 41 (.mv (.t 0)) 40 true),([0],false,g 42 (.mv (.t 1)) 40 true),([0],false,g 43 (.bin .add (.t 42) (c 1)) 40 true),([],false,g 44 (.ixs 5 (.t 41) (.t 43)) 40 true),([],false,g 45 (.fad 2 (.t 44)) 40 true),([],false,g 46 (.load true 3 (.t 45)) 40 true),([0,1,2,3,4,5],false,g 47 (.fad 2 (.t 5)) 40 true),([0,1,2,3,4,5],false,g 48 (.load true 3 (.t 47)) 40 true),([],true,g 49 (.eqa false [1,1,1] (.t 46) (.t 48)) 40 true),([],true,o 50 (.pick (.t 40) (.t 49) (.k f))),([],true,mv 4 50)])
 .ret)
 (rg [bk 52 .eql 11 (i 2),mv 51 52]
 (.cond (.t 51)
 (rg [fa 53 0 5,ld 54 1 53,bk 55 .eql 54 (r 0),mv 56 55,g 57 (.mv (.t 0)) 56 true,g 58 (.mv (.t 1)) 56 true,g 59 (.call false 159 [(.t 57),(.t 58)]) 56 true,g 60 (.una .not (.t 59)) 56 true,o 61 (.pick (.t 56) (.t 60) (.k f)),mv 4 61]
 .ret)
 .skip))))))))
 (rg [mk 4 f]
 .ret))))⟩
def a154 : Ann := ⟨[(4,[(2,m),(35,m),(36,m),(1,⟨true,0,false⟩)])],[m],[],[]⟩
def s154 : SFun := ⟨1,52,[],[(.tmp 2,m)],
 (rg [bx 1 3 0,mk 2 f]
 (.seq (rg [fa 4 0 1,ld 5 1 4,bk 6 .lss 5 (i 1),mv 7 6,g 8 (.fad 0 (.t 1)) 7 false,g 9 (.load false 1 (.t 8)) 7 false,g 10 (.bin .gtr (.t 9) (c 40)) 7 false,o 11 (.pick (.t 7) (.k w) (.t 10)),mv 12 11,g 13 (.fad 1 (.t 1)) 12 false,g 14 (.load false 1 (.t 13)) 12 false,g 15 (.bin .lss (.t 14) (c 1)) 12 false,o 16 (.pick (.t 12) (.k w) (.t 15)),mv 17 16,g 18 (.fad 1 (.t 1)) 17 false,g 19 (.load false 1 (.t 18)) 17 false,g 20 (.bin .gtr (.t 19) (c 60)) 17 false,o 21 (.pick (.t 17) (.k w) (.t 20)),mv 22 21,g 23 (.fad 2 (.t 1)) 22 false,g 24 (.load false 1 (.t 23)) 22 false,g 25 (.len (.t 24)) 22 false,g 26 (.fad 0 (.t 1)) 22 false,g 27 (.load false 1 (.t 26)) 22 false,g 28 (.fad 1 (.t 1)) 22 false,g 29 (.load false 1 (.t 28)) 22 false,g 30 (.bin .mul (.t 27) (.t 29)) 22 false,g 31 (.bin .neq (.t 25) (.t 30)) 22 false,o 32 (.pick (.t 22) (.k w) (.t 31))]
 (.cond (.t 32)
 (rg [mk 2 f]
 .ret)
 .skip))
 (.seq (rg [fa 33 2 1,ld 34 1 33,ln 35 34,mk 36 (i 0)]
 (.block 0 (.loop [(2,m),(35,m),(36,m),(1,⟨true,0,false⟩)]
 (rg [bn 37 .lss 36 35]
 (.seq (.cond (.t 37)
 .skip
 (.exit 0))
 (.seq (.block 1 (rg [mv 38 36,mv 3 38]
 (.seq (.dreg [([],false,la 39 3 1),([0],false,mv 40 3),([0,1],false,fa 41 1 1),([0,1],false,ld 42 1 41),([0],false,bn 43 .quo 40 42),([],false,o 44 (.callr 163 [(.t 39),(.t 43)])),([0,1,2,3,4,5],false,mv 45 3),([0,1,2,3,4,5,6],false,fa 46 1 1),([0,1,2,3,4,5,6],false,ld 47 1 46),([0,1,2,3,4,5],false,bn 48 .rem 45 47),([],true,cl 49 160 [(.t 44),(.t 48)]),([],true,o 50 (.una .not (.t 49)))])
 (.cond (.t 50)
 (rg [mk 2 f]
 .ret)
 .skip))))
 (.reg [bk 51 .add 36 (i 1),mv 36 51])))))))
 (rg [mk 2 w]
 .ret))))⟩
def a378 : Ann := ⟨[],[m],[],[]⟩
def s378 : SFun := ⟨1,9,[],[(.tmp 2,m)],
 (rg [mk 2 f]
 (rg [mv 3 0,bk 4 .eql 3 (u 66),mv 5 4,g 6 (.mv (.t 0)) 5 false,g 7 (.bin .eql (.t 6) (.k (u 48))) 5 false,o 8 (.pick (.t 5) (.k w) (.t 7)),mv 2 8]
 .ret))⟩
def a377 : Ann := ⟨[],[m],[],[]⟩
def s377 : SFun := ⟨2,57,[],[(.tmp 4,m)],
 (rg [bx 2 3 0,bx 3 9 1,mk 4 f]
 (rg [mk 5 (.fn 378 [])]
 (rg [fa 6 0 3,ld 7 1 6,bk 8 .geq 7 (i 0),mv 9 8,g 10 (.fad 0 (.t 3)) 9 true,g 11 (.load false 1 (.t 10)) 9 true,g 12 (.fad 0 (.t 2)) 9 true,g 13 (.load false 1 (.t 12)) 9 true,g 14 (.bin .lss (.t 11) (.t 13)) 9 true,o 15 (.pick (.t 9) (.t 14) (.k f)),mv 16 15,g 17 (.fad 1 (.t 3)) 16 true,g 18 (.load false 1 (.t 17)) 16 true,g 19 (.bin .geq (.t 18) (c 0)) 16 true,o 20 (.pick (.t 16) (.t 19) (.k f)),mv 21 20,g 22 (.fad 1 (.t 3)) 21 true,g 23 (.load false 1 (.t 22)) 21 true,g 24 (.fad 1 (.t 2)) 21 true,g 25 (.load false 1 (.t 24)) 21 true,g 26 (.bin .lss (.t 23) (.t 25)) 21 true,o 27 (.pick (.t 21) (.t 26) (.k f)),mv 28 27,g 29 (.fad 2 (.t 3)) 28 true,g 30 (.load true 3 (.t 29)) 28 true,g 31 (.call false 108 [(.t 30)]) 28 true,o 32 (.pick (.t 28) (.t 31) (.k f)),mv 33 32,g 34 (.mv (.t 5)) 33 true,g 35 (.fad 5 (.t 3)) 33 true,g 36 (.ixa 2 1 (.t 35) (c 0)) 33 true,g 37 (.load false 1 (.t 36)) 33 true,g 38 (.callv false (.t 34) [(.t 37)]) 33 true,o 39 (.pick (.t 33) (.t 38) (.k f)),mv 40 39,g 41 (.mv (.t 5)) 40 true,g 42 (.fad 5 (.t 3)) 40 true,g 43 (.ixa 2 1 (.t 42) (c 1)) 40 true,g 44 (.load false 1 (.t 43)) 40 true,g 45 (.callv false (.t 41) [(.t 44)]) 40 true,o 46 (.pick (.t 40) (.t 45) (.k f)),mv 47 46,g 48 (.fad 7 (.t 3)) 47 true,g 49 (.load false 1 (.t 48)) 47 true,g 50 (.bin .eql (.t 49) (c 0)) 47 true,g 51 (.mv (.t 50)) 47 true,g 52 (.fad 7 (.t 3)) 51 false,g 53 (.load false 1 (.t 52)) 51 false,g 54 (.bin .eql (.t 53) (c 1)) 51 false,g 55 (.pick (.t 51) (.k w) (.t 54)) 47 true,o 56 (.pick (.t 47) (.t 55) (.k f)),mv 4 56]
 .ret)))⟩
def a373 : Ann := ⟨[],[m],[],[]⟩
def s373 : SFun := ⟨1,86,[],[(.tmp 2,m)],
 (rg [bx 1 29 0,mk 2 f]
 (.seq (rg [fa 4 0 1,la 5 3 4,cl 6 154 [(.t 5)],o 7 (.una .not (.t 6)),mv 8 7,g 9 (.fad 0 (.t 1)) 8 false,g 10 (.load true 3 (.t 9)) 8 false,g 11 (.fad 20 (.t 1)) 8 false,g 12 (.load true 9 (.t 11)) 8 false,g 13 (.call false 377 [(.t 10),(.t 12)]) 8 false,g 14 (.una .not (.t 13)) 8 false,o 15 (.pick (.t 8) (.k w) (.t 14)),mv 16 15,g 17 (.fad 0 (.t 1)) 16 false,g 18 (.load true 3 (.t 17)) 16 false,g 19 (.fad 3 (.t 1)) 16 false,g 20 (.load false 1 (.t 19)) 16 false,g 21 (.fad 4 (.t 1)) 16 false,g 22 (.load false 1 (.t 21)) 16 false,g 23 (.fad 8 (.t 1)) 16 false,g 24 (.load true 3 (.t 23)) 16 false,g 25 (.fad 12 (.t 1)) 16 false,g 26 (.load true 2 (.t 25)) 16 false,g 27 (.fad 14 (.t 1)) 16 false,g 28 (.load false 1 (.t 27)) 16 false,g 29 (.build z1 [(0,1,(.t 20)),(1,1,(.t 22)),(2,3,(.t 24)),(5,2,(.t 26)),(7,1,(.t 28))]) 16 false,g 30 (.call false 377 [(.t 18),(.t 29)]) 16 false,g 31 (.una .not (.t 30)) 16 false,o 32 (.pick (.t 16) (.k w) (.t 31))]
 (.cond (.t 32)
 (rg [mk 2 f]
 .ret)
 .skip))
 (rg [fa 33 6 1,ld 34 1 33,bk 35 .geq 34 (i 0),mv 36 35,g 37 (.fad 6 (.t 1)) 36 true,g 38 (.load false 1 (.t 37)) 36 true,g 39 (.fad 7 (.t 1)) 36 true,g 40 (.load false 1 (.t 39)) 36 true,g 41 (.bin .lss (.t 38) (.t 40)) 36 true,o 42 (.pick (.t 36) (.t 41) (.k f)),mv 43 42,g 44 (.fad 7 (.t 1)) 43 true,g 45 (.load false 1 (.t 44)) 43 true,g 46 (.fad 0 (.t 1)) 43 true,g 47 (.fad 0 (.t 46)) 43 true,g 48 (.load false 1 (.t 47)) 43 true,g 49 (.bin .lss (.t 45) (.t 48)) 43 true,o 50 (.pick (.t 43) (.t 49) (.k f)),mv 51 50,g 52 (.fad 0 (.t 1)) 51 false,g 53 (.fad 0 (.t 52)) 51 false,g 54 (.load false 1 (.t 53)) 51 false,g 55 (.bin .eql (.t 54) (c 1)) 51 false,g 56 (.mv (.t 55)) 51 false,g 57 (.fad 6 (.t 1)) 56 true,g 58 (.load false 1 (.t 57)) 56 true,g 59 (.bin .eql (.t 58) (c 0)) 56 true,g 60 (.pick (.t 56) (.t 59) (.k f)) 51 false,g 61 (.mv (.t 60)) 51 false,g 62 (.fad 7 (.t 1)) 61 true,g 63 (.load false 1 (.t 62)) 61 true,g 64 (.bin .eql (.t 63) (c 0)) 61 true,g 65 (.pick (.t 61) (.t 64) (.k f)) 51 false,o 66 (.pick (.t 51) (.k w) (.t 65)),mv 3 66]
 (rg [mv 67 3,mv 68 67,g 69 (.fad 5 (.t 1)) 68 true,g 70 (.load false 1 (.t 69)) 68 true,g 71 (.una .not (.t 70)) 68 true,g 72 (.mv (.t 71)) 68 true,g 73 (.fad 15 (.t 1)) 72 false,g 74 (.load false 1 (.t 73)) 72 false,g 75 (.mv (.t 74)) 72 false,g 76 (.fad 4 (.t 1)) 75 true,g 77 (.load false 1 (.t 76)) 75 true,g 78 (.fad 0 (.t 1)) 75 true,g 79 (.fad 1 (.t 78)) 75 true,g 80 (.load false 1 (.t 79)) 75 true,g 81 (.bin .sub (.t 80) (c 1)) 75 true,g 82 (.bin .eql (.t 77) (.t 81)) 75 true,g 83 (.pick (.t 75) (.t 82) (.k f)) 72 false,g 84 (.pick (.t 72) (.k w) (.t 83)) 68 true,o 85 (.pick (.t 68) (.t 84) (.k f)),mv 2 85]
 .ret))))⟩
def a338 : Ann := ⟨[],[⟨true,0,false⟩],[],[]⟩
def s338 : SFun := ⟨0,3,[],[(.tmp 0,⟨true,0,false⟩)],
 (rg [mk 0 .nl]
 (rg [o 1 (.build z2 []),bx 2 12 1,mv 0 2]
 .ret))⟩
def a424 : Ann := ⟨[],[⟨true,0,false⟩],[],[]⟩
def s424 : SFun := ⟨3,22,[],[(.tmp 6,⟨true,0,false⟩)],
 (rg [mk 6 .nl]
 (.seq (rg [mv 8 0,cl 9 134 [(.t 8)],o 10 (.una .not (.t 9))]
 (.cond (.t 10)
 (rg [mk 6 .nl]
 .ret)
 .skip))
 (rg [mv 11 1,mv 12 2,cl 13 372 [(.t 11),(.t 12)],al 7 z0,st 29 7 13]
 (rg [mv 14 0,bk 15 .neq 14 (i 3),fa 16 15 7,st 1 16 15]
 (.seq (.dreg [([],false,mv 17 0),([0],false,la 18 29 7),([0,1],false,cl 19 338 []),([],true,o 20 (.build [(i 0),(i 0),(i 0),.sn,(i 0),(i 0),f,(i 0),(i 0),(i 0),(i 0),(i 0),(q 0),(u 0),(u 0),(i 0),f,f,f,f,f,(i 0),(i 0),(i 0),(i 0),(i 0),(u 0),(u 0),(i 0),f,.nl,(i 0),(i 0),(i 0)] [(0,1,(.t 17)),(1,29,(.t 18)),(30,1,(.t 19))])),([],true,bx 21 34 20),([],true,mv 6 21)])
 .ret)))))⟩
def a67 : Ann := ⟨[],[m],[],[]⟩
def s67 : SFun := ⟨1,6,[],[(.tmp 2,m)],
 (rg [bx 1 3 0,mk 2 f]
 (rg [fa 3 1 1,ld 4 1 3,bk 5 .gtr 4 (i 0),mv 2 5]
 .ret))⟩
def a432 : Ann := ⟨[],[m,⟨true,1,false⟩],[],[]⟩
def s432 : SFun := ⟨1,46,[],[(.cell 2 true 3,m),(.tmp 3,⟨true,1,false⟩)],
 (rg [al 2 [(i 0),(i 0),(i 0)],mk 3 .sn]
 (.seq (.block 0 (rg [mv 5 0,bk 6 .lss 5 (u 128),mv 4 6]
 (.cond (.t 4)
 (rg [o 7 (.build [(i 0),(i 0),(i 0)] []),mv 8 0,o 9 (.cvi .i32 (.t 8)),o 10 (.bsl true 1 1 [(r 0)] [(0,(.t 9))]),st 3 2 7,mv 3 10]
 .ret)
 (rg [mv 12 0,bk 13 .geq 12 (u 194),mv 14 13,g 15 (.mv (.t 0)) 14 true,g 16 (.bin .leq (.t 15) (.k (u 223))) 14 true,o 17 (.pick (.t 14) (.t 16) (.k f)),mv 11 17]
 (.cond (.t 11)
 (rg [mv 18 0,bk 19 .and 18 (u 31),o 20 (.cvi .i64 (.t 19)),o 21 (.build [(i 0),(i 0),(i 0)] [(0,1,(c 1)),(1,1,(c 1)),(2,1,(.t 20))]),st 3 2 21,mk 3 .sn]
 .ret)
 (rg [mv 23 0,bk 24 .geq 23 (u 224),mv 25 24,g 26 (.mv (.t 0)) 25 true,g 27 (.bin .leq (.t 26) (.k (u 239))) 25 true,o 28 (.pick (.t 25) (.t 27) (.k f)),mv 22 28]
 (.cond (.t 22)
 (rg [mv 29 0,bk 30 .and 29 (u 15),o 31 (.cvi .i64 (.t 30)),o 32 (.build [(i 0),(i 0),(i 0)] [(0,1,(c 2)),(1,1,(c 1)),(2,1,(.t 31))]),st 3 2 32,mk 3 .sn]
 .ret)
 (rg [mv 34 0,bk 35 .geq 34 (u 240),mv 36 35,g 37 (.mv (.t 0)) 36 true,g 38 (.bin .leq (.t 37) (.k (u 244))) 36 true,o 39 (.pick (.t 36) (.t 38) (.k f)),mv 33 39]
 (.cond (.t 33)
 (rg [mv 40 0,bk 41 .and 40 (u 7),o 42 (.cvi .i64 (.t 41)),o 43 (.build [(i 0),(i 0),(i 0)] [(0,1,(c 3)),(1,1,(c 1)),(2,1,(.t 42))]),st 3 2 43,mk 3 .sn]
 .ret)
 .skip)))))))))
 (rg [o 44 (.build [(i 0),(i 0),(i 0)] []),o 45 (.bsl true 1 1 [(r 0)] [(0,(.k (r 65533)))]),st 3 2 44,mv 3 45]
 .ret)))⟩
def a435 : Ann := ⟨[],[m],[],[]⟩
def s435 : SFun := ⟨2,25,[],[(.tmp 4,m)],
 (rg [mk 4 f]
 (rg [o 6 (.bsl false 1 5 [(i 0)] [(0,(c 0)),(1,(c 0)),(2,(c 128)),(3,(c 2048)),(4,(c 65536))]),mv 7 1,ix 8 1 6 7,ld 9 1 8,mv 5 9]
 (rg [mv 10 0,mv 11 5,bn 12 .geq 10 11,mv 13 12,g 14 (.mv (.t 0)) 13 true,g 15 (.bin .leq (.t 14) (c 1114111)) 13 true,o 16 (.pick (.t 13) (.t 15) (.k f)),mv 17 16,g 18 (.mv (.t 0)) 17 true,g 19 (.bin .lss (.t 18) (c 55296)) 17 true,g 20 (.mv (.t 19)) 17 true,g 21 (.mv (.t 0)) 20 false,g 22 (.bin .gtr (.t 21) (c 57343)) 20 false,g 23 (.pick (.t 20) (.k w) (.t 22)) 17 true,o 24 (.pick (.t 17) (.t 23) (.k f)),mv 4 24]
 .ret)))⟩
def a68 : Ann := ⟨[],[m,⟨true,1,false⟩],[],[]⟩
def s68 : SFun := ⟨2,71,[],[(.cell 4 true 3,m),(.tmp 5,⟨true,1,false⟩)],
 (rg [bx 2 3 0,al 4 [(i 0),(i 0),(i 0)],mk 5 .sn]
 (.seq (.block 0 (rg [la 9 3 2,cl 10 67 [(.t 9)],o 11 (.una .not (.t 10)),mv 8 11]
 (.cond (.t 8)
 (rg [mv 12 1,cl 13 432 [(.t 12)],ex 14 13 0,ex 15 13 1,st 3 4 14,mv 5 15]
 .ret)
 (rg [mv 17 1,bk 18 .lss 17 (u 128),mv 19 18,g 20 (.mv (.t 1)) 19 false,g 21 (.bin .gtr (.t 20) (.k (u 191))) 19 false,o 22 (.pick (.t 19) (.k w) (.t 21)),mv 16 22]
 (.cond (.t 16)
 (rg [mv 24 1,cl 25 432 [(.t 24)],mv 23 25,ex 26 23 0,ex 27 23 1,al 6 [(i 0),(i 0),(i 0)],st 3 6 26,mv 7 27]
 (.seq (.dreg [([],false,la 28 3 6),([0],false,o 29 (.bsl true 1 1 [(r 0)] [(0,(.k (r 65533)))])),([0,1],false,mv 30 7),([0],false,o 31 (.append 1 4 (.t 29) (.t 30))),([],true,st 3 4 28),([],true,mv 5 31)])
 .ret))
 .skip)))))
 (rg [fa 32 0 2,ld 33 1 32,bk 34 .sub 33 (i 1),fa 35 1 2,ld 36 1 35,bk 37 .add 36 (i 1),fa 38 2 2,ld 39 1 38,bk 40 .shl 39 (q 6),mv 41 1,bk 42 .and 41 (u 63),o 43 (.cvi .i64 (.t 42)),bn 44 .or 40 43,fa 45 0 2,st 1 45 34,fa 46 1 2,st 1 46 37,fa 47 2 2,st 1 47 44]
 (.seq (.block 1 (rg [fa 49 0 2,ld 50 1 49,bk 51 .gtr 50 (i 0),mv 48 51]
 (.cond (.t 48)
 (rg [la 52 3 2,st 3 4 52,mk 5 .sn]
 .ret)
 (rg [fa 54 1 2,ld 55 1 54,bk 56 .leq 55 (i 4),mv 57 56,g 58 (.fad 2 (.t 2)) 57 true,g 59 (.load false 1 (.t 58)) 57 true,g 60 (.fad 1 (.t 2)) 57 true,g 61 (.load false 1 (.t 60)) 57 true,g 62 (.call false 435 [(.t 59),(.t 61)]) 57 true,o 63 (.pick (.t 57) (.t 62) (.k f)),mv 53 63]
 (.cond (.t 53)
 (.seq (.dreg [([],false,o 64 (.build [(i 0),(i 0),(i 0)] [])),([0],false,fa 65 2 2),([0],false,ld 66 1 65),([0],false,o 67 (.cvi .i32 (.t 66))),([0],false,o 68 (.bsl true 1 1 [(r 0)] [(0,(.t 67))])),([1,2,3,4],false,st 3 4 64),([],true,mv 5 68)])
 .ret)
 .skip)))))
 (rg [o 69 (.build [(i 0),(i 0),(i 0)] []),o 70 (.bsl true 1 1 [(r 0)] [(0,(.k (r 65533)))]),st 3 4 69,mv 5 70]
 .ret)))))⟩
def a339 : Ann := ⟨[(3,[(6,m),(7,m),(8,m),(3,⟨true,7,false⟩)])],[⟨true,7,false⟩],[],[]⟩
def s339 : SFun := ⟨1,19,[],[(.tmp 2,⟨true,7,false⟩)],
 (rg [mk 2 .sn]
 (rg [mk 3 .sn]
 (.seq (rg [mv 6 0,ln 7 6,mk 8 (i 0)]
 (.block 0 (.loop [(6,m),(7,m),(8,m),(3,⟨true,7,false⟩)]
 (rg [bn 9 .lss 8 7]
 (.seq (.cond (.t 9)
 .skip
 (.exit 0))
 (.seq (.block 1 (rg [ix 10 1 6 8,ld 11 1 10,mv 5 11]
 (.reg [mv 12 3,mv 13 5,o 14 (.build [(i 0),(r 0),(u 0),(u 0),(u 0),.sn,(D.str [])] [(0,1,(c 1)),(1,1,(.t 13))]),o 15 (.bsl false 7 1 [(i 0),(r 0),(u 0),(u 0),(u 0),.sn,(D.str [])] [(0,(.t 14))]),o 16 (.append 7 56 (.t 12) (.t 15)),mv 3 16])))
 (.reg [bk 17 .add 8 (i 1),mv 8 17])))))))
 (rg [mv 18 3,mv 2 18]
 .ret))))⟩
def a14 : Ann := ⟨[],[],[0],[]⟩
def s14 : SFun := ⟨2,8,[0],[],
 (.reg [mv 4 0,mv 5 1,o 6 (.build z2 [(0,1,(.t 5))]),o 7 (.nilc (.t 4)),st 12 7 6])⟩
def a21 : Ann := ⟨[],[⟨true,7,false⟩],[0],[]⟩
def s21 : SFun := ⟨2,63,[0],[(.tmp 4,⟨true,7,false⟩)],
 (rg [mk 4 .sn]
 (.seq (rg [mv 8 1,bk 9 .geq 8 (u 128)]
 (.cond (.t 9)
 (rg [mv 11 0,o 12 (.nilc (.t 11)),fa 13 1 12,la 14 3 13,mv 15 1,cl 16 68 [(.t 14),(.t 15)],mv 10 16,ex 17 10 0,ex 18 10 1,al 5 [(i 0),(i 0),(i 0)],st 3 5 17,mv 6 18]
 (rg [mv 19 0,la 20 3 5,o 21 (.nilc (.t 19)),fa 22 1 21,st 3 22 20]
 (rg [mv 23 6,cl 24 339 [(.t 23)],mv 4 24]
 .ret)))
 .skip))
 (rg [mk 7 .sn]
 (.seq (rg [mv 25 0,o 26 (.nilc (.t 25)),fa 27 1 26,la 28 3 27,cl 29 67 [(.t 28)]]
 (.cond (.t 29)
 (rg [o 30 (.bsl false 1 1 [(r 0)] [(0,(.k (r 65533)))]),cl 31 339 [(.t 30)],mv 7 31]
 (.reg [mv 32 0,o 33 (.build [(i 0),(i 0),(i 0)] []),o 34 (.nilc (.t 32)),fa 35 1 34,st 3 35 33]))
 .skip))
 (.seq (.block 0 (rg [mv 43 1,bk 44 .eql 43 (u 27),mv 42 44]
 (.cond (.t 42)
 (.reg [mv 45 0,cl 46 14 [(.t 45),(c 1)]])
 (.seq (rg [mv 48 1,bk 49 .eql 48 (u 24),mv 47 49]
 (.cond (.t 47)
 .skip
 (rg [mv 50 1,bk 51 .eql 50 (u 26),mv 47 51]
 (.cond (.t 47)
 .skip
 (.reg [mv 52 1,bk 53 .eql 52 (u 127),mv 47 53])))))
 (.cond (.t 47)
 .skip
 (rg [mv 55 1,bk 56 .lss 55 (u 32),mv 54 56]
 (.cond (.t 54)
 (.reg [mv 57 7,mv 58 1,o 59 (.build [(i 0),(r 0),(u 0),(u 0),(u 0),.sn,(D.str [])] [(0,1,(c 2)),(4,1,(.t 58))]),o 60 (.bsl false 7 1 [(i 0),(r 0),(u 0),(u 0),(u 0),.sn,(D.str [])] [(0,(.t 59))]),o 61 (.append 7 56 (.t 57) (.t 60)),mv 7 61])
 (.reg [mv 36 7,mv 37 1,o 38 (.cvi .i32 (.t 37)),o 39 (.bsl false 1 1 [(r 0)] [(0,(.t 38))]),cl 40 339 [(.t 39)],o 41 (.append 7 56 (.t 36) (.t 40)),mv 7 41]))))))))
 (rg [mv 62 7,mv 4 62]
 .ret))))))⟩
def a24 : Ann := ⟨[],[⟨true,7,false⟩],[0],[]⟩
def s24 : SFun := ⟨1,28,[0],[(.tmp 2,⟨true,7,false⟩)],
 (rg [mk 2 .sn]
 (.seq (.dreg [([],false,mv 5 0),([],false,o 6 (.nilc (.t 5))),([],false,fa 7 10 6),([],false,ld 8 1 7),([],false,o 9 (.b2s (.t 8))),([0,1,2,3,4],false,mv 10 0),([0,1,2,3,4],false,o 11 (.nilc (.t 10))),([0,1,2,3,4],false,fa 12 9 11),([0,1,2,3,4],false,ld 13 1 12),([0,1,2,3,4],false,mv 14 13),([0,1,2,3,4],false,g 15 (.mv (.t 0)) 14 true),([0,1,2,3,4],false,g 16 (.nilc (.t 15)) 14 true),([0,1,2,3,4],false,g 17 (.fad 11 (.t 16)) 14 true),([0,1,2,3,4],false,g 18 (.load false 1 (.t 17)) 14 true),([0,1,2,3,4],false,g 19 (.una .not (.t 18)) 14 true),([0,1,2,3,4],false,o 20 (.pick (.t 14) (.t 19) (.k f))),([10,11,12,13,14,15],false,mv 3 9),([],true,mv 4 20)])
 (rg [mv 21 0,cl 22 14 [(.t 21),(c 0)]]
 (.seq (rg [mv 23 4,o 24 (.una .not (.t 23))]
 (.cond (.t 24)
 (rg [mk 2 .sn]
 .ret)
 .skip))
 (rg [mv 25 3,o 26 (.build [(i 0),(r 0),(u 0),(u 0),(u 0),.sn,(D.str [])] [(0,1,(c 5)),(6,1,(.t 25))]),o 27 (.bsl true 7 1 [(i 0),(r 0),(u 0),(u 0),(u 0),.sn,(D.str [])] [(0,(.t 26))]),mv 2 27]
 .ret)))))⟩
def a22 : Ann := ⟨[],[⟨true,7,false⟩],[0],[]⟩
def s22 : SFun := ⟨2,53,[0],[(.tmp 4,⟨true,7,false⟩)],
 (rg [mk 4 .sn]
 (.seq (.block 0 (rg [mv 6 1,bk 7 .eql 6 (u 24),mv 8 7,g 9 (.mv (.t 1)) 8 false,g 10 (.bin .eql (.t 9) (.k (u 26))) 8 false,o 11 (.pick (.t 8) (.k w) (.t 10)),mv 5 11]
 (.cond (.t 5)
 (.reg [mv 12 0,cl 13 14 [(.t 12),(c 0)]])
 (rg [mv 15 1,bk 16 .eql 15 (u 27),mv 14 16]
 (.cond (.t 14)
 (.reg [mv 17 0,o 18 (.nilc (.t 17)),fa 19 0 18,sk 1 19 (i 4)])
 (rg [mv 21 1,bk 22 .eql 21 (u 7),mv 20 22]
 (.cond (.t 20)
 (rg [mv 23 0,cl 24 24 [(.t 23)],mv 4 24]
 .ret)
 (rg [mv 26 1,bk 27 .lss 26 (u 32),mv 25 27]
 (.cond (.t 25)
 .skip
 (rg [mv 29 0,o 30 (.nilc (.t 29)),fa 31 10 30,ld 32 1 31,ln 33 32,bk 34 .eql 33 (i 4096),mv 28 34]
 (.cond (.t 28)
 (.reg [mv 35 0,o 36 (.nilc (.t 35)),fa 37 11 36,sk 1 37 w])
 (rg [mv 39 0,o 40 (.nilc (.t 39)),fa 41 9 40,ld 42 1 41,mv 38 42]
 (.cond (.t 38)
 (.reg [mv 43 0,mv 44 0,o 45 (.nilc (.t 44)),fa 46 10 45,ld 47 1 46,mv 48 1,o 49 (.bsl false 1 1 [(u 0)] [(0,(.t 48))]),o 50 (.append 1 1 (.t 47) (.t 49)),o 51 (.nilc (.t 43)),fa 52 10 51,st 1 52 50])
 .skip)))))))))))))
 (rg [mk 4 .sn]
 .ret)))⟩
def a17 : Ann := ⟨[],[⟨true,7,false⟩,m],[0],[]⟩
def s17 : SFun := ⟨2,37,[0],[(.tmp 4,⟨true,7,false⟩),(.tmp 5,m)],
 (rg [mk 4 .sn,mk 5 f]
 (.seq (.block 0 (rg [mv 7 1,bk 8 .eql 7 (u 24),mv 9 8,g 10 (.mv (.t 1)) 9 false,g 11 (.bin .eql (.t 10) (.k (u 26))) 9 false,o 12 (.pick (.t 9) (.k w) (.t 11)),mv 6 12]
 (.cond (.t 6)
 (.reg [mv 13 0,cl 14 14 [(.t 13),(c 0)]])
 (rg [mv 16 1,bk 17 .eql 16 (u 27),mv 15 17]
 (.cond (.t 15)
 (.reg [mv 18 0,cl 19 14 [(.t 18),(c 1)]])
 (rg [mv 21 1,bk 22 .geq 21 (u 128),mv 20 22]
 (.cond (.t 20)
 (rg [mv 23 0,cl 24 14 [(.t 23),(c 0)]]
 (rg [mv 25 0,mv 26 1,cl 27 21 [(.t 25),(.t 26)],mv 4 27,mk 5 w]
 .ret))
 (rg [mv 29 1,bk 30 .lss 29 (u 32),mv 28 30]
 (.cond (.t 28)
 (rg [mv 31 1,o 32 (.build [(i 0),(r 0),(u 0),(u 0),(u 0),.sn,(D.str [])] [(0,1,(c 2)),(4,1,(.t 31))]),o 33 (.bsl true 7 1 [(i 0),(r 0),(u 0),(u 0),(u 0),.sn,(D.str [])] [(0,(.t 32))]),mv 4 33,mk 5 w]
 .ret)
 (rg [mv 35 1,bk 36 .neq 35 (u 127),mv 34 36]
 (.cond (.t 34)
 (rg [mk 4 .sn,mk 5 f]
 .ret)
 .skip)))))))))))
 (rg [mk 4 .sn,mk 5 w]
 .ret)))⟩
def a15 : Ann := ⟨[],[],[0],[]⟩
def s15 : SFun := ⟨2,23,[0],[],
 (.seq (rg [mv 4 0,o 5 (.nilc (.t 4)),fa 6 4 5,ld 7 1 6,ln 8 7,bk 9 .eql 8 (i 1)]
 (.cond (.t 9)
 (rg [mv 10 0,o 11 (.nilc (.t 10)),fa 12 8 11,sk 1 12 w]
 .ret)
 .skip))
 (.reg [mv 13 0,mv 14 0,o 15 (.nilc (.t 14)),fa 16 4 15,ld 17 1 16,mv 18 1,o 19 (.bsl false 1 1 [(u 0)] [(0,(.t 18))]),o 20 (.append 1 1 (.t 17) (.t 19)),o 21 (.nilc (.t 13)),fa 22 4 21,st 1 22 20]))⟩
def a16 : Ann := ⟨[],[m],[0],[]⟩
def s16 : SFun := ⟨1,15,[0],[(.tmp 2,m)],
 (rg [mk 2 (u 0)]
 (.seq (rg [mv 3 0,o 4 (.nilc (.t 3)),fa 5 4 4,ld 6 1 5,ln 7 6,bk 8 .eql 7 (i 0)]
 (.cond (.t 8)
 (rg [mk 2 (u 0)]
 .ret)
 .skip))
 (rg [mv 9 0,o 10 (.nilc (.t 9)),fa 11 4 10,ld 12 1 11,o 13 (.ixs 1 (.t 12) (c 0)),ld 14 1 13,mv 2 14]
 .ret)))⟩
def a18 : Ann := ⟨[],[⟨true,7,false⟩],[0],[]⟩
def s18 : SFun := ⟨2,18,[0],[(.tmp 4,⟨true,7,false⟩)],
 (rg [bx 3 7 1,mk 4 .sn]
 (rg [mv 6 0,o 7 (.nilc (.t 6)),fa 8 8 7,ld 9 1 8,mv 5 9]
 (rg [mv 10 0,cl 11 16 [(.t 10)],fa 12 3 3,st 1 12 11]
 (rg [mv 13 0,cl 14 14 [(.t 13),(c 0)]]
 (.seq (rg [mv 15 5]
 (.cond (.t 15)
 (rg [mk 4 .sn]
 .ret)
 .skip))
 (rg [la 16 7 3,o 17 (.bsl true 7 1 [(i 0),(r 0),(u 0),(u 0),(u 0),.sn,(D.str [])] [(0,(.t 16))]),mv 4 17]
 .ret))))))⟩
def a23 : Ann := ⟨[],[],[0],[]⟩
def s23 : SFun := ⟨2,66,[0],[],
 (.seq (rg [mv 6 0,o 7 (.nilc (.t 6)),fa 8 7 7,ld 9 1 8,ln 10 9,bk 11 .eql 10 (i 0)]
 (.cond (.t 11)
 (.reg [mv 12 0,o 13 (.bsl true 1 1 [(i 0)] [(0,(c (-1)))]),o 14 (.nilc (.t 12)),fa 15 7 14,st 1 15 13])
 .skip))
 (rg [mv 16 0,o 17 (.nilc (.t 16)),fa 18 7 17,ld 19 1 18,ln 20 19,bk 21 .sub 20 (i 1),mv 4 21]
 (rg [mv 22 0,o 23 (.nilc (.t 22)),fa 24 7 23,ld 25 1 24,mv 26 4,ix 27 1 25 26,ld 28 1 27,mv 5 28]
 (.block 0 (rg [mv 30 1,bk 31 .eql 30 (u 59),mv 32 31,g 33 (.mv (.t 0)) 32 true,g 34 (.nilc (.t 33)) 32 true,g 35 (.fad 7 (.t 34)) 32 true,g 36 (.load false 1 (.t 35)) 32 true,g 37 (.len (.t 36)) 32 true,g 38 (.bin .leq (.t 37) (c 16)) 32 true,o 39 (.pick (.t 32) (.t 38) (.k f)),mv 29 39]
 (.cond (.t 29)
 (.reg [mv 40 0,mv 41 0,o 42 (.nilc (.t 41)),fa 43 7 42,ld 44 1 43,o 45 (.bsl false 1 1 [(i 0)] [(0,(c (-1)))]),o 46 (.append 1 8 (.t 44) (.t 45)),o 47 (.nilc (.t 40)),fa 48 7 47,st 1 48 46])
 (rg [mv 50 1,bk 51 .neq 50 (u 59),mv 49 51]
 (.cond (.t 49)
 (.reg [mv 52 0,o 53 (.nilc (.t 52)),fa 54 7 53,ld 55 1 54,mv 56 4,mv 57 5,o 58 (.mx [(.t 57),(c 0)]),bk 59 .mul 58 (i 10),mv 60 1,bk 61 .sub 60 (u 48),o 62 (.cvi .i64 (.t 61)),bn 63 .add 59 62,o 64 (.mn [(.t 63),(c 65535)]),ix 65 1 55 56,st 1 65 64])
 .skip))))))))⟩
def a450 : Ann := ⟨[],[⟨true,1,false⟩],[],[]⟩
def n450 : NFun := ⟨1,8,[],[(.tmp 2,⟨true,1,false⟩)],
 (.reg [mk 2 .sn]),mv 3 0,4,(.t 3),(.cond (.t 4)
 (rg [mk 2 .sn]
 .ret)
 .skip),(rg [o 5 (.bsl true 1 0 [(i 0)] []),mv 6 0,o 7 (.append 1 8 (.t 5) (.t 6)),mv 2 7]
 .ret)⟩
def a19 : Ann := ⟨[],[⟨true,7,false⟩],[0],[]⟩
def s19 : SFun := ⟨2,80,[0],[(.tmp 4,⟨true,7,false⟩)],
 (rg [mk 4 .sn]
 (rg [mv 7 0,o 8 (.nilc (.t 7)),fa 9 5 8,ld 10 1 9,o 11 (.una .not (.t 10)),mv 5 11]
 (rg [mv 12 0,o 13 (.nilc (.t 12)),fa 14 5 13,sk 1 14 w]
 (.seq (.block 0 (rg [mv 19 1,bk 20 .lss 19 (u 48),mv 18 20]
 (.cond (.t 18)
 (.reg [mv 21 0,mv 22 1,cl 23 15 [(.t 21),(.t 22)]])
 (rg [mv 25 1,bk 26 .geq 25 (u 60),mv 27 26,g 28 (.mv (.t 1)) 27 true,g 29 (.bin .leq (.t 28) (.k (u 63))) 27 true,o 30 (.pick (.t 27) (.t 29) (.k f)),mv 31 30,g 32 (.mv (.t 5)) 31 true,o 33 (.pick (.t 31) (.t 32) (.k f)),mv 24 33]
 (.cond (.t 24)
 (.reg [mv 34 0,mv 35 1,o 36 (.nilc (.t 34)),fa 37 6 36,st 1 37 35])
 (rg [mv 39 1,bk 40 .geq 39 (u 64),mv 38 40]
 (.cond (.t 38)
 (.seq (.dreg [([],false,mv 41 0),([],false,o 42 (.nilc (.t 41))),([],false,fa 43 7 42),([],false,ld 44 1 43),([0,1,2,3],false,mv 45 0),([0,1,2,3],false,o 46 (.nilc (.t 45))),([0,1,2,3],false,fa 47 7 46),([0,1,2,3],false,ld 48 1 47),([0,1,2,3],false,ln 49 48),([0,1,2,3],false,o 50 (.mn [(.t 49),(c 16)])),([],true,o 51 (.slc 1 (.t 44) none (some (.t 50)))),([],true,mv 6 51)])
 (.seq (.dreg [([],false,mv 52 0),([0],false,mv 53 0),([0],false,o 54 (.nilc (.t 53))),([0],false,fa 55 6 54),([0],false,ld 56 1 55),([0,1,2,3,4],false,mv 57 6),([0,1,2,3,4],false,o 58 (.callr 450 [(.t 57)])),([0,1,2,3,4,5,6],false,mv 59 1),([0],false,o 60 (.build [(i 0),(r 0),(u 0),(u 0),(u 0),.sn,(D.str [])] [(0,1,(c 4)),(2,1,(.t 56)),(5,1,(.t 58)),(4,1,(.t 59))])),([],true,cl 61 18 [(.t 52),(.t 60)]),([],true,mv 4 61)])
 .ret))
 (rg [mv 63 1,bk 64 .eql 63 (u 58),mv 65 64,g 66 (.mv (.t 1)) 65 false,g 67 (.bin .geq (.t 66) (.k (u 60))) 65 false,o 68 (.pick (.t 65) (.k w) (.t 67)),mv 69 68,g 70 (.mv (.t 0)) 69 false,g 71 (.nilc (.t 70)) 69 false,g 72 (.fad 4 (.t 71)) 69 false,g 73 (.load false 1 (.t 72)) 69 false,g 74 (.len (.t 73)) 69 false,g 75 (.bin .gtr (.t 74) (c 0)) 69 false,o 76 (.pick (.t 69) (.k w) (.t 75)),mv 62 76]
 (.cond (.t 62)
 (.reg [mv 77 0,o 78 (.nilc (.t 77)),fa 79 8 78,sk 1 79 w])
 (.reg [mv 15 0,mv 16 1,cl 17 23 [(.t 15),(.t 16)]]))))))))))
 (rg [mk 4 .sn]
 .ret)))))⟩
def a20 : Ann := ⟨[],[⟨true,7,false⟩],[0],[]⟩
def s20 : SFun := ⟨2,59,[0],[(.tmp 4,⟨true,7,false⟩)],
 (rg [mk 4 .sn]
 (.seq (rg [mv 6 0,o 7 (.nilc (.t 6)),fa 8 4 7,ld 9 1 8,ln 10 9,bk 11 .eql 10 (i 0),mv 5 11]
 (.block 0 (rg [mv 17 5,mv 18 17,g 19 (.mv (.t 1)) 18 true,g 20 (.bin .eql (.t 19) (.k (u 91))) 18 true,o 21 (.pick (.t 18) (.t 20) (.k f)),mv 16 21]
 (.cond (.t 16)
 (.reg [mv 22 0,cl 23 14 [(.t 22),(c 2)]])
 (rg [mv 25 5,mv 26 25,g 27 (.mv (.t 1)) 26 true,g 28 (.bin .eql (.t 27) (.k (u 93))) 26 true,g 29 (.mv (.t 28)) 26 true,g 30 (.mv (.t 1)) 29 false,g 31 (.bin .eql (.t 30) (.k (u 80))) 29 false,g 32 (.pick (.t 29) (.k w) (.t 31)) 26 true,g 33 (.mv (.t 32)) 26 true,g 34 (.mv (.t 1)) 33 false,g 35 (.bin .eql (.t 34) (.k (u 88))) 33 false,g 36 (.pick (.t 33) (.k w) (.t 35)) 26 true,g 37 (.mv (.t 36)) 26 true,g 38 (.mv (.t 1)) 37 false,g 39 (.bin .eql (.t 38) (.k (u 94))) 37 false,g 40 (.pick (.t 37) (.k w) (.t 39)) 26 true,g 41 (.mv (.t 40)) 26 true,g 42 (.mv (.t 1)) 41 false,g 43 (.bin .eql (.t 42) (.k (u 95))) 41 false,g 44 (.pick (.t 41) (.k w) (.t 43)) 26 true,o 45 (.pick (.t 26) (.t 44) (.k f)),mv 24 45]
 (.cond (.t 24)
 (rg [mv 46 0,cl 47 14 [(.t 46),(c 3)]]
 (.reg [mv 48 0,mv 49 1,bk 50 .eql 49 (u 93),o 51 (.nilc (.t 48)),fa 52 9 51,st 1 52 50]))
 (rg [mv 54 1,bk 55 .lss 54 (u 48),mv 53 55]
 (.cond (.t 53)
 (.reg [mv 56 0,mv 57 1,cl 58 15 [(.t 56),(.t 57)]])
 (rg [mv 12 0,mv 13 1,o 14 (.build [(i 0),(r 0),(u 0),(u 0),(u 0),.sn,(D.str [])] [(0,1,(c 3)),(4,1,(.t 13))]),cl 15 18 [(.t 12),(.t 14)],mv 4 15]
 .ret)))))))))
 (rg [mk 4 .sn]
 .ret)))⟩
def a13 : Ann := ⟨[],[⟨true,7,false⟩],[0],[]⟩
def s13 : SFun := ⟨2,48,[0],[(.tmp 4,⟨true,7,false⟩)],
 (rg [mk 4 .sn]
 (.seq (rg [mv 7 0,o 8 (.nilc (.t 7)),fa 9 0 8,ld 10 1 9]
 (.block 0 (rg [bk 12 .eql 10 (i 0),mv 11 12]
 (.cond (.t 11)
 (rg [mv 13 0,mv 14 1,cl 15 21 [(.t 13),(.t 14)],mv 4 15]
 .ret)
 (rg [bk 17 .eql 10 (i 3),mv 16 17]
 (.cond (.t 16)
 (rg [mv 18 0,mv 19 1,cl 20 22 [(.t 18),(.t 19)],mv 4 20]
 .ret)
 (rg [bk 22 .eql 10 (i 4),mv 21 22]
 (.cond (.t 21)
 (.seq (rg [mv 23 1,bk 24 .eql 23 (u 92)]
 (.cond (.t 24)
 (rg [mv 25 0,cl 26 24 [(.t 25)],mv 4 26]
 .ret)
 .skip))
 (.reg [mv 27 0,cl 28 14 [(.t 27),(c 1)]]))
 .skip))))))))
 (.seq (rg [mv 30 0,mv 31 1,cl 32 17 [(.t 30),(.t 31)],mv 29 32,ex 33 29 0,ex 34 29 1,mv 5 33,mv 6 34]
 (rg [mv 35 6]
 (.cond (.t 35)
 (rg [mv 36 5,mv 4 36]
 .ret)
 .skip)))
 (.seq (rg [mv 37 0,o 38 (.nilc (.t 37)),fa 39 0 38,ld 40 1 39,bk 41 .eql 40 (i 2)]
 (.cond (.t 41)
 (rg [mv 42 0,mv 43 1,cl 44 19 [(.t 42),(.t 43)],mv 4 44]
 .ret)
 .skip))
 (rg [mv 45 0,mv 46 1,cl 47 20 [(.t 45),(.t 46)],mv 4 47]
 .ret)))))⟩
def a11 : Ann := ⟨[(3,[(8,m),(9,m),(10,m),(0,⟨true,0,false⟩),(5,⟨true,7,false⟩)])],[⟨true,7,false⟩],[0],[]⟩
def s11 : SFun := ⟨2,21,[0],[(.tmp 4,⟨true,7,false⟩)],
 (rg [mk 4 .sn]
 (rg [mk 5 .sn]
 (.seq (rg [mv 8 1,ln 9 8,mk 10 (i 0)]
 (.block 0 (.loop [(8,m),(9,m),(10,m),(0,⟨true,0,false⟩),(5,⟨true,7,false⟩)]
 (rg [bn 11 .lss 10 9]
 (.seq (.cond (.t 11)
 .skip
 (.exit 0))
 (.seq (.block 1 (rg [ix 12 1 8 10,ld 13 1 12,mv 7 13]
 (.reg [mv 14 5,mv 15 0,mv 16 7,cl 17 13 [(.t 15),(.t 16)],o 18 (.append 7 56 (.t 14) (.t 17)),mv 5 18])))
 (.reg [bk 19 .add 10 (i 1),mv 10 19])))))))
 (rg [mv 20 5,mv 4 20]
 .ret))))⟩
def a35 : Ann := ⟨[(4,[(21,m),(22,m),(23,m),(0,⟨true,0,false⟩),(3,⟨true,0,false⟩)])],[],[0],[]⟩
def s35 : SFun := ⟨2,56,[0],[],
 (rg [bx 3 7 1]
 (.seq (.seq (.dreg [([],false,mv 6 0),([],false,o 7 (.nilc (.t 6))),([],false,fa 8 0 7),([],false,ld 9 1 8),([0,1,2,3],false,la 10 7 3),([],true,cl 11 132 [(.t 9),(.t 10)]),([],true,o 12 (.una .not (.t 11)))])
 (.cond (.t 12)
 (rg [mv 13 0,o 14 (.nilc (.t 13)),fa 15 33 14,ld 16 1 15,bk 17 .add 16 (i 1),o 18 (.nilc (.t 13)),fa 19 33 18,st 1 19 17]
 .ret)
 .skip))
 (.seq (rg [fa 20 5 3,ld 21 1 20,ln 22 21,mk 23 (i 0)]
 (.block 0 (.loop [(21,m),(22,m),(23,m),(0,⟨true,0,false⟩),(3,⟨true,0,false⟩)]
 (rg [bn 24 .lss 23 22]
 (.seq (.cond (.t 24)
 .skip
 (.exit 0))
 (.seq (.block 1 (rg [ix 25 1 21 23,ld 26 1 25,mv 5 26]
 (.seq (.dreg [([],false,mv 27 0),([],false,o 28 (.nilc (.t 27))),([],false,fa 29 0 28),([],false,ld 30 1 29),([0,1,2,3],false,la 31 7 3),([0,1,2,3,4],false,mv 32 5),([],true,cl 33 425 [(.t 30),(.t 31),(.t 32)]),([],true,o 34 (.una .not (.t 33)))])
 (.cond (.t 34)
 (.reg [mv 35 0,o 36 (.nilc (.t 35)),fa 37 33 36,ld 38 1 37,bk 39 .add 38 (i 1),o 40 (.nilc (.t 35)),fa 41 33 40,st 1 41 39])
 .skip))))
 (.reg [bk 42 .add 23 (i 1),mv 23 42])))))))
 (.dreg [([],false,mv 43 0),([0],false,mv 44 0),([0],false,o 45 (.nilc (.t 44))),([0],false,fa 46 0 45),([0],false,ld 47 1 46),([0,1,2,3,4],false,mv 48 0),([0,1,2,3,4],false,o 49 (.nilc (.t 48))),([0,1,2,3,4],false,fa 50 1 49),([0,1,2,3,4],false,la 51 29 50),([0,1,2,3,4,5,6,7,8],false,la 52 7 3),([0],false,o 53 (.call true 423 [(.t 47),(.t 51),(.t 52)])),([],true,o 54 (.nilc (.t 43))),([],true,fa 55 1 54),([],true,st 29 55 53)]))))⟩
def a36 : Ann := ⟨[],[],[0],[]⟩
def s36 : SFun := ⟨2,77,[0],[],
 (rg [mv 5 0,o 6 (.nilc (.t 5)),fa 7 31 6,ld 8 1 7,mv 4 8]
 (rg [mv 9 0,o 10 (.nilc (.t 9)),fa 11 31 10,sk 1 11 (i 0)]
 (.block 0 (rg [mv 18 4,bk 19 .eql 18 (i 2),mv 17 19]
 (.cond (.t 17)
 (.reg [mv 20 0,mv 21 0,mv 22 1,o 23 (.cvi .i64 (.t 22)),bk 24 .sub 23 (i 32),o 25 (.nilc (.t 20)),fa 26 32 25,st 1 26 24,o 27 (.nilc (.t 21)),fa 28 31 27,sk 1 28 (i 3)])
 (rg [mv 30 4,bk 31 .eql 30 (i 3),mv 29 31]
 (.cond (.t 29)
 (.dreg [([],false,mv 32 0),([0],false,mv 33 0),([0],false,o 34 (.nilc (.t 33))),([0],false,fa 35 1 34),([0],false,la 36 29 35),([0,1,2,3,4],false,mv 37 0),([0,1,2,3,4],false,o 38 (.nilc (.t 37))),([0,1,2,3,4],false,fa 39 32 38),([0,1,2,3,4],false,ld 40 1 39),([0,1,2,3,4,5,6,7,8],false,mv 41 1),([0,1,2,3,4,5,6,7,8],false,o 42 (.cvi .i64 (.t 41))),([0,1,2,3,4,5,6,7,8],false,bk 43 .sub 42 (i 32)),([0],false,o 44 (.call true 122 [(.t 36),(.t 40),(.t 43)])),([],true,o 45 (.nilc (.t 32))),([],true,fa 46 1 45),([],true,st 29 46 44)])
 (rg [mv 48 4,bk 49 .eql 48 (i 1),mv 50 49,g 51 (.mv (.t 1)) 50 true,g 52 (.bin .eql (.t 51) (.k (u 89))) 50 true,o 53 (.pick (.t 50) (.t 52) (.k f)),mv 47 53]
 (.cond (.t 47)
 (.reg [mv 54 0,o 55 (.nilc (.t 54)),fa 56 31 55,sk 1 56 (i 2)])
 (rg [mv 58 4,bk 59 .eql 58 (i 1),mv 57 59]
 (.cond (.t 57)
 (.reg [mv 60 0,mv 61 1,o 62 (.build [(i 0),(r 0),(u 0),(u 0),(u 0),.sn,(D.str [])] [(0,1,(c 3)),(4,1,(.t 61))]),cl 63 35 [(.t 60),(.t 62)]])
 (rg [mv 65 1,bk 66 .eql 65 (u 27),mv 64 66]
 (.cond (.t 64)
 (.reg [mv 67 0,o 68 (.nilc (.t 67)),fa 69 31 68,sk 1 69 (i 1)])
 (rg [mv 71 1,bk 72 .lss 71 (u 32),mv 70 72]
 (.cond (.t 70)
 (.reg [mv 73 0,mv 74 1,o 75 (.build [(i 0),(r 0),(u 0),(u 0),(u 0),.sn,(D.str [])] [(0,1,(c 2)),(4,1,(.t 74))]),cl 76 35 [(.t 73),(.t 75)]])
 (.reg [mv 12 0,mv 13 1,o 14 (.cvi .i32 (.t 13)),o 15 (.build [(i 0),(r 0),(u 0),(u 0),(u 0),.sn,(D.str [])] [(0,1,(c 1)),(1,1,(.t 14))]),cl 16 35 [(.t 12),(.t 15)]]))))))))))))))))⟩
def a30 : Ann := ⟨[(2,[(18,m),(19,m),(20,m),(0,⟨true,0,false⟩)]),(7,[(28,m),(29,m),(30,m),(0,⟨true,0,false⟩)])],[],[0],[]⟩
def s30 : SFun := ⟨2,38,[0],[],
 (.seq (rg [mv 8 0,o 9 (.nilc (.t 8)),fa 10 0 9,ld 11 1 10,bk 12 .neq 11 (i 3)]
 (.cond (.t 12)
 (.seq (rg [mv 13 0,o 14 (.nilc (.t 13)),fa 15 30 14,ld 16 1 15,mv 17 1,cl 18 11 [(.t 16),(.t 17)],ln 19 18,mk 20 (i 0)]
 (.block 0 (.loop [(18,m),(19,m),(20,m),(0,⟨true,0,false⟩)]
 (rg [bn 21 .lss 20 19]
 (.seq (.cond (.t 21)
 .skip
 (.exit 0))
 (.seq (.block 1 (rg [ix 22 7 18 20,la 23 7 22,al 5 [(i 0),(r 0),(u 0),(u 0),(u 0),.sn,(D.str [])],st 7 5 23]
 (.reg [mv 24 0,la 25 7 5,cl 26 35 [(.t 24),(.t 25)]])))
 (.reg [bk 27 .add 20 (i 1),mv 20 27])))))))
 .ret)
 .skip))
 (rg [mv 28 1,ln 29 28,mk 30 (i 0)]
 (.block 2 (.loop [(28,m),(29,m),(30,m),(0,⟨true,0,false⟩)]
 (rg [bn 31 .lss 30 29]
 (.seq (.cond (.t 31)
 .skip
 (.exit 2))
 (.seq (.block 3 (rg [ix 32 1 28 30,ld 33 1 32,mv 7 33]
 (.reg [mv 34 0,mv 35 7,cl 36 36 [(.t 34),(.t 35)]])))
 (.reg [bk 37 .add 30 (i 1),mv 30 37]))))))))⟩
def a31 : Ann := ⟨[],[m],[0],[]⟩
def s31 : SFun := ⟨1,8,[0],[(.cell 2 true 29,m)],
 (rg [al 2 z0]
 (rg [mv 3 0,o 4 (.nilc (.t 3)),fa 5 1 4,la 6 29 5,cl 7 370 [(.t 6)],st 29 2 7]
 .ret))⟩
def a34 : Ann := ⟨[],[m],[0],[]⟩
def s34 : SFun := ⟨1,15,[0],[(.cell 2 true 6,m)],
 (rg [al 2 z5]
 (rg [mv 4 0,cl 5 31 [(.t 4)],al 3 z0,st 29 3 5]
 (rg [fa 6 0 3,la 7 3 6,fa 8 3 3,ld 9 1 8,fa 10 4 3,ld 11 1 10,fa 12 17 3,ld 13 1 12,o 14 (.build z5 [(0,3,(.t 7)),(3,1,(.t 9)),(4,1,(.t 11)),(5,1,(.t 13))]),st 6 2 14]
 .ret)))⟩
def a33 : Ann := ⟨[],[m],[0],[]⟩
def s33 : SFun := ⟨1,7,[0],[(.tmp 2,m)],
 (rg [mk 2 (i 0)]
 (rg [mv 3 0,o 4 (.nilc (.t 3)),fa 5 33 4,ld 6 1 5,mv 2 6]
 .ret))⟩
def a209 : Ann := ⟨[],[m],[],[]⟩
def s209 : SFun := ⟨0,53,[],[(.tmp 0,m)],
 (rg [mk 0 f]
 (rg [cl 5 424 [(c 3),(c 5),(c 9)],cl 6 424 [(c 1),(c 5),(c 9)],mv 1 5,mv 2 6]
 (.seq (rg [mv 7 1,o 8 (.eqn false (.t 7)),mv 9 8,g 10 (.mv (.t 2)) 9 false,g 11 (.eqn false (.t 10)) 9 false,o 12 (.pick (.t 9) (.k w) (.t 11)),mv 13 12,g 14 (.call false 424 [(c 9),(c 5),(c 9)]) 13 false,g 15 (.eqn true (.t 14)) 13 false,o 16 (.pick (.t 13) (.k w) (.t 15))]
 (.cond (.t 16)
 (rg [mk 0 f]
 .ret)
 .skip))
 (rg [mv 17 1,o 18 (.bsl false 1 5 [(u 0)] [(0,(.k (u 27))),(1,(.k (u 89))),(2,(.k (u 34))),(3,(.k (u 35))),(4,(.k (u 120)))]),cl 19 30 [(.t 17),(.t 18)]]
 (rg [mv 20 2,o 21 (.bsl true 1 3 [(u 0)] [(0,(.k (u 27))),(1,(.k (u 91))),(2,(.k (u 80)))]),o 22 (.cvb (.t 21)),cl 23 30 [(.t 20),(.t 22)]]
 (rg [mv 25 1,cl 26 34 [(.t 25)],ga 27 0 3 26,cl 28 149 [(.t 27),(c 2),(c 3)],mv 24 28,ex 29 24 0,ex 30 24 1,al 3 z3,st 5 3 29,mv 4 30]
 (rg [mv 31 4,mv 32 31,g 33 (.fad 0 (.t 3)) 32 true,g 34 (.load false 1 (.t 33)) 32 true,g 35 (.bin .eql (.t 34) (.k (r 120))) 32 true,o 36 (.pick (.t 32) (.t 35) (.k f)),mv 37 36,g 38 (.mv (.t 1)) 37 true,g 39 (.call false 33 [(.t 38)]) 37 true,g 40 (.bin .eql (.t 39) (c 0)) 37 true,o 41 (.pick (.t 37) (.t 40) (.k f)),mv 42 41,g 43 (.mv (.t 2)) 42 true,g 44 (.call false 33 [(.t 43)]) 42 true,g 45 (.bin .eql (.t 44) (c 1)) 42 true,o 46 (.pick (.t 42) (.t 45) (.k f)),mv 47 46,g 48 (.mv (.t 1)) 47 true,g 49 (.call false 34 [(.t 48)]) 47 true,g 50 (.fld false 4 1 (.t 49)) 47 true,g 51 (.bin .eql (.t 50) (c 4)) 47 true,o 52 (.pick (.t 47) (.t 51) (.k f)),mv 0 52]
 .ret)))))))⟩
def a63 : Ann := ⟨[(15,[(6,m),(1,⟨true,0,false⟩),(2,⟨true,0,false⟩),(5,⟨true,1,false⟩)]),(21,[(8,m),(1,⟨true,0,false⟩),(2,⟨true,0,false⟩),(7,⟨true,0,false⟩)])],[m],[],[]⟩
def s63 : SFun := ⟨1,140,[],[(.cell 2 true 7,m)],
 (rg [bx 1 5 0,al 2 [(i 0),(r 0),(u 0),(u 0),(u 0),.sn,(D.str [])]]
 (rg [fa 9 2 1,ld 10 1 9,mv 3 10]
 (.seq (rg [fa 11 0 1,ld 12 1 11,cl 13 174 [(.t 12),(c 0),(c 5)]]
 (.block 0 (rg [bk 15 .eql 13 (i 0),mv 14 15]
 (.cond (.t 14)
 (rg [fa 16 1 1,ld 17 1 16,cl 18 174 [(.t 17),(c 0),(c 94)],mv 4 18]
 (.seq (rg [fa 19 1 1,ld 20 1 19,bk 21 .rem 20 (i 7),bk 22 .eql 21 (i 3)]
 (.cond (.t 22)
 (rg [o 23 (.bsl false 1 6 [(r 0)] [(0,(.k (r 228))),(1,(.k (r 9472))),(2,(.k (r 19968))),(3,(.k (r 769))),(4,(.k (r 128512))),(5,(.k (r 128)))]),fa 24 2 1,ld 25 1 24,cl 26 174 [(.t 25),(c 0),(c 5)],ix 27 1 23 26,ld 28 1 27,o 29 (.build [(i 0),(r 0),(u 0),(u 0),(u 0),.sn,(D.str [])] [(0,1,(c 1)),(1,1,(.t 28))]),st 7 2 29]
 .ret)
 .skip))
 (rg [mv 30 4,o 31 (.bin .add (c 32) (.t 30)),o 32 (.cvi .i32 (.t 31)),o 33 (.build [(i 0),(r 0),(u 0),(u 0),(u 0),.sn,(D.str [])] [(0,1,(c 1)),(1,1,(.t 32))]),st 7 2 33]
 .ret)))
 (rg [bk 35 .eql 13 (i 1),mv 34 35]
 (.cond (.t 34)
 (rg [o 36 (.bsl false 1 9 [(u 0)] [(0,(.k (u 7))),(1,(.k (u 8))),(2,(.k (u 9))),(3,(.k (u 10))),(4,(.k (u 13))),(5,(.k (u 14))),(6,(.k (u 15))),(7,(.k (u 0))),(8,(.k (u 11)))]),mv 37 3,cl 38 174 [(.t 37),(c 0),(c 8)],ix 39 1 36 38,ld 40 1 39,o 41 (.build [(i 0),(r 0),(u 0),(u 0),(u 0),.sn,(D.str [])] [(0,1,(c 2)),(4,1,(.t 40))]),st 7 2 41]
 .ret)
 (rg [bk 43 .eql 13 (i 2),mv 42 43]
 (.cond (.t 42)
 (rg [o 44 (.build [(i 0),(r 0),(u 0),(u 0),(u 0),.sn,(D.str [])] [(0,1,(c 3)),(4,1,(.k (u 77)))]),o 45 (.build [(i 0),(r 0),(u 0),(u 0),(u 0),.sn,(D.str [])] [(0,1,(c 3)),(3,1,(.k (u 40))),(4,1,(.k (u 48)))]),o 46 (.build [(i 0),(r 0),(u 0),(u 0),(u 0),.sn,(D.str [])] [(0,1,(c 3)),(3,1,(.k (u 40))),(4,1,(.k (u 66)))]),o 47 (.build [(i 0),(r 0),(u 0),(u 0),(u 0),.sn,(D.str [])] [(0,1,(c 3)),(4,1,(.k (u 55)))]),o 48 (.build [(i 0),(r 0),(u 0),(u 0),(u 0),.sn,(D.str [])] [(0,1,(c 3)),(4,1,(.k (u 56)))]),o 49 (.build [(i 0),(r 0),(u 0),(u 0),(u 0),.sn,(D.str [])] [(0,1,(c 3)),(4,1,(.k (u 68)))]),o 50 (.build [(i 0),(r 0),(u 0),(u 0),(u 0),.sn,(D.str [])] [(0,1,(c 3)),(4,1,(.k (u 69)))]),o 51 (.build [(i 0),(r 0),(u 0),(u 0),(u 0),.sn,(D.str [])] [(0,1,(c 3)),(4,1,(.k (u 99)))]),o 52 (.build [(i 0),(r 0),(u 0),(u 0),(u 0),.sn,(D.str [])] [(0,1,(c 3)),(3,1,(.k (u 35))),(4,1,(.k (u 56)))]),o 53 (.build [(i 0),(r 0),(u 0),(u 0),(u 0),.sn,(D.str [])] [(0,1,(c 3)),(4,1,(.k (u 72)))]),o 54 (.bsl false 7 10 [(i 0),(r 0),(u 0),(u 0),(u 0),.sn,(D.str [])] [(0,(.t 44)),(1,(.t 45)),(2,(.t 46)),(3,(.t 47)),(4,(.t 48)),(5,(.t 49)),(6,(.t 50)),(7,(.t 51)),(8,(.t 52)),(9,(.t 53))]),mv 55 3,cl 56 174 [(.t 55),(c 0),(c 9)],ix 57 7 54 56,la 58 7 57,st 7 2 58]
 .ret)
 (rg [bk 60 .eql 13 (i 3),mv 59 60]
 (.cond (.t 59)
 (rg [mk 5 .sn]
 (.seq (rg [mk 6 (i 0)]
 (.block 1 (.loop [(6,m),(1,⟨true,0,false⟩),(2,⟨true,0,false⟩),(5,⟨true,1,false⟩)]
 (.seq (rg [mv 61 6,fa 62 4 1,ld 63 1 62,ln 64 63,bn 65 .lss 61 64,mv 66 65,g 67 (.mv (.t 6)) 66 true,g 68 (.bin .lss (.t 67) (c 20)) 66 true,o 69 (.pick (.t 66) (.t 68) (.k f))]
 (.cond (.t 69)
 .skip
 (.exit 1)))
 (.seq (.block 2 (.reg [mv 72 5,fa 73 4 1,ld 74 1 73,mv 75 6,ix 76 1 74 75,ld 77 1 76,o 78 (.cvi .i64 (.t 77)),cl 79 174 [(.t 78),(c 32),(c 255)],o 80 (.cvi .u8 (.t 79)),o 81 (.bsl false 1 1 [(u 0)] [(0,(.t 80))]),o 82 (.append 1 1 (.t 72) (.t 81)),mv 5 82]))
 (.reg [mv 70 6,bk 71 .add 70 (i 1),mv 6 71]))))))
 (rg [mv 83 5,o 84 (.b2s (.t 83)),o 85 (.build [(i 0),(r 0),(u 0),(u 0),(u 0),.sn,(D.str [])] [(0,1,(c 5)),(6,1,(.t 84))]),st 7 2 85]
 .ret)))
 .skip))))))))))
 (rg [mv 86 3,cl 87 174 [(.t 86),(c 0),(c 22)],o 88 (.ixt (.k (D.str [72,65,66,67,68,71,100,74,75,76,77,80,88,64,83,84,114,109,104,108,110,99,115])) (.t 87)),o 89 (.build [(i 0),(r 0),(u 0),(u 0),(u 0),.sn,(D.str [])] [(0,1,(c 4)),(4,1,(.t 88))]),al 7 [(i 0),(r 0),(u 0),(u 0),(u 0),.sn,(D.str [])],st 7 7 89]
 (.seq (rg [mk 8 (i 0)]
 (.block 3 (.loop [(8,m),(1,⟨true,0,false⟩),(2,⟨true,0,false⟩),(7,⟨true,0,false⟩)]
 (.seq (rg [mv 90 8,fa 91 3 1,ld 92 1 91,ln 93 92,bn 94 .lss 90 93,mv 95 94,g 96 (.mv (.t 8)) 95 true,g 97 (.bin .lss (.t 96) (c 5)) 95 true,o 98 (.pick (.t 95) (.t 97) (.k f))]
 (.cond (.t 98)
 .skip
 (.exit 3)))
 (.seq (.block 4 (.dreg [([],false,fa 101 5 7),([],false,ld 102 1 101),([0,1],false,fa 103 3 1),([0,1],false,ld 104 1 103),([0,1,2,3],false,mv 105 8),([0,1],false,ix 106 1 104 105),([0,1],false,ld 107 1 106),([0,1],false,o 108 (.callr 174 [(.t 107),(c (-1)),(c 60)])),([0,1],false,o 109 (.bsl false 1 1 [(i 0)] [(0,(.t 108))])),([],true,o 110 (.append 1 8 (.t 102) (.t 109))),([],true,fa 111 5 7),([],true,st 1 111 110)]))
 (.reg [mv 99 8,bk 100 .add 99 (i 1),mv 8 100]))))))
 (.seq (rg [fa 112 4 7,ld 113 1 112,bk 114 .eql 113 (u 104),mv 115 114,g 116 (.fad 4 (.t 7)) 115 false,g 117 (.load false 1 (.t 116)) 115 false,g 118 (.bin .eql (.t 117) (.k (u 108))) 115 false,o 119 (.pick (.t 115) (.k w) (.t 118)),mv 120 119,g 121 (.fad 1 (.t 1)) 120 false,g 122 (.load false 1 (.t 121)) 120 false,g 123 (.bin .and (.t 122) (c 7)) 120 false,g 124 (.bin .eql (.t 123) (c 7)) 120 false,o 125 (.pick (.t 120) (.k w) (.t 124))]
 (.cond (.t 125)
 (.reg [fa 126 2 7,sk 1 126 (u 63)])
 .skip))
 (.seq (rg [fa 127 5 7,ld 128 1 127,ln 129 128,bk 130 .eql 129 (i 1),mv 131 130,g 132 (.fad 5 (.t 7)) 131 true,g 133 (.load false 1 (.t 132)) 131 true,g 134 (.ixs 1 (.t 133) (c 0)) 131 true,g 135 (.load false 1 (.t 134)) 131 true,g 136 (.bin .eql (.t 135) (c (-1))) 131 true,o 137 (.pick (.t 131) (.t 136) (.k f))]
 (.cond (.t 137)
 (.reg [fa 138 5 7,sk 1 138 .sn])
 .skip))
 (rg [la 139 7 7,st 7 2 139]
 .ret))))))))⟩
def a275 : Ann := ⟨[(2,[(0,m),(1,m),(4,m),(5,m)])],[m],[],[]⟩
def s275 : SFun := ⟨2,17,[],[(.tmp 4,m)],
 (rg [mk 4 f]
 (.seq (rg [mk 5 (i 0)]
 (.block 0 (.loop [(0,m),(1,m),(4,m),(5,m)]
 (.seq (rg [mv 6 5,mv 7 0,o 8 (.lens (.t 7)),bn 9 .lss 6 8]
 (.cond (.t 9)
 .skip
 (.exit 0)))
 (.seq (.block 1 (rg [mv 12 0,mv 13 5,o 14 (.ixt (.t 12) (.t 13)),mv 15 1,bn 16 .eql 14 15]
 (.cond (.t 16)
 (rg [mk 4 w]
 .ret)
 .skip)))
 (.reg [mv 10 5,bk 11 .add 10 (i 1),mv 5 11]))))))
 (rg [mk 4 f]
 .ret)))⟩
def a260 : Ann := ⟨[],[m],[],[]⟩
def s260 : SFun := ⟨2,137,[],[(.tmp 4,m)],
 (rg [bx 3 7 1,mk 4 f]
 (.seq (.block 0 (rg [mv 6 0,bk 7 .lss 6 (i 1),mv 8 7,g 9 (.mv (.t 0)) 8 false,g 10 (.bin .gtr (.t 9) (c 3)) 8 false,o 11 (.pick (.t 8) (.k w) (.t 10)),mv 5 11]
 (.cond (.t 5)
 (rg [mk 4 f]
 .ret)
 (rg [fa 13 0 3,ld 14 1 13,bk 15 .eql 14 (i 1),mv 12 15]
 (.cond (.t 12)
 (rg [fa 16 1 3,ld 17 1 16,bk 18 .geq 17 (r 32),mv 19 18,g 20 (.fad 1 (.t 3)) 19 true,g 21 (.load false 1 (.t 20)) 19 true,g 22 (.bin .lss (.t 21) (.k (r 127))) 19 true,o 23 (.pick (.t 19) (.t 22) (.k f)),mv 4 23]
 .ret)
 (rg [fa 25 0 3,ld 26 1 25,bk 27 .eql 26 (i 2),mv 24 27]
 (.cond (.t 24)
 (rg [fa 28 4 3,ld 29 1 28,bk 30 .geq 29 (u 7),mv 31 30,g 32 (.fad 4 (.t 3)) 31 true,g 33 (.load false 1 (.t 32)) 31 true,g 34 (.bin .leq (.t 33) (.k (u 10))) 31 true,o 35 (.pick (.t 31) (.t 34) (.k f)),mv 36 35,g 37 (.fad 4 (.t 3)) 36 false,g 38 (.load false 1 (.t 37)) 36 false,g 39 (.bin .eql (.t 38) (.k (u 13))) 36 false,o 40 (.pick (.t 36) (.k w) (.t 39)),mv 41 40,g 42 (.mv (.t 0)) 41 false,g 43 (.bin .neq (.t 42) (c 3)) 41 false,g 44 (.mv (.t 43)) 41 false,g 45 (.fad 4 (.t 3)) 44 true,g 46 (.load false 1 (.t 45)) 44 true,g 47 (.bin .eql (.t 46) (.k (u 14))) 44 true,g 48 (.mv (.t 47)) 44 true,g 49 (.fad 4 (.t 3)) 48 false,g 50 (.load false 1 (.t 49)) 48 false,g 51 (.bin .eql (.t 50) (.k (u 15))) 48 false,g 52 (.pick (.t 48) (.k w) (.t 51)) 44 true,g 53 (.pick (.t 44) (.t 52) (.k f)) 41 false,o 54 (.pick (.t 41) (.k w) (.t 53)),mv 4 54]
 .ret)
 (rg [mv 56 0,bk 57 .eql 56 (i 3),mv 55 57]
 (.cond (.t 55)
 (rg [fa 58 0 3,ld 59 1 58,bk 60 .eql 59 (i 3),mv 61 60,g 62 (.fad 3 (.t 3)) 61 true,g 63 (.load false 1 (.t 62)) 61 true,g 64 (.bin .eql (.t 63) (.k (u 0))) 61 true,o 65 (.pick (.t 61) (.t 64) (.k f)),mv 66 65,g 67 (.fad 4 (.t 3)) 66 true,g 68 (.load false 1 (.t 67)) 66 true,g 69 (.call false 275 [(.k (D.str [65,66,67,68,72,73,74,75,89])),(.t 68)]) 66 true,o 70 (.pick (.t 66) (.t 69) (.k f)),mv 4 70]
 .ret)
 (rg [fa 72 0 3,ld 73 1 72,bk 74 .eql 73 (i 3),mv 75 74,g 76 (.fad 3 (.t 3)) 75 true,g 77 (.load false 1 (.t 76)) 75 true,g 78 (.bin .eql (.t 77) (.k (u 0))) 75 true,o 79 (.pick (.t 75) (.t 78) (.k f)),mv 71 79]
 (.cond (.t 71)
 (rg [fa 80 4 3,ld 81 1 80,cl 82 275 [(.k (D.str [55,56,68,69,77,72,99,61,62])),(.t 81)],mv 4 82]
 .ret)
 (rg [fa 84 0 3,ld 85 1 84,bk 86 .eql 85 (i 3),mv 83 86]
 (.cond (.t 83)
 (rg [fa 87 3 3,ld 88 1 87,bk 89 .eql 88 (u 40),mv 90 89,g 91 (.fad 3 (.t 3)) 90 false,g 92 (.load false 1 (.t 91)) 90 false,g 93 (.bin .eql (.t 92) (.k (u 41))) 90 false,o 94 (.pick (.t 90) (.k w) (.t 93)),mv 95 94,g 96 (.fad 4 (.t 3)) 95 true,g 97 (.load false 1 (.t 96)) 95 true,g 98 (.bin .eql (.t 97) (.k (u 48))) 95 true,g 99 (.mv (.t 98)) 95 true,g 100 (.fad 4 (.t 3)) 99 false,g 101 (.load false 1 (.t 100)) 99 false,g 102 (.bin .eql (.t 101) (.k (u 66))) 99 false,g 103 (.pick (.t 99) (.k w) (.t 102)) 95 true,o 104 (.pick (.t 95) (.t 103) (.k f)),mv 4 104]
 .ret)
 (rg [fa 106 0 3,ld 107 1 106,bk 108 .neq 107 (i 4),mv 109 108,g 110 (.fad 3 (.t 3)) 109 false,g 111 (.load false 1 (.t 110)) 109 false,g 112 (.bin .neq (.t 111) (.k (u 0))) 109 false,o 113 (.pick (.t 109) (.k w) (.t 112)),mv 105 113]
 (.cond (.t 105)
 (rg [mk 4 f]
 .ret)
 (rg [fa 115 2 3,ld 116 1 115,bk 117 .eql 116 (u 63),mv 114 117]
 (.cond (.t 114)
 (rg [fa 118 4 3,ld 119 1 118,cl 120 275 [(.k (D.str [104,108])),(.t 119)],mv 4 120]
 .ret)
 (rg [fa 122 2 3,ld 123 1 122,bk 124 .neq 123 (u 0),mv 121 124]
 (.cond (.t 121)
 (rg [mk 4 f]
 .ret)
 .skip)))))))))))))))))))
 (rg [fa 125 4 3,ld 126 1 125,cl 127 275 [(.k (D.str [65,66,67,68,72,102,74,75,109,114,103])),(.t 126)],mv 128 127,g 129 (.mv (.t 0)) 128 false,g 130 (.bin .eql (.t 129) (c 2)) 128 false,g 131 (.mv (.t 130)) 128 false,g 132 (.fad 4 (.t 3)) 131 true,g 133 (.load false 1 (.t 132)) 131 true,g 134 (.call false 275 [(.k (D.str [71,100,69,70,64,80,76,77,88])),(.t 133)]) 131 true,g 135 (.pick (.t 131) (.t 134) (.k f)) 128 false,o 136 (.pick (.t 128) (.k w) (.t 135)),mv 4 136]
 .ret)))⟩
def a244 : Ann := ⟨[],[⟨true,1,false⟩],[],[]⟩
def s244 : SFun := ⟨0,2,[],[(.tmp 0,⟨true,1,false⟩)],
 (rg [mk 0 .sn]
 (rg [o 1 (.bsl true 1 31 [(r 0)] [(0,(.k (r 9670))),(1,(.k (r 9618))),(2,(.k (r 9225))),(3,(.k (r 9228))),(4,(.k (r 9229))),(5,(.k (r 9226))),(6,(.k (r 176))),(7,(.k (r 177))),(8,(.k (r 9252))),(9,(.k (r 9227))),(10,(.k (r 9496))),(11,(.k (r 9488))),(12,(.k (r 9484))),(13,(.k (r 9492))),(14,(.k (r 9532))),(15,(.k (r 9146))),(16,(.k (r 9147))),(17,(.k (r 9472))),(18,(.k (r 9148))),(19,(.k (r 9149))),(20,(.k (r 9500))),(21,(.k (r 9508))),(22,(.k (r 9524))),(23,(.k (r 9516))),(24,(.k (r 9474))),(25,(.k (r 8804))),(26,(.k (r 8805))),(27,(.k (r 960))),(28,(.k (r 8800))),(29,(.k (r 163))),(30,(.k (r 183)))]),mv 0 1]
 .ret))⟩
def a256 : Ann := ⟨[],[⟨true,2,false⟩],[],[]⟩
def s256 : SFun := ⟨0,11,[],[(.tmp 0,⟨true,2,false⟩)],
 (rg [mk 0 .sn]
 (rg [o 1 (.build [(i 0),(i 0)] [(0,1,(c 4352)),(1,1,(c 4447))]),o 2 (.build [(i 0),(i 0)] [(0,1,(c 11904)),(1,1,(c 42191))]),o 3 (.build [(i 0),(i 0)] [(0,1,(c 44032)),(1,1,(c 55203))]),o 4 (.build [(i 0),(i 0)] [(0,1,(c 63744)),(1,1,(c 64255))]),o 5 (.build [(i 0),(i 0)] [(0,1,(c 65072)),(1,1,(c 65135))]),o 6 (.build [(i 0),(i 0)] [(0,1,(c 65280)),(1,1,(c 65376))]),o 7 (.build [(i 0),(i 0)] [(0,1,(c 65504)),(1,1,(c 65510))]),o 8 (.build [(i 0),(i 0)] [(0,1,(c 127744)),(1,1,(c 129791))]),o 9 (.build [(i 0),(i 0)] [(0,1,(c 131072)),(1,1,(c 262141))]),o 10 (.bsl true 2 9 [(i 0),(i 0)] [(0,(.t 1)),(1,(.t 2)),(2,(.t 3)),(3,(.t 4)),(4,(.t 5)),(5,(.t 6)),(6,(.t 7)),(7,(.t 8)),(8,(.t 9))]),mv 0 10]
 .ret))⟩
def a251 : Ann := ⟨[(5,[(2,m),(3,m),(38,m),(39,m),(40,m)])],[m],[],[]⟩
def s251 : SFun := ⟨1,55,[],[(.tmp 2,m)],
 (rg [mk 2 (i 0)]
 (rg [mv 6 0,o 7 (.cvi .i64 (.t 6)),mv 3 7]
 (.seq (rg [mv 8 3,bk 9 .lss 8 (i 32),mv 10 9,g 11 (.mv (.t 3)) 10 false,g 12 (.bin .geq (.t 11) (c 127)) 10 false,g 13 (.mv (.t 12)) 10 false,g 14 (.mv (.t 3)) 13 true,g 15 (.bin .lss (.t 14) (c 160)) 13 true,g 16 (.pick (.t 13) (.t 15) (.k f)) 10 false,o 17 (.pick (.t 10) (.k w) (.t 16)),mv 18 17,g 19 (.mv (.t 3)) 18 false,g 20 (.bin .geq (.t 19) (c 768)) 18 false,g 21 (.mv (.t 20)) 18 false,g 22 (.mv (.t 3)) 21 true,g 23 (.bin .leq (.t 22) (c 879)) 21 true,g 24 (.pick (.t 21) (.t 23) (.k f)) 18 false,o 25 (.pick (.t 18) (.k w) (.t 24)),mv 26 25,g 27 (.mv (.t 3)) 26 false,g 28 (.bin .gtr (.t 27) (c 1114111)) 26 false,o 29 (.pick (.t 26) (.k w) (.t 28)),mv 30 29,g 31 (.mv (.t 3)) 30 false,g 32 (.bin .geq (.t 31) (c 55296)) 30 false,g 33 (.mv (.t 32)) 30 false,g 34 (.mv (.t 3)) 33 true,g 35 (.bin .leq (.t 34) (c 57343)) 33 true,g 36 (.pick (.t 33) (.t 35) (.k f)) 30 false,o 37 (.pick (.t 30) (.k w) (.t 36))]
 (.cond (.t 37)
 (rg [mk 2 (i 0)]
 .ret)
 .skip))
 (.seq (rg [cl 38 256 [],ln 39 38,mk 40 (i 0)]
 (.block 0 (.loop [(2,m),(3,m),(38,m),(39,m),(40,m)]
 (rg [bn 41 .lss 40 39]
 (.seq (.cond (.t 41)
 .skip
 (.exit 0))
 (.seq (.block 1 (rg [ix 42 2 38 40,la 43 2 42,al 5 [(i 0),(i 0)],st 2 5 43]
 (rg [mv 44 3,o 45 (.ixa 2 1 (.t 5) (c 0)),ld 46 1 45,bn 47 .geq 44 46,mv 48 47,g 49 (.mv (.t 3)) 48 true,g 50 (.ixa 2 1 (.t 5) (c 1)) 48 true,g 51 (.load false 1 (.t 50)) 48 true,g 52 (.bin .leq (.t 49) (.t 51)) 48 true,o 53 (.pick (.t 48) (.t 52) (.k f))]
 (.cond (.t 53)
 (rg [mk 2 (i 2)]
 .ret)
 .skip))))
 (.reg [bk 54 .add 40 (i 1),mv 40 54])))))))
 (rg [mk 2 (i 1)]
 .ret)))))⟩
def a301 : Ann := ⟨[],[⟨true,0,false⟩],[],[]⟩
def s301 : SFun := ⟨1,9,[],[(.cell 2 true 3,⟨true,0,false⟩)],
 (rg [bx 1 3 0,al 2 [(i 0),(i 0),.sn]]
 (rg [o 3 (.bsl true 5 0 z3 []),fa 4 2 1,ld 5 1 4,o 6 (.append 5 40 (.t 3) (.t 5)),fa 7 2 1,st 1 7 6]
 (rg [la 8 3 1,st 3 2 8]
 .ret)))⟩
def a283 : Ann := ⟨[],[m],[],[]⟩
def s283 : SFun := ⟨1,5,[],[(.cell 2 true 5,m)],
 (rg [bx 1 3 0,al 2 z3]
 (rg [la 3 3 1,o 4 (.build z3 [(0,1,(.k (r 32))),(2,3,(.t 3))]),st 5 2 4]
 .ret))⟩
def a288 : Ann := ⟨[(3,[(13,m),(14,m),(5,⟨true,0,false⟩),(6,⟨true,0,false⟩),(7,⟨true,0,false⟩)])],[m],[],[]⟩
def s288 : SFun := ⟨3,25,[],[(.cell 6 true 3,m)],
 (rg [bx 5 3 2,al 6 [(i 0),(i 0),.sn]]
 (rg [mv 8 0,mv 9 1,o 10 (.build [(i 0),(i 0),.sn] [(0,1,(.t 8)),(1,1,(.t 9))]),al 7 [(i 0),(i 0),.sn],st 3 7 10]
 (.seq (rg [mv 11 0,mv 12 1,bn 13 .mul 11 12,mk 14 (i 0)]
 (.block 0 (.loop [(13,m),(14,m),(5,⟨true,0,false⟩),(6,⟨true,0,false⟩),(7,⟨true,0,false⟩)]
 (rg [bn 15 .lss 14 13]
 (.seq (.cond (.t 15)
 .skip
 (.exit 0))
 (.seq (.block 1 (.dreg [([],false,fa 16 2 7),([],false,ld 17 1 16),([0,1],false,la 18 3 5),([0,1],false,o 19 (.callr 283 [(.t 18)])),([0,1],false,o 20 (.bsl false 5 1 z3 [(0,(.t 19))])),([],true,o 21 (.append 5 40 (.t 17) (.t 20))),([],true,fa 22 2 7),([],true,st 1 22 21)]))
 (.reg [bk 23 .add 14 (i 1),mv 14 23])))))))
 (rg [la 24 3 7,st 3 6 24]
 .ret))))⟩
def a315 : Ann := ⟨[(3,[(1,m),(11,m),(12,m),(13,m),(3,⟨true,0,false⟩),(6,⟨true,0,false⟩)])],[m],[],[]⟩
def s315 : SFun := ⟨3,30,[],[(.cell 6 true 3,m)],
 (rg [bx 3 3 0,al 6 [(i 0),(i 0),.sn]]
 (rg [la 9 3 3,cl 10 301 [(.t 9)],st 3 3 10]
 (.seq (rg [mv 11 2,ln 12 11,mk 13 (i 0)]
 (.block 0 (.loop [(1,m),(11,m),(12,m),(13,m),(3,⟨true,0,false⟩),(6,⟨true,0,false⟩)]
 (rg [bn 14 .lss 13 12]
 (.seq (.cond (.t 14)
 .skip
 (.exit 0))
 (.seq (.block 1 (rg [mv 15 13,ix 16 5 11 13,la 17 5 16,al 8 z3,mv 7 15,st 5 8 17]
 (.reg [fa 18 2 3,ld 19 1 18,mv 20 1,fa 21 1 3,ld 22 1 21,bn 23 .mul 20 22,mv 24 7,bn 25 .add 23 24,la 26 5 8,ix 27 5 19 25,st 5 27 26])))
 (.reg [bk 28 .add 13 (i 1),mv 13 28])))))))
 (rg [la 29 3 3,st 3 6 29]
 .ret))))⟩
def a313 : Ann := ⟨[],[⟨true,5,false⟩],[],[]⟩
def s313 : SFun := ⟨2,17,[],[(.tmp 4,⟨true,5,false⟩)],
 (rg [bx 2 3 0,mk 4 .sn]
 (rg [fa 5 2 2,ld 6 1 5,mv 7 1,fa 8 1 2,ld 9 1 8,bn 10 .mul 7 9,mv 11 1,bk 12 .add 11 (i 1),fa 13 1 2,ld 14 1 13,bn 15 .mul 12 14,o 16 (.slc 5 (.t 6) (some (.t 10)) (some (.t 15))),mv 4 16]
 .ret))⟩
def a294 : Ann := ⟨[(6,[(1,m),(2,m),(3,m),(12,m),(13,m),(5,⟨true,0,false⟩),(10,⟨true,0,false⟩),(11,⟨true,0,false⟩)])],[m],[],[]⟩
def s294 : SFun := ⟨5,64,[],[(.cell 10 true 3,m)],
 (rg [bx 5 3 0,bx 9 3 4,al 10 [(i 0),(i 0),.sn]]
 (.seq (rg [mv 15 1,bk 16 .lss 15 (i 0),mv 17 16,g 18 (.mv (.t 2)) 17 false,g 19 (.fad 0 (.t 5)) 17 false,g 20 (.load false 1 (.t 19)) 17 false,g 21 (.bin .geq (.t 18) (.t 20)) 17 false,o 22 (.pick (.t 17) (.k w) (.t 21)),mv 23 22,g 24 (.mv (.t 1)) 23 false,g 25 (.mv (.t 2)) 23 false,g 26 (.bin .gtr (.t 24) (.t 25)) 23 false,o 27 (.pick (.t 23) (.k w) (.t 26))]
 (.cond (.t 27)
 (rg [la 28 3 5,st 3 10 28]
 .ret)
 .skip))
 (rg [la 29 3 5,cl 30 301 [(.t 29)],al 11 [(i 0),(i 0),.sn],st 3 11 30]
 (rg [fa 31 1 5,ld 32 1 31,la 33 3 9,cl 34 288 [(c 1),(.t 32),(.t 33)],fg 35 2 1 34,mv 12 35]
 (.seq (rg [mv 36 1,mv 13 36]
 (.block 0 (.loop [(1,m),(2,m),(3,m),(12,m),(13,m),(5,⟨true,0,false⟩),(10,⟨true,0,false⟩),(11,⟨true,0,false⟩)]
 (.seq (rg [mv 37 13,mv 38 2,bn 39 .leq 37 38]
 (.cond (.t 39)
 .skip
 (.exit 0)))
 (.seq (.block 1 (rg [mv 42 13,mv 43 3,bn 44 .add 42 43,mv 14 44]
 (rg [mv 45 14,mv 46 1,bn 47 .lss 45 46,mv 48 47,g 49 (.mv (.t 14)) 48 false,g 50 (.mv (.t 2)) 48 false,g 51 (.bin .gtr (.t 49) (.t 50)) 48 false,o 52 (.pick (.t 48) (.k w) (.t 51))]
 (.cond (.t 52)
 (.reg [la 53 3 11,mv 54 13,mv 55 12,cl 56 315 [(.t 53),(.t 54),(.t 55)],st 3 11 56])
 (.dreg [([],false,la 57 3 11),([0],false,mv 58 13),([0,1],false,la 59 3 5),([0,1,2],false,mv 60 14),([0,1],false,o 61 (.callr 313 [(.t 59),(.t 60)])),([],true,cl 62 315 [(.t 57),(.t 58),(.t 61)]),([],true,st 3 11 62)])))))
 (.reg [mv 40 13,bk 41 .add 40 (i 1),mv 13 41]))))))
 (rg [la 63 3 11,st 3 10 63]
 .ret))))))⟩
def a300 : Ann := ⟨[],[m],[],[]⟩
def s300 : SFun := ⟨3,25,[],[(.cell 6 true 29,m)],
 (rg [bx 3 29 0,al 6 z0]
 (rg [mv 7 1,o 8 (.mx [(.t 7),(c 0)]),fa 9 0 3,fa 10 0 9,ld 11 1 10,bk 12 .sub 11 (i 1),o 13 (.mn [(.t 8),(.t 12)]),mv 14 2,o 15 (.mx [(.t 14),(c 0)]),fa 16 0 3,fa 17 1 16,ld 18 1 17,bk 19 .sub 18 (i 1),o 20 (.mn [(.t 15),(.t 19)]),fa 21 3 3,st 1 21 13,fa 22 4 3,st 1 22 20,fa 23 5 3,sk 1 23 f]
 (rg [la 24 29 3,st 29 6 24]
 .ret)))⟩
def a306 : Ann := ⟨[],[m],[],[]⟩
def s306 : SFun := ⟨1,7,[],[(.cell 2 true 3,m)],
 (rg [bx 1 29 0,al 2 [(i 0),(i 0),(i 0)]]
 (rg [fa 3 8 1,fa 4 1 3,ld 5 1 4,o 6 (.build [(i 0),(i 0),(i 0)] [(0,1,(c (-1))),(1,1,(.t 5))]),st 3 2 6]
 .ret))⟩
def a285 : Ann := ⟨[],[m],[],[]⟩
def s285 : SFun := ⟨1,27,[],[(.cell 2 true 29,m)],
 (rg [bx 1 29 0,al 2 z0]
 (rg [fa 3 5 1,sk 1 3 f]
 (.seq (rg [fa 4 3 1,ld 5 1 4,fa 6 7 1,ld 7 1 6,bn 8 .eql 5 7]
 (.cond (.t 8)
 (.seq (.dreg [([],false,fa 9 0 1),([],false,la 10 3 9),([0,1],false,fa 11 6 1),([0,1],false,ld 12 1 11),([0,1,2,3],false,fa 13 7 1),([0,1,2,3],false,ld 14 1 13),([0,1,2,3,4,5],false,la 15 29 1),([0,1,2,3,4,5],false,o 16 (.callr 306 [(.t 15)])),([],true,cl 17 294 [(.t 10),(.t 12),(.t 14),(c 1),(.t 16)]),([],true,fa 18 0 1),([],true,st 3 18 17)])
 (rg [la 19 29 1,st 29 2 19]
 .ret))
 .skip))
 (rg [la 20 29 1,fa 21 3 1,ld 22 1 21,bk 23 .add 22 (i 1),fa 24 4 1,ld 25 1 24,cl 26 300 [(.t 20),(.t 23),(.t 25)],st 29 2 26]
 .ret))))⟩
def a292 : Ann := ⟨[],[m],[],[]⟩
def s292 : SFun := ⟨5,122,[],[(.cell 10 true 3,m)],
 (rg [bx 5 3 0,bx 9 3 4,al 10 [(i 0),(i 0),.sn]]
 (rg [mv 14 3,cl 15 251 [(.t 14)],mv 11 15]
 (.seq (rg [mv 16 1,bk 17 .lss 16 (i 0),mv 18 17,g 19 (.mv (.t 1)) 18 false,g 20 (.fad 0 (.t 5)) 18 false,g 21 (.load false 1 (.t 20)) 18 false,g 22 (.bin .geq (.t 19) (.t 21)) 18 false,o 23 (.pick (.t 18) (.k w) (.t 22)),mv 24 23,g 25 (.mv (.t 2)) 24 false,g 26 (.bin .lss (.t 25) (c 0)) 24 false,o 27 (.pick (.t 24) (.k w) (.t 26)),mv 28 27,g 29 (.mv (.t 11)) 28 false,g 30 (.bin .lss (.t 29) (c 1)) 28 false,o 31 (.pick (.t 28) (.k w) (.t 30)),mv 32 31,g 33 (.mv (.t 2)) 32 false,g 34 (.mv (.t 11)) 32 false,g 35 (.bin .add (.t 33) (.t 34)) 32 false,g 36 (.fad 1 (.t 5)) 32 false,g 37 (.load false 1 (.t 36)) 32 false,g 38 (.bin .gtr (.t 35) (.t 37)) 32 false,o 39 (.pick (.t 32) (.k w) (.t 38))]
 (.cond (.t 39)
 (rg [la 40 3 5,st 3 10 40]
 .ret)
 .skip))
 (rg [o 41 (.bsl true 5 0 z3 []),la 42 3 5,mv 43 1,cl 44 313 [(.t 42),(.t 43)],o 45 (.append 5 40 (.t 41) (.t 44)),mv 12 45]
 (rg [mv 46 12,mv 47 2,mv 48 3,la 49 3 9,o 50 (.build z3 [(0,1,(.t 48)),(2,3,(.t 49))]),ix 51 5 46 47,st 5 51 50]
 (.seq (rg [mv 52 11,bk 53 .eql 52 (i 2)]
 (.cond (.t 53)
 (rg [mv 54 12,mv 55 2,ix 56 5 54 55,fa 57 1 56,sk 1 57 (i 1)]
 (.reg [mv 58 12,mv 59 2,bk 60 .add 59 (i 1),la 61 3 9,o 62 (.build z3 [(1,1,(c 2)),(2,3,(.t 61))]),ix 63 5 58 60,st 5 63 62]))
 .skip))
 (rg [la 64 3 5,mv 65 1,cl 66 313 [(.t 64),(.t 65)],mv 13 66]
 (.seq (rg [mv 67 2,bk 68 .gtr 67 (i 0),mv 69 68,g 70 (.mv (.t 13)) 69 true,g 71 (.mv (.t 2)) 69 true,g 72 (.ixs 5 (.t 70) (.t 71)) 69 true,g 73 (.fad 1 (.t 72)) 69 true,g 74 (.load false 1 (.t 73)) 69 true,g 75 (.bin .eql (.t 74) (c 2)) 69 true,o 76 (.pick (.t 69) (.t 75) (.k f))]
 (.cond (.t 76)
 (.reg [mv 77 12,mv 78 2,bk 79 .sub 78 (i 1),mv 80 13,mv 81 2,bk 82 .sub 81 (i 1),ix 83 5 80 82,fa 84 2 83,la 85 3 84,cl 86 283 [(.t 85)],ix 87 5 77 79,st 5 87 86])
 .skip))
 (.seq (rg [mv 88 2,mv 89 11,bn 90 .add 88 89,fa 91 1 5,ld 92 1 91,bn 93 .lss 90 92,mv 94 93,g 95 (.mv (.t 13)) 94 true,g 96 (.mv (.t 2)) 94 true,g 97 (.mv (.t 11)) 94 true,g 98 (.bin .add (.t 96) (.t 97)) 94 true,g 99 (.bin .sub (.t 98) (c 1)) 94 true,g 100 (.ixs 5 (.t 95) (.t 99)) 94 true,g 101 (.fad 1 (.t 100)) 94 true,g 102 (.load false 1 (.t 101)) 94 true,g 103 (.bin .eql (.t 102) (c 1)) 94 true,o 104 (.pick (.t 94) (.t 103) (.k f))]
 (.cond (.t 104)
 (.reg [mv 105 12,mv 106 2,mv 107 11,bn 108 .add 106 107,mv 109 13,mv 110 2,mv 111 11,bn 112 .add 110 111,ix 113 5 109 112,fa 114 2 113,la 115 3 114,cl 116 283 [(.t 115)],ix 117 5 105 108,st 5 117 116])
 .skip))
 (rg [la 118 3 5,mv 119 1,mv 120 12,cl 121 315 [(.t 118),(.t 119),(.t 120)],st 3 10 121]
 .ret))))))))))⟩
def a291 : Ann := ⟨[],[m],[],[]⟩
def s291 : SFun := ⟨2,116,[],[(.cell 4 true 29,m)],
 (rg [bx 2 29 0,al 4 z0]
 (.seq (rg [fa 6 14 2,ld 7 1 6,fa 8 12 2,o 9 (.ixa 2 1 (.t 8) (.t 7)),ld 10 1 9,bk 11 .eql 10 (u 48),mv 12 11,g 13 (.mv (.t 1)) 12 true,g 14 (.bin .eql (.t 13) (.k (r 95))) 12 true,o 15 (.pick (.t 12) (.t 14) (.k f))]
 (.cond (.t 15)
 (.reg [mk 1 (r 32)])
 .skip))
 (.seq (rg [fa 16 14 2,ld 17 1 16,fa 18 12 2,o 19 (.ixa 2 1 (.t 18) (.t 17)),ld 20 1 19,bk 21 .eql 20 (u 48),mv 22 21,g 23 (.mv (.t 1)) 22 true,g 24 (.bin .geq (.t 23) (.k (r 96))) 22 true,o 25 (.pick (.t 22) (.t 24) (.k f)),mv 26 25,g 27 (.mv (.t 1)) 26 true,g 28 (.bin .leq (.t 27) (.k (r 126))) 26 true,o 29 (.pick (.t 26) (.t 28) (.k f))]
 (.cond (.t 29)
 (.reg [cl 30 244 [],mv 31 1,bk 32 .sub 31 (r 96),ix 33 1 30 32,ld 34 1 33,mv 1 34])
 .skip))
 (rg [mv 35 1,cl 36 251 [(.t 35)],mv 5 36]
 (.seq (rg [mv 37 5,bk 38 .lss 37 (i 1),mv 39 38,g 40 (.mv (.t 5)) 39 false,g 41 (.fad 0 (.t 2)) 39 false,g 42 (.fad 1 (.t 41)) 39 false,g 43 (.load false 1 (.t 42)) 39 false,g 44 (.bin .gtr (.t 40) (.t 43)) 39 false,o 45 (.pick (.t 39) (.k w) (.t 44))]
 (.cond (.t 45)
 (rg [la 46 29 2,st 29 4 46]
 .ret)
 .skip))
 (.seq (rg [fa 47 5 2,ld 48 1 47,mv 49 48,g 50 (.fad 15 (.t 2)) 49 true,g 51 (.load false 1 (.t 50)) 49 true,o 52 (.pick (.t 49) (.t 51) (.k f)),mv 53 52,g 54 (.fad 4 (.t 2)) 53 false,g 55 (.load false 1 (.t 54)) 53 false,g 56 (.mv (.t 5)) 53 false,g 57 (.bin .add (.t 55) (.t 56)) 53 false,g 58 (.fad 0 (.t 2)) 53 false,g 59 (.fad 1 (.t 58)) 53 false,g 60 (.load false 1 (.t 59)) 53 false,g 61 (.bin .gtr (.t 57) (.t 60)) 53 false,g 62 (.mv (.t 61)) 53 false,g 63 (.fad 15 (.t 2)) 62 true,g 64 (.load false 1 (.t 63)) 62 true,g 65 (.pick (.t 62) (.t 64) (.k f)) 53 false,o 66 (.pick (.t 53) (.k w) (.t 65))]
 (.cond (.t 66)
 (rg [fa 67 4 2,sk 1 67 (i 0)]
 (.reg [la 68 29 2,cl 69 285 [(.t 68)],st 29 2 69]))
 .skip))
 (rg [fa 70 5 2,sk 1 70 f]
 (.seq (rg [fa 71 4 2,ld 72 1 71,mv 73 5,bn 74 .add 72 73,fa 75 0 2,fa 76 1 75,ld 77 1 76,bn 78 .gtr 74 77]
 (.cond (.t 78)
 (.reg [fa 79 0 2,fa 80 1 79,ld 81 1 80,mv 82 5,bn 83 .sub 81 82,fa 84 4 2,st 1 84 83])
 .skip))
 (rg [fa 85 0 2,la 86 3 85,fa 87 3 2,ld 88 1 87,fa 89 4 2,ld 90 1 89,mv 91 1,fa 92 8 2,la 93 3 92,cl 94 292 [(.t 86),(.t 88),(.t 90),(.t 91),(.t 93)],fa 95 0 2,st 3 95 94]
 (rg [fa 96 4 2,ld 97 1 96,mv 98 5,bn 99 .add 97 98,fa 100 4 2,st 1 100 99]
 (.seq (rg [fa 101 4 2,ld 102 1 101,fa 103 0 2,fa 104 1 103,ld 105 1 104,bn 106 .geq 102 105]
 (.cond (.t 106)
 (.reg [fa 107 0 2,fa 108 1 107,ld 109 1 108,bk 110 .sub 109 (i 1),fa 111 15 2,ld 112 1 111,fa 113 4 2,st 1 113 110,fa 114 5 2,st 1 114 112])
 .skip))
 (rg [la 115 29 2,st 29 4 115]
 .ret))))))))))))⟩
def a289 : Ann := ⟨[(2,[(0,m),(2,m),(6,m),(7,m)])],[m],[],[]⟩
def s289 : SFun := ⟨3,24,[],[(.tmp 6,m)],
 (rg [mk 6 (i 0)]
 (.seq (rg [mv 8 1,bk 9 .add 8 (i 1),mv 7 9]
 (.block 0 (.loop [(0,m),(2,m),(6,m),(7,m)]
 (.seq (rg [mv 10 7,mv 11 2,bn 12 .lss 10 11]
 (.cond (.t 12)
 .skip
 (.exit 0)))
 (.seq (.block 1 (rg [mv 15 0,mv 16 7,o 17 (.cvi .u64 (.t 16)),bn 18 .shr 15 17,bk 19 .and 18 (q 1),bk 20 .eql 19 (q 1)]
 (.cond (.t 20)
 (rg [mv 21 7,mv 6 21]
 .ret)
 .skip)))
 (.reg [mv 13 7,bk 14 .add 13 (i 1),mv 7 14]))))))
 (rg [mv 22 2,bk 23 .sub 22 (i 1),mv 6 23]
 .ret)))⟩
def a305 : Ann := ⟨[],[m],[],[]⟩
def s305 : SFun := ⟨2,48,[],[(.cell 4 true 29,m)],
 (rg [bx 2 29 0,al 4 z0]
 (.seq (rg [mv 5 1]
 (.block 0 (rg [bk 7 .eql 5 (u 8),mv 6 7]
 (.cond (.t 6)
 (rg [la 8 29 2,fa 9 3 2,ld 10 1 9,fa 11 4 2,ld 12 1 11,bk 13 .sub 12 (i 1),cl 14 300 [(.t 8),(.t 10),(.t 13)],st 29 4 14]
 .ret)
 (rg [bk 16 .eql 5 (u 9),mv 15 16]
 (.cond (.t 15)
 (.seq (.dreg [([],false,la 17 29 2),([0],false,fa 18 3 2),([0],false,ld 19 1 18),([0,1,2],false,fa 20 11 2),([0,1,2],false,ld 21 1 20),([0,1,2,3,4],false,fa 22 4 2),([0,1,2,3,4],false,ld 23 1 22),([0,1,2,3,4,5,6],false,fa 24 0 2),([0,1,2,3,4,5,6],false,fa 25 1 24),([0,1,2,3,4,5,6],false,ld 26 1 25),([0,1,2],false,o 27 (.callr 289 [(.t 21),(.t 23),(.t 26)])),([],true,cl 28 300 [(.t 17),(.t 19),(.t 27)]),([],true,st 29 4 28)])
 .ret)
 (.seq (rg [bk 30 .eql 5 (u 10),mv 29 30]
 (.cond (.t 29)
 .skip
 (rg [bk 31 .eql 5 (u 11),mv 29 31]
 (.cond (.t 29)
 .skip
 (.reg [bk 32 .eql 5 (u 12),mv 29 32])))))
 (.cond (.t 29)
 (rg [la 33 29 2,cl 34 285 [(.t 33)],st 29 4 34]
 .ret)
 (rg [bk 36 .eql 5 (u 13),mv 35 36]
 (.cond (.t 35)
 (rg [la 37 29 2,fa 38 3 2,ld 39 1 38,cl 40 300 [(.t 37),(.t 39),(c 0)],st 29 4 40]
 .ret)
 (rg [bk 42 .eql 5 (u 14),mv 41 42]
 (.cond (.t 41)
 (.reg [fa 43 14 2,sk 1 43 (i 1)])
 (rg [bk 45 .eql 5 (u 15),mv 44 45]
 (.cond (.t 44)
 (.reg [fa 46 14 2,sk 1 46 (i 0)])
 .skip))))))))))))))
 (rg [la 47 29 2,st 29 4 47]
 .ret)))⟩
def a314 : Ann := ⟨[],[m],[],[]⟩
def s314 : SFun := ⟨1,18,[],[(.cell 2 true 29,m)],
 (rg [bx 1 29 0,al 2 z0]
 (rg [fa 3 3 1,ld 4 1 3,fa 5 4 1,ld 6 1 5,fa 7 8 1,la 8 3 7,fa 9 12 1,la 10 2 9,fa 11 14 1,ld 12 1 11,fa 13 16 1,ld 14 1 13,o 15 (.build z1 [(0,1,(.t 4)),(1,1,(.t 6)),(2,3,(.t 8)),(5,2,(.t 10)),(7,1,(.t 12)),(8,1,(.t 14))]),fa 16 20 1,st 9 16 15]
 (rg [la 17 29 1,st 29 2 17]
 .ret)))⟩
def a312 : Ann := ⟨[],[m],[],[]⟩
def s312 : SFun := ⟨1,24,[],[(.cell 2 true 29,m)],
 (rg [bx 1 29 0,al 2 z0]
 (rg [fa 4 20 1,la 5 9 4,al 3 z1,st 9 3 5]
 (.seq (.dreg [([],false,fa 6 2 3),([],false,la 7 3 6),([0,1],false,fa 8 5 3),([0,1],false,la 9 2 8),([0,1,2,3],false,fa 10 7 3),([0,1,2,3],false,ld 11 1 10),([0,1,2,3,4,5],false,fa 12 8 3),([0,1,2,3,4,5],false,ld 13 1 12),([2,3,4,5,6,7],false,fa 14 8 1),([2,3,4,5,6,7],false,st 3 14 7),([4,5,6,7],false,fa 15 12 1),([4,5,6,7],false,st 2 15 9),([6,7],false,fa 16 14 1),([6,7],false,st 1 16 11),([],true,fa 17 16 1),([],true,st 1 17 13)])
 (rg [la 18 29 1,fa 19 0 3,ld 20 1 19,fa 21 1 3,ld 22 1 21,cl 23 300 [(.t 18),(.t 20),(.t 22)],st 29 2 23]
 .ret))))⟩
def a282 : Ann := ⟨[],[m],[],[]⟩
def s282 : SFun := ⟨1,27,[],[(.cell 2 true 29,m)],
 (rg [bx 1 29 0,al 2 z0]
 (rg [fa 3 5 1,sk 1 3 f]
 (.seq (rg [fa 4 3 1,ld 5 1 4,fa 6 6 1,ld 7 1 6,bn 8 .eql 5 7]
 (.cond (.t 8)
 (.seq (.dreg [([],false,fa 9 0 1),([],false,la 10 3 9),([0,1],false,fa 11 6 1),([0,1],false,ld 12 1 11),([0,1,2,3],false,fa 13 7 1),([0,1,2,3],false,ld 14 1 13),([0,1,2,3,4,5],false,la 15 29 1),([0,1,2,3,4,5],false,o 16 (.callr 306 [(.t 15)])),([],true,cl 17 294 [(.t 10),(.t 12),(.t 14),(c (-1)),(.t 16)]),([],true,fa 18 0 1),([],true,st 3 18 17)])
 (rg [la 19 29 1,st 29 2 19]
 .ret))
 .skip))
 (rg [la 20 29 1,fa 21 3 1,ld 22 1 21,bk 23 .sub 22 (i 1),fa 24 4 1,ld 25 1 24,cl 26 300 [(.t 20),(.t 23),(.t 25)],st 29 2 26]
 .ret))))⟩
def a290 : Ann := ⟨[],[m],[],[]⟩
def s290 : SFun := ⟨0,2,[],[(.cell 0 true 3,m)],
 (rg [al 0 [(i 0),(i 0),(i 0)]]
 (rg [o 1 (.build [(i 0),(i 0),(i 0)] [(0,1,(c (-1))),(1,1,(c (-1)))]),st 3 0 1]
 .ret))⟩
def a297 : Ann := ⟨[(3,[(0,m),(3,m),(4,m)])],[m],[],[]⟩
def s297 : SFun := ⟨1,16,[],[(.tmp 2,m)],
 (rg [mk 2 (q 0)]
 (rg [mk 3 (q 0)]
 (.seq (rg [mk 4 (i 8)]
 (.block 0 (.loop [(0,m),(3,m),(4,m)]
 (.seq (rg [mv 5 4,mv 6 0,bn 7 .lss 5 6]
 (.cond (.t 7)
 .skip
 (.exit 0)))
 (.seq (.block 1 (.reg [mv 10 3,mv 11 4,o 12 (.cvi .u64 (.t 11)),o 13 (.bin .shl (.k (q 1)) (.t 12)),bn 14 .or 10 13,mv 3 14]))
 (.reg [mv 8 4,bk 9 .add 8 (i 8),mv 4 9]))))))
 (rg [mv 15 3,mv 2 15]
 .ret))))⟩
def a286 : Ann := ⟨[],[m],[],[]⟩
def s286 : SFun := ⟨2,19,[],[(.cell 4 true 29,m)],
 (rg [al 4 z0]
 (rg [mv 5 0,mv 6 1,cl 7 290 [],cl 8 288 [(.t 5),(.t 6),(.t 7)],mv 9 0,bk 10 .sub 9 (i 1),cl 11 290 [],mv 12 1,cl 13 297 [(.t 12)],o 14 (.build [(u 0),(u 0)] [(0,1,(.k (u 66))),(1,1,(.k (u 66)))]),cl 15 290 [],o 16 (.build [(u 0),(u 0)] [(0,1,(.k (u 66))),(1,1,(.k (u 66)))]),o 17 (.build z1 [(2,3,(.t 15)),(5,2,(.t 16))]),o 18 (.build z0 [(0,3,(.t 8)),(7,1,(.t 10)),(8,3,(.t 11)),(11,1,(.t 13)),(12,2,(.t 14)),(15,1,(.k w)),(17,1,(.k w)),(20,9,(.t 17))]),st 29 4 18]
 .ret))⟩
def a304 : Ann := ⟨[],[m],[],[]⟩
def s304 : SFun := ⟨2,82,[],[(.cell 4 true 29,m)],
 (rg [bx 2 29 0,bx 3 7 1,al 4 z0]
 (.seq (rg [fa 5 3 3,ld 6 1 5,bk 7 .eql 6 (u 40),mv 8 7,g 9 (.fad 3 (.t 3)) 8 false,g 10 (.load false 1 (.t 9)) 8 false,g 11 (.bin .eql (.t 10) (.k (u 41))) 8 false,o 12 (.pick (.t 8) (.k w) (.t 11))]
 (.cond (.t 12)
 (.seq (rg [fa 13 4 3,ld 14 1 13,bk 15 .eql 14 (u 48),mv 16 15,g 17 (.fad 4 (.t 3)) 16 false,g 18 (.load false 1 (.t 17)) 16 false,g 19 (.bin .eql (.t 18) (.k (u 66))) 16 false,o 20 (.pick (.t 16) (.k w) (.t 19))]
 (.cond (.t 20)
 (.reg [fa 21 3 3,ld 22 1 21,bk 23 .sub 22 (u 40),fa 24 4 3,ld 25 1 24,fa 26 12 2,o 27 (.ixa 2 1 (.t 26) (.t 23)),st 1 27 25])
 .skip))
 (rg [la 28 29 2,st 29 4 28]
 .ret))
 .skip))
 (.seq (rg [fa 29 3 3,ld 30 1 29,bk 31 .neq 30 (u 0)]
 (.cond (.t 31)
 (rg [la 32 29 2,st 29 4 32]
 .ret)
 .skip))
 (.seq (rg [fa 33 4 3,ld 34 1 33]
 (.block 0 (rg [bk 36 .eql 34 (u 55),mv 35 36]
 (.cond (.t 35)
 (rg [la 37 29 2,cl 38 314 [(.t 37)],st 29 4 38]
 .ret)
 (rg [bk 40 .eql 34 (u 56),mv 39 40]
 (.cond (.t 39)
 (rg [la 41 29 2,cl 42 312 [(.t 41)],st 29 4 42]
 .ret)
 (rg [bk 44 .eql 34 (u 68),mv 43 44]
 (.cond (.t 43)
 (rg [la 45 29 2,cl 46 285 [(.t 45)],st 29 4 46]
 .ret)
 (rg [bk 48 .eql 34 (u 69),mv 47 48]
 (.cond (.t 47)
 (rg [fa 49 4 2,sk 1 49 (i 0)]
 (rg [la 50 29 2,cl 51 285 [(.t 50)],st 29 4 51]
 .ret))
 (rg [bk 53 .eql 34 (u 77),mv 52 53]
 (.cond (.t 52)
 (rg [la 54 29 2,cl 55 282 [(.t 54)],st 29 4 55]
 .ret)
 (rg [bk 57 .eql 34 (u 72),mv 56 57]
 (.cond (.t 56)
 (.reg [fa 58 11 2,ld 59 1 58,fa 60 4 2,ld 61 1 60,o 62 (.cvi .u64 (.t 61)),o 63 (.bin .shl (.k (q 1)) (.t 62)),bn 64 .or 59 63,fa 65 11 2,st 1 65 64])
 (rg [bk 67 .eql 34 (u 99),mv 66 67]
 (.cond (.t 66)
 (rg [fa 68 0 2,fa 69 0 68,ld 70 1 69,fa 71 0 2,fa 72 1 71,ld 73 1 72,cl 74 286 [(.t 70),(.t 73)],st 29 4 74]
 .ret)
 (rg [bk 76 .eql 34 (u 61),mv 75 76]
 (.cond (.t 75)
 (.reg [fa 77 19 2,sk 1 77 w])
 (rg [bk 79 .eql 34 (u 62),mv 78 79]
 (.cond (.t 78)
 (.reg [fa 80 19 2,sk 1 80 f])
 .skip))))))))))))))))))))
 (rg [la 81 29 2,st 29 4 81]
 .ret)))))⟩
def a308 : Ann := ⟨[],[m],[],[]⟩
def s308 : SFun := ⟨1,11,[],[(.cell 2 true 29,m)],
 (rg [bx 1 29 0,al 2 z0]
 (.seq (rg [fa 3 16 1,ld 4 1 3]
 (.cond (.t 4)
 (rg [la 5 29 1,fa 6 6 1,ld 7 1 6,cl 8 300 [(.t 5),(.t 7),(c 0)],st 29 2 8]
 .ret)
 .skip))
 (rg [la 9 29 1,cl 10 300 [(.t 9),(c 0),(c 0)],st 29 2 10]
 .ret)))⟩
def a309 : Ann := ⟨[],[m],[],[]⟩
def s309 : SFun := ⟨3,33,[],[(.cell 6 true 29,m)],
 (rg [bx 3 29 0,al 6 z0]
 (.seq (rg [mv 7 1]
 (.block 0 (rg [bk 9 .eql 7 (i 1),mv 8 9]
 (.cond (.t 8)
 (.reg [mv 10 2,fa 11 18 3,st 1 11 10])
 (rg [bk 13 .eql 7 (i 6),mv 12 13]
 (.cond (.t 12)
 (rg [mv 14 2,fa 15 16 3,st 1 15 14]
 (rg [la 16 29 3,cl 17 308 [(.t 16)],st 29 6 17]
 .ret))
 (rg [bk 19 .eql 7 (i 7),mv 18 19]
 (.cond (.t 18)
 (rg [mv 20 2,fa 21 15 3,st 1 21 20]
 (.reg [fa 22 5 3,ld 23 1 22,mv 24 23,g 25 (.mv (.t 2)) 24 true,o 26 (.pick (.t 24) (.t 25) (.k f)),fa 27 5 3,st 1 27 26]))
 (rg [bk 29 .eql 7 (i 25),mv 28 29]
 (.cond (.t 28)
 (.reg [mv 30 2,fa 31 17 3,st 1 31 30])
 .skip))))))))))
 (rg [la 32 29 3,st 29 6 32]
 .ret)))⟩
def a311 : Ann := ⟨[],[m],[],[]⟩
def s311 : SFun := ⟨3,26,[],[(.tmp 6,m)],
 (rg [bx 3 7 0,mk 6 (i 0)]
 (.seq (rg [mv 7 1,fa 8 5 3,ld 9 1 8,ln 10 9,bn 11 .geq 7 10,mv 12 11,g 13 (.fad 5 (.t 3)) 12 false,g 14 (.load false 1 (.t 13)) 12 false,g 15 (.mv (.t 1)) 12 false,g 16 (.ixs 1 (.t 14) (.t 15)) 12 false,g 17 (.load false 1 (.t 16)) 12 false,g 18 (.bin .lss (.t 17) (c 1)) 12 false,o 19 (.pick (.t 12) (.k w) (.t 18))]
 (.cond (.t 19)
 (rg [mv 20 2,mv 6 20]
 .ret)
 .skip))
 (rg [fa 21 5 3,ld 22 1 21,mv 23 1,ix 24 1 22 23,ld 25 1 24,mv 6 25]
 .ret)))⟩
def a307 : Ann := ⟨[],[m],[],[]⟩
def s307 : SFun := ⟨3,23,[],[(.cell 6 true 29,m)],
 (rg [bx 3 29 0,al 6 z0]
 (.seq (rg [fa 7 16 3,ld 8 1 7]
 (.cond (.t 8)
 (rg [la 9 29 3,fa 10 6 3,ld 11 1 10,mv 12 1,bn 13 .add 11 12,fa 14 7 3,ld 15 1 14,o 16 (.mn [(.t 13),(.t 15)]),mv 17 2,cl 18 300 [(.t 9),(.t 16),(.t 17)],st 29 6 18]
 .ret)
 .skip))
 (rg [la 19 29 3,mv 20 1,mv 21 2,cl 22 300 [(.t 19),(.t 20),(.t 21)],st 29 6 22]
 .ret)))⟩
def a310 : Ann := ⟨[],[m,m],[],[]⟩
def s310 : SFun := ⟨2,111,[],[(.cell 4 true 29,m),(.tmp 5,m)],
 (rg [bx 2 29 0,bx 3 7 1,al 4 z0,mk 5 f]
 (rg [la 9 7 3,cl 10 311 [(.t 9),(c 0),(c 1)],mv 6 10]
 (.seq (.dreg [([],false,fa 11 3 2),([],false,ld 12 1 11),([0,1],false,mv 13 6),([],false,bn 14 .sub 12 13),([0,1,2,3],false,fa 15 3 2),([0,1,2,3],false,ld 16 1 15),([0,1,2,3,4,5],false,mv 17 6),([0,1,2,3],false,bn 18 .add 16 17),([4,5,6,7],false,mv 7 14),([],true,mv 8 18)])
 (.seq (rg [fa 19 3 2,ld 20 1 19,fa 21 6 2,ld 22 1 21,bn 23 .geq 20 22]
 (.cond (.t 23)
 (.reg [mv 24 7,fa 25 6 2,ld 26 1 25,o 27 (.mx [(.t 24),(.t 26)]),mv 7 27])
 .skip))
 (.seq (rg [fa 28 3 2,ld 29 1 28,fa 30 7 2,ld 31 1 30,bn 32 .leq 29 31]
 (.cond (.t 32)
 (.reg [mv 33 8,fa 34 7 2,ld 35 1 34,o 36 (.mn [(.t 33),(.t 35)]),mv 8 36])
 .skip))
 (.seq (rg [fa 37 4 3,ld 38 1 37]
 (.block 0 (rg [bk 40 .eql 38 (u 65),mv 39 40]
 (.cond (.t 39)
 (rg [la 41 29 2,mv 42 7,fa 43 4 2,ld 44 1 43,cl 45 300 [(.t 41),(.t 42),(.t 44)],st 29 4 45,mk 5 w]
 .ret)
 (rg [bk 47 .eql 38 (u 66),mv 46 47]
 (.cond (.t 46)
 (rg [la 48 29 2,mv 49 8,fa 50 4 2,ld 51 1 50,cl 52 300 [(.t 48),(.t 49),(.t 51)],st 29 4 52,mk 5 w]
 .ret)
 (rg [bk 54 .eql 38 (u 67),mv 53 54]
 (.cond (.t 53)
 (rg [la 55 29 2,fa 56 3 2,ld 57 1 56,fa 58 4 2,ld 59 1 58,mv 60 6,bn 61 .add 59 60,cl 62 300 [(.t 55),(.t 57),(.t 61)],st 29 4 62,mk 5 w]
 .ret)
 (rg [bk 64 .eql 38 (u 68),mv 63 64]
 (.cond (.t 63)
 (rg [la 65 29 2,fa 66 3 2,ld 67 1 66,fa 68 4 2,ld 69 1 68,mv 70 6,bn 71 .sub 69 70,cl 72 300 [(.t 65),(.t 67),(.t 71)],st 29 4 72,mk 5 w]
 .ret)
 (rg [bk 74 .eql 38 (u 69),mv 73 74]
 (.cond (.t 73)
 (rg [la 75 29 2,mv 76 8,cl 77 300 [(.t 75),(.t 76),(c 0)],st 29 4 77,mk 5 w]
 .ret)
 (rg [bk 79 .eql 38 (u 70),mv 78 79]
 (.cond (.t 78)
 (rg [la 80 29 2,mv 81 7,cl 82 300 [(.t 80),(.t 81),(c 0)],st 29 4 82,mk 5 w]
 .ret)
 (.seq (rg [bk 84 .eql 38 (u 71),mv 83 84]
 (.cond (.t 83)
 .skip
 (.reg [bk 85 .eql 38 (u 96),mv 83 85])))
 (.cond (.t 83)
 (rg [la 86 29 2,fa 87 3 2,ld 88 1 87,mv 89 6,bk 90 .sub 89 (i 1),cl 91 300 [(.t 86),(.t 88),(.t 90)],st 29 4 91,mk 5 w]
 .ret)
 (rg [bk 93 .eql 38 (u 100),mv 92 93]
 (.cond (.t 92)
 (rg [la 94 29 2,mv 95 6,bk 96 .sub 95 (i 1),fa 97 4 2,ld 98 1 97,cl 99 307 [(.t 94),(.t 96),(.t 98)],st 29 4 99,mk 5 w]
 .ret)
 (.seq (rg [bk 101 .eql 38 (u 72),mv 100 101]
 (.cond (.t 100)
 .skip
 (.reg [bk 102 .eql 38 (u 102),mv 100 102])))
 (.cond (.t 100)
 (.seq (.dreg [([],false,la 103 29 2),([0],false,mv 104 6),([0],false,bk 105 .sub 104 (i 1)),([0,1,2],false,la 106 7 3),([0,1,2],false,o 107 (.call true 311 [(.t 106),(c 1),(c 1)])),([0,1,2],false,bk 108 .sub 107 (i 1)),([],true,cl 109 307 [(.t 103),(.t 105),(.t 108)]),([],true,st 29 4 109),([],true,mk 5 w)])
 .ret)
 .skip))))))))))))))))))))
 (rg [la 110 29 2,st 29 4 110,mk 5 f]
 .ret)))))))⟩
def a287 : Ann := ⟨[(3,[(0,m),(11,m),(12,m),(13,m),(3,⟨true,5,false⟩)])],[⟨true,5,false⟩],[],[]⟩
def s287 : SFun := ⟨1,65,[],[(.tmp 2,⟨true,5,false⟩)],
 (rg [mk 2 .sn]
 (rg [o 8 (.bsl true 5 0 z3 []),mv 9 0,o 10 (.append 5 40 (.t 8) (.t 9)),mv 3 10]
 (.seq (rg [mv 11 0,ln 12 11,mk 13 (i 0)]
 (.block 0 (.loop [(0,m),(11,m),(12,m),(13,m),(3,⟨true,5,false⟩)]
 (rg [bn 14 .lss 13 12]
 (.seq (.cond (.t 14)
 .skip
 (.exit 0))
 (.seq (.block 1 (rg [mv 15 13,ix 16 5 11 13,la 17 5 16,al 5 z3,mv 4 15,st 5 5 17]
 (rg [fa 18 1 5,ld 19 1 18,bk 20 .eql 19 (i 1),mv 21 20,g 22 (.mv (.t 4)) 21 true,g 23 (.bin .add (.t 22) (c 1)) 21 true,g 24 (.mv (.t 0)) 21 true,g 25 (.len (.t 24)) 21 true,g 26 (.bin .eql (.t 23) (.t 25)) 21 true,g 27 (.mv (.t 26)) 21 true,g 28 (.mv (.t 0)) 27 false,g 29 (.mv (.t 4)) 27 false,g 30 (.bin .add (.t 29) (c 1)) 27 false,g 31 (.ixs 5 (.t 28) (.t 30)) 27 false,g 32 (.fad 1 (.t 31)) 27 false,g 33 (.load false 1 (.t 32)) 27 false,g 34 (.bin .neq (.t 33) (c 2)) 27 false,g 35 (.pick (.t 27) (.k w) (.t 34)) 21 true,o 36 (.pick (.t 21) (.t 35) (.k f)),mv 6 36]
 (rg [fa 37 1 5,ld 38 1 37,bk 39 .eql 38 (i 2),mv 40 39,g 41 (.mv (.t 4)) 40 true,g 42 (.bin .eql (.t 41) (c 0)) 40 true,g 43 (.mv (.t 42)) 40 true,g 44 (.mv (.t 0)) 43 false,g 45 (.mv (.t 4)) 43 false,g 46 (.bin .sub (.t 45) (c 1)) 43 false,g 47 (.ixs 5 (.t 44) (.t 46)) 43 false,g 48 (.fad 1 (.t 47)) 43 false,g 49 (.load false 1 (.t 48)) 43 false,g 50 (.bin .neq (.t 49) (c 1)) 43 false,g 51 (.pick (.t 43) (.k w) (.t 50)) 40 true,o 52 (.pick (.t 40) (.t 51) (.k f)),mv 7 52]
 (rg [mv 53 6,mv 54 53,g 55 (.mv (.t 7)) 54 false,o 56 (.pick (.t 54) (.k w) (.t 55))]
 (.cond (.t 56)
 (.reg [mv 57 3,mv 58 4,fa 59 2 5,la 60 3 59,cl 61 283 [(.t 60)],ix 62 5 57 58,st 5 62 61])
 .skip))))))
 (.reg [bk 63 .add 13 (i 1),mv 13 63])))))))
 (rg [mv 64 3,mv 2 64]
 .ret))))⟩
def a298 : Ann := ⟨[(6,[(1,m),(3,m),(12,m),(5,⟨true,0,false⟩),(9,⟨true,0,false⟩),(10,⟨true,0,false⟩),(11,⟨true,5,false⟩)])],[m],[],[]⟩
def s298 : SFun := ⟨5,49,[],[(.cell 10 true 3,m)],
 (rg [bx 5 3 0,bx 9 3 4,al 10 [(i 0),(i 0),.sn]]
 (.seq (rg [mv 13 1,bk 14 .lss 13 (i 0),mv 15 14,g 16 (.mv (.t 1)) 15 false,g 17 (.fad 0 (.t 5)) 15 false,g 18 (.load false 1 (.t 17)) 15 false,g 19 (.bin .geq (.t 16) (.t 18)) 15 false,o 20 (.pick (.t 15) (.k w) (.t 19))]
 (.cond (.t 20)
 (rg [la 21 3 5,st 3 10 21]
 .ret)
 .skip))
 (.seq (.dreg [([],false,mv 22 2),([],false,o 23 (.mx [(.t 22),(c 0)])),([0,1],false,mv 24 3),([0,1,2],false,fa 25 1 5),([0,1,2],false,ld 26 1 25),([0,1],false,o 27 (.mn [(.t 24),(.t 26)])),([2,3,4,5],false,mv 2 23),([],true,mv 3 27)])
 (rg [o 28 (.bsl true 5 0 z3 []),la 29 3 5,mv 30 1,cl 31 313 [(.t 29),(.t 30)],o 32 (.append 5 40 (.t 28) (.t 31)),mv 11 32]
 (.seq (rg [mv 33 2,mv 12 33]
 (.block 0 (.loop [(1,m),(3,m),(12,m),(5,⟨true,0,false⟩),(9,⟨true,0,false⟩),(10,⟨true,0,false⟩),(11,⟨true,5,false⟩)]
 (.seq (rg [mv 34 12,mv 35 3,bn 36 .lss 34 35]
 (.cond (.t 36)
 .skip
 (.exit 0)))
 (.seq (.block 1 (.reg [mv 39 11,mv 40 12,la 41 3 9,cl 42 283 [(.t 41)],ix 43 5 39 40,st 5 43 42]))
 (.reg [mv 37 12,bk 38 .add 37 (i 1),mv 12 38]))))))
 (.seq (.dreg [([],false,la 44 3 5),([0],false,mv 45 1),([0,1],false,mv 46 11),([0,1],false,o 47 (.callr 287 [(.t 46)])),([],true,cl 48 315 [(.t 44),(.t 45),(.t 47)]),([],true,st 3 10 48)])
 .ret))))))⟩
def a303 : Ann := ⟨[(2,[(1,m),(2,m),(3,m),(4,m),(17,m),(18,m),(6,⟨true,0,false⟩),(11,⟨true,0,false⟩),(12,⟨true,0,false⟩)])],[m],[],[]⟩
def s303 : SFun := ⟨6,80,[],[(.cell 12 true 3,m)],
 (rg [bx 6 3 0,bx 11 3 5,al 12 [(i 0),(i 0),.sn]]
 (.seq (rg [fa 16 0 6,ld 17 1 16,mk 18 (i 0)]
 (.block 0 (.loop [(1,m),(2,m),(3,m),(4,m),(17,m),(18,m),(6,⟨true,0,false⟩),(11,⟨true,0,false⟩),(12,⟨true,0,false⟩)]
 (rg [bn 19 .lss 18 17]
 (.seq (.cond (.t 19)
 .skip
 (.exit 0))
 (.seq (.block 1 (rg [mv 20 18,mv 13 20]
 (.seq (.dreg [([],false,fa 21 1 6),([],false,ld 22 1 21),([0,1],false,mk 14 (i 0)),([],true,mv 15 22)])
 (.seq (.block 2 (rg [mv 24 3,bk 25 .gtr 24 (i 2),mv 26 25,g 27 (.mv (.t 4)) 26 false,g 28 (.una .not (.t 27)) 26 false,g 29 (.mv (.t 28)) 26 false,g 30 (.mv (.t 13)) 29 true,g 31 (.mv (.t 1)) 29 true,g 32 (.bin .neq (.t 30) (.t 31)) 29 true,g 33 (.pick (.t 29) (.t 32) (.k f)) 26 false,o 34 (.pick (.t 26) (.k w) (.t 33)),mv 35 34,g 36 (.mv (.t 3)) 35 false,g 37 (.bin .eql (.t 36) (c 0)) 35 false,g 38 (.mv (.t 37)) 35 false,g 39 (.mv (.t 13)) 38 true,g 40 (.mv (.t 1)) 38 true,g 41 (.bin .lss (.t 39) (.t 40)) 38 true,g 42 (.pick (.t 38) (.t 41) (.k f)) 35 false,o 43 (.pick (.t 35) (.k w) (.t 42)),mv 44 43,g 45 (.mv (.t 3)) 44 false,g 46 (.bin .eql (.t 45) (c 1)) 44 false,g 47 (.mv (.t 46)) 44 false,g 48 (.mv (.t 13)) 47 true,g 49 (.mv (.t 1)) 47 true,g 50 (.bin .gtr (.t 48) (.t 49)) 47 true,g 51 (.pick (.t 47) (.t 50) (.k f)) 44 false,o 52 (.pick (.t 44) (.k w) (.t 51)),mv 23 52]
 (.cond (.t 23)
 (.reg [mk 15 (i 0)])
 (rg [mv 54 3,bk 55 .eql 54 (i 0),mv 56 55,g 57 (.mv (.t 13)) 56 true,g 58 (.mv (.t 1)) 56 true,g 59 (.bin .eql (.t 57) (.t 58)) 56 true,o 60 (.pick (.t 56) (.t 59) (.k f)),mv 53 60]
 (.cond (.t 53)
 (.reg [mv 61 2,mv 14 61])
 (rg [mv 63 3,bk 64 .eql 63 (i 1),mv 65 64,g 66 (.mv (.t 13)) 65 true,g 67 (.mv (.t 1)) 65 true,g 68 (.bin .eql (.t 66) (.t 67)) 65 true,o 69 (.pick (.t 65) (.t 68) (.k f)),mv 62 69]
 (.cond (.t 62)
 (.reg [mv 70 2,bk 71 .add 70 (i 1),mv 15 71])
 .skip)))))))
 (.reg [la 72 3 6,mv 73 13,mv 74 14,mv 75 15,la 76 3 11,cl 77 298 [(.t 72),(.t 73),(.t 74),(.t 75),(.t 76)],st 3 6 77])))))
 (.reg [bk 78 .add 18 (i 1),mv 18 78])))))))
 (rg [la 79 3 6,st 3 12 79]
 .ret)))⟩
def a295 : Ann := ⟨[(9,[(1,m),(2,m),(3,m),(12,m),(14,m),(5,⟨true,0,false⟩),(9,⟨true,0,false⟩),(10,⟨true,0,false⟩),(13,⟨true,5,false⟩)])],[m],[],[]⟩
def s295 : SFun := ⟨5,110,[],[(.cell 10 true 3,m)],
 (rg [bx 5 3 0,bx 9 3 4,al 10 [(i 0),(i 0),.sn]]
 (.seq (rg [mv 16 1,bk 17 .lss 16 (i 0),mv 18 17,g 19 (.mv (.t 1)) 18 false,g 20 (.fad 0 (.t 5)) 18 false,g 21 (.load false 1 (.t 20)) 18 false,g 22 (.bin .geq (.t 19) (.t 21)) 18 false,o 23 (.pick (.t 18) (.k w) (.t 22)),mv 24 23,g 25 (.mv (.t 2)) 24 false,g 26 (.bin .lss (.t 25) (c 0)) 24 false,o 27 (.pick (.t 24) (.k w) (.t 26)),mv 28 27,g 29 (.mv (.t 2)) 28 false,g 30 (.fad 1 (.t 5)) 28 false,g 31 (.load false 1 (.t 30)) 28 false,g 32 (.bin .geq (.t 29) (.t 31)) 28 false,o 33 (.pick (.t 28) (.k w) (.t 32))]
 (.cond (.t 33)
 (rg [la 34 3 5,st 3 10 34]
 .ret)
 .skip))
 (rg [la 35 3 5,mv 36 1,cl 37 313 [(.t 35),(.t 36)],mv 11 37]
 (rg [o 38 (.bsl true 5 0 z3 []),mv 39 11,o 40 (.append 5 40 (.t 38) (.t 39)),mv 12 40]
 (.seq (rg [mv 41 11,mv 42 2,ix 43 5 41 42,fa 44 1 43,ld 45 1 44,bk 46 .eql 45 (i 2),mv 47 46,g 48 (.mv (.t 2)) 47 true,g 49 (.bin .gtr (.t 48) (c 0)) 47 true,o 50 (.pick (.t 47) (.t 49) (.k f))]
 (.cond (.t 50)
 (.dreg [([],false,mv 51 12),([0],false,mv 52 2),([0],false,bk 53 .sub 52 (i 1)),([0,1,2],false,mv 54 12),([0,1,2,3],false,mv 55 2),([0,1,2,3,4],false,mv 56 11),([0,1,2,3,4,5],false,mv 57 2),([0,1,2,3,4,5],false,bk 58 .sub 57 (i 1)),([0,1,2,3,4],false,ix 59 5 56 58),([0,1,2,3,4],false,fa 60 2 59),([0,1,2,3,4],false,la 61 3 60),([0,1,2,3,4],false,o 62 (.call true 283 [(.t 61)])),([0,1,2,3,4,5,6,7,8,9,10,11],false,mv 63 11),([0,1,2,3,4,5,6,7,8,9,10,11,12],false,mv 64 2),([0,1,2,3,4,5,6,7,8,9,10,11],false,ix 65 5 63 64),([0,1,2,3,4,5,6,7,8,9,10,11],false,fa 66 2 65),([0,1,2,3,4,5,6,7,8,9,10,11],false,la 67 3 66),([0,1,2,3,4],false,o 68 (.call true 283 [(.t 67)])),([3,4],false,ix 69 5 51 53),([3,4],false,st 5 69 62),([],true,ix 70 5 54 55),([],true,st 5 70 68)])
 .skip))
 (rg [o 71 (.bsl true 5 0 z3 []),mv 72 12,o 73 (.append 5 40 (.t 71) (.t 72)),mv 13 73]
 (.seq (rg [mv 74 2,mv 14 74]
 (.block 0 (.loop [(1,m),(2,m),(3,m),(12,m),(14,m),(5,⟨true,0,false⟩),(9,⟨true,0,false⟩),(10,⟨true,0,false⟩),(13,⟨true,5,false⟩)]
 (.seq (rg [mv 75 14,fa 76 1 5,ld 77 1 76,bn 78 .lss 75 77]
 (.cond (.t 78)
 .skip
 (.exit 0)))
 (.seq (.block 1 (rg [mv 81 14,mv 82 3,bn 83 .sub 81 82,mv 15 83]
 (rg [mv 84 13,mv 85 14,la 86 3 9,cl 87 283 [(.t 86)],ix 88 5 84 85,st 5 88 87]
 (rg [mv 89 15,mv 90 2,bn 91 .geq 89 90,mv 92 91,g 93 (.mv (.t 15)) 92 true,g 94 (.fad 1 (.t 5)) 92 true,g 95 (.load false 1 (.t 94)) 92 true,g 96 (.bin .lss (.t 93) (.t 95)) 92 true,o 97 (.pick (.t 92) (.t 96) (.k f))]
 (.cond (.t 97)
 (.reg [mv 98 13,mv 99 14,mv 100 12,mv 101 15,ix 102 5 100 101,la 103 5 102,ix 104 5 98 99,st 5 104 103])
 .skip)))))
 (.reg [mv 79 14,bk 80 .add 79 (i 1),mv 14 80]))))))
 (.seq (.dreg [([],false,la 105 3 5),([0],false,mv 106 1),([0,1],false,mv 107 13),([0,1],false,o 108 (.callr 287 [(.t 107)])),([],true,cl 109 315 [(.t 105),(.t 106),(.t 108)]),([],true,st 3 10 109)])
 .ret))))))))⟩
def a299 : Ann := ⟨[],[m],[],[]⟩
def s299 : SFun := ⟨2,14,[],[(.tmp 4,m)],
 (rg [mk 4 (i 0)]
 (.seq (rg [mv 5 1,mv 6 0,ln 7 6,bn 8 .lss 5 7]
 (.cond (.t 8)
 (rg [mv 9 0,mv 10 1,ix 11 1 9 10,ld 12 1 11,o 13 (.mx [(.t 12),(c 0)]),mv 4 13]
 .ret)
 .skip))
 (rg [mk 4 (i 0)]
 .ret)))⟩
def a316 : Ann := ⟨[],[m,m],[],[]⟩
def s316 : SFun := ⟨1,55,[],[(.tmp 2,m),(.tmp 3,m)],
 (rg [mk 2 (i 0),mk 3 (i 0)]
 (.seq (.block 0 (rg [mv 5 0,ln 6 5,bk 7 .geq 6 (i 2),mv 8 7,g 9 (.mv (.t 0)) 8 true,g 10 (.ixs 1 (.t 9) (c 0)) 8 true,g 11 (.load false 1 (.t 10)) 8 true,g 12 (.bin .eql (.t 11) (c 5)) 8 true,o 13 (.pick (.t 8) (.t 12) (.k f)),mv 4 13]
 (.cond (.t 4)
 (.seq (rg [mv 14 0,cl 15 299 [(.t 14),(c 1)],bk 16 .leq 15 (i 255)]
 (.cond (.t 16)
 (rg [mv 17 0,cl 18 299 [(.t 17),(c 1)],mv 2 18,mk 3 (i 2)]
 .ret)
 .skip))
 (rg [mk 2 (i (-2)),mk 3 (i 2)]
 .ret))
 (rg [mv 20 0,ln 21 20,bk 22 .geq 21 (i 4),mv 23 22,g 24 (.mv (.t 0)) 23 true,g 25 (.ixs 1 (.t 24) (c 0)) 23 true,g 26 (.load false 1 (.t 25)) 23 true,g 27 (.bin .eql (.t 26) (c 2)) 23 true,o 28 (.pick (.t 23) (.t 27) (.k f)),mv 19 28]
 (.cond (.t 19)
 (.seq (rg [mv 29 0,cl 30 299 [(.t 29),(c 1)],bk 31 .leq 30 (i 255),mv 32 31,g 33 (.mv (.t 0)) 32 true,g 34 (.call false 299 [(.t 33),(c 2)]) 32 true,g 35 (.bin .leq (.t 34) (c 255)) 32 true,o 36 (.pick (.t 32) (.t 35) (.k f)),mv 37 36,g 38 (.mv (.t 0)) 37 true,g 39 (.call false 299 [(.t 38),(c 3)]) 37 true,g 40 (.bin .leq (.t 39) (c 255)) 37 true,o 41 (.pick (.t 37) (.t 40) (.k f))]
 (.cond (.t 41)
 (rg [mv 42 0,cl 43 299 [(.t 42),(c 1)],bk 44 .mul 43 (i 65536),o 45 (.bin .add (c 16777216) (.t 44)),mv 46 0,cl 47 299 [(.t 46),(c 2)],bk 48 .mul 47 (i 256),bn 49 .add 45 48,mv 50 0,cl 51 299 [(.t 50),(c 3)],bn 52 .add 49 51,mv 2 52,mk 3 (i 4)]
 .ret)
 .skip))
 (rg [mk 2 (i (-2)),mk 3 (i 4)]
 .ret))
 .skip)))))
 (rg [mv 53 0,ln 54 53,mk 2 (i (-2)),mv 3 54]
 .ret)))⟩
def a281 : Ann := ⟨[(5,[(1,m),(5,m),(6,m),(2,⟨true,0,false⟩),(4,⟨true,0,false⟩)])],[m],[],[]⟩
def s281 : SFun := ⟨2,144,[],[(.cell 4 true 3,m)],
 (rg [bx 2 3 0,al 4 [(i 0),(i 0),(i 0)]]
 (.seq (rg [mv 10 1,ln 11 10,bk 12 .eql 11 (i 0)]
 (.cond (.t 12)
 (rg [cl 13 290 [],st 3 4 13]
 .ret)
 .skip))
 (rg [o 14 (.bsl true 1 9 [(i 0)] [(0,(c 1)),(1,(c 2)),(2,(c 4)),(3,(c 8)),(4,(c 16)),(5,(c 0)),(6,(c 32)),(7,(c 64)),(8,(c 128))]),mv 5 14]
 (.seq (rg [mk 6 (i 0)]
 (.block 0 (.loop [(1,m),(5,m),(6,m),(2,⟨true,0,false⟩),(4,⟨true,0,false⟩)]
 (.seq (rg [mv 15 6,mv 16 1,ln 17 16,bn 18 .lss 15 17]
 (.cond (.t 18)
 .skip
 (.exit 0)))
 (.seq (.block 1 (rg [mv 21 1,mv 22 6,ix 23 1 21 22,ld 24 1 23,o 25 (.mx [(.t 24),(c 0)]),mv 7 25]
 (.block 2 (rg [mv 27 7,bk 28 .eql 27 (i 0),mv 26 28]
 (.cond (.t 26)
 (.reg [cl 29 290 [],st 3 2 29])
 (rg [mv 31 7,bk 32 .leq 31 (i 9),mv 30 32]
 (.cond (.t 30)
 (.dreg [([],false,fa 33 2 2),([],false,ld 34 1 33),([0,1],false,mv 35 5),([0,1,2],false,mv 36 7),([0,1,2],false,bk 37 .sub 36 (i 1)),([0,1],false,ix 38 1 35 37),([0,1],false,ld 39 1 38),([],true,bn 40 .or 34 39),([],true,fa 41 2 2),([],true,st 1 41 40)])
 (rg [mv 43 7,bk 44 .eql 43 (i 22),mv 42 44]
 (.cond (.t 42)
 (.reg [fa 45 2 2,ld 46 1 45,bk 47 .andNot 46 (i 3),fa 48 2 2,st 1 48 47])
 (rg [mv 50 7,bk 51 .geq 50 (i 23),mv 52 51,g 53 (.mv (.t 7)) 52 true,g 54 (.bin .leq (.t 53) (c 29)) 52 true,o 55 (.pick (.t 52) (.t 54) (.k f)),mv 49 55]
 (.cond (.t 49)
 (.dreg [([],false,fa 56 2 2),([],false,ld 57 1 56),([0,1],false,mv 58 5),([0,1,2],false,mv 59 7),([0,1,2],false,bk 60 .sub 59 (i 21)),([0,1],false,ix 61 1 58 60),([0,1],false,ld 62 1 61),([],true,bn 63 .andNot 57 62),([],true,fa 64 2 2),([],true,st 1 64 63)])
 (rg [mv 66 7,bk 67 .geq 66 (i 30),mv 68 67,g 69 (.mv (.t 7)) 68 true,g 70 (.bin .leq (.t 69) (c 37)) 68 true,o 71 (.pick (.t 68) (.t 70) (.k f)),mv 65 71]
 (.cond (.t 65)
 (.reg [mv 72 7,bk 73 .sub 72 (i 30),fa 74 0 2,st 1 74 73])
 (rg [mv 76 7,bk 77 .geq 76 (i 40),mv 78 77,g 79 (.mv (.t 7)) 78 true,g 80 (.bin .leq (.t 79) (c 47)) 78 true,o 81 (.pick (.t 78) (.t 80) (.k f)),mv 75 81]
 (.cond (.t 75)
 (.reg [mv 82 7,bk 83 .sub 82 (i 40),fa 84 1 2,st 1 84 83])
 (rg [mv 86 7,bk 87 .geq 86 (i 90),mv 88 87,g 89 (.mv (.t 7)) 88 true,g 90 (.bin .leq (.t 89) (c 97)) 88 true,o 91 (.pick (.t 88) (.t 90) (.k f)),mv 85 91]
 (.cond (.t 85)
 (.reg [mv 92 7,bk 93 .sub 92 (i 82),fa 94 0 2,st 1 94 93])
 (rg [mv 96 7,bk 97 .geq 96 (i 100),mv 98 97,g 99 (.mv (.t 7)) 98 true,g 100 (.bin .leq (.t 99) (c 107)) 98 true,o 101 (.pick (.t 98) (.t 100) (.k f)),mv 95 101]
 (.cond (.t 95)
 (.reg [mv 102 7,bk 103 .sub 102 (i 92),fa 104 1 2,st 1 104 103])
 (rg [mv 106 7,bk 107 .eql 106 (i 39),mv 105 107]
 (.cond (.t 105)
 (.reg [fa 108 0 2,sk 1 108 (i (-1))])
 (rg [mv 110 7,bk 111 .eql 110 (i 49),mv 109 111]
 (.cond (.t 109)
 (.reg [fa 112 1 2,sk 1 112 (i (-1))])
 (rg [mv 114 7,bk 115 .eql 114 (i 38),mv 116 115,g 117 (.mv (.t 7)) 116 false,g 118 (.bin .eql (.t 117) (c 48)) 116 false,o 119 (.pick (.t 116) (.k w) (.t 118)),mv 113 119]
 (.cond (.t 113)
 (rg [mv 121 1,mv 122 6,bk 123 .add 122 (i 1),o 124 (.slc 1 (.t 121) (some (.t 123)) none),cl 125 316 [(.t 124)],mv 120 125,ex 126 120 0,ex 127 120 1,mv 8 126,mv 9 127]
 (rg [mv 128 6,mv 129 9,bn 130 .add 128 129,mv 6 130]
 (rg [mv 131 8,bk 132 .neq 131 (i (-2)),mv 133 132,g 134 (.mv (.t 7)) 133 true,g 135 (.bin .eql (.t 134) (c 38)) 133 true,o 136 (.pick (.t 133) (.t 135) (.k f))]
 (.cond (.t 136)
 (.reg [mv 137 8,fa 138 0 2,st 1 138 137])
 (rg [mv 139 8,bk 140 .neq 139 (i (-2))]
 (.cond (.t 140)
 (.reg [mv 141 8,fa 142 1 2,st 1 142 141])
 .skip))))))
 .skip)))))))))))))))))))))))))
 (.reg [mv 19 6,bk 20 .add 19 (i 1),mv 6 20]))))))
 (rg [la 143 3 2,st 3 4 143]
 .ret)))))⟩
def a302 : Ann := ⟨[(5,[(33,m),(34,m),(35,m),(2,⟨true,0,false⟩),(3,⟨true,0,false⟩),(4,⟨true,0,false⟩)])],[m],[],[]⟩
def s302 : SFun := ⟨2,269,[],[(.cell 4 true 29,m)],
 (rg [bx 2 29 0,bx 3 7 1,al 4 z0]
 (.seq (rg [fa 15 3 3,ld 16 1 15,bk 17 .neq 16 (u 0),mv 18 17,g 19 (.fad 2 (.t 3)) 18 false,g 20 (.load false 1 (.t 19)) 18 false,g 21 (.bin .neq (.t 20) (.k (u 0))) 18 false,g 22 (.mv (.t 21)) 18 false,g 23 (.fad 2 (.t 3)) 22 true,g 24 (.load false 1 (.t 23)) 22 true,g 25 (.bin .neq (.t 24) (.k (u 63))) 22 true,g 26 (.pick (.t 22) (.t 25) (.k f)) 18 false,o 27 (.pick (.t 18) (.k w) (.t 26))]
 (.cond (.t 27)
 (rg [la 28 29 2,st 29 4 28]
 .ret)
 .skip))
 (.seq (rg [fa 29 2 3,ld 30 1 29,bk 31 .eql 30 (u 63)]
 (.cond (.t 31)
 (.seq (rg [fa 32 5 3,ld 33 1 32,ln 34 33,mk 35 (i 0)]
 (.block 0 (.loop [(33,m),(34,m),(35,m),(2,⟨true,0,false⟩),(3,⟨true,0,false⟩),(4,⟨true,0,false⟩)]
 (rg [bn 36 .lss 35 34]
 (.seq (.cond (.t 36)
 .skip
 (.exit 0))
 (.seq (.block 1 (rg [ix 37 1 33 35,ld 38 1 37,mv 6 38]
 (rg [fa 39 4 3,ld 40 1 39,bk 41 .eql 40 (u 104),mv 42 41,g 43 (.fad 4 (.t 3)) 42 false,g 44 (.load false 1 (.t 43)) 42 false,g 45 (.bin .eql (.t 44) (.k (u 108))) 42 false,o 46 (.pick (.t 42) (.k w) (.t 45))]
 (.cond (.t 46)
 (.reg [la 47 29 2,mv 48 6,fa 49 4 3,ld 50 1 49,bk 51 .eql 50 (u 104),cl 52 309 [(.t 47),(.t 48),(.t 51)],st 29 2 52])
 .skip))))
 (.reg [bk 53 .add 35 (i 1),mv 35 53])))))))
 (rg [la 54 29 2,st 29 4 54]
 .ret))
 .skip))
 (.seq (rg [la 56 29 2,la 57 7 3,cl 58 310 [(.t 56),(.t 57)],mv 55 58,ex 59 55 0,ex 60 55 1,al 7 z0,st 29 7 59,mv 8 60]
 (rg [mv 61 8]
 (.cond (.t 61)
 (rg [la 62 29 7,st 29 4 62]
 .ret)
 .skip)))
 (.seq (.dreg [([],false,la 63 7 3),([],false,o 64 (.call true 311 [(.t 63),(c 0),(c 1)])),([0,1],false,la 65 29 2),([],false,o 66 (.call true 306 [(.t 65)])),([0,1,2,3],false,la 67 7 3),([],false,o 68 (.call true 311 [(.t 67),(c 0),(c 0)])),([0,1,2,3,4,5],false,al 10 [(i 0),(i 0),(i 0)]),([],true,mv 9 64),([],true,st 3 10 66),([],true,mv 11 68)])
 (rg [fa 69 3 2,ld 70 1 69,fa 71 6 2,ld 72 1 71,bn 73 .geq 70 72,mv 74 73,g 75 (.fad 3 (.t 2)) 74 true,g 76 (.load false 1 (.t 75)) 74 true,g 77 (.fad 7 (.t 2)) 74 true,g 78 (.load false 1 (.t 77)) 74 true,g 79 (.bin .leq (.t 76) (.t 78)) 74 true,o 80 (.pick (.t 74) (.t 79) (.k f)),mv 12 80]
 (.seq (rg [fa 81 4 3,ld 82 1 81]
 (.block 2 (rg [bk 84 .eql 82 (u 74),mv 83 84]
 (.cond (.t 83)
 (rg [fa 85 5 2,sk 1 85 f]
 (.reg [fa 86 0 2,la 87 3 86,fa 88 3 2,ld 89 1 88,fa 90 4 2,ld 91 1 90,mv 92 11,la 93 3 10,cl 94 303 [(.t 87),(.t 89),(.t 91),(.t 92),(.k w),(.t 93)],fa 95 0 2,st 3 95 94]))
 (rg [bk 97 .eql 82 (u 75),mv 96 97]
 (.cond (.t 96)
 (rg [fa 98 5 2,sk 1 98 f]
 (.reg [fa 99 0 2,la 100 3 99,fa 101 3 2,ld 102 1 101,fa 103 4 2,ld 104 1 103,mv 105 11,la 106 3 10,cl 107 303 [(.t 100),(.t 102),(.t 104),(.t 105),(.k f),(.t 106)],fa 108 0 2,st 3 108 107]))
 (.seq (rg [bk 110 .eql 82 (u 76),mv 109 110]
 (.cond (.t 109)
 .skip
 (.reg [bk 111 .eql 82 (u 77),mv 109 111])))
 (.cond (.t 109)
 (.seq (rg [mv 112 12,mv 113 112,g 114 (.fad 4 (.t 3)) 113 true,g 115 (.load false 1 (.t 114)) 113 true,g 116 (.bin .eql (.t 115) (.k (u 76))) 113 true,o 117 (.pick (.t 113) (.t 116) (.k f))]
 (.cond (.t 117)
 (.reg [fa 118 0 2,la 119 3 118,fa 120 3 2,ld 121 1 120,fa 122 7 2,ld 123 1 122,mv 124 9,o 125 (.una .neg (.t 124)),la 126 3 10,cl 127 294 [(.t 119),(.t 121),(.t 123),(.t 125),(.t 126)],fa 128 0 2,st 3 128 127])
 (rg [mv 129 12]
 (.cond (.t 129)
 (.reg [fa 130 0 2,la 131 3 130,fa 132 3 2,ld 133 1 132,fa 134 7 2,ld 135 1 134,mv 136 9,la 137 3 10,cl 138 294 [(.t 131),(.t 133),(.t 135),(.t 136),(.t 137)],fa 139 0 2,st 3 139 138])
 .skip))))
 (rg [mv 140 12]
 (.cond (.t 140)
 (.reg [la 141 29 2,fa 142 3 2,ld 143 1 142,cl 144 300 [(.t 141),(.t 143),(c 0)],st 29 2 144])
 .skip)))
 (rg [bk 146 .eql 82 (u 64),mv 145 146]
 (.cond (.t 145)
 (rg [fa 147 5 2,sk 1 147 f]
 (.reg [fa 148 0 2,la 149 3 148,fa 150 3 2,ld 151 1 150,fa 152 4 2,ld 153 1 152,mv 154 9,la 155 3 10,cl 156 295 [(.t 149),(.t 151),(.t 153),(.t 154),(.t 155)],fa 157 0 2,st 3 157 156]))
 (rg [bk 159 .eql 82 (u 80),mv 158 159]
 (.cond (.t 158)
 (rg [fa 160 5 2,sk 1 160 f]
 (.reg [fa 161 0 2,la 162 3 161,fa 163 3 2,ld 164 1 163,fa 165 4 2,ld 166 1 165,mv 167 9,o 168 (.una .neg (.t 167)),la 169 3 10,cl 170 295 [(.t 162),(.t 164),(.t 166),(.t 168),(.t 169)],fa 171 0 2,st 3 171 170]))
 (rg [bk 173 .eql 82 (u 88),mv 172 173]
 (.cond (.t 172)
 (rg [fa 174 5 2,sk 1 174 f]
 (.reg [fa 175 0 2,la 176 3 175,fa 177 3 2,ld 178 1 177,fa 179 4 2,ld 180 1 179,fa 181 4 2,ld 182 1 181,mv 183 9,bn 184 .add 182 183,la 185 3 10,cl 186 298 [(.t 176),(.t 178),(.t 180),(.t 184),(.t 185)],fa 187 0 2,st 3 187 186]))
 (rg [bk 189 .eql 82 (u 83),mv 188 189]
 (.cond (.t 188)
 (.reg [fa 190 0 2,la 191 3 190,fa 192 6 2,ld 193 1 192,fa 194 7 2,ld 195 1 194,mv 196 9,la 197 3 10,cl 198 294 [(.t 191),(.t 193),(.t 195),(.t 196),(.t 197)],fa 199 0 2,st 3 199 198])
 (rg [bk 201 .eql 82 (u 84),mv 200 201]
 (.cond (.t 200)
 (.reg [fa 202 0 2,la 203 3 202,fa 204 6 2,ld 205 1 204,fa 206 7 2,ld 207 1 206,mv 208 9,o 209 (.una .neg (.t 208)),la 210 3 10,cl 211 294 [(.t 203),(.t 205),(.t 207),(.t 209),(.t 210)],fa 212 0 2,st 3 212 211])
 (rg [bk 214 .eql 82 (u 109),mv 213 214]
 (.cond (.t 213)
 (.reg [fa 215 8 2,la 216 3 215,fa 217 5 3,ld 218 1 217,cl 219 281 [(.t 216),(.t 218)],fa 220 8 2,st 3 220 219])
 (rg [bk 222 .eql 82 (u 114),mv 221 222]
 (.cond (.t 221)
 (.seq (.dreg [([],false,la 223 7 3),([],false,o 224 (.call true 311 [(.t 223),(c 0),(c 1)])),([],false,bk 225 .sub 224 (i 1)),([0,1,2],false,la 226 7 3),([0,1,2,3],false,fa 227 0 2),([0,1,2,3],false,fa 228 0 227),([0,1,2,3],false,ld 229 1 228),([2],false,o 230 (.callr 311 [(.t 226),(c 1),(.t 229)])),([0,1,2,3,4,5,6,7],false,fa 231 0 2),([0,1,2,3,4,5,6,7],false,fa 232 0 231),([0,1,2,3,4,5,6,7],false,ld 233 1 232),([2],false,o 234 (.mn [(.t 230),(.t 233)])),([2],false,bk 235 .sub 234 (i 1)),([8,9,10,11,12],false,mv 13 225),([],true,mv 14 235)])
 (rg [mv 236 13,mv 237 14,bn 238 .lss 236 237]
 (.cond (.t 238)
 (rg [mv 239 13,mv 240 14,fa 241 6 2,st 1 241 239,fa 242 7 2,st 1 242 240]
 (.reg [la 243 29 2,cl 244 308 [(.t 243)],st 29 2 244]))
 .skip)))
 (rg [bk 246 .eql 82 (u 103),mv 245 246]
 (.cond (.t 245)
 (.seq (rg [mv 247 11,bk 248 .eql 247 (i 0)]
 (.cond (.t 248)
 (.reg [fa 249 11 2,ld 250 1 249,fa 251 4 2,ld 252 1 251,o 253 (.cvi .u64 (.t 252)),o 254 (.bin .shl (.k (q 1)) (.t 253)),bn 255 .andNot 250 254,fa 256 11 2,st 1 256 255])
 .skip))
 (rg [mv 257 11,bk 258 .eql 257 (i 3)]
 (.cond (.t 258)
 (.reg [fa 259 11 2,sk 1 259 (q 0)])
 .skip)))
 (rg [bk 261 .eql 82 (u 115),mv 260 261]
 (.cond (.t 260)
 (rg [la 262 29 2,cl 263 314 [(.t 262)],st 29 4 263]
 .ret)
 (rg [bk 265 .eql 82 (u 117),mv 264 265]
 (.cond (.t 264)
 (rg [la 266 29 2,cl 267 312 [(.t 266)],st 29 4 267]
 .ret)
 .skip))))))))))))))))))))))))))))
 (rg [la 268 29 2,st 29 4 268]
 .ret))))))))⟩
def a284 : Ann := ⟨[],[m],[],[]⟩
def s284 : SFun := ⟨2,30,[],[(.cell 4 true 29,m)],
 (rg [bx 2 29 0,bx 3 7 1,al 4 z0]
 (.seq (rg [fa 5 0 3,ld 6 1 5]
 (.block 0 (rg [bk 8 .eql 6 (i 1),mv 7 8]
 (.cond (.t 7)
 (rg [la 9 29 2,fa 10 1 3,ld 11 1 10,cl 12 291 [(.t 9),(.t 11)],st 29 4 12]
 .ret)
 (rg [bk 14 .eql 6 (i 2),mv 13 14]
 (.cond (.t 13)
 (rg [la 15 29 2,fa 16 4 3,ld 17 1 16,cl 18 305 [(.t 15),(.t 17)],st 29 4 18]
 .ret)
 (rg [bk 20 .eql 6 (i 3),mv 19 20]
 (.cond (.t 19)
 (rg [la 21 29 2,la 22 7 3,cl 23 304 [(.t 21),(.t 22)],st 29 4 23]
 .ret)
 (rg [bk 25 .eql 6 (i 4),mv 24 25]
 (.cond (.t 24)
 (rg [la 26 29 2,la 27 7 3,cl 28 302 [(.t 26),(.t 27)],st 29 4 28]
 .ret)
 .skip))))))))))
 (rg [la 29 29 2,st 29 4 29]
 .ret)))⟩
def a277 : Ann := ⟨[],[m],[],[]⟩
def s277 : SFun := ⟨2,25,[],[(.cell 4 true 29,m)],
 (rg [bx 2 29 0,al 4 z0]
 (rg [mv 6 1,o 7 (.build [(i 0),(r 0),(u 0),(u 0),(u 0),.sn,(D.str [])] [(0,1,(c 4)),(4,1,(.t 6))]),al 5 [(i 0),(r 0),(u 0),(u 0),(u 0),.sn,(D.str [])],st 7 5 7]
 (.seq (rg [mv 8 1]
 (.block 0 (.seq (rg [bk 10 .eql 8 (u 65),mv 9 10]
 (.cond (.t 9)
 .skip
 (rg [bk 11 .eql 8 (u 66),mv 9 11]
 (.cond (.t 9)
 .skip
 (rg [bk 12 .eql 8 (u 67),mv 9 12]
 (.cond (.t 9)
 .skip
 (rg [bk 13 .eql 8 (u 68),mv 9 13]
 (.cond (.t 9)
 .skip
 (rg [bk 14 .eql 8 (u 72),mv 9 14]
 (.cond (.t 9)
 .skip
 (rg [bk 15 .eql 8 (u 74),mv 9 15]
 (.cond (.t 9)
 .skip
 (.reg [bk 16 .eql 8 (u 75),mv 9 16])))))))))))))
 (.cond (.t 9)
 (rg [la 17 29 2,la 18 7 5,cl 19 284 [(.t 17),(.t 18)],st 29 4 19]
 .ret)
 (rg [bk 21 .eql 8 (u 73),mv 20 21]
 (.cond (.t 20)
 (rg [la 22 29 2,cl 23 282 [(.t 22)],st 29 4 23]
 .ret)
 .skip))))))
 (rg [la 24 29 2,st 29 4 24]
 .ret))))⟩
def a274 : Ann := ⟨[(3,[(0,m),(9,m),(10,m),(11,m),(5,⟨true,1,false⟩)])],[⟨true,1,false⟩],[],[]⟩
def s274 : SFun := ⟨2,70,[],[(.tmp 4,⟨true,1,false⟩)],
 (rg [mk 4 .sn]
 (rg [mk 5 .sn]
 (.seq (rg [mv 9 1,ln 10 9,mk 11 (i 0)]
 (.block 0 (.loop [(0,m),(9,m),(10,m),(11,m),(5,⟨true,1,false⟩)]
 (rg [bn 12 .lss 11 10]
 (.seq (.cond (.t 12)
 .skip
 (.exit 0))
 (.seq (.block 1 (rg [ix 13 1 9 11,ld 14 1 13,mv 7 14]
 (rg [mv 15 7,o 16 (.mx [(.t 15),(c 0)]),mv 7 16]
 (rg [mv 17 7,bk 18 .geq 17 (i 30),mv 19 18,g 20 (.mv (.t 7)) 19 true,g 21 (.bin .leq (.t 20) (c 37)) 19 true,o 22 (.pick (.t 19) (.t 21) (.k f)),mv 23 22,g 24 (.mv (.t 7)) 23 false,g 25 (.bin .geq (.t 24) (c 40)) 23 false,g 26 (.mv (.t 25)) 23 false,g 27 (.mv (.t 7)) 26 true,g 28 (.bin .leq (.t 27) (c 47)) 26 true,g 29 (.pick (.t 26) (.t 28) (.k f)) 23 false,o 30 (.pick (.t 23) (.k w) (.t 29)),mv 31 30,g 32 (.mv (.t 7)) 31 false,g 33 (.bin .eql (.t 32) (c 39)) 31 false,o 34 (.pick (.t 31) (.k w) (.t 33)),mv 35 34,g 36 (.mv (.t 7)) 35 false,g 37 (.bin .eql (.t 36) (c 49)) 35 false,o 38 (.pick (.t 35) (.k w) (.t 37)),mv 8 38]
 (rg [mv 39 7,bk 40 .eql 39 (i 0),mv 41 40,g 42 (.mv (.t 7)) 41 false,g 43 (.bin .eql (.t 42) (c 1)) 41 false,o 44 (.pick (.t 41) (.k w) (.t 43)),mv 45 44,g 46 (.mv (.t 7)) 45 false,g 47 (.bin .eql (.t 46) (c 4)) 45 false,o 48 (.pick (.t 45) (.k w) (.t 47)),mv 49 48,g 50 (.mv (.t 7)) 49 false,g 51 (.bin .eql (.t 50) (c 5)) 49 false,o 52 (.pick (.t 49) (.k w) (.t 51)),mv 53 52,g 54 (.mv (.t 7)) 53 false,g 55 (.bin .eql (.t 54) (c 7)) 53 false,o 56 (.pick (.t 53) (.k w) (.t 55)),mv 57 56,g 58 (.mv (.t 0)) 57 false,g 59 (.bin .eql (.t 58) (c 2)) 57 false,g 60 (.mv (.t 59)) 57 false,g 61 (.mv (.t 8)) 60 true,g 62 (.pick (.t 60) (.t 61) (.k f)) 57 false,o 63 (.pick (.t 57) (.k w) (.t 62))]
 (.cond (.t 63)
 (.reg [mv 64 5,mv 65 7,o 66 (.bsl false 1 1 [(i 0)] [(0,(.t 65))]),o 67 (.append 1 8 (.t 64) (.t 66)),mv 5 67])
 .skip))))))
 (.reg [bk 68 .add 11 (i 1),mv 11 68])))))))
 (rg [mv 69 5,mv 4 69]
 .ret))))⟩
def a258 : Ann := ⟨[(13,[(64,m),(65,m),(66,m),(4,⟨true,0,false⟩),(5,⟨true,0,false⟩),(6,⟨true,0,false⟩),(8,⟨true,1,false⟩)])],[m],[],[]⟩
def s258 : SFun := ⟨3,82,[],[(.cell 6 true 29,m)],
 (rg [bx 4 29 1,bx 5 7 2,al 6 z0]
 (.seq (rg [mv 11 0,la 12 7 5,cl 13 260 [(.t 11),(.t 12)],o 14 (.una .not (.t 13))]
 (.cond (.t 14)
 (rg [la 15 29 4,st 29 6 15]
 .ret)
 .skip))
 (.seq (rg [mv 16 0,bk 17 .eql 16 (i 3),mv 18 17,g 19 (.fad 0 (.t 5)) 18 true,g 20 (.load false 1 (.t 19)) 18 true,g 21 (.bin .eql (.t 20) (c 3)) 18 true,o 22 (.pick (.t 18) (.t 21) (.k f))]
 (.cond (.t 22)
 (rg [la 23 29 4,fa 24 4 5,ld 25 1 24,cl 26 277 [(.t 23),(.t 25)],st 29 6 26]
 .ret)
 .skip))
 (.seq (rg [fa 27 0 5,ld 28 1 27,bk 29 .eql 28 (i 4),mv 30 29,g 31 (.fad 4 (.t 5)) 30 true,g 32 (.load false 1 (.t 31)) 30 true,g 33 (.bin .eql (.t 32) (.k (u 109))) 30 true,o 34 (.pick (.t 30) (.t 33) (.k f))]
 (.cond (.t 34)
 (rg [mv 35 0,fa 36 5 5,ld 37 1 36,cl 38 274 [(.t 35),(.t 37)],mv 7 38]
 (.seq (rg [fa 39 5 5,ld 40 1 39,ln 41 40,bk 42 .gtr 41 (i 0),mv 43 42,g 44 (.mv (.t 7)) 43 true,g 45 (.len (.t 44)) 43 true,g 46 (.bin .eql (.t 45) (c 0)) 43 true,o 47 (.pick (.t 43) (.t 46) (.k f))]
 (.cond (.t 47)
 (rg [la 48 29 4,st 29 6 48]
 .ret)
 .skip))
 (.reg [mv 49 7,fa 50 5 5,st 1 50 49])))
 .skip))
 (.seq (rg [fa 51 0 5,ld 52 1 51,bk 53 .eql 52 (i 4),mv 54 53,g 55 (.fad 2 (.t 5)) 54 true,g 56 (.load false 1 (.t 55)) 54 true,g 57 (.bin .eql (.t 56) (.k (u 63))) 54 true,o 58 (.pick (.t 54) (.t 57) (.k f)),mv 59 58,g 60 (.mv (.t 0)) 59 true,g 61 (.bin .neq (.t 60) (c 2)) 59 true,o 62 (.pick (.t 59) (.t 61) (.k f))]
 (.cond (.t 62)
 (rg [mk 8 .sn]
 (.seq (rg [fa 63 5 5,ld 64 1 63,ln 65 64,mk 66 (i 0)]
 (.block 0 (.loop [(64,m),(65,m),(66,m),(4,⟨true,0,false⟩),(5,⟨true,0,false⟩),(6,⟨true,0,false⟩),(8,⟨true,1,false⟩)]
 (rg [bn 67 .lss 66 65]
 (.seq (.cond (.t 67)
 .skip
 (.exit 0))
 (.seq (.block 1 (rg [ix 68 1 64 66,ld 69 1 68,mv 10 69]
 (rg [mv 70 10,bk 71 .neq 70 (i 25)]
 (.cond (.t 71)
 (.reg [mv 72 8,mv 73 10,o 74 (.bsl false 1 1 [(i 0)] [(0,(.t 73))]),o 75 (.append 1 8 (.t 72) (.t 74)),mv 8 75])
 .skip))))
 (.reg [bk 76 .add 66 (i 1),mv 66 76])))))))
 (.reg [mv 77 8,fa 78 5 5,st 1 78 77])))
 .skip))
 (rg [la 79 29 4,la 80 7 5,cl 81 284 [(.t 79),(.t 80)],st 29 6 81]
 .ret))))))⟩
def a205 : Ann := ⟨[],[m],[],[]⟩
def s205 : SFun := ⟨3,33,[],[(.tmp 6,m)],
 (rg [bx 4 13 1,bx 5 5 2,mk 6 f]
 (rg [mv 10 0,cl 11 174 [(.t 10),(c 1),(c 3)],mv 7 11]
 (rg [la 12 13 4,cl 13 66 [(.t 12)],al 8 z0,st 29 8 13]
 (.seq (.dreg [([],false,mv 14 7),([0],false,la 15 29 8),([0,1],false,la 16 5 5),([0,1],false,o 17 (.callr 63 [(.t 16)])),([],false,o 18 (.call true 423 [(.t 14),(.t 15),(.t 17)])),([0,1,2,3,4],false,al 9 z0),([],true,st 29 9 18)])
 (.seq (.dreg [([],false,la 19 29 9),([0],false,mv 20 7),([0,1],false,la 21 29 8),([0,1,2],false,la 22 5 5),([0,1,2],false,o 23 (.callr 63 [(.t 22)])),([0],false,o 24 (.callr 258 [(.t 20),(.t 21),(.t 23)])),([],true,cl 25 177 [(.t 19),(.t 24)]),([],true,mv 26 25),([],true,g 27 (.load true 29 (.t 9)) 26 true),([],true,g 28 (.call false 373 [(.t 27)]) 26 true),([],true,o 29 (.pick (.t 26) (.t 28) (.k f))),([],true,mv 30 29),([],true,g 31 (.call false 209 []) 30 true),([],true,o 32 (.pick (.t 30) (.t 31) (.k f))),([],true,mv 6 32)])
 .ret)))))⟩
end
def r174 : Row := ⟨174,18,false,a174,.fn s174⟩
def r181 : Row := ⟨181,84,false,a181,.fn s181⟩
def r180 : Row := ⟨180,85,false,a180,.fn s180⟩
def r65 : Row := ⟨65,42,false,a65,.fn s65⟩
def r64 : Row := ⟨64,41,true,a64,.fn s64⟩
def r66 : Row := ⟨66,9,true,a66,.fn s66⟩
def r451 : Row := ⟨451,45,false,a451,.nil n451⟩
def r370 : Row := ⟨370,12,true,a370,.fn s370⟩
def r134 : Row := ⟨134,76,false,a134,.fn s134⟩
def r136 : Row := ⟨136,194,false,a136,.fn s136⟩
def r135 : Row := ⟨135,140,true,a135,.fn s135⟩
def r133 : Row := ⟨133,141,false,a133,.fn s133⟩
def r132 : Row := ⟨132,69,false,a132,.fn s132⟩
def r122 : Row := ⟨122,146,true,a122,.fn s122⟩
def r145 : Row := ⟨145,201,false,a145,.fn s145⟩
def r144 : Row := ⟨144,204,true,a144,.fn s144⟩
def r106 : Row := ⟨106,131,false,a106,.fn s106⟩
def r444 : Row := ⟨444,214,false,a444,.fn s444⟩
def r445 : Row := ⟨445,215,false,a445,.fn s445⟩
def r443 : Row := ⟨443,185,false,a443,.fn s443⟩
def r465 : Row := ⟨465,130,false,a465,.fn s465⟩
def r143 : Row := ⟨143,208,false,a143,.fn s143⟩
def r147 : Row := ⟨147,200,true,a147,.fn s147⟩
def r138 : Row := ⟨138,162,true,a138,.fn s138⟩
def r371 : Row := ⟨371,158,false,a371,.fn s371⟩
def r123 : Row := ⟨123,95,true,a123,.fn s123⟩
def r115 : Row := ⟨115,198,false,a115,.fn s115⟩
def r114 : Row := ⟨114,154,false,a114,.fn s114⟩
def r407 : Row := ⟨407,86,false,a407,.fn s407⟩
def r110 : Row := ⟨110,199,false,a110,.fn s110⟩
def r112 : Row := ⟨112,155,false,a112,.fn s112⟩
def r113 : Row := ⟨113,156,false,a113,.fn s113⟩
def r109 : Row := ⟨109,87,false,a109,.fn s109⟩
def r404 : Row := ⟨404,89,true,a404,.fn s404⟩
def r142 : Row := ⟨142,157,true,a142,.fn s142⟩
def r125 : Row := ⟨125,88,true,a125,.fn s125⟩
def r158 : Row := ⟨158,159,true,a158,.fn s158⟩
def r162 : Row := ⟨162,127,false,a162,.fn s162⟩
def r163 : Row := ⟨163,124,true,a163,.inl s163⟩
def r159 : Row := ⟨159,181,false,a159,.fn s159⟩
def r150 : Row := ⟨150,202,false,a150,.fn s150⟩
def r161 : Row := ⟨161,160,true,a161,.inl s161⟩
def r152 : Row := ⟨152,90,true,a152,.fn s152⟩
def r402 : Row := ⟨402,46,true,a402,.fn s402⟩
def r422 : Row := ⟨422,132,false,a422,.fn s422⟩
def r417 : Row := ⟨417,203,false,a417,.fn s417⟩
def r418 : Row := ⟨418,161,false,a418,.fn s418⟩
def r420 : Row := ⟨420,91,false,a420,.fn s420⟩
def r410 : Row := ⟨410,47,true,a410,.fn s410⟩
def r406 : Row := ⟨406,92,true,a406,.fn s406⟩
def r129 : Row := ⟨129,93,true,a129,.fn s129⟩
def r128 : Row := ⟨128,94,true,a128,.fn s128⟩
def r421 : Row := ⟨421,96,false,a421,.fn s421⟩
def r107 : Row := ⟨107,59,false,a107,.fn s107⟩
def r151 : Row := ⟨151,58,true,a151,.fn s151⟩
def r419 : Row := ⟨419,60,false,a419,.fn s419⟩
def r372 : Row := ⟨372,19,true,a372,.fn s372⟩
def r409 : Row := ⟨409,48,true,a409,.fn s409⟩
def r127 : Row := ⟨127,175,true,a127,.fn s127⟩
def r337 : Row := ⟨337,163,true,a337,.fn s337⟩
def r415 : Row := ⟨415,97,true,a415,.fn s415⟩
def r381 : Row := ⟨381,104,false,a381,.fn s381⟩
def r411 : Row := ⟨411,164,false,a411,.fn s411⟩
def r130 : Row := ⟨130,165,true,a130,.fn s130⟩
def r124 : Row := ⟨124,166,true,a124,.fn s124⟩
def r126 : Row := ⟨126,167,true,a126,.fn s126⟩
def r413 : Row := ⟨413,98,true,a413,.fn s413⟩
def r149 : Row := ⟨149,75,false,a149,.fn s149⟩
def r157 : Row := ⟨157,172,true,a157,.fn s157⟩
def r141 : Row := ⟨141,169,true,a141,.fn s141⟩
def r139 : Row := ⟨139,168,true,a139,.fn s139⟩
def r146 : Row := ⟨146,205,false,a146,.fn s146⟩
def r148 : Row := ⟨148,206,true,a148,.fn s148⟩
def r459 : Row := ⟨459,224,false,a459,.fn s459⟩
def r452 : Row := ⟨452,207,false,a452,.fn s452⟩
def r140 : Row := ⟨140,170,true,a140,.fn s140⟩
def r137 : Row := ⟨137,171,true,a137,.fn s137⟩
def r403 : Row := ⟨403,99,true,a403,.fn s403⟩
def r414 : Row := ⟨414,100,true,a414,.fn s414⟩
def r348 : Row := ⟨348,209,false,a348,.fn s348⟩
def r343 : Row := ⟨343,173,false,a343,.fn s343⟩
def r345 : Row := ⟨345,225,false,a345,.fn s345⟩
def r344 : Row := ⟨344,210,false,a344,.fn s344⟩
def r346 : Row := ⟨346,174,false,a346,.fn s346⟩
def r340 : Row := ⟨340,101,false,a340,.fn s340⟩
def r412 : Row := ⟨412,102,true,a412,.fn s412⟩
def r416 : Row := ⟨416,176,false,a416,.fn s416⟩
def r408 : Row := ⟨408,103,true,a408,.fn s408⟩
def r405 : Row := ⟨405,49,true,a405,.fn s405⟩
def r400 : Row := ⟨400,13,true,a400,.fn s400⟩
def r426 : Row := ⟨426,142,true,a426,.fn s426⟩
def r429 : Row := ⟨429,70,true,a429,.fn s429⟩
def r463 : Row := ⟨463,222,false,a463,.fn s463⟩
def r455 : Row := ⟨455,195,false,a455,.fn s455⟩
def r430 : Row := ⟨430,196,false,a430,.fn s430⟩
def r427 : Row := ⟨427,143,false,a427,.fn s427⟩
def r334 : Row := ⟨334,223,false,a334,.fn s334⟩
def r335 : Row := ⟨335,197,false,a335,.fn s335⟩
def r428 : Row := ⟨428,144,false,a428,.fn s428⟩
def r425 : Row := ⟨425,71,false,a425,.fn s425⟩
def r423 : Row := ⟨423,26,true,a423,.fn s423⟩
def r173 : Row := ⟨173,50,false,a173,.fn s173⟩
def r177 : Row := ⟨177,14,false,a177,.fn s177⟩
def r111 : Row := ⟨111,182,false,a111,.fn s111⟩
def r108 : Row := ⟨108,126,false,a108,.fn s108⟩
def r160 : Row := ⟨160,123,false,a160,.fn s160⟩
def r154 : Row := ⟨154,55,false,a154,.fn s154⟩
def r378 : Row := ⟨378,125,false,a378,.fn s378⟩
def r377 : Row := ⟨377,56,false,a377,.fn s377⟩
def r373 : Row := ⟨373,16,false,a373,.fn s373⟩
def r338 : Row := ⟨338,23,true,a338,.fn s338⟩
def r424 : Row := ⟨424,29,true,a424,.fn s424⟩
def r67 : Row := ⟨67,218,false,a67,.fn s67⟩
def r432 : Row := ⟨432,226,false,a432,.fn s432⟩
def r435 : Row := ⟨435,227,false,a435,.fn s435⟩
def r68 : Row := ⟨68,216,false,a68,.fn s68⟩
def r339 : Row := ⟨339,217,true,a339,.fn s339⟩
def r14 : Row := ⟨14,189,true,a14,.fn s14⟩
def r21 : Row := ⟨21,186,true,a21,.fn s21⟩
def r24 : Row := ⟨24,188,true,a24,.fn s24⟩
def r22 : Row := ⟨22,187,true,a22,.fn s22⟩
def r17 : Row := ⟨17,190,true,a17,.fn s17⟩
def r15 : Row := ⟨15,219,true,a15,.fn s15⟩
def r16 : Row := ⟨16,228,true,a16,.fn s16⟩
def r18 : Row := ⟨18,220,true,a18,.fn s18⟩
def r23 : Row := ⟨23,221,true,a23,.fn s23⟩
def r450 : Row := ⟨450,148,false,a450,.nil n450⟩
def r19 : Row := ⟨19,191,true,a19,.fn s19⟩
def r20 : Row := ⟨20,192,true,a20,.fn s20⟩
def r13 : Row := ⟨13,135,true,a13,.fn s13⟩
def r11 : Row := ⟨11,66,true,a11,.fn s11⟩
def r35 : Row := ⟨35,77,true,a35,.fn s35⟩
def r36 : Row := ⟨36,78,true,a36,.fn s36⟩
def r30 : Row := ⟨30,30,true,a30,.fn s30⟩
def r31 : Row := ⟨31,34,true,a31,.fn s31⟩
def r34 : Row := ⟨34,37,true,a34,.fn s34⟩
def r33 : Row := ⟨33,35,true,a33,.fn s33⟩
def r209 : Row := ⟨209,28,true,a209,.fn s209⟩
def r63 : Row := ⟨63,11,true,a63,.fn s63⟩
def r275 : Row := ⟨275,145,false,a275,.fn s275⟩
def r260 : Row := ⟨260,72,false,a260,.fn s260⟩
def r244 : Row := ⟨244,105,false,a244,.fn s244⟩
def r256 : Row := ⟨256,177,false,a256,.fn s256⟩
def r251 : Row := ⟨251,106,false,a251,.fn s251⟩
def r301 : Row := ⟨301,179,true,a301,.fn s301⟩
def r283 : Row := ⟨283,133,false,a283,.fn s283⟩
def r288 : Row := ⟨288,61,true,a288,.fn s288⟩
def r315 : Row := ⟨315,152,true,a315,.fn s315⟩
def r313 : Row := ⟨313,151,true,a313,.fn s313⟩
def r294 : Row := ⟨294,118,true,a294,.fn s294⟩
def r300 : Row := ⟨300,83,true,a300,.fn s300⟩
def r306 : Row := ⟨306,116,false,a306,.fn s306⟩
def r285 : Row := ⟨285,107,true,a285,.fn s285⟩
def r292 : Row := ⟨292,108,true,a292,.fn s292⟩
def r291 : Row := ⟨291,51,true,a291,.fn s291⟩
def r289 : Row := ⟨289,109,false,a289,.fn s289⟩
def r305 : Row := ⟨305,52,true,a305,.fn s305⟩
def r314 : Row := ⟨314,110,true,a314,.fn s314⟩
def r312 : Row := ⟨312,111,true,a312,.fn s312⟩
def r282 : Row := ⟨282,112,true,a282,.fn s282⟩
def r290 : Row := ⟨290,62,false,a290,.fn s290⟩
def r297 : Row := ⟨297,63,false,a297,.fn s297⟩
def r286 : Row := ⟨286,20,true,a286,.fn s286⟩
def r304 : Row := ⟨304,53,true,a304,.fn s304⟩
def r308 : Row := ⟨308,122,true,a308,.fn s308⟩
def r309 : Row := ⟨309,113,true,a309,.fn s309⟩
def r311 : Row := ⟨311,115,false,a311,.fn s311⟩
def r307 : Row := ⟨307,178,true,a307,.fn s307⟩
def r310 : Row := ⟨310,114,true,a310,.fn s310⟩
def r287 : Row := ⟨287,153,false,a287,.fn s287⟩
def r298 : Row := ⟨298,120,true,a298,.fn s298⟩
def r303 : Row := ⟨303,117,true,a303,.fn s303⟩
def r295 : Row := ⟨295,119,true,a295,.fn s295⟩
def r299 : Row := ⟨299,211,false,a299,.fn s299⟩
def r316 : Row := ⟨316,180,false,a316,.fn s316⟩
def r281 : Row := ⟨281,121,false,a281,.fn s281⟩
def r302 : Row := ⟨302,54,true,a302,.fn s302⟩
def r284 : Row := ⟨284,15,true,a284,.fn s284⟩
def r277 : Row := ⟨277,73,true,a277,.fn s277⟩
def r274 : Row := ⟨274,74,false,a274,.fn s274⟩
def r258 : Row := ⟨258,27,true,a258,.fn s258⟩
def r205 : Row := ⟨205,6,true,a205,.fn s205⟩
def ns : List Nat := [441,86,87,195,191,187,205,206,208,66,250,63,370,400,177,284,373,193,174,372,286,374,399,338,401,247,423,258,209,424,30,29,259,263,31,33,179,34,270,32,296,64,65,252,254,451,402,410,409,405,173,291,305,304,302,154,377,156,151,107,419,288,290,297,155,376,11,6,7,132,429,425,260,277,274,149,134,35,36,10,280,375,293,300,181,180,407,109,125,404,152,420,406,129,128,123,421,415,413,403,414,340,412,408,381,244,251,285,292,289,314,312,282,309,310,311,306,303,294,295,298,281,308,160,163,378,108,162,54,53,465,106,422,283,458,13,8,5,9,243,135,133,426,427,428,275,122,449,450,153,379,313,315,287,114,112,113,142,371,158,161,418,138,337,411,130,124,126,139,141,140,137,157,343,346,127,416,256,307,301,316,159,111,56,477,443,21,22,24,14,17,19,20,253,136,455,430,335,115,110,147,145,150,417,144,146,148,452,143,348,344,299,89,482,444,445,68,339,67,15,18,23,463,334,459,345,432,435,16,78,79,82,83,84,85,80,81,49,50,47,48,0,60,61,12,52,59]
theorem nsND : ns.Nodup := by decide +kernel
abbrev K := RowOK Tryz.prog ns
theorem ok174 : K r174 := okF (by kernel_rfl) (by kernel_rfl)
theorem ok181 : K r181 := okF (by kernel_rfl) (by kernel_rfl)
theorem ok180 : K r180 := okF (by kernel_rfl) (by kernel_rfl)
theorem ok65 : K r65 := okF (by kernel_rfl) (by kernel_rfl)
theorem ok64 : K r64 := okF (by kernel_rfl) (by kernel_rfl)
theorem ok66 : K r66 := okF (by kernel_rfl) (by kernel_rfl)
theorem ok451 : K r451 := okN (by kernel_rfl) (by kernel_rfl)
theorem ok370 : K r370 := okF (by kernel_rfl) (by kernel_rfl)
theorem ok134 : K r134 := okF (by kernel_rfl) (by kernel_rfl)
theorem ok136 : K r136 := okF (by kernel_rfl) (by kernel_rfl)
theorem ok135 : K r135 := okF (by kernel_rfl) (by kernel_rfl)
theorem ok133 : K r133 := okF (by kernel_rfl) (by kernel_rfl)
theorem ok132 : K r132 := okF (by kernel_rfl) (by kernel_rfl)
theorem ok122 : K r122 := okF (by kernel_rfl) (by kernel_rfl)
theorem ok145 : K r145 := okF (by kernel_rfl) (by kernel_rfl)
theorem ok144 : K r144 := okF (by kernel_rfl) (by kernel_rfl)
theorem ok106 : K r106 := okF (by kernel_rfl) (by kernel_rfl)
theorem ok444 : K r444 := okF (by kernel_rfl) (by kernel_rfl)
theorem ok445 : K r445 := okF (by kernel_rfl) (by kernel_rfl)
theorem ok443 : K r443 := okF (by kernel_rfl) (by kernel_rfl)
theorem ok465 : K r465 := okF (by kernel_rfl) (by kernel_rfl)
theorem ok143 : K r143 := okF (by kernel_rfl) (by kernel_rfl)
theorem ok147 : K r147 := okF (by kernel_rfl) (by kernel_rfl)
theorem ok138 : K r138 := okF (by kernel_rfl) (by kernel_rfl)
theorem ok371 : K r371 := okF (by kernel_rfl) (by kernel_rfl)
theorem ok123 : K r123 := okF (by kernel_rfl) (by kernel_rfl)
theorem ok115 : K r115 := okF (by kernel_rfl) (by kernel_rfl)
theorem ok114 : K r114 := okF (by kernel_rfl) (by kernel_rfl)
theorem ok407 : K r407 := okF (by kernel_rfl) (by kernel_rfl)
theorem ok110 : K r110 := okF (by kernel_rfl) (by kernel_rfl)
theorem ok112 : K r112 := okF (by kernel_rfl) (by kernel_rfl)
theorem ok113 : K r113 := okF (by kernel_rfl) (by kernel_rfl)
theorem ok109 : K r109 := okF (by kernel_rfl) (by kernel_rfl)
theorem ok404 : K r404 := okF (by kernel_rfl) (by kernel_rfl)
theorem ok142 : K r142 := okF (by kernel_rfl) (by kernel_rfl)
theorem ok125 : K r125 := okF (by kernel_rfl) (by kernel_rfl)
theorem ok158 : K r158 := okF (by kernel_rfl) (by kernel_rfl)
theorem ok162 : K r162 := okF (by kernel_rfl) (by kernel_rfl)
theorem ok163 : K r163 := okI (by kernel_rfl) (by kernel_rfl)
theorem ok159 : K r159 := okF (by kernel_rfl) (by kernel_rfl)
theorem ok150 : K r150 := okF (by kernel_rfl) (by kernel_rfl)
theorem ok161 : K r161 := okI (by kernel_rfl) (by kernel_rfl)
theorem ok152 : K r152 := okF (by kernel_rfl) (by kernel_rfl)
theorem ok402 : K r402 := okF (by kernel_rfl) (by kernel_rfl)
theorem ok422 : K r422 := okF (by kernel_rfl) (by kernel_rfl)
theorem ok417 : K r417 := okF (by kernel_rfl) (by kernel_rfl)
theorem ok418 : K r418 := okF (by kernel_rfl) (by kernel_rfl)
theorem ok420 : K r420 := okF (by kernel_rfl) (by kernel_rfl)
theorem ok410 : K r410 := okF (by kernel_rfl) (by kernel_rfl)
theorem ok406 : K r406 := okF (by kernel_rfl) (by kernel_rfl)
theorem ok129 : K r129 := okF (by kernel_rfl) (by kernel_rfl)
theorem ok128 : K r128 := okF (by kernel_rfl) (by kernel_rfl)
theorem ok421 : K r421 := okF (by kernel_rfl) (by kernel_rfl)
theorem ok107 : K r107 := okF (by kernel_rfl) (by kernel_rfl)
theorem ok151 : K r151 := okF (by kernel_rfl) (by kernel_rfl)
theorem ok419 : K r419 := okF (by kernel_rfl) (by kernel_rfl)
theorem ok372 : K r372 := okF (by kernel_rfl) (by kernel_rfl)
theorem ok409 : K r409 := okF (by kernel_rfl) (by kernel_rfl)
theorem ok127 : K r127 := okF (by kernel_rfl) (by kernel_rfl)
theorem ok337 : K r337 := okF (by kernel_rfl) (by kernel_rfl)
theorem ok415 : K r415 := okF (by kernel_rfl) (by kernel_rfl)
theorem ok381 : K r381 := okF (by kernel_rfl) (by kernel_rfl)
theorem ok411 : K r411 := okF (by kernel_rfl) (by kernel_rfl)
theorem ok130 : K r130 := okF (by kernel_rfl) (by kernel_rfl)
theorem ok124 : K r124 := okF (by kernel_rfl) (by kernel_rfl)
theorem ok126 : K r126 := okF (by kernel_rfl) (by kernel_rfl)
theorem ok413 : K r413 := okF (by kernel_rfl) (by kernel_rfl)
theorem ok149 : K r149 := okF (by kernel_rfl) (by kernel_rfl)
theorem ok157 : K r157 := okF (by kernel_rfl) (by kernel_rfl)
theorem ok141 : K r141 := okF (by kernel_rfl) (by kernel_rfl)
theorem ok139 : K r139 := okF (by kernel_rfl) (by kernel_rfl)
theorem ok146 : K r146 := okF (by kernel_rfl) (by kernel_rfl)
theorem ok148 : K r148 := okF (by kernel_rfl) (by kernel_rfl)
theorem ok459 : K r459 := okF (by kernel_rfl) (by kernel_rfl)
theorem ok452 : K r452 := okF (by kernel_rfl) (by kernel_rfl)
theorem ok140 : K r140 := okF (by kernel_rfl) (by kernel_rfl)
theorem ok137 : K r137 := okF (by kernel_rfl) (by kernel_rfl)
theorem ok403 : K r403 := okF (by kernel_rfl) (by kernel_rfl)
theorem ok414 : K r414 := okF (by kernel_rfl) (by kernel_rfl)
theorem ok348 : K r348 := okF (by kernel_rfl) (by kernel_rfl)
theorem ok343 : K r343 := okF (by kernel_rfl) (by kernel_rfl)
theorem ok345 : K r345 := okF (by kernel_rfl) (by kernel_rfl)
theorem ok344 : K r344 := okF (by kernel_rfl) (by kernel_rfl)
theorem ok346 : K r346 := okF (by kernel_rfl) (by kernel_rfl)
theorem ok340 : K r340 := okF (by kernel_rfl) (by kernel_rfl)
theorem ok412 : K r412 := okF (by kernel_rfl) (by kernel_rfl)
theorem ok416 : K r416 := okF (by kernel_rfl) (by kernel_rfl)
theorem ok408 : K r408 := okF (by kernel_rfl) (by kernel_rfl)
theorem ok405 : K r405 := okF (by kernel_rfl) (by kernel_rfl)
theorem ok400 : K r400 := okF (by kernel_rfl) (by kernel_rfl)
theorem ok426 : K r426 := okF (by kernel_rfl) (by kernel_rfl)
theorem ok429 : K r429 := okF (by kernel_rfl) (by kernel_rfl)
theorem ok463 : K r463 := okF (by kernel_rfl) (by kernel_rfl)
theorem ok455 : K r455 := okF (by kernel_rfl) (by kernel_rfl)
theorem ok430 : K r430 := okF (by kernel_rfl) (by kernel_rfl)
theorem ok427 : K r427 := okF (by kernel_rfl) (by kernel_rfl)
theorem ok334 : K r334 := okF (by kernel_rfl) (by kernel_rfl)
theorem ok335 : K r335 := okF (by kernel_rfl) (by kernel_rfl)
theorem ok428 : K r428 := okF (by kernel_rfl) (by kernel_rfl)
theorem ok425 : K r425 := okF (by kernel_rfl) (by kernel_rfl)
theorem ok423 : K r423 := okF (by kernel_rfl) (by kernel_rfl)
theorem ok173 : K r173 := okF (by kernel_rfl) (by kernel_rfl)
theorem ok177 : K r177 := okF (by kernel_rfl) (by kernel_rfl)
theorem ok111 : K r111 := okF (by kernel_rfl) (by kernel_rfl)
theorem ok108 : K r108 := okF (by kernel_rfl) (by kernel_rfl)
theorem ok160 : K r160 := okF (by kernel_rfl) (by kernel_rfl)
theorem ok154 : K r154 := okF (by kernel_rfl) (by kernel_rfl)
theorem ok378 : K r378 := okF (by kernel_rfl) (by kernel_rfl)
theorem ok377 : K r377 := okF (by kernel_rfl) (by kernel_rfl)
theorem ok373 : K r373 := okF (by kernel_rfl) (by kernel_rfl)
theorem ok338 : K r338 := okF (by kernel_rfl) (by kernel_rfl)
theorem ok424 : K r424 := okF (by kernel_rfl) (by kernel_rfl)
theorem ok67 : K r67 := okF (by kernel_rfl) (by kernel_rfl)
theorem ok432 : K r432 := okF (by kernel_rfl) (by kernel_rfl)
theorem ok435 : K r435 := okF (by kernel_rfl) (by kernel_rfl)
theorem ok68 : K r68 := okF (by kernel_rfl) (by kernel_rfl)
theorem ok339 : K r339 := okF (by kernel_rfl) (by kernel_rfl)
theorem ok14 : K r14 := okF (by kernel_rfl) (by kernel_rfl)
theorem ok21 : K r21 := okF (by kernel_rfl) (by kernel_rfl)
theorem ok24 : K r24 := okF (by kernel_rfl) (by kernel_rfl)
theorem ok22 : K r22 := okF (by kernel_rfl) (by kernel_rfl)
theorem ok17 : K r17 := okF (by kernel_rfl) (by kernel_rfl)
theorem ok15 : K r15 := okF (by kernel_rfl) (by kernel_rfl)
theorem ok16 : K r16 := okF (by kernel_rfl) (by kernel_rfl)
theorem ok18 : K r18 := okF (by kernel_rfl) (by kernel_rfl)
theorem ok23 : K r23 := okF (by kernel_rfl) (by kernel_rfl)
theorem ok450 : K r450 := okN (by kernel_rfl) (by kernel_rfl)
theorem ok19 : K r19 := okF (by kernel_rfl) (by kernel_rfl)
theorem ok20 : K r20 := okF (by kernel_rfl) (by kernel_rfl)
theorem ok13 : K r13 := okF (by kernel_rfl) (by kernel_rfl)
theorem ok11 : K r11 := okF (by kernel_rfl) (by kernel_rfl)
theorem ok35 : K r35 := okF (by kernel_rfl) (by kernel_rfl)
theorem ok36 : K r36 := okF (by kernel_rfl) (by kernel_rfl)
theorem ok30 : K r30 := okF (by kernel_rfl) (by kernel_rfl)
theorem ok31 : K r31 := okF (by kernel_rfl) (by kernel_rfl)
theorem ok34 : K r34 := okF (by kernel_rfl) (by kernel_rfl)
theorem ok33 : K r33 := okF (by kernel_rfl) (by kernel_rfl)
theorem ok209 : K r209 := okF (by kernel_rfl) (by kernel_rfl)
theorem ok63 : K r63 := okF (by kernel_rfl) (by kernel_rfl)
theorem ok275 : K r275 := okF (by kernel_rfl) (by kernel_rfl)
theorem ok260 : K r260 := okF (by kernel_rfl) (by kernel_rfl)
theorem ok244 : K r244 := okF (by kernel_rfl) (by kernel_rfl)
theorem ok256 : K r256 := okF (by kernel_rfl) (by kernel_rfl)
theorem ok251 : K r251 := okF (by kernel_rfl) (by kernel_rfl)
theorem ok301 : K r301 := okF (by kernel_rfl) (by kernel_rfl)
theorem ok283 : K r283 := okF (by kernel_rfl) (by kernel_rfl)
theorem ok288 : K r288 := okF (by kernel_rfl) (by kernel_rfl)
theorem ok315 : K r315 := okF (by kernel_rfl) (by kernel_rfl)
theorem ok313 : K r313 := okF (by kernel_rfl) (by kernel_rfl)
theorem ok294 : K r294 := okF (by kernel_rfl) (by kernel_rfl)
theorem ok300 : K r300 := okF (by kernel_rfl) (by kernel_rfl)
theorem ok306 : K r306 := okF (by kernel_rfl) (by kernel_rfl)
theorem ok285 : K r285 := okF (by kernel_rfl) (by kernel_rfl)
theorem ok292 : K r292 := okF (by kernel_rfl) (by kernel_rfl)
theorem ok291 : K r291 := okF (by kernel_rfl) (by kernel_rfl)
theorem ok289 : K r289 := okF (by kernel_rfl) (by kernel_rfl)
theorem ok305 : K r305 := okF (by kernel_rfl) (by kernel_rfl)
theorem ok314 : K r314 := okF (by kernel_rfl) (by kernel_rfl)
theorem ok312 : K r312 := okF (by kernel_rfl) (by kernel_rfl)
theorem ok282 : K r282 := okF (by kernel_rfl) (by kernel_rfl)
theorem ok290 : K r290 := okF (by kernel_rfl) (by kernel_rfl)
theorem ok297 : K r297 := okF (by kernel_rfl) (by kernel_rfl)
theorem ok286 : K r286 := okF (by kernel_rfl) (by kernel_rfl)
theorem ok304 : K r304 := okF (by kernel_rfl) (by kernel_rfl)
theorem ok308 : K r308 := okF (by kernel_rfl) (by kernel_rfl)
theorem ok309 : K r309 := okF (by kernel_rfl) (by kernel_rfl)
theorem ok311 : K r311 := okF (by kernel_rfl) (by kernel_rfl)
theorem ok307 : K r307 := okF (by kernel_rfl) (by kernel_rfl)
theorem ok310 : K r310 := okF (by kernel_rfl) (by kernel_rfl)
theorem ok287 : K r287 := okF (by kernel_rfl) (by kernel_rfl)
theorem ok298 : K r298 := okF (by kernel_rfl) (by kernel_rfl)
theorem ok303 : K r303 := okF (by kernel_rfl) (by kernel_rfl)
theorem ok295 : K r295 := okF (by kernel_rfl) (by kernel_rfl)
theorem ok299 : K r299 := okF (by kernel_rfl) (by kernel_rfl)
theorem ok316 : K r316 := okF (by kernel_rfl) (by kernel_rfl)
theorem ok281 : K r281 := okF (by kernel_rfl) (by kernel_rfl)
theorem ok302 : K r302 := okF (by kernel_rfl) (by kernel_rfl)
theorem ok284 : K r284 := okF (by kernel_rfl) (by kernel_rfl)
theorem ok277 : K r277 := okF (by kernel_rfl) (by kernel_rfl)
theorem ok274 : K r274 := okF (by kernel_rfl) (by kernel_rfl)
theorem ok258 : K r258 := okF (by kernel_rfl) (by kernel_rfl)
theorem ok205 : K r205 := okF (by kernel_rfl) (by kernel_rfl)
def tab : List Row := [r174,r181,r180,r65,r64,r66,r451,r370,r134,r136,r135,r133,r132,r122,r145,r144,r106,r444,r445,r443,r465,r143,r147,r138,r371,r123,r115,r114,r407,r110,r112,r113,r109,r404,r142,r125,r158,r162,r163,r159,r150,r161,r152,r402,r422,r417,r418,r420,r410,r406,r129,r128,r421,r107,r151,r419,r372,r409,r127,r337,r415,r381,r411,r130,r124,r126,r413,r149,r157,r141,r139,r146,r148,r459,r452,r140,r137,r403,r414,r348,r343,r345,r344,r346,r340,r412,r416,r408,r405,r400,r426,r429,r463,r455,r430,r427,r334,r335,r428,r425,r423,r173,r177,r111,r108,r160,r154,r378,r377,r373,r338,r424,r67,r432,r435,r68,r339,r14,r21,r24,r22,r17,r15,r16,r18,r23,r450,r19,r20,r13,r11,r35,r36,r30,r31,r34,r33,r209,r63,r275,r260,r244,r256,r251,r301,r283,r288,r315,r313,r294,r300,r306,r285,r292,r291,r289,r305,r314,r312,r282,r290,r297,r286,r304,r308,r309,r311,r307,r310,r287,r298,r303,r295,r299,r316,r281,r302,r284,r277,r274,r258,r205]
theorem tabOK : ∀ r, r ∈ tab → K r := allK (.cons ok174 (.cons ok181 (.cons ok180 (.cons ok65 (.cons ok64 (.cons ok66 (.cons ok451 (.cons ok370 (.cons ok134 (.cons ok136 (.cons ok135 (.cons ok133 (.cons ok132 (.cons ok122 (.cons ok145 (.cons ok144 (.cons ok106 (.cons ok444 (.cons ok445 (.cons ok443 (.cons ok465 (.cons ok143 (.cons ok147 (.cons ok138 (.cons ok371 (.cons ok123 (.cons ok115 (.cons ok114 (.cons ok407 (.cons ok110 (.cons ok112 (.cons ok113 (.cons ok109 (.cons ok404 (.cons ok142 (.cons ok125 (.cons ok158 (.cons ok162 (.cons ok163 (.cons ok159 (.cons ok150 (.cons ok161 (.cons ok152 (.cons ok402 (.cons ok422 (.cons ok417 (.cons ok418 (.cons ok420 (.cons ok410 (.cons ok406 (.cons ok129 (.cons ok128 (.cons ok421 (.cons ok107 (.cons ok151 (.cons ok419 (.cons ok372 (.cons ok409 (.cons ok127 (.cons ok337 (.cons ok415 (.cons ok381 (.cons ok411 (.cons ok130 (.cons ok124 (.cons ok126 (.cons ok413 (.cons ok149 (.cons ok157 (.cons ok141 (.cons ok139 (.cons ok146 (.cons ok148 (.cons ok459 (.cons ok452 (.cons ok140 (.cons ok137 (.cons ok403 (.cons ok414 (.cons ok348 (.cons ok343 (.cons ok345 (.cons ok344 (.cons ok346 (.cons ok340 (.cons ok412 (.cons ok416 (.cons ok408 (.cons ok405 (.cons ok400 (.cons ok426 (.cons ok429 (.cons ok463 (.cons ok455 (.cons ok430 (.cons ok427 (.cons ok334 (.cons ok335 (.cons ok428 (.cons ok425 (.cons ok423 (.cons ok173 (.cons ok177 (.cons ok111 (.cons ok108 (.cons ok160 (.cons ok154 (.cons ok378 (.cons ok377 (.cons ok373 (.cons ok338 (.cons ok424 (.cons ok67 (.cons ok432 (.cons ok435 (.cons ok68 (.cons ok339 (.cons ok14 (.cons ok21 (.cons ok24 (.cons ok22 (.cons ok17 (.cons ok15 (.cons ok16 (.cons ok18 (.cons ok23 (.cons ok450 (.cons ok19 (.cons ok20 (.cons ok13 (.cons ok11 (.cons ok35 (.cons ok36 (.cons ok30 (.cons ok31 (.cons ok34 (.cons ok33 (.cons ok209 (.cons ok63 (.cons ok275 (.cons ok260 (.cons ok244 (.cons ok256 (.cons ok251 (.cons ok301 (.cons ok283 (.cons ok288 (.cons ok315 (.cons ok313 (.cons ok294 (.cons ok300 (.cons ok306 (.cons ok285 (.cons ok292 (.cons ok291 (.cons ok289 (.cons ok305 (.cons ok314 (.cons ok312 (.cons ok282 (.cons ok290 (.cons ok297 (.cons ok286 (.cons ok304 (.cons ok308 (.cons ok309 (.cons ok311 (.cons ok307 (.cons ok310 (.cons ok287 (.cons ok298 (.cons ok303 (.cons ok295 (.cons ok299 (.cons ok316 (.cons ok281 (.cons ok302 (.cons ok284 (.cons ok277 (.cons ok274 (.cons ok258 (.cons ok205 (.nil)))))))))))))))))))))))))))))))))))))))))))))))))))))))))))))))))))))))))))))))))))))))))))))))))))))))))))))))))))))))))))))))))))))))))))))))))))))))))))))))))))))))))))))))))))))))
theorem mix : Tryz.prog.follows .mixedOrders = true := by kernel_rfl
def cw174 := @cwF tab 174 _ _ _ _ (show findRow tab 174 = some r174 by kernel_rfl)
def cr174 := @crF tab 174 _ _ _ _ (show findRow tab 174 = some r174 by kernel_rfl)
def cw181 := @cwF tab 181 _ _ _ _ (show findRow tab 181 = some r181 by kernel_rfl)
def cr180 := @crF tab 180 _ _ _ _ (show findRow tab 180 = some r180 by kernel_rfl)
def cw65 := @cwF tab 65 _ _ _ _ (show findRow tab 65 = some r65 by kernel_rfl)
def cr65 := @crF tab 65 _ _ _ _ (show findRow tab 65 = some r65 by kernel_rfl)
def cw64 := @cwF tab 64 _ _ _ _ (show findRow tab 64 = some r64 by kernel_rfl)
def cw66 := @cwF tab 66 _ _ _ _ (show findRow tab 66 = some r66 by kernel_rfl)
def cw451 := @cwN tab 451 _ _ _ _ (show findRow tab 451 = some r451 by kernel_rfl)
def cw370 := @cwF tab 370 _ _ _ _ (show findRow tab 370 = some r370 by kernel_rfl)
def cr370 := @crF tab 370 _ _ _ _ (show findRow tab 370 = some r370 by kernel_rfl)
def cw134 := @cwF tab 134 _ _ _ _ (show findRow tab 134 = some r134 by kernel_rfl)
def cr134 := @crF tab 134 _ _ _ _ (show findRow tab 134 = some r134 by kernel_rfl)
def cw135 := @cwF tab 135 _ _ _ _ (show findRow tab 135 = some r135 by kernel_rfl)
def cr135 := @crF tab 135 _ _ _ _ (show findRow tab 135 = some r135 by kernel_rfl)
def cw133 := @cwF tab 133 _ _ _ _ (show findRow tab 133 = some r133 by kernel_rfl)
def cr133 := @crF tab 133 _ _ _ _ (show findRow tab 133 = some r133 by kernel_rfl)
def cw132 := @cwF tab 132 _ _ _ _ (show findRow tab 132 = some r132 by kernel_rfl)
def cr132 := @crF tab 132 _ _ _ _ (show findRow tab 132 = some r132 by kernel_rfl)
def cw122 := @cwF tab 122 _ _ _ _ (show findRow tab 122 = some r122 by kernel_rfl)
def cr145 := @crF tab 145 _ _ _ _ (show findRow tab 145 = some r145 by kernel_rfl)
def cw144 := @cwF tab 144 _ _ _ _ (show findRow tab 144 = some r144 by kernel_rfl)
def cw106 := @cwF tab 106 _ _ _ _ (show findRow tab 106 = some r106 by kernel_rfl)
def cr106 := @crF tab 106 _ _ _ _ (show findRow tab 106 = some r106 by kernel_rfl)
def cw445 := @cwF tab 445 _ _ _ _ (show findRow tab 445 = some r445 by kernel_rfl)
def cw443 := @cwF tab 443 _ _ _ _ (show findRow tab 443 = some r443 by kernel_rfl)
def cw465 := @cwF tab 465 _ _ _ _ (show findRow tab 465 = some r465 by kernel_rfl)
def cw143 := @cwF tab 143 _ _ _ _ (show findRow tab 143 = some r143 by kernel_rfl)
def cr143 := @crF tab 143 _ _ _ _ (show findRow tab 143 = some r143 by kernel_rfl)
def cw147 := @cwF tab 147 _ _ _ _ (show findRow tab 147 = some r147 by kernel_rfl)
def cw138 := @cwF tab 138 _ _ _ _ (show findRow tab 138 = some r138 by kernel_rfl)
def cw371 := @cwF tab 371 _ _ _ _ (show findRow tab 371 = some r371 by kernel_rfl)
def cr371 := @crF tab 371 _ _ _ _ (show findRow tab 371 = some r371 by kernel_rfl)
def cw123 := @cwF tab 123 _ _ _ _ (show findRow tab 123 = some r123 by kernel_rfl)
def cr123 := @crF tab 123 _ _ _ _ (show findRow tab 123 = some r123 by kernel_rfl)
def cw115 := @cwF tab 115 _ _ _ _ (show findRow tab 115 = some r115 by kernel_rfl)
def cw114 := @cwF tab 114 _ _ _ _ (show findRow tab 114 = some r114 by kernel_rfl)
def cw407 := @cwF tab 407 _ _ _ _ (show findRow tab 407 = some r407 by kernel_rfl)
def cw110 := @cwF tab 110 _ _ _ _ (show findRow tab 110 = some r110 by kernel_rfl)
def cr110 := @crF tab 110 _ _ _ _ (show findRow tab 110 = some r110 by kernel_rfl)
def cw112 := @cwF tab 112 _ _ _ _ (show findRow tab 112 = some r112 by kernel_rfl)
def cw113 := @cwF tab 113 _ _ _ _ (show findRow tab 113 = some r113 by kernel_rfl)
def cw109 := @cwF tab 109 _ _ _ _ (show findRow tab 109 = some r109 by kernel_rfl)
def cr109 := @crF tab 109 _ _ _ _ (show findRow tab 109 = some r109 by kernel_rfl)
def cw404 := @cwF tab 404 _ _ _ _ (show findRow tab 404 = some r404 by kernel_rfl)
def cw142 := @cwF tab 142 _ _ _ _ (show findRow tab 142 = some r142 by kernel_rfl)
def cw125 := @cwF tab 125 _ _ _ _ (show findRow tab 125 = some r125 by kernel_rfl)
def cw158 := @cwF tab 158 _ _ _ _ (show findRow tab 158 = some r158 by kernel_rfl)
def cw162 := @cwF tab 162 _ _ _ _ (show findRow tab 162 = some r162 by kernel_rfl)
def cw163 := @cwI tab 163 _ _ _ _ (show findRow tab 163 = some r163 by kernel_rfl)
def cr163 := @crI tab 163 _ _ _ _ (show findRow tab 163 = some r163 by kernel_rfl)
def cw159 := @cwF tab 159 _ _ _ _ (show findRow tab 159 = some r159 by kernel_rfl)
def cr159 := @crF tab 159 _ _ _ _ (show findRow tab 159 = some r159 by kernel_rfl)
def cw150 := @cwF tab 150 _ _ _ _ (show findRow tab 150 = some r150 by kernel_rfl)
def cr150 := @crF tab 150 _ _ _ _ (show findRow tab 150 = some r150 by kernel_rfl)
def cw161 := @cwI tab 161 _ _ _ _ (show findRow tab 161 = some r161 by kernel_rfl)
def cw152 := @cwF tab 152 _ _ _ _ (show findRow tab 152 = some r152 by kernel_rfl)
def cw402 := @cwF tab 402 _ _ _ _ (show findRow tab 402 = some r402 by kernel_rfl)
def cw422 := @cwF tab 422 _ _ _ _ (show findRow tab 422 = some r422 by kernel_rfl)
def cw417 := @cwF tab 417 _ _ _ _ (show findRow tab 417 = some r417 by kernel_rfl)
def cw418 := @cwF tab 418 _ _ _ _ (show findRow tab 418 = some r418 by kernel_rfl)
def cr420 := @crF tab 420 _ _ _ _ (show findRow tab 420 = some r420 by kernel_rfl)
def cw410 := @cwF tab 410 _ _ _ _ (show findRow tab 410 = some r410 by kernel_rfl)
def cw406 := @cwF tab 406 _ _ _ _ (show findRow tab 406 = some r406 by kernel_rfl)
def cw129 := @cwF tab 129 _ _ _ _ (show findRow tab 129 = some r129 by kernel_rfl)
def cw128 := @cwF tab 128 _ _ _ _ (show findRow tab 128 = some r128 by kernel_rfl)
def cw421 := @cwF tab 421 _ _ _ _ (show findRow tab 421 = some r421 by kernel_rfl)
def cw107 := @cwF tab 107 _ _ _ _ (show findRow tab 107 = some r107 by kernel_rfl)
def cr107 := @crF tab 107 _ _ _ _ (show findRow tab 107 = some r107 by kernel_rfl)
def cw151 := @cwF tab 151 _ _ _ _ (show findRow tab 151 = some r151 by kernel_rfl)
def cr419 := @crF tab 419 _ _ _ _ (show findRow tab 419 = some r419 by kernel_rfl)
def cw372 := @cwF tab 372 _ _ _ _ (show findRow tab 372 = some r372 by kernel_rfl)
def cw409 := @cwF tab 409 _ _ _ _ (show findRow tab 409 = some r409 by kernel_rfl)
def cw127 := @cwF tab 127 _ _ _ _ (show findRow tab 127 = some r127 by kernel_rfl)
def cw337 := @cwF tab 337 _ _ _ _ (show findRow tab 337 = some r337 by kernel_rfl)
def cw415 := @cwF tab 415 _ _ _ _ (show findRow tab 415 = some r415 by kernel_rfl)
def cw381 := @cwF tab 381 _ _ _ _ (show findRow tab 381 = some r381 by kernel_rfl)
def cr381 := @crF tab 381 _ _ _ _ (show findRow tab 381 = some r381 by kernel_rfl)
def cw411 := @cwF tab 411 _ _ _ _ (show findRow tab 411 = some r411 by kernel_rfl)
def cr411 := @crF tab 411 _ _ _ _ (show findRow tab 411 = some r411 by kernel_rfl)
def cw130 := @cwF tab 130 _ _ _ _ (show findRow tab 130 = some r130 by kernel_rfl)
def cw124 := @cwF tab 124 _ _ _ _ (show findRow tab 124 = some r124 by kernel_rfl)
def cw126 := @cwF tab 126 _ _ _ _ (show findRow tab 126 = some r126 by kernel_rfl)
def cw413 := @cwF tab 413 _ _ _ _ (show findRow tab 413 = some r413 by kernel_rfl)
def cw149 := @cwF tab 149 _ _ _ _ (show findRow tab 149 = some r149 by kernel_rfl)
def cw157 := @cwF tab 157 _ _ _ _ (show findRow tab 157 = some r157 by kernel_rfl)
def cw141 := @cwF tab 141 _ _ _ _ (show findRow tab 141 = some r141 by kernel_rfl)
def cw139 := @cwF tab 139 _ _ _ _ (show findRow tab 139 = some r139 by kernel_rfl)
def cw146 := @cwF tab 146 _ _ _ _ (show findRow tab 146 = some r146 by kernel_rfl)
def cw148 := @cwF tab 148 _ _ _ _ (show findRow tab 148 = some r148 by kernel_rfl)
def cw459 := @cwF tab 459 _ _ _ _ (show findRow tab 459 = some r459 by kernel_rfl)
def cr452 := @crF tab 452 _ _ _ _ (show findRow tab 452 = some r452 by kernel_rfl)
def cw140 := @cwF tab 140 _ _ _ _ (show findRow tab 140 = some r140 by kernel_rfl)
def cw137 := @cwF tab 137 _ _ _ _ (show findRow tab 137 = some r137 by kernel_rfl)
def cw403 := @cwF tab 403 _ _ _ _ (show findRow tab 403 = some r403 by kernel_rfl)
def cw414 := @cwF tab 414 _ _ _ _ (show findRow tab 414 = some r414 by kernel_rfl)
def cw348 := @cwF tab 348 _ _ _ _ (show findRow tab 348 = some r348 by kernel_rfl)
def cw343 := @cwF tab 343 _ _ _ _ (show findRow tab 343 = some r343 by kernel_rfl)
def cw345 := @cwF tab 345 _ _ _ _ (show findRow tab 345 = some r345 by kernel_rfl)
def cr344 := @crF tab 344 _ _ _ _ (show findRow tab 344 = some r344 by kernel_rfl)
def cw346 := @cwF tab 346 _ _ _ _ (show findRow tab 346 = some r346 by kernel_rfl)
def cw340 := @cwF tab 340 _ _ _ _ (show findRow tab 340 = some r340 by kernel_rfl)
def cw412 := @cwF tab 412 _ _ _ _ (show findRow tab 412 = some r412 by kernel_rfl)
def cw416 := @cwF tab 416 _ _ _ _ (show findRow tab 416 = some r416 by kernel_rfl)
def cw408 := @cwF tab 408 _ _ _ _ (show findRow tab 408 = some r408 by kernel_rfl)
def cw405 := @cwF tab 405 _ _ _ _ (show findRow tab 405 = some r405 by kernel_rfl)
def cw400 := @cwF tab 400 _ _ _ _ (show findRow tab 400 = some r400 by kernel_rfl)
def cr400 := @crF tab 400 _ _ _ _ (show findRow tab 400 = some r400 by kernel_rfl)
def cw426 := @cwF tab 426 _ _ _ _ (show findRow tab 426 = some r426 by kernel_rfl)
def cr426 := @crF tab 426 _ _ _ _ (show findRow tab 426 = some r426 by kernel_rfl)
def cw429 := @cwF tab 429 _ _ _ _ (show findRow tab 429 = some r429 by kernel_rfl)
def cr429 := @crF tab 429 _ _ _ _ (show findRow tab 429 = some r429 by kernel_rfl)
def cw463 := @cwF tab 463 _ _ _ _ (show findRow tab 463 = some r463 by kernel_rfl)
def cr463 := @crF tab 463 _ _ _ _ (show findRow tab 463 = some r463 by kernel_rfl)
def cw455 := @cwF tab 455 _ _ _ _ (show findRow tab 455 = some r455 by kernel_rfl)
def cr455 := @crF tab 455 _ _ _ _ (show findRow tab 455 = some r455 by kernel_rfl)
def cw430 := @cwF tab 430 _ _ _ _ (show findRow tab 430 = some r430 by kernel_rfl)
def cr430 := @crF tab 430 _ _ _ _ (show findRow tab 430 = some r430 by kernel_rfl)
def cw427 := @cwF tab 427 _ _ _ _ (show findRow tab 427 = some r427 by kernel_rfl)
def cr427 := @crF tab 427 _ _ _ _ (show findRow tab 427 = some r427 by kernel_rfl)
def cw334 := @cwF tab 334 _ _ _ _ (show findRow tab 334 = some r334 by kernel_rfl)
def cr334 := @crF tab 334 _ _ _ _ (show findRow tab 334 = some r334 by kernel_rfl)
def cw335 := @cwF tab 335 _ _ _ _ (show findRow tab 335 = some r335 by kernel_rfl)
def cr335 := @crF tab 335 _ _ _ _ (show findRow tab 335 = some r335 by kernel_rfl)
def cw428 := @cwF tab 428 _ _ _ _ (show findRow tab 428 = some r428 by kernel_rfl)
def cr428 := @crF tab 428 _ _ _ _ (show findRow tab 428 = some r428 by kernel_rfl)
def cw425 := @cwF tab 425 _ _ _ _ (show findRow tab 425 = some r425 by kernel_rfl)
def cr425 := @crF tab 425 _ _ _ _ (show findRow tab 425 = some r425 by kernel_rfl)
def cw423 := @cwF tab 423 _ _ _ _ (show findRow tab 423 = some r423 by kernel_rfl)
def cr423 := @crF tab 423 _ _ _ _ (show findRow tab 423 = some r423 by kernel_rfl)
def cw173 := @cwF tab 173 _ _ _ _ (show findRow tab 173 = some r173 by kernel_rfl)
def cw177 := @cwF tab 177 _ _ _ _ (show findRow tab 177 = some r177 by kernel_rfl)
def cr177 := @crF tab 177 _ _ _ _ (show findRow tab 177 = some r177 by kernel_rfl)
def cw111 := @cwF tab 111 _ _ _ _ (show findRow tab 111 = some r111 by kernel_rfl)
def cw108 := @cwF tab 108 _ _ _ _ (show findRow tab 108 = some r108 by kernel_rfl)
def cr108 := @crF tab 108 _ _ _ _ (show findRow tab 108 = some r108 by kernel_rfl)
def cw160 := @cwF tab 160 _ _ _ _ (show findRow tab 160 = some r160 by kernel_rfl)
def cw154 := @cwF tab 154 _ _ _ _ (show findRow tab 154 = some r154 by kernel_rfl)
def cw378 := @cwF tab 378 _ _ _ _ (show findRow tab 378 = some r378 by kernel_rfl)
def cw377 := @cwF tab 377 _ _ _ _ (show findRow tab 377 = some r377 by kernel_rfl)
def cw373 := @cwF tab 373 _ _ _ _ (show findRow tab 373 = some r373 by kernel_rfl)
def cr373 := @crF tab 373 _ _ _ _ (show findRow tab 373 = some r373 by kernel_rfl)
def cw209 := @cwF tab 209 _ _ _ _ (show findRow tab 209 = some r209 by kernel_rfl)
def cr209 := @crF tab 209 _ _ _ _ (show findRow tab 209 = some r209 by kernel_rfl)
def cw63 := @cwF tab 63 _ _ _ _ (show findRow tab 63 = some r63 by kernel_rfl)
def cr63 := @crF tab 63 _ _ _ _ (show findRow tab 63 = some r63 by kernel_rfl)
def cw275 := @cwF tab 275 _ _ _ _ (show findRow tab 275 = some r275 by kernel_rfl)
def cr275 := @crF tab 275 _ _ _ _ (show findRow tab 275 = some r275 by kernel_rfl)
def cw260 := @cwF tab 260 _ _ _ _ (show findRow tab 260 = some r260 by kernel_rfl)
def cr260 := @crF tab 260 _ _ _ _ (show findRow tab 260 = some r260 by kernel_rfl)
def cw244 := @cwF tab 244 _ _ _ _ (show findRow tab 244 = some r244 by kernel_rfl)
def cr244 := @crF tab 244 _ _ _ _ (show findRow tab 244 = some r244 by kernel_rfl)
def cw256 := @cwF tab 256 _ _ _ _ (show findRow tab 256 = some r256 by kernel_rfl)
def cr256 := @crF tab 256 _ _ _ _ (show findRow tab 256 = some r256 by kernel_rfl)
def cw251 := @cwF tab 251 _ _ _ _ (show findRow tab 251 = some r251 by kernel_rfl)
def cr251 := @crF tab 251 _ _ _ _ (show findRow tab 251 = some r251 by kernel_rfl)
def cw301 := @cwF tab 301 _ _ _ _ (show findRow tab 301 = some r301 by kernel_rfl)
def cw283 := @cwF tab 283 _ _ _ _ (show findRow tab 283 = some r283 by kernel_rfl)
def cr283 := @crF tab 283 _ _ _ _ (show findRow tab 283 = some r283 by kernel_rfl)
def cw288 := @cwF tab 288 _ _ _ _ (show findRow tab 288 = some r288 by kernel_rfl)
def cr288 := @crF tab 288 _ _ _ _ (show findRow tab 288 = some r288 by kernel_rfl)
def cw315 := @cwF tab 315 _ _ _ _ (show findRow tab 315 = some r315 by kernel_rfl)
def cr315 := @crF tab 315 _ _ _ _ (show findRow tab 315 = some r315 by kernel_rfl)
def cw313 := @cwF tab 313 _ _ _ _ (show findRow tab 313 = some r313 by kernel_rfl)
def cr313 := @crF tab 313 _ _ _ _ (show findRow tab 313 = some r313 by kernel_rfl)
def cw294 := @cwF tab 294 _ _ _ _ (show findRow tab 294 = some r294 by kernel_rfl)
def cr294 := @crF tab 294 _ _ _ _ (show findRow tab 294 = some r294 by kernel_rfl)
def cw300 := @cwF tab 300 _ _ _ _ (show findRow tab 300 = some r300 by kernel_rfl)
def cr300 := @crF tab 300 _ _ _ _ (show findRow tab 300 = some r300 by kernel_rfl)
def cw306 := @cwF tab 306 _ _ _ _ (show findRow tab 306 = some r306 by kernel_rfl)
def cr306 := @crF tab 306 _ _ _ _ (show findRow tab 306 = some r306 by kernel_rfl)
def cw285 := @cwF tab 285 _ _ _ _ (show findRow tab 285 = some r285 by kernel_rfl)
def cr285 := @crF tab 285 _ _ _ _ (show findRow tab 285 = some r285 by kernel_rfl)
def cw292 := @cwF tab 292 _ _ _ _ (show findRow tab 292 = some r292 by kernel_rfl)
def cr292 := @crF tab 292 _ _ _ _ (show findRow tab 292 = some r292 by kernel_rfl)
def cw291 := @cwF tab 291 _ _ _ _ (show findRow tab 291 = some r291 by kernel_rfl)
def cr291 := @crF tab 291 _ _ _ _ (show findRow tab 291 = some r291 by kernel_rfl)
def cw289 := @cwF tab 289 _ _ _ _ (show findRow tab 289 = some r289 by kernel_rfl)
def cr289 := @crF tab 289 _ _ _ _ (show findRow tab 289 = some r289 by kernel_rfl)
def cw305 := @cwF tab 305 _ _ _ _ (show findRow tab 305 = some r305 by kernel_rfl)
def cr305 := @crF tab 305 _ _ _ _ (show findRow tab 305 = some r305 by kernel_rfl)
def cw314 := @cwF tab 314 _ _ _ _ (show findRow tab 314 = some r314 by kernel_rfl)
def cr314 := @crF tab 314 _ _ _ _ (show findRow tab 314 = some r314 by kernel_rfl)
def cw312 := @cwF tab 312 _ _ _ _ (show findRow tab 312 = some r312 by kernel_rfl)
def cr312 := @crF tab 312 _ _ _ _ (show findRow tab 312 = some r312 by kernel_rfl)
def cw282 := @cwF tab 282 _ _ _ _ (show findRow tab 282 = some r282 by kernel_rfl)
def cr282 := @crF tab 282 _ _ _ _ (show findRow tab 282 = some r282 by kernel_rfl)
def cw290 := @cwF tab 290 _ _ _ _ (show findRow tab 290 = some r290 by kernel_rfl)
def cr290 := @crF tab 290 _ _ _ _ (show findRow tab 290 = some r290 by kernel_rfl)
def cw297 := @cwF tab 297 _ _ _ _ (show findRow tab 297 = some r297 by kernel_rfl)
def cr297 := @crF tab 297 _ _ _ _ (show findRow tab 297 = some r297 by kernel_rfl)
def cw286 := @cwF tab 286 _ _ _ _ (show findRow tab 286 = some r286 by kernel_rfl)
def cr286 := @crF tab 286 _ _ _ _ (show findRow tab 286 = some r286 by kernel_rfl)
def cw304 := @cwF tab 304 _ _ _ _ (show findRow tab 304 = some r304 by kernel_rfl)
def cr304 := @crF tab 304 _ _ _ _ (show findRow tab 304 = some r304 by kernel_rfl)
def cw308 := @cwF tab 308 _ _ _ _ (show findRow tab 308 = some r308 by kernel_rfl)
def cr308 := @crF tab 308 _ _ _ _ (show findRow tab 308 = some r308 by kernel_rfl)
def cw309 := @cwF tab 309 _ _ _ _ (show findRow tab 309 = some r309 by kernel_rfl)
def cr309 := @crF tab 309 _ _ _ _ (show findRow tab 309 = some r309 by kernel_rfl)
def cw311 := @cwF tab 311 _ _ _ _ (show findRow tab 311 = some r311 by kernel_rfl)
def cr311 := @crF tab 311 _ _ _ _ (show findRow tab 311 = some r311 by kernel_rfl)
def cw307 := @cwF tab 307 _ _ _ _ (show findRow tab 307 = some r307 by kernel_rfl)
def cr307 := @crF tab 307 _ _ _ _ (show findRow tab 307 = some r307 by kernel_rfl)
def cw310 := @cwF tab 310 _ _ _ _ (show findRow tab 310 = some r310 by kernel_rfl)
def cr310 := @crF tab 310 _ _ _ _ (show findRow tab 310 = some r310 by kernel_rfl)
def cw287 := @cwF tab 287 _ _ _ _ (show findRow tab 287 = some r287 by kernel_rfl)
def cr287 := @crF tab 287 _ _ _ _ (show findRow tab 287 = some r287 by kernel_rfl)
def cw298 := @cwF tab 298 _ _ _ _ (show findRow tab 298 = some r298 by kernel_rfl)
def cr298 := @crF tab 298 _ _ _ _ (show findRow tab 298 = some r298 by kernel_rfl)
def cw303 := @cwF tab 303 _ _ _ _ (show findRow tab 303 = some r303 by kernel_rfl)
def cr303 := @crF tab 303 _ _ _ _ (show findRow tab 303 = some r303 by kernel_rfl)
def cw295 := @cwF tab 295 _ _ _ _ (show findRow tab 295 = some r295 by kernel_rfl)
def cr295 := @crF tab 295 _ _ _ _ (show findRow tab 295 = some r295 by kernel_rfl)
def cw299 := @cwF tab 299 _ _ _ _ (show findRow tab 299 = some r299 by kernel_rfl)
def cr299 := @crF tab 299 _ _ _ _ (show findRow tab 299 = some r299 by kernel_rfl)
def cw316 := @cwF tab 316 _ _ _ _ (show findRow tab 316 = some r316 by kernel_rfl)
def cr316 := @crF tab 316 _ _ _ _ (show findRow tab 316 = some r316 by kernel_rfl)
def cw281 := @cwF tab 281 _ _ _ _ (show findRow tab 281 = some r281 by kernel_rfl)
def cr281 := @crF tab 281 _ _ _ _ (show findRow tab 281 = some r281 by kernel_rfl)
def cw302 := @cwF tab 302 _ _ _ _ (show findRow tab 302 = some r302 by kernel_rfl)
def cr302 := @crF tab 302 _ _ _ _ (show findRow tab 302 = some r302 by kernel_rfl)
def cw284 := @cwF tab 284 _ _ _ _ (show findRow tab 284 = some r284 by kernel_rfl)
def cr284 := @crF tab 284 _ _ _ _ (show findRow tab 284 = some r284 by kernel_rfl)
def cw277 := @cwF tab 277 _ _ _ _ (show findRow tab 277 = some r277 by kernel_rfl)
def cr277 := @crF tab 277 _ _ _ _ (show findRow tab 277 = some r277 by kernel_rfl)
def cw274 := @cwF tab 274 _ _ _ _ (show findRow tab 274 = some r274 by kernel_rfl)
def cr274 := @crF tab 274 _ _ _ _ (show findRow tab 274 = some r274 by kernel_rfl)
def cw258 := @cwF tab 258 _ _ _ _ (show findRow tab 258 = some r258 by kernel_rfl)
def cr258 := @crF tab 258 _ _ _ _ (show findRow tab 258 = some r258 by kernel_rfl)
theorem sound205 (k : Nat) : SoundFn Tryz.prog (fidOf ns) 6 (evFun (clOf (modsR tab k) 3) s205) :=
  fun_sound (num_fid nsND) mix (tab_sound nsND mix tabOK k) 3 (show compF Tryz.prog (numOf ns) a205 6 = some s205 by kernel_rfl)
attribute [simp] z0 z1 z2 z3 z4 z5
end Go.Proofs.YtlpchliomdomdaaGreat.LgTab
