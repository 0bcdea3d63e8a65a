import Derived.Test.YtlpchliomdomdaaGreatPk7
namespace Go.Proofs.YtlpchliomdomdaaGreat.LgTab
open Go Lg
set_option maxRecDepth 100000
set_option linter.defProp false
section
open Lg.Vo
def a187 : Ann := ⟨[],[m],[],[]⟩
def s187 : SFun := ⟨4,79,[],[(.tmp 8,m)],
 (rg [mk 8 f]
 (rg [mv 17 0,cl 18 174 [(.t 17),(c 1),(c 5)],mv 19 1,cl 20 174 [(.t 19),(c 1),(c 9)],mv 9 18,mv 10 20]
 (rg [o 21 (.bsl true 1 0 [(u 0)] []),mv 22 2,mv 23 2,ln 24 23,o 25 (.mn [(.t 24),(c 80)]),o 26 (.slc 1 (.t 22) none (some (.t 25))),o 27 (.append 1 1 (.t 21) (.t 26)),mv 11 27]
 (rg [mv 28 3,mv 29 11,ln 30 29,cl 31 174 [(.t 28),(c 0),(.t 30)],mv 12 31]
 (rg [cl 32 338 [],cl 33 338 [],mv 13 32,mv 14 33]
 (.seq (rg [mv 34 13,o 35 (.eqn false (.t 34)),mv 36 35,g 37 (.mv (.t 14)) 36 false,g 38 (.eqn false (.t 37)) 36 false,o 39 (.pick (.t 36) (.k w) (.t 38))]
 (.cond (.t 39)
 (rg [mk 8 f]
 .ret)
 .skip))
 (rg [mv 40 9,mv 41 10,cl 42 372 [(.t 40),(.t 41)],mv 43 13,mv 44 11,cl 45 401 [(.t 42),(.t 43),(.t 44)],al 15 z1,st 29 15 45]
 (.seq (.dreg [([],false,mv 46 9),([0],false,mv 47 10),([],false,o 48 (.callr 372 [(.t 46),(.t 47)])),([0,1,2],false,mv 49 14),([0,1,2,3],false,mv 50 11),([0,1,2,3,4],false,mv 51 12),([0,1,2,3],false,o 52 (.slc 1 (.t 50) none (some (.t 51)))),([],false,cl 53 401 [(.t 48),(.t 49),(.t 52)]),([0,1,2,3,4,5,6,7],false,mv 54 14),([0,1,2,3,4,5,6,7,8],false,mv 55 11),([0,1,2,3,4,5,6,7,8,9],false,mv 56 12),([0,1,2,3,4,5,6,7,8],false,o 57 (.slc 1 (.t 55) (some (.t 56)) none)),([],false,cl 58 401 [(.t 53),(.t 54),(.t 57)]),([0,1,2,3,4,5,6,7,8,9,10,11,12],false,al 16 z1),([],true,st 29 16 58)])
 (.seq (.dreg [([],false,la 59 29 15),([0],false,la 60 29 16),([],true,cl 61 374 [(.t 59),(.t 60)]),([],true,mv 62 61),([],false,g 63 (.load true 29 (.t 15)) 62 true),([0],false,g 64 (.mv (.t 9)) 62 true),([0,1],false,g 65 (.mv (.t 10)) 62 true),([0],false,g 66 (.callr 372 [(.t 64),(.t 65)]) 62 true),([0,1,2,3],false,g 67 (.mv (.t 11)) 62 true),([0],false,g 68 (.callr 247 [(.t 67)]) 62 true),([0],false,g 69 (.call false 399 [(.t 66),(.t 68)]) 62 true),([],true,g 70 (.call false 177 [(.t 63),(.t 69)]) 62 true),([],true,o 71 (.pick (.t 62) (.t 70) (.k f))),([],true,mv 72 71),([],true,g 73 (.load true 29 (.t 15)) 72 true),([],true,g 74 (.call false 373 [(.t 73)]) 72 true),([],true,o 75 (.pick (.t 72) (.t 74) (.k f))),([],true,mv 76 75),([],true,g 77 (.call false 193 []) 76 true),([],true,o 78 (.pick (.t 76) (.t 77) (.k f))),([],true,mv 8 78)])
 .ret)))))))))⟩
def a134 : Ann := ⟨[],[m],[],[]⟩
def s134 : SFun := ⟨1,9,[],[(.tmp 2,m)],
 (rg [mk 2 f]
 (rg [mv 3 0,bk 4 .geq 3 (i 1),mv 5 4,g 6 (.mv (.t 0)) 5 true,g 7 (.bin .leq (.t 6) (c 3)) 5 true,o 8 (.pick (.t 5) (.t 7) (.k f)),mv 2 8]
 .ret))⟩
def a136 : Ann := ⟨[],[⟨true,4,false⟩],[],[]⟩
def s136 : SFun := ⟨1,29,[],[(.tmp 2,⟨true,4,false⟩)],
 (rg [mk 2 .sn]
 (rg [o 4 (.build [(i 0),(u 0),(u 0),(D.str [])] [(0,1,(c 1)),(3,1,(.k (D.str [32])))]),o 5 (.build [(i 0),(u 0),(u 0),(D.str [])] [(0,1,(c 2)),(3,1,(.k (D.str [7,8,9,10,13])))]),o 6 (.bsl true 4 2 [(i 0),(u 0),(u 0),(D.str [])] [(0,(.t 4)),(1,(.t 5))]),mv 3 6]
 (.seq (rg [mv 7 0,bk 8 .eql 7 (i 3)]
 (.cond (.t 8)
 (rg [mv 9 3,o 10 (.build [(i 0),(u 0),(u 0),(D.str [])] [(0,1,(c 3)),(3,1,(.k (D.str [65,66,67,68,72,73,74,75,89])))]),o 11 (.bsl false 4 1 [(i 0),(u 0),(u 0),(D.str [])] [(0,(.t 10))]),o 12 (.append 4 32 (.t 9) (.t 11)),mv 2 12]
 .ret)
 .skip))
 (rg [mv 13 3,o 14 (.build [(i 0),(u 0),(u 0),(D.str [])] [(0,1,(c 2)),(3,1,(.k (D.str [14,15])))]),o 15 (.build [(i 0),(u 0),(u 0),(D.str [])] [(0,1,(c 3)),(3,1,(.k (D.str [55,56,68,69,77,72,99,61,62])))]),o 16 (.build [(i 0),(u 0),(u 0),(D.str [])] [(0,1,(c 3)),(2,1,(.k (u 40))),(3,1,(.k (D.str [48,66])))]),o 17 (.build [(i 0),(u 0),(u 0),(D.str [])] [(0,1,(c 3)),(2,1,(.k (u 41))),(3,1,(.k (D.str [48,66])))]),o 18 (.build [(i 0),(u 0),(u 0),(D.str [])] [(0,1,(c 4)),(3,1,(.k (D.str [65,66,67,68,72,102,74,75,109,114,103])))]),o 19 (.build [(i 0),(u 0),(u 0),(D.str [])] [(0,1,(c 4)),(1,1,(.k (u 63))),(3,1,(.k (D.str [104,108])))]),o 20 (.bsl false 4 6 [(i 0),(u 0),(u 0),(D.str [])] [(0,(.t 14)),(1,(.t 15)),(2,(.t 16)),(3,(.t 17)),(4,(.t 18)),(5,(.t 19))]),o 21 (.append 4 32 (.t 13) (.t 20)),mv 3 21]
 (.seq (rg [mv 22 0,bk 23 .eql 22 (i 2)]
 (.cond (.t 23)
 (.reg [mv 24 3,o 25 (.build [(i 0),(u 0),(u 0),(D.str [])] [(0,1,(c 4)),(3,1,(.k (D.str [71,100,69,70,64,80,76,77,88])))]),o 26 (.bsl false 4 1 [(i 0),(u 0),(u 0),(D.str [])] [(0,(.t 25))]),o 27 (.append 4 32 (.t 24) (.t 26)),mv 3 27])
 .skip))
 (rg [mv 28 3,mv 2 28]
 .ret))))))⟩
def a135 : Ann := ⟨[(5,[(0,m),(13,m),(14,m),(15,m),(3,⟨true,0,false⟩)]),(8,[(0,m),(13,m),(14,m),(15,m),(21,m),(22,m),(3,⟨true,0,false⟩),(5,⟨true,0,false⟩)])],[⟨true,0,false⟩],[],[]⟩
def s135 : SFun := ⟨1,41,[],[(.tmp 2,⟨true,0,false⟩)],
 (rg [mk 2 .uk]
 (rg [o 7 (.mkm),mv 3 7]
 (.seq (rg [mv 8 0,cl 9 134 [(.t 8)],o 10 (.una .not (.t 9))]
 (.cond (.t 10)
 (rg [mv 11 3,mv 2 11]
 .ret)
 .skip))
 (.seq (rg [mv 12 0,cl 13 136 [(.t 12)],ln 14 13,mk 15 (i 0)]
 (.block 0 (.loop [(0,m),(13,m),(14,m),(15,m),(3,⟨true,0,false⟩)]
 (rg [bn 16 .lss 15 14]
 (.seq (.cond (.t 16)
 .skip
 (.exit 0))
 (.seq (.block 1 (rg [ix 17 4 13 15,la 18 4 17,al 5 [(i 0),(u 0),(u 0),(D.str [])],st 4 5 18]
 (rg [fa 19 3 5,ld 20 1 19,o 21 (.lens (.t 20)),mk 22 (i 0)]
 (.block 2 (.loop [(0,m),(13,m),(14,m),(15,m),(21,m),(22,m),(3,⟨true,0,false⟩),(5,⟨true,0,false⟩)]
 (rg [bn 23 .lss 22 21]
 (.seq (.cond (.t 23)
 .skip
 (.exit 2))
 (.seq (.block 3 (rg [mv 24 22,mv 6 24]
 (.dreg [([],false,mv 25 3),([0],false,mv 26 0),([0,1],false,fa 27 0 5),([0,1],false,ld 28 1 27),([0,1,2,3],false,fa 29 1 5),([0,1,2,3],false,ld 30 1 29),([0,1,2,3,4,5],false,fa 31 2 5),([0,1,2,3,4,5],false,ld 32 1 31),([0,1,2,3,4,5,6,7],false,fa 33 3 5),([0,1,2,3,4,5,6,7],false,ld 34 1 33),([0,1,2,3,4,5,6,7,8,9],false,mv 35 6),([0,1,2,3,4,5,6,7],false,o 36 (.ixt (.t 34) (.t 35))),([0],false,o 37 (.build z6 [(0,1,(.t 26)),(1,1,(.t 28)),(2,1,(.t 30)),(3,1,(.t 32)),(4,1,(.t 36))])),([],true,p (.mup true [1,1,1,1,1] (.t 25) (.t 37) (.k w)))])))
 (.reg [bk 38 .add 22 (i 1),mv 22 38])))))))))
 (.reg [bk 39 .add 15 (i 1),mv 15 39])))))))
 (rg [mv 40 3,mv 2 40]
 .ret)))))⟩
def a133 : Ann := ⟨[],[m],[],[]⟩
def s133 : SFun := ⟨2,30,[],[(.cell 4 true 5,m)],
 (rg [bx 3 7 1,al 4 z6]
 (rg [mv 6 0,fa 7 0 3,ld 8 1 7,fa 9 2 3,ld 10 1 9,fa 11 3 3,ld 12 1 11,fa 13 4 3,ld 14 1 13,o 15 (.build z6 [(0,1,(.t 6)),(1,1,(.t 8)),(2,1,(.t 10)),(3,1,(.t 12)),(4,1,(.t 14))]),al 5 z6,st 5 5 15]
 (.seq (rg [fa 16 0 3,ld 17 1 16,bk 18 .eql 17 (i 1)]
 (.cond (.t 18)
 (rg [fa 19 4 5,sk 1 19 (u 127)]
 (rg [fa 20 1 3,ld 21 1 20,bk 22 .geq 21 (r 32),mv 23 22,g 24 (.fad 1 (.t 3)) 23 true,g 25 (.load false 1 (.t 24)) 23 true,g 26 (.bin .leq (.t 25) (.k (r 126))) 23 true,o 27 (.pick (.t 23) (.t 26) (.k f))]
 (.cond (.t 27)
 (.reg [fa 28 4 5,sk 1 28 (u 32)])
 .skip)))
 .skip))
 (rg [la 29 5 5,st 5 4 29]
 .ret))))⟩
def a132 : Ann := ⟨[],[m],[],[]⟩
def s132 : SFun := ⟨2,11,[],[(.tmp 4,m)],
 (rg [bx 3 7 1,mk 4 f]
 (.seq (.dreg [([],false,mv 5 0),([],false,cl 6 135 [(.t 5)]),([0,1],false,mv 7 0),([0,1,2],false,la 8 7 3),([],true,cl 9 133 [(.t 7),(.t 8)]),([],true,o 10 (.lkp false true [1,1,1,1,1] f (.t 6) (.t 9))),([],true,mv 4 10)])
 .ret))⟩
def a426 : Ann := ⟨[],[m],[],[]⟩
def s426 : SFun := ⟨1,5,[],[(.cell 2 true 7,m)],
 (rg [al 2 [(i 0),(r 0),(u 0),(u 0),(u 0),.sn,(D.str [])]]
 (rg [mv 3 0,o 4 (.build [(i 0),(r 0),(u 0),(u 0),(u 0),.sn,(D.str [])] [(0,1,(c 4)),(4,1,(.t 3))]),st 7 2 4]
 .ret))⟩
def a429 : Ann := ⟨[],[m],[],[]⟩
def s429 : SFun := ⟨2,17,[],[(.cell 4 true 29,m)],
 (rg [bx 2 29 0,al 4 z1]
 (.seq (rg [mv 5 1]
 (.block 0 (rg [bk 7 .eql 5 (u 73),mv 6 7]
 (.cond (.t 6)
 (rg [la 8 29 2,cl 9 123 [(.t 8)],st 29 4 9]
 .ret)
 (rg [bk 11 .eql 5 (u 89),mv 10 11]
 (.cond (.t 10)
 (rg [la 12 29 2,st 29 4 12]
 .ret)
 .skip))))))
 (.seq (.dreg [([],false,la 13 29 2),([0],false,mv 14 1),([0],false,o 15 (.callr 426 [(.t 14)])),([],true,cl 16 400 [(.t 13),(.t 15)]),([],true,st 29 4 16)])
 .ret)))⟩
def a463 : Ann := ⟨[(2,[(0,m),(1,m),(4,m),(7,m),(8,m)])],[m],[],[]⟩
def s463 : SFun := ⟨2,19,[],[(.tmp 4,m)],
 (rg [mk 4 (i 0)]
 (.seq (rg [mv 6 0,ln 7 6,mk 8 (i 0)]
 (.block 0 (.loop [(0,m),(1,m),(4,m),(7,m),(8,m)]
 (rg [bn 9 .lss 8 7]
 (.seq (.cond (.t 9)
 .skip
 (.exit 0))
 (.seq (.block 1 (rg [mv 10 8,mv 5 10]
 (rg [mv 11 1,mv 12 0,mv 13 5,ix 14 1 12 13,ld 15 1 14,bn 16 .eql 11 15]
 (.cond (.t 16)
 (rg [mv 17 5,mv 4 17]
 .ret)
 .skip))))
 (.reg [bk 18 .add 8 (i 1),mv 8 18])))))))
 (rg [mk 4 (i (-1))]
 .ret)))⟩
def a455 : Ann := ⟨[],[m],[],[]⟩
def s455 : SFun := ⟨2,9,[],[(.tmp 4,m)],
 (rg [mk 4 f]
 (rg [mv 5 0,mv 6 1,cl 7 463 [(.t 5),(.t 6)],bk 8 .geq 7 (i 0),mv 4 8]
 .ret))⟩
def a430 : Ann := ⟨[],[m],[],[]⟩
def s430 : SFun := ⟨3,15,[],[(.tmp 6,m)],
 (rg [mk 6 f]
 (rg [mv 7 0,mv 8 1,bn 9 .geq 7 8,mv 10 9,g 11 (.mv (.t 0)) 10 true,g 12 (.mv (.t 2)) 10 true,g 13 (.bin .leq (.t 11) (.t 12)) 10 true,o 14 (.pick (.t 10) (.t 13) (.k f)),mv 6 14]
 .ret))⟩
def a427 : Ann := ⟨[],[m],[],[]⟩
def s427 : SFun := ⟨2,30,[],[(.tmp 4,m)],
 (rg [mk 4 f]
 (.seq (rg [mv 5 1,bk 6 .eql 5 (i (-1)),mv 7 6,g 8 (.bsl false 1 5 [(i 0)] [(0,(c 0)),(1,(c 1)),(2,(c 4)),(3,(c 5)),(4,(c 7))]) 7 false,g 9 (.mv (.t 1)) 7 false,g 10 (.call false 455 [(.t 8),(.t 9)]) 7 false,o 11 (.pick (.t 7) (.k w) (.t 10))]
 (.cond (.t 11)
 (rg [mk 4 w]
 .ret)
 .skip))
 (rg [mv 12 0,bk 13 .eql 12 (i 2),mv 14 13,g 15 (.mv (.t 1)) 14 true,g 16 (.call false 430 [(.t 15),(c 30),(c 37)]) 14 true,g 17 (.mv (.t 16)) 14 true,g 18 (.mv (.t 1)) 17 false,g 19 (.call false 430 [(.t 18),(c 40),(c 47)]) 17 false,g 20 (.pick (.t 17) (.k w) (.t 19)) 14 true,g 21 (.mv (.t 20)) 14 true,g 22 (.mv (.t 1)) 21 false,g 23 (.bin .eql (.t 22) (c 39)) 21 false,g 24 (.pick (.t 21) (.k w) (.t 23)) 14 true,g 25 (.mv (.t 24)) 14 true,g 26 (.mv (.t 1)) 25 false,g 27 (.bin .eql (.t 26) (c 49)) 25 false,g 28 (.pick (.t 25) (.k w) (.t 27)) 14 true,o 29 (.pick (.t 14) (.t 28) (.k f)),mv 4 29]
 .ret)))⟩
def a334 : Ann := ⟨[],[⟨true,1,false⟩],[],[]⟩
def s334 : SFun := ⟨0,2,[],[(.tmp 0,⟨true,1,false⟩)],
 (rg [mk 0 .sn]
 (rg [o 1 (.bsl true 1 4 [(i 0)] [(0,(c 1)),(1,(c 6)),(2,(c 7)),(3,(c 25))]),mv 0 1]
 .ret))⟩
def a335 : Ann := ⟨[],[m],[],[]⟩
def s335 : SFun := ⟨1,6,[],[(.tmp 2,m)],
 (rg [mk 2 f]
 (rg [cl 3 334 [],mv 4 0,cl 5 455 [(.t 3),(.t 4)],mv 2 5]
 .ret))⟩
def a428 : Ann := ⟨[],[m],[],[]⟩
def s428 : SFun := ⟨2,15,[],[(.tmp 4,m)],
 (rg [mk 4 f]
 (rg [mv 5 1,cl 6 335 [(.t 5)],mv 7 6,g 8 (.mv (.t 0)) 7 true,g 9 (.bin .neq (.t 8) (c 1)) 7 true,g 10 (.mv (.t 9)) 7 true,g 11 (.mv (.t 1)) 10 false,g 12 (.bin .neq (.t 11) (c 25)) 10 false,g 13 (.pick (.t 10) (.k w) (.t 12)) 7 true,o 14 (.pick (.t 7) (.t 13) (.k f)),mv 4 14]
 .ret))⟩
def a425 : Ann := ⟨[],[m],[],[]⟩
def s425 : SFun := ⟨3,31,[],[(.tmp 6,m)],
 (rg [bx 4 7 1,mk 6 f]
 (.seq (.block 0 (rg [fa 8 0 4,ld 9 1 8,bk 10 .eql 9 (i 4),mv 11 10,g 12 (.fad 4 (.t 4)) 11 true,g 13 (.load false 1 (.t 12)) 11 true,g 14 (.bin .eql (.t 13) (.k (u 109))) 11 true,o 15 (.pick (.t 11) (.t 14) (.k f)),mv 7 15]
 (.cond (.t 7)
 (rg [mv 16 0,mv 17 2,cl 18 427 [(.t 16),(.t 17)],mv 6 18]
 .ret)
 (rg [fa 20 0 4,ld 21 1 20,bk 22 .eql 21 (i 4),mv 23 22,g 24 (.fad 2 (.t 4)) 23 true,g 25 (.load false 1 (.t 24)) 23 true,g 26 (.bin .eql (.t 25) (.k (u 63))) 23 true,o 27 (.pick (.t 23) (.t 26) (.k f)),mv 19 27]
 (.cond (.t 19)
 (rg [mv 28 0,mv 29 2,cl 30 428 [(.t 28),(.t 29)],mv 6 30]
 .ret)
 .skip)))))
 (rg [mk 6 w]
 .ret)))⟩
def a423 : Ann := ⟨[(10,[(0,m),(39,m),(40,m),(41,m),(4,⟨true,0,false⟩),(5,⟨true,0,false⟩),(6,⟨true,0,false⟩),(7,⟨true,1,false⟩)])],[m],[],[]⟩
def s423 : SFun := ⟨3,63,[],[(.cell 6 true 29,m)],
 (rg [bx 4 29 1,bx 5 7 2,al 6 z1]
 (rg [la 10 29 4,cl 11 370 [(.t 10)],st 29 4 11]
 (.seq (.block 0 (rg [mv 13 0,la 14 7 5,cl 15 132 [(.t 13),(.t 14)],o 16 (.una .not (.t 15)),mv 12 16]
 (.cond (.t 12)
 (rg [la 17 29 4,st 29 6 17]
 .ret)
 (rg [mv 19 0,bk 20 .eql 19 (i 3),mv 21 20,g 22 (.fad 0 (.t 5)) 21 true,g 23 (.load false 1 (.t 22)) 21 true,g 24 (.bin .eql (.t 23) (c 3)) 21 true,o 25 (.pick (.t 21) (.t 24) (.k f)),mv 18 25]
 (.cond (.t 18)
 (rg [la 26 29 4,fa 27 4 5,ld 28 1 27,cl 29 429 [(.t 26),(.t 28)],st 29 6 29]
 .ret)
 (rg [fa 31 5 5,ld 32 1 31,ln 33 32,bk 34 .eql 33 (i 0),mv 30 34]
 (.cond (.t 30)
 (rg [la 35 29 4,la 36 7 5,cl 37 400 [(.t 35),(.t 36)],st 29 6 37]
 .ret)
 .skip)))))))
 (rg [mk 7 .sn]
 (.seq (rg [fa 38 5 5,ld 39 1 38,ln 40 39,mk 41 (i 0)]
 (.block 1 (.loop [(0,m),(39,m),(40,m),(41,m),(4,⟨true,0,false⟩),(5,⟨true,0,false⟩),(6,⟨true,0,false⟩),(7,⟨true,1,false⟩)]
 (rg [bn 42 .lss 41 40]
 (.seq (.cond (.t 42)
 .skip
 (.exit 1))
 (.seq (.block 2 (rg [ix 43 1 39 41,ld 44 1 43,mv 9 44]
 (rg [mv 45 0,la 46 7 5,mv 47 9,cl 48 425 [(.t 45),(.t 46),(.t 47)]]
 (.cond (.t 48)
 (.reg [mv 49 7,mv 50 9,o 51 (.bsl false 1 1 [(i 0)] [(0,(.t 50))]),o 52 (.append 1 8 (.t 49) (.t 51)),mv 7 52])
 .skip))))
 (.reg [bk 53 .add 41 (i 1),mv 41 53])))))))
 (.seq (rg [mv 54 7,ln 55 54,bk 56 .eql 55 (i 0)]
 (.cond (.t 56)
 (rg [la 57 29 4,st 29 6 57]
 .ret)
 .skip))
 (rg [mv 58 7,fa 59 5 5,st 1 59 58]
 (rg [la 60 29 4,la 61 7 5,cl 62 400 [(.t 60),(.t 61)],st 29 6 62]
 .ret))))))))⟩
def a424 : Ann := ⟨[],[⟨true,0,false⟩],[],[]⟩
def s424 : SFun := ⟨3,22,[],[(.tmp 6,⟨true,0,false⟩)],
 (rg [mk 6 .nl]
 (.seq (rg [mv 8 0,cl 9 134 [(.t 8)],o 10 (.una .not (.t 9))]
 (.cond (.t 10)
 (rg [mk 6 .nl]
 .ret)
 .skip))
 (rg [mv 11 1,mv 12 2,cl 13 372 [(.t 11),(.t 12)],al 7 z1,st 29 7 13]
 (rg [mv 14 0,bk 15 .neq 14 (i 3),fa 16 15 7,st 1 16 15]
 (.seq (.dreg [([],false,mv 17 0),([0],false,la 18 29 7),([0,1],false,cl 19 338 []),([],true,o 20 (.build z0 [(0,1,(.t 17)),(1,29,(.t 18)),(30,1,(.t 19))])),([],true,bx 21 34 20),([],true,mv 6 21)])
 .ret)))))⟩
def a35 : Ann := ⟨[(4,[(21,m),(22,m),(23,m),(0,⟨true,0,false⟩),(3,⟨true,0,false⟩)])],[],[0],[]⟩
def s35 : SFun := ⟨2,56,[0],[],
 (rg [bx 3 7 1]
 (.seq (.seq (.dreg [([],false,mv 6 0),([],false,o 7 (.nilc (.t 6))),([],false,fa 8 0 7),([],false,ld 9 1 8),([0,1,2,3],false,la 10 7 3),([],true,cl 11 132 [(.t 9),(.t 10)]),([],true,o 12 (.una .not (.t 11)))])
 (.cond (.t 12)
 (rg [mv 13 0,o 14 (.nilc (.t 13)),fa 15 33 14,ld 16 1 15,bk 17 .add 16 (i 1),o 18 (.nilc (.t 13)),fa 19 33 18,st 1 19 17]
 .ret)
 .skip))
 (.seq (rg [fa 20 5 3,ld 21 1 20,ln 22 21,mk 23 (i 0)]
 (.block 0 (.loop [(21,m),(22,m),(23,m),(0,⟨true,0,false⟩),(3,⟨true,0,false⟩)]
 (rg [bn 24 .lss 23 22]
 (.seq (.cond (.t 24)
 .skip
 (.exit 0))
 (.seq (.block 1 (rg [ix 25 1 21 23,ld 26 1 25,mv 5 26]
 (.seq (.dreg [([],false,mv 27 0),([],false,o 28 (.nilc (.t 27))),([],false,fa 29 0 28),([],false,ld 30 1 29),([0,1,2,3],false,la 31 7 3),([0,1,2,3,4],false,mv 32 5),([],true,cl 33 425 [(.t 30),(.t 31),(.t 32)]),([],true,o 34 (.una .not (.t 33)))])
 (.cond (.t 34)
 (.reg [mv 35 0,o 36 (.nilc (.t 35)),fa 37 33 36,ld 38 1 37,bk 39 .add 38 (i 1),o 40 (.nilc (.t 35)),fa 41 33 40,st 1 41 39])
 .skip))))
 (.reg [bk 42 .add 23 (i 1),mv 23 42])))))))
 (.dreg [([],false,mv 43 0),([0],false,mv 44 0),([0],false,o 45 (.nilc (.t 44))),([0],false,fa 46 0 45),([0],false,ld 47 1 46),([0,1,2,3,4],false,mv 48 0),([0,1,2,3,4],false,o 49 (.nilc (.t 48))),([0,1,2,3,4],false,fa 50 1 49),([0,1,2,3,4],false,la 51 29 50),([0,1,2,3,4,5,6,7,8],false,la 52 7 3),([0],false,o 53 (.call true 423 [(.t 47),(.t 51),(.t 52)])),([],true,o 54 (.nilc (.t 43))),([],true,fa 55 1 54),([],true,st 29 55 53)]))))⟩
def a36 : Ann := ⟨[],[],[0],[]⟩
def s36 : SFun := ⟨2,77,[0],[],
 (rg [mv 5 0,o 6 (.nilc (.t 5)),fa 7 31 6,ld 8 1 7,mv 4 8]
 (rg [mv 9 0,o 10 (.nilc (.t 9)),fa 11 31 10,sk 1 11 (i 0)]
 (.block 0 (rg [mv 18 4,bk 19 .eql 18 (i 2),mv 17 19]
 (.cond (.t 17)
 (.reg [mv 20 0,mv 21 0,mv 22 1,o 23 (.cvi .i64 (.t 22)),bk 24 .sub 23 (i 32),o 25 (.nilc (.t 20)),fa 26 32 25,st 1 26 24,o 27 (.nilc (.t 21)),fa 28 31 27,sk 1 28 (i 3)])
 (rg [mv 30 4,bk 31 .eql 30 (i 3),mv 29 31]
 (.cond (.t 29)
 (.dreg [([],false,mv 32 0),([0],false,mv 33 0),([0],false,o 34 (.nilc (.t 33))),([0],false,fa 35 1 34),([0],false,la 36 29 35),([0,1,2,3,4],false,mv 37 0),([0,1,2,3,4],false,o 38 (.nilc (.t 37))),([0,1,2,3,4],false,fa 39 32 38),([0,1,2,3,4],false,ld 40 1 39),([0,1,2,3,4,5,6,7,8],false,mv 41 1),([0,1,2,3,4,5,6,7,8],false,o 42 (.cvi .i64 (.t 41))),([0,1,2,3,4,5,6,7,8],false,bk 43 .sub 42 (i 32)),([0],false,o 44 (.call true 122 [(.t 36),(.t 40),(.t 43)])),([],true,o 45 (.nilc (.t 32))),([],true,fa 46 1 45),([],true,st 29 46 44)])
 (rg [mv 48 4,bk 49 .eql 48 (i 1),mv 50 49,g 51 (.mv (.t 1)) 50 true,g 52 (.bin .eql (.t 51) (.k (u 89))) 50 true,o 53 (.pick (.t 50) (.t 52) (.k f)),mv 47 53]
 (.cond (.t 47)
 (.reg [mv 54 0,o 55 (.nilc (.t 54)),fa 56 31 55,sk 1 56 (i 2)])
 (rg [mv 58 4,bk 59 .eql 58 (i 1),mv 57 59]
 (.cond (.t 57)
 (.reg [mv 60 0,mv 61 1,o 62 (.build [(i 0),(r 0),(u 0),(u 0),(u 0),.sn,(D.str [])] [(0,1,(c 3)),(4,1,(.t 61))]),cl 63 35 [(.t 60),(.t 62)]])
 (rg [mv 65 1,bk 66 .eql 65 (u 27),mv 64 66]
 (.cond (.t 64)
 (.reg [mv 67 0,o 68 (.nilc (.t 67)),fa 69 31 68,sk 1 69 (i 1)])
 (rg [mv 71 1,bk 72 .lss 71 (u 32),mv 70 72]
 (.cond (.t 70)
 (.reg [mv 73 0,mv 74 1,o 75 (.build [(i 0),(r 0),(u 0),(u 0),(u 0),.sn,(D.str [])] [(0,1,(c 2)),(4,1,(.t 74))]),cl 76 35 [(.t 73),(.t 75)]])
 (.reg [mv 12 0,mv 13 1,o 14 (.cvi .i32 (.t 13)),o 15 (.build [(i 0),(r 0),(u 0),(u 0),(u 0),.sn,(D.str [])] [(0,1,(c 1)),(1,1,(.t 14))]),cl 16 35 [(.t 12),(.t 15)]]))))))))))))))))⟩
def a30 : Ann := ⟨[(2,[(18,m),(19,m),(20,m),(0,⟨true,0,false⟩)]),(7,[(28,m),(29,m),(30,m),(0,⟨true,0,false⟩)])],[],[0],[]⟩
def s30 : SFun := ⟨2,38,[0],[],
 (.seq (rg [mv 8 0,o 9 (.nilc (.t 8)),fa 10 0 9,ld 11 1 10,bk 12 .neq 11 (i 3)]
 (.cond (.t 12)
 (.seq (rg [mv 13 0,o 14 (.nilc (.t 13)),fa 15 30 14,ld 16 1 15,mv 17 1,cl 18 11 [(.t 16),(.t 17)],ln 19 18,mk 20 (i 0)]
 (.block 0 (.loop [(18,m),(19,m),(20,m),(0,⟨true,0,false⟩)]
 (rg [bn 21 .lss 20 19]
 (.seq (.cond (.t 21)
 .skip
 (.exit 0))
 (.seq (.block 1 (rg [ix 22 7 18 20,la 23 7 22,al 5 [(i 0),(r 0),(u 0),(u 0),(u 0),.sn,(D.str [])],st 7 5 23]
 (.reg [mv 24 0,la 25 7 5,cl 26 35 [(.t 24),(.t 25)]])))
 (.reg [bk 27 .add 20 (i 1),mv 20 27])))))))
 .ret)
 .skip))
 (rg [mv 28 1,ln 29 28,mk 30 (i 0)]
 (.block 2 (.loop [(28,m),(29,m),(30,m),(0,⟨true,0,false⟩)]
 (rg [bn 31 .lss 30 29]
 (.seq (.cond (.t 31)
 .skip
 (.exit 2))
 (.seq (.block 3 (rg [ix 32 1 28 30,ld 33 1 32,mv 7 33]
 (.reg [mv 34 0,mv 35 7,cl 36 36 [(.t 34),(.t 35)]])))
 (.reg [bk 37 .add 30 (i 1),mv 30 37]))))))))⟩
def a31 : Ann := ⟨[],[m],[0],[]⟩
def s31 : SFun := ⟨1,8,[0],[(.cell 2 true 29,m)],
 (rg [al 2 z1]
 (rg [mv 3 0,o 4 (.nilc (.t 3)),fa 5 1 4,la 6 29 5,cl 7 370 [(.t 6)],st 29 2 7]
 .ret))⟩
def a34 : Ann := ⟨[],[m],[0],[]⟩
def s34 : SFun := ⟨1,15,[0],[(.cell 2 true 6,m)],
 (rg [al 2 z7]
 (rg [mv 4 0,cl 5 31 [(.t 4)],al 3 z1,st 29 3 5]
 (rg [fa 6 0 3,la 7 3 6,fa 8 3 3,ld 9 1 8,fa 10 4 3,ld 11 1 10,fa 12 17 3,ld 13 1 12,o 14 (.build z7 [(0,3,(.t 7)),(3,1,(.t 9)),(4,1,(.t 11)),(5,1,(.t 13))]),st 6 2 14]
 .ret)))⟩
def a33 : Ann := ⟨[],[m],[0],[]⟩
def s33 : SFun := ⟨1,7,[0],[(.tmp 2,m)],
 (rg [mk 2 (i 0)]
 (rg [mv 3 0,o 4 (.nilc (.t 3)),fa 5 33 4,ld 6 1 5,mv 2 6]
 .ret))⟩
def a209 : Ann := ⟨[],[m],[],[]⟩
def s209 : SFun := ⟨0,53,[],[(.tmp 0,m)],
 (rg [mk 0 f]
 (rg [cl 5 424 [(c 3),(c 5),(c 9)],cl 6 424 [(c 1),(c 5),(c 9)],mv 1 5,mv 2 6]
 (.seq (rg [mv 7 1,o 8 (.eqn false (.t 7)),mv 9 8,g 10 (.mv (.t 2)) 9 false,g 11 (.eqn false (.t 10)) 9 false,o 12 (.pick (.t 9) (.k w) (.t 11)),mv 13 12,g 14 (.call false 424 [(c 9),(c 5),(c 9)]) 13 false,g 15 (.eqn true (.t 14)) 13 false,o 16 (.pick (.t 13) (.k w) (.t 15))]
 (.cond (.t 16)
 (rg [mk 0 f]
 .ret)
 .skip))
 (rg [mv 17 1,o 18 (.bsl false 1 5 [(u 0)] [(0,(.k (u 27))),(1,(.k (u 89))),(2,(.k (u 34))),(3,(.k (u 35))),(4,(.k (u 120)))]),cl 19 30 [(.t 17),(.t 18)]]
 (rg [mv 20 2,o 21 (.bsl true 1 3 [(u 0)] [(0,(.k (u 27))),(1,(.k (u 91))),(2,(.k (u 80)))]),o 22 (.cvb (.t 21)),cl 23 30 [(.t 20),(.t 22)]]
 (rg [mv 25 1,cl 26 34 [(.t 25)],ga 27 0 3 26,cl 28 149 [(.t 27),(c 2),(c 3)],mv 24 28,ex 29 24 0,ex 30 24 1,al 3 z5,st 5 3 29,mv 4 30]
 (rg [mv 31 4,mv 32 31,g 33 (.fad 0 (.t 3)) 32 true,g 34 (.load false 1 (.t 33)) 32 true,g 35 (.bin .eql (.t 34) (.k (r 120))) 32 true,o 36 (.pick (.t 32) (.t 35) (.k f)),mv 37 36,g 38 (.mv (.t 1)) 37 true,g 39 (.call false 33 [(.t 38)]) 37 true,g 40 (.bin .eql (.t 39) (c 0)) 37 true,o 41 (.pick (.t 37) (.t 40) (.k f)),mv 42 41,g 43 (.mv (.t 2)) 42 true,g 44 (.call false 33 [(.t 43)]) 42 true,g 45 (.bin .eql (.t 44) (c 1)) 42 true,o 46 (.pick (.t 42) (.t 45) (.k f)),mv 47 46,g 48 (.mv (.t 1)) 47 true,g 49 (.call false 34 [(.t 48)]) 47 true,g 50 (.fld false 4 1 (.t 49)) 47 true,g 51 (.bin .eql (.t 50) (c 4)) 47 true,o 52 (.pick (.t 47) (.t 51) (.k f)),mv 0 52]
 .ret)))))))⟩
def a275 : Ann := ⟨[(2,[(0,m),(1,m),(4,m),(5,m)])],[m],[],[]⟩
def s275 : SFun := ⟨2,17,[],[(.tmp 4,m)],
 (rg [mk 4 f]
 (.seq (rg [mk 5 (i 0)]
 (.block 0 (.loop [(0,m),(1,m),(4,m),(5,m)]
 (.seq (rg [mv 6 5,mv 7 0,o 8 (.lens (.t 7)),bn 9 .lss 6 8]
 (.cond (.t 9)
 .skip
 (.exit 0)))
 (.seq (.block 1 (rg [mv 12 0,mv 13 5,o 14 (.ixt (.t 12) (.t 13)),mv 15 1,bn 16 .eql 14 15]
 (.cond (.t 16)
 (rg [mk 4 w]
 .ret)
 .skip)))
 (.reg [mv 10 5,bk 11 .add 10 (i 1),mv 5 11]))))))
 (rg [mk 4 f]
 .ret)))⟩
def a260 : Ann := ⟨[],[m],[],[]⟩
def s260 : SFun := ⟨2,137,[],[(.tmp 4,m)],
 (rg [bx 3 7 1,mk 4 f]
 (.seq (.block 0 (rg [mv 6 0,bk 7 .lss 6 (i 1),mv 8 7,g 9 (.mv (.t 0)) 8 false,g 10 (.bin .gtr (.t 9) (c 3)) 8 false,o 11 (.pick (.t 8) (.k w) (.t 10)),mv 5 11]
 (.cond (.t 5)
 (rg [mk 4 f]
 .ret)
 (rg [fa 13 0 3,ld 14 1 13,bk 15 .eql 14 (i 1),mv 12 15]
 (.cond (.t 12)
 (rg [fa 16 1 3,ld 17 1 16,bk 18 .geq 17 (r 32),mv 19 18,g 20 (.fad 1 (.t 3)) 19 true,g 21 (.load false 1 (.t 20)) 19 true,g 22 (.bin .lss (.t 21) (.k (r 127))) 19 true,o 23 (.pick (.t 19) (.t 22) (.k f)),mv 4 23]
 .ret)
 (rg [fa 25 0 3,ld 26 1 25,bk 27 .eql 26 (i 2),mv 24 27]
 (.cond (.t 24)
 (rg [fa 28 4 3,ld 29 1 28,bk 30 .geq 29 (u 7),mv 31 30,g 32 (.fad 4 (.t 3)) 31 true,g 33 (.load false 1 (.t 32)) 31 true,g 34 (.bin .leq (.t 33) (.k (u 10))) 31 true,o 35 (.pick (.t 31) (.t 34) (.k f)),mv 36 35,g 37 (.fad 4 (.t 3)) 36 false,g 38 (.load false 1 (.t 37)) 36 false,g 39 (.bin .eql (.t 38) (.k (u 13))) 36 false,o 40 (.pick (.t 36) (.k w) (.t 39)),mv 41 40,g 42 (.mv (.t 0)) 41 false,g 43 (.bin .neq (.t 42) (c 3)) 41 false,g 44 (.mv (.t 43)) 41 false,g 45 (.fad 4 (.t 3)) 44 true,g 46 (.load false 1 (.t 45)) 44 true,g 47 (.bin .eql (.t 46) (.k (u 14))) 44 true,g 48 (.mv (.t 47)) 44 true,g 49 (.fad 4 (.t 3)) 48 false,g 50 (.load false 1 (.t 49)) 48 false,g 51 (.bin .eql (.t 50) (.k (u 15))) 48 false,g 52 (.pick (.t 48) (.k w) (.t 51)) 44 true,g 53 (.pick (.t 44) (.t 52) (.k f)) 41 false,o 54 (.pick (.t 41) (.k w) (.t 53)),mv 4 54]
 .ret)
 (rg [mv 56 0,bk 57 .eql 56 (i 3),mv 55 57]
 (.cond (.t 55)
 (rg [fa 58 0 3,ld 59 1 58,bk 60 .eql 59 (i 3),mv 61 60,g 62 (.fad 3 (.t 3)) 61 true,g 63 (.load false 1 (.t 62)) 61 true,g 64 (.bin .eql (.t 63) (.k (u 0))) 61 true,o 65 (.pick (.t 61) (.t 64) (.k f)),mv 66 65,g 67 (.fad 4 (.t 3)) 66 true,g 68 (.load false 1 (.t 67)) 66 true,g 69 (.call false 275 [(.k (D.str [65,66,67,68,72,73,74,75,89])),(.t 68)]) 66 true,o 70 (.pick (.t 66) (.t 69) (.k f)),mv 4 70]
 .ret)
 (rg [fa 72 0 3,ld 73 1 72,bk 74 .eql 73 (i 3),mv 75 74,g 76 (.fad 3 (.t 3)) 75 true,g 77 (.load false 1 (.t 76)) 75 true,g 78 (.bin .eql (.t 77) (.k (u 0))) 75 true,o 79 (.pick (.t 75) (.t 78) (.k f)),mv 71 79]
 (.cond (.t 71)
 (rg [fa 80 4 3,ld 81 1 80,cl 82 275 [(.k (D.str [55,56,68,69,77,72,99,61,62])),(.t 81)],mv 4 82]
 .ret)
 (rg [fa 84 0 3,ld 85 1 84,bk 86 .eql 85 (i 3),mv 83 86]
 (.cond (.t 83)
 (rg [fa 87 3 3,ld 88 1 87,bk 89 .eql 88 (u 40),mv 90 89,g 91 (.fad 3 (.t 3)) 90 false,g 92 (.load false 1 (.t 91)) 90 false,g 93 (.bin .eql (.t 92) (.k (u 41))) 90 false,o 94 (.pick (.t 90) (.k w) (.t 93)),mv 95 94,g 96 (.fad 4 (.t 3)) 95 true,g 97 (.load false 1 (.t 96)) 95 true,g 98 (.bin .eql (.t 97) (.k (u 48))) 95 true,g 99 (.mv (.t 98)) 95 true,g 100 (.fad 4 (.t 3)) 99 false,g 101 (.load false 1 (.t 100)) 99 false,g 102 (.bin .eql (.t 101) (.k (u 66))) 99 false,g 103 (.pick (.t 99) (.k w) (.t 102)) 95 true,o 104 (.pick (.t 95) (.t 103) (.k f)),mv 4 104]
 .ret)
 (rg [fa 106 0 3,ld 107 1 106,bk 108 .neq 107 (i 4),mv 109 108,g 110 (.fad 3 (.t 3)) 109 false,g 111 (.load false 1 (.t 110)) 109 false,g 112 (.bin .neq (.t 111) (.k (u 0))) 109 false,o 113 (.pick (.t 109) (.k w) (.t 112)),mv 105 113]
 (.cond (.t 105)
 (rg [mk 4 f]
 .ret)
 (rg [fa 115 2 3,ld 116 1 115,bk 117 .eql 116 (u 63),mv 114 117]
 (.cond (.t 114)
 (rg [fa 118 4 3,ld 119 1 118,cl 120 275 [(.k (D.str [104,108])),(.t 119)],mv 4 120]
 .ret)
 (rg [fa 122 2 3,ld 123 1 122,bk 124 .neq 123 (u 0),mv 121 124]
 (.cond (.t 121)
 (rg [mk 4 f]
 .ret)
 .skip)))))))))))))))))))
 (rg [fa 125 4 3,ld 126 1 125,cl 127 275 [(.k (D.str [65,66,67,68,72,102,74,75,109,114,103])),(.t 126)],mv 128 127,g 129 (.mv (.t 0)) 128 false,g 130 (.bin .eql (.t 129) (c 2)) 128 false,g 131 (.mv (.t 130)) 128 false,g 132 (.fad 4 (.t 3)) 131 true,g 133 (.load false 1 (.t 132)) 131 true,g 134 (.call false 275 [(.k (D.str [71,100,69,70,64,80,76,77,88])),(.t 133)]) 131 true,g 135 (.pick (.t 131) (.t 134) (.k f)) 128 false,o 136 (.pick (.t 128) (.k w) (.t 135)),mv 4 136]
 .ret)))⟩
def a277 : Ann := ⟨[],[m],[],[]⟩
def s277 : SFun := ⟨2,25,[],[(.cell 4 true 29,m)],
 (rg [bx 2 29 0,al 4 z1]
 (rg [mv 6 1,o 7 (.build [(i 0),(r 0),(u 0),(u 0),(u 0),.sn,(D.str [])] [(0,1,(c 4)),(4,1,(.t 6))]),al 5 [(i 0),(r 0),(u 0),(u 0),(u 0),.sn,(D.str [])],st 7 5 7]
 (.seq (rg [mv 8 1]
 (.block 0 (.seq (rg [bk 10 .eql 8 (u 65),mv 9 10]
 (.cond (.t 9)
 .skip
 (rg [bk 11 .eql 8 (u 66),mv 9 11]
 (.cond (.t 9)
 .skip
 (rg [bk 12 .eql 8 (u 67),mv 9 12]
 (.cond (.t 9)
 .skip
 (rg [bk 13 .eql 8 (u 68),mv 9 13]
 (.cond (.t 9)
 .skip
 (rg [bk 14 .eql 8 (u 72),mv 9 14]
 (.cond (.t 9)
 .skip
 (rg [bk 15 .eql 8 (u 74),mv 9 15]
 (.cond (.t 9)
 .skip
 (.reg [bk 16 .eql 8 (u 75),mv 9 16])))))))))))))
 (.cond (.t 9)
 (rg [la 17 29 2,la 18 7 5,cl 19 284 [(.t 17),(.t 18)],st 29 4 19]
 .ret)
 (rg [bk 21 .eql 8 (u 73),mv 20 21]
 (.cond (.t 20)
 (rg [la 22 29 2,cl 23 282 [(.t 22)],st 29 4 23]
 .ret)
 .skip))))))
 (rg [la 24 29 2,st 29 4 24]
 .ret))))⟩
def a274 : Ann := ⟨[(3,[(0,m),(9,m),(10,m),(11,m),(5,⟨true,1,false⟩)])],[⟨true,1,false⟩],[],[]⟩
def s274 : SFun := ⟨2,70,[],[(.tmp 4,⟨true,1,false⟩)],
 (rg [mk 4 .sn]
 (rg [mk 5 .sn]
 (.seq (rg [mv 9 1,ln 10 9,mk 11 (i 0)]
 (.block 0 (.loop [(0,m),(9,m),(10,m),(11,m),(5,⟨true,1,false⟩)]
 (rg [bn 12 .lss 11 10]
 (.seq (.cond (.t 12)
 .skip
 (.exit 0))
 (.seq (.block 1 (rg [ix 13 1 9 11,ld 14 1 13,mv 7 14]
 (rg [mv 15 7,o 16 (.mx [(.t 15),(c 0)]),mv 7 16]
 (rg [mv 17 7,bk 18 .geq 17 (i 30),mv 19 18,g 20 (.mv (.t 7)) 19 true,g 21 (.bin .leq (.t 20) (c 37)) 19 true,o 22 (.pick (.t 19) (.t 21) (.k f)),mv 23 22,g 24 (.mv (.t 7)) 23 false,g 25 (.bin .geq (.t 24) (c 40)) 23 false,g 26 (.mv (.t 25)) 23 false,g 27 (.mv (.t 7)) 26 true,g 28 (.bin .leq (.t 27) (c 47)) 26 true,g 29 (.pick (.t 26) (.t 28) (.k f)) 23 false,o 30 (.pick (.t 23) (.k w) (.t 29)),mv 31 30,g 32 (.mv (.t 7)) 31 false,g 33 (.bin .eql (.t 32) (c 39)) 31 false,o 34 (.pick (.t 31) (.k w) (.t 33)),mv 35 34,g 36 (.mv (.t 7)) 35 false,g 37 (.bin .eql (.t 36) (c 49)) 35 false,o 38 (.pick (.t 35) (.k w) (.t 37)),mv 8 38]
 (rg [mv 39 7,bk 40 .eql 39 (i 0),mv 41 40,g 42 (.mv (.t 7)) 41 false,g 43 (.bin .eql (.t 42) (c 1)) 41 false,o 44 (.pick (.t 41) (.k w) (.t 43)),mv 45 44,g 46 (.mv (.t 7)) 45 false,g 47 (.bin .eql (.t 46) (c 4)) 45 false,o 48 (.pick (.t 45) (.k w) (.t 47)),mv 49 48,g 50 (.mv (.t 7)) 49 false,g 51 (.bin .eql (.t 50) (c 5)) 49 false,o 52 (.pick (.t 49) (.k w) (.t 51)),mv 53 52,g 54 (.mv (.t 7)) 53 false,g 55 (.bin .eql (.t 54) (c 7)) 53 false,o 56 (.pick (.t 53) (.k w) (.t 55)),mv 57 56,g 58 (.mv (.t 0)) 57 false,g 59 (.bin .eql (.t 58) (c 2)) 57 false,g 60 (.mv (.t 59)) 57 false,g 61 (.mv (.t 8)) 60 true,g 62 (.pick (.t 60) (.t 61) (.k f)) 57 false,o 63 (.pick (.t 57) (.k w) (.t 62))]
 (.cond (.t 63)
 (.reg [mv 64 5,mv 65 7,o 66 (.bsl false 1 1 [(i 0)] [(0,(.t 65))]),o 67 (.append 1 8 (.t 64) (.t 66)),mv 5 67])
 .skip))))))
 (.reg [bk 68 .add 11 (i 1),mv 11 68])))))))
 (rg [mv 69 5,mv 4 69]
 .ret))))⟩
def a258 : Ann := ⟨[(13,[(64,m),(65,m),(66,m),(4,⟨true,0,false⟩),(5,⟨true,0,false⟩),(6,⟨true,0,false⟩),(8,⟨true,1,false⟩)])],[m],[],[]⟩
def s258 : SFun := ⟨3,82,[],[(.cell 6 true 29,m)],
 (rg [bx 4 29 1,bx 5 7 2,al 6 z1]
 (.seq (rg [mv 11 0,la 12 7 5,cl 13 260 [(.t 11),(.t 12)],o 14 (.una .not (.t 13))]
 (.cond (.t 14)
 (rg [la 15 29 4,st 29 6 15]
 .ret)
 .skip))
 (.seq (rg [mv 16 0,bk 17 .eql 16 (i 3),mv 18 17,g 19 (.fad 0 (.t 5)) 18 true,g 20 (.load false 1 (.t 19)) 18 true,g 21 (.bin .eql (.t 20) (c 3)) 18 true,o 22 (.pick (.t 18) (.t 21) (.k f))]
 (.cond (.t 22)
 (rg [la 23 29 4,fa 24 4 5,ld 25 1 24,cl 26 277 [(.t 23),(.t 25)],st 29 6 26]
 .ret)
 .skip))
 (.seq (rg [fa 27 0 5,ld 28 1 27,bk 29 .eql 28 (i 4),mv 30 29,g 31 (.fad 4 (.t 5)) 30 true,g 32 (.load false 1 (.t 31)) 30 true,g 33 (.bin .eql (.t 32) (.k (u 109))) 30 true,o 34 (.pick (.t 30) (.t 33) (.k f))]
 (.cond (.t 34)
 (rg [mv 35 0,fa 36 5 5,ld 37 1 36,cl 38 274 [(.t 35),(.t 37)],mv 7 38]
 (.seq (rg [fa 39 5 5,ld 40 1 39,ln 41 40,bk 42 .gtr 41 (i 0),mv 43 42,g 44 (.mv (.t 7)) 43 true,g 45 (.len (.t 44)) 43 true,g 46 (.bin .eql (.t 45) (c 0)) 43 true,o 47 (.pick (.t 43) (.t 46) (.k f))]
 (.cond (.t 47)
 (rg [la 48 29 4,st 29 6 48]
 .ret)
 .skip))
 (.reg [mv 49 7,fa 50 5 5,st 1 50 49])))
 .skip))
 (.seq (rg [fa 51 0 5,ld 52 1 51,bk 53 .eql 52 (i 4),mv 54 53,g 55 (.fad 2 (.t 5)) 54 true,g 56 (.load false 1 (.t 55)) 54 true,g 57 (.bin .eql (.t 56) (.k (u 63))) 54 true,o 58 (.pick (.t 54) (.t 57) (.k f)),mv 59 58,g 60 (.mv (.t 0)) 59 true,g 61 (.bin .neq (.t 60) (c 2)) 59 true,o 62 (.pick (.t 59) (.t 61) (.k f))]
 (.cond (.t 62)
 (rg [mk 8 .sn]
 (.seq (rg [fa 63 5 5,ld 64 1 63,ln 65 64,mk 66 (i 0)]
 (.block 0 (.loop [(64,m),(65,m),(66,m),(4,⟨true,0,false⟩),(5,⟨true,0,false⟩),(6,⟨true,0,false⟩),(8,⟨true,1,false⟩)]
 (rg [bn 67 .lss 66 65]
 (.seq (.cond (.t 67)
 .skip
 (.exit 0))
 (.seq (.block 1 (rg [ix 68 1 64 66,ld 69 1 68,mv 10 69]
 (rg [mv 70 10,bk 71 .neq 70 (i 25)]
 (.cond (.t 71)
 (.reg [mv 72 8,mv 73 10,o 74 (.bsl false 1 1 [(i 0)] [(0,(.t 73))]),o 75 (.append 1 8 (.t 72) (.t 74)),mv 8 75])
 .skip))))
 (.reg [bk 76 .add 66 (i 1),mv 66 76])))))))
 (.reg [mv 77 8,fa 78 5 5,st 1 78 77])))
 .skip))
 (rg [la 79 29 4,la 80 7 5,cl 81 284 [(.t 79),(.t 80)],st 29 6 81]
 .ret))))))⟩
def a205 : Ann := ⟨[],[m],[],[]⟩
def s205 : SFun := ⟨3,33,[],[(.tmp 6,m)],
 (rg [bx 4 13 1,bx 5 5 2,mk 6 f]
 (rg [mv 10 0,cl 11 174 [(.t 10),(c 1),(c 3)],mv 7 11]
 (rg [la 12 13 4,cl 13 66 [(.t 12)],al 8 z1,st 29 8 13]
 (.seq (.dreg [([],false,mv 14 7),([0],false,la 15 29 8),([0,1],false,la 16 5 5),([0,1],false,o 17 (.callr 63 [(.t 16)])),([],false,o 18 (.call true 423 [(.t 14),(.t 15),(.t 17)])),([0,1,2,3,4],false,al 9 z1),([],true,st 29 9 18)])
 (.seq (.dreg [([],false,la 19 29 9),([0],false,mv 20 7),([0,1],false,la 21 29 8),([0,1,2],false,la 22 5 5),([0,1,2],false,o 23 (.callr 63 [(.t 22)])),([0],false,o 24 (.callr 258 [(.t 20),(.t 21),(.t 23)])),([],true,cl 25 177 [(.t 19),(.t 24)]),([],true,mv 26 25),([],true,g 27 (.load true 29 (.t 9)) 26 true),([],true,g 28 (.call false 373 [(.t 27)]) 26 true),([],true,o 29 (.pick (.t 26) (.t 28) (.k f))),([],true,mv 30 29),([],true,g 31 (.call false 209 []) 30 true),([],true,o 32 (.pick (.t 30) (.t 31) (.k f))),([],true,mv 6 32)])
 .ret)))))⟩
def a449 : Ann := ⟨[],[⟨true,1,false⟩],[],[]⟩
def n449 : NFun := ⟨1,8,[],[(.tmp 2,⟨true,1,false⟩)],
 (.reg [mk 2 .sn]),mv 3 0,4,(.t 3),(.cond (.t 4)
 (rg [mk 2 .sn]
 .ret)
 .skip),(rg [o 5 (.bsl true 1 0 [(u 0)] []),mv 6 0,o 7 (.append 1 1 (.t 5) (.t 6)),mv 2 7]
 .ret)⟩
def a10 : Ann := ⟨[],[⟨true,0,false⟩],[0],[]⟩
def s10 : SFun := ⟨1,25,[0],[(.tmp 2,⟨true,0,false⟩)],
 (rg [mk 2 .nl]
 (rg [mv 4 0,o 5 (.nilc (.t 4)),la 6 12 5,al 3 z4,st 12 3 6]
 (.seq (.dreg [([],false,mv 7 0),([],false,o 8 (.nilc (.t 7))),([],false,fa 9 4 8),([],false,ld 10 1 9),([],false,o 11 (.call true 449 [(.t 10)])),([0,1,2,3,4],false,mv 12 0),([0,1,2,3,4],false,o 13 (.nilc (.t 12))),([0,1,2,3,4],false,fa 14 7 13),([0,1,2,3,4],false,ld 15 1 14),([],false,o 16 (.call true 450 [(.t 15)])),([0,1,2,3,4,5,6,7,8,9],false,mv 17 0),([0,1,2,3,4,5,6,7,8,9],false,o 18 (.nilc (.t 17))),([0,1,2,3,4,5,6,7,8,9],false,fa 19 10 18),([0,1,2,3,4,5,6,7,8,9],false,ld 20 1 19),([],true,cl 21 449 [(.t 20)]),([],true,fa 22 4 3),([],true,st 1 22 11),([],true,fa 23 7 3),([],true,st 1 23 16),([],true,fa 24 10 3),([],true,st 1 24 21)])
 (rg [mv 2 3]
 .ret))))⟩
def a29 : Ann := ⟨[],[⟨true,0,false⟩],[0],[]⟩
def s29 : SFun := ⟨1,19,[0],[(.tmp 2,⟨true,0,false⟩)],
 (rg [mk 2 .nl]
 (rg [mv 4 0,o 5 (.nilc (.t 4)),la 6 34 5,al 3 z0,st 34 3 6]
 (.seq (.dreg [([],false,mv 7 0),([],false,o 8 (.nilc (.t 7))),([],false,fa 9 1 8),([],false,la 10 29 9),([],false,o 11 (.call true 370 [(.t 10)])),([0,1,2,3,4],false,mv 12 0),([0,1,2,3,4],false,o 13 (.nilc (.t 12))),([0,1,2,3,4],false,fa 14 30 13),([0,1,2,3,4],false,ld 15 1 14),([],true,cl 16 10 [(.t 15)]),([],true,fa 17 1 3),([],true,st 29 17 11),([],true,fa 18 30 3),([],true,st 1 18 16)])
 (rg [mv 2 3]
 .ret))))⟩
def a263 : Ann := ⟨[],[m],[],[]⟩
def s263 : SFun := ⟨3,15,[],[(.cell 6 true 29,m)],
 (rg [al 6 z1]
 (rg [mv 8 1,mv 9 2,cl 10 286 [(.t 8),(.t 9)],al 7 z1,st 29 7 10]
 (rg [mv 11 0,bk 12 .neq 11 (i 3),fa 13 15 7,st 1 13 12]
 (rg [la 14 29 7,st 29 6 14]
 .ret))))⟩
def a280 : Ann := ⟨[(8,[(0,m),(5,m),(38,m),(39,m),(40,m)])],[m],[],[]⟩
def s280 : SFun := ⟨2,66,[],[(.tmp 4,m)],
 (rg [bx 3 7 1,mk 4 (i 0)]
 (.seq (rg [mv 8 0,la 9 7 3,cl 10 260 [(.t 8),(.t 9)],o 11 (.una .not (.t 10))]
 (.cond (.t 11)
 (rg [mk 4 (i 1)]
 .ret)
 .skip))
 (rg [mk 5 (i 0)]
 (.seq (rg [fa 12 0 3,ld 13 1 12,bk 14 .eql 13 (i 4),mv 15 14,g 16 (.fad 4 (.t 3)) 15 true,g 17 (.load false 1 (.t 16)) 15 true,g 18 (.bin .eql (.t 17) (.k (u 109))) 15 true,o 19 (.pick (.t 15) (.t 18) (.k f))]
 (.cond (.t 19)
 (.dreg [([],false,fa 20 5 3),([],false,ld 21 1 20),([],false,ln 22 21),([0,1,2],false,mv 23 0),([0,1,2,3],false,fa 24 5 3),([0,1,2,3],false,ld 25 1 24),([0,1,2],false,o 26 (.callr 274 [(.t 23),(.t 25)])),([0,1,2],false,ln 27 26),([],true,bn 28 .sub 22 27),([],true,mv 5 28)])
 .skip))
 (.seq (rg [fa 29 0 3,ld 30 1 29,bk 31 .eql 30 (i 4),mv 32 31,g 33 (.fad 2 (.t 3)) 32 true,g 34 (.load false 1 (.t 33)) 32 true,g 35 (.bin .eql (.t 34) (.k (u 63))) 32 true,o 36 (.pick (.t 32) (.t 35) (.k f))]
 (.cond (.t 36)
 (rg [fa 37 5 3,ld 38 1 37,ln 39 38,mk 40 (i 0)]
 (.block 0 (.loop [(0,m),(5,m),(38,m),(39,m),(40,m)]
 (rg [bn 41 .lss 40 39]
 (.seq (.cond (.t 41)
 .skip
 (.exit 0))
 (.seq (.block 1 (rg [ix 42 1 38 40,ld 43 1 42,mv 7 43]
 (rg [mv 44 7,bk 45 .neq 44 (i 1),mv 46 45,g 47 (.mv (.t 7)) 46 true,g 48 (.bin .neq (.t 47) (c 6)) 46 true,o 49 (.pick (.t 46) (.t 48) (.k f)),mv 50 49,g 51 (.mv (.t 7)) 50 true,g 52 (.bin .neq (.t 51) (c 7)) 50 true,o 53 (.pick (.t 50) (.t 52) (.k f)),mv 54 53,g 55 (.mv (.t 7)) 54 true,g 56 (.bin .neq (.t 55) (c 25)) 54 true,g 57 (.mv (.t 56)) 54 true,g 58 (.mv (.t 0)) 57 false,g 59 (.bin .neq (.t 58) (c 2)) 57 false,g 60 (.pick (.t 57) (.k w) (.t 59)) 54 true,o 61 (.pick (.t 54) (.t 60) (.k f))]
 (.cond (.t 61)
 (.reg [mv 62 5,bk 63 .add 62 (i 1),mv 5 63])
 .skip))))
 (.reg [bk 64 .add 40 (i 1),mv 40 64])))))))
 .skip))
 (rg [mv 65 5,mv 4 65]
 .ret))))))⟩
def a259 : Ann := ⟨[(4,[(0,m),(8,m),(17,m),(18,m),(19,m),(4,⟨true,0,false⟩),(6,⟨true,0,false⟩)]),(10,[(0,m),(2,m),(7,m),(8,m),(11,m),(4,⟨true,0,false⟩),(6,⟨true,0,false⟩)])],[m,m],[],[]⟩
def s259 : SFun := ⟨3,135,[],[(.cell 6 true 29,m),(.tmp 7,m)],
 (rg [bx 4 29 1,al 6 z1,mk 7 (i 0)]
 (rg [mk 8 (i 0)]
 (.seq (rg [mv 14 0,bk 15 .neq 14 (i 3)]
 (.cond (.t 15)
 (.seq (rg [mv 16 2,cl 17 247 [(.t 16)],ln 18 17,mk 19 (i 0)]
 (.block 0 (.loop [(0,m),(8,m),(17,m),(18,m),(19,m),(4,⟨true,0,false⟩),(6,⟨true,0,false⟩)]
 (rg [bn 20 .lss 19 18]
 (.seq (.cond (.t 20)
 .skip
 (.exit 0))
 (.seq (.block 1 (rg [ix 21 7 17 19,la 22 7 21,al 10 [(i 0),(r 0),(u 0),(u 0),(u 0),.sn,(D.str [])],st 7 10 22]
 (.dreg [([],false,mv 23 0),([0],false,la 24 29 4),([0,1],false,la 25 7 10),([],false,o 26 (.call true 258 [(.t 23),(.t 24),(.t 25)])),([0,1,2,3],false,mv 27 8),([0,1,2,3,4],false,mv 28 0),([0,1,2,3,4,5],false,la 29 7 10),([4],false,o 30 (.call true 280 [(.t 28),(.t 29)])),([],false,bn 31 .add 27 30),([4,8],false,st 29 4 26),([],true,mv 8 31)])))
 (.reg [bk 32 .add 19 (i 1),mv 19 32])))))))
 (rg [la 33 29 4,mv 34 8,st 29 6 33,mv 7 34]
 .ret))
 .skip))
 (.seq (rg [mk 11 (i 0)]
 (.block 2 (.loop [(0,m),(2,m),(7,m),(8,m),(11,m),(4,⟨true,0,false⟩),(6,⟨true,0,false⟩)]
 (.seq (rg [mv 35 11,mv 36 2,ln 37 36,bn 38 .lss 35 37]
 (.cond (.t 38)
 .skip
 (.exit 2)))
 (.seq (.block 3 (rg [mv 41 2,mv 42 11,ix 43 1 41 42,ld 44 1 43,mv 12 44]
 (rg [mv 45 12,o 46 (.cvi .i32 (.t 45)),o 47 (.build [(i 0),(r 0),(u 0),(u 0),(u 0),.sn,(D.str [])] [(0,1,(c 1)),(1,1,(.t 46))]),al 13 [(i 0),(r 0),(u 0),(u 0),(u 0),.sn,(D.str [])],st 7 13 47]
 (.seq (.block 4 (rg [mv 49 12,bk 50 .eql 49 (u 27),mv 51 50,g 52 (.mv (.t 11)) 51 true,g 53 (.bin .add (.t 52) (c 1)) 51 true,g 54 (.mv (.t 2)) 51 true,g 55 (.len (.t 54)) 51 true,g 56 (.bin .eql (.t 53) (.t 55)) 51 true,o 57 (.pick (.t 51) (.t 56) (.k f)),mv 48 57]
 (.cond (.t 48)
 (rg [la 58 29 4,mv 59 8,st 29 6 58,mv 7 59]
 .ret)
 (rg [mv 61 12,bk 62 .eql 61 (u 27),mv 63 62,g 64 (.mv (.t 2)) 63 true,g 65 (.mv (.t 11)) 63 true,g 66 (.bin .add (.t 65) (c 1)) 63 true,g 67 (.ixs 1 (.t 64) (.t 66)) 63 true,g 68 (.load false 1 (.t 67)) 63 true,g 69 (.bin .eql (.t 68) (.k (u 89))) 63 true,o 70 (.pick (.t 63) (.t 69) (.k f)),mv 60 70]
 (.cond (.t 60)
 (.seq (rg [mv 71 11,bk 72 .add 71 (i 3),mv 73 2,ln 74 73,bn 75 .geq 72 74]
 (.cond (.t 75)
 (rg [la 76 29 4,mv 77 8,st 29 6 76,mv 7 77]
 .ret)
 .skip))
 (.seq (.dreg [([],false,mv 78 2),([0],false,mv 79 11),([0],false,bk 80 .add 79 (i 2)),([],false,ix 81 1 78 80),([],false,ld 82 1 81),([],false,o 83 (.cvi .i64 (.t 82))),([],false,bk 84 .sub 83 (i 32)),([],false,o 85 (.mx [(.t 84),(c 0)])),([0,1,2,3,4,5,6,7],false,fa 86 0 4),([0,1,2,3,4,5,6,7],false,fa 87 0 86),([0,1,2,3,4,5,6,7],false,ld 88 1 87),([0,1,2,3,4,5,6,7],false,bk 89 .sub 88 (i 1)),([],false,o 90 (.mn [(.t 85),(.t 89)])),([0,1,2,3,4,5,6,7,8,9,10,11,12],false,mv 91 2),([0,1,2,3,4,5,6,7,8,9,10,11,12,13],false,mv 92 11),([0,1,2,3,4,5,6,7,8,9,10,11,12,13],false,bk 93 .add 92 (i 3)),([0,1,2,3,4,5,6,7,8,9,10,11,12],false,ix 94 1 91 93),([0,1,2,3,4,5,6,7,8,9,10,11,12],false,ld 95 1 94),([0,1,2,3,4,5,6,7,8,9,10,11,12],false,o 96 (.cvi .i64 (.t 95))),([0,1,2,3,4,5,6,7,8,9,10,11,12],false,bk 97 .sub 96 (i 32)),([0,1,2,3,4,5,6,7,8,9,10,11,12],false,o 98 (.mx [(.t 97),(c 0)])),([0,1,2,3,4,5,6,7,8,9,10,11,12,13,14,15,16,17,18,19,20],false,fa 99 0 4),([0,1,2,3,4,5,6,7,8,9,10,11,12,13,14,15,16,17,18,19,20],false,fa 100 1 99),([0,1,2,3,4,5,6,7,8,9,10,11,12,13,14,15,16,17,18,19,20],false,ld 101 1 100),([0,1,2,3,4,5,6,7,8,9,10,11,12,13,14,15,16,17,18,19,20],false,bk 102 .sub 101 (i 1)),([0,1,2,3,4,5,6,7,8,9,10,11,12],false,o 103 (.mn [(.t 98),(.t 102)])),([13,14,15,16,17,18,19,20,24,25],false,fa 104 3 4),([13,14,15,16,17,18,19,20,24,25],false,st 1 104 90),([],true,fa 105 4 4),([],true,st 1 105 103),([],true,fa 106 5 4),([],true,sk 1 106 f)])
 (rg [mv 107 11,bk 108 .add 107 (i 3),mv 11 108]
 (.exit 3))))
 (rg [mv 110 12,bk 111 .eql 110 (u 27),mv 109 111]
 (.cond (.t 109)
 (rg [mv 112 11,bk 113 .add 112 (i 1),mv 11 113]
 (.reg [mv 114 2,mv 115 11,ix 116 1 114 115,ld 117 1 116,o 118 (.build [(i 0),(r 0),(u 0),(u 0),(u 0),.sn,(D.str [])] [(0,1,(c 3)),(4,1,(.t 117))]),st 7 13 118]))
 (rg [mv 120 12,bk 121 .lss 120 (u 32),mv 119 121]
 (.cond (.t 119)
 (.reg [mv 122 12,o 123 (.build [(i 0),(r 0),(u 0),(u 0),(u 0),.sn,(D.str [])] [(0,1,(c 2)),(4,1,(.t 122))]),st 7 13 123])
 .skip)))))))))
 (.dreg [([],false,mv 124 0),([0],false,la 125 29 4),([0,1],false,la 126 7 13),([],false,o 127 (.call true 258 [(.t 124),(.t 125),(.t 126)])),([0,1,2,3],false,mv 128 8),([0,1,2,3,4],false,mv 129 0),([0,1,2,3,4,5],false,la 130 7 13),([4],false,o 131 (.call true 280 [(.t 129),(.t 130)])),([],false,bn 132 .add 128 131),([4,8],false,st 29 4 127),([],true,mv 8 132)])))))
 (.reg [mv 39 11,bk 40 .add 39 (i 1),mv 11 40]))))))
 (rg [la 133 29 4,mv 134 8,st 29 6 133,mv 7 134]
 .ret)))))⟩
def a270 : Ann := ⟨[],[m],[],[]⟩
def s270 : SFun := ⟨1,12,[],[(.cell 2 true 6,m)],
 (rg [bx 1 29 0,al 2 z7]
 (rg [fa 3 0 1,la 4 3 3,fa 5 3 1,ld 6 1 5,fa 7 4 1,ld 8 1 7,fa 9 17 1,ld 10 1 9,o 11 (.build z7 [(0,3,(.t 4)),(3,1,(.t 6)),(4,1,(.t 8)),(5,1,(.t 10))]),st 6 2 11]
 .ret))⟩
def a179 : Ann := ⟨[],[m],[],[]⟩
def s179 : SFun := ⟨2,51,[],[(.tmp 4,m)],
 (rg [bx 2 6 0,bx 3 6 1,mk 4 f]
 (rg [fa 5 0 2,fa 6 0 5,ld 7 1 6,fa 8 0 3,fa 9 0 8,ld 10 1 9,bn 11 .eql 7 10,mv 12 11,g 13 (.fad 0 (.t 2)) 12 true,g 14 (.fad 1 (.t 13)) 12 true,g 15 (.load false 1 (.t 14)) 12 true,g 16 (.fad 0 (.t 3)) 12 true,g 17 (.fad 1 (.t 16)) 12 true,g 18 (.load false 1 (.t 17)) 12 true,g 19 (.bin .eql (.t 15) (.t 18)) 12 true,o 20 (.pick (.t 12) (.t 19) (.k f)),mv 21 20,g 22 (.fad 0 (.t 2)) 21 true,g 23 (.fad 2 (.t 22)) 21 true,g 24 (.load false 1 (.t 23)) 21 true,g 25 (.fad 0 (.t 3)) 21 true,g 26 (.fad 2 (.t 25)) 21 true,g 27 (.load false 1 (.t 26)) 21 true,g 28 (.call false 173 [(.t 24),(.t 27)]) 21 true,o 29 (.pick (.t 21) (.t 28) (.k f)),mv 30 29,g 31 (.fad 3 (.t 2)) 30 true,g 32 (.load false 1 (.t 31)) 30 true,g 33 (.fad 3 (.t 3)) 30 true,g 34 (.load false 1 (.t 33)) 30 true,g 35 (.bin .eql (.t 32) (.t 34)) 30 true,o 36 (.pick (.t 30) (.t 35) (.k f)),mv 37 36,g 38 (.fad 4 (.t 2)) 37 true,g 39 (.load false 1 (.t 38)) 37 true,g 40 (.fad 4 (.t 3)) 37 true,g 41 (.load false 1 (.t 40)) 37 true,g 42 (.bin .eql (.t 39) (.t 41)) 37 true,o 43 (.pick (.t 37) (.t 42) (.k f)),mv 44 43,g 45 (.fad 5 (.t 2)) 44 true,g 46 (.load false 1 (.t 45)) 44 true,g 47 (.fad 5 (.t 3)) 44 true,g 48 (.load false 1 (.t 47)) 44 true,g 49 (.binb .eql (.t 46) (.t 48)) 44 true,o 50 (.pick (.t 44) (.t 49) (.k f)),mv 4 50]
 .ret))⟩
def a153 : Ann := ⟨[(3,[(17,m),(18,m),(3,⟨true,0,false⟩),(6,⟨true,0,false⟩),(7,⟨true,0,false⟩)])],[m],[],[]⟩
def s153 : SFun := ⟨3,33,[],[(.cell 6 true 3,m)],
 (rg [bx 3 3 0,al 6 [(i 0),(i 0),.sn]]
 (rg [mv 9 1,mv 10 2,cl 11 107 [],cl 12 151 [(.t 9),(.t 10),(.t 11)],al 7 [(i 0),(i 0),.sn],st 3 7 12]
 (.seq (rg [fa 13 0 3,ld 14 1 13,fa 15 0 7,ld 16 1 15,o 17 (.mn [(.t 14),(.t 16)]),mk 18 (i 0)]
 (.block 0 (.loop [(17,m),(18,m),(3,⟨true,0,false⟩),(6,⟨true,0,false⟩),(7,⟨true,0,false⟩)]
 (rg [bn 19 .lss 18 17]
 (.seq (.cond (.t 19)
 .skip
 (.exit 0))
 (.seq (.block 1 (rg [mv 20 18,mv 8 20]
 (.seq (.dreg [([],false,la 21 3 7),([0],false,mv 22 8),([],false,o 23 (.call true 163 [(.t 21),(.t 22)])),([0,1,2],false,la 24 3 3),([0,1,2,3],false,mv 25 8),([],true,cl 26 163 [(.t 24),(.t 25)]),([],true,o 27 (.copy 5 (.t 23) (.t 26)))])
 (.reg [la 28 3 7,mv 29 8,cl 30 161 [(.t 28),(.t 29)],st 3 7 30]))))
 (.reg [bk 31 .add 18 (i 1),mv 18 31])))))))
 (rg [la 32 3 7,st 3 6 32]
 .ret))))⟩
def a379 : Ann := ⟨[],[m],[],[]⟩
def s379 : SFun := ⟨2,10,[],[(.tmp 4,m)],
 (rg [mk 4 (i 0)]
 (rg [mv 5 0,mv 6 1,bk 7 .sub 6 (i 1),o 8 (.mn [(.t 5),(.t 7)]),o 9 (.mx [(c 0),(.t 8)]),mv 4 9]
 .ret))⟩
def a375 : Ann := ⟨[],[m],[],[]⟩
def s375 : SFun := ⟨3,54,[],[(.cell 6 true 29,m)],
 (rg [bx 3 29 0,al 6 z1]
 (rg [fa 8 0 3,la 9 3 8,mv 10 1,mv 11 2,cl 12 153 [(.t 9),(.t 10),(.t 11)],al 7 [(i 0),(i 0),.sn],st 3 7 12]
 (.seq (.dreg [([],false,la 13 3 7),([0],false,fa 14 0 7),([0],false,ld 15 1 14),([0],false,bk 16 .sub 15 (i 1)),([0,1,2,3],false,fa 17 1 7),([0,1,2,3],false,ld 18 1 17),([0,1,2,3],false,o 19 (.call true 419 [(.t 18)])),([1,2,3,4,5,6],false,fa 20 0 3),([1,2,3],false,st 3 20 13),([1,2,3],false,fa 21 6 3),([1,2,3],false,sk 1 21 (i 0)),([],true,fa 22 7 3),([],true,st 1 22 16),([],true,fa 23 11 3),([],true,st 1 23 19),([],true,fa 24 5 3),([],true,sk 1 24 f)])
 (.seq (.dreg [([],false,fa 25 3 3),([],false,ld 26 1 25),([0,1],false,fa 27 0 7),([0,1],false,ld 28 1 27),([],false,o 29 (.call true 379 [(.t 26),(.t 28)])),([0,1,2,3,4],false,fa 30 4 3),([0,1,2,3,4],false,ld 31 1 30),([0,1,2,3,4,5,6],false,fa 32 1 7),([0,1,2,3,4,5,6],false,ld 33 1 32),([],false,o 34 (.call true 379 [(.t 31),(.t 33)])),([7,8,9],false,fa 35 3 3),([],true,st 1 35 29),([],true,fa 36 4 3),([],true,st 1 36 34)])
 (.seq (.dreg [([],false,fa 37 20 3),([],false,fa 38 0 37),([],false,ld 39 1 38),([0,1,2],false,fa 40 0 7),([0,1,2],false,ld 41 1 40),([],false,o 42 (.call true 379 [(.t 39),(.t 41)])),([0,1,2,3,4,5],false,fa 43 20 3),([0,1,2,3,4,5],false,fa 44 1 43),([0,1,2,3,4,5],false,ld 45 1 44),([0,1,2,3,4,5,6,7,8],false,fa 46 1 7),([0,1,2,3,4,5,6,7,8],false,ld 47 1 46),([],false,o 48 (.call true 379 [(.t 45),(.t 47)])),([9,10,11],false,fa 49 20 3),([9,10,11],false,fa 50 0 49),([],true,st 1 50 42),([],true,fa 51 20 3),([],true,fa 52 1 51),([],true,st 1 52 48)])
 (rg [la 53 29 3,st 29 6 53]
 .ret))))))⟩
def a32 : Ann := ⟨[],[],[0],[]⟩
def s32 : SFun := ⟨3,16,[0],[],
 (.reg [mv 6 0,mv 7 0,o 8 (.nilc (.t 7)),fa 9 1 8,la 10 29 9,mv 11 1,mv 12 2,cl 13 375 [(.t 10),(.t 11),(.t 12)],o 14 (.nilc (.t 6)),fa 15 1 14,st 29 15 13])⟩
def a293 : Ann := ⟨[(3,[(1,m),(2,m),(8,m),(3,⟨true,0,false⟩),(6,⟨true,0,false⟩),(7,⟨true,0,false⟩)]),(7,[(1,m),(2,m),(8,m),(10,m),(3,⟨true,0,false⟩),(6,⟨true,0,false⟩),(7,⟨true,0,false⟩),(9,⟨true,5,false⟩)])],[m],[],[]⟩
def s293 : SFun := ⟨3,51,[],[(.cell 6 true 3,m)],
 (rg [bx 3 3 0,al 6 [(i 0),(i 0),.sn]]
 (rg [mv 11 1,mv 12 2,cl 13 290 [],cl 14 288 [(.t 11),(.t 12),(.t 13)],al 7 [(i 0),(i 0),.sn],st 3 7 14]
 (.seq (rg [mk 8 (i 0)]
 (.block 0 (.loop [(1,m),(2,m),(8,m),(3,⟨true,0,false⟩),(6,⟨true,0,false⟩),(7,⟨true,0,false⟩)]
 (.seq (rg [mv 15 8,mv 16 1,fa 17 0 3,ld 18 1 17,o 19 (.mn [(.t 16),(.t 18)]),bn 20 .lss 15 19]
 (.cond (.t 20)
 .skip
 (.exit 0)))
 (.seq (.block 1 (rg [o 23 (.bsl true 5 0 z5 []),la 24 3 7,mv 25 8,cl 26 313 [(.t 24),(.t 25)],o 27 (.append 5 40 (.t 23) (.t 26)),mv 9 27]
 (.seq (rg [mk 10 (i 0)]
 (.block 2 (.loop [(1,m),(2,m),(8,m),(10,m),(3,⟨true,0,false⟩),(6,⟨true,0,false⟩),(7,⟨true,0,false⟩),(9,⟨true,5,false⟩)]
 (.seq (rg [mv 28 10,mv 29 2,fa 30 1 3,ld 31 1 30,o 32 (.mn [(.t 29),(.t 31)]),bn 33 .lss 28 32]
 (.cond (.t 33)
 .skip
 (.exit 2)))
 (.seq (.block 3 (.reg [mv 36 9,mv 37 10,la 38 3 3,mv 39 8,cl 40 313 [(.t 38),(.t 39)],mv 41 10,ix 42 5 40 41,la 43 5 42,ix 44 5 36 37,st 5 44 43]))
 (.reg [mv 34 10,bk 35 .add 34 (i 1),mv 10 35]))))))
 (.dreg [([],false,la 45 3 7),([0],false,mv 46 8),([0,1],false,mv 47 9),([0,1],false,o 48 (.callr 287 [(.t 47)])),([],true,cl 49 315 [(.t 45),(.t 46),(.t 48)]),([],true,st 3 7 49)]))))
 (.reg [mv 21 8,bk 22 .add 21 (i 1),mv 8 22]))))))
 (rg [la 50 3 7,st 3 6 50]
 .ret))))⟩
def a296 : Ann := ⟨[],[m],[],[]⟩
def s296 : SFun := ⟨3,42,[],[(.cell 6 true 29,m)],
 (rg [bx 3 29 0,al 6 z1]
 (rg [fa 7 0 3,la 8 3 7,mv 9 1,mv 10 2,cl 11 293 [(.t 8),(.t 9),(.t 10)],fa 12 0 3,st 3 12 11]
 (rg [mv 13 1,bk 14 .sub 13 (i 1),mv 15 2,cl 16 297 [(.t 15)],fa 17 6 3,sk 1 17 (i 0),fa 18 7 3,st 1 18 14,fa 19 11 3,st 1 19 16]
 (rg [fa 20 20 3,fa 21 0 20,ld 22 1 21,mv 23 1,bk 24 .sub 23 (i 1),o 25 (.mn [(.t 22),(.t 24)]),fa 26 20 3,fa 27 1 26,ld 28 1 27,mv 29 2,bk 30 .sub 29 (i 1),o 31 (.mn [(.t 28),(.t 30)]),fa 32 20 3,fa 33 0 32,st 1 33 25,fa 34 20 3,fa 35 1 34,st 1 35 31]
 (rg [la 36 29 3,fa 37 3 3,ld 38 1 37,fa 39 4 3,ld 40 1 39,cl 41 300 [(.t 36),(.t 38),(.t 40)],st 29 6 41]
 .ret)))))⟩
def a206 : Ann := ⟨[(14,[(5,m),(13,m),(14,m),(15,m),(16,m),(63,m),(64,m),(65,m),(19,⟨true,0,false⟩)])],[m],[],[]⟩
def s206 : SFun := ⟨6,119,[],[(.tmp 12,m)],
 (rg [mk 12 f]
 (rg [mv 25 0,cl 26 174 [(.t 25),(c 1),(c 3)],mv 13 26]
 (rg [mv 27 1,cl 28 174 [(.t 27),(c 1),(c 5)],mv 29 2,cl 30 174 [(.t 29),(c 1),(c 9)],mv 14 28,mv 15 30]
 (rg [o 31 (.bsl true 1 0 [(u 0)] []),mv 32 3,mv 33 3,ln 34 33,o 35 (.mn [(.t 34),(c 80)]),o 36 (.slc 1 (.t 32) none (some (.t 35))),o 37 (.append 1 1 (.t 31) (.t 36)),mv 16 37]
 (rg [mv 38 4,mv 39 16,ln 40 39,cl 41 174 [(.t 38),(c 0),(.t 40)],mv 17 41]
 (rg [mv 42 13,mv 43 14,mv 44 15,cl 45 424 [(.t 42),(.t 43),(.t 44)],mv 18 45]
 (.seq (rg [mv 46 18,o 47 (.eqn false (.t 46))]
 (.cond (.t 47)
 (rg [mk 12 f]
 .ret)
 .skip))
 (rg [mv 48 18,mv 49 16,mv 50 17,o 51 (.slc 1 (.t 49) none (some (.t 50))),cl 52 30 [(.t 48),(.t 51)]]
 (rg [mv 53 18,cl 54 29 [(.t 53)],mv 19 54]
 (.seq (rg [mv 55 19,o 56 (.eqn false (.t 55))]
 (.cond (.t 56)
 (rg [mk 12 f]
 .ret)
 .skip))
 (rg [mv 57 18,o 58 (.bsl true 1 12 [(u 0)] [(0,(.k (u 27))),(1,(.k (u 91))),(2,(.k (u 50))),(3,(.k (u 74))),(4,(.k (u 27))),(5,(.k (u 91))),(6,(.k (u 53))),(7,(.k (u 59))),(8,(.k (u 53))),(9,(.k (u 72))),(10,(.k (u 122))),(11,(.k (u 122)))]),o 59 (.cvb (.t 58)),cl 60 30 [(.t 57),(.t 59)]]
 (.seq (rg [mv 61 16,mv 62 17,o 63 (.slc 1 (.t 61) (some (.t 62)) none),ln 64 63,mk 65 (i 0)]
 (.block 0 (.loop [(5,m),(13,m),(14,m),(15,m),(16,m),(63,m),(64,m),(65,m),(19,⟨true,0,false⟩)]
 (rg [bn 66 .lss 65 64]
 (.seq (.cond (.t 66)
 .skip
 (.exit 0))
 (.seq (.block 1 (rg [ix 67 1 63 65,ld 68 1 67,mv 21 68]
 (.reg [mv 69 19,mv 70 21,o 71 (.bsl false 1 1 [(u 0)] [(0,(.t 70))]),cl 72 30 [(.t 69),(.t 71)]])))
 (.reg [bk 73 .add 65 (i 1),mv 65 73])))))))
 (rg [mv 75 13,mv 76 13,mv 77 14,mv 78 15,cl 79 263 [(.t 76),(.t 77),(.t 78)],mv 80 16,cl 81 259 [(.t 75),(.t 79),(.t 80)],mv 74 81,ex 82 74 0,ex 83 74 1,al 22 z1,st 29 22 82,mv 23 83]
 (.seq (.seq (.dreg [([],false,mv 84 19),([],false,cl 85 31 [(.t 84)]),([0,1],false,la 86 29 22),([],true,cl 87 177 [(.t 85),(.t 86)]),([],true,o 88 (.una .not (.t 87))),([],true,mv 89 88),([],false,g 90 (.mv (.t 19)) 89 false),([],false,g 91 (.call false 33 [(.t 90)]) 89 false),([0,1],false,g 92 (.mv (.t 23)) 89 false),([],true,g 93 (.bin .neq (.t 91) (.t 92)) 89 false),([],true,o 94 (.pick (.t 89) (.k w) (.t 93))),([],true,mv 95 94),([],false,g 96 (.mv (.t 19)) 95 false),([],false,g 97 (.call false 34 [(.t 96)]) 95 false),([0,1],false,g 98 (.load true 29 (.t 22)) 95 false),([],true,g 99 (.call false 270 [(.t 98)]) 95 false),([],true,g 100 (.call false 179 [(.t 97),(.t 99)]) 95 false),([],true,g 101 (.una .not (.t 100)) 95 false),([],true,o 102 (.pick (.t 95) (.k w) (.t 101)))])
 (.cond (.t 102)
 (rg [mk 12 f]
 .ret)
 .skip))
 (rg [mv 103 5,cl 104 174 [(.t 103),(c 1),(c 8)],mv 24 104]
 (rg [mv 105 19,mv 106 24,mv 107 15,cl 108 32 [(.t 105),(.t 106),(.t 107)]]
 (.seq (.dreg [([],false,mv 109 19),([],false,cl 110 31 [(.t 109)]),([0,1],false,la 111 29 22),([0,1,2],false,mv 112 24),([0,1,2,3],false,mv 113 15),([],true,cl 114 296 [(.t 111),(.t 112),(.t 113)]),([],true,cl 115 177 [(.t 110),(.t 114)]),([],true,mv 116 115),([],true,g 117 (.call false 209 []) 116 true),([],true,o 118 (.pick (.t 116) (.t 117) (.k f))),([],true,mv 12 118)])
 .ret)))))))))))))))))⟩
def a208 : Ann := ⟨[(4,[(0,m),(7,m),(8,m),(10,m),(9,⟨true,1,false⟩)]),(9,[(6,m),(7,m),(8,m),(9,m),(41,m),(42,m),(43,m),(11,⟨true,6,false⟩)])],[m],[],[]⟩
def s208 : SFun := ⟨3,105,[],[(.tmp 6,m)],
 (rg [mk 6 f]
 (rg [mv 15 1,cl 16 174 [(.t 15),(c 0),(c 4)],mv 17 2,cl 18 174 [(.t 17),(c 0),(c 8)],mv 7 16,mv 8 18]
 (rg [mk 9 .sn]
 (.seq (rg [mk 10 (i 0)]
 (.block 0 (.loop [(0,m),(7,m),(8,m),(10,m),(9,⟨true,1,false⟩)]
 (.seq (rg [mv 19 10,mv 20 0,ln 21 20,bn 22 .lss 19 21,mv 23 22,g 24 (.mv (.t 8)) 23 true,g 25 (.mv (.t 10)) 23 true,g 26 (.bin .add (.t 24) (.t 25)) 23 true,g 27 (.bin .lss (.t 26) (c 8)) 23 true,o 28 (.pick (.t 23) (.t 27) (.k f))]
 (.cond (.t 28)
 .skip
 (.exit 0)))
 (.seq (.block 1 (.reg [mv 31 9,mv 32 0,mv 33 10,ix 34 1 32 33,ld 35 1 34,o 36 (.cvi .i64 (.t 35)),cl 37 174 [(.t 36),(c 32),(c 126)],o 38 (.cvi .u8 (.t 37)),o 39 (.bsl false 1 1 [(u 0)] [(0,(.t 38))]),o 40 (.append 1 1 (.t 31) (.t 39)),mv 9 40]))
 (.reg [mv 29 10,bk 30 .add 29 (i 1),mv 10 30]))))))
 (rg [mk 11 .sn]
 (.seq (rg [o 41 (.bsl false 1 3 [(i 0)] [(0,(c 1)),(1,(c 2)),(2,(c 3))]),ln 42 41,mk 43 (i 0)]
 (.block 2 (.loop [(6,m),(7,m),(8,m),(9,m),(41,m),(42,m),(43,m),(11,⟨true,6,false⟩)]
 (rg [bn 44 .lss 43 42]
 (.seq (.cond (.t 44)
 .skip
 (.exit 2))
 (.seq (.block 3 (rg [ix 45 1 41 43,ld 46 1 45,mv 13 46]
 (rg [mv 47 13,cl 48 424 [(.t 47),(c 5),(c 9)],mv 14 48]
 (.seq (rg [mv 49 14,o 50 (.eqn false (.t 49))]
 (.cond (.t 50)
 (rg [mk 6 f]
 .ret)
 .skip))
 (.seq (rg [mv 51 13,bk 52 .eql 51 (i 3)]
 (.cond (.t 52)
 (.reg [mv 53 14,mv 54 7,o 55 (.bin .add (c 32) (.t 54)),o 56 (.cvi .u8 (.t 55)),mv 57 8,o 58 (.bin .add (c 32) (.t 57)),o 59 (.cvi .u8 (.t 58)),o 60 (.bsl false 1 4 [(u 0)] [(0,(.k (u 27))),(1,(.k (u 89))),(2,(.t 56)),(3,(.t 59))]),cl 61 30 [(.t 53),(.t 60)]])
 (.reg [mv 62 14,mv 63 7,o 64 (.bin .add (c 49) (.t 63)),o 65 (.cvi .u8 (.t 64)),mv 66 8,o 67 (.bin .add (c 49) (.t 66)),o 68 (.cvi .u8 (.t 67)),o 69 (.bsl false 1 6 [(u 0)] [(0,(.k (u 27))),(1,(.k (u 91))),(2,(.t 65)),(3,(.k (u 59))),(4,(.t 68)),(5,(.k (u 72)))]),cl 70 30 [(.t 62),(.t 69)]])))
 (rg [mv 71 14,mv 72 9,cl 73 30 [(.t 71),(.t 72)]]
 (rg [mv 74 14,o 75 (.bsl false 1 4 [(u 0)] [(0,(.k (u 13))),(1,(.k (u 10))),(2,(.k (u 111))),(3,(.k (u 8)))]),cl 76 30 [(.t 74),(.t 75)]]
 (rg [mv 77 11,mv 78 14,cl 79 34 [(.t 78)],o 80 (.bsl false 6 1 z7 [(0,(.t 79))]),o 81 (.append 6 64 (.t 77) (.t 80)),mv 11 81]
 (rg [mv 82 14,cl 83 33 [(.t 82)],bk 84 .neq 83 (i 0)]
 (.cond (.t 84)
 (rg [mk 6 f]
 .ret)
 .skip))))))))))
 (.reg [bk 85 .add 43 (i 1),mv 43 85])))))))
 (.seq (.dreg [([],false,mv 86 11),([],false,o 87 (.ixs 6 (.t 86) (c 0))),([],false,la 88 6 87),([0,1,2],false,mv 89 11),([0,1,2],false,o 90 (.ixs 6 (.t 89) (c 1))),([0,1,2],false,la 91 6 90),([],true,cl 92 179 [(.t 88),(.t 91)]),([],true,mv 93 92),([],false,g 94 (.mv (.t 11)) 93 true),([],false,g 95 (.ixs 6 (.t 94) (c 1)) 93 true),([],false,g 96 (.load true 6 (.t 95)) 93 true),([0,1,2],false,g 97 (.mv (.t 11)) 93 true),([0,1,2],false,g 98 (.ixs 6 (.t 97) (c 2)) 93 true),([0,1,2],false,g 99 (.load true 6 (.t 98)) 93 true),([],true,g 100 (.call false 179 [(.t 96),(.t 99)]) 93 true),([],true,o 101 (.pick (.t 93) (.t 100) (.k f))),([],true,mv 102 101),([],true,g 103 (.call false 209 []) 102 true),([],true,o 104 (.pick (.t 102) (.t 103) (.k f))),([],true,mv 6 104)])
 .ret)))))))⟩
end
end Go.Proofs.YtlpchliomdomdaaGreat.LgTab
