import Derived.Test.YtlpchliomdomdaaGreatPt21
import Derived.Test.YtlpchliomdomdaaGreatPt37
namespace Go.Proofs.YtlpchliomdomdaaGreat.LgTab
open Go Lg
set_option linter.unusedVariables false
set_option linter.unusedSimpArgs false
set_option maxRecDepth 8000
theorem few_take (d:Int) (l:List Int) (i:Nat) (x:Int) (h:l[i]? = some x):fewerL d (l.take (i+1))=fewerL d (l.take i)++(if fewB d (mxI x 0) then [mxI x 0] else []):=by
 unfold fewerL
 rw [take_snoc h,List.map_append,List.filter_append]
 simp [List.filter_cons]
theorem few_len (d:Int) (l:List Int):(fewerL d l).length≤l.length:=by
 unfold fewerL
 exact Nat.le_trans (List.length_filter_le _ _) (by simp)
theorem fewB_t {d n:Int} (h:isLook n∨(d=2∧isCol n)):fewB d n=true:=decide_eq_true h
theorem fewB_f {d n:Int} (h:¬(isLook n∨(d=2∧isCol n))):fewB d n=false:=decide_eq_false h
set_option maxHeartbeats 8000000 in
theorem sp274 (k:Nat) (d:Int) (l:List Int) (hl:l.length≤100000):evFun (clOf (modsR tab k) 3) s274 [I d, .sl 1 (intsD l)]=some (.osl true 1 (intsD (fewerL d l)),[]):=by
 have step:∀ i,i<l.length→loopF (clOf (modsR tab k) 3) [(0,⟨false,0,false⟩),(9,⟨false,0,false⟩),(10,⟨false,0,false⟩),(11,⟨false,0,false⟩),(5,⟨true,1,false⟩)] (.seq (.reg [⟨(some 12), .bin .lss (.t 11) (.t 10),none⟩]) (.seq (.cond (.t 12) .skip (.exit 0)) (.seq (.block 1 (.seq (.reg [⟨(some 13), .ixs 1 (.t 9) (.t 11),none⟩,⟨(some 14), .load false 1 (.t 13),none⟩,⟨(some 7), .mv (.t 14),none⟩]) (.seq (.reg [⟨(some 15), .mv (.t 7),none⟩,⟨(some 16), .mx [(.t 15),(.k (D.int .i64 (0)))],none⟩,⟨(some 7), .mv (.t 16),none⟩]) (.seq (.reg [⟨(some 17), .mv (.t 7),none⟩,⟨(some 18), .bin .geq (.t 17) (.k (D.int .i64 (30))),none⟩,⟨(some 19), .mv (.t 18),none⟩,⟨(some 20), .mv (.t 7),(some (19,true))⟩,⟨(some 21), .bin .leq (.t 20) (.k (D.int .i64 (37))),(some (19,true))⟩,⟨(some 22), .pick (.t 19) (.t 21) (.k (D.bool false)),none⟩,⟨(some 23), .mv (.t 22),none⟩,⟨(some 24), .mv (.t 7),(some (23,false))⟩,⟨(some 25), .bin .geq (.t 24) (.k (D.int .i64 (40))),(some (23,false))⟩,⟨(some 26), .mv (.t 25),(some (23,false))⟩,⟨(some 27), .mv (.t 7),(some (26,true))⟩,⟨(some 28), .bin .leq (.t 27) (.k (D.int .i64 (47))),(some (26,true))⟩,⟨(some 29), .pick (.t 26) (.t 28) (.k (D.bool false)),(some (23,false))⟩,⟨(some 30), .pick (.t 23) (.k (D.bool true)) (.t 29),none⟩,⟨(some 31), .mv (.t 30),none⟩,⟨(some 32), .mv (.t 7),(some (31,false))⟩,⟨(some 33), .bin .eql (.t 32) (.k (D.int .i64 (39))),(some (31,false))⟩,⟨(some 34), .pick (.t 31) (.k (D.bool true)) (.t 33),none⟩,⟨(some 35), .mv (.t 34),none⟩,⟨(some 36), .mv (.t 7),(some (35,false))⟩,⟨(some 37), .bin .eql (.t 36) (.k (D.int .i64 (49))),(some (35,false))⟩,⟨(some 38), .pick (.t 35) (.k (D.bool true)) (.t 37),none⟩,⟨(some 8), .mv (.t 38),none⟩]) (.seq (.reg [⟨(some 39), .mv (.t 7),none⟩,⟨(some 40), .bin .eql (.t 39) (.k (D.int .i64 (0))),none⟩,⟨(some 41), .mv (.t 40),none⟩,⟨(some 42), .mv (.t 7),(some (41,false))⟩,⟨(some 43), .bin .eql (.t 42) (.k (D.int .i64 (1))),(some (41,false))⟩,⟨(some 44), .pick (.t 41) (.k (D.bool true)) (.t 43),none⟩,⟨(some 45), .mv (.t 44),none⟩,⟨(some 46), .mv (.t 7),(some (45,false))⟩,⟨(some 47), .bin .eql (.t 46) (.k (D.int .i64 (4))),(some (45,false))⟩,⟨(some 48), .pick (.t 45) (.k (D.bool true)) (.t 47),none⟩,⟨(some 49), .mv (.t 48),none⟩,⟨(some 50), .mv (.t 7),(some (49,false))⟩,⟨(some 51), .bin .eql (.t 50) (.k (D.int .i64 (5))),(some (49,false))⟩,⟨(some 52), .pick (.t 49) (.k (D.bool true)) (.t 51),none⟩,⟨(some 53), .mv (.t 52),none⟩,⟨(some 54), .mv (.t 7),(some (53,false))⟩,⟨(some 55), .bin .eql (.t 54) (.k (D.int .i64 (7))),(some (53,false))⟩,⟨(some 56), .pick (.t 53) (.k (D.bool true)) (.t 55),none⟩,⟨(some 57), .mv (.t 56),none⟩,⟨(some 58), .mv (.t 0),(some (57,false))⟩,⟨(some 59), .bin .eql (.t 58) (.k (D.int .i64 (2))),(some (57,false))⟩,⟨(some 60), .mv (.t 59),(some (57,false))⟩,⟨(some 61), .mv (.t 8),(some (60,true))⟩,⟨(some 62), .pick (.t 60) (.t 61) (.k (D.bool false)),(some (57,false))⟩,⟨(some 63), .pick (.t 57) (.k (D.bool true)) (.t 62),none⟩]) (.cond (.t 63) (.reg [⟨(some 64), .mv (.t 5),none⟩,⟨(some 65), .mv (.t 7),none⟩,⟨(some 66), .bsl false 1 1 [(D.int .i64 (0))] [(0,(.t 65))],none⟩,⟨(some 67), .append 1 8 (.t 64) (.t 66),none⟩,⟨(some 5), .mv (.t 67),none⟩]) .skip)))))) (.reg [⟨(some 68), .bin .add (.t 11) (.k (D.int .i64 (1))),none⟩,⟨(some 11), .mv (.t 68),none⟩])))) [I d, .sl 1 (intsD l),I l.length,I i, .osl true 1 (intsD (fewerL d (l.take i)))]=some (.nrm,[I d, .sl 1 (intsD l),I l.length,I ((i+1:Nat):Int), .osl true 1 (intsD (fewerL d (l.take (i+1))))]):=by
  intro i hi
  obtain ⟨x,hx⟩:=get_ex hi
  have hlt:(i:Int)<l.length:=by omega
  have g:=intsD_getD hx
  have g':=intsD_at hx
  have fl:=few_len d (l.take i)
  rw [List.length_take] at fl
  rw [few_take d l i x hx]
  generalize fewerL d (l.take i)=G at *
  have b2:(G.length+1)*8≤140737488355328:=by omega
  have b3:G.length+1≤17592186044416:=by omega
  have b4:G.length≤17592186044415:=by omega
  have hm0:0≤mxI x 0:=by unfold mxI;split<;>omega
  obtain ⟨m,hm⟩:∃ m,m=mxI x 0:=⟨_,rfl⟩
  rw [←hm] at hm0 ⊢
  have hm':mxI x 0=m:=hm.symm
  clear hm hx
  by_cases hL:isLook m
  ·rw [fewB_t (.inl hL)]
   rcases hL with rfl | rfl | rfl | rfl | rfl<;>simp -implicitDefEqProofs [hlt,hi,g,g',hm',b2,b3,b4,wr_id ((i:Int)+1) (by omega) (by omega)]
  ·obtain ⟨n0,n1,n4,n5,n7⟩:m≠0∧m≠1∧m≠4∧m≠5∧m≠7:=by
    unfold isLook at hL
    omega
   by_cases hd:d=2
   ·subst hd
    by_cases a1:30≤m
    ·by_cases a2:m≤37
     ·rw [fewB_t (.inr ⟨rfl, .inl ⟨a1,a2⟩⟩)]
      simp -implicitDefEqProofs [hlt,hi,g,g',hm',n0,n1,n4,n5,n7,a1,a2,b2,b3,b4,wr_id ((i:Int)+1) (by omega) (by omega)]
     ·by_cases a3:40≤m
      ·by_cases a4:m≤47
       ·rw [fewB_t (.inr ⟨rfl, .inr (.inl ⟨a3,a4⟩)⟩)]
        simp -implicitDefEqProofs [hlt,hi,g,g',hm',n0,n1,n4,n5,n7,a1,a2,a3,a4,b2,b3,b4,wr_id ((i:Int)+1) (by omega) (by omega)]
       ·have a5:¬m=39:=by omega
        by_cases a6:m=49
        ·rw [fewB_t (.inr ⟨rfl, .inr (.inr (.inr a6))⟩)]
         subst a6
         simp -implicitDefEqProofs [hlt,hi,g,g',hm',b2,b3,b4,wr_id ((i:Int)+1) (by omega) (by omega)]
        ·rw [fewB_f (fun h=>h.elim hL fun h=>by unfold isCol at h;omega)]
         simp -implicitDefEqProofs [hlt,hi,g,g',hm',n0,n1,n4,n5,n7,a1,a2,a3,a4,a5,a6,wr_id ((i:Int)+1) (by omega) (by omega)]
      ·have a6:¬m=49:=by omega
       by_cases a5:m=39
       ·rw [fewB_t (.inr ⟨rfl, .inr (.inr (.inl a5))⟩)]
        subst a5
        simp -implicitDefEqProofs [hlt,hi,g,g',hm',b2,b3,b4,wr_id ((i:Int)+1) (by omega) (by omega)]
       ·rw [fewB_f (fun h=>h.elim hL fun h=>by unfold isCol at h;omega)]
        simp -implicitDefEqProofs [hlt,hi,g,g',hm',n0,n1,n4,n5,n7,a1,a2,a3,a5,a6,wr_id ((i:Int)+1) (by omega) (by omega)]
    ·have a3:¬40≤m:=by omega
     have a5:¬m=39:=by omega
     have a6:¬m=49:=by omega
     rw [fewB_f (fun h=>h.elim hL fun h=>by unfold isCol at h;omega)]
     simp -implicitDefEqProofs [hlt,hi,g,g',hm',n0,n1,n4,n5,n7,a1,a3,a5,a6,wr_id ((i:Int)+1) (by omega) (by omega)]
   ·rw [fewB_f (fun h=>h.elim hL fun h=>hd h.1)]
    by_cases a1:30≤m
    ·by_cases a2:m≤37
     ·simp -implicitDefEqProofs [hlt,hi,g,g',hm',n0,n1,n4,n5,n7,hd,a1,a2,wr_id ((i:Int)+1) (by omega) (by omega)]
     ·by_cases a3:40≤m
      ·by_cases a4:m≤47
       ·simp -implicitDefEqProofs [hlt,hi,g,g',hm',n0,n1,n4,n5,n7,hd,a1,a2,a3,a4,wr_id ((i:Int)+1) (by omega) (by omega)]
       ·have a5:¬m=39:=by omega
        simp -implicitDefEqProofs [hlt,hi,g,g',hm',n0,n1,n4,n5,n7,hd,a1,a2,a3,a4,a5,wr_id ((i:Int)+1) (by omega) (by omega)]
      ·by_cases a5:m=39
       ·subst a5
        simp -implicitDefEqProofs [hlt,hi,g,g',hm',hd,wr_id ((i:Int)+1) (by omega) (by omega)]
       ·simp -implicitDefEqProofs [hlt,hi,g,g',hm',n0,n1,n4,n5,n7,hd,a1,a2,a3,a5,wr_id ((i:Int)+1) (by omega) (by omega)]
    ·have a3:¬40≤m:=by omega
     have a5:¬m=39:=by omega
     simp -implicitDefEqProofs [hlt,hi,g,g',hm',n0,n1,n4,n5,n7,hd,a1,a3,a5,wr_id ((i:Int)+1) (by omega) (by omega)]
 have last:loopF (clOf (modsR tab k) 3) [(0,⟨false,0,false⟩),(9,⟨false,0,false⟩),(10,⟨false,0,false⟩),(11,⟨false,0,false⟩),(5,⟨true,1,false⟩)] (.seq (.reg [⟨(some 12), .bin .lss (.t 11) (.t 10),none⟩]) (.seq (.cond (.t 12) .skip (.exit 0)) (.seq (.block 1 (.seq (.reg [⟨(some 13), .ixs 1 (.t 9) (.t 11),none⟩,⟨(some 14), .load false 1 (.t 13),none⟩,⟨(some 7), .mv (.t 14),none⟩]) (.seq (.reg [⟨(some 15), .mv (.t 7),none⟩,⟨(some 16), .mx [(.t 15),(.k (D.int .i64 (0)))],none⟩,⟨(some 7), .mv (.t 16),none⟩]) (.seq (.reg [⟨(some 17), .mv (.t 7),none⟩,⟨(some 18), .bin .geq (.t 17) (.k (D.int .i64 (30))),none⟩,⟨(some 19), .mv (.t 18),none⟩,⟨(some 20), .mv (.t 7),(some (19,true))⟩,⟨(some 21), .bin .leq (.t 20) (.k (D.int .i64 (37))),(some (19,true))⟩,⟨(some 22), .pick (.t 19) (.t 21) (.k (D.bool false)),none⟩,⟨(some 23), .mv (.t 22),none⟩,⟨(some 24), .mv (.t 7),(some (23,false))⟩,⟨(some 25), .bin .geq (.t 24) (.k (D.int .i64 (40))),(some (23,false))⟩,⟨(some 26), .mv (.t 25),(some (23,false))⟩,⟨(some 27), .mv (.t 7),(some (26,true))⟩,⟨(some 28), .bin .leq (.t 27) (.k (D.int .i64 (47))),(some (26,true))⟩,⟨(some 29), .pick (.t 26) (.t 28) (.k (D.bool false)),(some (23,false))⟩,⟨(some 30), .pick (.t 23) (.k (D.bool true)) (.t 29),none⟩,⟨(some 31), .mv (.t 30),none⟩,⟨(some 32), .mv (.t 7),(some (31,false))⟩,⟨(some 33), .bin .eql (.t 32) (.k (D.int .i64 (39))),(some (31,false))⟩,⟨(some 34), .pick (.t 31) (.k (D.bool true)) (.t 33),none⟩,⟨(some 35), .mv (.t 34),none⟩,⟨(some 36), .mv (.t 7),(some (35,false))⟩,⟨(some 37), .bin .eql (.t 36) (.k (D.int .i64 (49))),(some (35,false))⟩,⟨(some 38), .pick (.t 35) (.k (D.bool true)) (.t 37),none⟩,⟨(some 8), .mv (.t 38),none⟩]) (.seq (.reg [⟨(some 39), .mv (.t 7),none⟩,⟨(some 40), .bin .eql (.t 39) (.k (D.int .i64 (0))),none⟩,⟨(some 41), .mv (.t 40),none⟩,⟨(some 42), .mv (.t 7),(some (41,false))⟩,⟨(some 43), .bin .eql (.t 42) (.k (D.int .i64 (1))),(some (41,false))⟩,⟨(some 44), .pick (.t 41) (.k (D.bool true)) (.t 43),none⟩,⟨(some 45), .mv (.t 44),none⟩,⟨(some 46), .mv (.t 7),(some (45,false))⟩,⟨(some 47), .bin .eql (.t 46) (.k (D.int .i64 (4))),(some (45,false))⟩,⟨(some 48), .pick (.t 45) (.k (D.bool true)) (.t 47),none⟩,⟨(some 49), .mv (.t 48),none⟩,⟨(some 50), .mv (.t 7),(some (49,false))⟩,⟨(some 51), .bin .eql (.t 50) (.k (D.int .i64 (5))),(some (49,false))⟩,⟨(some 52), .pick (.t 49) (.k (D.bool true)) (.t 51),none⟩,⟨(some 53), .mv (.t 52),none⟩,⟨(some 54), .mv (.t 7),(some (53,false))⟩,⟨(some 55), .bin .eql (.t 54) (.k (D.int .i64 (7))),(some (53,false))⟩,⟨(some 56), .pick (.t 53) (.k (D.bool true)) (.t 55),none⟩,⟨(some 57), .mv (.t 56),none⟩,⟨(some 58), .mv (.t 0),(some (57,false))⟩,⟨(some 59), .bin .eql (.t 58) (.k (D.int .i64 (2))),(some (57,false))⟩,⟨(some 60), .mv (.t 59),(some (57,false))⟩,⟨(some 61), .mv (.t 8),(some (60,true))⟩,⟨(some 62), .pick (.t 60) (.t 61) (.k (D.bool false)),(some (57,false))⟩,⟨(some 63), .pick (.t 57) (.k (D.bool true)) (.t 62),none⟩]) (.cond (.t 63) (.reg [⟨(some 64), .mv (.t 5),none⟩,⟨(some 65), .mv (.t 7),none⟩,⟨(some 66), .bsl false 1 1 [(D.int .i64 (0))] [(0,(.t 65))],none⟩,⟨(some 67), .append 1 8 (.t 64) (.t 66),none⟩,⟨(some 5), .mv (.t 67),none⟩]) .skip)))))) (.reg [⟨(some 68), .bin .add (.t 11) (.k (D.int .i64 (1))),none⟩,⟨(some 11), .mv (.t 68),none⟩])))) [I d, .sl 1 (intsD l),I l.length,I l.length, .osl true 1 (intsD (fewerL d (l.take l.length)))]=some (.exit 0,[I d, .sl 1 (intsD l),I l.length,I l.length, .osl true 1 (intsD (fewerL d (l.take l.length)))]):=by
  generalize fewerL d (l.take l.length)=G at *
  simp -implicitDefEqProofs []
 rw [evFun_evB rfl]
 unfold s274
 simp -implicitDefEqProofs []
 refine evB_for (fun i=>[I d, .sl 1 (intsD l),I l.length,I i, .osl true 1 (intsD (fewerL d (l.take i)))]) l.length (.exit 0) [I d, .sl 1 (intsD l),I l.length,I l.length, .osl true 1 (intsD (fewerL d (l.take l.length)))] ?_ step last (by simp) (by simp [rounds];omega) ?_
 ·simp -implicitDefEqProofs [fewerL]
 ·rw [List.take_length]
  clear step last
  generalize fewerL d l=G
  simp -implicitDefEqProofs []
theorem sp274n (k:Nat) (d:Int):evFun (clOf (modsR tab k) 3) s274 [I d, .sn]=some (.osl true 1 [],[]):=by
 rw [evFun_evB rfl]
 unfold s274
 simp -implicitDefEqProofs []
 refine evB_for (fun i=>[I d, .sn,I 0,I i, .osl true 1 []]) 0 (.exit 0) [I d, .sn,I 0,I 0, .osl true 1 []] ?_ (fun i hi=>by omega) ?_ (by simp) (by simp [rounds]) ?_
 ·simp -implicitDefEqProofs []
 ·simp -implicitDefEqProofs []
 ·simp -implicitDefEqProofs []
set_option maxHeartbeats 4000000 in
theorem sp277 (k:Nat) (s:Sc) (o:OkS s) (r:RightS s) (b:Int) (h:b=65∨b=66∨b=67∨b=68∨b=72∨b=73∨b=74∨b=75∨b=89):evFun (clOf (modsR tab (k+6)) 3) s277 [scD s,U b]=some (scD (smallS s b),[]):=by
 have v:=fun q=>sp284 q s o r ⟨4,0,0,0,b,none,[]⟩ (by simp) (by intro n hn;cases hn) (by simp [Ev.par])
 have u:=fun q=>sp282 q s o
 simp only [evD,evL,parD] at v
 unfold smallS
 generalize hS:doS s ⟨4,0,0,0,b,none,[]⟩=S' at *
 generalize backS s=S2 at *
 clear hS
 rw [evFun_evB rfl]
 unfold s277
 rcases h with rfl | rfl | rfl | rfl | rfl | rfl | rfl | rfl | rfl<;>simp -implicitDefEqProofs [cw282,cr282,u,cw284,cr284,v]
theorem few_ok (d:Int) (l:List Int) (h:∀ n,n∈l→ -1≤n∧n≤65535):∀ n,n∈fewerL d l→ -1≤n∧n≤65535:=by
 intro n hn
 unfold fewerL at hn
 have h2:=(List.mem_filter.1 hn).1
 rw [List.mem_map] at h2
 obtain ⟨x,hx,rfl⟩:=h2
 have:=h x hx
 unfold mxI
 split<;>omega
theorem kn_4 {d r pr it fi:Int} {ps:Option (List Int)} {tx:List UInt8} (h:knowsM d ⟨4,r,pr,it,fi,ps,tx⟩=true):¬d=3:=by
 rintro rfl
 simp [knowsM,tblM,rowsM,keyM] at h
set_option maxHeartbeats 8000000 in
theorem sp258m (k:Nat) (d:Int) (hd:d=1∨d=2∨d=3) (s:Sc) (o:OkS s) (r:RightS s) (er ep ei:Int) (ps:Option (List Int)) (et:List UInt8) (hr : -2147483648≤er∧er≤2147483647) (hp:∀ n,n∈ps.getD []→ -1≤n∧n≤65535) (hl:(ps.getD []).length≤100000)
  (c1:knowsM d ⟨4,er,ep,ei,109,ps,et⟩=true) (w260:∀ q,evFun (clOf (modsR tab (q+1)) 3) s260 [I d,evD ⟨4,er,ep,ei,109,ps,et⟩]=some (B true,[])) :
  evFun (clOf (modsR tab (k+7)) 3) s258 [I d,scD s,evD ⟨4,er,ep,ei,109,ps,et⟩]=some (scD (tdoS d s ⟨4,er,ep,ei,109,ps,et⟩),[]):=by
 have hd':1≤d∧d≤3:=by omega
 have c3:¬d=3:=kn_4 c1
 have e1:=ref_m d hd' s er ep ei ps et c1 (fun n hn=>(hp n hn).1)
 obtain ⟨rfl,rfl⟩:=kn_m c1 hd'
 have w284:=fun q=>sp284 q s o r ⟨4,er,0,0,109,some (fewerL d (ps.getD [])),et⟩ hr (few_ok d _ hp) (Nat.le_trans (few_len d _) hl)
 rw [e1]
 clear e1 c1
 cases ps with
 | none =>
  have w274:=fun q=>sp274n q d
  have e2:fewerL d (Option.getD none [])=[]:=rfl
  have hne:¬(Option.getD (none:Option (List Int)) []≠[]∧fewerL d (Option.getD none [])=[]):=fun h=>h.1 rfl
  rw [if_neg hne]
  simp only [e2,evD,evL,parD,intsD_nil] at w284 w260 ⊢
  generalize doS s ⟨4,er,0,0,109,some [],et⟩=S' at *
  rw [evFun_evB rfl]
  unfold s258
  simp -implicitDefEqProofs [c3,cw260,cr260,w260,cw274,cr274,w274,cw284,cr284,w284]
 | some l =>
  have hll:l.length≤100000:=hl
  have w274:=fun q=>sp274 q d l hll
  simp only [Option.getD_some,evD,evL,parD] at w284 w260 ⊢
  generalize hS:doS s ⟨4,er,0,0,109,some (fewerL d l),et⟩=S' at *
  clear hS
  generalize hG:fewerL d l=G at *
  by_cases h0:l=[]
  ·subst h0
   have hG0:G=[]:=by rw [←hG];rfl
   subst hG0
   rw [if_neg (fun h=>h.1 rfl)]
   simp only [intsD_nil] at w284 w260 w274 ⊢
   rw [evFun_evB rfl]
   unfold s258
   simp -implicitDefEqProofs [c3,cw260,cr260,w260,cw274,cr274,w274,cw284,cr284,w284]
  ·have hpos:0<l.length:=List.length_pos_iff.2 h0
   have hpos':(0:Int)<l.length:=by omega
   by_cases hG0:G=[]
   ·rw [if_pos ⟨h0,hG0⟩]
    subst hG0
    rw [evFun_evB rfl]
    unfold s258
    simp -implicitDefEqProofs [c3,cw260,cr260,w260,cw274,cr274,w274,hpos,hpos']
   ·rw [if_neg (fun h=>hG0 h.2)]
    have hGl:¬(G.length:Int)=0:=by have:=List.length_pos_iff.2 hG0;omega
    rw [evFun_evB rfl]
    unfold s258
    simp -implicitDefEqProofs [c3,cw260,cr260,w260,cw274,cr274,w274,hpos,hpos',hG0,hGl,cw284,cr284,w284]
set_option maxHeartbeats 8000000 in
theorem sp258q (k:Nat) (d:Int) (hd:d=1∨d=2∨d=3) (s:Sc) (o:OkS s) (r:RightS s) (er ei ef:Int) (ps:Option (List Int)) (et:List UInt8) (hr : -2147483648≤er∧er≤2147483647) (hp:∀ n,n∈ps.getD []→ -1≤n∧n≤65535) (hl:(ps.getD []).length≤100000)
  (c1:knowsM d ⟨4,er,63,ei,ef,ps,et⟩=true) (w260:∀ q,evFun (clOf (modsR tab (q+1)) 3) s260 [I d,evD ⟨4,er,63,ei,ef,ps,et⟩]=some (B true,[])) :
  evFun (clOf (modsR tab (k+7)) 3) s258 [I d,scD s,evD ⟨4,er,63,ei,ef,ps,et⟩]=some (scD (tdoS d s ⟨4,er,63,ei,ef,ps,et⟩),[]):=by
 have hd':1≤d∧d≤3:=by omega
 have e1:=ref_q d hd' s er ei ef ps et c1
 obtain ⟨rfl,h3,hf⟩:=kn_q c1 hd'
 rw [e1]
 clear e1 c1
 by_cases h2:d=2
 ·subst h2
  rw [if_pos rfl]
  have w284:=fun q=>sp284 q s o r ⟨4,er,63,0,ef,ps,et⟩ hr hp hl
  generalize doS s ⟨4,er,63,0,ef,ps,et⟩=S' at *
  rw [evFun_evB rfl]
  unfold s258
  simp -implicitDefEqProofs [cw260,cr260,w260,hf,cw284,cr284,w284]
 ·have hd1:d=1:=by omega
  subst hd1
  rw [if_neg h2]
  have w284:=fun q=>sp284 q s o r ⟨4,er,63,0,ef,some ((ps.getD []).filter fun n=>decide (n≠25)),et⟩ hr (fun n hn=>hp n (List.mem_filter.1 hn).1) (Nat.le_trans (List.length_filter_le _ _) hl)
  cases ps with
  | none =>
   have e2:(Option.getD (none:Option (List Int)) []).filter (fun n=>decide (n≠25))=[]:=rfl
   simp only [e2,evD,evL,parD,intsD_nil] at w284 w260 ⊢
   generalize doS s ⟨4,er,63,0,ef,some [],et⟩=S' at *
   rw [evFun_evB rfl]
   unfold s258
   simp -implicitDefEqProofs [cw260,cr260,w260,hf]
   refine evB_for (fun i=>[.sn,I 0,I i, .obx (scL s), .obx [I 4,R er,U 63,U 0,U ef, .sn,S et], .obx zS, .osl true 1 []]) 0 (.exit 0) [.sn,I 0,I 0, .obx (scL s), .obx [I 4,R er,U 63,U 0,U ef, .sn,S et], .obx zS, .osl true 1 []] ?_ (fun i hi=>by omega) ?_ (by simp) (by simp [rounds]) ?_
   ·simp -implicitDefEqProofs [zS]
   ·simp -implicitDefEqProofs [zS]
   ·simp -implicitDefEqProofs [zS,cw284,cr284,w284]
  | some l =>
   have hll:l.length≤100000:=hl
   simp only [Option.getD_some,evD,evL,parD] at w284 w260 ⊢
   obtain ⟨F,hF⟩:∃ F:Nat→List Int,F=fun i=>(l.take i).filter fun n=>decide (n≠25):=⟨_,rfl⟩
   have F0:F 0=[]:=by rw [hF];rfl
   have FN:F l.length=l.filter fun n=>decide (n≠25):=by rw [hF];simp only [List.take_length]
   have Fs:∀ i x,l[i]? = some x→F (i+1)=F i++(if decide (x≠25) then [x] else []):=fun i x h=>by rw [hF];exact filt_take _ l i x h
   have Fl:∀ i,(F i).length≤i:=fun i=>by rw [hF];exact filt_len _ l i
   rw [←FN] at w284 ⊢
   clear hF FN
   have step:∀ i,i<l.length→loopF (clOf (modsR tab (k+7)) 3) [(64,⟨false,0,false⟩),(65,⟨false,0,false⟩),(66,⟨false,0,false⟩),(4,⟨true,0,false⟩),(5,⟨true,0,false⟩),(6,⟨true,0,false⟩),(8,⟨true,1,false⟩)] (.seq (.reg [⟨(some 67), .bin .lss (.t 66) (.t 65),none⟩]) (.seq (.cond (.t 67) .skip (.exit 0)) (.seq (.block 1 (.seq (.reg [⟨(some 68), .ixs 1 (.t 64) (.t 66),none⟩,⟨(some 69), .load false 1 (.t 68),none⟩,⟨(some 10), .mv (.t 69),none⟩]) (.seq (.reg [⟨(some 70), .mv (.t 10),none⟩,⟨(some 71), .bin .neq (.t 70) (.k (D.int .i64 (25))),none⟩]) (.cond (.t 71) (.reg [⟨(some 72), .mv (.t 8),none⟩,⟨(some 73), .mv (.t 10),none⟩,⟨(some 74), .bsl false 1 1 [(D.int .i64 (0))] [(0,(.t 73))],none⟩,⟨(some 75), .append 1 8 (.t 72) (.t 74),none⟩,⟨(some 8), .mv (.t 75),none⟩]) .skip)))) (.reg [⟨(some 76), .bin .add (.t 66) (.k (D.int .i64 (1))),none⟩,⟨(some 66), .mv (.t 76),none⟩])))) [.sl 1 (intsD l),I l.length,I i, .obx (scL s), .obx [I 4,R er,U 63,U 0,U ef, .sl 1 (intsD l),S et], .obx zS, .osl true 1 (intsD (F i))]=some (.nrm,[.sl 1 (intsD l),I l.length,I ((i+1:Nat):Int), .obx (scL s), .obx [I 4,R er,U 63,U 0,U ef, .sl 1 (intsD l),S et], .obx zS, .osl true 1 (intsD (F (i+1)))]):=by
    intro i hi
    obtain ⟨x,hx⟩:=get_ex hi
    have hlt:(i:Int)<l.length:=by omega
    have g:=intsD_getD hx
    have g':=intsD_at hx
    have fl:=Fl i
    rw [Fs i x hx]
    clear F0 Fs Fl w284 w260
    generalize F i=G at *
    have b2:(G.length+1)*8≤140737488355328:=by omega
    have b3:G.length+1≤17592186044416:=by omega
    have b4:G.length≤17592186044415:=by omega
    by_cases hx25:x=25
    ·subst hx25
     simp -implicitDefEqProofs [zS,hlt,hi,g,g',wr_id ((i:Int)+1) (by omega) (by omega)]
    ·simp -implicitDefEqProofs [zS,hlt,hi,g,g',hx25,b2,b3,b4,wr_id ((i:Int)+1) (by omega) (by omega)]
   have last:loopF (clOf (modsR tab (k+7)) 3) [(64,⟨false,0,false⟩),(65,⟨false,0,false⟩),(66,⟨false,0,false⟩),(4,⟨true,0,false⟩),(5,⟨true,0,false⟩),(6,⟨true,0,false⟩),(8,⟨true,1,false⟩)] (.seq (.reg [⟨(some 67), .bin .lss (.t 66) (.t 65),none⟩]) (.seq (.cond (.t 67) .skip (.exit 0)) (.seq (.block 1 (.seq (.reg [⟨(some 68), .ixs 1 (.t 64) (.t 66),none⟩,⟨(some 69), .load false 1 (.t 68),none⟩,⟨(some 10), .mv (.t 69),none⟩]) (.seq (.reg [⟨(some 70), .mv (.t 10),none⟩,⟨(some 71), .bin .neq (.t 70) (.k (D.int .i64 (25))),none⟩]) (.cond (.t 71) (.reg [⟨(some 72), .mv (.t 8),none⟩,⟨(some 73), .mv (.t 10),none⟩,⟨(some 74), .bsl false 1 1 [(D.int .i64 (0))] [(0,(.t 73))],none⟩,⟨(some 75), .append 1 8 (.t 72) (.t 74),none⟩,⟨(some 8), .mv (.t 75),none⟩]) .skip)))) (.reg [⟨(some 76), .bin .add (.t 66) (.k (D.int .i64 (1))),none⟩,⟨(some 66), .mv (.t 76),none⟩])))) [.sl 1 (intsD l),I l.length,I l.length, .obx (scL s), .obx [I 4,R er,U 63,U 0,U ef, .sl 1 (intsD l),S et], .obx zS, .osl true 1 (intsD (F l.length))]=some (.exit 0,[.sl 1 (intsD l),I l.length,I l.length, .obx (scL s), .obx [I 4,R er,U 63,U 0,U ef, .sl 1 (intsD l),S et], .obx zS, .osl true 1 (intsD (F l.length))]):=by
    clear w284 w260 step Fs F0 Fl
    generalize F l.length=G at *
    simp -implicitDefEqProofs [zS]
   clear Fs Fl
   generalize hS:doS s ⟨4,er,63,0,ef,some (F l.length),et⟩=S' at *
   clear hS
   rw [evFun_evB rfl]
   unfold s258
   simp -implicitDefEqProofs [cw260,cr260,w260,hf]
   refine evB_for (fun i=>[.sl 1 (intsD l),I l.length,I i, .obx (scL s), .obx [I 4,R er,U 63,U 0,U ef, .sl 1 (intsD l),S et], .obx zS, .osl true 1 (intsD (F i))]) l.length (.exit 0) [.sl 1 (intsD l),I l.length,I l.length, .obx (scL s), .obx [I 4,R er,U 63,U 0,U ef, .sl 1 (intsD l),S et], .obx zS, .osl true 1 (intsD (F l.length))] ?_ step last (by simp) (by simp [rounds];omega) ?_
   ·simp -implicitDefEqProofs [F0,zS]
   ·clear step last F0
    generalize F l.length=G at *
    simp -implicitDefEqProofs [zS,cw284,cr284,w284]
set_option maxHeartbeats 8000000 in
theorem sp258 (k:Nat) (d:Int) (hd:d=1∨d=2∨d=3) (s:Sc) (o:OkS s) (r:RightS s) (e:Ev) (hr : -2147483648≤e.r∧e.r≤2147483647) (hp:parOk e) (hl:e.par.length≤100000) (hg:¬gap e) :
  evFun (clOf (modsR tab (k+7)) 3) s258 [I d,scD s,evD e]=some (scD (tdoS d s e),[]):=by
 have w260:=fun q=>sp260 q d hd e
 rw [←knows_ref d e hd hg] at w260
 obtain ⟨ek,er,ep,ei,ef,ps,et⟩:=e
 by_cases c1:knowsM d ⟨ek,er,ep,ei,ef,ps,et⟩=false
 ·have e1:tdoS d s ⟨ek,er,ep,ei,ef,ps,et⟩=s:=by unfold tdoS;rw [if_pos c1]
  rw [e1,evFun_evB rfl]
  rw [c1] at w260
  unfold s258
  simp -implicitDefEqProofs [cw260,cr260,w260]
 rw [Bool.not_eq_false] at c1
 rw [c1] at w260
 by_cases c2:d=3∧ek=3
 ·obtain ⟨rfl,rfl⟩:=c2
  have e1:tdoS 3 s ⟨3,er,ep,ei,ef,ps,et⟩=smallS s ef:=by unfold tdoS;rw [if_neg (by rw [c1];simp),if_pos ⟨rfl,rfl⟩]
  have w277:=fun q=>sp277 q s o r ef (kn_3 c1 rfl)
  rw [e1]
  generalize smallS s ef=S' at *
  rw [evFun_evB rfl]
  unfold s258
  simp -implicitDefEqProofs [cw260,cr260,w260,cw277,cr277,w277]
 by_cases c4:ek=4
 ·subst c4
  by_cases c5:ef=109
  ·subst c5
   exact sp258m k d hd s o r er ep ei ps et hr hp hl c1 w260
  by_cases c6:ep=63
  ·subst c6
   exact sp258q k d hd s o r er ei ef ps et hr hp hl c1 w260
  have e1:=ref_0 d s _ c1 c2 (.inr ⟨c5,c6⟩)
  have w284:=fun q=>sp284 q s o r ⟨4,er,ep,ei,ef,ps,et⟩ hr hp hl
  rw [e1]
  generalize doS s ⟨4,er,ep,ei,ef,ps,et⟩=S' at *
  rw [evFun_evB rfl]
  unfold s258
  by_cases c3:d=3
  ·subst c3
   simp -implicitDefEqProofs [cw260,cr260,w260,c5,c6,cw284,cr284,w284]
  ·simp -implicitDefEqProofs [cw260,cr260,w260,c3,c5,c6,cw284,cr284,w284]
 ·have e1:=ref_0 d s _ c1 c2 (.inl c4)
  have w284:=fun q=>sp284 q s o r ⟨ek,er,ep,ei,ef,ps,et⟩ hr hp hl
  rw [e1]
  generalize doS s ⟨ek,er,ep,ei,ef,ps,et⟩=S' at *
  rw [evFun_evB rfl]
  unfold s258
  by_cases c3:d=3
  ·subst c3
   have c7:¬ek=3:=fun h=>c2 ⟨rfl,h⟩
   simp -implicitDefEqProofs [cw260,cr260,w260,c4,c7,cw284,cr284,w284]
  ·simp -implicitDefEqProofs [cw260,cr260,w260,c3,c4,cw284,cr284,w284]
end Go.Proofs.YtlpchliomdomdaaGreat.LgTab
