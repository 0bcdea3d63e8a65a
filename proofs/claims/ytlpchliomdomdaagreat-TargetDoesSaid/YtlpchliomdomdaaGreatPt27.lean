import Derived.Test.YtlpchliomdomdaaGreatPt26
namespace Go.Proofs.YtlpchliomdomdaaGreat.LgTab
open Go Lg
set_option linter.unusedVariables false
set_option linter.unusedSimpArgs false
set_option maxRecDepth 8000
theorem set_get (l:List Cel) (i j:Nat) (y z:Cel) (hj:l[j]? = some z):(l.set i y)[j]? = some (if i=j then y else z):=by
 have hl:=(List.getElem?_eq_some_iff.1 hj).1
 rw [List.getElem?_set]
 by_cases e:i=j
 ·rw [if_pos e,if_pos e,if_pos (by omega)]
 ·rw [if_neg e,if_neg e,hj]
set_option maxHeartbeats 8000000 in
theorem sp292_1 (k:Nat) (g:Gd) (o:OkG g) (hgl:g.cells.length≤100000) (r c:Nat) (hr:r<g.h) (x:Int) (hxb : -2147483648≤x∧x≤2147483647) (p:Pn) (hx:widthR x=1) (hc:c+1≤g.w):evFun (clOf (modsR tab (k+2)) 3) s292 [gdD g,I r,I c,R x,pnD p]=some (gdD (setRow g r (refPut (rowL g r) c x 1 p)),[]):=by
 have hl:=rowL_len o hr
 have hw:=o.2.2.2.1
 have w251:=fun q=>sp251 q x hxb
 rw [hx] at w251
 have w313:=fun q=>sp313 q g o r hr
 have w315:=fun q=>sp315 q g o hgl r hr (refPut (rowL g r) c x 1 p) (by rw [refPut_len,hl])
 have c0:¬(r:Int)<0:=by omega
 have c1:¬(g.h:Int)≤r:=by omega
 have c1n:¬g.h≤r:=by omega
 have c2:¬(c:Int)<0:=by omega
 have e1:wr ((c:Int)+1)=(c:Int)+1:=wr_id _ (by omega) (by omega)
 have c3:¬(g.w:Int)<(c:Int)+1:=by omega
 have b1:(rowL g r).length*40≤140737488355328:=by omega
 obtain ⟨⟨ycr,yck,⟨ycf,ycb,ycg⟩⟩,hyc⟩:=get_ex (l:=rowL g r) (i:=c) (by omega)
 have kc:=kAt_some hyc
 obtain ⟨pf,pb,pg⟩:=p
 generalize setRow g r (refPut (rowL g r) c x 1 ⟨pf,pb,pg⟩)=G' at *
 generalize hL:rowL g r=L at *
 have ac:=celsD_at hyc
 have f0:=celsD_getD hyc
 have hcl:c<L.length:=by omega
 have e2:wr ((c:Int)-1)=(c:Int)-1:=wr_id _ (by omega) (by omega)
 have e5:wr (c:Int)=c:=wr_id _ (by omega) (by omega)
 obtain ⟨L2,s2⟩:∃ L2,L.set c ⟨x,0,⟨pf,pb,pg⟩⟩=L2:=⟨_,rfl⟩
 have q2:∀ (j:Nat) z,L[j]? = some z→c≠j→L2[j]? = some z:=by
  intro j z hj n1
  have h2:=set_get L c j ⟨x,0,⟨pf,pb,pg⟩⟩ z hj
  rw [s2,if_neg n1] at h2
  exact h2
 have l2:L2.length=L.length:=by rw [←s2];simp
 have e4:wr ((c:Int)+1-1)=(c:Int):=by rw [wr_id _ (by omega) (by omega)];omega
 have tk2:L2.take L.length=L2:=List.take_of_length_le (by omega)
 rw [evFun_evB rfl]
 unfold s292
 by_cases ha:0<c
 ·have hap:(0:Int)<c:=by omega
  have hap2:=ha
  by_cases ka:yck=2
  ·obtain ⟨⟨ypr,ypk,⟨ypf,ypb,ypg⟩⟩,hyp⟩:=get_ex (l:=L) (i:=c-1) (by omega)
   have gp:=getD_of hyp
   have w283p:=fun q=>sp283 q ⟨ypf,ypb,ypg⟩
   obtain ⟨d,hd⟩:∃ d,d=c-1:=⟨_,rfl⟩
   have ep:wr ((c:Int)-1)=(d:Int):=by rw [e2];omega
   clear e2
   rw [←hd] at hyp gp
   have ap:=celsD_at hyp
   have np:d<L.length:=by omega
   have qp:=q2 _ _ hyp (by omega)
   have fp:=celsD_getD qp
   obtain ⟨L3,s3⟩:∃ L3,L2.set d ⟨32,0,⟨ypf,ypb,ypg⟩⟩=L3:=⟨_,rfl⟩
   have l3:L3.length=L.length:=by rw [←s3];simp [l2]
   have tk3:L3.take L.length=L3:=List.take_of_length_le (by omega)
   by_cases hb:c+1<L.length
   ·have hb':(c:Int)+1<g.w:=by omega
    have tb:((c:Int)+1).toNat=c+1:=by omega
    have nb:(0:Int)≤(c:Int)+1:=by omega
    by_cases kb:yck=1
    ·exact absurd (ka.symm.trans kb) (by decide)
    ·have eR:refPut L c x 1 ⟨pf,pb,pg⟩=L3:=by
      rw [←s3]
      unfold refPut
      simp only [kc,Nat.add_sub_cancel,show c+2-1=c+1 by omega,show ¬(2:Int)=1 by decide,show ¬(1:Int)=2 by decide,ha,ka,←hd,gp,kb,blankC,if_true,if_false,and_false,and_self,true_and,show ¬(1:Nat)=2 by decide,s2]
     rw [eR] at w315
     simp -implicitDefEqProofs [tk2,cw251,cr251,w251,c0,c1,c1n,c2,e1,c3,cw313,cr313,w313,b1,ac,f0,s2,l2,hcl,hap,hap2,eq_true ka,ap,fp,w283p,s3,l3,tk3,ep,np,hb,hb',tb,nb,kb,e4,e5,cw283,cr283,cw315,cr315,w315,blankC]
   ·have hb':¬(c:Int)+1<g.w:=by omega
    have eR:refPut L c x 1 ⟨pf,pb,pg⟩=L3:=by
     rw [←s3]
     unfold refPut
     simp only [kc,Nat.add_sub_cancel,show c+2-1=c+1 by omega,show ¬(2:Int)=1 by decide,show ¬(1:Int)=2 by decide,ha,ka,←hd,gp,hb,blankC,if_true,if_false,false_and,and_self,true_and,show ¬(1:Nat)=2 by decide,s2]
    rw [eR] at w315
    simp -implicitDefEqProofs [tk2,cw251,cr251,w251,c0,c1,c1n,c2,e1,c3,cw313,cr313,w313,b1,ac,f0,s2,l2,hcl,hap,hap2,eq_true ka,ap,fp,w283p,s3,l3,tk3,ep,np,hb,hb',cw283,cr283,cw315,cr315,w315,blankC]
  ·by_cases hb:c+1<L.length
   ·have hb':(c:Int)+1<g.w:=by omega
    have tb:((c:Int)+1).toNat=c+1:=by omega
    have nb:(0:Int)≤(c:Int)+1:=by omega
    by_cases kb:yck=1
    ·obtain ⟨⟨ynr,ynk,⟨ynf,ynb,yng⟩⟩,hyn⟩:=get_ex (l:=L) (i:=c+1) hb
     have an:=celsD_at hyn
     have gn:=getD_of hyn
     have w283n:=fun q=>sp283 q ⟨ynf,ynb,yng⟩
     have qn:=q2 _ _ hyn (by omega)
     have fn:=celsD_getD qn
     obtain ⟨L4,s4⟩:∃ L4,L2.set (c+1) ⟨32,0,⟨ynf,ynb,yng⟩⟩=L4:=⟨_,rfl⟩
     have eR:refPut L c x 1 ⟨pf,pb,pg⟩=L4:=by
      rw [←s4]
      unfold refPut
      simp only [kc,Nat.add_sub_cancel,show c+2-1=c+1 by omega,show ¬(2:Int)=1 by decide,show ¬(1:Int)=2 by decide,ha,ka,and_false,hb,kb,gn,blankC,if_true,if_false,and_self,true_and,show ¬(1:Nat)=2 by decide,s2]
     rw [eR] at w315
     have l4:L4.length=L.length:=by rw [←s4];simp [l2]
     have tk4:L4.take L.length=L4:=List.take_of_length_le (by omega)
     simp -implicitDefEqProofs [tk2,cw251,cr251,w251,c0,c1,c1n,c2,e1,c3,cw313,cr313,w313,b1,ac,f0,s2,l2,hcl,hap,hap2,ka,hb,hb',tb,nb,eq_true kb,e4,e5,an,cw283,cr283,w283n,fn,s4,l4,tk4,cw315,cr315,w315,blankC]
    ·have eR:refPut L c x 1 ⟨pf,pb,pg⟩=L2:=by
      skip
      unfold refPut
      simp only [kc,Nat.add_sub_cancel,show c+2-1=c+1 by omega,show ¬(2:Int)=1 by decide,show ¬(1:Int)=2 by decide,ha,ka,and_false,kb,blankC,if_true,if_false,and_false,and_self,true_and,show ¬(1:Nat)=2 by decide,s2]
     rw [eR] at w315
     simp -implicitDefEqProofs [tk2,cw251,cr251,w251,c0,c1,c1n,c2,e1,c3,cw313,cr313,w313,b1,ac,f0,s2,l2,hcl,hap,hap2,ka,hb,hb',tb,nb,kb,e4,e5,cw283,cr283,cw315,cr315,w315,blankC]
   ·have hb':¬(c:Int)+1<g.w:=by omega
    have eR:refPut L c x 1 ⟨pf,pb,pg⟩=L2:=by
     skip
     unfold refPut
     simp only [kc,Nat.add_sub_cancel,show c+2-1=c+1 by omega,show ¬(2:Int)=1 by decide,show ¬(1:Int)=2 by decide,ha,ka,and_false,hb,blankC,if_true,if_false,false_and,and_self,true_and,show ¬(1:Nat)=2 by decide,s2]
    rw [eR] at w315
    simp -implicitDefEqProofs [tk2,cw251,cr251,w251,c0,c1,c1n,c2,e1,c3,cw313,cr313,w313,b1,ac,f0,s2,l2,hcl,hap,hap2,ka,hb,hb',cw283,cr283,cw315,cr315,w315,blankC]
 ·have hap:¬(0:Int)<c:=by omega
  have hap2:=ha
  by_cases hb:c+1<L.length
  ·have hb':(c:Int)+1<g.w:=by omega
   have tb:((c:Int)+1).toNat=c+1:=by omega
   have nb:(0:Int)≤(c:Int)+1:=by omega
   by_cases kb:yck=1
   ·obtain ⟨⟨ynr,ynk,⟨ynf,ynb,yng⟩⟩,hyn⟩:=get_ex (l:=L) (i:=c+1) hb
    have an:=celsD_at hyn
    have gn:=getD_of hyn
    have w283n:=fun q=>sp283 q ⟨ynf,ynb,yng⟩
    have qn:=q2 _ _ hyn (by omega)
    have fn:=celsD_getD qn
    obtain ⟨L4,s4⟩:∃ L4,L2.set (c+1) ⟨32,0,⟨ynf,ynb,yng⟩⟩=L4:=⟨_,rfl⟩
    have eR:refPut L c x 1 ⟨pf,pb,pg⟩=L4:=by
     rw [←s4]
     unfold refPut
     simp only [kc,Nat.add_sub_cancel,show c+2-1=c+1 by omega,show ¬(2:Int)=1 by decide,show ¬(1:Int)=2 by decide,ha,false_and,hb,kb,gn,blankC,if_true,if_false,and_self,true_and,show ¬(1:Nat)=2 by decide,s2]
    rw [eR] at w315
    have l4:L4.length=L.length:=by rw [←s4];simp [l2]
    have tk4:L4.take L.length=L4:=List.take_of_length_le (by omega)
    simp -implicitDefEqProofs [tk2,cw251,cr251,w251,c0,c1,c1n,c2,e1,c3,cw313,cr313,w313,b1,ac,f0,s2,l2,hcl,hap,hap2,hb,hb',tb,nb,eq_true kb,e4,e5,an,cw283,cr283,w283n,fn,s4,l4,tk4,cw315,cr315,w315,blankC]
   ·have eR:refPut L c x 1 ⟨pf,pb,pg⟩=L2:=by
     skip
     unfold refPut
     simp only [kc,Nat.add_sub_cancel,show c+2-1=c+1 by omega,show ¬(2:Int)=1 by decide,show ¬(1:Int)=2 by decide,ha,false_and,kb,blankC,if_true,if_false,and_false,and_self,true_and,show ¬(1:Nat)=2 by decide,s2]
    rw [eR] at w315
    simp -implicitDefEqProofs [tk2,cw251,cr251,w251,c0,c1,c1n,c2,e1,c3,cw313,cr313,w313,b1,ac,f0,s2,l2,hcl,hap,hap2,hb,hb',tb,nb,kb,e4,e5,cw283,cr283,cw315,cr315,w315,blankC]
  ·have hb':¬(c:Int)+1<g.w:=by omega
   have eR:refPut L c x 1 ⟨pf,pb,pg⟩=L2:=by
    skip
    unfold refPut
    simp only [kc,Nat.add_sub_cancel,show c+2-1=c+1 by omega,show ¬(2:Int)=1 by decide,show ¬(1:Int)=2 by decide,ha,false_and,hb,blankC,if_true,if_false,false_and,and_self,true_and,show ¬(1:Nat)=2 by decide,s2]
   rw [eR] at w315
   simp -implicitDefEqProofs [tk2,cw251,cr251,w251,c0,c1,c1n,c2,e1,c3,cw313,cr313,w313,b1,ac,f0,s2,l2,hcl,hap,hap2,hb,hb',cw283,cr283,cw315,cr315,w315,blankC]
set_option maxHeartbeats 8000000 in
theorem sp292_2 (k:Nat) (g:Gd) (o:OkG g) (hgl:g.cells.length≤100000) (r c:Nat) (hr:r<g.h) (x:Int) (hxb : -2147483648≤x∧x≤2147483647) (p:Pn) (hx:widthR x=2) (hc:c+2≤g.w):evFun (clOf (modsR tab (k+2)) 3) s292 [gdD g,I r,I c,R x,pnD p]=some (gdD (setRow g r (refPut (rowL g r) c x 2 p)),[]):=by
 have hl:=rowL_len o hr
 have hw:=o.2.2.2.1
 have w251:=fun q=>sp251 q x hxb
 rw [hx] at w251
 have w313:=fun q=>sp313 q g o r hr
 have w315:=fun q=>sp315 q g o hgl r hr (refPut (rowL g r) c x 2 p) (by rw [refPut_len,hl])
 have c0:¬(r:Int)<0:=by omega
 have c1:¬(g.h:Int)≤r:=by omega
 have c1n:¬g.h≤r:=by omega
 have c2:¬(c:Int)<0:=by omega
 have e1:wr ((c:Int)+2)=(c:Int)+2:=wr_id _ (by omega) (by omega)
 have c3:¬(g.w:Int)<(c:Int)+2:=by omega
 have b1:(rowL g r).length*40≤140737488355328:=by omega
 obtain ⟨⟨ycr,yck,⟨ycf,ycb,ycg⟩⟩,hyc⟩:=get_ex (l:=rowL g r) (i:=c) (by omega)
 have kc:=kAt_some hyc
 obtain ⟨pf,pb,pg⟩:=p
 generalize setRow g r (refPut (rowL g r) c x 2 ⟨pf,pb,pg⟩)=G' at *
 generalize hL:rowL g r=L at *
 have ac:=celsD_at hyc
 have f0:=celsD_getD hyc
 have hcl:c<L.length:=by omega
 have e2:wr ((c:Int)-1)=(c:Int)-1:=wr_id _ (by omega) (by omega)
 have e5:wr (c:Int)=c:=wr_id _ (by omega) (by omega)
 have e3:wr ((c:Int)+1)=(c:Int)+1:=wr_id _ (by omega) (by omega)
 have t3:((c:Int)+1).toNat=c+1:=by omega
 have n3:(0:Int)≤(c:Int)+1:=by omega
 have e4:wr ((c:Int)+2-1)=(c:Int)+1:=by rw [wr_id _ (by omega) (by omega)];omega
 have hcl1:c+1<L.length:=by omega
 obtain ⟨⟨y1r,y1k,⟨y1f,y1b,y1g⟩⟩,hy1⟩:=get_ex (l:=L) (i:=c+1) hcl1
 have k1:=kAt_some hy1
 have a1:=celsD_at hy1
 obtain ⟨L0,s0⟩:∃ L0,L.set c ⟨x,0,⟨pf,pb,pg⟩⟩=L0:=⟨_,rfl⟩
 have q0:L0[c]? = some ⟨x,0,⟨pf,pb,pg⟩⟩:=by rw [←s0,set_get L c c _ _ hyc,if_pos rfl]
 have f1:=celsD_getD q0
 have f1a:=celsD_at q0
 obtain ⟨L1,s1⟩:∃ L1,L0.set c ⟨x,1,⟨pf,pb,pg⟩⟩=L1:=⟨_,rfl⟩
 have q1:∀ (j:Nat) z,L[j]? = some z→L1[j]? = some (if c=j then ⟨x,1,⟨pf,pb,pg⟩⟩ else z):=by
  intro j z hj
  have h0:=set_get L c j ⟨x,0,⟨pf,pb,pg⟩⟩ z hj
  rw [s0] at h0
  have h1:=set_get L0 c j ⟨x,1,⟨pf,pb,pg⟩⟩ _ h0
  rw [s1] at h1
  rw [h1]
  by_cases e:c=j
  ·rw [if_pos e,if_pos e]
  ·rw [if_neg e,if_neg e,if_neg e]
 have l0:L0.length=L.length:=by rw [←s0];simp
 have l1:L1.length=L.length:=by rw [←s1];simp [l0]
 have f2:=celsD_getD (q1 (c+1) _ hy1)
 rw [if_neg (by omega)] at f2
 obtain ⟨L2,s2⟩:∃ L2,L1.set (c+1) ⟨0,2,⟨pf,pb,pg⟩⟩=L2:=⟨_,rfl⟩
 have q2:∀ (j:Nat) z,L[j]? = some z→c≠j→c+1≠j→L2[j]? = some z:=by
  intro j z hj n1 n2
  have h1:=q1 j z hj
  rw [if_neg n1] at h1
  have h2:=set_get L1 (c+1) j ⟨0,2,⟨pf,pb,pg⟩⟩ z h1
  rw [s2,if_neg n2] at h2
  exact h2
 have l2:L2.length=L.length:=by rw [←s2];simp [l1]
 have eL2:(L.set c ⟨x,1,⟨pf,pb,pg⟩⟩).set (c+1) ⟨0,2,⟨pf,pb,pg⟩⟩=L2:=by rw [←s2,←s1,←s0,List.set_set]
 have tk2:L2.take L.length=L2:=List.take_of_length_le (by omega)
 rw [evFun_evB rfl]
 unfold s292
 by_cases ha:0<c
 ·have hap:(0:Int)<c:=by omega
  have hap2:=ha
  by_cases ka:yck=2
  ·obtain ⟨⟨ypr,ypk,⟨ypf,ypb,ypg⟩⟩,hyp⟩:=get_ex (l:=L) (i:=c-1) (by omega)
   have gp:=getD_of hyp
   have w283p:=fun q=>sp283 q ⟨ypf,ypb,ypg⟩
   obtain ⟨d,hd⟩:∃ d,d=c-1:=⟨_,rfl⟩
   have ep:wr ((c:Int)-1)=(d:Int):=by rw [e2];omega
   clear e2
   rw [←hd] at hyp gp
   have ap:=celsD_at hyp
   have np:d<L.length:=by omega
   have qp:=q2 _ _ hyp (by omega) (by omega)
   have fp:=celsD_getD qp
   obtain ⟨L3,s3⟩:∃ L3,L2.set d ⟨32,0,⟨ypf,ypb,ypg⟩⟩=L3:=⟨_,rfl⟩
   have l3:L3.length=L.length:=by rw [←s3];simp [l2]
   have tk3:L3.take L.length=L3:=List.take_of_length_le (by omega)
   by_cases hb:c+2<L.length
   ·have hb':(c:Int)+2<g.w:=by omega
    have tb:((c:Int)+2).toNat=c+2:=by omega
    have nb:(0:Int)≤(c:Int)+2:=by omega
    by_cases kb:y1k=1
    ·obtain ⟨⟨ynr,ynk,⟨ynf,ynb,yng⟩⟩,hyn⟩:=get_ex (l:=L) (i:=c+2) hb
     have an:=celsD_at hyn
     have gn:=getD_of hyn
     have w283n:=fun q=>sp283 q ⟨ynf,ynb,yng⟩
     have qn:=q2 _ _ hyn (by omega) (by omega)
     have qn3:L3[c+2]? = some ⟨ynr,ynk,⟨ynf,ynb,yng⟩⟩:=by rw [←s3,set_get L2 _ _ _ _ qn,if_neg (by omega)]
     have fn:=celsD_getD qn3
     obtain ⟨L4,s4⟩:∃ L4,L3.set (c+2) ⟨32,0,⟨ynf,ynb,yng⟩⟩=L4:=⟨_,rfl⟩
     have eR:refPut L c x 2 ⟨pf,pb,pg⟩=L4:=by
      rw [←s4,←s3]
      unfold refPut
      simp only [kc,k1,Nat.add_sub_cancel,show c+2-1=c+1 by omega,show ¬(2:Int)=1 by decide,show ¬(1:Int)=2 by decide,ha,ka,←hd,gp,hb,kb,gn,blankC,if_true,if_false,and_self,true_and,eL2]
     rw [eR] at w315
     have l4:L4.length=L.length:=by rw [←s4];simp [l2,l3]
     have tk4:L4.take L.length=L4:=List.take_of_length_le (by omega)
     simp -implicitDefEqProofs [tk2,cw251,cr251,w251,c0,c1,c1n,c2,e1,c3,cw313,cr313,w313,b1,ac,f0,f1,f1a,f2,s0,s1,s2,l0,l1,l2,hcl,hcl1,a1,e3,t3,n3,hap,hap2,eq_true ka,ap,fp,w283p,s3,l3,tk3,ep,np,hb,hb',tb,nb,eq_true kb,e4,e5,an,cw283,cr283,w283n,fn,s4,l4,tk4,cw315,cr315,w315,blankC]
    ·have eR:refPut L c x 2 ⟨pf,pb,pg⟩=L3:=by
      rw [←s3]
      unfold refPut
      simp only [kc,k1,Nat.add_sub_cancel,show c+2-1=c+1 by omega,show ¬(2:Int)=1 by decide,show ¬(1:Int)=2 by decide,ha,ka,←hd,gp,kb,blankC,if_true,if_false,and_false,and_self,true_and,eL2]
     rw [eR] at w315
     simp -implicitDefEqProofs [tk2,cw251,cr251,w251,c0,c1,c1n,c2,e1,c3,cw313,cr313,w313,b1,ac,f0,f1,f1a,f2,s0,s1,s2,l0,l1,l2,hcl,hcl1,a1,e3,t3,n3,hap,hap2,eq_true ka,ap,fp,w283p,s3,l3,tk3,ep,np,hb,hb',tb,nb,kb,e4,e5,cw283,cr283,cw315,cr315,w315,blankC]
   ·have hb':¬(c:Int)+2<g.w:=by omega
    have eR:refPut L c x 2 ⟨pf,pb,pg⟩=L3:=by
     rw [←s3]
     unfold refPut
     simp only [kc,k1,Nat.add_sub_cancel,show c+2-1=c+1 by omega,show ¬(2:Int)=1 by decide,show ¬(1:Int)=2 by decide,ha,ka,←hd,gp,hb,blankC,if_true,if_false,false_and,and_self,true_and,eL2]
    rw [eR] at w315
    simp -implicitDefEqProofs [tk2,cw251,cr251,w251,c0,c1,c1n,c2,e1,c3,cw313,cr313,w313,b1,ac,f0,f1,f1a,f2,s0,s1,s2,l0,l1,l2,hcl,hcl1,a1,e3,t3,n3,hap,hap2,eq_true ka,ap,fp,w283p,s3,l3,tk3,ep,np,hb,hb',cw283,cr283,cw315,cr315,w315,blankC]
  ·by_cases hb:c+2<L.length
   ·have hb':(c:Int)+2<g.w:=by omega
    have tb:((c:Int)+2).toNat=c+2:=by omega
    have nb:(0:Int)≤(c:Int)+2:=by omega
    by_cases kb:y1k=1
    ·obtain ⟨⟨ynr,ynk,⟨ynf,ynb,yng⟩⟩,hyn⟩:=get_ex (l:=L) (i:=c+2) hb
     have an:=celsD_at hyn
     have gn:=getD_of hyn
     have w283n:=fun q=>sp283 q ⟨ynf,ynb,yng⟩
     have qn:=q2 _ _ hyn (by omega) (by omega)
     have fn:=celsD_getD qn
     obtain ⟨L4,s4⟩:∃ L4,L2.set (c+2) ⟨32,0,⟨ynf,ynb,yng⟩⟩=L4:=⟨_,rfl⟩
     have eR:refPut L c x 2 ⟨pf,pb,pg⟩=L4:=by
      rw [←s4]
      unfold refPut
      simp only [kc,k1,Nat.add_sub_cancel,show c+2-1=c+1 by omega,show ¬(2:Int)=1 by decide,show ¬(1:Int)=2 by decide,ha,ka,and_false,hb,kb,gn,blankC,if_true,if_false,and_self,true_and,eL2]
     rw [eR] at w315
     have l4:L4.length=L.length:=by rw [←s4];simp [l2]
     have tk4:L4.take L.length=L4:=List.take_of_length_le (by omega)
     simp -implicitDefEqProofs [tk2,cw251,cr251,w251,c0,c1,c1n,c2,e1,c3,cw313,cr313,w313,b1,ac,f0,f1,f1a,f2,s0,s1,s2,l0,l1,l2,hcl,hcl1,a1,e3,t3,n3,hap,hap2,ka,hb,hb',tb,nb,eq_true kb,e4,e5,an,cw283,cr283,w283n,fn,s4,l4,tk4,cw315,cr315,w315,blankC]
    ·have eR:refPut L c x 2 ⟨pf,pb,pg⟩=L2:=by
      skip
      unfold refPut
      simp only [kc,k1,Nat.add_sub_cancel,show c+2-1=c+1 by omega,show ¬(2:Int)=1 by decide,show ¬(1:Int)=2 by decide,ha,ka,and_false,kb,blankC,if_true,if_false,and_false,and_self,true_and,eL2]
     rw [eR] at w315
     simp -implicitDefEqProofs [tk2,cw251,cr251,w251,c0,c1,c1n,c2,e1,c3,cw313,cr313,w313,b1,ac,f0,f1,f1a,f2,s0,s1,s2,l0,l1,l2,hcl,hcl1,a1,e3,t3,n3,hap,hap2,ka,hb,hb',tb,nb,kb,e4,e5,cw283,cr283,cw315,cr315,w315,blankC]
   ·have hb':¬(c:Int)+2<g.w:=by omega
    have eR:refPut L c x 2 ⟨pf,pb,pg⟩=L2:=by
     skip
     unfold refPut
     simp only [kc,k1,Nat.add_sub_cancel,show c+2-1=c+1 by omega,show ¬(2:Int)=1 by decide,show ¬(1:Int)=2 by decide,ha,ka,and_false,hb,blankC,if_true,if_false,false_and,and_self,true_and,eL2]
    rw [eR] at w315
    simp -implicitDefEqProofs [tk2,cw251,cr251,w251,c0,c1,c1n,c2,e1,c3,cw313,cr313,w313,b1,ac,f0,f1,f1a,f2,s0,s1,s2,l0,l1,l2,hcl,hcl1,a1,e3,t3,n3,hap,hap2,ka,hb,hb',cw283,cr283,cw315,cr315,w315,blankC]
 ·have hap:¬(0:Int)<c:=by omega
  have hap2:=ha
  by_cases hb:c+2<L.length
  ·have hb':(c:Int)+2<g.w:=by omega
   have tb:((c:Int)+2).toNat=c+2:=by omega
   have nb:(0:Int)≤(c:Int)+2:=by omega
   by_cases kb:y1k=1
   ·obtain ⟨⟨ynr,ynk,⟨ynf,ynb,yng⟩⟩,hyn⟩:=get_ex (l:=L) (i:=c+2) hb
    have an:=celsD_at hyn
    have gn:=getD_of hyn
    have w283n:=fun q=>sp283 q ⟨ynf,ynb,yng⟩
    have qn:=q2 _ _ hyn (by omega) (by omega)
    have fn:=celsD_getD qn
    obtain ⟨L4,s4⟩:∃ L4,L2.set (c+2) ⟨32,0,⟨ynf,ynb,yng⟩⟩=L4:=⟨_,rfl⟩
    have eR:refPut L c x 2 ⟨pf,pb,pg⟩=L4:=by
     rw [←s4]
     unfold refPut
     simp only [kc,k1,Nat.add_sub_cancel,show c+2-1=c+1 by omega,show ¬(2:Int)=1 by decide,show ¬(1:Int)=2 by decide,ha,false_and,hb,kb,gn,blankC,if_true,if_false,and_self,true_and,eL2]
    rw [eR] at w315
    have l4:L4.length=L.length:=by rw [←s4];simp [l2]
    have tk4:L4.take L.length=L4:=List.take_of_length_le (by omega)
    simp -implicitDefEqProofs [tk2,cw251,cr251,w251,c0,c1,c1n,c2,e1,c3,cw313,cr313,w313,b1,ac,f0,f1,f1a,f2,s0,s1,s2,l0,l1,l2,hcl,hcl1,a1,e3,t3,n3,hap,hap2,hb,hb',tb,nb,eq_true kb,e4,e5,an,cw283,cr283,w283n,fn,s4,l4,tk4,cw315,cr315,w315,blankC]
   ·have eR:refPut L c x 2 ⟨pf,pb,pg⟩=L2:=by
     skip
     unfold refPut
     simp only [kc,k1,Nat.add_sub_cancel,show c+2-1=c+1 by omega,show ¬(2:Int)=1 by decide,show ¬(1:Int)=2 by decide,ha,false_and,kb,blankC,if_true,if_false,and_false,and_self,true_and,eL2]
    rw [eR] at w315
    simp -implicitDefEqProofs [tk2,cw251,cr251,w251,c0,c1,c1n,c2,e1,c3,cw313,cr313,w313,b1,ac,f0,f1,f1a,f2,s0,s1,s2,l0,l1,l2,hcl,hcl1,a1,e3,t3,n3,hap,hap2,hb,hb',tb,nb,kb,e4,e5,cw283,cr283,cw315,cr315,w315,blankC]
  ·have hb':¬(c:Int)+2<g.w:=by omega
   have eR:refPut L c x 2 ⟨pf,pb,pg⟩=L2:=by
    skip
    unfold refPut
    simp only [kc,k1,Nat.add_sub_cancel,show c+2-1=c+1 by omega,show ¬(2:Int)=1 by decide,show ¬(1:Int)=2 by decide,ha,false_and,hb,blankC,if_true,if_false,false_and,and_self,true_and,eL2]
   rw [eR] at w315
   simp -implicitDefEqProofs [tk2,cw251,cr251,w251,c0,c1,c1n,c2,e1,c3,cw313,cr313,w313,b1,ac,f0,f1,f1a,f2,s0,s1,s2,l0,l1,l2,hcl,hcl1,a1,e3,t3,n3,hap,hap2,hb,hb',cw283,cr283,cw315,cr315,w315,blankC]
theorem sp292 (k:Nat) (g:Gd) (h:RightG g) (hgl:g.cells.length≤100000) (r c:Nat) (hr:r<g.h) (x:Int) (hxb : -2147483648≤x∧x≤2147483647) (p:Pn) (hx:widthR x=1∨widthR x=2) (hc:(c:Int)+widthR x≤g.w):evFun (clOf (modsR tab (k+2)) 3) s292 [gdD g,I r,I c,R x,pnD p]=some (gdD (putG g r c x p),[]):=by
 have hl:=rowL_len h.1 hr
 have hrow:=h.row hr
 unfold putG
 rcases hx with hx | hx
 ·rw [hx] at hc ⊢
  have e:=put_ref hrow c x 1 (.inl rfl) (by omega) p
  have e1:((1:Nat):Int)=1:=rfl
  rw [e1] at e
  rw [e]
  exact sp292_1 k g h.1 hgl r c hr x hxb p hx (by omega)
 ·rw [hx] at hc ⊢
  have e:=put_ref hrow c x 2 (.inr rfl) (by omega) p
  have e1:((2:Nat):Int)=2:=rfl
  rw [e1] at e
  rw [e]
  exact sp292_2 k g h.1 hgl r c hr x hxb p hx (by omega)
end Go.Proofs.YtlpchliomdomdaaGreat.LgTab
