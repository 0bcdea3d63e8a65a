import Derived.Test.YtlpchliomdomdaaGreatPt36
namespace Go.Proofs.YtlpchliomdomdaaGreat.LgTab
open Go Lg
set_option linter.unusedVariables false
set_option linter.unusedSimpArgs false
set_option maxRecDepth 8000
set_option maxHeartbeats 8000000 in
theorem sp302_104 (k:Nat) (s:Sc) (o:OkS s) (ek er:Int) (l:List Int) (et:List UInt8) (hl:l.length≤100000):evFun (clOf (modsR tab (k+4)) 3) s302 [scD s,evD ⟨ek,er,63,0,104,some l,et⟩]=some (scD (setTo s l true l.length),[]):=by
 have h0:setTo s l true 0=s:=rfl
 rw [evFun_evB rfl]
 unfold s302
 simp -implicitDefEqProofs [parD]
 refine evB_for (fun i=>[.sl 1 (intsD l),I l.length,I i, .obx (scL (setTo s l true i)), .obx [I ek,R er,U 63,U 0,U 104, .sl 1 (intsD l),S et], .obx zSc]) l.length (.exit 0) [.sl 1 (intsD l),I l.length,I l.length, .obx (scL (setTo s l true l.length)), .obx [I ek,R er,U 63,U 0,U 104, .sl 1 (intsD l),S et], .obx zSc] ?_ (fun i hi=>?_) ?_ (by simp) (by simp [rounds];omega) ?_
 ·simp -implicitDefEqProofs [h0,zSc]
 ·obtain ⟨x,hx⟩:=get_ex hi
  have hs:=setTo_succ s true hx
  have v:=fun q=>sp309 q _ (setTo_ok o l true i) x true
  rw [←hs] at v
  have hlt:(i:Int)<l.length:=by omega
  have hg:=intsD_at hx
  generalize setTo s l true (i+1)=S' at *
  generalize setTo s l true i=S2 at *
  simp -implicitDefEqProofs [hlt,hi,hg,cw309,cr309,v,wr_id ((i:Int)+1) (by omega) (by omega),zSc]
 ·generalize setTo s l true l.length=S'
  simp -implicitDefEqProofs [zSc]
 ·generalize setTo s l true l.length=S'
  simp -implicitDefEqProofs [zSc]
set_option maxHeartbeats 8000000 in
theorem sp302_108 (k:Nat) (s:Sc) (o:OkS s) (ek er:Int) (l:List Int) (et:List UInt8) (hl:l.length≤100000):evFun (clOf (modsR tab (k+4)) 3) s302 [scD s,evD ⟨ek,er,63,0,108,some l,et⟩]=some (scD (setTo s l false l.length),[]):=by
 have h0:setTo s l false 0=s:=rfl
 rw [evFun_evB rfl]
 unfold s302
 simp -implicitDefEqProofs [parD]
 refine evB_for (fun i=>[.sl 1 (intsD l),I l.length,I i, .obx (scL (setTo s l false i)), .obx [I ek,R er,U 63,U 0,U 108, .sl 1 (intsD l),S et], .obx zSc]) l.length (.exit 0) [.sl 1 (intsD l),I l.length,I l.length, .obx (scL (setTo s l false l.length)), .obx [I ek,R er,U 63,U 0,U 108, .sl 1 (intsD l),S et], .obx zSc] ?_ (fun i hi=>?_) ?_ (by simp) (by simp [rounds];omega) ?_
 ·simp -implicitDefEqProofs [h0,zSc]
 ·obtain ⟨x,hx⟩:=get_ex hi
  have hs:=setTo_succ s false hx
  have v:=fun q=>sp309 q _ (setTo_ok o l false i) x false
  rw [←hs] at v
  have hlt:(i:Int)<l.length:=by omega
  have hg:=intsD_at hx
  generalize setTo s l false (i+1)=S' at *
  generalize setTo s l false i=S2 at *
  simp -implicitDefEqProofs [hlt,hi,hg,cw309,cr309,v,wr_id ((i:Int)+1) (by omega) (by omega),zSc]
 ·generalize setTo s l false l.length=S'
  simp -implicitDefEqProofs [zSc]
 ·generalize setTo s l false l.length=S'
  simp -implicitDefEqProofs [zSc]
set_option maxHeartbeats 8000000 in
theorem sp302_63n (k:Nat) (s:Sc) (o:OkS s) (ek er f:Int) (et:List UInt8):evFun (clOf (modsR tab (k+4)) 3) s302 [scD s,evD ⟨ek,er,63,0,f,none,et⟩]=some (scD s,[]):=by
 rw [evFun_evB rfl]
 unfold s302
 simp -implicitDefEqProofs [parD]
 refine evB_for (fun i=>[.sn,I 0,I 0, .obx (scL s), .obx [I ek,R er,U 63,U 0,U f, .sn,S et], .obx zSc]) 0 (.exit 0) [.sn,I 0,I 0, .obx (scL s), .obx [I ek,R er,U 63,U 0,U f, .sn,S et], .obx zSc] ?_ (fun i hi=>by omega) ?_ (by simp) (by simp [rounds]) ?_
 ·simp -implicitDefEqProofs [zSc]
 ·simp -implicitDefEqProofs [zSc]
 ·simp -implicitDefEqProofs [zSc]
set_option maxHeartbeats 8000000 in
theorem sp302_63o (k:Nat) (s:Sc) (o:OkS s) (ek er f:Int) (c1:f≠104) (c2:f≠108) (l:List Int) (et:List UInt8) (hl:l.length≤100000):evFun (clOf (modsR tab (k+4)) 3) s302 [scD s,evD ⟨ek,er,63,0,f,some l,et⟩]=some (scD s,[]):=by
 rw [evFun_evB rfl]
 unfold s302
 simp -implicitDefEqProofs [parD]
 refine evB_for (fun i=>[.sl 1 (intsD l),I l.length,I i, .obx (scL s), .obx [I ek,R er,U 63,U 0,U f, .sl 1 (intsD l),S et], .obx zSc]) l.length (.exit 0) [.sl 1 (intsD l),I l.length,I l.length, .obx (scL s), .obx [I ek,R er,U 63,U 0,U f, .sl 1 (intsD l),S et], .obx zSc] ?_ (fun i hi=>?_) ?_ (by simp) (by simp [rounds];omega) ?_
 ·simp -implicitDefEqProofs [zSc]
 ·obtain ⟨x,hx⟩:=get_ex hi
  have hlt:(i:Int)<l.length:=by omega
  have hg:=intsD_at hx
  simp -implicitDefEqProofs [hlt,hi,hg,c1,c2,wr_id ((i:Int)+1) (by omega) (by omega),zSc]
 ·simp -implicitDefEqProofs [zSc]
 ·simp -implicitDefEqProofs [zSc]
theorem sp302_63 (k:Nat) (s:Sc) (o:OkS s) (ek er f:Int) (ps:Option (List Int)) (et:List UInt8) (hl:(ps.getD []).length≤100000):evFun (clOf (modsR tab (k+4)) 3) s302 [scD s,evD ⟨ek,er,63,0,f,ps,et⟩]=some (scD (setS s ⟨ek,er,63,0,f,ps,et⟩),[]):=by
 cases ps with
 | none =>
  rw [sp302_63n k s o ek er f et]
  have e:setS s ⟨ek,er,63,0,f,none,et⟩=s:=by unfold setS;split<;>rfl
  rw [e]
 | some l =>
  by_cases c1:f=104
  ·subst c1
   exact sp302_104 k s o ek er l et hl
  by_cases c2:f=108
  ·subst c2
   exact sp302_108 k s o ek er l et hl
  rw [sp302_63o k s o ek er f c1 c2 l et hl]
  have e:setS s ⟨ek,er,63,0,f,some l,et⟩=s:=by unfold setS;rw [if_neg (fun h=>h.elim c1 c2)]
  rw [e]
set_option maxHeartbeats 8000000 in
theorem sp302 (k:Nat) (s:Sc) (o:OkS s) (r:RightS s) (e:Ev) (hp:parOk e) (hl:e.par.length≤100000):evFun (clOf (modsR tab (k+4)) 3) s302 [scD s,evD e]=some (scD (csiS s e),[]):=by
 obtain ⟨ek,er,ep,ei,ef,ps,et⟩:=e
 by_cases c1:ei=0
 case neg =>
  have ee:csiS s ⟨ek,er,ep,ei,ef,ps,et⟩=s:=by unfold csiS;rw [if_pos c1]
  rw [ee,evFun_evB rfl]
  unfold s302
  simp -implicitDefEqProofs [c1]
 subst c1
 by_cases c2:ep=63
 ·subst c2
  have ee:csiS s ⟨ek,er,63,0,ef,ps,et⟩=setS s ⟨ek,er,63,0,ef,ps,et⟩:=by simp [csiS]
  rw [ee]
  exact sp302_63 k s o ek er ef ps et hl
 by_cases c3:ep=0
 case neg =>
  have ee:csiS s ⟨ek,er,ep,0,ef,ps,et⟩=s:=by simp [csiS,c2,c3]
  rw [ee,evFun_evB rfl]
  unfold s302
  simp -implicitDefEqProofs [c2,c3]
 subst c3
 cases hmv:isMove ef with
 | true =>
  rw [csi_move hmv]
  exact sp302_move k s o ek er ef ps et hp hmv
 | false =>
  by_cases c74:ef=74
  ·subst c74
   have ee:csiS s ⟨ek,er,0,0,74,ps,et⟩=chgS s ⟨ek,er,0,0,74,ps,et⟩:=by simp [csiS,isMove,isChg,isRows];try rfl
   rw [ee]
   exact sp302_74 k s o r ek er ps et hp
  by_cases c75:ef=75
  ·subst c75
   have ee:csiS s ⟨ek,er,0,0,75,ps,et⟩=chgS s ⟨ek,er,0,0,75,ps,et⟩:=by simp [csiS,isMove,isChg,isRows];try rfl
   rw [ee]
   exact sp302_75 k s o r ek er ps et hp
  by_cases c64:ef=64
  ·subst c64
   have ee:csiS s ⟨ek,er,0,0,64,ps,et⟩=chgS s ⟨ek,er,0,0,64,ps,et⟩:=by simp [csiS,isMove,isChg,isRows];try rfl
   rw [ee]
   exact sp302_64 k s o r ek er ps et hp
  by_cases c80:ef=80
  ·subst c80
   have ee:csiS s ⟨ek,er,0,0,80,ps,et⟩=chgS s ⟨ek,er,0,0,80,ps,et⟩:=by simp [csiS,isMove,isChg,isRows];try rfl
   rw [ee]
   exact sp302_80 k s o r ek er ps et hp
  by_cases c88:ef=88
  ·subst c88
   have ee:csiS s ⟨ek,er,0,0,88,ps,et⟩=chgS s ⟨ek,er,0,0,88,ps,et⟩:=by simp [csiS,isMove,isChg,isRows];try rfl
   rw [ee]
   exact sp302_88 k s o r ek er ps et hp
  by_cases c76:ef=76
  ·subst c76
   have ee:csiS s ⟨ek,er,0,0,76,ps,et⟩=rowsS s ⟨ek,er,0,0,76,ps,et⟩:=by simp [csiS,isMove,isChg,isRows];try rfl
   rw [ee]
   exact sp302_76 k s o r ek er ps et hp
  by_cases c77:ef=77
  ·subst c77
   have ee:csiS s ⟨ek,er,0,0,77,ps,et⟩=rowsS s ⟨ek,er,0,0,77,ps,et⟩:=by simp [csiS,isMove,isChg,isRows];try rfl
   rw [ee]
   exact sp302_77 k s o r ek er ps et hp
  by_cases c83:ef=83
  ·subst c83
   have ee:csiS s ⟨ek,er,0,0,83,ps,et⟩=rowsS s ⟨ek,er,0,0,83,ps,et⟩:=by simp [csiS,isMove,isChg,isRows];try rfl
   rw [ee]
   exact sp302_83 k s o r ek er ps et hp
  by_cases c84:ef=84
  ·subst c84
   have ee:csiS s ⟨ek,er,0,0,84,ps,et⟩=rowsS s ⟨ek,er,0,0,84,ps,et⟩:=by simp [csiS,isMove,isChg,isRows];try rfl
   rw [ee]
   exact sp302_84 k s o r ek er ps et hp
  by_cases c109:ef=109
  ·subst c109
   have ee:csiS s ⟨ek,er,0,0,109,ps,et⟩={s with p:=applyM s.p (ps.getD [])}:=by simp [csiS,isMove,isChg,isRows];try rfl
   rw [ee]
   exact sp302_109 k s o r ek er ps et hp hl
  by_cases c114:ef=114
  ·subst c114
   have ee:csiS s ⟨ek,er,0,0,114,ps,et⟩=margS s ⟨ek,er,0,0,114,ps,et⟩:=by simp [csiS,isMove,isChg,isRows];try rfl
   rw [ee]
   exact sp302_114 k s o r ek er ps et hp
  by_cases c103:ef=103
  ·subst c103
   have ee:csiS s ⟨ek,er,0,0,103,ps,et⟩=dropS s (argI (Ev.par ⟨ek,er,0,0,103,ps,et⟩) 0 0 0 65535):=by simp [csiS,isMove,isChg,isRows];try rfl
   rw [ee]
   exact sp302_103 k s o r ek er ps et hp
  by_cases c115:ef=115
  ·subst c115
   have ee:csiS s ⟨ek,er,0,0,115,ps,et⟩=saveS s:=by simp [csiS,isMove,isChg,isRows];try rfl
   rw [ee]
   exact sp302_115 k s o r ek er ps et hp
  by_cases c117:ef=117
  ·subst c117
   have ee:csiS s ⟨ek,er,0,0,117,ps,et⟩=restS s:=by simp [csiS,isMove,isChg,isRows];try rfl
   rw [ee]
   exact sp302_117 k s o r ek er ps et hp
  have ee:csiS s ⟨ek,er,0,0,ef,ps,et⟩=s:=by
   unfold csiS
   simp [hmv,isChg,isRows,c74,c75,c76,c77,c64,c80,c88,c83,c84,c109,c114,c103,c115,c117]
  rw [ee]
  exact sp302_no k s o r ek er ef ps et hp hmv c74 c75 c76 c77 c64 c80 c88 c83 c84 c109 c114 c103 c115 c117
set_option maxHeartbeats 4000000 in
theorem sp284 (k:Nat) (s:Sc) (o:OkS s) (r:RightS s) (e:Ev) (hr : -2147483648≤e.r∧e.r≤2147483647) (hp:parOk e) (hl:e.par.length≤100000):evFun (clOf (modsR tab (k+5)) 3) s284 [scD s,evD e]=some (scD (doS s e),[]):=by
 by_cases c1:e.k=1
 ·have ee:doS s e=printS s e.r:=by unfold doS;rw [if_pos c1]
  have v:=fun q=>sp291 q s o r e.r hr
  rw [ee]
  generalize printS s e.r=S' at *
  rw [evFun_evB rfl]
  unfold s284
  simp -implicitDefEqProofs [eq_true c1,cw291,cr291,v]
 by_cases c2:e.k=2
 ·have ee:doS s e=execS s e.fi:=by unfold doS;rw [if_neg c1,if_pos c2]
  have v:=fun q=>sp305 q s o e.fi
  rw [ee]
  generalize execS s e.fi=S' at *
  rw [evFun_evB rfl]
  unfold s284
  simp -implicitDefEqProofs [c1,eq_true c2,cw305,cr305,v]
 by_cases c3:e.k=3
 ·have ee:doS s e=escS s e:=by unfold doS;rw [if_neg c1,if_neg c2,if_pos c3]
  have v:=fun q=>sp304 q s o e
  rw [ee]
  generalize escS s e=S' at *
  rw [evFun_evB rfl]
  unfold s284
  simp -implicitDefEqProofs [c1,c2,eq_true c3,cw304,cr304,v]
 by_cases c4:e.k=4
 ·have ee:doS s e=csiS s e:=by unfold doS;rw [if_neg c1,if_neg c2,if_neg c3,if_pos c4]
  have v:=fun q=>sp302 q s o r e hp hl
  rw [ee]
  generalize csiS s e=S' at *
  rw [evFun_evB rfl]
  unfold s284
  simp -implicitDefEqProofs [c1,c2,c3,eq_true c4,cw302,cr302,v]
 have ee:doS s e=s:=by unfold doS;rw [if_neg c1,if_neg c2,if_neg c3,if_neg c4]
 rw [ee,evFun_evB rfl]
 unfold s284
 simp -implicitDefEqProofs [c1,c2,c3,c4]
end Go.Proofs.YtlpchliomdomdaaGreat.LgTab
