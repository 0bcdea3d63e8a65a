import Derived.Test.YtlpchliomdomdaaGreatPk37
import Derived.Test.YtlpchliomdomdaaGreatPk20
import Derived.Test.YtlpchliomdomdaaGreatPk24
import Derived.Test.YtlpchliomdomdaaGreatPk19
import Derived.Test.YtlpchliomdomdaaGreatPk5
namespace Go.Proofs.YtlpchliomdomdaaGreat.LgTab
open Go Lg
set_option linter.unusedVariables false
set_option linter.unusedSimpArgs false
set_option maxRecDepth 8000
set_option maxHeartbeats 8000000 in
theorem sp302_104 (k:Nat) (s:Sc) (o:OkS s) (ek er:Int) (l:List Int) (et:List UInt8) (hl:l.length≤100000):evFun (clOf (modsR tab (k+4)) 3) s302 [scD s,evD ⟨ek,er,63,0,104,some l,et⟩]=some (scD (setTo s l true l.length),[]):=by
 have h0:setTo s l true 0=s:=rfl
 rw [evFun_evB rfl]
 unfold s302
 simp -implicitDefEqProofs [parD]
 refine evB_for (fun i=>[.sl 1 (intsD l),I l.length,I i, .obx (scL (setTo s l true i)), .obx [I ek,R er,U 63,U 0,U 104, .sl 1 (intsD l),S et], .obx zSc]) l.length (.exit 0) [.sl 1 (intsD l),I l.length,I l.length, .obx (scL (setTo s l true l.length)), .obx [I ek,R er,U 63,U 0,U 104, .sl 1 (intsD l),S et], .obx zSc] ?_ (fun i hi=>?_) ?_ (by simp) (by simp [rounds];omega) ?_
 ·simp -implicitDefEqProofs [h0,zSc]
 ·obtain ⟨x,hx⟩:=get_ex hi
  have hs:=setTo_succ s true hx
  have v:=fun q=>sp309 q _ (setTo_ok o l true i) x true
  rw [←hs] at v
  have hlt:(i:Int)<l.length:=by omega
  have hg:=intsD_at hx
  generalize setTo s l true (i+1)=S' at *
  generalize setTo s l true i=S2 at *
  simp -implicitDefEqProofs [hlt,hi,hg,cw309,cr309,v,wr_id ((i:Int)+1) (by omega) (by omega),zSc]
 ·generalize setTo s l true l.length=S'
  simp -implicitDefEqProofs [zSc]
 ·generalize setTo s l true l.length=S'
  simp -implicitDefEqProofs [zSc]
set_option maxHeartbeats 8000000 in
theorem sp302_108 (k:Nat) (s:Sc) (o:OkS s) (ek er:Int) (l:List Int) (et:List UInt8) (hl:l.length≤100000):evFun (clOf (modsR tab (k+4)) 3) s302 [scD s,evD ⟨ek,er,63,0,108,some l,et⟩]=some (scD (setTo s l false l.length),[]):=by
 have h0:setTo s l false 0=s:=rfl
 rw [evFun_evB rfl]
 unfold s302
 simp -implicitDefEqProofs [parD]
 refine evB_for (fun i=>[.sl 1 (intsD l),I l.length,I i, .obx (scL (setTo s l false i)), .obx [I ek,R er,U 63,U 0,U 108, .sl 1 (intsD l),S et], .obx zSc]) l.length (.exit 0) [.sl 1 (intsD l),I l.length,I l.length, .obx (scL (setTo s l false l.length)), .obx [I ek,R er,U 63,U 0,U 108, .sl 1 (intsD l),S et], .obx zSc] ?_ (fun i hi=>?_) ?_ (by simp) (by simp [rounds];omega) ?_
 ·simp -implicitDefEqProofs [h0,zSc]
 ·obtain ⟨x,hx⟩:=get_ex hi
  have hs:=setTo_succ s false hx
  have v:=fun q=>sp309 q _ (setTo_ok o l false i) x false
  rw [←hs] at v
  have hlt:(i:Int)<l.length:=by omega
  have hg:=intsD_at hx
  generalize setTo s l false (i+1)=S' at *
  generalize setTo s l false i=S2 at *
  simp -implicitDefEqProofs [hlt,hi,hg,cw309,cr309,v,wr_id ((i:Int)+1) (by omega) (by omega),zSc]
 ·generalize setTo s l false l.length=S'
  simp -implicitDefEqProofs [zSc]
 ·generalize setTo s l false l.length=S'
  simp -implicitDefEqProofs [zSc]
set_option maxHeartbeats 8000000 in
theorem sp302_63n (k:Nat) (s:Sc) (o:OkS s) (ek er f:Int) (et:List UInt8):evFun (clOf (modsR tab (k+4)) 3) s302 [scD s,evD ⟨ek,er,63,0,f,none,et⟩]=some (scD s,[]):=by
 rw [evFun_evB rfl]
 unfold s302
 simp -implicitDefEqProofs [parD]
 refine evB_for (fun i=>[.sn,I 0,I 0, .obx (scL s), .obx [I ek,R er,U 63,U 0,U f, .sn,S et], .obx zSc]) 0 (.exit 0) [.sn,I 0,I 0, .obx (scL s), .obx [I ek,R er,U 63,U 0,U f, .sn,S et], .obx zSc] ?_ (fun i hi=>by omega) ?_ (by simp) (by simp [rounds]) ?_
 ·simp -implicitDefEqProofs [zSc]
 ·simp -implicitDefEqProofs [zSc]
 ·simp -implicitDefEqProofs [zSc]
set_option maxHeartbeats 8000000 in
theorem sp302_63o (k:Nat) (s:Sc) (o:OkS s) (ek er f:Int) (c1:f≠104) (c2:f≠108) (l:List Int) (et:List UInt8) (hl:l.length≤100000):evFun (clOf (modsR tab (k+4)) 3) s302 [scD s,evD ⟨ek,er,63,0,f,some l,et⟩]=some (scD s,[]):=by
 rw [evFun_evB rfl]
 unfold s302
 simp -implicitDefEqProofs [parD]
 refine evB_for (fun i=>[.sl 1 (intsD l),I l.length,I i, .obx (scL s), .obx [I ek,R er,U 63,U 0,U f, .sl 1 (intsD l),S et], .obx zSc]) l.length (.exit 0) [.sl 1 (intsD l),I l.length,I l.length, .obx (scL s), .obx [I ek,R er,U 63,U 0,U f, .sl 1 (intsD l),S et], .obx zSc] ?_ (fun i hi=>?_) ?_ (by simp) (by simp [rounds];omega) ?_
 ·simp -implicitDefEqProofs [zSc]
 ·obtain ⟨x,hx⟩:=get_ex hi
  have hlt:(i:Int)<l.length:=by omega
  have hg:=intsD_at hx
  simp -implicitDefEqProofs [hlt,hi,hg,c1,c2,wr_id ((i:Int)+1) (by omega) (by omega),zSc]
 ·simp -implicitDefEqProofs [zSc]
 ·simp -implicitDefEqProofs [zSc]
theorem sp302_63 (k:Nat) (s:Sc) (o:OkS s) (ek er f:Int) (ps:Option (List Int)) (et:List UInt8) (hl:(ps.getD []).length≤100000):evFun (clOf (modsR tab (k+4)) 3) s302 [scD s,evD ⟨ek,er,63,0,f,ps,et⟩]=some (scD (setS s ⟨ek,er,63,0,f,ps,et⟩),[]):=by
 cases ps with
 | none =>
  rw [sp302_63n k s o ek er f et]
  have e:setS s ⟨ek,er,63,0,f,none,et⟩=s:=by unfold setS;split<;>rfl
  rw [e]
 | some l =>
  by_cases c1:f=104
  ·subst c1
   exact sp302_104 k s o ek er l et hl
  by_cases c2:f=108
  ·subst c2
   exact sp302_108 k s o ek er l et hl
  rw [sp302_63o k s o ek er f c1 c2 l et hl]
  have e:setS s ⟨ek,er,63,0,f,some l,et⟩=s:=by unfold setS;rw [if_neg (fun h=>h.elim c1 c2)]
  rw [e]
set_option maxHeartbeats 8000000 in
theorem sp302 (k:Nat) (s:Sc) (o:OkS s) (r:RightS s) (e:Ev) (hp:parOk e) (hl:e.par.length≤100000):evFun (clOf (modsR tab (k+4)) 3) s302 [scD s,evD e]=some (scD (csiS s e),[]):=by
 obtain ⟨ek,er,ep,ei,ef,ps,et⟩:=e
 by_cases c1:ei=0
 case neg =>
  have ee:csiS s ⟨ek,er,ep,ei,ef,ps,et⟩=s:=by unfold csiS;rw [if_pos c1]
  rw [ee,evFun_evB rfl]
  unfold s302
  simp -implicitDefEqProofs [c1]
 subst c1
 by_cases c2:ep=63
 ·subst c2
  have ee:csiS s ⟨ek,er,63,0,ef,ps,et⟩=setS s ⟨ek,er,63,0,ef,ps,et⟩:=by simp [csiS]
  rw [ee]
  exact sp302_63 k s o ek er ef ps et hl
 by_cases c3:ep=0
 case neg =>
  have ee:csiS s ⟨ek,er,ep,0,ef,ps,et⟩=s:=by simp [csiS,c2,c3]
  rw [ee,evFun_evB rfl]
  unfold s302
  simp -implicitDefEqProofs [c2,c3]
 subst c3
 cases hmv:isMove ef with
 | true =>
  rw [csi_move hmv]
  exact sp302_move k s o ek er ef ps et hp hmv
 | false =>
  by_cases c74:ef=74
  ·subst c74
   have ee:csiS s ⟨ek,er,0,0,74,ps,et⟩=chgS s ⟨ek,er,0,0,74,ps,et⟩:=by simp [csiS,isMove,isChg,isRows];try rfl
   rw [ee]
   exact sp302_74 k s o r ek er ps et hp
  by_cases c75:ef=75
  ·subst c75
   have ee:csiS s ⟨ek,er,0,0,75,ps,et⟩=chgS s ⟨ek,er,0,0,75,ps,et⟩:=by simp [csiS,isMove,isChg,isRows];try rfl
   rw [ee]
   exact sp302_75 k s o r ek er ps et hp
  by_cases c64:ef=64
  ·subst c64
   have ee:csiS s ⟨ek,er,0,0,64,ps,et⟩=chgS s ⟨ek,er,0,0,64,ps,et⟩:=by simp [csiS,isMove,isChg,isRows];try rfl
   rw [ee]
   exact sp302_64 k s o r ek er ps et hp
  by_cases c80:ef=80
  ·subst c80
   have ee:csiS s ⟨ek,er,0,0,80,ps,et⟩=chgS s ⟨ek,er,0,0,80,ps,et⟩:=by simp [csiS,isMove,isChg,isRows];try rfl
   rw [ee]
   exact sp302_80 k s o r ek er ps et hp
  by_cases c88:ef=88
  ·subst c88
   have ee:csiS s ⟨ek,er,0,0,88,ps,et⟩=chgS s ⟨ek,er,0,0,88,ps,et⟩:=by simp [csiS,isMove,isChg,isRows];try rfl
   rw [ee]
   exact sp302_88 k s o r ek er ps et hp
  by_cases c76:ef=76
  ·subst c76
   have ee:csiS s ⟨ek,er,0,0,76,ps,et⟩=rowsS s ⟨ek,er,0,0,76,ps,et⟩:=by simp [csiS,isMove,isChg,isRows];try rfl
   rw [ee]
   exact sp302_76 k s o r ek er ps et hp
  by_cases c77:ef=77
  ·subst c77
   have ee:csiS s ⟨ek,er,0,0,77,ps,et⟩=rowsS s ⟨ek,er,0,0,77,ps,et⟩:=by simp [csiS,isMove,isChg,isRows];try rfl
   rw [ee]
   exact sp302_77 k s o r ek er ps et hp
  by_cases c83:ef=83
  ·subst c83
   have ee:csiS s ⟨ek,er,0,0,83,ps,et⟩=rowsS s ⟨ek,er,0,0,83,ps,et⟩:=by simp [csiS,isMove,isChg,isRows];try rfl
   rw [ee]
   exact sp302_83 k s o r ek er ps et hp
  by_cases c84:ef=84
  ·subst c84
   have ee:csiS s ⟨ek,er,0,0,84,ps,et⟩=rowsS s ⟨ek,er,0,0,84,ps,et⟩:=by simp [csiS,isMove,isChg,isRows];try rfl
   rw [ee]
   exact sp302_84 k s o r ek er ps et hp
  by_cases c109:ef=109
  ·subst c109
   have ee:csiS s ⟨ek,er,0,0,109,ps,et⟩={s with p:=applyM s.p (ps.getD [])}:=by simp [csiS,isMove,isChg,isRows];try rfl
   rw [ee]
   exact sp302_109 k s o r ek er ps et hp hl
  by_cases c114:ef=114
  ·subst c114
   have ee:csiS s ⟨ek,er,0,0,114,ps,et⟩=margS s ⟨ek,er,0,0,114,ps,et⟩:=by simp [csiS,isMove,isChg,isRows];try rfl
   rw [ee]
   exact sp302_114 k s o r ek er ps et hp
  by_cases c103:ef=103
  ·subst c103
   have ee:csiS s ⟨ek,er,0,0,103,ps,et⟩=dropS s (argI (Ev.par ⟨ek,er,0,0,103,ps,et⟩) 0 0 0 65535):=by simp [csiS,isMove,isChg,isRows];try rfl
   rw [ee]
   exact sp302_103 k s o r ek er ps et hp
  by_cases c115:ef=115
  ·subst c115
   have ee:csiS s ⟨ek,er,0,0,115,ps,et⟩=saveS s:=by simp [csiS,isMove,isChg,isRows];try rfl
   rw [ee]
   exact sp302_115 k s o r ek er ps et hp
  by_cases c117:ef=117
  ·subst c117
   have ee:csiS s ⟨ek,er,0,0,117,ps,et⟩=restS s:=by simp [csiS,isMove,isChg,isRows];try rfl
   rw [ee]
   exact sp302_117 k s o r ek er ps et hp
  have ee:csiS s ⟨ek,er,0,0,ef,ps,et⟩=s:=by
   unfold csiS
   simp [hmv,isChg,isRows,c74,c75,c76,c77,c64,c80,c88,c83,c84,c109,c114,c103,c115,c117]
  rw [ee]
  exact sp302_no k s o r ek er ef ps et hp hmv c74 c75 c76 c77 c64 c80 c88 c83 c84 c109 c114 c103 c115 c117
set_option maxHeartbeats 4000000 in
theorem sp284 (k:Nat) (s:Sc) (o:OkS s) (r:RightS s) (e:Ev) (hr : -2147483648≤e.r∧e.r≤2147483647) (hp:parOk e) (hl:e.par.length≤100000):evFun (clOf (modsR tab (k+5)) 3) s284 [scD s,evD e]=some (scD (doS s e),[]):=by
 by_cases c1:e.k=1
 ·have ee:doS s e=printS s e.r:=by unfold doS;rw [if_pos c1]
  have v:=fun q=>sp291 q s o r e.r hr
  rw [ee]
  generalize printS s e.r=S' at *
  rw [evFun_evB rfl]
  unfold s284
  simp -implicitDefEqProofs [eq_true c1,cw291,cr291,v]
 by_cases c2:e.k=2
 ·have ee:doS s e=execS s e.fi:=by unfold doS;rw [if_neg c1,if_pos c2]
  have v:=fun q=>sp305 q s o e.fi
  rw [ee]
  generalize execS s e.fi=S' at *
  rw [evFun_evB rfl]
  unfold s284
  simp -implicitDefEqProofs [c1,eq_true c2,cw305,cr305,v]
 by_cases c3:e.k=3
 ·have ee:doS s e=escS s e:=by unfold doS;rw [if_neg c1,if_neg c2,if_pos c3]
  have v:=fun q=>sp304 q s o e
  rw [ee]
  generalize escS s e=S' at *
  rw [evFun_evB rfl]
  unfold s284
  simp -implicitDefEqProofs [c1,c2,eq_true c3,cw304,cr304,v]
 by_cases c4:e.k=4
 ·have ee:doS s e=csiS s e:=by unfold doS;rw [if_neg c1,if_neg c2,if_neg c3,if_pos c4]
  have v:=fun q=>sp302 q s o r e hp hl
  rw [ee]
  generalize csiS s e=S' at *
  rw [evFun_evB rfl]
  unfold s284
  simp -implicitDefEqProofs [c1,c2,c3,eq_true c4,cw302,cr302,v]
 have ee:doS s e=s:=by unfold doS;rw [if_neg c1,if_neg c2,if_neg c3,if_neg c4]
 rw [ee,evFun_evB rfl]
 unfold s284
 simp -implicitDefEqProofs [c1,c2,c3,c4]
end Go.Proofs.YtlpchliomdomdaaGreat.LgTab
namespace Go.Proofs.YtlpchliomdomdaaGreat.LgTab
open Go Lg
set_option linter.unusedVariables false
set_option linter.unusedSimpArgs false
set_option maxRecDepth 8000
def GoodR (o:Option (D×List D)):Prop:=∃ e:Ev,o=some (evD e,[])∧(∀ n,n∈e.par→ -1≤n∧n≤60)∧e.par.length≤5∧(0≤e.r∧e.r≤1000000)
theorem goodr_sn (kind rune priv inter fin:Int) (text:List UInt8) (hr:0≤rune∧rune≤1000000):GoodR (some (.agg [I kind,R rune,U priv,U inter,U fin, .sn, .sc (.string ⟨⟨text⟩⟩)],[])):=⟨⟨kind,rune,priv,inter,fin,none,text⟩,rfl,by intro n hn;exact absurd hn (List.not_mem_nil),Nat.zero_le _,hr⟩
theorem goodr_sl (kind rune priv inter fin:Int) (text:List UInt8) (l:List Int) (hl:(∀ n,n∈l→ -1≤n∧n≤60)∧l.length≤5) (hr:0≤rune∧rune≤1000000):GoodR (some (.agg [I kind,R rune,U priv,U inter,U fin, .sl 1 (l.map I), .sc (.string ⟨⟨text⟩⟩)],[])):=⟨⟨kind,rune,priv,inter,fin,some l,text⟩,rfl,hl.1,hl.2,hr⟩
set_option maxHeartbeats 4000000 in
theorem sp63r (k:Nat) (kd rn fn:Int) (ps:List Int) (tx:List Int) (htx:∀ c,c∈tx→0≤c∧c≤255):GoodR (evFun (clOf (modsR tab (k+1)) 3) s63 [.agg [I kd,I rn,I fn, .sl 1 (ps.map I), .sl 1 (tx.map U)]]):=by
 rw [evFun_evB rfl]
 unfold s63
 obtain ⟨q,hq⟩:∃ q,q=0+kd % (5-0+1):=⟨_,rfl⟩
 have wq:=sp174c k kd 0 5 (by omega) (by omega) (by omega) q hq
 have bq:0≤q∧q≤5:=by omega
 clear hq
 have hc:q=0∨q=1∨q=2∨q=3∨¬(q=0∨q=1∨q=2∨q=3):=by omega
 rcases hc with rfl | rfl | rfl | rfl | hc
 ·obtain ⟨n,hn⟩:∃ n,n=0+rn % (94-0+1):=⟨_,rfl⟩
  have wn:=sp174c k rn 0 94 (by omega) (by omega) (by omega) n hn
  obtain ⟨w,hw⟩:∃ w,w=0+fn % (5-0+1):=⟨_,rfl⟩
  have ww:=sp174c k fn 0 5 (by omega) (by omega) (by omega) w hw
  have hc:w=0∨w=1∨w=2∨w=3∨w=4∨w=5:=by omega
  have bn:0≤n∧n≤94:=by omega
  have f1:wr (32+n)=32+n:=wr_id _ (by omega) (by omega)
  have f2:IntKind.i32.wrap (32+n)=32+n:=wrap_i32 _ (by omega) (by omega)
  clear hn hw
  by_cases h7:rn.tmod 7=3
  ·rcases hc with rfl | rfl | rfl | rfl | rfl | rfl<;>simp -implicitDefEqProofs [cw174,binD_rem,wq,wn,ww,h7]<;>exact goodr_sn _ _ _ _ _ _ (by omega)
  ·simp -implicitDefEqProofs [cw174,binD_rem,wq,wn,h7,f1,f2]
   exact goodr_sn _ _ _ _ _ _ (by omega)
 ·obtain ⟨w,hw⟩:∃ w,w=0+fn % (8-0+1):=⟨_,rfl⟩
  have ww:=sp174c k fn 0 8 (by omega) (by omega) (by omega) w hw
  have hc:w=0∨w=1∨w=2∨w=3∨w=4∨w=5∨w=6∨w=7∨w=8:=by omega
  clear hw
  rcases hc with rfl | rfl | rfl | rfl | rfl | rfl | rfl | rfl | rfl<;>simp -implicitDefEqProofs [cw174,binD_rem,wq,ww]<;>exact goodr_sn _ _ _ _ _ _ (by omega)
 ·obtain ⟨w,hw⟩:∃ w,w=0+fn % (9-0+1):=⟨_,rfl⟩
  have ww:=sp174c k fn 0 9 (by omega) (by omega) (by omega) w hw
  have hc:w=0∨w=1∨w=2∨w=3∨w=4∨w=5∨w=6∨w=7∨w=8∨w=9:=by omega
  clear hw
  rcases hc with rfl | rfl | rfl | rfl | rfl | rfl | rfl | rfl | rfl | rfl<;>simp -implicitDefEqProofs [cw174,binD_rem,wq,ww]<;>exact goodr_sn _ _ _ _ _ _ (by omega)
 ·simp -implicitDefEqProofs [cw174,binD_rem,wq]
  obtain ⟨L,hL⟩:∃ L,L=tx.map fun c=>32+c % 224:=⟨_,rfl⟩
  have lL:L.length=tx.length:=by simp [hL]
  obtain ⟨M,hM⟩:∃ M,M=min tx.length 20:=⟨_,rfl⟩
  have bL:∀ n,n∈L→0≤n∧n<256:=by
   intro n hn
   rw [hL,List.mem_map] at hn
   obtain ⟨c,_,rfl⟩:=hn
   omega
  refine evB_forP (fun i=>[I i, .obx [I kd,I rn,I fn, .sl 1 (ps.map I), .sl 1 (tx.map U)], .obx [I 0,R 0,U 0,U 0,U 0, .sn,D.str []], .osl true 1 ((L.take i).map U)]) M (.exit 1)
   [I M, .obx [I kd,I rn,I fn, .sl 1 (ps.map I), .sl 1 (tx.map U)], .obx [I 0,R 0,U 0,U 0,U 0, .sn,D.str []], .osl true 1 ((L.take M).map U)] ?_ (fun i hi=>?_) ?_ (by simp) (by simp [rounds];omega) ?_
  ·simp -implicitDefEqProofs []
  ·have i1:i<tx.length:=by omega
   have i2:i<20:=by omega
   have hx:tx[i]? = some tx[i]:=List.getElem?_eq_getElem i1
   have hc:=htx tx[i] (List.getElem_mem i1)
   obtain ⟨c,hcc⟩:∃ c,c=tx[i]:=⟨_,rfl⟩
   rw [←hcc] at hx hc
   have hy:L[i]? = some (32+c % 224):=by rw [hL,List.getElem?_map,hx];rfl
   have hs:(L.take (i+1)).map U=(L.take i).map U++[U (32+c % 224)]:=by rw [take_snoc hy,List.map_append];rfl
   rw [hs]
   have lT:((L.take i).map U).length=i:=by simp;omega
   generalize (L.take i).map U=T at *
   have tT:T.take i=T:=List.take_of_length_le (by omega)
   have e3:wr ((i:Int)+1)=(i:Int)+1:=wr_id _ (by omega) (by omega)
   have e4:IntKind.i64.wrap c=c:=wrap_id _ (by omega) (by omega)
   have e5:IntKind.u8.wrap (32+c % 224)=32+c % 224:=wrap_u8 _ (by omega) (by omega)
   have w1:=sp174c k c 32 255 (by omega) (by omega) (by omega) (32+c % 224) (by omega)
   have b1:i≤140737488355327:=by omega
   have i3:(i:Int)<20:=by omega
   have hcs:tx[i]=c:=hcc.symm
   simp -implicitDefEqProofs [cw174,i1,i2,i3,hx,hcs,lT,tT,e3,e4,e5,w1,b1]
  ·by_cases h1:M<tx.length
   ·have h2:¬(M:Int)<20:=by omega
    simp -implicitDefEqProofs [h1,h2]
   ·simp -implicitDefEqProofs [h1]
  obtain ⟨bs,hb⟩:=bytesOf_U (L.take M) (fun n hn=>bL n (List.mem_of_mem_take hn))
  have lT:((L.take M).map U).length=M:=by simp;omega
  generalize (L.take M).map U=T at *
  have tT:T.take M=T:=List.take_of_length_le (by omega)
  simp -implicitDefEqProofs [lT,hb,tT]
  exact goodr_sn _ _ _ _ _ _ (by omega)
 ·obtain ⟨h0,h1,h2,h3⟩:¬q=0∧¬q=1∧¬q=2∧¬q=3:=by omega
  obtain ⟨w,hw⟩:∃ w,w=0+fn % (22-0+1):=⟨_,rfl⟩
  have ww:=sp174c k fn 0 22 (by omega) (by omega) (by omega) w hw
  have bw:0≤w∧w≤22:=by omega
  clear hw
  obtain ⟨c,hc⟩:=lit_get ([72,65,66,67,68,71,100,74,75,76,77,80,88,64,83,84,114,109,104,108,110,99,115]:List UInt8) w bw.1 (by simp;omega)
  simp -implicitDefEqProofs [cw174,binD_rem,wq,ww,h0,h1,h2,h3,bw,hc]
  obtain ⟨L,hL⟩:∃ L,L=ps.map fun c=> -1+c % 62:=⟨_,rfl⟩
  have lL:L.length=ps.length:=by simp [hL]
  obtain ⟨M,hM⟩:∃ M,M=min ps.length 5:=⟨_,rfl⟩
  obtain ⟨X,hX⟩:∃ X:Nat→D,X=fun i=>if i=0 then .sn else .osl true 1 ((L.take i).map I):=⟨_,rfl⟩
  have X0:X 0 = .sn:=by rw [hX];rfl
  refine evB_forP (fun i=>[I i, .obx [I kd,I rn,I fn, .sl 1 (ps.map I), .sl 1 (tx.map U)], .obx [I 0,R 0,U 0,U 0,U 0, .sn,D.str []], .obx [I 4,R 0,U 0,U 0,U c.toNat,X i,D.str []]]) M (.exit 3)
   [I M, .obx [I kd,I rn,I fn, .sl 1 (ps.map I), .sl 1 (tx.map U)], .obx [I 0,R 0,U 0,U 0,U 0, .sn,D.str []], .obx [I 4,R 0,U 0,U 0,U c.toNat,X M,D.str []]] ?_ (fun i hi=>?_) ?_ (by simp) (by simp [rounds];omega) ?_
  ·simp -implicitDefEqProofs [X0]
  ·have i1:i<ps.length:=by omega
   have i2:i<5:=by omega
   have hx:ps[i]? = some ps[i]:=List.getElem?_eq_getElem i1
   obtain ⟨v,hcc⟩:∃ v,v=ps[i]:=⟨_,rfl⟩
   rw [←hcc] at hx
   have hy:L[i]? = some (-1+v % 62):=by rw [hL,List.getElem?_map,hx];rfl
   have hs:(L.take (i+1)).map I=(L.take i).map I++[I (-1+v % 62)]:=by rw [take_snoc hy,List.map_append];rfl
   have hX1:X (i+1) = .osl true 1 ((L.take i).map I++[I (-1+v % 62)]):=by rw [hX,←hs];rfl
   have e3:wr ((i:Int)+1)=(i:Int)+1:=wr_id _ (by omega) (by omega)
   have w1:=sp174c k v (-1) 60 (by omega) (by omega) (by omega) (-1+v % 62) rfl
   have b1:i≤17592186044415:=by omega
   have b2:(i+1)*8≤140737488355328:=by omega
   by_cases hi0:i=0
   ·subst hi0
    have hX1':X 1 = .osl true 1 [I (-1+v % 62)]:=hX1
    have w0:wr 1=1:=wr_id _ (by omega) (by omega)
    have hcs:ps[0]=v:=hcc.symm
    simp -implicitDefEqProofs [cr174,X0,hX1',hx,hcs,w1,i1,w0]
   ·have i3:(i:Int)<5:=by omega
    have hcs:ps[i]=v:=hcc.symm
    have hXi:X i = .osl true 1 ((L.take i).map I):=by rw [hX];simp [hi0]
    have lT:((L.take i).map I).length=i:=by simp;omega
    generalize (L.take i).map I=T at *
    have tT:T.take i=T:=List.take_of_length_le (by omega)
    simp -implicitDefEqProofs [cr174,hXi,hX1,i1,i2,i3,hx,hcs,lT,tT,e3,w1,b1,b2]
  ·by_cases hM0:M=0
   ·have h1:¬M<ps.length:=by omega
    subst hM0
    have h1':¬0<ps.length:=h1
    simp -implicitDefEqProofs [X0,h1']
   ·have hXM:X M = .osl true 1 ((L.take M).map I):=by rw [hX];simp [hM0]
    have lT:((L.take M).map I).length=M:=by simp;omega
    generalize (L.take M).map I=T at *
    by_cases h1:M<ps.length
    ·have h2:¬(M:Int)<5:=by omega
     simp -implicitDefEqProofs [hXM,h1,h2,lT]
    ·simp -implicitDefEqProofs [hXM,h1,lT]
  by_cases hM0:M=0
  ·subst hM0
   clear hX hM lL hL htx
   simp -implicitDefEqProofs [X0]
   repeat' (split<;>try simp -implicitDefEqProofs [*])
   all_goals exact goodr_sn _ _ _ _ _ _ (by omega)
  ·have hne:∃ a r,L.take M=a :: r:=by
    cases hT:L.take M with
    | nil=>have:=congrArg List.length hT;rw [List.length_take,List.length_nil] at this;omega
    | cons a r=>exact ⟨a,r,rfl⟩
   obtain ⟨a,r,har⟩:=hne
   have hXM:X M = .osl true 1 (I a :: r.map I):=by rw [hX];simp [hM0,har]
   have hbd:(∀ n,n∈a :: r→ -1≤n∧n≤60)∧(a :: r).length≤5:=by
    refine ⟨fun n hn=>?_,by rw [←har,List.length_take];omega⟩
    rw [←har] at hn
    have:=List.mem_of_mem_take hn
    rw [hL,List.mem_map] at this
    obtain ⟨c,_,rfl⟩:=this
    omega
   clear hX X0 hM lL hL htx har
   have hbd':Go.RowKit.Hid ((∀ n,n∈a :: r→ -1≤n∧n≤60)∧(a :: r).length≤5):=hbd
   clear hbd
   have tr:List.take r.length (List.map I r)=List.map I r:=List.take_of_length_le (by simp)
   simp -implicitDefEqProofs [hXM,tr]
   repeat' (split<;>try simp -implicitDefEqProofs [*])
   all_goals first | exact goodr_sn _ _ _ _ _ _ (by omega) | exact goodr_sl _ _ _ _ _ _ (a :: r) hbd'.out (by omega)
theorem kevs_exr (k:Nat):∀ l:List Kev,(∀ x,x∈l→∀ c,c∈x.tx→0≤c∧c≤255)→∃ es:List Ev,es.length=l.length∧∀ (i:Nat) x,l[i]? = some x→∃ e,es[i]? = some e∧evFun (clOf (modsR tab (k+1)) 3) s63 [kevD x]=some (evD e,[])∧(∀ n,n∈e.par→ -1≤n∧n≤60)∧e.par.length≤5∧(0≤e.r∧e.r≤1000000)
 | [],_=>⟨[],rfl,by simp⟩
 | x :: l,h=>by
  obtain ⟨es,h1,h2⟩:=kevs_exr k l fun y hy=>h y (by simp [hy])
  obtain ⟨e,w,hn,hp⟩:=sp63r k x.kd x.rn x.fn x.ps x.tx (h x (by simp))
  refine ⟨e :: es,by simp [h1],fun i y hy=>?_⟩
  cases i with
  | zero =>
   simp only [List.getElem?_cons_zero,Option.some.injEq] at hy
   subst hy
   exact ⟨e,rfl,w,hn,hp⟩
  | succ i=>exact h2 i y (by simpa using hy)
end Go.Proofs.YtlpchliomdomdaaGreat.LgTab
namespace Go.Proofs.YtlpchliomdomdaaGreat.LgTab
open Go Lg
set_option linter.unusedVariables false
set_option linter.unusedSimpArgs false
set_option maxRecDepth 8000
set_option maxRecDepth 100000 in
theorem sp193 (k:Nat):evFun (clOf (modsR tab (k+11)) 3) s193 []=some (B true,[]):=by kernel_rfl
end Go.Proofs.YtlpchliomdomdaaGreat.LgTab
namespace Lg
open Go
structure Dc where
 need:Int
 have_:Int
 acc:Int
structure Ps where
 st:Int
 d:Dc
 inter:List Int
 began:Bool
 priv:Int
 params:List Int
 wrong:Bool
 osc:Bool
 b:List Int
 over:Bool
abbrev Dc.nil:Dc:=⟨0,0,0⟩
end Lg
namespace Lg
open Go
set_option linter.unusedVariables false
set_option linter.unusedSimpArgs false
abbrev cs (bg:Bool) (pr:Int) (l it:List Int):Ps:=⟨2, .nil,it,bg,pr,l,false,false,[],false⟩
def isLonger (b:Int):Prop:=b=91∨b=93∨b=80∨b=88∨b=94∨b=95
instance (b:Int):Decidable (isLonger b):=by unfold isLonger;exact inferInstance
end Lg
