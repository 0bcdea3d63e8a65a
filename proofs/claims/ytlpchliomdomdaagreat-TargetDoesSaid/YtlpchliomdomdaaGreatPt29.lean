import Derived.Test.YtlpchliomdomdaaGreatPt28
namespace Go.Proofs.YtlpchliomdomdaaGreat.LgTab
open Go Lg
set_option linter.unusedVariables false
set_option linter.unusedSimpArgs false
set_option maxRecDepth 8000
set_option maxHeartbeats 4000000 in
theorem sp285 (k:Nat) (s:Sc) (o:OkS s):evFun (clOf (modsR tab (k+3)) 3) s285 [scD s]=some (scD (feedS s),[]):=by
 have hl:=o.len
 have ht:=o.top
 have hb:=o.bot
 have hh:=o.h
 have hr:=o.row
 have w306:=fun q=>sp306 q {s with pend:=false}
 by_cases h:s.row=s.bot
 ·have e:feedS s={s with g:=shG s.g s.top.toNat s.bot.toNat 1 (fillP s),pend:=false}:=by unfold feedS;rw [if_pos h];rfl
  rw [e]
  have w1:=fun q=>sp294 q s.g o.g (by omega) o.w s.top.toNat s.bot.toNat (by omega) (by omega) 1 (by omega) (fillP s)
  rw [Int.toNat_of_nonneg (by omega),Int.toNat_of_nonneg (by omega)] at w1
  have ef:fillP {s with pend:=false}=fillP s:=rfl
  rw [ef] at w306
  generalize shG s.g s.top.toNat s.bot.toNat 1 (fillP s)=G at *
  generalize fillP s=F at *
  rw [evFun_evB rfl]
  unfold s285
  simp -implicitDefEqProofs [eq_true h,cw306,cr306,w306,cw294,cr294,w1]
 ·have e:feedS s=atS {s with pend:=false} (s.row+1) s.col:=by unfold feedS;rw [if_neg h];rfl
  rw [e]
  have w:=fun q=>sp300 q _ (pend_ok o) (s.row+1) s.col
  generalize atS {s with pend:=false} (s.row+1) s.col=S' at *
  rw [evFun_evB rfl]
  unfold s285
  simp -implicitDefEqProofs [h,cw300,cr300,w,wr_id (s.row+1) (by omega) (by omega)]
set_option maxHeartbeats 4000000 in
theorem sp282 (k:Nat) (s:Sc) (o:OkS s):evFun (clOf (modsR tab (k+3)) 3) s282 [scD s]=some (scD (backS s),[]):=by
 have hl:=o.len
 have ht:=o.top
 have hb:=o.bot
 have hh:=o.h
 have hr:=o.row
 have w306:=fun q=>sp306 q {s with pend:=false}
 by_cases h:s.row=s.top
 ·have e:backS s={s with g:=shG s.g s.top.toNat s.bot.toNat (-1) (fillP s),pend:=false}:=by unfold backS;rw [if_pos h];rfl
  rw [e]
  have w1:=fun q=>sp294 q s.g o.g (by omega) o.w s.top.toNat s.bot.toNat (by omega) (by omega) (-1) (by omega) (fillP s)
  rw [Int.toNat_of_nonneg (by omega),Int.toNat_of_nonneg (by omega)] at w1
  have ef:fillP {s with pend:=false}=fillP s:=rfl
  rw [ef] at w306
  generalize shG s.g s.top.toNat s.bot.toNat (-1) (fillP s)=G at *
  generalize fillP s=F at *
  rw [evFun_evB rfl]
  unfold s282
  simp -implicitDefEqProofs [eq_true h,cw306,cr306,w306,cw294,cr294,w1]
 ·have e:backS s=atS {s with pend:=false} (s.row-1) s.col:=by unfold backS;rw [if_neg h];rfl
  rw [e]
  have w:=fun q=>sp300 q _ (pend_ok o) (s.row-1) s.col
  generalize atS {s with pend:=false} (s.row-1) s.col=S' at *
  rw [evFun_evB rfl]
  unfold s282
  simp -implicitDefEqProofs [h,cw300,cr300,w,wr_id (s.row-1) (by omega) (by omega)]
set_option maxHeartbeats 4000000 in
theorem sp305 (k:Nat) (s:Sc) (o:OkS s) (b:Int):evFun (clOf (modsR tab (k+4)) 3) s305 [scD s,U b]=some (scD (execS s b),[]):=by
 have h1:=o.h
 have h2:=o.w
 have h3:=o.col
 have h4:=o.g
 by_cases c1:b=8
 ·have e:execS s b=atS s s.row (s.col-1):=by unfold execS;rw [if_pos c1]
  have w:=fun q=>sp300 q s o s.row (s.col-1)
  rw [e]
  generalize atS s s.row (s.col-1)=S' at *
  rw [evFun_evB rfl]
  unfold s305
  simp -implicitDefEqProofs [c1,cw300,cr300,w,wr_id (s.col-1) (by omega) (by omega)]
 by_cases c2:b=9
 ·have e:execS s b=atS s s.row (nextT s.tabs s.col s.g.w):=by unfold execS;rw [if_neg c1,if_pos c2]
  have w2:=fun q=>sp289 q s.tabs o.tabs s.col.toNat s.g.w (by omega) (by omega)
  rw [Int.toNat_of_nonneg h3.1] at w2
  have w:=fun q n=>sp300 q s o s.row n
  rw [e]
  generalize nextT s.tabs s.col s.g.w=n at *
  have w3:=fun q=>w q n
  clear w
  generalize atS s s.row n=S' at *
  rw [evFun_evB rfl]
  unfold s305
  simp -implicitDefEqProofs [c2,cw300,cr300,w3,cw289,cr289,w2]
 by_cases c3:b=10∨b=11∨b=12
 ·have e:execS s b=feedS s:=by unfold execS;rw [if_neg c1,if_neg c2,if_pos (by omega)]
  have w:=fun q=>sp285 q s o
  rw [e]
  generalize feedS s=S' at *
  rw [evFun_evB rfl]
  unfold s305
  rcases c3 with rfl | rfl | rfl<;>simp -implicitDefEqProofs [cw285,cr285,w]
 have n10:¬b=10:=fun h=>c3 (.inl h)
 have n11:¬b=11:=fun h=>c3 (.inr (.inl h))
 have n12:¬b=12:=fun h=>c3 (.inr (.inr h))
 have n3:¬(10≤b∧b≤12):=by omega
 by_cases c4:b=13
 ·have e:execS s b=atS s s.row 0:=by unfold execS;rw [if_neg c1,if_neg c2,if_neg n3,if_pos c4]
  have w:=fun q=>sp300 q s o s.row 0
  rw [e]
  generalize atS s s.row 0=S' at *
  rw [evFun_evB rfl]
  unfold s305
  simp -implicitDefEqProofs [c4,cw300,cr300,w]
 by_cases c5:b=14
 ·have e:execS s b={s with sh:=1}:=by unfold execS;rw [if_neg c1,if_neg c2,if_neg n3,if_neg c4,if_pos c5]
  rw [e,evFun_evB rfl]
  unfold s305
  simp -implicitDefEqProofs [c5]
 by_cases c6:b=15
 ·have e:execS s b={s with sh:=0}:=by unfold execS;rw [if_neg c1,if_neg c2,if_neg n3,if_neg c4,if_neg c5,if_pos c6]
  rw [e,evFun_evB rfl]
  unfold s305
  simp -implicitDefEqProofs [c6]
 have e:execS s b=s:=by unfold execS;rw [if_neg c1,if_neg c2,if_neg n3,if_neg c4,if_neg c5,if_neg c6]
 rw [e,evFun_evB rfl]
 unfold s305
 simp -implicitDefEqProofs [c1,c2,n10,n11,n12,c4,c5,c6]
theorem feed_col {s:Sc} (o:OkS s):feedS {s with col:=0}=feedS (atS s s.row 0):=by
 have hw:=o.g.2.2.1
 have e:atS s s.row 0={s with col:=0,pend:=false}:=by
  unfold atS
  rw [nearI_id o.row.1 o.row.2,nearI_id (n:=0) (by omega) (by omega)]
 rw [e]
 unfold feedS
 split
 ·rfl
 ·rfl
theorem col_ok {s:Sc} (o:OkS s):OkS {s with col:=0}:=by
 have hw:=o.g.2.2.1
 exact ⟨o.g,o.h,o.w,o.row,by show (0:Int)≤0∧(0:Int)<s.g.w;omega,o.top,o.bot,o.tabs,o.sh,o.ssh,o.srow,o.scol⟩
set_option maxHeartbeats 4000000 in
theorem sp286 (k:Nat) (h w:Nat) (h0:1≤h∧h≤40) (h1:1≤w∧w≤60):evFun (clOf (modsR tab (k+2)) 3) s286 [I h,I w]=some (scD (newS h w),[]):=by
 have w1:=fun q=>sp288 q h w h0 h1 plainP
 have w2:=fun q=>sp290 q
 have w3:=fun q=>sp297 q w h1
 have hc:(newG h w plainP).h=h:=rfl
 have hd:(newG h w plainP).w=w:=rfl
 unfold newS
 generalize newT w=t at *
 generalize newG h w plainP=G at *
 simp only [plainP] at w1 w2 ⊢
 rw [evFun_evB rfl]
 unfold s286
 simp -implicitDefEqProofs [cw288,cr288,w1,cw290,cr290,w2,cw297,cr297,w3,hc,hd,wr_id ((h:Int)-1) (by omega) (by omega)]
set_option maxHeartbeats 8000000 in
theorem sp304 (k:Nat) (s:Sc) (o:OkS s) (e:Ev):evFun (clOf (modsR tab (k+4)) 3) s304 [scD s,evD e]=some (scD (escS s e),[]):=by
 have hh:=o.h
 have hw:=o.w
 have hg:=o.g
 have hcb:=o.col
 obtain ⟨ek,er,ep,ei,ef,ps,et⟩:=e
 have u0:binD .sub (U 40) (U 40)=some (U 0):=rfl
 have u1:binD .sub (U 41) (U 40)=some (U 1):=rfl
 by_cases c0:ei=0
 case neg =>
  have ee:escS s ⟨ek,er,ep,ei,ef,ps,et⟩=desigS s ei ef:=by unfold escS;rw [if_pos c0]
  rw [ee]
  rw [evFun_evB rfl]
  unfold s304 desigS
  by_cases d1:ei=40
  ·by_cases f1:ef=48
   ·simp -implicitDefEqProofs [d1,f1,u0]
   by_cases f2:ef=66
   ·simp -implicitDefEqProofs [d1,f2,u0]
   simp -implicitDefEqProofs [d1,f1,f2]
  by_cases d2:ei=41
  ·by_cases f1:ef=48
   ·simp -implicitDefEqProofs [d2,f1,u1]
   by_cases f2:ef=66
   ·simp -implicitDefEqProofs [d2,f2,u1]
   simp -implicitDefEqProofs [d2,f1,f2]
  by_cases f1:ef=48
  ·simp -implicitDefEqProofs [d1,d2,c0,f1]
  by_cases f2:ef=66
  ·simp -implicitDefEqProofs [d1,d2,c0,f2]
  simp -implicitDefEqProofs [d1,d2,c0,f1,f2]
 subst c0
 by_cases c1:ef=55
 ·have ee:escS s ⟨ek,er,ep,0,ef,ps,et⟩=saveS s:=by simp [escS,c1]
  have w:=fun q=>sp314 q s
  rw [ee]
  generalize saveS s=S' at *
  rw [evFun_evB rfl]
  unfold s304
  simp -implicitDefEqProofs [c1,cw314,cr314,w]
 by_cases c2:ef=56
 ·have ee:escS s ⟨ek,er,ep,0,ef,ps,et⟩=restS s:=by simp [escS,c2]
  have w:=fun q=>sp312 q s o
  rw [ee]
  generalize restS s=S' at *
  rw [evFun_evB rfl]
  unfold s304
  simp -implicitDefEqProofs [c2,cw312,cr312,w]
 by_cases c3:ef=68
 ·have ee:escS s ⟨ek,er,ep,0,ef,ps,et⟩=feedS s:=by simp [escS,c3]
  have w:=fun q=>sp285 q s o
  rw [ee]
  generalize feedS s=S' at *
  rw [evFun_evB rfl]
  unfold s304
  simp -implicitDefEqProofs [c3,cw285,cr285,w]
 by_cases c4:ef=69
 ·have ee:escS s ⟨ek,er,ep,0,ef,ps,et⟩=feedS {s with col:=0}:=by rw [feed_col o];simp [escS,c4]
  have w:=fun q=>sp285 q _ (col_ok o)
  rw [ee]
  generalize feedS {s with col:=0}=S' at *
  rw [evFun_evB rfl]
  unfold s304
  simp -implicitDefEqProofs [c4,cw285,cr285,w]
 by_cases c5:ef=77
 ·have ee:escS s ⟨ek,er,ep,0,ef,ps,et⟩=backS s:=by simp [escS,c5]
  have w:=fun q=>sp282 q s o
  rw [ee]
  generalize backS s=S' at *
  rw [evFun_evB rfl]
  unfold s304
  simp -implicitDefEqProofs [c5,cw282,cr282,w]
 by_cases c6:ef=72
 ·have ee:escS s ⟨ek,er,ep,0,ef,ps,et⟩={s with tabs:=s.tabs ||| bitN s.col}:=by simp [escS,c6]
  have w1:=wrap_u64c s.col hcb.1 (by omega)
  have w2:=t_shl64 s.col hcb.1 (by omega)
  have w3:=t_or s.tabs (bitN s.col) o.tabs (bitN_lt _)
  rw [ee]
  generalize s.tabs ||| bitN s.col=X at *
  generalize bitN s.col=Y at *
  rw [evFun_evB rfl]
  unfold s304
  simp -implicitDefEqProofs [c6,w1,w2,w3]
 by_cases c7:ef=99
 ·have ee:escS s ⟨ek,er,ep,0,ef,ps,et⟩=newS s.g.h s.g.w:=by simp [escS,c7]
  have w:=fun q=>sp286 q s.g.h s.g.w ⟨hg.1,hh⟩ ⟨hg.2.2.1,hw⟩
  rw [ee]
  generalize newS s.g.h s.g.w=S' at *
  rw [evFun_evB rfl]
  unfold s304
  simp -implicitDefEqProofs [c7,cw286,cr286,w]
 by_cases c8:ef=61
 ·have ee:escS s ⟨ek,er,ep,0,ef,ps,et⟩={s with pad:=true}:=by simp [escS,c8]
  rw [ee,evFun_evB rfl]
  unfold s304
  simp -implicitDefEqProofs [c8]
 by_cases c9:ef=62
 ·have ee:escS s ⟨ek,er,ep,0,ef,ps,et⟩={s with pad:=false}:=by simp [escS,c9]
  rw [ee,evFun_evB rfl]
  unfold s304
  simp -implicitDefEqProofs [c9]
 have ee:escS s ⟨ek,er,ep,0,ef,ps,et⟩=s:=by simp [escS,c1,c2,c3,c4,c5,c6,c7,c8,c9]
 rw [ee,evFun_evB rfl]
 unfold s304
 simp -implicitDefEqProofs [c1,c2,c3,c4,c5,c6,c7,c8,c9]
end Go.Proofs.YtlpchliomdomdaaGreat.LgTab
namespace Go.Proofs.YtlpchliomdomdaaGreat.LgTab
open Go Lg
set_option linter.unusedVariables false
set_option linter.unusedSimpArgs false
set_option maxRecDepth 8000
def parOk (e:Ev):Prop:=∀ n,n∈e.par→ -1≤n∧n≤65535
theorem one_from {e:Ev} (h:parOk e) (i:Nat):oneI e.par i 1=from1I e.par i:=by
 unfold oneI from1I argI
 cases hx:e.par[i]? with
 | none=>rfl
 | some x =>
  have hb:=h x (List.mem_of_getElem? hx)
  simp only
  unfold mxI mnI
  repeat' split
  all_goals omega
set_option maxHeartbeats 16000000 in
theorem sp310 (k:Nat) (s:Sc) (o:OkS s) (e:Ev) (he:parOk e):evFun (clOf (modsR tab (k+2)) 3) s310 [scD s,evD e]=some (.tup [scD (if isMove e.fi=true then moveS s e else s),B (isMove e.fi)],[]):=by
 have hh:=o.h
 have hw:=o.w
 have hc:=o.col
 have hr:=o.row
 have ht:=o.top
 have hb:=o.bot
 have w0:=fun q=>sp311_0 q e 1
 have w1:=fun q=>sp311_1 q e 1
 rw [one_from he] at w0 w1
 have hn:=from1I_b e.par 0
 have hm:=from1I_b e.par 1
 obtain ⟨n,en⟩:∃ n,n=from1I e.par 0:=⟨_,rfl⟩
 obtain ⟨m,em⟩:∃ m,m=from1I e.par 1:=⟨_,rfl⟩
 have eu:upS s n=atS s (if s.top≤s.row then mxI (s.row-n) s.top else s.row-n) s.col:=rfl
 have ed:downS s n=atS s (if s.row≤s.bot then mnI (s.row+n) s.bot else s.row+n) s.col:=rfl
 have e1:wr (s.row-n)=s.row-n:=wr_id _ (by omega) (by omega)
 have e2:wr (s.row+n)=s.row+n:=wr_id _ (by omega) (by omega)
 obtain ⟨u,hu⟩:∃ u,u=if s.top≤s.row then mxI (s.row-n) s.top else s.row-n:=⟨_,rfl⟩
 obtain ⟨d,hd⟩:∃ d,d=if s.row≤s.bot then mnI (s.row+n) s.bot else s.row+n:=⟨_,rfl⟩
 rw [←en] at w0 hn
 rw [←em] at w1 hm
 have hcase:(s.top≤s.row∧s.row≤s.bot∧u=mxI (s.row-n) s.top∧d=mnI (s.row+n) s.bot)∨(¬s.top≤s.row∧s.row≤s.bot∧u=s.row-n∧d=mnI (s.row+n) s.bot)∨(s.top≤s.row∧¬s.row≤s.bot∧u=mxI (s.row-n) s.top∧d=s.row+n):=by
  by_cases h1:s.top≤s.row
  ·by_cases h2:s.row≤s.bot
   ·left;rw [if_pos h1] at hu;rw [if_pos h2] at hd;exact ⟨h1,h2,hu,hd⟩
   ·right;right;rw [if_pos h1] at hu;rw [if_neg h2] at hd;exact ⟨h1,h2,hu,hd⟩
  ·by_cases h2:s.row≤s.bot
   ·right;left;rw [if_neg h1] at hu;rw [if_pos h2] at hd;exact ⟨h1,h2,hu,hd⟩
   ·omega
 have go:∀ (r c:Int) (S':Sc),atS s r c=S'→∀ q,evFun (clOf (modsR tab q) 3) s300 [scD s,I r,I c]=some (scD S',[]):=fun r c S' h q=>by rw [←h];exact sp300 q s o r c
 have gg:∀ (r c:Int) (S':Sc),-100000≤r∧r≤100000→goS s r c=S'→∀ q,evFun (clOf (modsR tab (q+1)) 3) s307 [scD s,I r,I c]=some (scD S',[]):=fun r c S' hb h q=>by rw [←h];exact sp307 q s o r c hb
 have f3:wr (s.col+n)=s.col+n:=wr_id _ (by omega) (by omega)
 have f4:wr (s.col-n)=s.col-n:=wr_id _ (by omega) (by omega)
 have f5:wr (n-1)=n-1:=wr_id _ (by omega) (by omega)
 have f6:wr (m-1)=m-1:=wr_id _ (by omega) (by omega)
 have em1:atS (downS s n) (downS s n).row 0=atS s d 0:=by
  rw [ed,←hd]
  have h1:=o.g.1
  show ({atS s d s.col with row:=nearI (nearI d s.g.h) s.g.h,col:=nearI 0 s.g.w,pend:=false}:Sc)=_
  have hb:=nearI_b d (all:=(s.g.h:Int)) (by omega)
  rw [nearI_id hb.1 hb.2]
  rfl
 have em2:atS (upS s n) (upS s n).row 0=atS s u 0:=by
  rw [eu,←hu]
  have h1:=o.g.1
  show ({atS s u s.col with row:=nearI (nearI u s.g.h) s.g.h,col:=nearI 0 s.g.w,pend:=false}:Sc)=_
  have hb:=nearI_b u (all:=(s.g.h:Int)) (by omega)
  rw [nearI_id hb.1 hb.2]
  rfl
 have hmv:moveS s e=(let n:=n;if e.fi=65 then upS s n else if e.fi=66 then downS s n else if e.fi=67 then atS s s.row (s.col+n) else if e.fi=68 then atS s s.row (s.col-n) else if e.fi=69 then atS s d 0 else if e.fi=70 then atS s u 0 else if e.fi=71∨e.fi=96 then atS s s.row (n-1) else if e.fi=100 then goS s (n-1) s.col else goS s (n-1) (m-1)):=by
  unfold moveS
  simp only
  rw [←en,←em,em1,em2]
 simp only at hmv
 rw [eu,ed,←hu,←hd] at hmv
 rw [hmv]
 clear hmv em1 em2 eu ed hu hd en em he
 obtain ⟨ek,er,ep,ei,f,ps,et⟩:=e
 simp only
 have wu:wr u=u:=by
  apply wr_id<;>(rcases hcase with h | h | h<;>(obtain ⟨a1,a2,a3,a4⟩:=h;rw [a3];(try unfold mxI);(try split)<;>omega))
 have wd:wr d=d:=by
  apply wr_id<;>(rcases hcase with h | h | h<;>(obtain ⟨a1,a2,a3,a4⟩:=h;rw [a4];(try unfold mnI);(try split)<;>omega))
 by_cases c65:f=65
 ·subst c65
  have v:=go u s.col _ rfl
  simp only [isMove,List.contains_cons,if_true]
  generalize atS s u s.col=S' at *
  rcases hcase with ⟨a1,a2,a3,a4⟩ | ⟨a1,a2,a3,a4⟩ | ⟨a1,a2,a3,a4⟩<;>(rw [evFun_evB rfl];unfold s310;simp -implicitDefEqProofs [cw311,cr311,w0,w1,e1,e2,wu,wd,f3,f4,f5,f6,a1,a2,←a3,←a4,cw300,cr300,cw307,cr307,v])
 by_cases c66:f=66
 ·subst c66
  have v:=go d s.col _ rfl
  simp only [isMove,List.contains_cons,if_true]
  generalize atS s d s.col=S' at *
  rcases hcase with ⟨a1,a2,a3,a4⟩ | ⟨a1,a2,a3,a4⟩ | ⟨a1,a2,a3,a4⟩<;>(rw [evFun_evB rfl];unfold s310;simp -implicitDefEqProofs [cw311,cr311,w0,w1,e1,e2,wu,wd,f3,f4,f5,f6,a1,a2,←a3,←a4,cw300,cr300,cw307,cr307,v])
 by_cases c67:f=67
 ·subst c67
  have v:=go s.row (s.col+n) _ rfl
  simp only [isMove,List.contains_cons,if_true]
  generalize atS s s.row (s.col+n)=S' at *
  rcases hcase with ⟨a1,a2,a3,a4⟩ | ⟨a1,a2,a3,a4⟩ | ⟨a1,a2,a3,a4⟩<;>(rw [evFun_evB rfl];unfold s310;simp -implicitDefEqProofs [cw311,cr311,w0,w1,e1,e2,wu,wd,f3,f4,f5,f6,a1,a2,←a3,←a4,cw300,cr300,cw307,cr307,v])
 by_cases c68:f=68
 ·subst c68
  have v:=go s.row (s.col-n) _ rfl
  simp only [isMove,List.contains_cons,if_true]
  generalize atS s s.row (s.col-n)=S' at *
  rcases hcase with ⟨a1,a2,a3,a4⟩ | ⟨a1,a2,a3,a4⟩ | ⟨a1,a2,a3,a4⟩<;>(rw [evFun_evB rfl];unfold s310;simp -implicitDefEqProofs [cw311,cr311,w0,w1,e1,e2,wu,wd,f3,f4,f5,f6,a1,a2,←a3,←a4,cw300,cr300,cw307,cr307,v])
 by_cases c69:f=69
 ·subst c69
  have v:=go d 0 _ rfl
  simp only [isMove,List.contains_cons,if_true]
  generalize atS s d 0=S' at *
  rcases hcase with ⟨a1,a2,a3,a4⟩ | ⟨a1,a2,a3,a4⟩ | ⟨a1,a2,a3,a4⟩<;>(rw [evFun_evB rfl];unfold s310;simp -implicitDefEqProofs [cw311,cr311,w0,w1,e1,e2,wu,wd,f3,f4,f5,f6,a1,a2,←a3,←a4,cw300,cr300,cw307,cr307,v])
 by_cases c70:f=70
 ·subst c70
  have v:=go u 0 _ rfl
  simp only [isMove,List.contains_cons,if_true]
  generalize atS s u 0=S' at *
  rcases hcase with ⟨a1,a2,a3,a4⟩ | ⟨a1,a2,a3,a4⟩ | ⟨a1,a2,a3,a4⟩<;>(rw [evFun_evB rfl];unfold s310;simp -implicitDefEqProofs [cw311,cr311,w0,w1,e1,e2,wu,wd,f3,f4,f5,f6,a1,a2,←a3,←a4,cw300,cr300,cw307,cr307,v])
 by_cases c71:f=71
 ·subst c71
  have v:=go s.row (n-1) _ rfl
  simp only [isMove,List.contains_cons,if_true]
  generalize atS s s.row (n-1)=S' at *
  rcases hcase with ⟨a1,a2,a3,a4⟩ | ⟨a1,a2,a3,a4⟩ | ⟨a1,a2,a3,a4⟩<;>(rw [evFun_evB rfl];unfold s310;simp -implicitDefEqProofs [cw311,cr311,w0,w1,e1,e2,wu,wd,f3,f4,f5,f6,a1,a2,←a3,←a4,cw300,cr300,cw307,cr307,v])
 by_cases c96:f=96
 ·subst c96
  have v:=go s.row (n-1) _ rfl
  simp only [isMove,List.contains_cons,if_true]
  generalize atS s s.row (n-1)=S' at *
  rcases hcase with ⟨a1,a2,a3,a4⟩ | ⟨a1,a2,a3,a4⟩ | ⟨a1,a2,a3,a4⟩<;>(rw [evFun_evB rfl];unfold s310;simp -implicitDefEqProofs [cw311,cr311,w0,w1,e1,e2,wu,wd,f3,f4,f5,f6,a1,a2,←a3,←a4,cw300,cr300,cw307,cr307,v])
 by_cases c100:f=100
 ·subst c100
  have v:=gg (n-1) s.col _ (by omega) rfl
  simp only [isMove,List.contains_cons,if_true]
  generalize goS s (n-1) s.col=S' at *
  rcases hcase with ⟨a1,a2,a3,a4⟩ | ⟨a1,a2,a3,a4⟩ | ⟨a1,a2,a3,a4⟩<;>(rw [evFun_evB rfl];unfold s310;simp -implicitDefEqProofs [cw311,cr311,w0,w1,e1,e2,wu,wd,f3,f4,f5,f6,a1,a2,←a3,←a4,cw300,cr300,cw307,cr307,v])
 by_cases c72:f=72
 ·subst c72
  have v:=gg (n-1) (m-1) _ (by omega) rfl
  simp only [isMove,List.contains_cons,if_true]
  generalize goS s (n-1) (m-1)=S' at *
  rcases hcase with ⟨a1,a2,a3,a4⟩ | ⟨a1,a2,a3,a4⟩ | ⟨a1,a2,a3,a4⟩<;>(rw [evFun_evB rfl];unfold s310;simp -implicitDefEqProofs [cw311,cr311,w0,w1,e1,e2,wu,wd,f3,f4,f5,f6,a1,a2,←a3,←a4,cw300,cr300,cw307,cr307,v])
 by_cases c102:f=102
 ·subst c102
  have v:=gg (n-1) (m-1) _ (by omega) rfl
  simp only [isMove,List.contains_cons,if_true]
  generalize goS s (n-1) (m-1)=S' at *
  rcases hcase with ⟨a1,a2,a3,a4⟩ | ⟨a1,a2,a3,a4⟩ | ⟨a1,a2,a3,a4⟩<;>(rw [evFun_evB rfl];unfold s310;simp -implicitDefEqProofs [cw311,cr311,w0,w1,e1,e2,wu,wd,f3,f4,f5,f6,a1,a2,←a3,←a4,cw300,cr300,cw307,cr307,v])
 have hno:isMove f=false:=by
  simp [isMove,c65,c66,c67,c68,c69,c70,c71,c96,c100,c72,c102]
 rw [hno]
 rcases hcase with ⟨a1,a2,a3,a4⟩ | ⟨a1,a2,a3,a4⟩ | ⟨a1,a2,a3,a4⟩<;>(rw [evFun_evB rfl];unfold s310;simp -implicitDefEqProofs [cw311,cr311,w0,w1,e1,e2,wu,wd,f3,f4,f5,f6,a1,a2,←a3,←a4,c65,c66,c67,c68,c69,c70,c71,c96,c100,c72,c102])
end Go.Proofs.YtlpchliomdomdaaGreat.LgTab
