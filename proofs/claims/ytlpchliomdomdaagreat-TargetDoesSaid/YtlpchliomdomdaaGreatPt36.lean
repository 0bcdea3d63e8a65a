import Derived.Test.YtlpchliomdomdaaGreatPt35
namespace Go.Proofs.YtlpchliomdomdaaGreat.LgTab
open Go Lg
set_option linter.unusedVariables false
set_option linter.unusedSimpArgs false
set_option maxRecDepth 8000
set_option maxHeartbeats 16000000 in
theorem sp302_109 (k:Nat) (s:Sc) (o:OkS s) (r:RightS s) (ek er:Int) (ps:Option (List Int)) (et:List UInt8) (hp:parOk ⟨ek,er,0,0,109,ps,et⟩) (hlen:(ps.getD []).length≤100000):evFun (clOf (modsR tab (k+4)) 3) s302 [scD s,evD ⟨ek,er,0,0,109,ps,et⟩]=some (scD ({s with p:=applyM s.p (ps.getD [])}),[]):=by
 have hh:=o.h
 have hg1:=o.g.1
 have hw:=o.w
 have hc:=o.col
 have hr:=o.row
 have hl:=o.len
 have ht:=o.top
 have hb:=o.bot
 have v310:=fun q=>sp310 q s o ⟨ek,er,0,0,109,ps,et⟩ hp
 rw [show isMove 109=false from rfl] at v310
 simp only [Bool.false_eq_true,if_false] at v310
 have w0:=fun q=>sp311_0 q ⟨ek,er,0,0,109,ps,et⟩ 1
 have w1:=fun q=>sp311_0 q ⟨ek,er,0,0,109,ps,et⟩ 0
 rw [one_from hp] at w0
 rw [one_arg hp] at w1
 have w306:=fun q=>sp306 q s
 have hn:=from1I_b (Ev.par ⟨ek,er,0,0,109,ps,et⟩) 0
 have hm:=argI_b (Ev.par ⟨ek,er,0,0,109,ps,et⟩) 0 0 0 65535 (by omega)
 obtain ⟨n,en⟩:∃ n,n=from1I (Ev.par ⟨ek,er,0,0,109,ps,et⟩) 0:=⟨_,rfl⟩
 obtain ⟨m,em⟩:∃ m,m=argI (Ev.par ⟨ek,er,0,0,109,ps,et⟩) 0 0 0 65535:=⟨_,rfl⟩
 rw [←en] at w0 hn
 rw [←em] at w1 hm
 have e_r:(s.row.toNat:Int)=s.row:=Int.toNat_of_nonneg hr.1
 have e_c:(s.col.toNat:Int)=s.col:=Int.toNat_of_nonneg hc.1
 have e_t:(s.top.toNat:Int)=s.top:=Int.toNat_of_nonneg ht.1
 have e_b:(s.bot.toNat:Int)=s.bot:=Int.toNat_of_nonneg (by omega)
 have v:=fun q=>sp281 q s.p r.p ps hp hlen
 clear hp en em
 generalize applyM s.p (ps.getD [])=P at *
 have hcase:(s.top≤s.row∧s.row≤s.bot)∨(¬s.top≤s.row)∨(s.top≤s.row∧¬s.row≤s.bot):=by omega
 cases ps with
 | none =>
  simp only [evD,evL,parD] at v v310 w0 w1
  rcases hcase with ⟨a1,a2⟩ | a1 | ⟨a1,a2⟩
  ·rw [evFun_evB rfl]
   unfold s302
   simp -implicitDefEqProofs [cw310,cr310,v310,cw311,cr311,w0,w1,cw306,cr306,w306,a1,a2,cw281,cr281,v,parD]
  ·rw [evFun_evB rfl]
   unfold s302
   simp -implicitDefEqProofs [cw310,cr310,v310,cw311,cr311,w0,w1,cw306,cr306,w306,a1,cw281,cr281,v,parD]
  ·rw [evFun_evB rfl]
   unfold s302
   simp -implicitDefEqProofs [cw310,cr310,v310,cw311,cr311,w0,w1,cw306,cr306,w306,a1,a2,cw281,cr281,v,parD]
 | some l =>
  simp only [evD,evL,parD] at v v310 w0 w1
  rcases hcase with ⟨a1,a2⟩ | a1 | ⟨a1,a2⟩
  ·rw [evFun_evB rfl]
   unfold s302
   simp -implicitDefEqProofs [cw310,cr310,v310,cw311,cr311,w0,w1,cw306,cr306,w306,a1,a2,cw281,cr281,v,parD]
  ·rw [evFun_evB rfl]
   unfold s302
   simp -implicitDefEqProofs [cw310,cr310,v310,cw311,cr311,w0,w1,cw306,cr306,w306,a1,cw281,cr281,v,parD]
  ·rw [evFun_evB rfl]
   unfold s302
   simp -implicitDefEqProofs [cw310,cr310,v310,cw311,cr311,w0,w1,cw306,cr306,w306,a1,a2,cw281,cr281,v,parD]
set_option maxHeartbeats 16000000 in
theorem sp302_114 (k:Nat) (s:Sc) (o:OkS s) (r:RightS s) (ek er:Int) (ps:Option (List Int)) (et:List UInt8) (hp:parOk ⟨ek,er,0,0,114,ps,et⟩):evFun (clOf (modsR tab (k+4)) 3) s302 [scD s,evD ⟨ek,er,0,0,114,ps,et⟩]=some (scD (margS s ⟨ek,er,0,0,114,ps,et⟩),[]):=by
 have hh:=o.h
 have hg1:=o.g.1
 have hw:=o.w
 have hc:=o.col
 have hr:=o.row
 have hl:=o.len
 have ht:=o.top
 have hb:=o.bot
 have v310:=fun q=>sp310 q s o ⟨ek,er,0,0,114,ps,et⟩ hp
 rw [show isMove 114=false from rfl] at v310
 simp only [Bool.false_eq_true,if_false] at v310
 have w0:=fun q=>sp311_0 q ⟨ek,er,0,0,114,ps,et⟩ 1
 have w1:=fun q=>sp311_0 q ⟨ek,er,0,0,114,ps,et⟩ 0
 rw [one_from hp] at w0
 rw [one_arg hp] at w1
 have w306:=fun q=>sp306 q s
 have hn:=from1I_b (Ev.par ⟨ek,er,0,0,114,ps,et⟩) 0
 have hm:=argI_b (Ev.par ⟨ek,er,0,0,114,ps,et⟩) 0 0 0 65535 (by omega)
 obtain ⟨n,en⟩:∃ n,n=from1I (Ev.par ⟨ek,er,0,0,114,ps,et⟩) 0:=⟨_,rfl⟩
 obtain ⟨m,em⟩:∃ m,m=argI (Ev.par ⟨ek,er,0,0,114,ps,et⟩) 0 0 0 65535:=⟨_,rfl⟩
 rw [←en] at w0 hn
 rw [←em] at w1 hm
 have e_r:(s.row.toNat:Int)=s.row:=Int.toNat_of_nonneg hr.1
 have e_c:(s.col.toNat:Int)=s.col:=Int.toNat_of_nonneg hc.1
 have e_t:(s.top.toNat:Int)=s.top:=Int.toNat_of_nonneg ht.1
 have e_b:(s.bot.toNat:Int)=s.bot:=Int.toNat_of_nonneg (by omega)
 have w2:=fun q=>sp311_1 q ⟨ek,er,0,0,114,ps,et⟩ (s.g.h:Int)
 have hmg:=one_marg hp (a:=(s.g.h:Int)) (by omega)
 have hmb:=argI_b (Ev.par ⟨ek,er,0,0,114,ps,et⟩) 1 s.g.h 1 s.g.h (by omega)
 have ee:margS s ⟨ek,er,0,0,114,ps,et⟩=if argI (Ev.par ⟨ek,er,0,0,114,ps,et⟩) 1 s.g.h 1 s.g.h-1≤n-1 then s else homeS {s with top:=n-1,bot:=argI (Ev.par ⟨ek,er,0,0,114,ps,et⟩) 1 s.g.h 1 s.g.h-1}:=by unfold margS;simp only [←en]
 rw [ee]
 clear ee en em hp
 generalize argI (Ev.par ⟨ek,er,0,0,114,ps,et⟩) 1 s.g.h 1 s.g.h=b at *
 have e1:wr (n-1)=n-1:=wr_id _ (by omega) (by omega)
 have e2:wr (b-1)=b-1:=wr_id _ (by omega) (by omega)
 have hcase:(s.top≤s.row∧s.row≤s.bot)∨(¬s.top≤s.row)∨(s.top≤s.row∧¬s.row≤s.bot):=by omega
 by_cases c:b-1≤n-1
 ·rw [if_pos c]
  have c':¬n-1<b-1:=by omega
  rcases hcase with ⟨a1,a2⟩ | a1 | ⟨a1,a2⟩
  ·rw [evFun_evB rfl]
   unfold s302
   simp -implicitDefEqProofs [cw310,cr310,v310,cw311,cr311,w0,w1,cw306,cr306,w306,a1,a2,w2,hmg,e1,e2,c']
  ·rw [evFun_evB rfl]
   unfold s302
   simp -implicitDefEqProofs [cw310,cr310,v310,cw311,cr311,w0,w1,cw306,cr306,w306,a1,w2,hmg,e1,e2,c']
  ·rw [evFun_evB rfl]
   unfold s302
   simp -implicitDefEqProofs [cw310,cr310,v310,cw311,cr311,w0,w1,cw306,cr306,w306,a1,a2,w2,hmg,e1,e2,c']
 ·rw [if_neg c]
  have c':n-1<b-1:=by omega
  have v:=fun q=>sp308 q _ (marg_ok o (t:=n-1) (b:=b-1) (by omega) (by omega) (by omega))
  generalize homeS {s with top:=n-1,bot:=b-1}=S' at *
  rcases hcase with ⟨a1,a2⟩ | a1 | ⟨a1,a2⟩
  ·rw [evFun_evB rfl]
   unfold s302
   simp -implicitDefEqProofs [cw310,cr310,v310,cw311,cr311,w0,w1,cw306,cr306,w306,a1,a2,w2,hmg,e1,e2,c',cw308,cr308,v]
  ·rw [evFun_evB rfl]
   unfold s302
   simp -implicitDefEqProofs [cw310,cr310,v310,cw311,cr311,w0,w1,cw306,cr306,w306,a1,w2,hmg,e1,e2,c',cw308,cr308,v]
  ·rw [evFun_evB rfl]
   unfold s302
   simp -implicitDefEqProofs [cw310,cr310,v310,cw311,cr311,w0,w1,cw306,cr306,w306,a1,a2,w2,hmg,e1,e2,c',cw308,cr308,v]
set_option maxHeartbeats 16000000 in
theorem sp302_103 (k:Nat) (s:Sc) (o:OkS s) (r:RightS s) (ek er:Int) (ps:Option (List Int)) (et:List UInt8) (hp:parOk ⟨ek,er,0,0,103,ps,et⟩):evFun (clOf (modsR tab (k+4)) 3) s302 [scD s,evD ⟨ek,er,0,0,103,ps,et⟩]=some (scD (dropS s (argI (Ev.par ⟨ek,er,0,0,103,ps,et⟩) 0 0 0 65535)),[]):=by
 have hh:=o.h
 have hg1:=o.g.1
 have hw:=o.w
 have hc:=o.col
 have hr:=o.row
 have hl:=o.len
 have ht:=o.top
 have hb:=o.bot
 have v310:=fun q=>sp310 q s o ⟨ek,er,0,0,103,ps,et⟩ hp
 rw [show isMove 103=false from rfl] at v310
 simp only [Bool.false_eq_true,if_false] at v310
 have w0:=fun q=>sp311_0 q ⟨ek,er,0,0,103,ps,et⟩ 1
 have w1:=fun q=>sp311_0 q ⟨ek,er,0,0,103,ps,et⟩ 0
 rw [one_from hp] at w0
 rw [one_arg hp] at w1
 have w306:=fun q=>sp306 q s
 have hn:=from1I_b (Ev.par ⟨ek,er,0,0,103,ps,et⟩) 0
 have hm:=argI_b (Ev.par ⟨ek,er,0,0,103,ps,et⟩) 0 0 0 65535 (by omega)
 obtain ⟨n,en⟩:∃ n,n=from1I (Ev.par ⟨ek,er,0,0,103,ps,et⟩) 0:=⟨_,rfl⟩
 obtain ⟨m,em⟩:∃ m,m=argI (Ev.par ⟨ek,er,0,0,103,ps,et⟩) 0 0 0 65535:=⟨_,rfl⟩
 rw [←en] at w0 hn
 rw [←em] at w1 hm
 have e_r:(s.row.toNat:Int)=s.row:=Int.toNat_of_nonneg hr.1
 have e_c:(s.col.toNat:Int)=s.col:=Int.toNat_of_nonneg hc.1
 have e_t:(s.top.toNat:Int)=s.top:=Int.toNat_of_nonneg ht.1
 have e_b:(s.bot.toNat:Int)=s.bot:=Int.toNat_of_nonneg (by omega)
 rw [←em]
 clear en em hp
 have hcol:0≤s.col∧s.col<64:=by omega
 have sh:=t_shl64 s.col hcol.1 hcol.2
 have wc:=wrap_u64c s.col hc.1 (by omega)
 have hcase:(s.top≤s.row∧s.row≤s.bot)∨(¬s.top≤s.row)∨(s.top≤s.row∧¬s.row≤s.bot):=by omega
 by_cases c0:m=0
 ·have ee:dropS s m={s with tabs:=dropN s.tabs (bitN s.col)}:=by unfold dropS;rw [if_pos c0]
  have an:=t_andn s.tabs (bitN s.col) o.tabs (bitN_lt s.col)
  rw [ee]
  clear ee
  generalize dropN s.tabs (bitN s.col)=T' at *
  generalize bitN s.col=B' at *
  subst c0
  rcases hcase with ⟨a1,a2⟩ | a1 | ⟨a1,a2⟩
  ·rw [evFun_evB rfl]
   unfold s302
   simp -implicitDefEqProofs [cw310,cr310,v310,cw311,cr311,w0,w1,cw306,cr306,w306,a1,a2,sh,wc,an]
  ·rw [evFun_evB rfl]
   unfold s302
   simp -implicitDefEqProofs [cw310,cr310,v310,cw311,cr311,w0,w1,cw306,cr306,w306,a1,sh,wc,an]
  ·rw [evFun_evB rfl]
   unfold s302
   simp -implicitDefEqProofs [cw310,cr310,v310,cw311,cr311,w0,w1,cw306,cr306,w306,a1,a2,sh,wc,an]
 by_cases c3:m=3
 ·have ee:dropS s m={s with tabs:=0}:=by unfold dropS;rw [if_neg c0,if_pos c3]
  rw [ee]
  clear ee
  subst c3
  rcases hcase with ⟨a1,a2⟩ | a1 | ⟨a1,a2⟩
  ·rw [evFun_evB rfl]
   unfold s302
   simp -implicitDefEqProofs [cw310,cr310,v310,cw311,cr311,w0,w1,cw306,cr306,w306,a1,a2,c0]
  ·rw [evFun_evB rfl]
   unfold s302
   simp -implicitDefEqProofs [cw310,cr310,v310,cw311,cr311,w0,w1,cw306,cr306,w306,a1,c0]
  ·rw [evFun_evB rfl]
   unfold s302
   simp -implicitDefEqProofs [cw310,cr310,v310,cw311,cr311,w0,w1,cw306,cr306,w306,a1,a2,c0]
 have ee:dropS s m=s:=by unfold dropS;rw [if_neg c0,if_neg c3]
 rw [ee]
 rcases hcase with ⟨a1,a2⟩ | a1 | ⟨a1,a2⟩
 ·rw [evFun_evB rfl]
  unfold s302
  simp -implicitDefEqProofs [cw310,cr310,v310,cw311,cr311,w0,w1,cw306,cr306,w306,a1,a2,c0,c3]
 ·rw [evFun_evB rfl]
  unfold s302
  simp -implicitDefEqProofs [cw310,cr310,v310,cw311,cr311,w0,w1,cw306,cr306,w306,a1,c0,c3]
 ·rw [evFun_evB rfl]
  unfold s302
  simp -implicitDefEqProofs [cw310,cr310,v310,cw311,cr311,w0,w1,cw306,cr306,w306,a1,a2,c0,c3]
set_option maxHeartbeats 16000000 in
theorem sp302_115 (k:Nat) (s:Sc) (o:OkS s) (r:RightS s) (ek er:Int) (ps:Option (List Int)) (et:List UInt8) (hp:parOk ⟨ek,er,0,0,115,ps,et⟩):evFun (clOf (modsR tab (k+4)) 3) s302 [scD s,evD ⟨ek,er,0,0,115,ps,et⟩]=some (scD (saveS s),[]):=by
 have hh:=o.h
 have hg1:=o.g.1
 have hw:=o.w
 have hc:=o.col
 have hr:=o.row
 have hl:=o.len
 have ht:=o.top
 have hb:=o.bot
 have v310:=fun q=>sp310 q s o ⟨ek,er,0,0,115,ps,et⟩ hp
 rw [show isMove 115=false from rfl] at v310
 simp only [Bool.false_eq_true,if_false] at v310
 have w0:=fun q=>sp311_0 q ⟨ek,er,0,0,115,ps,et⟩ 1
 have w1:=fun q=>sp311_0 q ⟨ek,er,0,0,115,ps,et⟩ 0
 rw [one_from hp] at w0
 rw [one_arg hp] at w1
 have w306:=fun q=>sp306 q s
 have hn:=from1I_b (Ev.par ⟨ek,er,0,0,115,ps,et⟩) 0
 have hm:=argI_b (Ev.par ⟨ek,er,0,0,115,ps,et⟩) 0 0 0 65535 (by omega)
 obtain ⟨n,en⟩:∃ n,n=from1I (Ev.par ⟨ek,er,0,0,115,ps,et⟩) 0:=⟨_,rfl⟩
 obtain ⟨m,em⟩:∃ m,m=argI (Ev.par ⟨ek,er,0,0,115,ps,et⟩) 0 0 0 65535:=⟨_,rfl⟩
 rw [←en] at w0 hn
 rw [←em] at w1 hm
 have e_r:(s.row.toNat:Int)=s.row:=Int.toNat_of_nonneg hr.1
 have e_c:(s.col.toNat:Int)=s.col:=Int.toNat_of_nonneg hc.1
 have e_t:(s.top.toNat:Int)=s.top:=Int.toNat_of_nonneg ht.1
 have e_b:(s.bot.toNat:Int)=s.bot:=Int.toNat_of_nonneg (by omega)
 have v:=fun q=>sp314 q s
 clear en em hp
 generalize saveS s=S' at *
 have hcase:(s.top≤s.row∧s.row≤s.bot)∨(¬s.top≤s.row)∨(s.top≤s.row∧¬s.row≤s.bot):=by omega
 rcases hcase with ⟨a1,a2⟩ | a1 | ⟨a1,a2⟩
 ·rw [evFun_evB rfl]
  unfold s302
  simp -implicitDefEqProofs [cw310,cr310,v310,cw311,cr311,w0,w1,cw306,cr306,w306,a1,a2,cw314,cr314,v]
 ·rw [evFun_evB rfl]
  unfold s302
  simp -implicitDefEqProofs [cw310,cr310,v310,cw311,cr311,w0,w1,cw306,cr306,w306,a1,cw314,cr314,v]
 ·rw [evFun_evB rfl]
  unfold s302
  simp -implicitDefEqProofs [cw310,cr310,v310,cw311,cr311,w0,w1,cw306,cr306,w306,a1,a2,cw314,cr314,v]
set_option maxHeartbeats 16000000 in
theorem sp302_117 (k:Nat) (s:Sc) (o:OkS s) (r:RightS s) (ek er:Int) (ps:Option (List Int)) (et:List UInt8) (hp:parOk ⟨ek,er,0,0,117,ps,et⟩):evFun (clOf (modsR tab (k+4)) 3) s302 [scD s,evD ⟨ek,er,0,0,117,ps,et⟩]=some (scD (restS s),[]):=by
 have hh:=o.h
 have hg1:=o.g.1
 have hw:=o.w
 have hc:=o.col
 have hr:=o.row
 have hl:=o.len
 have ht:=o.top
 have hb:=o.bot
 have v310:=fun q=>sp310 q s o ⟨ek,er,0,0,117,ps,et⟩ hp
 rw [show isMove 117=false from rfl] at v310
 simp only [Bool.false_eq_true,if_false] at v310
 have w0:=fun q=>sp311_0 q ⟨ek,er,0,0,117,ps,et⟩ 1
 have w1:=fun q=>sp311_0 q ⟨ek,er,0,0,117,ps,et⟩ 0
 rw [one_from hp] at w0
 rw [one_arg hp] at w1
 have w306:=fun q=>sp306 q s
 have hn:=from1I_b (Ev.par ⟨ek,er,0,0,117,ps,et⟩) 0
 have hm:=argI_b (Ev.par ⟨ek,er,0,0,117,ps,et⟩) 0 0 0 65535 (by omega)
 obtain ⟨n,en⟩:∃ n,n=from1I (Ev.par ⟨ek,er,0,0,117,ps,et⟩) 0:=⟨_,rfl⟩
 obtain ⟨m,em⟩:∃ m,m=argI (Ev.par ⟨ek,er,0,0,117,ps,et⟩) 0 0 0 65535:=⟨_,rfl⟩
 rw [←en] at w0 hn
 rw [←em] at w1 hm
 have e_r:(s.row.toNat:Int)=s.row:=Int.toNat_of_nonneg hr.1
 have e_c:(s.col.toNat:Int)=s.col:=Int.toNat_of_nonneg hc.1
 have e_t:(s.top.toNat:Int)=s.top:=Int.toNat_of_nonneg ht.1
 have e_b:(s.bot.toNat:Int)=s.bot:=Int.toNat_of_nonneg (by omega)
 have v:=fun q=>sp312 q s o
 clear en em hp
 generalize restS s=S' at *
 have hcase:(s.top≤s.row∧s.row≤s.bot)∨(¬s.top≤s.row)∨(s.top≤s.row∧¬s.row≤s.bot):=by omega
 rcases hcase with ⟨a1,a2⟩ | a1 | ⟨a1,a2⟩
 ·rw [evFun_evB rfl]
  unfold s302
  simp -implicitDefEqProofs [cw310,cr310,v310,cw311,cr311,w0,w1,cw306,cr306,w306,a1,a2,cw312,cr312,v]
 ·rw [evFun_evB rfl]
  unfold s302
  simp -implicitDefEqProofs [cw310,cr310,v310,cw311,cr311,w0,w1,cw306,cr306,w306,a1,cw312,cr312,v]
 ·rw [evFun_evB rfl]
  unfold s302
  simp -implicitDefEqProofs [cw310,cr310,v310,cw311,cr311,w0,w1,cw306,cr306,w306,a1,a2,cw312,cr312,v]
set_option maxHeartbeats 16000000 in
theorem sp302_no (k:Nat) (s:Sc) (o:OkS s) (r:RightS s) (ek er f:Int) (ps:Option (List Int)) (et:List UInt8) (hp:parOk ⟨ek,er,0,0,f,ps,et⟩) (hno:isMove f=false) (c74:f≠74) (c75:f≠75) (c76:f≠76) (c77:f≠77) (c64:f≠64) (c80:f≠80) (c88:f≠88) (c83:f≠83) (c84:f≠84) (c109:f≠109) (c114:f≠114) (c103:f≠103) (c115:f≠115) (c117:f≠117):evFun (clOf (modsR tab (k+4)) 3) s302 [scD s,evD ⟨ek,er,0,0,f,ps,et⟩]=some (scD (s),[]):=by
 have hh:=o.h
 have hg1:=o.g.1
 have hw:=o.w
 have hc:=o.col
 have hr:=o.row
 have hl:=o.len
 have ht:=o.top
 have hb:=o.bot
 have v310:=fun q=>sp310 q s o ⟨ek,er,0,0,f,ps,et⟩ hp
 rw [hno] at v310
 simp only [Bool.false_eq_true,if_false] at v310
 have w0:=fun q=>sp311_0 q ⟨ek,er,0,0,f,ps,et⟩ 1
 have w1:=fun q=>sp311_0 q ⟨ek,er,0,0,f,ps,et⟩ 0
 rw [one_from hp] at w0
 rw [one_arg hp] at w1
 have w306:=fun q=>sp306 q s
 have hn:=from1I_b (Ev.par ⟨ek,er,0,0,f,ps,et⟩) 0
 have hm:=argI_b (Ev.par ⟨ek,er,0,0,f,ps,et⟩) 0 0 0 65535 (by omega)
 obtain ⟨n,en⟩:∃ n,n=from1I (Ev.par ⟨ek,er,0,0,f,ps,et⟩) 0:=⟨_,rfl⟩
 obtain ⟨m,em⟩:∃ m,m=argI (Ev.par ⟨ek,er,0,0,f,ps,et⟩) 0 0 0 65535:=⟨_,rfl⟩
 rw [←en] at w0 hn
 rw [←em] at w1 hm
 have e_r:(s.row.toNat:Int)=s.row:=Int.toNat_of_nonneg hr.1
 have e_c:(s.col.toNat:Int)=s.col:=Int.toNat_of_nonneg hc.1
 have e_t:(s.top.toNat:Int)=s.top:=Int.toNat_of_nonneg ht.1
 have e_b:(s.bot.toNat:Int)=s.bot:=Int.toNat_of_nonneg (by omega)
 clear en em hp
 have hcase:(s.top≤s.row∧s.row≤s.bot)∨(¬s.top≤s.row)∨(s.top≤s.row∧¬s.row≤s.bot):=by omega
 rcases hcase with ⟨a1,a2⟩ | a1 | ⟨a1,a2⟩
 ·rw [evFun_evB rfl]
  unfold s302
  simp -implicitDefEqProofs [cw310,cr310,v310,cw311,cr311,w0,w1,cw306,cr306,w306,a1,a2,c74,c75,c76,c77,c64,c80,c88,c83,c84,c109,c114,c103,c115,c117]
 ·rw [evFun_evB rfl]
  unfold s302
  simp -implicitDefEqProofs [cw310,cr310,v310,cw311,cr311,w0,w1,cw306,cr306,w306,a1,c74,c75,c76,c77,c64,c80,c88,c83,c84,c109,c114,c103,c115,c117]
 ·rw [evFun_evB rfl]
  unfold s302
  simp -implicitDefEqProofs [cw310,cr310,v310,cw311,cr311,w0,w1,cw306,cr306,w306,a1,a2,c74,c75,c76,c77,c64,c80,c88,c83,c84,c109,c114,c103,c115,c117]
end Go.Proofs.YtlpchliomdomdaaGreat.LgTab
