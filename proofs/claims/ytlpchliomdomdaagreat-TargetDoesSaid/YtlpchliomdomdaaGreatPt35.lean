import Derived.Test.YtlpchliomdomdaaGreatPt34
namespace Go.Proofs.YtlpchliomdomdaaGreat.LgTab
open Go Lg
set_option linter.unusedVariables false
set_option linter.unusedSimpArgs false
set_option maxRecDepth 8000
theorem one_arg {e:Ev} (h:parOk e):oneI e.par 0 0=argI e.par 0 0 0 65535:=by
 unfold oneI argI
 cases hx:e.par[0]? with
 | none=>rfl
 | some x =>
  have hb:=h x (List.mem_of_getElem? hx)
  simp only
  unfold mxI mnI
  repeat' split
  all_goals omega
theorem one_marg {e:Ev} (h:parOk e) {a:Int} (ha:1≤a):mnI (oneI e.par 1 a) a=argI e.par 1 a 1 a:=by
 unfold oneI argI
 cases hx:e.par[1]? with
 | none =>
  simp only
  unfold mxI mnI
  repeat' split
  all_goals omega
 | some x =>
  have hb:=h x (List.mem_of_getElem? hx)
  simp only
  unfold mxI mnI
  repeat' split
  all_goals omega
theorem shTo_congr {g:Gd} {top bot:Nat} {n m:Int} {p:Pn} (h:∀ r,r≤bot→shRow g top bot n p r=shRow g top bot m p r):∀ i,top+i≤bot+1→shTo g top bot n p i=shTo g top bot m p i
 | 0,_=>rfl
 | i+1,hi=>by
  rw [shTo,shTo,shTo_congr h i (by omega),h (top+i) (by omega)]
theorem shG_far {g:Gd} {top bot:Nat} (ht:top≤bot) (hb:bot<40) {n:Int} (hn:0≤n) (p:Pn):shG g top bot (farI n) p=shG g top bot n p∧shG g top bot (-farI n) p=shG g top bot (-n) p:=by
 have hf:farI n=if 40<n then 40 else n:=by
  unfold farI mxI mnI
  repeat' split
  all_goals omega
 constructor
 ·refine shTo_congr (fun r hr=>?_) _ (by omega)
  unfold shRow
  rw [hf]
  split
  ·rw [if_neg (by omega),if_neg (by omega)]
  ·rfl
 ·refine shTo_congr (fun r hr=>?_) _ (by omega)
  unfold shRow
  rw [hf]
  split
  ·rw [if_neg (by omega),if_neg (by omega)]
  ·rfl
theorem csi_move {s:Sc} {ek er f:Int} {ps:Option (List Int)} {et:List UInt8} (h:isMove f=true):csiS s ⟨ek,er,0,0,f,ps,et⟩=moveS s ⟨ek,er,0,0,f,ps,et⟩:=by
 unfold csiS
 rw [if_neg (by simp),if_neg (by simp),if_neg (by simp),if_pos h]
set_option maxHeartbeats 8000000 in
theorem sp302_move (k:Nat) (s:Sc) (o:OkS s) (ek er f:Int) (ps:Option (List Int)) (et:List UInt8) (hp:parOk ⟨ek,er,0,0,f,ps,et⟩) (h:isMove f=true):evFun (clOf (modsR tab (k+4)) 3) s302 [scD s,evD ⟨ek,er,0,0,f,ps,et⟩]=some (scD (moveS s ⟨ek,er,0,0,f,ps,et⟩),[]):=by
 have v:=fun q=>sp310 q s o ⟨ek,er,0,0,f,ps,et⟩ hp
 simp only [h,if_true] at v
 generalize moveS s ⟨ek,er,0,0,f,ps,et⟩=S' at *
 rw [evFun_evB rfl]
 unfold s302
 simp -implicitDefEqProofs [cw310,cr310,v]
set_option maxHeartbeats 16000000 in
theorem sp302_74 (k:Nat) (s:Sc) (o:OkS s) (r:RightS s) (ek er:Int) (ps:Option (List Int)) (et:List UInt8) (hp:parOk ⟨ek,er,0,0,74,ps,et⟩):evFun (clOf (modsR tab (k+4)) 3) s302 [scD s,evD ⟨ek,er,0,0,74,ps,et⟩]=some (scD (chgS s ⟨ek,er,0,0,74,ps,et⟩),[]):=by
 have hh:=o.h
 have hg1:=o.g.1
 have hw:=o.w
 have hc:=o.col
 have hr:=o.row
 have hl:=o.len
 have ht:=o.top
 have hb:=o.bot
 have v310:=fun q=>sp310 q s o ⟨ek,er,0,0,74,ps,et⟩ hp
 rw [show isMove 74=false from rfl] at v310
 simp only [Bool.false_eq_true,if_false] at v310
 have w0:=fun q=>sp311_0 q ⟨ek,er,0,0,74,ps,et⟩ 1
 have w1:=fun q=>sp311_0 q ⟨ek,er,0,0,74,ps,et⟩ 0
 rw [one_from hp] at w0
 rw [one_arg hp] at w1
 have w306:=fun q=>sp306 q s
 have hn:=from1I_b (Ev.par ⟨ek,er,0,0,74,ps,et⟩) 0
 have hm:=argI_b (Ev.par ⟨ek,er,0,0,74,ps,et⟩) 0 0 0 65535 (by omega)
 obtain ⟨n,en⟩:∃ n,n=from1I (Ev.par ⟨ek,er,0,0,74,ps,et⟩) 0:=⟨_,rfl⟩
 obtain ⟨m,em⟩:∃ m,m=argI (Ev.par ⟨ek,er,0,0,74,ps,et⟩) 0 0 0 65535:=⟨_,rfl⟩
 rw [←en] at w0 hn
 rw [←em] at w1 hm
 have e_r:(s.row.toNat:Int)=s.row:=Int.toNat_of_nonneg hr.1
 have e_c:(s.col.toNat:Int)=s.col:=Int.toNat_of_nonneg hc.1
 have e_t:(s.top.toNat:Int)=s.top:=Int.toNat_of_nonneg ht.1
 have e_b:(s.bot.toNat:Int)=s.bot:=Int.toNat_of_nonneg (by omega)
 have ee:chgS s ⟨ek,er,0,0,74,ps,et⟩={s with g:=eraseG s.g s.row.toNat s.col.toNat m (fillP s),pend:=false}:=by unfold chgS chgG;simp only [←en,←em];rfl
 rw [ee]
 have v:=fun q=>sp303 q s.g o.g (by omega) s.row.toNat s.col.toNat (by omega) (by omega) m hm.1 true (fillP s)
 rw [ref_erase r.g (by omega) (by omega) m hm.1 true,if_pos rfl,e_r,e_c] at v
 clear hp en em ee
 generalize eraseG s.g s.row.toNat s.col.toNat m (fillP s)=G at *
 have hcase:(s.top≤s.row∧s.row≤s.bot)∨(¬s.top≤s.row)∨(s.top≤s.row∧¬s.row≤s.bot):=by omega
 rcases hcase with ⟨a1,a2⟩ | a1 | ⟨a1,a2⟩
 ·rw [evFun_evB rfl]
  unfold s302
  simp -implicitDefEqProofs [cw310,cr310,v310,cw311,cr311,w0,w1,cw306,cr306,w306,a1,a2,cw303,cr303,v]
 ·rw [evFun_evB rfl]
  unfold s302
  simp -implicitDefEqProofs [cw310,cr310,v310,cw311,cr311,w0,w1,cw306,cr306,w306,a1,cw303,cr303,v]
 ·rw [evFun_evB rfl]
  unfold s302
  simp -implicitDefEqProofs [cw310,cr310,v310,cw311,cr311,w0,w1,cw306,cr306,w306,a1,a2,cw303,cr303,v]
set_option maxHeartbeats 16000000 in
theorem sp302_75 (k:Nat) (s:Sc) (o:OkS s) (r:RightS s) (ek er:Int) (ps:Option (List Int)) (et:List UInt8) (hp:parOk ⟨ek,er,0,0,75,ps,et⟩):evFun (clOf (modsR tab (k+4)) 3) s302 [scD s,evD ⟨ek,er,0,0,75,ps,et⟩]=some (scD (chgS s ⟨ek,er,0,0,75,ps,et⟩),[]):=by
 have hh:=o.h
 have hg1:=o.g.1
 have hw:=o.w
 have hc:=o.col
 have hr:=o.row
 have hl:=o.len
 have ht:=o.top
 have hb:=o.bot
 have v310:=fun q=>sp310 q s o ⟨ek,er,0,0,75,ps,et⟩ hp
 rw [show isMove 75=false from rfl] at v310
 simp only [Bool.false_eq_true,if_false] at v310
 have w0:=fun q=>sp311_0 q ⟨ek,er,0,0,75,ps,et⟩ 1
 have w1:=fun q=>sp311_0 q ⟨ek,er,0,0,75,ps,et⟩ 0
 rw [one_from hp] at w0
 rw [one_arg hp] at w1
 have w306:=fun q=>sp306 q s
 have hn:=from1I_b (Ev.par ⟨ek,er,0,0,75,ps,et⟩) 0
 have hm:=argI_b (Ev.par ⟨ek,er,0,0,75,ps,et⟩) 0 0 0 65535 (by omega)
 obtain ⟨n,en⟩:∃ n,n=from1I (Ev.par ⟨ek,er,0,0,75,ps,et⟩) 0:=⟨_,rfl⟩
 obtain ⟨m,em⟩:∃ m,m=argI (Ev.par ⟨ek,er,0,0,75,ps,et⟩) 0 0 0 65535:=⟨_,rfl⟩
 rw [←en] at w0 hn
 rw [←em] at w1 hm
 have e_r:(s.row.toNat:Int)=s.row:=Int.toNat_of_nonneg hr.1
 have e_c:(s.col.toNat:Int)=s.col:=Int.toNat_of_nonneg hc.1
 have e_t:(s.top.toNat:Int)=s.top:=Int.toNat_of_nonneg ht.1
 have e_b:(s.bot.toNat:Int)=s.bot:=Int.toNat_of_nonneg (by omega)
 have ee:chgS s ⟨ek,er,0,0,75,ps,et⟩={s with g:=lineG s.g s.row.toNat s.col.toNat m (fillP s),pend:=false}:=by unfold chgS chgG;simp only [←en,←em];rfl
 rw [ee]
 have v:=fun q=>sp303 q s.g o.g (by omega) s.row.toNat s.col.toNat (by omega) (by omega) m hm.1 false (fillP s)
 rw [ref_erase r.g (by omega) (by omega) m hm.1 false,if_neg (by decide),e_r,e_c] at v
 clear hp en em ee
 generalize lineG s.g s.row.toNat s.col.toNat m (fillP s)=G at *
 have hcase:(s.top≤s.row∧s.row≤s.bot)∨(¬s.top≤s.row)∨(s.top≤s.row∧¬s.row≤s.bot):=by omega
 rcases hcase with ⟨a1,a2⟩ | a1 | ⟨a1,a2⟩
 ·rw [evFun_evB rfl]
  unfold s302
  simp -implicitDefEqProofs [cw310,cr310,v310,cw311,cr311,w0,w1,cw306,cr306,w306,a1,a2,cw303,cr303,v]
 ·rw [evFun_evB rfl]
  unfold s302
  simp -implicitDefEqProofs [cw310,cr310,v310,cw311,cr311,w0,w1,cw306,cr306,w306,a1,cw303,cr303,v]
 ·rw [evFun_evB rfl]
  unfold s302
  simp -implicitDefEqProofs [cw310,cr310,v310,cw311,cr311,w0,w1,cw306,cr306,w306,a1,a2,cw303,cr303,v]
set_option maxHeartbeats 16000000 in
theorem sp302_64 (k:Nat) (s:Sc) (o:OkS s) (r:RightS s) (ek er:Int) (ps:Option (List Int)) (et:List UInt8) (hp:parOk ⟨ek,er,0,0,64,ps,et⟩):evFun (clOf (modsR tab (k+4)) 3) s302 [scD s,evD ⟨ek,er,0,0,64,ps,et⟩]=some (scD (chgS s ⟨ek,er,0,0,64,ps,et⟩),[]):=by
 have hh:=o.h
 have hg1:=o.g.1
 have hw:=o.w
 have hc:=o.col
 have hr:=o.row
 have hl:=o.len
 have ht:=o.top
 have hb:=o.bot
 have v310:=fun q=>sp310 q s o ⟨ek,er,0,0,64,ps,et⟩ hp
 rw [show isMove 64=false from rfl] at v310
 simp only [Bool.false_eq_true,if_false] at v310
 have w0:=fun q=>sp311_0 q ⟨ek,er,0,0,64,ps,et⟩ 1
 have w1:=fun q=>sp311_0 q ⟨ek,er,0,0,64,ps,et⟩ 0
 rw [one_from hp] at w0
 rw [one_arg hp] at w1
 have w306:=fun q=>sp306 q s
 have hn:=from1I_b (Ev.par ⟨ek,er,0,0,64,ps,et⟩) 0
 have hm:=argI_b (Ev.par ⟨ek,er,0,0,64,ps,et⟩) 0 0 0 65535 (by omega)
 obtain ⟨n,en⟩:∃ n,n=from1I (Ev.par ⟨ek,er,0,0,64,ps,et⟩) 0:=⟨_,rfl⟩
 obtain ⟨m,em⟩:∃ m,m=argI (Ev.par ⟨ek,er,0,0,64,ps,et⟩) 0 0 0 65535:=⟨_,rfl⟩
 rw [←en] at w0 hn
 rw [←em] at w1 hm
 have e_r:(s.row.toNat:Int)=s.row:=Int.toNat_of_nonneg hr.1
 have e_c:(s.col.toNat:Int)=s.col:=Int.toNat_of_nonneg hc.1
 have e_t:(s.top.toNat:Int)=s.top:=Int.toNat_of_nonneg ht.1
 have e_b:(s.bot.toNat:Int)=s.bot:=Int.toNat_of_nonneg (by omega)
 have ee:chgS s ⟨ek,er,0,0,64,ps,et⟩={s with g:=insG s.g s.row.toNat s.col.toNat n (fillP s),pend:=false}:=by unfold chgS chgG;simp only [←en,←em];rfl
 rw [ee]
 have v:=fun q=>sp295i q s.g o.g (by omega) s.row.toNat s.col.toNat (by omega) (by omega) n (by omega) (fillP s)
 rw [e_r,e_c] at v
 clear hp en em ee
 generalize insG s.g s.row.toNat s.col.toNat n (fillP s)=G at *
 have hcase:(s.top≤s.row∧s.row≤s.bot)∨(¬s.top≤s.row)∨(s.top≤s.row∧¬s.row≤s.bot):=by omega
 rcases hcase with ⟨a1,a2⟩ | a1 | ⟨a1,a2⟩
 ·rw [evFun_evB rfl]
  unfold s302
  simp -implicitDefEqProofs [cw310,cr310,v310,cw311,cr311,w0,w1,cw306,cr306,w306,a1,a2,cw295,cr295,v]
 ·rw [evFun_evB rfl]
  unfold s302
  simp -implicitDefEqProofs [cw310,cr310,v310,cw311,cr311,w0,w1,cw306,cr306,w306,a1,cw295,cr295,v]
 ·rw [evFun_evB rfl]
  unfold s302
  simp -implicitDefEqProofs [cw310,cr310,v310,cw311,cr311,w0,w1,cw306,cr306,w306,a1,a2,cw295,cr295,v]
set_option maxHeartbeats 16000000 in
theorem sp302_80 (k:Nat) (s:Sc) (o:OkS s) (r:RightS s) (ek er:Int) (ps:Option (List Int)) (et:List UInt8) (hp:parOk ⟨ek,er,0,0,80,ps,et⟩):evFun (clOf (modsR tab (k+4)) 3) s302 [scD s,evD ⟨ek,er,0,0,80,ps,et⟩]=some (scD (chgS s ⟨ek,er,0,0,80,ps,et⟩),[]):=by
 have hh:=o.h
 have hg1:=o.g.1
 have hw:=o.w
 have hc:=o.col
 have hr:=o.row
 have hl:=o.len
 have ht:=o.top
 have hb:=o.bot
 have v310:=fun q=>sp310 q s o ⟨ek,er,0,0,80,ps,et⟩ hp
 rw [show isMove 80=false from rfl] at v310
 simp only [Bool.false_eq_true,if_false] at v310
 have w0:=fun q=>sp311_0 q ⟨ek,er,0,0,80,ps,et⟩ 1
 have w1:=fun q=>sp311_0 q ⟨ek,er,0,0,80,ps,et⟩ 0
 rw [one_from hp] at w0
 rw [one_arg hp] at w1
 have w306:=fun q=>sp306 q s
 have hn:=from1I_b (Ev.par ⟨ek,er,0,0,80,ps,et⟩) 0
 have hm:=argI_b (Ev.par ⟨ek,er,0,0,80,ps,et⟩) 0 0 0 65535 (by omega)
 obtain ⟨n,en⟩:∃ n,n=from1I (Ev.par ⟨ek,er,0,0,80,ps,et⟩) 0:=⟨_,rfl⟩
 obtain ⟨m,em⟩:∃ m,m=argI (Ev.par ⟨ek,er,0,0,80,ps,et⟩) 0 0 0 65535:=⟨_,rfl⟩
 rw [←en] at w0 hn
 rw [←em] at w1 hm
 have e_r:(s.row.toNat:Int)=s.row:=Int.toNat_of_nonneg hr.1
 have e_c:(s.col.toNat:Int)=s.col:=Int.toNat_of_nonneg hc.1
 have e_t:(s.top.toNat:Int)=s.top:=Int.toNat_of_nonneg ht.1
 have e_b:(s.bot.toNat:Int)=s.bot:=Int.toNat_of_nonneg (by omega)
 have ee:chgS s ⟨ek,er,0,0,80,ps,et⟩={s with g:=delG s.g s.row.toNat s.col.toNat n (fillP s),pend:=false}:=by unfold chgS chgG;simp only [←en,←em];rfl
 rw [ee]
 have v:=fun q=>sp295d q s.g o.g (by omega) s.row.toNat s.col.toNat (by omega) (by omega) n (by omega) (fillP s)
 rw [e_r,e_c] at v
 have eneg:IntKind.i64.wrap (-n) = -n:=wrap_id _ (by omega) (by omega)
 clear hp en em ee
 generalize delG s.g s.row.toNat s.col.toNat n (fillP s)=G at *
 have hcase:(s.top≤s.row∧s.row≤s.bot)∨(¬s.top≤s.row)∨(s.top≤s.row∧¬s.row≤s.bot):=by omega
 rcases hcase with ⟨a1,a2⟩ | a1 | ⟨a1,a2⟩
 ·rw [evFun_evB rfl]
  unfold s302
  simp -implicitDefEqProofs [cw310,cr310,v310,cw311,cr311,w0,w1,cw306,cr306,w306,a1,a2,cw295,cr295,v,eneg]
 ·rw [evFun_evB rfl]
  unfold s302
  simp -implicitDefEqProofs [cw310,cr310,v310,cw311,cr311,w0,w1,cw306,cr306,w306,a1,cw295,cr295,v,eneg]
 ·rw [evFun_evB rfl]
  unfold s302
  simp -implicitDefEqProofs [cw310,cr310,v310,cw311,cr311,w0,w1,cw306,cr306,w306,a1,a2,cw295,cr295,v,eneg]
set_option maxHeartbeats 16000000 in
theorem sp302_88 (k:Nat) (s:Sc) (o:OkS s) (r:RightS s) (ek er:Int) (ps:Option (List Int)) (et:List UInt8) (hp:parOk ⟨ek,er,0,0,88,ps,et⟩):evFun (clOf (modsR tab (k+4)) 3) s302 [scD s,evD ⟨ek,er,0,0,88,ps,et⟩]=some (scD (chgS s ⟨ek,er,0,0,88,ps,et⟩),[]):=by
 have hh:=o.h
 have hg1:=o.g.1
 have hw:=o.w
 have hc:=o.col
 have hr:=o.row
 have hl:=o.len
 have ht:=o.top
 have hb:=o.bot
 have v310:=fun q=>sp310 q s o ⟨ek,er,0,0,88,ps,et⟩ hp
 rw [show isMove 88=false from rfl] at v310
 simp only [Bool.false_eq_true,if_false] at v310
 have w0:=fun q=>sp311_0 q ⟨ek,er,0,0,88,ps,et⟩ 1
 have w1:=fun q=>sp311_0 q ⟨ek,er,0,0,88,ps,et⟩ 0
 rw [one_from hp] at w0
 rw [one_arg hp] at w1
 have w306:=fun q=>sp306 q s
 have hn:=from1I_b (Ev.par ⟨ek,er,0,0,88,ps,et⟩) 0
 have hm:=argI_b (Ev.par ⟨ek,er,0,0,88,ps,et⟩) 0 0 0 65535 (by omega)
 obtain ⟨n,en⟩:∃ n,n=from1I (Ev.par ⟨ek,er,0,0,88,ps,et⟩) 0:=⟨_,rfl⟩
 obtain ⟨m,em⟩:∃ m,m=argI (Ev.par ⟨ek,er,0,0,88,ps,et⟩) 0 0 0 65535:=⟨_,rfl⟩
 rw [←en] at w0 hn
 rw [←em] at w1 hm
 have e_r:(s.row.toNat:Int)=s.row:=Int.toNat_of_nonneg hr.1
 have e_c:(s.col.toNat:Int)=s.col:=Int.toNat_of_nonneg hc.1
 have e_t:(s.top.toNat:Int)=s.top:=Int.toNat_of_nonneg ht.1
 have e_b:(s.bot.toNat:Int)=s.bot:=Int.toNat_of_nonneg (by omega)
 have ee:chgS s ⟨ek,er,0,0,88,ps,et⟩={s with g:=wipeG s.g s.row.toNat s.col (s.col+n) (fillP s),pend:=false}:=by unfold chgS chgG;simp only [←en,←em];rfl
 rw [ee]
 have v:=fun q=>sp298 q s.g o.g (by omega) s.row.toNat (by omega) s.col (s.col+n) (fillP s)
 rw [e_r] at v
 have eadd:wr (s.col+n)=s.col+n:=wr_id _ (by omega) (by omega)
 clear hp en em ee
 generalize wipeG s.g s.row.toNat s.col (s.col+n) (fillP s)=G at *
 have hcase:(s.top≤s.row∧s.row≤s.bot)∨(¬s.top≤s.row)∨(s.top≤s.row∧¬s.row≤s.bot):=by omega
 rcases hcase with ⟨a1,a2⟩ | a1 | ⟨a1,a2⟩
 ·rw [evFun_evB rfl]
  unfold s302
  simp -implicitDefEqProofs [cw310,cr310,v310,cw311,cr311,w0,w1,cw306,cr306,w306,a1,a2,cw298,cr298,v,eadd]
 ·rw [evFun_evB rfl]
  unfold s302
  simp -implicitDefEqProofs [cw310,cr310,v310,cw311,cr311,w0,w1,cw306,cr306,w306,a1,cw298,cr298,v,eadd]
 ·rw [evFun_evB rfl]
  unfold s302
  simp -implicitDefEqProofs [cw310,cr310,v310,cw311,cr311,w0,w1,cw306,cr306,w306,a1,a2,cw298,cr298,v,eadd]
set_option maxHeartbeats 16000000 in
theorem sp302_83 (k:Nat) (s:Sc) (o:OkS s) (r:RightS s) (ek er:Int) (ps:Option (List Int)) (et:List UInt8) (hp:parOk ⟨ek,er,0,0,83,ps,et⟩):evFun (clOf (modsR tab (k+4)) 3) s302 [scD s,evD ⟨ek,er,0,0,83,ps,et⟩]=some (scD (rowsS s ⟨ek,er,0,0,83,ps,et⟩),[]):=by
 have hh:=o.h
 have hg1:=o.g.1
 have hw:=o.w
 have hc:=o.col
 have hr:=o.row
 have hl:=o.len
 have ht:=o.top
 have hb:=o.bot
 have v310:=fun q=>sp310 q s o ⟨ek,er,0,0,83,ps,et⟩ hp
 rw [show isMove 83=false from rfl] at v310
 simp only [Bool.false_eq_true,if_false] at v310
 have w0:=fun q=>sp311_0 q ⟨ek,er,0,0,83,ps,et⟩ 1
 have w1:=fun q=>sp311_0 q ⟨ek,er,0,0,83,ps,et⟩ 0
 rw [one_from hp] at w0
 rw [one_arg hp] at w1
 have w306:=fun q=>sp306 q s
 have hn:=from1I_b (Ev.par ⟨ek,er,0,0,83,ps,et⟩) 0
 have hm:=argI_b (Ev.par ⟨ek,er,0,0,83,ps,et⟩) 0 0 0 65535 (by omega)
 obtain ⟨n,en⟩:∃ n,n=from1I (Ev.par ⟨ek,er,0,0,83,ps,et⟩) 0:=⟨_,rfl⟩
 obtain ⟨m,em⟩:∃ m,m=argI (Ev.par ⟨ek,er,0,0,83,ps,et⟩) 0 0 0 65535:=⟨_,rfl⟩
 rw [←en] at w0 hn
 rw [←em] at w1 hm
 have e_r:(s.row.toNat:Int)=s.row:=Int.toNat_of_nonneg hr.1
 have e_c:(s.col.toNat:Int)=s.col:=Int.toNat_of_nonneg hc.1
 have e_t:(s.top.toNat:Int)=s.top:=Int.toNat_of_nonneg ht.1
 have e_b:(s.bot.toNat:Int)=s.bot:=Int.toNat_of_nonneg (by omega)
 have ee:rowsS s ⟨ek,er,0,0,83,ps,et⟩={s with g:=shG s.g s.top.toNat s.bot.toNat (n) (fillP s)}:=by
  unfold rowsS moveG
  simp only [←en]
  rw [←(shG_far (g:=s.g) (top:=s.top.toNat) (bot:=s.bot.toNat) (by omega) (by omega) (n:=n) (by omega) (fillP s)).1]
  rfl
 rw [ee]
 have v:=fun q=>sp294 q s.g o.g (by omega) hw s.top.toNat s.bot.toNat (by omega) (by omega) (n) (by omega) (fillP s)
 rw [e_t,e_b] at v
 have eneg:IntKind.i64.wrap (-n) = -n:=wrap_id _ (by omega) (by omega)
 clear hp en em ee
 generalize shG s.g s.top.toNat s.bot.toNat (n) (fillP s)=G at *
 have hcase:(s.top≤s.row∧s.row≤s.bot)∨(¬s.top≤s.row)∨(s.top≤s.row∧¬s.row≤s.bot):=by omega
 rcases hcase with ⟨a1,a2⟩ | a1 | ⟨a1,a2⟩
 ·rw [evFun_evB rfl]
  unfold s302
  simp -implicitDefEqProofs [cw310,cr310,v310,cw311,cr311,w0,w1,cw306,cr306,w306,a1,a2,cw294,cr294,v,eneg]
 ·rw [evFun_evB rfl]
  unfold s302
  simp -implicitDefEqProofs [cw310,cr310,v310,cw311,cr311,w0,w1,cw306,cr306,w306,a1,cw294,cr294,v,eneg]
 ·rw [evFun_evB rfl]
  unfold s302
  simp -implicitDefEqProofs [cw310,cr310,v310,cw311,cr311,w0,w1,cw306,cr306,w306,a1,a2,cw294,cr294,v,eneg]
set_option maxHeartbeats 16000000 in
theorem sp302_84 (k:Nat) (s:Sc) (o:OkS s) (r:RightS s) (ek er:Int) (ps:Option (List Int)) (et:List UInt8) (hp:parOk ⟨ek,er,0,0,84,ps,et⟩):evFun (clOf (modsR tab (k+4)) 3) s302 [scD s,evD ⟨ek,er,0,0,84,ps,et⟩]=some (scD (rowsS s ⟨ek,er,0,0,84,ps,et⟩),[]):=by
 have hh:=o.h
 have hg1:=o.g.1
 have hw:=o.w
 have hc:=o.col
 have hr:=o.row
 have hl:=o.len
 have ht:=o.top
 have hb:=o.bot
 have v310:=fun q=>sp310 q s o ⟨ek,er,0,0,84,ps,et⟩ hp
 rw [show isMove 84=false from rfl] at v310
 simp only [Bool.false_eq_true,if_false] at v310
 have w0:=fun q=>sp311_0 q ⟨ek,er,0,0,84,ps,et⟩ 1
 have w1:=fun q=>sp311_0 q ⟨ek,er,0,0,84,ps,et⟩ 0
 rw [one_from hp] at w0
 rw [one_arg hp] at w1
 have w306:=fun q=>sp306 q s
 have hn:=from1I_b (Ev.par ⟨ek,er,0,0,84,ps,et⟩) 0
 have hm:=argI_b (Ev.par ⟨ek,er,0,0,84,ps,et⟩) 0 0 0 65535 (by omega)
 obtain ⟨n,en⟩:∃ n,n=from1I (Ev.par ⟨ek,er,0,0,84,ps,et⟩) 0:=⟨_,rfl⟩
 obtain ⟨m,em⟩:∃ m,m=argI (Ev.par ⟨ek,er,0,0,84,ps,et⟩) 0 0 0 65535:=⟨_,rfl⟩
 rw [←en] at w0 hn
 rw [←em] at w1 hm
 have e_r:(s.row.toNat:Int)=s.row:=Int.toNat_of_nonneg hr.1
 have e_c:(s.col.toNat:Int)=s.col:=Int.toNat_of_nonneg hc.1
 have e_t:(s.top.toNat:Int)=s.top:=Int.toNat_of_nonneg ht.1
 have e_b:(s.bot.toNat:Int)=s.bot:=Int.toNat_of_nonneg (by omega)
 have ee:rowsS s ⟨ek,er,0,0,84,ps,et⟩={s with g:=shG s.g s.top.toNat s.bot.toNat (-n) (fillP s)}:=by
  unfold rowsS moveG
  simp only [←en]
  rw [←(shG_far (g:=s.g) (top:=s.top.toNat) (bot:=s.bot.toNat) (by omega) (by omega) (n:=n) (by omega) (fillP s)).2]
  rfl
 rw [ee]
 have v:=fun q=>sp294 q s.g o.g (by omega) hw s.top.toNat s.bot.toNat (by omega) (by omega) (-n) (by omega) (fillP s)
 rw [e_t,e_b] at v
 have eneg:IntKind.i64.wrap (-n) = -n:=wrap_id _ (by omega) (by omega)
 clear hp en em ee
 generalize shG s.g s.top.toNat s.bot.toNat (-n) (fillP s)=G at *
 have hcase:(s.top≤s.row∧s.row≤s.bot)∨(¬s.top≤s.row)∨(s.top≤s.row∧¬s.row≤s.bot):=by omega
 rcases hcase with ⟨a1,a2⟩ | a1 | ⟨a1,a2⟩
 ·rw [evFun_evB rfl]
  unfold s302
  simp -implicitDefEqProofs [cw310,cr310,v310,cw311,cr311,w0,w1,cw306,cr306,w306,a1,a2,cw294,cr294,v,eneg]
 ·rw [evFun_evB rfl]
  unfold s302
  simp -implicitDefEqProofs [cw310,cr310,v310,cw311,cr311,w0,w1,cw306,cr306,w306,a1,cw294,cr294,v,eneg]
 ·rw [evFun_evB rfl]
  unfold s302
  simp -implicitDefEqProofs [cw310,cr310,v310,cw311,cr311,w0,w1,cw306,cr306,w306,a1,a2,cw294,cr294,v,eneg]
set_option maxHeartbeats 16000000 in
theorem sp302_76 (k:Nat) (s:Sc) (o:OkS s) (r:RightS s) (ek er:Int) (ps:Option (List Int)) (et:List UInt8) (hp:parOk ⟨ek,er,0,0,76,ps,et⟩):evFun (clOf (modsR tab (k+4)) 3) s302 [scD s,evD ⟨ek,er,0,0,76,ps,et⟩]=some (scD (rowsS s ⟨ek,er,0,0,76,ps,et⟩),[]):=by
 have hh:=o.h
 have hg1:=o.g.1
 have hw:=o.w
 have hc:=o.col
 have hr:=o.row
 have hl:=o.len
 have ht:=o.top
 have hb:=o.bot
 have v310:=fun q=>sp310 q s o ⟨ek,er,0,0,76,ps,et⟩ hp
 rw [show isMove 76=false from rfl] at v310
 simp only [Bool.false_eq_true,if_false] at v310
 have w0:=fun q=>sp311_0 q ⟨ek,er,0,0,76,ps,et⟩ 1
 have w1:=fun q=>sp311_0 q ⟨ek,er,0,0,76,ps,et⟩ 0
 rw [one_from hp] at w0
 rw [one_arg hp] at w1
 have w306:=fun q=>sp306 q s
 have hn:=from1I_b (Ev.par ⟨ek,er,0,0,76,ps,et⟩) 0
 have hm:=argI_b (Ev.par ⟨ek,er,0,0,76,ps,et⟩) 0 0 0 65535 (by omega)
 obtain ⟨n,en⟩:∃ n,n=from1I (Ev.par ⟨ek,er,0,0,76,ps,et⟩) 0:=⟨_,rfl⟩
 obtain ⟨m,em⟩:∃ m,m=argI (Ev.par ⟨ek,er,0,0,76,ps,et⟩) 0 0 0 65535:=⟨_,rfl⟩
 rw [←en] at w0 hn
 rw [←em] at w1 hm
 have e_r:(s.row.toNat:Int)=s.row:=Int.toNat_of_nonneg hr.1
 have e_c:(s.col.toNat:Int)=s.col:=Int.toNat_of_nonneg hc.1
 have e_t:(s.top.toNat:Int)=s.top:=Int.toNat_of_nonneg ht.1
 have e_b:(s.bot.toNat:Int)=s.bot:=Int.toNat_of_nonneg (by omega)
 have eneg:IntKind.i64.wrap (-n) = -n:=wrap_id _ (by omega) (by omega)
 by_cases hout:s.row<s.top∨s.bot<s.row
 ·have ee:rowsS s ⟨ek,er,0,0,76,ps,et⟩=s:=by
   unfold rowsS
   simp only
   rw [if_neg (by decide),if_neg (by decide),if_pos hout]
  rw [ee]
  have hcase:(¬s.top≤s.row)∨(s.top≤s.row∧¬s.row≤s.bot):=by omega
  clear hp en em ee
  rcases hcase with a1 | ⟨a1,a2⟩
  ·rw [evFun_evB rfl]
   unfold s302
   simp -implicitDefEqProofs [cw310,cr310,v310,cw311,cr311,w0,w1,cw306,cr306,w306,a1]
  ·rw [evFun_evB rfl]
   unfold s302
   simp -implicitDefEqProofs [cw310,cr310,v310,cw311,cr311,w0,w1,cw306,cr306,w306,a1,a2]
 have a1:s.top≤s.row:=by omega
 have a2:s.row≤s.bot:=by omega
 have ee:rowsS s ⟨ek,er,0,0,76,ps,et⟩=atS {s with g:=shG s.g s.row.toNat s.bot.toNat (-n) (fillP s)} s.row 0:=by
  unfold rowsS
  simp only [←en]
  rw [if_neg (by decide),if_neg (by decide),if_neg hout]
  unfold moveG
  rw [←(shG_far (g:=s.g) (top:=s.row.toNat) (bot:=s.bot.toNat) (by omega) (by omega) (n:=n) (by omega) (fillP s)).2]
  rfl
 rw [ee]
 have v:=fun q=>sp294 q s.g o.g (by omega) hw s.row.toNat s.bot.toNat (by omega) (by omega) (-n) (by omega) (fillP s)
 rw [e_r,e_b] at v
 have om:=moveG_ok o (t:=s.row) (b:=s.bot) hr.1 a2 (by omega) (-n)
 unfold moveG at om
 clear hp en em ee
 generalize shG s.g s.row.toNat s.bot.toNat (-n) (fillP s)=G at *
 have v2:=fun q=>sp300 q _ om s.row 0
 generalize atS {s with g:=G} s.row 0=S' at *
 rw [evFun_evB rfl]
 unfold s302
 simp -implicitDefEqProofs [cw310,cr310,v310,cw311,cr311,w0,w1,cw306,cr306,w306,a1,a2,cw294,cr294,v,eneg,cw300,cr300,v2]
set_option maxHeartbeats 16000000 in
theorem sp302_77 (k:Nat) (s:Sc) (o:OkS s) (r:RightS s) (ek er:Int) (ps:Option (List Int)) (et:List UInt8) (hp:parOk ⟨ek,er,0,0,77,ps,et⟩):evFun (clOf (modsR tab (k+4)) 3) s302 [scD s,evD ⟨ek,er,0,0,77,ps,et⟩]=some (scD (rowsS s ⟨ek,er,0,0,77,ps,et⟩),[]):=by
 have hh:=o.h
 have hg1:=o.g.1
 have hw:=o.w
 have hc:=o.col
 have hr:=o.row
 have hl:=o.len
 have ht:=o.top
 have hb:=o.bot
 have v310:=fun q=>sp310 q s o ⟨ek,er,0,0,77,ps,et⟩ hp
 rw [show isMove 77=false from rfl] at v310
 simp only [Bool.false_eq_true,if_false] at v310
 have w0:=fun q=>sp311_0 q ⟨ek,er,0,0,77,ps,et⟩ 1
 have w1:=fun q=>sp311_0 q ⟨ek,er,0,0,77,ps,et⟩ 0
 rw [one_from hp] at w0
 rw [one_arg hp] at w1
 have w306:=fun q=>sp306 q s
 have hn:=from1I_b (Ev.par ⟨ek,er,0,0,77,ps,et⟩) 0
 have hm:=argI_b (Ev.par ⟨ek,er,0,0,77,ps,et⟩) 0 0 0 65535 (by omega)
 obtain ⟨n,en⟩:∃ n,n=from1I (Ev.par ⟨ek,er,0,0,77,ps,et⟩) 0:=⟨_,rfl⟩
 obtain ⟨m,em⟩:∃ m,m=argI (Ev.par ⟨ek,er,0,0,77,ps,et⟩) 0 0 0 65535:=⟨_,rfl⟩
 rw [←en] at w0 hn
 rw [←em] at w1 hm
 have e_r:(s.row.toNat:Int)=s.row:=Int.toNat_of_nonneg hr.1
 have e_c:(s.col.toNat:Int)=s.col:=Int.toNat_of_nonneg hc.1
 have e_t:(s.top.toNat:Int)=s.top:=Int.toNat_of_nonneg ht.1
 have e_b:(s.bot.toNat:Int)=s.bot:=Int.toNat_of_nonneg (by omega)
 have eneg:IntKind.i64.wrap (-n) = -n:=wrap_id _ (by omega) (by omega)
 by_cases hout:s.row<s.top∨s.bot<s.row
 ·have ee:rowsS s ⟨ek,er,0,0,77,ps,et⟩=s:=by
   unfold rowsS
   simp only
   rw [if_neg (by decide),if_neg (by decide),if_pos hout]
  rw [ee]
  have hcase:(¬s.top≤s.row)∨(s.top≤s.row∧¬s.row≤s.bot):=by omega
  clear hp en em ee
  rcases hcase with a1 | ⟨a1,a2⟩
  ·rw [evFun_evB rfl]
   unfold s302
   simp -implicitDefEqProofs [cw310,cr310,v310,cw311,cr311,w0,w1,cw306,cr306,w306,a1]
  ·rw [evFun_evB rfl]
   unfold s302
   simp -implicitDefEqProofs [cw310,cr310,v310,cw311,cr311,w0,w1,cw306,cr306,w306,a1,a2]
 have a1:s.top≤s.row:=by omega
 have a2:s.row≤s.bot:=by omega
 have ee:rowsS s ⟨ek,er,0,0,77,ps,et⟩=atS {s with g:=shG s.g s.row.toNat s.bot.toNat (n) (fillP s)} s.row 0:=by
  unfold rowsS
  simp only [←en]
  rw [if_neg (by decide),if_neg (by decide),if_neg hout]
  unfold moveG
  rw [←(shG_far (g:=s.g) (top:=s.row.toNat) (bot:=s.bot.toNat) (by omega) (by omega) (n:=n) (by omega) (fillP s)).1]
  rfl
 rw [ee]
 have v:=fun q=>sp294 q s.g o.g (by omega) hw s.row.toNat s.bot.toNat (by omega) (by omega) (n) (by omega) (fillP s)
 rw [e_r,e_b] at v
 have om:=moveG_ok o (t:=s.row) (b:=s.bot) hr.1 a2 (by omega) (n)
 unfold moveG at om
 clear hp en em ee
 generalize shG s.g s.row.toNat s.bot.toNat (n) (fillP s)=G at *
 have v2:=fun q=>sp300 q _ om s.row 0
 generalize atS {s with g:=G} s.row 0=S' at *
 rw [evFun_evB rfl]
 unfold s302
 simp -implicitDefEqProofs [cw310,cr310,v310,cw311,cr311,w0,w1,cw306,cr306,w306,a1,a2,cw294,cr294,v,eneg,cw300,cr300,v2]
end Go.Proofs.YtlpchliomdomdaaGreat.LgTab
