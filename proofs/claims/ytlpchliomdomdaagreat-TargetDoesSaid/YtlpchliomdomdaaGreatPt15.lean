import Derived.Test.YtlpchliomdomdaaGreatPt14
namespace Go.Proofs.YtlpchliomdomdaaGreat.LgTab
open Go Lg
set_option linter.unusedVariables false
set_option linter.unusedSimpArgs false
set_option maxRecDepth 8000
def chgG (s:Sc) (e:Ev):Gd :=
 let n:=from1I e.par 0
 let w:=argI e.par 0 0 0 65535
 let r:=s.row.toNat
 let c:=s.col.toNat
 if e.fi=74 then eraseG s.g r c w (fillP s)
 else if e.fi=75 then lineG s.g r c w (fillP s)
 else if e.fi=64 then insG s.g r c n (fillP s)
 else if e.fi=80 then delG s.g r c n (fillP s)
 else if e.fi=88 then wipeG s.g r s.col (s.col+n) (fillP s)
 else s.g
def chgS (s:Sc) (e:Ev):Sc:={s with g:=chgG s e,pend:=false}
set_option maxHeartbeats 4000000 in
theorem sp403 (k:Nat) (s:Sc) (o:OkS s) (e:Ev):evFun (clOf (modsR tab (k+5)) 3) s403 [scD s,evD e]=some (scD (chgS s e),[]):=by
 have hh:=o.h
 have hw:=o.w
 have hc:=o.col
 have hr:=o.row
 have hl:=o.len
 have w0:=fun q=>sp411_0 q e
 have w1:=fun q=>sp381_0 q e 0 0 65535
 have w2:=fun q=>sp371 q s
 have hn:=from1I_b e.par 0
 have hm:=argI_b e.par 0 0 0 65535 (by omega)
 obtain ⟨n,en⟩:∃ n,n=from1I e.par 0:=⟨_,rfl⟩
 obtain ⟨m,em⟩:∃ m,m=argI e.par 0 0 0 65535:=⟨_,rfl⟩
 rw [←en] at w0 hn
 rw [←em] at w1 hm
 have er:(s.row.toNat:Int)=s.row:=Int.toNat_of_nonneg hr.1
 have ec:(s.col.toNat:Int)=s.col:=Int.toNat_of_nonneg hc.1
 have v1:=fun q=>sp139 q s.g o.g (by omega) s.row.toNat s.col.toNat (by omega) (by omega) m (fillP s)
 have v2:=fun q=>sp141 q s.g o.g (by omega) s.row.toNat s.col.toNat (by omega) (by omega) m (fillP s)
 have v3:=fun q=>sp140 q s.g o.g (by omega) s.row.toNat s.col.toNat (by omega) (by omega) n hn.1 (fillP s)
 have v4:=fun q=>sp137 q s.g o.g (by omega) s.row.toNat s.col.toNat (by omega) (by omega) n hn.1 (fillP s)
 have v5:=fun q=>sp157 q s.g o.g (by omega) s.row.toNat (by omega) s.col (s.col+n) (fillP s) (by omega) (by omega)
 rw [er] at v1 v2 v3 v4 v5
 rw [ec] at v1 v2 v3 v4
 unfold chgS
 have tk:s.g.cells.take s.g.cells.length=s.g.cells:=List.take_of_length_le (by omega)
 by_cases c1:e.fi=74
 ·have ee:chgG s e=eraseG s.g s.row.toNat s.col.toNat m (fillP s):=by unfold chgG;rw [←en,←em];simp [c1]
  rw [ee]
  generalize eraseG s.g s.row.toNat s.col.toNat m (fillP s)=G at *
  rw [evFun_evB rfl]
  unfold s403
  simp -implicitDefEqProofs [eq_true c1,cw411,cr411,w0,cw381,cr381,w1,cw371,cr371,w2,cw139,v1]
 by_cases c2:e.fi=75
 ·have ee:chgG s e=lineG s.g s.row.toNat s.col.toNat m (fillP s):=by unfold chgG;rw [←en,←em];simp [c2]
  rw [ee]
  generalize lineG s.g s.row.toNat s.col.toNat m (fillP s)=G at *
  rw [evFun_evB rfl]
  unfold s403
  simp -implicitDefEqProofs [c1,eq_true c2,cw411,cr411,w0,cw381,cr381,w1,cw371,cr371,w2,cw141,v2]
 by_cases c3:e.fi=64
 ·have ee:chgG s e=insG s.g s.row.toNat s.col.toNat n (fillP s):=by unfold chgG;rw [←en,←em];simp [c3]
  rw [ee]
  generalize insG s.g s.row.toNat s.col.toNat n (fillP s)=G at *
  rw [evFun_evB rfl]
  unfold s403
  simp -implicitDefEqProofs [c1,c2,eq_true c3,cw411,cr411,w0,cw381,cr381,w1,cw371,cr371,w2,cw140,v3]
 by_cases c4:e.fi=80
 ·have ee:chgG s e=delG s.g s.row.toNat s.col.toNat n (fillP s):=by unfold chgG;rw [←en,←em];simp [c4]
  rw [ee]
  generalize delG s.g s.row.toNat s.col.toNat n (fillP s)=G at *
  rw [evFun_evB rfl]
  unfold s403
  simp -implicitDefEqProofs [c1,c2,c3,eq_true c4,cw411,cr411,w0,cw381,cr381,w1,cw371,cr371,w2,cw137,v4]
 by_cases c5:e.fi=88
 ·have ee:chgG s e=wipeG s.g s.row.toNat s.col (s.col+n) (fillP s):=by unfold chgG;rw [←en,←em];simp [c5]
  rw [ee]
  generalize wipeG s.g s.row.toNat s.col (s.col+n) (fillP s)=G at *
  rw [evFun_evB rfl]
  unfold s403
  simp -implicitDefEqProofs [c1,c2,c3,c4,eq_true c5,cw411,cr411,w0,cw381,cr381,w1,cw371,cr371,w2,cw157,v5,wr_id (s.col+n) (by omega) (by omega)]
 have ee:chgG s e=s.g:=by unfold chgG;simp [c1,c2,c3,c4,c5]
 rw [ee,evFun_evB rfl]
 unfold s403
 simp -implicitDefEqProofs [c1,c2,c3,c4,c5,cw411,cr411,w0,cw381,cr381,w1,cw371,cr371,w2]
def rowsS (s:Sc) (e:Ev):Sc :=
 let n:=farI (from1I e.par 0)
 if e.fi=83 then moveG s s.top s.bot n
 else if e.fi=84 then moveG s s.top s.bot (-n)
 else if s.row<s.top∨s.bot<s.row then s
 else if e.fi=76 then atS (moveG s s.row s.bot (-n)) s.row 0
 else atS (moveG s s.row s.bot n) s.row 0
set_option maxHeartbeats 4000000 in
theorem sp414 (k:Nat) (s:Sc) (o:OkS s) (e:Ev):evFun (clOf (modsR tab (k+6)) 3) s414 [scD s,evD e]=some (scD (rowsS s e),[]):=by
 have hh:=o.h
 have hw:=o.w
 have hr:=o.row
 have ht:=o.top
 have hb:=o.bot
 have hl:=o.len
 have w0:=fun q=>sp411_0 q e
 have w2:=fun q=>sp371 q s
 obtain ⟨n,en⟩:∃ n,n=from1I e.par 0:=⟨_,rfl⟩
 rw [←en] at w0
 have et:(s.top.toNat:Int)=s.top:=Int.toNat_of_nonneg ht.1
 have eb:(s.bot.toNat:Int)=s.bot:=Int.toNat_of_nonneg (by omega)
 have er:(s.row.toNat:Int)=s.row:=Int.toNat_of_nonneg hr.1
 by_cases c1:e.fi=83
 ·have ee:rowsS s e={s with g:=shG s.g s.top.toNat s.bot.toNat (farI n) (fillP s)}:=by unfold rowsS moveG;rw [←en];simp [c1]
  have v:=fun q=>sp142 q s.g o.g (by omega) s.top.toNat s.bot.toNat (by omega) (by omega) n (fillP s)
  rw [et,eb] at v
  rw [ee]
  generalize shG s.g s.top.toNat s.bot.toNat (farI n) (fillP s)=G at *
  rw [evFun_evB rfl]
  unfold s414
  simp -implicitDefEqProofs [eq_true c1,cw411,cr411,w0,cw371,cr371,w2,cw142,v]
 by_cases c2:e.fi=84
 ·have ee:rowsS s e={s with g:=shG s.g s.top.toNat s.bot.toNat (-farI n) (fillP s)}:=by unfold rowsS moveG;rw [←en];simp [c2]
  have v:=fun q=>sp138 q s.g o.g (by omega) s.top.toNat s.bot.toNat (by omega) (by omega) n (fillP s)
  rw [et,eb] at v
  rw [ee]
  generalize shG s.g s.top.toNat s.bot.toNat (-farI n) (fillP s)=G at *
  rw [evFun_evB rfl]
  unfold s414
  simp -implicitDefEqProofs [c1,eq_true c2,cw411,cr411,w0,cw371,cr371,w2,cw138,v]
 by_cases c3:s.row<s.top
 ·have ee:rowsS s e=s:=by unfold rowsS;simp [c1,c2,c3]
  rw [ee,evFun_evB rfl]
  unfold s414
  simp -implicitDefEqProofs [c1,c2,eq_true c3,cw411,cr411,w0,cw371,cr371,w2]
 by_cases c4:s.bot<s.row
 ·have ee:rowsS s e=s:=by unfold rowsS;simp [c1,c2,c4]
  rw [ee,evFun_evB rfl]
  unfold s414
  simp -implicitDefEqProofs [c1,c2,c3,eq_true c4,cw411,cr411,w0,cw371,cr371,w2]
 by_cases c5:e.fi=76
 ·have ee:rowsS s e=atS (moveG s s.row s.bot (-farI n)) s.row 0:=by unfold rowsS;rw [←en];simp [c3,c4,c5]
  have v:=fun q=>sp138 q s.g o.g (by omega) s.row.toNat s.bot.toNat (by omega) (by omega) n (fillP s)
  rw [er,eb] at v
  have v2:=fun q=>sp404 q _ (moveG_ok o (t:=s.row) (b:=s.bot) hr.1 (by omega) hb (-farI n)) 0
  have e3:(moveG s s.row s.bot (-farI n)).row=s.row:=rfl
  rw [e3] at v2
  rw [ee]
  generalize atS (moveG s s.row s.bot (-farI n)) s.row 0=S' at *
  unfold moveG at v2
  generalize shG s.g s.row.toNat s.bot.toNat (-farI n) (fillP s)=G at *
  rw [evFun_evB rfl]
  unfold s414
  simp -implicitDefEqProofs [c1,c2,c3,c4,eq_true c5,cw411,cr411,w0,cw371,cr371,w2,cw138,v,cw404,v2]
 ·have ee:rowsS s e=atS (moveG s s.row s.bot (farI n)) s.row 0:=by unfold rowsS;rw [←en];simp [c1,c2,c3,c4,c5]
  have v:=fun q=>sp142 q s.g o.g (by omega) s.row.toNat s.bot.toNat (by omega) (by omega) n (fillP s)
  rw [er,eb] at v
  have v2:=fun q=>sp404 q _ (moveG_ok o (t:=s.row) (b:=s.bot) hr.1 (by omega) hb (farI n)) 0
  have e3:(moveG s s.row s.bot (farI n)).row=s.row:=rfl
  rw [e3] at v2
  rw [ee]
  generalize atS (moveG s s.row s.bot (farI n)) s.row 0=S' at *
  unfold moveG at v2
  generalize shG s.g s.row.toNat s.bot.toNat (farI n) (fillP s)=G at *
  rw [evFun_evB rfl]
  unfold s414
  simp -implicitDefEqProofs [c1,c2,c3,c4,c5,cw411,cr411,w0,cw371,cr371,w2,cw142,v,cw404,v2]
def margS (s:Sc) (e:Ev):Sc :=
 let t:=from1I e.par 0-1
 let b:=argI e.par 1 s.g.h 1 s.g.h-1
 if b≤t then s else homeS {s with top:=t,bot:=b}
theorem marg_ok {s:Sc} (o:OkS s) {t b:Int} (h0:0≤t) (h1:t<b) (h2:b<s.g.h):OkS {s with top:=t,bot:=b}:=⟨o.g,o.h,o.w,o.row,o.col,⟨h0,by show t≤b;omega⟩,h2,o.tabs,o.sh,o.ssh,o.srow,o.scol⟩
set_option maxHeartbeats 4000000 in
theorem sp412 (k:Nat) (s:Sc) (o:OkS s) (e:Ev):evFun (clOf (modsR tab (k+4)) 3) s412 [scD s,evD e]=some (scD (margS s e),[]):=by
 have hh:=o.h
 have hg:=o.g.1
 have w0:=fun q=>sp411_0 q e
 have w1:=fun q=>sp381_1 q e s.g.h 1 s.g.h
 have hn:=from1I_b e.par 0
 have hm:=argI_b e.par 1 s.g.h 1 s.g.h (by omega)
 obtain ⟨n,en⟩:∃ n,n=from1I e.par 0:=⟨_,rfl⟩
 obtain ⟨m,em⟩:∃ m,m=argI e.par 1 s.g.h 1 s.g.h:=⟨_,rfl⟩
 rw [←en] at w0 hn
 rw [←em] at w1 hm
 by_cases c1:m-1≤n-1
 ·have ee:margS s e=s:=by unfold margS;rw [←en,←em];simp only [if_pos c1]
  rw [ee,evFun_evB rfl]
  unfold s412
  simp -implicitDefEqProofs [cw411,cr411,w0,cw381,cr381,w1,wr_id (n-1) (by omega) (by omega),wr_id (m-1) (by omega) (by omega),eq_true c1]
 ·have ee:margS s e=homeS {s with top:=n-1,bot:=m-1}:=by unfold margS;rw [←en,←em];simp only [if_neg c1]
  have v:=fun q=>sp127 q _ (marg_ok o (t:=n-1) (b:=m-1) (by omega) (by omega) (by omega))
  rw [ee]
  generalize homeS {s with top:=n-1,bot:=m-1}=S' at *
  rw [evFun_evB rfl]
  unfold s412
  simp -implicitDefEqProofs [cw411,cr411,w0,cw381,cr381,w1,wr_id (n-1) (by omega) (by omega),wr_id (m-1) (by omega) (by omega),eq_false c1,cw127,v]
end Go.Proofs.YtlpchliomdomdaaGreat.LgTab
namespace Go.Proofs.YtlpchliomdomdaaGreat.LgTab
open Go Lg
set_option linter.unusedVariables false
set_option linter.unusedSimpArgs false
set_option maxRecDepth 8000
def setTo (s:Sc) (l:List Int) (on:Bool) (i:Nat):Sc:=(l.take i).foldl (fun s n=>setM s n on) s
theorem setTo_succ (s:Sc) {l:List Int} (on:Bool) {i:Nat} {x:Int} (h:l[i]? = some x):setTo s l on (i+1)=setM (setTo s l on i) x on:=by
 unfold setTo
 rw [take_snoc h,List.foldl_append]
 rfl
theorem setTo_ok {s:Sc} (o:OkS s) (l:List Int) (on:Bool):∀ i,OkS (setTo s l on i):=by
 intro i
 unfold setTo
 generalize l.take i=t
 induction t generalizing s with
 | nil=>exact o
 | cons n t ih=>exact ih (setM_ok o n on)
def setS (s:Sc) (e:Ev):Sc:=if e.fi=104∨e.fi=108 then setTo s e.par (decide (e.fi=104)) e.par.length else s
def zSc:List D:=[(.sc (.int .i64 0)),(.sc (.int .i64 0)), .sn,(.sc (.int .i64 0)),(.sc (.int .i64 0)),(.sc (.bool false)),(.sc (.int .i64 0)),(.sc (.int .i64 0)),(.sc (.int .i64 0)),(.sc (.int .i64 0)),(.sc (.int .i64 0)),(.sc (.int .u64 0)),(.sc (.int .u8 0)),(.sc (.int .u8 0)),(.sc (.int .i64 0)),(.sc (.bool false)),(.sc (.bool false)),(.sc (.bool false)),(.sc (.bool false)),(.sc (.bool false)),(.sc (.int .i64 0)),(.sc (.int .i64 0)),(.sc (.int .i64 0)),(.sc (.int .i64 0)),(.sc (.int .i64 0)),(.sc (.int .u8 0)),(.sc (.int .u8 0)),(.sc (.int .i64 0)),(.sc (.bool false))]
set_option maxHeartbeats 4000000 in
theorem sp415t (k:Nat) (s:Sc) (o:OkS s) (ek er ep ei:Int) (l:List Int) (et:List UInt8) (hl:l.length≤100000):evFun (clOf (modsR tab (k+5)) 3) s415 [scD s,evD ⟨ek,er,ep,ei,104,some l,et⟩]=some (scD (setTo s l true l.length),[]):=by
 have h0:setTo s l true 0=s:=rfl
 rw [evFun_evB rfl]
 unfold s415
 simp -implicitDefEqProofs [parD]
 refine evB_for (fun i=>[.sl 1 (intsD l),I l.length,I i, .obx (scL (setTo s l true i)), .obx [I ek,R er,U ep,U ei,U 104, .sl 1 (intsD l),S et], .obx zSc]) l.length (.exit 0) [.sl 1 (intsD l),I l.length,I l.length, .obx (scL (setTo s l true l.length)), .obx [I ek,R er,U ep,U ei,U 104, .sl 1 (intsD l),S et], .obx zSc] ?_ (fun i hi=>?_) ?_ (by simp) (by simp [rounds];omega) ?_
 ·simp -implicitDefEqProofs [h0,zSc]
 ·obtain ⟨x,hx⟩:=get_ex hi
  have hs:=setTo_succ s true hx
  have v:=fun q=>sp337 q _ (setTo_ok o l true i) x true
  rw [←hs] at v
  have hlt:(i:Int)<l.length:=by omega
  have hg:=intsD_at hx
  generalize setTo s l true (i+1)=S' at *
  generalize setTo s l true i=S2 at *
  simp -implicitDefEqProofs [hlt,hi,hg,cw337,v,wr_id ((i:Int)+1) (by omega) (by omega),zSc]
 ·generalize setTo s l true l.length=S'
  simp -implicitDefEqProofs [zSc]
 ·generalize setTo s l true l.length=S'
  simp -implicitDefEqProofs [zSc]
theorem sp415tn (k:Nat) (s:Sc) (o:OkS s) (ek er ep ei:Int) (et:List UInt8):evFun (clOf (modsR tab (k+5)) 3) s415 [scD s,evD ⟨ek,er,ep,ei,104,none,et⟩]=some (scD s,[]):=by
 rw [evFun_evB rfl]
 unfold s415
 simp -implicitDefEqProofs [parD]
 refine evB_for (fun i=>[.sn,I 0,I 0, .obx (scL s), .obx [I ek,R er,U ep,U ei,U 104, .sn,S et], .obx zSc]) 0 (.exit 0) [.sn,I 0,I 0, .obx (scL s), .obx [I ek,R er,U ep,U ei,U 104, .sn,S et], .obx zSc] ?_ (fun i hi=>by omega) ?_ (by simp) (by simp [rounds]) ?_
 ·simp -implicitDefEqProofs [zSc]
 ·simp -implicitDefEqProofs [zSc]
 ·simp -implicitDefEqProofs [zSc]
set_option maxHeartbeats 4000000 in
theorem sp415f (k:Nat) (s:Sc) (o:OkS s) (ek er ep ei:Int) (l:List Int) (et:List UInt8) (hl:l.length≤100000):evFun (clOf (modsR tab (k+5)) 3) s415 [scD s,evD ⟨ek,er,ep,ei,108,some l,et⟩]=some (scD (setTo s l false l.length),[]):=by
 have h0:setTo s l false 0=s:=rfl
 rw [evFun_evB rfl]
 unfold s415
 simp -implicitDefEqProofs [parD]
 refine evB_for (fun i=>[.sl 1 (intsD l),I l.length,I i, .obx (scL (setTo s l false i)), .obx [I ek,R er,U ep,U ei,U 108, .sl 1 (intsD l),S et], .obx zSc]) l.length (.exit 0) [.sl 1 (intsD l),I l.length,I l.length, .obx (scL (setTo s l false l.length)), .obx [I ek,R er,U ep,U ei,U 108, .sl 1 (intsD l),S et], .obx zSc] ?_ (fun i hi=>?_) ?_ (by simp) (by simp [rounds];omega) ?_
 ·simp -implicitDefEqProofs [h0,zSc]
 ·obtain ⟨x,hx⟩:=get_ex hi
  have hs:=setTo_succ s false hx
  have v:=fun q=>sp337 q _ (setTo_ok o l false i) x false
  rw [←hs] at v
  have hlt:(i:Int)<l.length:=by omega
  have hg:=intsD_at hx
  generalize setTo s l false (i+1)=S' at *
  generalize setTo s l false i=S2 at *
  simp -implicitDefEqProofs [hlt,hi,hg,cw337,v,wr_id ((i:Int)+1) (by omega) (by omega),zSc]
 ·generalize setTo s l false l.length=S'
  simp -implicitDefEqProofs [zSc]
 ·generalize setTo s l false l.length=S'
  simp -implicitDefEqProofs [zSc]
theorem sp415fn (k:Nat) (s:Sc) (o:OkS s) (ek er ep ei:Int) (et:List UInt8):evFun (clOf (modsR tab (k+5)) 3) s415 [scD s,evD ⟨ek,er,ep,ei,108,none,et⟩]=some (scD s,[]):=by
 rw [evFun_evB rfl]
 unfold s415
 simp -implicitDefEqProofs [parD]
 refine evB_for (fun i=>[.sn,I 0,I 0, .obx (scL s), .obx [I ek,R er,U ep,U ei,U 108, .sn,S et], .obx zSc]) 0 (.exit 0) [.sn,I 0,I 0, .obx (scL s), .obx [I ek,R er,U ep,U ei,U 108, .sn,S et], .obx zSc] ?_ (fun i hi=>by omega) ?_ (by simp) (by simp [rounds]) ?_
 ·simp -implicitDefEqProofs [zSc]
 ·simp -implicitDefEqProofs [zSc]
 ·simp -implicitDefEqProofs [zSc]
theorem sp415 (k:Nat) (s:Sc) (o:OkS s) (e:Ev) (hl:e.par.length≤100000):evFun (clOf (modsR tab (k+5)) 3) s415 [scD s,evD e]=some (scD (setS s e),[]):=by
 obtain ⟨ek,er,ep,ei,ef,ps,et⟩:=e
 by_cases c1:ef=104
 ·subst c1
  cases ps with
  | none=>exact sp415tn k s o ek er ep ei et
  | some l=>exact sp415t k s o ek er ep ei l et hl
 by_cases c2:ef=108
 ·subst c2
  cases ps with
  | none=>exact sp415fn k s o ek er ep ei et
  | some l=>exact sp415f k s o ek er ep ei l et hl
 have ee:setS s ⟨ek,er,ep,ei,ef,ps,et⟩=s:=by unfold setS;rw [if_neg (fun h=>h.elim c1 c2)]
 rw [ee,evFun_evB rfl]
 unfold s415
 simp -implicitDefEqProofs [c1,c2]
theorem sp340p (k:Nat) (p:Pn) (o:Option (List Int)) (hl:(o.getD []).length≤100000):evFun (clOf (modsR tab (k+3)) 3) s340 [pnD p,parD o]=some (pnD (applyM p (o.getD [])),[]):=by
 cases o with
 | none =>
  rw [evFun_evB rfl]
  unfold s340 applyM
  simp -implicitDefEqProofs [parD,cw107,sp107,plainP]
 | some l=>exact sp340 k p l hl
end Go.Proofs.YtlpchliomdomdaaGreat.LgTab
