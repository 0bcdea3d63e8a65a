import Derived.Test.YtlpchliomdomdaaGreatPk19
import Derived.Test.YtlpchliomdomdaaGreatPk18
namespace Go.Proofs.YtlpchliomdomdaaGreat.LgTab
open Go Lg
set_option linter.unusedVariables false
set_option linter.unusedSimpArgs false
set_option maxRecDepth 8000
theorem sp111 (k:Nat) (c:Int) (h:colOk c):evFun (clOf (modsR tab k) 3) s111 [I c]=some (B true,[]):=by
 rw [evFun_evB rfl]
 unfold s111
 by_cases h1 : -1≤c
 ·by_cases h2:c≤255
  ·simp -implicitDefEqProofs [h1,h2]
  ·have h3:16777216≤c∧c<33554432:=by unfold colOk at h;omega
   simp -implicitDefEqProofs [h1,h2,h3.1,h3.2]
 ·unfold colOk at h
  omega
theorem sp108 (k:Nat) (p:Pn) (h:PR p):evFun (clOf (modsR tab (k+1)) 3) s108 [pnD p]=some (B true,[]):=by
 have w1:=fun q=>sp111 q p.f h.1
 have w2:=fun q=>sp111 q p.b h.2.1
 have h3:=h.2.2
 rw [evFun_evB rfl]
 unfold s108
 simp -implicitDefEqProofs [cw111,w1,w2,h3.1,h3.2]
def RowFit (l:List Cel) (i:Nat) (x:Cel):Prop :=
 PR x.p∧((x.k=0∧widthR x.r=1)∨(x.k=1∧widthR x.r=2∧∃ d,l[i+1]? = some d∧d.k=2∧d.p=x.p)∨(x.k=2∧x.r=0∧∃ j d,i=j+1∧l[j]? = some d∧d.k=1∧d.p=x.p))
theorem RightL.row {g:Gd} (o:OkG g) (h:RightL g.cells g.w) {r i:Nat} (hr:r<g.h) {x:Cel} (hx:(rowL g r)[i]? = some x):RowFit (rowL g r) i x:=by
 have hl:=rowL_len o hr
 have hi:i<g.w:=by rw [←hl];exact (List.getElem?_eq_some_iff.1 hx).1
 have at':∀ j,j<g.w→(rowL g r)[j]? = g.cells[rowOff g r+j]?:=fun j hj=>by
  show ((g.cells.drop (rowOff g r)).take g.w)[j]? = _
  rw [List.getElem?_take_of_lt hj,List.getElem?_drop]
 rw [at' i hi] at hx
 have md:∀ j,(rowOff g r+j) % g.w=j % g.w:=fun j=>by rw [rowOff_def,Nat.mul_comm,Nat.mul_add_mod]
 obtain ⟨hp,h1 | ⟨h1,h2,h3,d,h4,h5⟩ | ⟨h1,h2,h3,j,d,h4,h5,h6⟩⟩:=h _ x hx
 ·exact ⟨hp, .inl h1⟩
 ·refine ⟨hp, .inr (.inl ⟨h1,h2,d,?_,h5⟩)⟩
  have hlt:i+1<g.w:=by
   rcases Nat.lt_or_ge (i+1) g.w with hh | hh
   ·exact hh
   ·exfalso
    apply h3
    have:i+1=g.w:=by omega
    rw [Nat.add_assoc,md,this,Nat.mod_self]
  rw [at' _ hlt,←Nat.add_assoc]
  exact h4
 ·refine ⟨hp, .inr (.inr ⟨h1,h2,i-1,d,?_,?_,h6⟩)⟩
  ·rcases Nat.eq_zero_or_pos i with hh | hh
   ·exfalso
    apply h3
    rw [md,hh,Nat.zero_mod]
   ·omega
  ·have hi0:0<i:=by
    rcases Nat.eq_zero_or_pos i with hh | hh
    ·exfalso
     apply h3
     rw [md,hh,Nat.zero_mod]
    ·exact hh
   rw [at' _ (by omega)]
   have:rowOff g r+(i-1)=j:=by omega
   rw [this]
   exact h5
theorem fit_half {l:List Cel} {i:Nat} {x:Cel} (hx:l[i]? = some x) (h:RowFit l i x):halfB l i=false:=by
 have k0:=kAt_some hx
 unfold halfB
 rw [k0]
 obtain ⟨hp,⟨h1,h2⟩ | ⟨h1,h2,d,h3,h4,h5⟩ | ⟨h1,h2,j,d,h3,h4,h5,h6⟩⟩:=h
 ·simp [h1]
 ·simp [h1,kAt_some h3,h4]
 ·subst h3
  simp [h1,kAt_some h4,h5]
set_option maxHeartbeats 4000000 in
theorem sp160 (k:Nat) (l:List Cel) (i:Nat) (x:Cel) (hx:l[i]? = some x) (h:RowFit l i x) (hl:l.length≤100000):evFun (clOf (modsR tab (k+3)) 3) s160 [.sl 5 (celsD l),I i]=some (B true,[]):=by
 have hi:i<l.length:=(List.getElem?_eq_some_iff.1 hx).1
 have g:=celsD_getD hx
 have g':=celsD_at hx
 have w1:=fun q=>sp109 q x.r
 have w2:=fun q=>sp108 q x.p h.1
 have w3:=fun q=>sp159 q l i hi hl
 rw [fit_half hx h] at w3
 obtain ⟨r,kk,p⟩:=x
 obtain ⟨f,b,gg⟩:=p
 obtain ⟨hp,⟨h1,h2⟩ | ⟨h1,h2,d,h3,h4,h5⟩ | ⟨h1,h2,j,d,h3,h4,h5,h6⟩⟩:=h
 ·simp only at h1 h2 w1 w2
  rw [h2] at w1
  subst h1
  rw [evFun_evB rfl]
  unfold s160
  simp -implicitDefEqProofs [hi,g,g',cw109,w1,cw108,w2]
 ·simp only at h1 h2 w1 w2 h5
  rw [h2] at w1
  subst h1
  have d1:=celsD_getD h3
  have d2:=celsD_at h3
  obtain ⟨r',k',p'⟩:=d
  simp only at h4 h5
  subst h4 h5
  have hi2:i+1<l.length:=(List.getElem?_eq_some_iff.1 h3).1
  have e1:wr ((i:Int)+1)=((i+1:Nat):Int):=by rw [wr_id _ (by omega) (by omega)];omega
  have hn:(0:Int)≤(i:Int)+1:=by omega
  rw [evFun_evB rfl]
  unfold s160
  simp -implicitDefEqProofs [hi,g,g',cw109,cr109,w1,cw108,cr108,w2,cw159,cr159,w3,e1,d1,d2,hi2,hn]
 ·simp only at h1 h2 w1 w2
  subst h1 h2
  rw [evFun_evB rfl]
  unfold s160
  simp -implicitDefEqProofs [hi,g,g',cw159,w3]
theorem ir163s (k n:Nat) (H:List Ob) (g:Gd) (o:OkG g) (r:Nat) (hr:r<g.h):(clOf (modsR tab (k+1)) (n+1)).r 163 [gdD g,I r] H=some (.sl 5 (celsD (rowL g r))):=by
 have w:=iw163s k n (deads (bound [])) g o r hr
 rw [cw163] at w
 rw [cr163]
 unfold evInlQ
 simp -implicitDefEqProofs [w]
set_option maxHeartbeats 4000000 in
theorem sp154 (k:Nat) (g:Gd) (o:OkG g) (h:RightL g.cells g.w) (h40:g.h≤40) (w60:g.w≤60):evFun (clOf (modsR tab (k+4)) 3) s154 [gdD g]=some (B true,[]):=by
 have hl:g.cells.length≤2400:=by rw [o.2.2.2.2];exact Nat.mul_le_mul h40 w60
 have b0:=o.1
 have b1:=o.2.2.1
 have c1:¬(g.h:Int)<1:=by omega
 have c2:¬(40:Int)<g.h:=by omega
 have c3:¬(g.w:Int)<1:=by omega
 have c4:¬(60:Int)<g.w:=by omega
 have em:wr ((g.h:Int)*g.w)=g.cells.length:=by rw [o.2.2.2.2,←Int.natCast_mul];exact wr_id _ (by have:=o.2.2.2.2;omega) (by have:=o.2.2.2.2;omega)
 rw [evFun_evB rfl]
 unfold s154
 simp -implicitDefEqProofs [c1,c2,c3,c4,em]
 refine evB_for (fun i=>[B false,I g.cells.length,I i, .obx [I g.h,I g.w, .sl 5 (celsD g.cells)]]) g.cells.length (.exit 0) [B false,I g.cells.length,I g.cells.length, .obx [I g.h,I g.w, .sl 5 (celsD g.cells)]] ?_ (fun i hi=>?_) ?_ (by simp) (by simp [rounds];omega) ?_
 ·simp -implicitDefEqProofs []
 ·have hr:i / g.w<g.h:=by rw [Nat.div_lt_iff_lt_mul (by omega)];rw [o.2.2.2.2] at hi;exact hi
  have hm:i % g.w<g.w:=Nat.mod_lt _ (by omega)
  obtain ⟨x,hx⟩:=get_ex (l:=rowL g (i / g.w)) (i:=i % g.w) (by rw [rowL_len o hr];exact hm)
  have w160:=fun q=>sp160 q _ _ x hx (RightL.row o h hr hx) (by rw [rowL_len o hr];omega)
  have wi:=fun H n q=>ir163s q n H g o (i / g.w) hr
  have hlt:(i:Int)<g.cells.length:=by omega
  have hz:¬g.w=0:=by omega
  have e1:wr ((i:Int) / g.w)=((i / g.w:Nat):Int):=by
   rw [←Int.natCast_ediv]
   generalize i / g.w=r at hr
   exact wr_id _ (by omega) (by omega)
  have e2:(i:Int) % g.w=((i % g.w:Nat):Int):=by simp
  have e3:(i:Int).tmod g.w=((i % g.w:Nat):Int):=by
   rw [Int.tmod_eq_emod_of_nonneg (by omega)]
   simp
  generalize i / g.w=r at *
  generalize i % g.w=c at *
  simp -implicitDefEqProofs [hlt,hz,e1,e2,e3,wi,cw160,w160,wr_id ((i:Int)+1) (by omega) (by omega)]
 ·simp -implicitDefEqProofs []
 ·simp -implicitDefEqProofs []
end Go.Proofs.YtlpchliomdomdaaGreat.LgTab
namespace Go.Proofs.YtlpchliomdomdaaGreat.LgTab
open Go Lg
set_option linter.unusedVariables false
set_option linter.unusedSimpArgs false
set_option maxRecDepth 8000
set_option maxHeartbeats 2000000 in
theorem sp173 (k:Nat) (l:List Cel) (hl:l.length≤100000):evFun (clOf (modsR tab k) 3) s173 [.sl 5 (celsD l), .sl 5 (celsD l)]=some (B true,[]):=by
 rw [evFun_evB rfl]
 unfold s173
 simp -implicitDefEqProofs []
 refine evB_for (fun i=>[.sl 5 (celsD l), .sl 5 (celsD l),B false,I i]) l.length (.exit 0) [.sl 5 (celsD l), .sl 5 (celsD l),B false,I l.length] ?_ (fun i hi=>?_) ?_ (by simp) (by simp [rounds];omega) ?_
 ·simp -implicitDefEqProofs []
 ·obtain ⟨x,hx⟩:=get_ex hi
  have g:=celsD_getD hx
  have g':=celsD_at hx
  have hlt:(i:Int)<l.length:=by omega
  simp -implicitDefEqProofs [hlt,hi,g,g',wr_id ((i:Int)+1) (by omega) (by omega)]
 ·simp -implicitDefEqProofs []
 ·simp -implicitDefEqProofs []
set_option maxHeartbeats 2000000 in
theorem sp458 (k:Nat) (l:List Cel) (hl:l.length≤100000):evFun (clOf (modsR tab k) 3) s458 [.sl 5 (celsD l), .sl 5 (celsD l)]=some (B true,[]):=by
 rw [evFun_evB rfl]
 unfold s458
 simp -implicitDefEqProofs []
 refine evB_for (fun i=>[.sl 5 (celsD l), .sl 5 (celsD l),B false,I l.length,I i]) l.length (.exit 0) [.sl 5 (celsD l), .sl 5 (celsD l),B false,I l.length,I l.length] ?_ (fun i hi=>?_) ?_ (by simp) (by simp [rounds];omega) ?_
 ·simp -implicitDefEqProofs []
 ·obtain ⟨x,hx⟩:=get_ex hi
  have g:=celsD_getD hx
  have g':=celsD_at hx
  have hlt:(i:Int)<l.length:=by omega
  simp -implicitDefEqProofs [hlt,hi,g,g',wr_id ((i:Int)+1) (by omega) (by omega)]
 ·simp -implicitDefEqProofs []
 ·simp -implicitDefEqProofs []
theorem sp155 (k:Nat) (g:Gd) (hl:g.cells.length≤100000):evFun (clOf (modsR tab (k+1)) 3) s155 [gdD g,gdD g]=some (B true,[]):=by
 have w:=fun q=>sp458 q g.cells hl
 rw [evFun_evB rfl]
 unfold s155
 simp -implicitDefEqProofs [cw458,w]
theorem sp177 (k:Nat) (s:Sc) (hl:s.g.cells.length≤100000):evFun (clOf (modsR tab (k+1)) 3) s177 [scD s,scD s]=some (B true,[]):=by
 have w:=fun q=>sp173 q s.g.cells hl
 rw [evFun_evB rfl]
 unfold s177
 simp -implicitDefEqProofs [cw173,w]
abbrev butD (s:Sc):D:= .agg [I s.row,I s.col,I s.top,I s.bot,I s.sh,B s.pend,B s.wrap,B s.orig,B s.shown,B s.keys,B s.pad,I s.p.f,I s.p.b,I s.p.g,T64 s.tabs,U s.s0,U s.s1,I s.sv.r,I s.sv.c,I s.sv.p.f,I s.sv.p.b,I s.sv.p.g,U s.sv.u0,U s.sv.u1,I s.sv.sh,B s.sv.o]
theorem sp376 (k:Nat) (s:Sc):evFun (clOf (modsR tab k) 3) s376 [scD s]=some (butD s,[]):=by
 rw [evFun_evB rfl]
 unfold s376
 simp -implicitDefEqProofs []
theorem sp374 (k:Nat) (s:Sc) (hl:s.g.cells.length≤100000):evFun (clOf (modsR tab (k+2)) 3) s374 [scD s,scD s]=some (B true,[]):=by
 have w:=fun q=>sp155 q s.g hl
 have w2:=fun q=>sp376 q s
 rw [evFun_evB rfl]
 unfold s374
 simp -implicitDefEqProofs [cw155,cr155,w,cw376,cr376,w2]
end Go.Proofs.YtlpchliomdomdaaGreat.LgTab
namespace Go.Proofs.YtlpchliomdomdaaGreat.LgTab
open Go Lg
set_option linter.unusedVariables false
set_option linter.unusedSimpArgs false
set_option maxRecDepth 8000
theorem sp378 (k:Nat) (c:Int) (h:setOk c):evFun (clOf (modsR tab k) 3) s378 [U c]=some (B true,[]):=by
 rw [evFun_evB rfl]
 unfold s378
 rcases h with rfl | rfl
 ·simp -implicitDefEqProofs []
 ·simp -implicitDefEqProofs []
abbrev svD (v:Sv):D:= .agg [I v.r,I v.c,I v.p.f,I v.p.b,I v.p.g,U v.u0,U v.u1,I v.sh,B v.o]
set_option maxHeartbeats 4000000 in
theorem sp377 (k:Nat) (g:Gd) (v:Sv) (h1:0≤v.r∧v.r<g.h) (h2:0≤v.c∧v.c<g.w) (h3:PR v.p) (h4:setOk v.u0) (h5:setOk v.u1) (h6:v.sh=0∨v.sh=1):evFun (clOf (modsR tab (k+2)) 3) s377 [gdD g,svD v]=some (B true,[]):=by
 have w1:=fun q=>sp108 q v.p h3
 have w2:=fun q=>sp378 q v.u0 h4
 have w3:=fun q=>sp378 q v.u1 h5
 rw [evFun_evB rfl]
 unfold s377
 rcases h6 with h | h
 ·simp -implicitDefEqProofs [h1.1,h1.2,h2.1,h2.2,cw108,w1,cw378,w2,w3,eq_true h]
 ·have h0:¬v.sh=0:=by omega
  simp -implicitDefEqProofs [h1.1,h1.2,h2.1,h2.2,cw108,w1,cw378,w2,w3,eq_true h,h0]
set_option maxHeartbeats 4000000 in
theorem sp373 (k:Nat) (s:Sc) (o:OkS s) (r:RightS s):evFun (clOf (modsR tab (k+5)) 3) s373 [scD s]=some (B true,[]):=by
 have w1:=fun q=>sp154 q s.g o.g r.g.2 o.h o.w
 have w2:=fun q=>sp377 q s.g s.sv o.srow o.scol r.sp r.u0 r.u1 o.ssh
 have w3:=fun q=>sp377 q s.g ⟨s.row,s.col,s.p,s.s0,s.s1,s.sh,false⟩ o.row o.col r.p r.s0 r.s1 o.sh
 have ht:=o.top
 have hb:=o.bot
 have hh:=o.h
 have hw:=o.w
 have hg:=o.g.1
 have hg2:=o.g.2.2.1
 have hm:=r.mar
 have hp:=r.pend
 rw [evFun_evB rfl]
 unfold s373
 by_cases c1:s.top<s.bot
 ·cases c2:s.pend with
  | false =>
   simp only [scD,scL,c2]
   simp -implicitDefEqProofs [cw154,w1,cw377,w2,w3,ht.1,hb,c1]
  | true =>
   obtain ⟨p1,p2⟩:=hp c2
   simp only [scD,scL,c2,p1]
   simp -implicitDefEqProofs [cw154,w1,cw377,w2,w3,ht.1,hb,c1,wr_id ((s.g.w:Int)-1) (by omega) (by omega),eq_true p2]
 ·obtain ⟨m1,m2,m3⟩:s.g.h=1∧s.top=0∧s.bot=0:=by
   rcases hm with h | h
   ·exact absurd h c1
   ·exact h
  have m1':(s.g.h:Int)=1:=by omega
  cases c2:s.pend with
  | false =>
   simp only [scD,scL,c2]
   simp -implicitDefEqProofs [cw154,w1,cw377,w2,w3,ht.1,hb,eq_false c1,eq_true m1',eq_true m2,eq_true m3]
  | true =>
   obtain ⟨p1,p2⟩:=hp c2
   simp only [scD,scL,c2,p1]
   simp -implicitDefEqProofs [cw154,w1,cw377,w2,w3,ht.1,hb,eq_false c1,wr_id ((s.g.w:Int)-1) (by omega) (by omega),eq_true p2,eq_true m1',eq_true m2,eq_true m3]
end Go.Proofs.YtlpchliomdomdaaGreat.LgTab
namespace Go.Proofs.YtlpchliomdomdaaGreat.LgTab
open Go Lg
set_option linter.unusedVariables false
set_option linter.unusedSimpArgs false
set_option maxRecDepth 8000
theorem atS_right {s:Sc} (r:RightS s) (a b:Int):RightS (atS s a b):=⟨r.g,r.p,r.sp,r.s0,r.s1,r.u0,r.u1,r.mar,fun h=>by cases h⟩
def SameBut (s t:Sc):Prop:=t={s with row:=t.row,col:=t.col,pend:=t.pend}
theorem SameBut.trans {s t u:Sc} (h:SameBut s t) (k:SameBut t u):SameBut s u:=by
 unfold SameBut at *
 rw [k,h]
theorem moveS_is {s:Sc} (e:Ev):(∃ a b,moveS s e=atS s a b)∨(∃ a b c d,moveS s e=atS (atS s a b) c d):=by
 unfold moveS
 simp only
 repeat' split
 all_goals first | exact .inl ⟨_,_,rfl⟩ | exact .inr ⟨_,_,_,_,rfl⟩
theorem moveS_right {s:Sc} (r:RightS s) (e:Ev):RightS (moveS s e):=by
 rcases moveS_is (s:=s) e with ⟨a,b,h⟩ | ⟨a,b,c,d,h⟩<;>rw [h]
 ·exact atS_right r _ _
 ·exact atS_right (atS_right r _ _) _ _
end Go.Proofs.YtlpchliomdomdaaGreat.LgTab
namespace Go.Proofs.YtlpchliomdomdaaGreat.LgTab
open Go Lg
set_option linter.unusedVariables false
set_option linter.unusedSimpArgs false
set_option maxRecDepth 8000
theorem rowL_setRow_ne {g:Gd} (o:OkG g) {r y:Nat} (hr:r<g.h) (hy:y<g.h) (hne:y≠r) (l:List Cel) (hl:l.length=g.w):rowL (setRow g r l) y=rowL g y:=by
 obtain ⟨_,_,_,a5,a6⟩:=row_nums o hr
 obtain ⟨_,_,_,b5,b6⟩:=row_nums o hy
 have hlen:=o.2.2.2.2
 apply List.ext_getElem?
 intro i
 have at':∀ G:Gd,(rowL G y)[i]? = if i<G.w then G.cells[rowOff G y+i]? else none:=fun G=>by
  show ((G.cells.drop (rowOff G y)).take G.w)[i]? = _
  rw [List.getElem?_take]
  split
  ·rw [List.getElem?_drop]
  ·rfl
 rw [at',at']
 have hw:(setRow g r l).w=g.w:=rfl
 rw [hw,rowOff_w hw]
 split
 ·rename_i hi
  show (g.cells.take (rowOff g r)++l++g.cells.drop (rowOff g r+g.w))[rowOff g y+i]? = _
  have ha:rowOff g r+g.w≤g.cells.length:=by
   rw [rowOff_def,hlen]
   have:=Nat.mul_le_mul_right g.w (show r+1≤g.h by omega)
   rw [Nat.add_mul,Nat.one_mul] at this
   exact this
  rcases Nat.lt_or_ge y r with hlt | hge
  ·have h1:rowOff g y+g.w≤rowOff g r:=by
    rw [rowOff_def,rowOff_def]
    have:=Nat.mul_le_mul_right g.w (show y+1≤r by omega)
    rw [Nat.add_mul,Nat.one_mul] at this
    exact this
   generalize rowOff g r=A at *
   generalize rowOff g y=B at *
   rw [List.append_assoc,List.getElem?_append_left (by simp;omega),List.getElem?_take_of_lt (by omega)]
  ·have h1:rowOff g r+g.w≤rowOff g y:=by
    rw [rowOff_def,rowOff_def]
    have:=Nat.mul_le_mul_right g.w (show r+1≤y by omega)
    rw [Nat.add_mul,Nat.one_mul] at this
    exact this
   generalize rowOff g r=A at *
   generalize rowOff g y=B at *
   rw [List.getElem?_append_right (by simp;omega),List.getElem?_drop]
   congr 1
   simp
   omega
 ·rfl
end Go.Proofs.YtlpchliomdomdaaGreat.LgTab
namespace Go.Proofs.YtlpchliomdomdaaGreat.LgTab
open Go Lg
set_option linter.unusedVariables false
set_option linter.unusedSimpArgs false
set_option maxRecDepth 8000
def RightRow (l:List Cel):Prop:=∀ i x,l[i]? = some x→RowFit l i x
theorem RightG.row {g:Gd} (h:RightG g) {r:Nat} (hr:r<g.h):RightRow (rowL g r):=fun i x hx=>RightL.row h.1 h.2 hr hx
theorem mendL_get {l:List Cel} {i:Nat} {x:Cel} (h:l[i]? = some x):(mendL l)[i]? = some (if halfB l i then blankC x.p else x):=by
 unfold mendL
 rw [List.getElem?_mapIdx,h]
 rfl
theorem wipeRow_get {l:List Cel} {i:Nat} {x:Cel} (a b:Nat) (p:Pn) (h:l[i]? = some x):(wipeRow l a b p)[i]? = some (if a≤i∧i<b then blankC p else x):=by
 unfold wipeRow
 rw [List.getElem?_mapIdx,h]
 rfl
theorem rowL_wipeG {g:Gd} (o:OkG g) {r:Nat} (hr:r<g.h) (a b:Int) (p:Pn):rowL (wipeG g r a b p) r=mendL (wipeRow (rowL g r) (mxI a 0).toNat (max (mxI a 0) (mnI b g.w)).toNat p):=by
 unfold wipeG
 exact rowL_setRow o hr (by rw [mendL_len,wipeRow_len,rowL_len o hr])
theorem rowL_wipeG_ne {g:Gd} (o:OkG g) {r y:Nat} (hr:r<g.h) (hy:y<g.h) (h:y≠r) (a b:Int) (p:Pn):rowL (wipeG g r a b p) y=rowL g y:=by
 unfold wipeG
 exact rowL_setRow_ne o hr hy h _ (by rw [mendL_len,wipeRow_len,rowL_len o hr])
theorem rowL_lineG_ne {g:Gd} (o:OkG g) {r y:Nat} (hr:r<g.h) (hy:y<g.h) (h:y≠r) (c:Nat) (what:Int) (p:Pn):rowL (lineG g r c what p) y=rowL g y:=by
 unfold lineG
 repeat' split
 ·exact rowL_wipeG_ne o hr hy h _ _ _
 ·exact rowL_wipeG_ne o hr hy h _ _ _
 ·exact rowL_wipeG_ne o hr hy h _ _ _
 ·rfl
theorem rowL_erTo {g:Gd} (o:OkG g) {r:Nat} (hr:r<g.h) (c:Nat) (what:Int) (p:Pn) {y:Nat} (hy:y<g.h) (hne:y≠r):∀ i,i≤g.h →
  rowL (erTo g r c what p i) y=if y<i∧erIn what r y=true then mendL (wipeRow (rowL g y) 0 g.w p) else rowL g y
 | 0,_=>by
  rw [if_neg (by omega)]
  exact rowL_lineG_ne o hr hy hne c what p
 | i+1,hi=>by
  obtain ⟨o1,e1,e2,e3⟩:=erTo_ok o hr c what p i (by omega)
  have ih:=rowL_erTo o hr c what p hy hne i (by omega)
  have hri:i<(erTo g r c what p i).h:=by omega
  have hyi:y<(erTo g r c what p i).h:=by omega
  unfold erTo
  by_cases he:erIn what r i=true
  ·rw [if_pos he]
   by_cases hyy:y=i
   ·subst hyy
    rw [rowL_wipeG o1 hri,ih,if_neg (by omega),if_pos ⟨by omega,he⟩]
    have b1:(mxI 0 0).toNat=0:=rfl
    have b2:(max (mxI 0 0) (mnI (g.w:Int) ((erTo g r c what p y).w:Int))).toNat=g.w:=by
     rw [e2]
     unfold mxI mnI
     simp
    rw [b1,b2]
   ·rw [rowL_wipeG_ne o1 hri hyi hyy,ih]
    by_cases h2:y<i∧erIn what r y=true
    ·rw [if_pos h2,if_pos ⟨by omega,h2.2⟩]
    ·rw [if_neg h2,if_neg (fun h=>h2 ⟨by omega,h.2⟩)]
  ·rw [if_neg he,ih]
   by_cases h2:y<i∧erIn what r y=true
   ·rw [if_pos h2,if_pos ⟨by omega,h2.2⟩]
   ·rw [if_neg h2,if_neg]
    rintro ⟨h3,h4⟩
    have:y≠i:=fun h=>he (h▸h4)
    exact h2 ⟨by omega,h4⟩
theorem rowL_erTo_self {g:Gd} (o:OkG g) {r:Nat} (hr:r<g.h) (c:Nat) (what:Int) (p:Pn):∀ i,i≤g.h→rowL (erTo g r c what p i) r=rowL (lineG g r c what p) r
 | 0,_=>rfl
 | i+1,hi=>by
  obtain ⟨o1,e1,e2,e3⟩:=erTo_ok o hr c what p i (by omega)
  have ih:=rowL_erTo_self o hr c what p i (by omega)
  unfold erTo
  by_cases he:erIn what r i=true
  ·rw [if_pos he]
   have hne:r≠i:=by
    rintro rfl
    simp [erIn] at he
   rw [rowL_wipeG_ne o1 (by omega) (by omega) hne,ih]
  ·rw [if_neg he,ih]
def goneJ (r c:Nat) (what:Int) (y i:Nat):Prop:=(what=0∧(r<y∨y=r∧c≤i))∨(what=1∧(y<r∨y=r∧i≤c))∨what=2
instance (r c:Nat) (what:Int) (y i:Nat):Decidable (goneJ r c what y i):=by unfold goneJ;infer_instance
end Go.Proofs.YtlpchliomdomdaaGreat.LgTab
namespace Go.Proofs.YtlpchliomdomdaaGreat.LgTab
open Go Lg
set_option linter.unusedVariables false
set_option linter.unusedSimpArgs false
set_option maxRecDepth 8000
def letC (k i:Nat):Cel:=⟨if i<k then 97+((i % 26:Nat):Int) else 32,0,plainP⟩
def fullN (w k:Nat):Nat:=(k-1) / w
def firstN (h w k:Nat):Nat:=fullN w k+1-h
structure TextS (h w k:Nat) (s:Sc):Prop where
 ok:OkS s
 gh:s.g.h=h
 gw:s.g.w=w
 top:s.top=0
 bot:s.bot=(h:Int)-1
 wrap:s.wrap=true
 sh:s.sh=0
 s0:s.s0=66
 p:s.p=plainP
 row:s.row=((fullN w k-firstN h w k:Nat):Int)
 col:s.col=if 0<k∧k % w=0 then (w:Int)-1 else ((k % w:Nat):Int)
 pend:s.pend=decide (0<k∧k % w=0)
 cells:∀ r,r<h→rowL s.g r=(List.range w).map fun c=>letC k ((firstN h w k+r)*w+c)
structure TextP (h w k:Nat) (s:Sc):Prop where
 ok:OkS s
 gh:s.g.h=h
 gw:s.g.w=w
 top:s.top=0
 bot:s.bot=(h:Int)-1
 wrap:s.wrap=true
 sh:s.sh=0
 s0:s.s0=66
 p:s.p=plainP
 row:s.row=((k / w-firstN h w (k+1):Nat):Int)
 col:s.col=((k % w:Nat):Int)
 cells:∀ r,r<h→rowL s.g r=(List.range w).map fun c=>letC k ((firstN h w (k+1)+r)*w+c)
def letX (k:Nat):Int:=97+((k % 26:Nat):Int)
structure FlatS (h w k:Nat) (s:Sc):Prop where
 ok:OkS s
 gh:s.g.h=h
 gw:s.g.w=w
 wrap:s.wrap=false
 sh:s.sh=0
 s0:s.s0=66
 row:s.row=0
 col:s.col=((min k (w-1):Nat):Int)
 cell:0<k→∃ x,(rowL s.g 0)[min k w-1]? = some x∧x.r=letX (k-1)
 flat:∀ (i:Nat) (x:Cel),(rowL s.g 0)[i]? = some x→x.k=0
end Go.Proofs.YtlpchliomdomdaaGreat.LgTab
